/- What the proof leans on, gathered. -/
import Derived.Orders
import Derived.Laws.Entries
import Derived.Test.YtlafaaeecnifcaaGreatDoorProg
import Derived.Test.YtlafaaeecnifcaaGreatDoorZJ1
namespace Go.Proofs.YtlafaaeecnifcaaGreatDoor
open Act renaming put->ZcZ,eval->Zel
open BitVec renaming toNat_ofNat->ZaZ,ofInt->ZbG
open Bool renaming and_eq_true->Zr,not_eq_true'->YD,or_eq_true->Za1,and_true->Zbo,true_and->ZbM,false_or->Zdy
open Comes renaming of_steps->Zdi
open Frame renaming enter->Zdj
open Int renaming toNat->Zh,toNat_natCast->Zv,le_refl->ZQ,eq_ofNat_of_zero_le->Z6,tdiv->Z7,tmod_eq_emod_of_nonneg->YR,tmod->YT,tdiv_eq_ediv_of_nonneg->Zax,fdiv->ZbO,reducePow->ZcO,emod_nonneg->Zee
open IntKind renaming wrap->Zi,signed->ZaK,bits->Za4
open List renaming getD_eq_getElem?_getD->Zp,length_append->Zw,getElem?_eq_getElem->Zy,mem_cons_self->ZC,mem_cons_of_mem->ZF,length_map->ZN,getElem?_take->ZO,getElem?_eq_none->ZU,length_take->ZW,mem_append_right->Z0,range->Z2,map_cons->Z4,getElem?_append_left->Z5,getElem?_append_right->Z8,getElem?_map->Ya,append_assoc->Yb,mem_append_left->Yc,length_singleton->Yd,length_cons->Yf,mem_map_of_mem->Yj,cons_append->Ym,map_congr_left->Yr,nil_append->YA,replicate->YH,all_eq_true->YK,getElem?_drop->YL,append_nil->YV,map_append->YW,ext_getElem?->YX,mem_singleton->Y0,getElem?_range->Y4,getElem?_set->Y8,getElem?_cons_zero->Zag,getElem?_cons_succ->Zah,getElem?_toArray->Zap,take_append_drop->Zaq,map_nil->Zar,length_eraseIdx->Zau,getElem_mem->ZaB,length_drop->ZaV,append_of_mem->ZaY,mem_append->Za0,sublist_append_left->Za7,nodup_nil->Zbc,pairwise_cons->Zbi,mem_cons->Zbn,mem_map->ZbD,map_map->ZbF,all_cons->Zcd,mem_of_getElem?->Zcf,zip_cons_cons->Zct,mem_of_mem_eraseIdx->ZcN,getElem?_replicate->ZcV,mem_filter->Zc2,perm_append_comm->Zc8,countP_cons->ZdY,any_eq_true->ZdZ,zip_append->Zec
open List.Pairwise renaming nil->Zal
open List.Perm renaming refl->Zbu
open List.cons renaming injEq->Zaa
open Nat renaming eq_of_beq_eq_true->Zo,le_refl->Zq,zero_add->Zu,beq->ZE,ble->ZL,not_lt_zero->ZP,zero_le->Z9,ble_eq_true_of_le->Ys,add_zero->Yu,lt_or_ge->Yy,eq_zero_or_pos->Yz,min_eq_left->YM,le_of_ble_eq_true->Zao,add_sub_cancel_left->ZaL,mod_eq_of_lt->ZaX,beq_refl->Zbk,lt_of_le_of_lt->Zcu,two_pow_pos->Zc4,div_le_self->Zed
open OldOk renaming self->ZdA
open Oper renaming looksAt->ZdL
open Option renaming map_some->YF,getD_some->Y5,bind_some->ZaW
open Option.some renaming injEq->Zn,inj->YP
open Prod.mk renaming injEq->ZT
open Region renaming wanted->Y7,ready->Zb2
open Result renaming andThen_ok->ZD
open SA renaming c->Zt,a->Zz,den->Y2
open SB renaming cells->Zj,rows->Zk
open SV renaming o->ZG,t->ZS,den->Zci,av_den->Zcp
open Sem renaming run_bind->Zx,run_pure->ZZ
open Value renaming int->ZA,nilIface->ZM
open _root_.Array renaming getD_eq_getD_getElem?->YO,getElem?_setIfInBounds_ne->Zaj,replicate->Zak,getElem?_setIfInBounds_self_of_lt->ZaD,size_setIfInBounds->Za8,getElem?_eq_getElem->ZbI,all_eq_true->ZdM
set_option linter.unusedVariables false
set_option maxRecDepth 100000
set_option maxHeartbeats 8000000
section
open Go.RowKit
def SC.ren (f:Nat->Nat):SC->SC
 |.p b off=>.p (f b) off
 |.e b off ix=>.e (f b) off ix
 |.s b off n c=>.s (f b) off n c
 |.i t b off=>.i t (f b) off
 |.o b n c=>.o (f b) n c
 |.er b sz ix g=>.er (f b) sz ix g
 |.so b lo sz n c nn=>.so (f b) lo sz n c nn
 |.fn g cs=>.fn g (cs.map λq=>(f q.1,q.2))
 |.m b=>.m (f b)
 |x=>x
def Seg.ren (f:Nat->Nat):Seg->Seg
 |.one x=>.one (x.ren f)
 |s=>s
def SA.ren (f:Nat->Nat):SA->SA
 |.c x=>.c (x.ren f)
 |.a l=>.a (l.map (Seg.ren f))
def SV.ren (f:Nat->Nat):SV->SV
 |.o x=>.o (x.ren f)
 |.t l=>.t (l.map (SA.ren f))
def SB.ren (f:Nat->Nat):SB->SB
 |.cells l t=>.cells (l.map (Seg.ren f)) t
 |b=>b
theorem SC.ren_den (ρ:Nat->Nat) (f:Nat->Nat) (x:SC):(x.ren f).den ρ=x.den (λi=>ρ (f i)):=by
 cases x with
 |fn g cs=>simp only[SC.ren,SC.den,ZbF];rfl
 |_=>rfl
theorem Qfm (ρ:Nat->Nat) (f:Nat->Nat):∀(l:List Seg),Qh ρ (l.map (Seg.ren f))=Qh (λi=>ρ (f i)) l
 |[]=>rfl
 |.one x::r=>by simp only[Z4,Qh,Seg.ren,Seg.den,SC.ren_den,Qfm ρ f r]
 |.ints k n g::r=>by simp only[Z4,Qh,Seg.ren,Seg.den,Qfm ρ f r]
theorem SA.ren_den (ρ:Nat->Nat) (f:Nat->Nat) (x:SA):(x.ren f).den ρ=x.den (λi=>ρ (f i)):=by
 cases x with
 |c x=>exact SC.ren_den ρ f x
 |a l=>simp only[SA.ren,Y2,Qfm]
theorem SV.ren_den (ρ:Nat->Nat) (f:Nat->Nat) (x:SV):(x.ren f).den ρ=x.den (λi=>ρ (f i)):=by
 cases x with
 |o x=>exact SA.ren_den ρ f x
 |t l=>simp only[SV.ren,Zci,ZbF];congr 2;exact Yr λy _=>SA.ren_den ρ f y
theorem SB.ren_den (ρ:Nat->Nat) (f:Nat->Nat) (i:Nat) (x:SB):denB ρ (f i) (x.ren f)=denB (λi=>ρ (f i)) i x:=by
 cases x with
 |cells l t=>simp only[SB.ren,denB,Qfm]
 |_=>rfl
def ofL (π:List Nat):Nat->Nat:=λi=>π.getD i 0
structure PCon where
 pre:List SA->Prop
 val:List SA->SV
 two:List SA->Option (Bool × SV)
structure MCon where
 σ:Type
 χ:Type
 pre:σ->Prop
 args:σ->List SA
 mem:σ->List SB
 ok:σ->χ->Prop
 val:σ->χ->SV
 mem':σ->χ->List SB
 k:Nat
 len:Nat
 det:Option χ
 find:List SA->List SB->Option (List Nat)
structure RCon where
 σ:Type
 χ:Type
 pre:σ->Prop
 args:σ->List SA
 mem:σ->List SB
 ok:σ->χ->Prop
 val:σ->χ->SV
 new:σ->χ->List SB
 len:Nat
 det:Option χ
 find:List SA->List SB->Option (List Nat)
inductive Con where
 |pure (c:PCon)
 |mem (c:MCon)
 |rd (c:RCon)
 |inl (fn:Func) (c:Code)
def PCon.out (c:PCon) (args:List SA):SV:=match c.two args with
 |none=>c.val args
 |some (b,v)=>bif b then c.val args else v
abbrev Gam:=List (Nat × Con)
def lkG:Gam->Nat->Option Con
 |[],_=>none
 |(t,i)::r,u=>bif t.beq u then some i else lkG r u
def isNo {α:Type}:Option α->Bool
 |none=>true
 |some _=>false
def QqF (args:List SA):Con->Bool
 |.mem c=>!isNo (c.find args [])
 |.rd c=>!isNo (c.find args [])
 |_=>true
def lkG1:Gam->Nat->List SA->Option Con
 |[],_,_=>none
 |(t,i)::r,u,a=>bif t.beq u&&QqF a i then some i else lkG1 r u a
def lkGA (Γ:Gam) (u:Nat) (a:List SA):Option Con:=match lkG1 Γ u a with
 |some c=>some c
 |none=>lkG Γ u
def Con.holdsAt (P:Program) (w0:World) (S:Nat->Prop) (f:FuncId):Con->Prop
 |.pure c=>Qbt P f=true/\∀(ρ:Nat->Nat) (args:List SA) (w:World),c.pre args->Kept S w0 w ->
  Calls P f (args.map (Y2 ρ)).toArray w λe w'=>e=.returned ((c.out args).den ρ)/\Below w.heap.size w w'
 |.mem c=>Qbt P f=true/\(∀x0,c.det=some x0->∀s x,x=x0/\c.ok s x0)/\∀(ρ:Nat->Nat) (s:c.σ) (w:World),c.pre s->Kept S w0 w->Mem w (feet (denM ρ 0 (c.mem s))) (denM ρ 0 (c.mem s)) w ->
  Calls P f ((c.args s).map (Y2 ρ)).toArray w λe w'=>∃x ρ',c.ok s x/\(∀i,i<c.k->ρ' i=ρ i)/\(c.mem' s x).length=c.len/\e=.returned ((c.val s x).den ρ')/\Mem w (feet (denM ρ 0 (c.mem s))) (denM ρ' 0 (c.mem' s x)) w'
 |.rd c=>Qbt P f=true/\(∀x0,c.det=some x0->∀s x,x=x0/\c.ok s x0)/\∀(ρ:Nat->Nat) (s:c.σ) (w:World),c.pre s->Kept S w0 w->(∀e∈denM ρ 0 (c.mem s),e.at w) ->
  Calls P f ((c.args s).map (Y2 ρ)).toArray w λe w'=>∃x ρ',c.ok s x/\(∀i,i<(c.mem s).length->ρ' i=ρ i)/\(c.new s x).length=c.len/\e=.returned ((c.val s x).den ρ')/\Mem w (λ_=>False) (denM ρ' (c.mem s).length (c.new s x)) w'
 |.inl fn c=>Qbt P f=true/\P.funcs[f]?=some fn/\fn.body=some c
def GamOk (P:Program) (w0:World) (S:Nat->Prop) (Γ:Gam):Prop:=∀f a c,lkGA Γ f a=some c->c.holdsAt P w0 S f
theorem GamOk.nil (P:Program) (w0:World) (S:Nat->Prop):GamOk P w0 S []:=λ_ _ _ h=>by simp[lkGA,lkG1,lkG]at h
theorem GamOk.cons {P:Program}{w0:World}{S:Nat->Prop}{f:Nat}{c:Con}{Γ:Gam}(h:c.holdsAt P w0 S f) (hΓ:GamOk P w0 S Γ):GamOk P w0 S ((f,c)::Γ):=λu a j hj=>by
 unfold lkGA at hj
 simp only[lkG1,lkG]at hj
 cases hw:(f.beq u&&QqF a c)
 . rw[hw]at hj
   simp only[cond_false]at hj
   cases h1:lkG1 Γ u a with
   |some d=>
    rw[h1]at hj
    exact hΓ u a j (by unfold lkGA;rw[h1];exact hj)
   |none=>
    rw[h1]at hj
    dsimp only at hj
    cases hb:f.beq u
    . rw[hb]at hj
      exact hΓ u a j (by unfold lkGA;rw[h1];exact hj)
    . rw[hb]at hj
      have:=Zo hb
      subst this
      simp only[cond_true,Zn]at hj;subst hj;exact h
 . rw[hw]at hj
   simp only[Zr]at hw
   have:=Zo hw.1
   subst this
   simp only[cond_true,Zn]at hj;subst hj;exact h
def Con.holds (P:Program) (f:FuncId) (c:Con):Prop:=∀w0 S,c.holdsAt P w0 S f
def XO (nx:Nat):Nat->List Nat
 |0=>[]
 |n+1=>nx::XO (nx+1) n
def nodB:List Nat->Bool
 |[]=>true
 |b::r=>r.all (λc=>!c.beq b)&&nodB r
theorem Qar {l:List Nat}(h:nodB l=true):l.Nodup:=by
 induction l with
 |nil=>exact Zbc
 |cons b r ih=>
  simp only[nodB,Zr,YK]at h
  refine List.nodup_cons.2 ⟨λhb=>?_,ih h.2⟩
  have:=h.1 b hb
  simp at this
def QaZ (n:Nat):List Nat->Bool
 |[]=>true
 |b::r=>b.blt n&&QaZ n r
def Qmn {α:Type}:Nat->List α->List α
 |0,_=>[]
 |_,[]=>[]
 |n+1,b::r=>b::Qmn n r
def Qp6 {α:Type}:Nat->List α->List α
 |0,l=>l
 |_,[]=>[]
 |n+1,_::r=>Qp6 n r
def Qjy:Nat->List SB
 |0=>[]
 |n+1=>.gone::Qjy n
def zipB:List Nat->List SB->Ups
 |b::r,x::s=>(b,x)::zipB r s
 |_,_=>[]
def Xj (p:Nat->Bool):List SB->Bool
 |[]=>true
 |b::r=>b.av p&&Xj p r
def conW (c:MCon) (π:List Nat) (nx:Nat):List Nat:=π++XO nx (c.len-c.k)
def QjF (c:MCon) (π:List Nat) (nx:Nat):List Nat:=Qmn c.k π++XO nx (c.len-c.k)
def conB (c:MCon) (π:List Nat) (nx:Nat) (m:List SB):List SB:=
 (Qmn c.k m++(Qjy (π.length-c.k)++Qp6 c.k m)).map (SB.ren (ofL (QjF c π nx)))
def rwE (Γ:Gam) (M:List SB):Eff->List Nat × List Nat × Bool
 |.eff T _ _ us=>(T,us.map (·.1),false)
 |.any _ T _ _ _ W _=>(T,W,true)
 |.call f args=>match lkGA Γ f args with
  |some (.mem c)=>match c.find args M with
   |some π=>([],conW c π M.length,isNo c.det)
   |none=>([],[],true)
  |some (.rd c)=>match c.find args M with
   |some π=>(π,XO M.length c.len,isNo c.det)
   |none=>([],[],true)
  |_=>([],[],false)
 |.no=>([],[],false)
def Qew (o:Oper):Prop:=False
def Qcc (Γ:Gam) (M:List SB) (o:Oper) (K:SV->Ups->Prop):Eff->Prop
 |.eff T vc x us=>Qmh vc (bif nodB (us.map (·.1))then K x us else False)
 |.any χ T vc ok x W bs=>Qmh vc (bif nodB W then ∀c:χ,ok c->K (x c) (zipB W (bs c))else False)
 |.call f args=>match lkGA Γ f args with
  |some (.pure c)=>c.pre args/\match c.two args with
   |none=>K (c.val args) []
   |some (b,v)=>bif b then K (c.val args) []else K v []
  |some (.mem c)=>match c.find args M with
   |some π=>bif nodB π&&QaZ M.length π&&c.k.ble π.length&&c.k.ble c.len then
    ∃s:c.σ,args=(c.args s).map (SA.ren (ofL π))/\π.map (getB M)=(c.mem s).map (SB.ren (ofL π))/\c.pre s /\
     ∀x:c.χ,c.ok s x->bif (c.mem' s x).length.beq c.len&&Xj (sc c.len) (c.mem' s x)&&(c.val s x).av (sc c.len)then K ((c.val s x).ren (ofL (QjF c π M.length))) (zipB (conW c π M.length) (conB c π M.length (c.mem' s x)))else False else False
   |none=>Qew o
  |some (.rd c)=>match c.find args M with
   |some π=>bif QaZ M.length π then
    ∃s:c.σ,args=(c.args s).map (SA.ren (ofL π))/\π.map (getB M)=(c.mem s).map (SB.ren (ofL π))/\c.pre s /\
     ∀x:c.χ,c.ok s x->bif (c.new s x).length.beq c.len&&Xj (sc (π.length+c.len)) (c.new s x)&&(c.val s x).av (sc (π.length+c.len))then
      K ((c.val s x).ren (ofL (π++XO M.length c.len))) (zipB (XO M.length c.len) ((c.new s x).map (SB.ren (ofL (π++XO M.length c.len)))))else False else False
   |none=>Qew o
  |some (.inl fn c)=>Qew o
  |none=>Qew o
 |.no=>Qew o
def Does (P:Program) (r:Result Next) (K:Value->World->Prop):Prop:=match r with
 |.ok (.value v) w'=>K v w'
 |.ok .skip w'=>K undef w'
 |.ok (.enter f args) w'=>Calls P f args w' λe w''=>∃v,e=.returned v/\K v w''
 |_=>False
theorem Does.mono {P:Program}{r:Result Next}{K K':Value->World->Prop}(h:Does P r K) (hk:∀v w,K v w->K' v w):Does P r K':=by
 unfold Does at h ⊢
 split at h
 . exact hk _ _ h
 . exact hk _ _ h
 . exact h.mono λe w'' ⟨v,he,hv⟩=>⟨v,he,hk _ _ hv⟩
 . exact h.elim
theorem Qeu {P:Program}{o:Oper}{a:Act}{w:World}{next:Act->World->Prop}{Q:Exit->Act->World->Prop}(h:Does P ((execOp a.eval o).run P w) (λv w'=>next (a.put o.dst v) w')):o.wp P a w next Q:=by
 unfold Oper.wp
 generalize (execOp a.eval o).run P w=r at h
 unfold Does at h
 split at h
 . exact h
 . exact h
 . exact h.mono λe w'' ⟨v,he,hv⟩=>by subst he;exact hv
 . exact h.elim
theorem Does.of_res {P:Program}{w w':World}{r:Sem Next}{v:Value}{K:Value->World->Prop}(h:Res P w r v w') (hk:K v w'):Does P (r.run P w) K:=by
 obtain⟨n,hr,hn⟩:=h
 rw[hr]
 rcases hn with rfl|⟨rfl,rfl⟩
 . exact hk
 . exact hk
theorem QcV:∀(W:List Nat) (bs:List SB),bs.length=W.length->(zipB W bs).map (·.1)=W
 |[],_,_=>rfl
 |b::r,[],h=>by simp at h
 |b::r,x::s,h=>by simp only[zipB,Z4];rw[QcV r s (by simpa using h)]
theorem QcU:∀(W:List Nat) (bs:List SB),zipB W bs=W.zip bs
 |[],_=>by simp[zipB]
 |b::r,[]=>rfl
 |b::r,x::s=>by simp only[zipB,Zct,QcU r s]
theorem Qb9 {α:Type}:∀(n:Nat) (l:List α),Qmn n l=l.take n
 |0,l=>by cases l<;>rfl
 |n+1,[]=>rfl
 |n+1,b::r=>by simp only[Qmn,List.take_succ_cons,Qb9 n r]
theorem Qfq {α:Type}:∀(n:Nat) (l:List α),Qp6 n l=l.drop n
 |0,l=>by cases l<;>rfl
 |n+1,[]=>rfl
 |n+1,b::r=>by simp only[Qp6,List.drop_succ_cons,Qfq n r]
theorem Qbr:∀(n nx:Nat),(XO nx n).length=n/\∀i,i<n->(XO nx n)[i]?=some (nx+i)
 |0,nx=>⟨rfl,λi h=>Za⟩
 |n+1,nx=>by
  obtain⟨h1,h2⟩:=Qbr n (nx+1)
  refine⟨by simp[XO,h1],λi hi=>?_⟩
  cases i with
  |zero=>rfl
  |succ i=>simp only[XO,Zah,h2 i Za];congr 1;omega
theorem QbW {n nx b:Nat}(h:b∈XO nx n):nx<=b/\b<nx+n:=by
 induction n generalizing nx with
 |zero=>simp[XO]at h
 |succ n ih=>
  simp only[XO,Zbn]at h
  rcases h with rfl|h
  . omega
  . have:=ih h;omega
theorem Qal:∀(n nx:Nat),(XO nx n).Nodup
 |0,_=>Zbc
 |n+1,nx=>List.nodup_cons.2 ⟨λh=>by have:=(QbW h).1;omega,Qal n (nx+1)⟩
theorem zip3 (π fr:List Nat) (k:Nat) (A G B:List SB) (hA:A.length=k) (hk:k<=π.length) (hG:G.length=π.length-k):
 (π++fr).zip (A++(G++B))=(π.take k).zip A++((π.drop k).zip G++fr.zip B):=by
 have e:π++fr=π.take k++(π.drop k++fr):=by rw[<- Yb,Zaq]
 rw[e,Zec (by simp;omega),Zec (by simp;omega)]
theorem Qd5:∀n,(Qjy n).length=n
 |0=>rfl
 |n+1=>by simp[Qjy,Qd5 n]
theorem QaT {n:Nat}:∀ {l:List Nat},QaZ n l=true->∀b∈l,b<n
 |[],_,b,h=>by simp at h
 |c::r,h,b,hb=>by
  simp only[QaZ,Zr]at h
  rcases List.mem_cons.1 hb with rfl|hb
  . exact Xv h.1
  . exact QaT h.2 b hb
theorem QdJ (ρ:Nat->Nat):∀(us vs:Ups),denU ρ (us++vs)=denU ρ us++denU ρ vs
 |[],_=>rfl
 |(b,x)::r,vs=>by simp only[Ym,denU,QdJ ρ r vs,Yb]
theorem QiN (ρ:Nat->Nat) (f:Nat->Nat):∀(W:List Nat) (n:Nat),denU ρ (W.zip ((Qjy n).map (SB.ren f)))=[]
 |[],_=>by simp[denU]
 |b::r,0=>by simp[Qjy,denU]
 |b::r,n+1=>by simp only[Qjy,Z4,Zct,denU,SB.ren,denB,QiN ρ f r n,YA]
theorem Qfs {ρ ρ':Nat->Nat}{f:Nat->Nat}{n:Nat}(hf:∀i,i<n->ρ (f i)=ρ' i):∀(m:List SB) (W:List Nat) (k:Nat),(∀i,i<m.length->W[i]?=some (f (k+i)))->k+m.length<=n->Xj (sc n) m=true ->
 denU ρ (W.zip (m.map (SB.ren f)))=denM ρ' k m
 |[],W,k,_,_,_=>by simp[denU,denM]
 |x::r,[],k,h,_,_=>by have:=h 0 (by simp);simp at this
 |x::r,b::W,k,h,hn,ha=>by
  have h0:=h 0 (by simp)
  simp only[Zag,Zn,Yu]at h0
  subst h0
  simp only[Yf]at hn
  simp only[Xj,Zr]at ha
  simp only[Z4,Zct,denU,denM]
  rw[SB.ren_den,SB.av_den (p:=sc n) (ρ:=ρ') (ρ':=λi=>ρ (f i)) (λi hi=>hf i (Xv hi)) (show sc n k=true from QaS Za) ha.1,
   Qfs hf r W (k+1) (λi hi=>by have:=h (i+1) (by simpa using hi);rw[Zah]at this;rw[this];congr 2;omega) Za ha.2]
theorem Qig {p:Nat->Bool}:∀ {l m:List SB},Xj p (l++m)=(Xj p l&&Xj p m)
 |[],m=>by simp[Xj]
 |b::r,m=>by simp only[Ym,Xj,Qig (l:=r),Bool.and_assoc]
theorem Qft (ρ:Nat->Nat):∀(l m:List SB) (k:Nat),denM ρ k (l++m)=denM ρ k l++denM ρ (k+l.length) m
 |[],m,k=>by simp[denM]
 |b::r,m,k=>by simp only[Ym,denM,Qft ρ r m (k+1),Yf,Yb];congr 3;omega
theorem Qc8 {ρ:Nat->Nat}{M:List SB}:∀(π:List Nat) (m:List SB) (f:Nat->Nat) (k:Nat),(∀i,i<π.length->π[i]?=some (f (k+i)))->π.map (getB M)=m.map (SB.ren f)->denT ρ M π=denM (λi=>ρ (f i)) k m
 |[],m,f,k,_,h=>by
  have:m=[]:=by cases m<;>simp_all
  subst this;rfl
 |b::r,[],f,k,_,h=>by simp at h
 |b::r,x::s,f,k,hp,h=>by
  simp only[Z4,Zaa]at h
  have h0:=hp 0 (by simp)
  simp only[Zag,Zn,Yu]at h0
  simp only[denT,denM]
  rw[h.1,h0,SB.ren_den,Qc8 r s f (k+1) (λi hi=>by have:=hp (i+1) (by simpa using hi);rw[Zah]at this;rw[this];congr 2;omega) h.2]
section
variable {P:Program}{V w0 w:World}{S:Nat->Prop}{ρ:Nat->Nat}{M:List SB}{Γ:Gam}{o:Oper}{K:SV->Ups->Prop}{r:Sem Next}
def Left (P:Program) (ρ:Nat->Nat) (M:List SB) (w:World) (r:Sem Next) (W:List Nat) (K:SV->Ups->Prop):Prop:=
 Does P (r.run P w) λv w'=>∃x us ρ',K x us/\us.map (·.1)=W/\W.Nodup/\(∀i,(i<M.length\/i∉W)->ρ' i=ρ i)/\v=x.den ρ'/\Mem w (feet (denT ρ M W)) (denU ρ' us) w'
theorem Qhb (hΓ:GamOk P w0 S Γ) (hK:Kept S w0 w) {e:Eff}(hE:XW P V ρ M M.length w r e) (hR:∀b∈(rwE Γ M e).1,∀x∈denB ρ b (getB M b),x.at w) (hW:Mem w (feet (denT ρ M (rwE Γ M e).2.1)) (denT ρ M (rwE Γ M e).2.1) w)
 (h:Qcc Γ M o K e):Left P ρ M w r (rwE Γ M e).2.1 K:=by
 cases e with
 |eff T vc x us=>
  simp only[Qcc]at h
  obtain⟨h1,h2⟩:=Qbe.1 h
  cases hn:nodB (us.map (·.1))
  . rw[hn]at h2;exact h2.elim
  . rw[hn]at h2
    obtain⟨w',ρ',g1,g2,g3⟩:=hE hR hW h1
    exact Does.of_res g2 ⟨x,us,ρ',h2,rfl,Qar hn,g1,rfl,g3⟩
 |any χ T vc ok x W bs=>
  simp only[Qcc]at h
  obtain⟨h1,h2⟩:=Qbe.1 h
  cases hn:nodB W
  . rw[hn]at h2;exact h2.elim
  . rw[hn]at h2
    obtain⟨c,hc,hl,w',ρ',g1,g2,g3⟩:=hE hR hW h1
    have hz:=QcV W (bs c) hl
    rw[QcU]at hz
    rw[hz]at g1 g3
    exact Does.of_res g2 ⟨x c,zipB W (bs c),ρ',h2 c hc,by rw[QcU];exact hz,Qar hn,g1,rfl,by rw[QcU];exact g3⟩
 |call f args=>
  simp only[Qcc]at h
  cases hl:lkGA Γ f args with
  |none=>rw[hl]at h;exact h.elim
  |some c=>
   rw[hl]at h
   have hc:=hΓ f args c hl
   cases c with
   |inl fn c=>exact h.elim
   |pure c=>
    obtain⟨hen,hc⟩:=hc
    have hr:=hE hen
    dsimp only at h
    have hw:(rwE Γ M (.call f args)).2.1=[]:=by simp only[rwE,hl]
    rw[hw]
    unfold Left
    rw[hr]
    refine (hc ρ args w h.1 hK).mono ?_
    rintro e w' ⟨rfl,hb⟩
    refine⟨_,rfl,c.out args,[],ρ,?_,rfl,Zbc,λ_ _=>rfl,rfl,⟨Kept.of_below hb,by simp[denU],by simp[denU],Zal⟩⟩
    have h2:=h.2
    unfold PCon.out
    cases ht:c.two args with
    |none=>rw[ht]at h2;exact h2
    |some bv=>
     obtain⟨b,v⟩:=bv
     rw[ht]at h2
     cases b<;>exact h2
   |rd c=>
    obtain⟨hen,hdet,hc⟩:=hc
    have hr:=hE hen
    dsimp only at h
    cases hp:c.find args M with
    |none=>rw[hp]at h;exact h.elim
    |some π=>
     rw[hp]at h
     dsimp only at h
     cases hck:QaZ M.length π
     . rw[hck]at h;exact h.elim
     . rw[hck]at h
       simp only[cond_true]at h
       have k2:=QaT hck
       obtain⟨s,ha,hm,hpre,hK2⟩:=h
       have hw:(rwE Γ M (.call f args)).2.1=XO M.length c.len:=by simp only[rwE,hl,hp]
       have hrd:(rwE Γ M (.call f args)).1=π:=by simp only[rwE,hl,hp]
       rw[hrd]at hR
       rw[hw]at hW ⊢
       have hfr:denT ρ M (XO M.length c.len)=[]:=by
        rw[Qbu]
        exact List.flatMap_eq_nil_iff.2 λb hb=>by rw[Qd7 M b (QbW hb).1];rfl
       have hml:(c.mem s).length=π.length:=by have:=congrArg List.length hm;simpa using this.symm
       have hmem:denT ρ M π=denM (λi=>ρ (ofL π i)) 0 (c.mem s):=Qc8 π (c.mem s) (ofL π) 0 (λi hi=>by
        rw[Zu,Zy hi];simp[ofL,Zp,hi]) hm
       have hcall:=hc (λi=>ρ (ofL π i)) s w hpre hK (λe he=>by
        rw[<- hmem,Qbu,List.mem_flatMap]at he
        obtain⟨b,hb,he⟩:=he
        exact hR b hb e he)
       have hargs:((c.args s).map (Y2 λi=>ρ (ofL π i)))=args.map (Y2 ρ):=by
        rw[ha,ZbF];exact Yr λy _=>(SA.ren_den ρ (ofL π) y).symm
       rw[hargs]at hcall
       unfold Left
       rw[hr]
       refine hcall.mono ?_
       rintro e w' ⟨x,ρc,hok,hag,hlen,rfl,HM⟩
       have hK3:=hK2 x hok
       cases hsc:((c.new s x).length.beq c.len&&Xj (sc (π.length+c.len)) (c.new s x)&&(c.val s x).av (sc (π.length+c.len)))
       . rw[hsc]at hK3;exact hK3.elim
       . rw[hsc]at hK3
         simp only[cond_true]at hK3
         simp only[Zr]at hsc
         obtain⟨f1,f2⟩:=Qbr c.len M.length
         let ρ2:Nat->Nat:=λj=>if M.length<=j/\j<M.length+c.len then ρc (π.length+(j-M.length))else ρ j
         have hold:∀j,j<M.length->ρ2 j=ρ j:=λj hj=>Ze Za
         have hpi:∀i,i<π.length+c.len->ρ2 (ofL (π++XO M.length c.len) i)=ρc i:=by
          intro i hi
          unfold ofL
          rw[Zp]
          by_cases h1:i<π.length
          . rw[Z5 h1,Zy h1]
            simp only[Y5]
            rw[hold _ (k2 _ (ZaB h1)),hag i Za]
            simp[ofL,Zp,h1]
          . rw[Z8 Za,f2 _ Za]
            simp only[Y5]
            show (if M.length<=M.length+(i-π.length)/\M.length+(i-π.length)<M.length+c.len then ρc (π.length+(M.length+(i-π.length)-M.length))else _)=_
            rw[Zf Za];congr 1;omega
         have hval:((c.val s x).ren (ofL (π++XO M.length c.len))).den ρ2=(c.val s x).den ρc:=by
          rw[SV.ren_den]
          exact Zcp (p:=sc (π.length+c.len)) (λi hi=>hpi i (Xv hi)) hsc.2
         refine⟨_,rfl,_,_,ρ2,hK3,QcV _ _ (by rw[ZN,hlen,f1]),Qal _ _,?_,hval.symm,?_⟩
         . intro i hi
           rcases hi with hi|hi
           . exact hold i hi
           . refine Ze (λhh=>hi ?_)
             refine Zcf (f2 (i-M.length) Za |>.trans ?_)
             congr 1;omega
         . rw[hfr,QcU,Qfs hpi (c.new s x) _ π.length (λi hi=>by
            rw[f2 i Za]
            unfold ofL
            rw[Zp,Z8 Za,show π.length+i-π.length=i by omega,f2 i Za];rfl) Za hsc.1.2,<- hml]
           exact HM.subset (λ_ h=>h.elim)
   |mem c=>
    obtain⟨hen,hdet,hc⟩:=hc
    have hr:=hE hen
    dsimp only at h
    cases hp:c.find args M with
    |none=>rw[hp]at h;exact h.elim
    |some π=>
     rw[hp]at h
     dsimp only at h
     cases hck:(nodB π&&QaZ M.length π&&c.k.ble π.length&&c.k.ble c.len)
     . rw[hck]at h;exact h.elim
     . rw[hck]at h
       simp only[cond_true]at h
       simp only[Zr]at hck
       obtain⟨⟨⟨k1,k2⟩,k3⟩,k4⟩:=hck
       have k3:=XZ k3
       have k4:=XZ k4
       have k2:=QaT k2
       have k1:=Qar k1
       obtain⟨s,ha,hm,hpre,hK2⟩:=h
       have hw:(rwE Γ M (.call f args)).2.1=conW c π M.length:=by simp only[rwE,hl,hp]
       rw[hw]at hW ⊢
       have hfr:∀b,b∈XO M.length (c.len-c.k)->denB ρ b (getB M b)=[]:=λb hb=>by rw[Qd7 M b (QbW hb).1];rfl
       have hTW:denT ρ M (conW c π M.length)=denT ρ M π:=by
        have:∀(l m:List Nat),(∀b∈m,denB ρ b (getB M b)=[])->denT ρ M (l++m)=denT ρ M l:=by
         intro l m hm
         rw[Qbu,Qbu,List.flatMap_append]
         have:m.flatMap (λb=>denB ρ b (getB M b))=[]:=List.flatMap_eq_nil_iff.2 hm
         rw[this,YV]
        exact this _ _ hfr
       have hmem:denT ρ M π=denM (λi=>ρ (ofL π i)) 0 (c.mem s):=Qc8 π (c.mem s) (ofL π) 0 (λi hi=>by
        rw[Zu,Zy hi];simp[ofL,Zp,hi]) hm
       rw[hTW,hmem]at hW
       have hcall:=hc (λi=>ρ (ofL π i)) s w hpre hK hW
       have hargs:((c.args s).map (Y2 λi=>ρ (ofL π i)))=args.map (Y2 ρ):=by
        rw[ha,ZbF];exact Yr λy _=>(SA.ren_den ρ (ofL π) y).symm
       rw[hargs]at hcall
       unfold Left
       rw[hr]
       refine hcall.mono ?_
       rintro e w' ⟨x,ρc,hok,hag,hlen,rfl,HM⟩
       have hK3:=hK2 x hok
       cases hsc:((c.mem' s x).length.beq c.len&&Xj (sc c.len) (c.mem' s x)&&(c.val s x).av (sc c.len))
       . rw[hsc]at hK3;exact hK3.elim
       . rw[hsc]at hK3
         simp only[cond_true]at hK3
         simp only[Zr]at hsc
         replace hsc:=And.intro hsc.1.2 hsc.2
         obtain⟨f1,f2⟩:=Qbr (c.len-c.k) M.length
         let ρ2:Nat->Nat:=λj=>if M.length<=j/\j<M.length+(c.len-c.k)then ρc (c.k+(j-M.length))else ρ j
         have hold:∀j,j<M.length->ρ2 j=ρ j:=λj hj=>Ze Za
         have hpi:∀i,i<c.len->ρ2 (ofL (QjF c π M.length) i)=ρc i:=by
          intro i hi
          unfold ofL QjF
          rw[Qb9,Zp]
          by_cases h1:i<c.k
          . rw[Z5 (by rw[ZW];omega),ZO,Zf h1]
            have hi2:i<π.length:=Za
            rw[Zy hi2]
            simp only[Y5]
            rw[hold _ (k2 _ (ZaB hi2)),hag i h1]
            simp[ofL,Zp,hi2]
          . rw[Z8 (by rw[ZW];omega),ZW,YM k3,f2 _ Za]
            simp only[Y5]
            show (if M.length<=M.length+(i-c.k)/\M.length+(i-c.k)<M.length+(c.len-c.k)then ρc (c.k+(M.length+(i-c.k)-M.length))else _)=_
            rw[Zf Za];congr 1;omega
         have hbl:(conB c π M.length (c.mem' s x)).length=(conW c π M.length).length:=by
          unfold conB conW
          rw[Qb9,Qfq]
          simp only[ZN,Zw,ZW,ZaV,Qd5,hlen,f1]
          omega
         have hval:((c.val s x).ren (ofL (QjF c π M.length))).den ρ2=(c.val s x).den ρc:=by
          rw[SV.ren_den]
          exact Zcp (p:=sc c.len) (λi hi=>hpi i (Xv hi)) hsc.2
         refine⟨_,rfl,_,_,ρ2,hK3,QcV _ _ hbl,?_,?_,hval.symm,?_⟩
         . unfold conW
           refine List.nodup_append.2 ⟨k1,?_,λa ha b hb=>?_⟩
           . exact Qal _ _
           . have:=k2 a ha;have:=(QbW hb).1;omega
         . intro i hi
           rcases hi with hi|hi
           . exact hold i hi
           . refine Ze (λhh=>hi ?_)
             unfold conW
             refine Z0 _ (Zcf (f2 (i-M.length) Za |>.trans ?_))
             congr 1;omega
         . have e1:denU ρ2 (zipB (conW c π M.length) (conB c π M.length (c.mem' s x)))=denM ρc 0 (c.mem' s x):=by
            rw[QcU]
            unfold conW conB
            rw[Qb9,Qfq]
            have hsplit:π=π.take c.k++π.drop c.k:=(Zaq _ _).symm
            have hm':c.mem' s x=(c.mem' s x).take c.k++(c.mem' s x).drop c.k:=(Zaq _ _).symm
            have hav:=hsc.1
            rw[hm',Qig,Zr]at hav
            rw[YW,YW,zip3 π _ c.k _ _ _ (by simp;omega) k3 (by simp[Qd5])]
            rw[QdJ,QdJ,QiN,YA]
            rw[Qfs hpi ((c.mem' s x).take c.k) _ 0 (λi hi=>by
             rw[ZW]at hi
             rw[Zu,ZO,Zf Za]
             unfold ofL QjF
             rw[Qb9,Zp,Z5 (by rw[ZW];omega),ZO,Zf Za,Zy Za];rfl) (by rw[ZW];omega) hav.1]
            rw[Qfs hpi ((c.mem' s x).drop c.k) _ c.k (λi hi=>by
             rw[ZaV]at hi
             rw[f2 i Za]
             unfold ofL QjF
             rw[Qb9,Zp,Z8 (by rw[ZW];omega),ZW,YM k3,show c.k+i-c.k=i by omega,f2 i Za];rfl) (by rw[ZaV];omega) hav.2]
            conv=>rhs;rw[hm']
            rw[Qft,ZW,hlen,YM k4,Zu]
           rw[e1,hTW,hmem]
           exact HM
 |no=>exact h.elim
theorem QgT {c:MCon}{π:List Nat}(k1:π.Nodup) (k2:∀b∈π,b<M.length):(conW c π M.length).Nodup:=
 List.nodup_append.2 ⟨k1,Qal _ _,λa ha b hb=>by have:=k2 a ha;have:=(QbW hb).1;omega⟩
theorem Qmt (hΓ:GamOk P w0 S Γ) {e:Eff}(hb:(rwE Γ M e).2.2=false) (h:Qcc Γ M o K e):∃x us,K x us/\us.map (·.1)=(rwE Γ M e).2.1/\(us.map (·.1)).Nodup/\Qcc Γ M o (λx' us'=>x'=x/\us'=us) e:=by
 cases e with
 |eff T vc x us=>
  simp only[Qcc]at h ⊢
  obtain⟨h1,h2⟩:=Qbe.1 h
  cases hn:nodB (us.map (·.1))
  . rw[hn]at h2;exact h2.elim
  . rw[hn]at h2
    exact⟨x,us,h2,rfl,Qar hn,Qbe.2 ⟨h1,rfl,rfl⟩⟩
 |any χ T vc ok x W bs=>simp[rwE]at hb
 |call f args=>
  simp only[Qcc,rwE]at h hb ⊢
  cases hl:lkGA Γ f args with
  |none=>rw[hl]at h;exact h.elim
  |some c=>
   rw[hl]at h hb
   have hc:=hΓ f args c hl
   cases c with
   |inl fn c=>exact h.elim
   |pure c=>
    dsimp only at h ⊢
    refine⟨c.out args,[],?_,rfl,Zbc,h.1,?_⟩
    . have h2:=h.2
      unfold PCon.out
      cases ht:c.two args with
      |none=>rw[ht]at h2;exact h2
      |some bv=>
       obtain⟨b,v⟩:=bv
       rw[ht]at h2
       cases b<;>exact h2
    . unfold PCon.out
      cases ht:c.two args with
      |none=>exact⟨rfl,rfl⟩
      |some bv=>
       obtain⟨b,v⟩:=bv
       cases b<;>exact⟨rfl,rfl⟩
   |rd c=>
    obtain⟨-,hdet,-⟩:=hc
    dsimp only at h hb ⊢
    cases hp:c.find args M with
    |none=>rw[hp]at h;exact h.elim
    |some π=>
     rw[hp]at h hb
     dsimp only at h hb ⊢
     cases hd:c.det with
     |none=>rw[hd]at hb;cases hb
     |some x0=>
      cases hck:QaZ M.length π
      . rw[hck]at h;exact h.elim
      . rw[hck]at h
        simp only[cond_true]at h ⊢
        obtain⟨s,ha,hm,hpre,hK2⟩:=h
        obtain⟨-,hok⟩:=hdet x0 hd s x0
        have hK3:=hK2 x0 hok
        cases hsc:((c.new s x0).length.beq c.len&&Xj (sc (π.length+c.len)) (c.new s x0)&&(c.val s x0).av (sc (π.length+c.len)))
        . rw[hsc]at hK3;exact hK3.elim
        . rw[hsc]at hK3
          have hlen:(c.new s x0).length=c.len:=by
           simp only[Zr]at hsc
           exact Zo hsc.1.1
          have hz:(zipB (XO M.length c.len) ((c.new s x0).map (SB.ren (ofL (π++XO M.length c.len))))).map (·.1)=XO M.length c.len:=QcV _ _ (by
           rw[ZN,hlen,(Qbr _ _).1])
          refine⟨_,_,hK3,hz,by rw[hz];exact Qal _ _,s,ha,hm,hpre,λx hx=>?_⟩
          . obtain⟨rfl,-⟩:=hdet x0 hd s x
            rw[hsc];exact⟨rfl,rfl⟩
   |mem c=>
    obtain⟨-,hdet,-⟩:=hc
    dsimp only at h hb ⊢
    cases hp:c.find args M with
    |none=>rw[hp]at h;exact h.elim
    |some π=>
     rw[hp]at h hb
     dsimp only at h hb ⊢
     cases hd:c.det with
     |none=>rw[hd]at hb;cases hb
     |some x0=>
      cases hck:(nodB π&&QaZ M.length π&&c.k.ble π.length&&c.k.ble c.len)
      . rw[hck]at h;exact h.elim
      . rw[hck]at h
        simp only[cond_true]at h ⊢
        obtain⟨s,ha,hm,hpre,hK2⟩:=h
        obtain⟨-,hok⟩:=hdet x0 hd s x0
        have hK3:=hK2 x0 hok
        cases hsc:((c.mem' s x0).length.beq c.len&&Xj (sc c.len) (c.mem' s x0)&&(c.val s x0).av (sc c.len))
        . rw[hsc]at hK3;exact hK3.elim
        . rw[hsc]at hK3
          have hlen:(c.mem' s x0).length=c.len:=by
           simp only[Zr]at hsc
           exact Zo hsc.1.1
          simp only[Zr]at hck
          have k3:=XZ hck.1.2
          have k4:=XZ hck.2
          have hz:(zipB (conW c π M.length) (conB c π M.length (c.mem' s x0))).map (·.1)=conW c π M.length:=QcV _ _ (by
           unfold conB conW
           rw[Qb9,Qfq]
           simp only[ZN,Zw,ZW,ZaV,Qd5,hlen,(Qbr _ _).1]
           omega)
          refine⟨_,_,hK3,hz,by rw[hz];exact QgT (Qar hck.1.1.1) (QaT hck.1.1.2),s,ha,hm,hpre,λx hx=>?_⟩
          . obtain⟨rfl,-⟩:=hdet x0 hd s x
            rw[hsc];exact⟨rfl,rfl⟩
 |no=>exact h.elim
theorem QfF {e:Eff}(h:Qcc Γ M o K e):(rwE Γ M e).2.1.Nodup:=by
 cases e with
 |eff T vc x us=>
  simp only[Qcc]at h
  obtain⟨h1,h2⟩:=Qbe.1 h
  cases hn:nodB (us.map (·.1))
  . rw[hn]at h2;exact h2.elim
  . exact Qar hn
 |any χ T vc ok x W bs=>
  simp only[Qcc]at h
  obtain⟨h1,h2⟩:=Qbe.1 h
  cases hn:nodB W
  . rw[hn]at h2;exact h2.elim
  . exact Qar hn
 |call f args=>
  simp only[Qcc,rwE]at h ⊢
  cases hl:lkGA Γ f args with
  |none=>rw[hl]at h;exact h.elim
  |some c=>
   rw[hl]at h
   cases c with
   |inl fn c=>exact h.elim
   |pure c=>exact Zbc
   |rd c=>
    dsimp only at h ⊢
    cases hp:c.find args M with
    |none=>rw[hp]at h;exact h.elim
    |some π=>exact Qal _ _
   |mem c=>
    dsimp only at h ⊢
    cases hp:c.find args M with
    |none=>rw[hp]at h;exact h.elim
    |some π=>
     rw[hp]at h
     dsimp only at h ⊢
     cases hck:(nodB π&&QaZ M.length π&&c.k.ble π.length&&c.k.ble c.len)
     . rw[hck]at h;exact h.elim
     . simp only[Zr]at hck
       exact QgT (Qar hck.1.1.1) (QaT hck.1.1.2)
 |no=>exact h.elim
end
end
section
open Go.RowKit
def Qir:List Oper->Nat->Option Oper
 |[],_=>none
 |o::_,0=>some o
 |_::r,n+1=>Qir r n
theorem Qc2:∀(l:List Oper) (n:Nat),Qir l n=l[n]?
 |[],_=>rfl
 |_::_,0=>rfl
 |_::r,n+1=>Qc2 r n
def QgN (all:List Oper):Option (Nat × Bool)->Option (Option (Nat × Bool))
 |none=>some none
 |some (j,want)=>match Qir all j with
  |some p=>match p.dst with
   |some t=>some (some (t,want))
   |none=>none
  |none=>none
def putS (d:Option Tmp) (x:SV) (env:Env):Env:=match d with
 |some d=>(d,x)::env
 |none=>env
def Qgw (nt:Nat):Option Tmp->Bool
 |some d=>d.blt nt
 |none=>true
theorem EnvOk.putS {ρ:Nat->Nat}{nt:Nat}{env:Env}{a:Act}(h:EnvOk ρ nt env a) {d:Option Tmp}(hd:Qgw nt d=true) (x:SV):EnvOk ρ nt (putS d x env) (a.put d (x.den ρ)):=by
 cases d with
 |none=>exact h
 |some d=>exact h.put (Xv hd) x
theorem QbF {ρ:Nat->Nat}{nt:Nat}{env:Env}{a:Act}(h:EnvOk ρ nt env a) {all:List Oper}{o:Oper}{g:Option (Nat × Bool)}(hg:QgN all o.guard=some g):
 (g=none->Y7 o (yielded all.toArray a.tmps)=true)/\(∀t want b,g=some (t,want)->lk env t=some (sv (.bool b))->Y7 o (yielded all.toArray a.tmps)=(b==want))/\∀t want u,g=some (t,want)->lk env t=some (sv (.tuple u))->Y7 o (yielded all.toArray a.tmps)=false:=by
 unfold QgN at hg
 unfold Y7
 cases ho:o.guard with
 |none=>
  rw[ho]at hg
  simp only[Zn]at hg;subst hg
  exact⟨λ_=>rfl,λt want b e=>(by cases e),λt want u e=>(by cases e)⟩
 |some jw=>
  obtain⟨j,want⟩:=jw
  rw[ho]at hg
  dsimp only at hg
  cases hn:Qir all j with
  |none=>rw[hn]at hg;cases hg
  |some p=>
   rw[hn]at hg
   dsimp only at hg
   cases hp:p.dst with
   |none=>rw[hp]at hg;cases hg
   |some t=>
    rw[hp]at hg
    simp only[Zn]at hg;subst hg
    have h2:(all.toArray[j]?)=some p:=by rw[Zap,<- Qc2];exact hn
    refine⟨λe=>(by cases e),λt' want' b e hl=>?_,λt' want' u e hl=>?_⟩
    . simp only[Zn,ZT]at e
      obtain⟨rfl,rfl⟩:=e
      have h1:=h.get t _ hl
      have:yielded all.toArray a.tmps j=some b:=by
       unfold yielded
       rw[h2]
       simp only[ZaW,hp,h1];rfl
      simp only[this]
      cases b<;>cases want<;>rfl
    . simp only[Zn,ZT]at e
      obtain⟨rfl,rfl⟩:=e
      have h1:=h.get t _ hl
      have:yielded all.toArray a.tmps j=none:=by
       unfold yielded
       rw[h2]
       simp only[ZaW,hp,h1];rfl
      simp only[this]
      rfl
def QbI (e:Edge):Bool:=match e.ground with
 |.textOnly _=>false
 |.gcOnly _=>false
 |_=>true
theorem Qi1 (e:Edge):Region.binds .any e=QbI e:=by
 unfold Region.binds QbI;cases e.ground<;>rfl
def memN (i:Nat):List Nat->Bool
 |[]=>false
 |j::r=>i.beq j||memN i r
theorem XI {i:Nat}:∀ {l:List Nat},memN i l=true↔i∈l
 |[]=>by simp[memN]
 |j::r=>by simp[memN,XI (l:=r)]
def uniN:List Nat->List Nat->List Nat
 |[],m=>m
 |i::r,m=>bif memN i m then uniN r m else uniN r (i::m)
theorem Qg8 {i:Nat}:∀ {l m:List Nat},i∈uniN l m↔i∈l\/i∈m
 |[],m=>by simp[uniN]
 |j::r,m=>by
  simp only[uniN]
  cases h:memN j m
  . simp only[cond_false,Qg8 (l:=r),Zbn]
    constructor
    . rintro (h|rfl|h)
      . exact .inl (.inr h)
      . exact .inl (.inl rfl)
      . exact .inr h
    . rintro ((rfl|h)|h)
      . exact .inr (.inl rfl)
      . exact .inl h
      . exact .inr (.inr h)
  . simp only[cond_true,Qg8 (l:=r),Zbn]
    have:=XI.1 h
    constructor
    . rintro (h|h)
      . exact .inl (.inr h)
      . exact .inr h
    . rintro ((rfl|h)|h)
      . exact .inr this
      . exact .inl h
      . exact .inr h
def nthL:List (List Nat)->Nat->List Nat
 |[],_=>[]
 |l::_,0=>l
 |_::r,n+1=>nthL r n
def befE (acc:List (List Nat)):List Edge->List Nat
 |[]=>[]
 |e::r=>bif QbI e then uniN (e.on::nthL acc e.on) (befE acc r)else befE acc r
def QcR:List (List Nat)->List Oper->List (List Nat)
 |acc,[]=>acc
 |acc,o::r=>QcR (acc++[befE acc o.after.toList]) r
def bef (all:List Oper) (i:Nat):List Nat:=nthL (QcR [] all) i
def Qfe (all:List Oper) (L:Nat->Bool):Prop:=∀j o,all[j]?=some o->L j=true->∀e∈o.after,QbI e=true->L e.on=true
theorem Qc3:∀(l:List (List Nat)) (i:Nat),nthL l i=(l[i]?).getD []
 |[],_=>rfl
 |_::_,0=>rfl
 |_::r,i+1=>by simp only[nthL,Zah,Qc3 r i]
theorem QhY {acc:List (List Nat)}{j:Nat}:∀ {es:List Edge},j∈befE acc es->∃e∈es,QbI e=true/\(j=e.on\/j∈nthL acc e.on)
 |[],h=>by simp[befE]at h
 |e::r,h=>by
  simp only[befE]at h
  cases hb:QbI e
  . rw[hb]at h
    obtain⟨e',h1,h2⟩:=QhY (es:=r) h
    exact⟨e',ZF _ h1,h2⟩
  . rw[hb]at h
    rw[cond_true,Qg8]at h
    rcases h with h|h
    . exact⟨e,ZC,hb,List.mem_cons.1 h⟩
    . obtain⟨e',h1,h2⟩:=QhY (es:=r) h
      exact⟨e',ZF _ h1,h2⟩
theorem Qgi {all:List Oper}{L:Nat->Bool}(hL:Qfe all L):∀(l:List Oper) (acc:List (List Nat)),(∀j,l[j]?=all[acc.length+j]?) ->
 (∀k o,k<acc.length->all[k]?=some o->(∀e∈o.after,QbI e=true->L e.on=true)->∀j∈nthL acc k,L j=true) ->
 ∀k o,all[k]?=some o->(∀e∈o.after,QbI e=true->L e.on=true)->∀j∈nthL (QcR acc l) k,L j=true
 |[],acc,hl,hacc=>λk o ho he j hj=>by
  simp only[QcR]at hj
  by_cases hk:k<acc.length
  . exact hacc k o hk ho he j hj
  . rw[Qc3,ZU Za]at hj;simp at hj
 |o::r,acc,hl,hacc=>by
  simp only[QcR]
  refine Qgi hL r _ (λj=>?_) (λk p hk hp he j hj=>?_)
  . have:=hl (j+1)
    rw[Zah]at this
    rw[this,Zw,Yd];congr 1;omega
  . rw[Zw,Yd]at hk
    by_cases h:k<acc.length
    . rw[Qc3,Z5 h,<- Qc3]at hj
      exact hacc k p h hp he j hj
    . obtain rfl:k=acc.length:=Za
      have h0:=hl 0
      rw[Yu,hp]at h0
      simp only[Zag,Zn]at h0
      subst h0
      rw[Qc3,Z8 (Zq _)]at hj
      simp only[Nat.sub_self,Zag,Y5]at hj
      obtain⟨e,h1,h2,h3⟩:=QhY hj
      have hLe:=he e (by simpa using h1) h2
      rcases h3 with rfl|h3
      . exact hLe
      . by_cases hlt:e.on<acc.length
        . cases ho:all[e.on]? with
          |none=>
           exfalso
           have h4:all.length<=e.on:=by
            rcases Yy e.on all.length with h|h
            . rw[Zy h]at ho;cases ho
            . exact h
           have:=(List.getElem?_eq_some_iff.1 hp).1
           omega
          |some q=>exact hacc e.on q hlt ho (λe' he' hb'=>hL e.on q ho hLe e' he' hb') j h3
        . rw[Qc3,ZU Za]at h3;simp at h3
theorem Qen {all:List Oper}{L:Nat->Bool}(hL:Qfe all L) {i:Nat}{o:Oper}(ho:all[i]?=some o) (he:∀e∈o.after,QbI e=true->L e.on=true):∀j∈bef all i,L j=true:=
 Qgi hL all [] (λj=>by simp) (λk o hk=>by simp at hk) i o ho he
theorem Qdh {all:List Oper}{L:Nat->Bool}(hL:Qfe all L) {i j:Nat}{o:Oper}(ho:all[i]?=some o) (hi:L i=true) (hj:j∈bef all i):L j=true:=
 Qen hL ho (λe he hb=>hL i o ho hi e he hb) j hj
structure HX where
 i:Nat
 R:List Nat
 W:List Nat
 f:List Nat
 bar:Bool
def QiM:List Nat->List Nat->Bool
 |[],_=>true
 |i::r,m=>!memN i m&&QiM r m
theorem QaG:∀ {l m:List Nat},QiM l m=true->∀i∈l,i∉m
 |[],_,_,i,h=>by simp at h
 |j::r,m,h,i,hi=>by
  simp only[QiM,Zr,YD]at h
  rcases List.mem_cons.1 hi with rfl|hi
  . intro hm;rw[XI.2 hm]at h;exact absurd h.1 (by simp)
  . exact QaG h.2 i hi
def Qix (x y:HX):Bool:=QiM x.W y.R&&QiM x.W y.W&&QiM y.W x.R
def looksL (all:List Oper) (o:Oper):List Nat:=o.looksAt all.toArray
def dstL (o:Oper):List Nat:=match o.dst with
 |some t=>[t]
 |none=>[]
def Qid (all:List Oper) (B:List (List Nat)):Bool:=
 (Z2 all.length).all λi=>match Qir all i with
  |none=>false
  |some o=>(match o.op with | .select _ _=>false|_=>true)&&o.after.toList.all (λe=>!QbI e||e.on.blt i)&&(Z2 all.length).all λj=>i.beq j||match Qir all j with
   |none=>false
   |some p=>QiM (dstL p) (dstL o)&&(QiM (dstL p) (looksL all o)||(memN j (nthL B i)||memN i (nthL B j)))
def QbC (B:List (List Nat)):List HX->Bool
 |[]=>true
 |y::r=>r.all (λx=>!x.i.beq y.i && !memN y.i (nthL B x.i)&&(memN x.i (nthL B y.i)||Qix x y))&&QbC B r
def Qqw (n:Nat) (B:List (List Nat)):List HX->Bool
 |[]=>true
 |x::r=>(bif x.bar then (Z2 n).all (λj=>memN j (x.i::r.map (·.i))||memN x.i (nthL B j))else true)&&Qqw n B r
def refsB (N0:Nat) (B:List (List Nat)) (h:List HX) (x:HX):Bool:=
 x.f.all λb=>b.blt N0||memN b x.W||h.any (λy=>memN y.i (nthL B x.i)&&memN b y.W)
def chkB (N0:Nat) (all:List Oper) (h:List HX):Bool:=
 let B:=QcR [] all
 Qid all B&&QbC B h&&Qqw all.length B h&&h.all (refsB N0 B h)&&h.all (λx=>x.i.blt all.length)
def QjA (fn:Func) (id:Nat) (ops:Array Oper) (N0:Nat) (h:List HX):Prop:=chkB N0 ops.toList h=true
theorem Qd {fn:Func}{id:Nat}{ops:Array Oper}{N0:Nat}{h:List HX}(e:chkB N0 ops.toList h=true):QjA fn id ops N0 h:=e
def isBar (Γ:Gam) (o:Oper):Bool:=match o.op with
 |.call c=>match c.callee with
  |.builtin .append=>true
  |.value (.func f)=>match lkG Γ f with
   |some (.mem c)=>isNo c.det
   |some (.rd c)=>isNo c.det
   |_=>false
  |_=>false
 |_=>false
def Qox (Γ:Gam):Nat->List Oper->List Nat
 |_,[]=>[]
 |i,o::r=>bif isBar Γ o then i::Qox Γ (i+1) r else Qox Γ (i+1) r
def Qnx:List Nat->List Nat->Nat
 |[],_=>0
 |i::r,m=>bif memN i m then (Qnx r m).succ else Qnx r m
def levO (B:List (List Nat)) (bars:List Nat) (k:Nat) (wantBar:Bool):List Nat->List Nat
 |[]=>[]
 |i::r=>bif (Qnx bars (nthL B i)).beq k&&(bif wantBar then memN i bars else !memN i bars)then i::levO B bars k wantBar r else levO B bars k wantBar r
def levsO (B:List (List Nat)) (bars idx:List Nat):Nat->Nat->List Nat
 |_,0=>[]
 |k,n+1=>levO B bars k false idx++(levO B bars k true idx++levsO B bars idx (k+1) n)
def upN (i:Nat):Nat->List Nat
 |0=>[]
 |n+1=>i::upN (i+1) n
def QqJ (Γ:Gam) (all:List Oper):List Nat:=
 let bars:=Qox Γ 0 all
 levsO (QcR [] all) bars (upN 0 all.length) 0 bars.length.succ
def SC.refs:SC->List Nat
 |.p b _=>[b]
 |.e b _ _=>[b]
 |.s b _ _ _=>[b]
 |.i _ b _=>[b]
 |.o b _ _=>[b]
 |.er b _ _ _=>[b]
 |.so b _ _ _ _ _=>[b]
 |.fn _ cs=>cs.map (·.1)
 |.m b=>[b]
 |_=>[]
def Qcd:List Seg->List Nat
 |[]=>[]
 |.one x::r=>x.refs++Qcd r
 |_::r=>Qcd r
def SA.refs:SA->List Nat
 |.c x=>x.refs
 |.a l=>Qcd l
def Qjk:List SA->List Nat
 |[]=>[]
 |x::r=>x.refs++Qjk r
def SV.refs:SV->List Nat
 |.o x=>x.refs
 |.t l=>Qjk l
def SB.refs:SB->List Nat
 |.cells l _=>Qcd l
 |_=>[]
def Qay:Ups->List Nat
 |[]=>[]
 |(_,x)::r=>x.refs++Qay r
section
variable (V:World) (T:Tab) (Γ:Gam) (nt:Nat) (next:Env->List SB->Prop) (fn:Func) (id:Nat) (all:List Oper) (N0:Nat)
def drun:List Nat->List HX->Env->List SB->Prop
 |[],h,env,M=>bif h.length.beq all.length then QjA fn id all.toArray N0 h/\next env M else False
 |i::l,h,env,M=>match Qir all i with
  |none=>False
  |some o=>bif Qgw nt o.dst then (match QgN all o.guard with
   |none=>False
   |some g=>
    let go:Env->Prop:=λenv=>
     let e:=XM V T env M M.length o.op
     let rw:=rwE Γ M e
     let k:Prop:=Qcc Γ M o (λx us=>drun l (⟨i,rw.1,rw.2.1,x.refs++Qay us,rw.2.2⟩::h) (putS o.dst x env) (QW M us)) e
     bif rw.2.2 then QjA fn id all.toArray N0 (⟨i,rw.1,rw.2.1,[],true⟩::h)/\k else k
    let skip:Env->Prop:=λenv=>drun l (⟨i,[],[],[],false⟩::h) (putS o.dst (sv undef) env) M
    match g with
    |none=>go env
    |some (t,want)=>match lk env t with
     |some (.o (.c (.v (.bool b))))=>
      bif b then (bif want then go ((t,sv (.bool true))::env)else skip ((t,sv (.bool true))::env))
      else (bif want then skip ((t,sv (.bool false))::env)else go ((t,sv (.bool false))::env))
     |some (.o (.c (.v (.tuple _))))=>skip env
     |_=>False)else False
end
end
section
open Go.RowKit
theorem QiJ {a b:Act}{x:Operand}(h:∀t,x=.tmp t->a.tmps[t]?=b.tmps[t]?):a.eval x=b.eval x:=by
 cases x with
 |tmp t=>
  have:=h t rfl
  simp only[Zel,YO,this]
 |_=>rfl
theorem QfB {ops:Array Oper}{a b:Act}{o:Oper}(h:∀t,t∈o.looksAt ops->a.tmps[t]?=b.tmps[t]?):Y7 o (yielded ops a.tmps)=Y7 o (yielded ops b.tmps):=by
 unfold Y7
 cases hg:o.guard with
 |none=>rfl
 |some gw=>
  obtain⟨g,want⟩:=gw
  have hy:yielded ops a.tmps g=yielded ops b.tmps g:=by
   unfold yielded
   cases ht:(ops[g]?).bind (·.dst)with
   |none=>rfl
   |some t=>
    have:=h t (by simp[ZdL,hg,ht])
    simp only[ZaW,this]
  simp only[hy]
theorem SC.av_refs {p:Nat->Bool}{x:SC}(h:∀b∈x.refs,p b=true):x.av p=true:=by
 cases x with
 |fn f cs=>simp only[SC.av,YK];exact λq hq=>h _ (by simp only[SC.refs,ZbD];exact⟨q,hq,rfl⟩)
 |_=>first|rfl|exact h _ (by simp[SC.refs])
theorem Qce {p:Nat->Bool}:∀ {l:List Seg},(∀b∈Qcd l,p b=true)->QS p l=true
 |[],_=>rfl
 |.one x::r,h=>by
  simp only[Qcd,Za0]at h
  simp only[QS,Zr]
  exact⟨SC.av_refs (λb hb=>h b (.inl hb)),Qce (λb hb=>h b (.inr hb))⟩
 |.ints _ _ _::r,h=>by
  simp only[Qcd]at h
  simp only[QS];exact Qce h
theorem SA.av_refs {p:Nat->Bool}{x:SA}(h:∀b∈x.refs,p b=true):x.av p=true:=by
 cases x with
 |c x=>exact SC.av_refs h
 |a l=>exact Qce (l:=l) h
theorem SV.av_refs {p:Nat->Bool}{x:SV}(h:∀b∈x.refs,p b=true):x.av p=true:=by
 cases x with
 |o x=>exact SA.av_refs h
 |t l=>
  simp only[SV.av]
  induction l with
  |nil=>rfl
  |cons y r ih=>
   simp only[SV.refs,Qjk,Za0]at h ih
   simp only[Zcd,Zr]
   exact⟨SA.av_refs (λb hb=>h b (.inl hb)),ih (λb hb=>h b (.inr hb))⟩
theorem SB.av_refs {p:Nat->Bool}{x:SB}(h:∀b∈x.refs,p b=true):x.av p=true:=by
 cases x with
 |cells l t=>exact Qce (l:=l) h
 |_=>rfl
theorem Qjb {us:Ups}{b c:Nat}{x:SB}(h:(b,x)∈us) (hc:c∈x.refs):c∈Qay us:=by
 induction us with
 |nil=>simp at h
 |cons q r ih=>
  obtain⟨b',y⟩:=q
  simp only[Qay,Za0]
  rcases List.mem_cons.1 h with h|h
  . simp only[ZT]at h;obtain⟨rfl,rfl⟩:=h;exact .inl hc
  . exact .inr (ih h)
structure Hop where
 h:HX
 o:Oper
 x:SV
 us:Ups
def Qgu (M0:List SB):List Hop->List SB
 |[]=>M0
 |h::r=>QW (Qgu M0 r) h.us
def XL (L:Nat->Bool) (M0:List SB):List Hop->List SB
 |[]=>M0
 |h::r=>bif L h.h.i then QW (XL L M0 r) h.us else XL L M0 r
def actT (ρ:Nat->Nat) (a0:Act):List Hop->Act
 |[]=>a0
 |h::r=>(actT ρ a0 r).put h.o.dst (h.x.den ρ)
theorem Qjm (x:SB):∀(M:List SB) (b:Nat),b<(putB M b x).length
 |[],0=>by simp[putB]
 |[],b+1=>by simp only[putB,Yf];have:=Qjm x [] b;omega
 |_::r,0=>by simp[putB]
 |_::r,b+1=>by simp only[putB,Yf];have:=Qjm x r b;omega
theorem QbP:∀(us:Ups) (M:List SB),M.length<=(QW M us).length/\∀b∈us.map (·.1),b<(QW M us).length
 |[],M=>⟨Zq _,by simp⟩
 |(b,x)::r,M=>by
  obtain⟨h1,h2⟩:=QbP r (putB M b x)
  have h3:=(QdV x M b).1
  have h4:=Qjm x M b
  refine⟨by simp only[QW];omega,λc hc=>?_⟩
  simp only[Z4,Zbn]at hc
  simp only[QW]
  rcases hc with rfl|hc
  . omega
  . exact h2 c hc
theorem QdG {us:Ups}{b:Nat}(hb:b∈us.map (·.1)) (hn:(us.map (·.1)).Nodup) (M N:List SB):getB (QW M us) b=getB (QW N us) b:=by
 obtain⟨⟨b',x⟩,hq,rfl⟩:=List.mem_map.1 hb
 rw[XF us M hn hq,XF us N hn hq]
theorem Qc9 {ρ:Nat->Nat}{M M':List SB}(T:List Nat) (h:∀b∈T,getB M' b=getB M b):denT ρ M' T=denT ρ M T:=Qgc T (λb hb=>by rw[h b hb])
theorem Qe6 {ρ:Nat->Nat}{M N:List SB}(h:∀b,getB M b=getB N b):denM ρ 0 M=denM ρ 0 N:=by
 rw[Qda ρ M 0 (max M.length N.length) Za,Qda ρ N 0 (max M.length N.length) Za]
 simp only[h]
section
variable {P:Program}{V w0:World}{S:Nat->Prop}{ρ0:Nat->Nat}{T:Tab}{Γ:Gam}{nt:Nat}{next:Env->List SB->Prop}{fn:Func}{id:Nat}{all:List Oper}{Q:Exit->Act->World->Prop}{a0:Act}{env0:Env}{M0:List SB}
def HopOk (V:World) (T:Tab) (Γ:Gam) (nt:Nat) (all:List Oper) (env:Env) (M:List SB) (h:Hop):Prop:=
 all[h.h.i]?=some h.o/\Qgw nt h.o.dst=true/\h.us.map (·.1)=h.h.W/\(h.us.map (·.1)).Nodup/\(∀b∈h.x.refs++Qay h.us,b∈h.h.f) /\
 ((h.x=sv undef/\h.us=[]/\∀ρ a,EnvOk ρ nt env a->Y7 h.o (yielded all.toArray a.tmps)=false) \/
  ((∀ρ a,EnvOk ρ nt env a->Y7 h.o (yielded all.toArray a.tmps)=true)/\h.h.R=(rwE Γ M (XM V T env M M.length h.o.op)).1/\h.h.W=(rwE Γ M (XM V T env M M.length h.o.op)).2.1 /\
   (h.h.bar=true\/Qcc Γ M h.o (λx' us'=>x'=h.x/\us'=h.us) (XM V T env M M.length h.o.op))))
inductive DP (V:World) (T:Tab) (Γ:Gam) (nt:Nat) (all:List Oper) (env0:Env) (M0:List SB):List Hop->Env->List SB->Prop
 |nil:DP V T Γ nt all env0 M0 [] env0 M0
 |same {hs env M t x}(hd:DP V T Γ nt all env0 M0 hs env M) (hx:lk env t=some x):DP V T Γ nt all env0 M0 hs ((t,x)::env) M
 |op {hs env M h}(hd:DP V T Γ nt all env0 M0 hs env M) (ho:HopOk V T Γ nt all env M h):DP V T Γ nt all env0 M0 (h::hs) (putS h.o.dst h.x env) (QW M h.us)
theorem DP.env {hs:List Hop}{env:Env}{M:List SB}(h:DP V T Γ nt all env0 M0 hs env M) {ρ:Nat->Nat}(hE:EnvOk ρ nt env0 a0):EnvOk ρ nt env (actT ρ a0 hs):=by
 induction h with
 |nil=>exact hE
 |same hd hx ih=>exact ih.same hx
 |op hd ho ih=>exact ih.putS ho.2.1 _
theorem DP.mem {hs:List Hop}{env:Env}{M:List SB}(h:DP V T Γ nt all env0 M0 hs env M):M=Qgu M0 hs:=by
 induction h with
 |nil=>rfl
 |same hd hx ih=>exact ih
 |op hd ho ih=>rw[ih];rfl
theorem DP.split {hs:List Hop}{env:Env}{M:List SB}(h:DP V T Γ nt all env0 M0 hs env M):∀post k pre,hs=post++k::pre->∃env' M',DP V T Γ nt all env0 M0 pre env' M'/\HopOk V T Γ nt all env' M' k:=by
 induction h with
 |nil=>intro post k pre e;cases post<;>simp at e
 |same hd hx ih=>exact ih
 | @op hs env M h hd ho ih=>
   intro post k pre e
   cases post with
   |nil=>
    simp only[YA,Zaa]at e
    obtain⟨rfl,rfl⟩:=e
    exact⟨_,_,hd,ho⟩
   |cons q post=>
    simp only[Ym,Zaa]at e
    exact ih post k pre e.2
theorem DP.allOk {hs:List Hop}{env:Env}{M:List SB}(h:DP V T Γ nt all env0 M0 hs env M):∀k∈hs,all[k.h.i]?=some k.o/\Qgw nt k.o.dst=true/\k.us.map (·.1)=k.h.W/\(k.us.map (·.1)).Nodup/\∀b∈k.x.refs++Qay k.us,b∈k.h.f:=λk hk=>by
 obtain⟨post,pre,e⟩:=ZaY hk
 obtain⟨env',M',-,h1,h2,h3,h4,h5,-⟩:=h.split post k pre e
 exact⟨h1,h2,h3,h4,h5⟩
inductive Front (V:World) (T:Tab) (Γ:Gam) (nt:Nat) (next:Env->List SB->Prop) (fn:Func) (id:Nat) (all:List Oper) (N0:Nat) (hs:List Hop) (env:Env) (M:List SB):Prop
 |fin (hl:hs.length=all.length) (hc:chkB N0 all (hs.map (·.h))=true) (hn:next env M)
 |bar (i:Nat) (o:Oper) (l:List Nat) (ho:all[i]?=some o) (hd:Qgw nt o.dst=true) (hw:∀ρ a,EnvOk ρ nt env a->Y7 o (yielded all.toArray a.tmps)=true)
  (hc:chkB N0 all (⟨i,(rwE Γ M (XM V T env M M.length o.op)).1,(rwE Γ M (XM V T env M M.length o.op)).2.1,[],true⟩::hs.map (·.h))=true)
  (hk:Qcc Γ M o (λx us=>drun V T Γ nt next fn id all N0 l (⟨i,(rwE Γ M (XM V T env M M.length o.op)).1,(rwE Γ M (XM V T env M M.length o.op)).2.1,x.refs++Qay us,true⟩::hs.map (·.h)) (putS o.dst x env) (QW M us)) (XM V T env M M.length o.op))
theorem Qc7 {N0:Nat}(hΓ:GamOk P w0 S Γ):∀(l:List Nat) (hs:List Hop) (env:Env) (M:List SB),DP V T Γ nt all env0 M0 hs env M->drun V T Γ nt next fn id all N0 l (hs.map (·.h)) env M ->
 ∃hs' env' M',DP V T Γ nt all env0 M0 (hs'++hs) env' M'/\Front V T Γ nt next fn id all N0 (hs'++hs) env' M'/\∀h∈hs',h.h.bar=false
 |[],hs,env,M,hd,h=>by
  simp only[drun]at h
  cases hl:(hs.map (·.h)).length.beq all.length
  . rw[hl]at h;exact h.elim
  . rw[hl]at h
    have:=Zo hl
    rw[ZN]at this
    exact⟨[],env,M,hd,.fin this (by have:=h.1;unfold QjA at this;simpa using this) h.2,by simp⟩
 |i::l,hs,env,M,hd,h=>by
  simp only[drun]at h
  cases ho:Qir all i with
  |none=>rw[ho]at h;exact h.elim
  |some o=>
   rw[ho]at h
   rw[Qc2]at ho
   dsimp only at h
   cases hdo:Qgw nt o.dst with
   |false=>rw[hdo]at h;exact h.elim
   |true=>
    rw[hdo]at h
    simp only[cond_true]at h
    cases hg:QgN all o.guard with
    |none=>rw[hg]at h;exact h.elim
    |some g=>
     rw[hg]at h
     dsimp only at h
     have hgo:∀env,DP V T Γ nt all env0 M0 hs env M->(∀ρ a,EnvOk ρ nt env a->Y7 o (yielded all.toArray a.tmps)=true) ->
      (bif (rwE Γ M (XM V T env M M.length o.op)).2.2 then QjA fn id all.toArray N0 (⟨i,(rwE Γ M (XM V T env M M.length o.op)).1,(rwE Γ M (XM V T env M M.length o.op)).2.1,[],true⟩::hs.map (·.h))/\Qcc Γ M o (λx us=>drun V T Γ nt next fn id all N0 l (⟨i,(rwE Γ M (XM V T env M M.length o.op)).1,(rwE Γ M (XM V T env M M.length o.op)).2.1,x.refs++Qay us,(rwE Γ M (XM V T env M M.length o.op)).2.2⟩::hs.map (·.h)) (Proofs.YtlafaaeecnifcaaGreatDoor.putS o.dst x env) (QW M us)) (XM V T env M M.length o.op)
       else Qcc Γ M o (λx us=>drun V T Γ nt next fn id all N0 l (⟨i,(rwE Γ M (XM V T env M M.length o.op)).1,(rwE Γ M (XM V T env M M.length o.op)).2.1,x.refs++Qay us,(rwE Γ M (XM V T env M M.length o.op)).2.2⟩::hs.map (·.h)) (Proofs.YtlafaaeecnifcaaGreatDoor.putS o.dst x env) (QW M us)) (XM V T env M M.length o.op)) ->
      ∃hs' env' M',DP V T Γ nt all env0 M0 (hs'++hs) env' M'/\Front V T Γ nt next fn id all N0 (hs'++hs) env' M'/\∀h∈hs',h.h.bar=false:=by
      intro env hd hw h
      cases hb:(rwE Γ M (XM V T env M M.length o.op)).2.2 with
      |true=>
       rw[hb]at h
       exact⟨[],env,M,hd,.bar i o l ho hdo hw (by have:=h.1;unfold QjA at this;simpa using this) h.2,by simp⟩
      |false=>
       rw[hb]at h
       obtain⟨x,us,hK,hW,hnd,hst⟩:=Qmt hΓ hb h
       obtain⟨hs',env',M',g1,g2,g3⟩:=Qc7 hΓ l (⟨⟨i,(rwE Γ M (XM V T env M M.length o.op)).1,(rwE Γ M (XM V T env M M.length o.op)).2.1,x.refs++Qay us,false⟩,o,x,us⟩::hs) _ _
        (.op hd ⟨ho,hdo,hW,hnd,λb hb=>hb,.inr ⟨hw,rfl,rfl,.inr hst⟩⟩) hK
       refine⟨hs'++[_],env',M',by rw[Yb];exact g1,by rw[Yb];exact g2,λh hh=>?_⟩
       rcases List.mem_append.1 hh with hh|hh
       . exact g3 h hh
       . rw[Y0]at hh;subst hh;rfl
     have hskip:∀env,DP V T Γ nt all env0 M0 hs env M->(∀ρ a,EnvOk ρ nt env a->Y7 o (yielded all.toArray a.tmps)=false)->drun V T Γ nt next fn id all N0 l (⟨i,[],[],[],false⟩::hs.map (·.h)) (Proofs.YtlafaaeecnifcaaGreatDoor.putS o.dst (sv undef) env) M ->
      ∃hs' env' M',DP V T Γ nt all env0 M0 (hs'++hs) env' M'/\Front V T Γ nt next fn id all N0 (hs'++hs) env' M'/\∀h∈hs',h.h.bar=false:=by
      intro env hd hw h
      obtain⟨hs',env',M',g1,g2,g3⟩:=Qc7 hΓ l (⟨⟨i,[],[],[],false⟩,o,sv undef,[]⟩::hs) _ _ (.op hd ⟨ho,hdo,rfl,Zbc,λb hb=>by simp[SV.refs,SA.refs,SC.refs,Qay]at hb,.inl ⟨rfl,rfl,hw⟩⟩) h
      refine⟨hs'++[_],env',M',by rw[Yb];exact g1,by rw[Yb];exact g2,λh hh=>?_⟩
      rcases List.mem_append.1 hh with hh|hh
      . exact g3 h hh
      . rw[Y0]at hh;subst hh;rfl
     cases g with
     |none=>exact hgo env hd (λρ a hE=>(QbF hE hg).1 rfl) h
     |some tw=>
      obtain⟨t,want⟩:=tw
      dsimp only at h
      split at h
      . rename_i b hl
        have hwb:∀ρ a,EnvOk ρ nt ((t,sv (.bool b))::env) a->Y7 o (yielded all.toArray a.tmps)=(b==want):=λρ a hE=>(QbF hE hg).2.1 t want b rfl (by simp[lk])
        have hd':=DP.same hd hl
        cases b<;>cases want<;>simp only[cond_true,cond_false]at h
        . exact hgo _ hd' hwb h
        . exact hskip _ hd' hwb h
        . exact hskip _ hd' hwb h
        . exact hgo _ hd' hwb h
      . rename_i u hl
        exact hskip _ hd (λρ a hE=>(QbF hE hg).2.2 t want u rfl hl) h
      . exact h.elim
theorem statB_spec {B:List (List Nat)}(h:Qid all B=true) {i j:Nat}{o p:Oper}(ho:all[i]?=some o) (hp:all[j]?=some p) (hij:i≠j):
 (∀t,p.dst=some t->o.dst≠some t)/\∀t,p.dst=some t->t∈o.looksAt all.toArray->j∈nthL B i\/i∈nthL B j:=by
 unfold Qid at h
 rw[YK]at h
 have h1:=h i (List.mem_range.2 (List.getElem?_eq_some_iff.1 ho).1)
 rw[Qc2,ho]at h1
 simp only[Zr,YK]at h1
 have h2:=h1.2 j (List.mem_range.2 (List.getElem?_eq_some_iff.1 hp).1)
 rw[nbeq hij,Qc2,hp]at h2
 simp only[Zdy,Zr,Za1]at h2
 refine⟨λt ht hd=>QaG h2.1 t (by simp[dstL,ht]) (by simp[dstL,hd]),λt ht hl=>?_⟩
 rcases h2.2 with h3|h3|h3
 . exact absurd hl (QaG h3 t (by simp[dstL,ht]))
 . exact .inl (XI.1 h3)
 . exact .inr (XI.1 h3)
theorem Qic {B:List (List Nat)}(h:Qid all B=true) {i:Nat}{o:Oper}(ho:all[i]?=some o):(∀cs b,o.op≠ .select cs b)/\∀e∈o.after,QbI e=true->e.on<i:=by
 unfold Qid at h
 rw[YK]at h
 have h1:=h i (List.mem_range.2 (List.getElem?_eq_some_iff.1 ho).1)
 rw[Qc2,ho]at h1
 simp only[Zr,YK]at h1
 refine⟨λcs b e=>?_,λe he hb=>?_⟩
 . have:=h1.1.1;rw[e]at this;cases this
 . have:=h1.1.2 e (by simpa using he)
   rw[hb]at this
   exact Xv (by simpa using this)
theorem Xp {B:List (List Nat)}:∀ {post:List HX}{y:HX}{pre:List HX},QbC B (post++y::pre)=true ->
 (∀x∈pre,x.i≠y.i/\y.i∉nthL B x.i/\(x.i∈nthL B y.i\/Qix x y=true))/\(∀z∈post,y.i≠z.i/\z.i∉nthL B y.i/\(y.i∈nthL B z.i\/Qix y z=true))
 |[],y,pre,h=>by
  simp only[YA,QbC,Zr,YK]at h
  refine⟨λx hx=>?_,by simp⟩
  have:=h.1 x hx
  simp only[YD,Za1]at this
  refine⟨λe=>by rw[e]at this;simp at this,λe=>?_,this.2.imp XI.1 id⟩
  rw[XI.2 e]at this;exact absurd this.1.2 (by simp)
 |z::post,y,pre,h=>by
  simp only[Ym,QbC,Zr,YK]at h
  obtain⟨g1,g2⟩:=Xp h.2
  refine⟨g1,λq hq=>?_⟩
  rcases List.mem_cons.1 hq with rfl|hq
  . have:=h.1 y (by simp)
    simp only[YD,Za1]at this
    refine⟨λe=>by rw[e]at this;simp at this,λe=>?_,this.2.imp XI.1 id⟩
    rw[XI.2 e]at this;exact absurd this.1.2 (by simp)
  . exact g2 q hq
theorem Qcj {x y:HX}(h:Qix x y=true):(∀b∈x.W,b∉y.R/\b∉y.W)/\∀b∈y.W,b∉x.R/\b∉x.W:=by
 unfold Qix at h
 simp only[Zr]at h
 exact⟨λb hb=>⟨QaG h.1.1 b hb,QaG h.1.2 b hb⟩,λb hb=>⟨QaG h.2 b hb,λhx=>QaG h.1.2 b hx hb⟩⟩
theorem Qf5 {L:Nat->Bool}{b:Nat}:∀ {hs:List Hop},(∀k∈hs,(k.us.map (·.1)).Nodup)->(∀k∈hs,L k.h.i=false->b∉k.us.map (·.1))->getB (XL L M0 hs) b=getB (Qgu M0 hs) b
 |[],_,_=>rfl
 |k::r,hn,h=>by
  have ih:=Qf5 (hs:=r) (λk hk=>hn k (ZF _ hk)) (λk hk=>h k (ZF _ hk))
  simp only[XL,Qgu]
  cases hL:L k.h.i
  . rw[cond_false,Q6 k.us _ (h k ZC hL)];exact ih
  . rw[cond_true]
    by_cases hb:b∈k.us.map (·.1)
    . exact QdG hb (hn k ZC) _ _
    . rw[Q6 k.us _ hb,Q6 k.us _ hb];exact ih
theorem QgO {L:Nat->Bool}{b:Nat}{rest:List Hop}:∀ {hs:List Hop},(∀k∈hs,L k.h.i=true->b∉k.us.map (·.1))->getB (XL L M0 (hs++rest)) b=getB (XL L M0 rest) b
 |[],_=>rfl
 |k::r,h=>by
  have ih:=QgO (hs:=r) (rest:=rest) (λk hk=>h k (ZF _ hk))
  simp only[Ym,XL]
  cases hL:L k.h.i
  . exact ih
  . rw[cond_true,Q6 k.us _ (h k ZC hL)];exact ih
theorem QdH {L L':Nat->Bool}:∀ {hs:List Hop},(∀k∈hs,L' k.h.i=L k.h.i)->XL L' M0 hs=XL L M0 hs
 |[],_=>rfl
 |k::r,h=>by simp only[XL];rw[h k ZC,QdH (λk hk=>h k (ZF _ hk))]
theorem Qf6 {L:Nat->Bool}{rest:List Hop}:∀ {hs:List Hop},(∀k∈hs,L k.h.i=false)->XL L M0 (hs++rest)=XL L M0 rest
 |[],_=>rfl
 |k::r,h=>by simp only[Ym,XL,h k ZC,cond_false];exact Qf6 (λk hk=>h k (ZF _ hk))
theorem QiB {L L':Nat->Bool}{k:Hop}{b:Nat}(hk:L k.h.i=false) (hk':L' k.h.i=true) (hn:(k.us.map (·.1)).Nodup) {pre:List Hop}:∀ {post:List Hop},(∀q∈post,L' q.h.i=L q.h.i)->(∀q∈pre,L' q.h.i=L q.h.i)->(∀q∈post,L q.h.i=true->∀c∈k.us.map (·.1),c∉q.us.map (·.1))->(∀q∈post,(q.us.map (·.1)).Nodup) ->
 getB (XL L' M0 (post++k::pre)) b=getB (QW (XL L M0 (post++k::pre)) k.us) b
 |[],h1,h2,_,_=>by simp only[YA,XL,hk,hk',cond_true,cond_false,QdH h2]
 |q::post,h1,h2,h3,h4=>by
  have ih:=QiB (b:=b) hk hk' hn (post:=post) (pre:=pre) (λz hz=>h1 z (ZF _ hz)) h2 (λz hz=>h3 z (ZF _ hz)) (λz hz=>h4 z (ZF _ hz))
  simp only[Ym,XL]
  rw[h1 q ZC]
  cases hL:L q.h.i
  . exact ih
  . simp only[cond_true]
    by_cases hb:b∈q.us.map (·.1)
    . rw[QdG hb (h4 q ZC) _ (XL L M0 (post++k::pre)),Q6 k.us _ (λhk=>h3 q ZC hL b hk hb)]
    . rw[Q6 q.us _ hb,ih]
      by_cases hb2:b∈k.us.map (·.1)
      . exact QdG hb2 hn _ _
      . rw[Q6 k.us _ hb2,Q6 k.us _ hb2,Q6 q.us _ hb]
structure PA (ρ:Nat->Nat) (a0:Act) (L:Nat->Bool) (hs:List Hop) (nt:Nat) (a:Act):Prop where
 defers:a.defers=[]
 size:a.tmps.size=nt
 got:∀h∈hs,L h.h.i=true->∀t,h.o.dst=some t->a.tmps[t]?=some (h.x.den ρ)
 old:∀t,(∀h∈hs,L h.h.i=true->h.o.dst≠some t)->a.tmps[t]?=a0.tmps[t]?
theorem Qgl {ρ:Nat->Nat}(h0:a0.defers=[]) (hs0:a0.tmps.size=nt):∀ {hs:List Hop},(∀k∈hs,Qgw nt k.o.dst=true)->hs.Pairwise (λk q=>∀t,k.o.dst=some t->q.o.dst≠some t)->PA ρ a0 (λ_=>true) hs nt (actT ρ a0 hs)
 |[],_,_=>⟨h0,hs0,by simp,λ_ _=>rfl⟩
 |k::r,hd,hp=>by
  rw[Zbi]at hp
  have ih:=Qgl (ρ:=ρ) h0 hs0 (hs:=r) (λq hq=>hd q (ZF _ hq)) hp.2
  have hk:=hd k ZC
  cases hdst:k.o.dst with
  |none=>
   have e:actT ρ a0 (k::r)=actT ρ a0 r:=by simp only[actT,hdst];rfl
   rw[e]
   refine⟨ih.defers,ih.size,λh hh hL t ht=>?_,λt h=>ih.old t (λq hq hL=>h q (ZF _ hq) hL)⟩
   rcases List.mem_cons.1 hh with rfl|hh
   . rw[hdst]at ht;cases ht
   . exact ih.got h hh hL t ht
  |some d=>
   rw[hdst]at hk
   have hlt:=Xv hk
   have e:actT ρ a0 (k::r)=(actT ρ a0 r).put (some d) (k.x.den ρ):=by simp only[actT,hdst]
   rw[e]
   refine⟨ih.defers,by simp only[ZcZ,Za8];exact ih.size,λh hh hL t ht=>?_,λt h=>?_⟩
   . simp only[ZcZ]
     rcases List.mem_cons.1 hh with rfl|hh
     . rw[hdst]at ht;cases ht
       rw[ZaD (by rw[ih.size];exact hlt)]
     . have:d≠t:=λe=>by subst e;exact hp.1 h hh d hdst ht
       rw[Zaj this];exact ih.got h hh hL t ht
   . simp only[ZcZ]
     have:d≠t:=λe=>by subst e;exact h k ZC rfl hdst
     rw[Zaj this];exact ih.old t (λq hq hL=>h q (ZF _ hq) hL)
theorem Qhl:∀(n:Nat) (l:List Nat),l.Nodup->(∀x∈l,x<n)->l.length<=n
 |0,[],_,_=>Zq _
 |0,x::r,_,h=>absurd (h x ZC) (ZP _)
 |n+1,l,hn,h=>by
  by_cases hm:n∈l
  . have:=Qhl n (l.erase n) (hn.erase n) (λx hx=>by
     rw[hn.mem_erase_iff]at hx
     have:=h x hx.2;omega)
    rw[List.length_erase_of_mem hm]at this
    omega
  . have:=Qhl n l hn (λx hx=>by
     have:=h x hx
     have:x≠n:=λe=>hm (e ▸ hx)
     omega)
    omega
def unl (listed:Array Bool) (n:Nat):Nat:=(Z2 n).countP (λj=>!listed.getD j false)
theorem QgS {f g:Nat->Bool}{i:Nat}(hf:f i=true) (hg:g i=false):∀ {l:List Nat},l.Nodup->i∈l->(∀j,j≠i->g j=f j)->l.countP f=l.countP g+1
 |[],_,h,_=>by simp at h
 |j::r,hn,h,hh=>by
  rw[List.nodup_cons]at hn
  rw[ZdY,ZdY]
  by_cases e:j=i
  . subst e
    have:r.countP f=r.countP g:=List.countP_congr (λk hk=>by rw[hh k (λe=>hn.1 (e ▸ hk))])
    rw[hf,hg,this];simp
  . rcases List.mem_cons.1 h with h|h
    . exact absurd h.symm e
    . rw[QgS hf hg hn.2 h hh,hh j e];omega
theorem Qhz (listed:Array Bool) (i j:Nat) (hi:i<listed.size):(listed.setIfInBounds i true).getD j false=(if j=i then true else listed.getD j false):=by
 rw[YO,Array.getElem?_setIfInBounds,YO]
 by_cases e:i=j
 . subst e;simp[hi]
 . rw[Ze e,Ze (λh=>e h.symm)]
theorem Qri {listed:Array Bool}{n i:Nat}(hs:listed.size=n) (hi:i<n) (hL:listed.getD i false=false):unl listed n=unl (listed.setIfInBounds i true) n+1:=
 QgS (by simp[hL]) (by rw[Qhz _ _ _ Za];simp) List.nodup_range (List.mem_range.2 hi) (λj hj=>by rw[Qhz _ _ _ Za,Ze hj])
theorem Qim {listed:Array Bool}{i:Nat}(h:i∈Zb2 .any all.toArray listed):∃o,all[i]?=some o/\listed.getD i true=false/\∀e∈o.after,QbI e=true->listed.getD e.on false=true:=by
 unfold Zb2 at h
 rw[Zc2]at h
 obtain⟨h1,h2⟩:=h
 have hi:i<all.length:=by simpa using List.mem_range.1 h1
 refine⟨all[i],Zy hi,?_⟩
 rw[Zap,Zy hi]at h2
 simp only[YF,Y5,Zr,YD,ZdM]at h2
 refine⟨h2.1,λe he hb=>?_⟩
 obtain⟨k,hk,rfl⟩:=Array.mem_iff_getElem.1 he
 have:=h2.2 k hk
 rw[Qi1,hb]at this
 simpa using this
theorem QmQ {B:List (List Nat)}(hst:Qid all B=true) {listed:Array Bool}(hs:listed.size=all.length) (h:Zb2 .any all.toArray listed=[]):∀j,j<all.length->listed.getD j false=true:=by
 intro j
 induction j using Nat.strongRecOn with
 |_ j ih=>
  intro hj
  cases hL:listed.getD j false with
  |true=>rfl
  |false=>
   exfalso
   have hL':listed.getD j true=false:=by
    rw[YO,ZbI Za]at hL ⊢
    exact hL
   have:j∈Zb2 .any all.toArray listed:=by
    unfold Zb2
    rw[Zc2]
    refine⟨List.mem_range.2 (by simpa using hj),?_⟩
    rw[Zap,Zy hj]
    simp only[YF,Y5,Zr,YD,ZdM]
    refine⟨hL',λk hk=>?_⟩
    rw[Qi1]
    cases hb:QbI (all[j].after[k])with
    |false=>rfl
    |true=>
     have hlt:=(Qic hst (Zy hj)).2 _ (Array.getElem_mem hk) hb
     simp only[Bool.not_true,Zdy]
     exact ih _ hlt Za
   rw[h]at this
   simp at this
theorem Front.chk {N0:Nat}{hs:List Hop}{env:Env}{M:List SB}(h:Front V T Γ nt next fn id all N0 hs env M):∃H:List HX,chkB N0 all H=true/\∃bs:List HX,H=bs++hs.map (·.h):=by
 cases h with
 |fin hl hc hn=>exact⟨_,hc,[],rfl⟩
 |bar i o l ho hd hw hc hk=>exact⟨_,hc,[_],rfl⟩
structure Qso (N0:Nat) (all:List Oper) (H:List HX):Prop where
 st:Qid all (QcR [] all)=true
 pr:QbC (QcR [] all) H=true
 br:Qqw all.length (QcR [] all) H=true
 rf:∀x∈H,∀b∈x.f,b<N0\/b∈x.W\/∃y∈H,y.i∈bef all x.i/\b∈y.W
 lt:∀x∈H,x.i<all.length
theorem QcP {N0:Nat}{H:List HX}(h:chkB N0 all H=true):Qso N0 all H:=by
 unfold chkB at h
 simp only[Zr,YK]at h
 obtain⟨⟨⟨⟨h1,h2⟩,h3⟩,h4⟩,h5⟩:=h
 refine⟨h1,h2,h3,λx hx b hb=>?_,λx hx=>Xv (h5 x hx)⟩
 have:=h4 x hx
 unfold refsB at this
 rw[YK]at this
 have:=this b hb
 simp only[Za1,ZdZ,Zr]at this
 rcases this with (h|h)|⟨y,h1,h2,h3⟩
 . exact .inl (Xv h)
 . exact .inr (.inl (XI.1 h))
 . exact .inr (.inr ⟨y,h1,XI.1 h2,XI.1 h3⟩)
theorem QaC {B:List (List Nat)}:∀ {bs hs:List HX},QbC B (bs++hs)=true->QbC B hs=true
 |[],_,h=>h
 |b::r,hs,h=>by
  simp only[Ym,QbC,Zr]at h
  exact QaC h.2
theorem QgM {B:List (List Nat)}{hs:List Hop}(hp:QbC B (hs.map (·.h))=true) {h k:Hop}(hh:h∈hs) (hk:k∈hs) (e:h.h.i=k.h.i):h=k:=by
 obtain⟨post,pre,rfl⟩:=ZaY hh
 rw[YW,Z4]at hp
 obtain⟨g1,g2⟩:=Xp hp
 rcases List.mem_append.1 hk with hk|hk
 . exact absurd e (g2 k.h (Yj hk)).1
 . rcases List.mem_cons.1 hk with rfl|hk
   . rfl
   . exact absurd e.symm (g1 k.h (Yj hk)).1
theorem Qgb {B:List (List Nat)}(hst:Qid all B=true):∀ {hs:List Hop},QbC B (hs.map (·.h))=true->(∀k∈hs,all[k.h.i]?=some k.o)->hs.Pairwise (λk q=>∀t,k.o.dst=some t->q.o.dst≠some t)
 |[],_,_=>Zal
 |k::r,hp,ho=>by
  rw[Z4]at hp
  have hp2:=hp
  simp only[QbC,Zr]at hp2
  refine List.pairwise_cons.2 ⟨λq hq t ht=>?_,Qgb hst hp2.2 (λq hq=>ho q (ZF _ hq))⟩
  obtain⟨g1,-⟩:=Xp (post:=[]) hp
  exact (statB_spec hst (ho q (ZF _ hq)) (ho k ZC) (g1 q.h (Yj hq)).1).1 t ht
def pres (N0:Nat) (L:Nat->Bool) (hs:List Hop):Nat->Bool:=λb=>b.blt N0||hs.any (λk=>L k.h.i&&memN b k.h.W)
theorem pres_iff {N0:Nat}{L:Nat->Bool}{hs:List Hop}{b:Nat}:pres N0 L hs b=true↔b<N0\/∃k∈hs,L k.h.i=true/\b∈k.h.W:=by
 unfold pres
 simp only[Za1,ZdZ,Zr,XI,Nat.blt_eq]
theorem QdT {N0:Nat}{L:Nat->Bool}{hs:List Hop}{bs:List HX}(hL:Qfe all L) (hc:Qso N0 all (bs++hs.map (·.h))) (ho:∀k∈hs,all[k.h.i]?=some k.o) (hin:∀i,L i=true->∃k∈hs,k.h.i=i)
 {k:Hop}(hk:k∈hs) (hLk:L k.h.i=true):∀b∈k.h.f,pres N0 L hs b=true:=by
 intro b hb
 rw[pres_iff]
 rcases hc.rf k.h (Z0 _ (Yj hk)) b hb with h|h|⟨y,hy,h1,h2⟩
 . exact .inl h
 . exact .inr ⟨k,hk,hLk,h⟩
 . have hLy:=Qdh hL (ho k hk) hLk h1
   obtain⟨q,hq,he⟩:=hin _ hLy
   obtain⟨post,pre,e⟩:=ZaY hy
   have hp:=hc.pr
   have:q.h=y:=by
    have hqm:q.h∈bs++hs.map (·.h):=Z0 _ (Yj hq)
    rw[e]at hp hqm
    obtain⟨g1,g2⟩:=Xp hp
    rcases List.mem_append.1 hqm with h|h
    . exact absurd he.symm (g2 _ h).1
    . rcases List.mem_cons.1 h with h|h
      . exact h
      . exact absurd he (g1 _ h).1
   exact .inr ⟨q,hq,by rw[he];exact hLy,by rw[this];exact h2⟩
theorem QhB {N0:Nat}{L:Nat->Bool}{p:Nat->Bool}(hM0:MemAv (sc N0) M0) (hp0:∀b,b<N0->p b=true):∀ {hs:List Hop},(∀k∈hs,L k.h.i=true->(k.us.map (·.1)).Nodup/\(∀b∈k.us.map (·.1),p b=true)/\∀b∈Qay k.us,p b=true)->MemAv p (XL L M0 hs)
 |[],_=>λb=>(hM0 b).imp id (λh=>⟨hp0 b (Xv h.1),SB.av_mono (λi hi=>hp0 i (Xv hi)) h.2⟩)
 |k::r,h=>by
  have ih:=QhB hM0 hp0 (hs:=r) (L:=L) (λq hq=>h q (ZF _ hq))
  simp only[XL]
  cases hL:L k.h.i
  . exact ih
  . rw[cond_true]
    obtain⟨h1,h2,h3⟩:=h k ZC hL
    intro b
    by_cases hb:b∈k.us.map (·.1)
    . obtain⟨⟨b',x⟩,hq,rfl⟩:=List.mem_map.1 hb
      right
      rw[XF k.us _ h1 hq]
      exact⟨h2 _ hb,SB.av_refs (λc hc=>h3 c (Qjb hq hc))⟩
    . rw[Q6 k.us _ hb];exact ih b
theorem Qf4:∀ {hs:List Hop}{k:Hop},k∈hs->∀b∈k.us.map (·.1),b<(Qgu M0 hs).length
 |[],k,h,_,_=>by simp at h
 |q::r,k,h,b,hb=>by
  simp only[Qgu]
  rcases List.mem_cons.1 h with rfl|h
  . exact (QbP k.us _).2 b hb
  . have:=Qf4 h b hb
    have:=(QbP q.us (Qgu M0 r)).1
    omega
theorem QhA:∀(hs:List Hop),M0.length<=(Qgu M0 hs).length
 |[]=>Zq _
 |q::r=>by
  have:=QhA r
  have:=(QbP q.us (Qgu M0 r)).1
  simp only[Qgu];omega
theorem PA.put {ρ ρ':Nat->Nat}{L L':Nat->Bool}{hs hs':List Hop}{a:Act}(h:PA ρ a0 L hs nt a) {o:Oper}{i:Nat}{x:SV}(hd:Qgw nt o.dst=true)
 (hold:∀k∈hs',L' k.h.i=true->k.h.i≠i->k∈hs/\L k.h.i=true/\k.x.den ρ'=k.x.den ρ/\∀t,o.dst=some t->k.o.dst≠some t) (hnew:∀k∈hs',k.h.i=i->k.o=o/\k.x=x) (hold2:∀k∈hs,L k.h.i=true->k∈hs'/\L' k.h.i=true) (hi:∃k∈hs',k.h.i=i/\L' k.h.i=true):
 PA ρ' a0 L' hs' nt (a.put o.dst (x.den ρ')):=by
 obtain⟨k0,hk0,hk0i,hk0L⟩:=hi
 obtain⟨hk0o,hk0x⟩:=hnew k0 hk0 hk0i
 cases hdst:o.dst with
 |none=>
  show PA ρ' a0 L' hs' nt a
  refine⟨h.defers,h.size,λk hk hL t ht=>?_,λt hh=>h.old t (λk hk hL=>hh k (hold2 k hk hL).1 (hold2 k hk hL).2)⟩
  by_cases e:k.h.i=i
  . rw[(hnew k hk e).1,hdst]at ht;cases ht
  . obtain⟨g1,g2,g3,-⟩:=hold k hk hL e
    rw[g3];exact h.got k g1 g2 t ht
 |some d=>
  rw[hdst]at hd
  have hlt:=Xv hd
  refine⟨h.defers,by simp only[ZcZ,Za8];exact h.size,λk hk hL t ht=>?_,λt hh=>?_⟩
  . simp only[ZcZ]
    by_cases e:k.h.i=i
    . obtain⟨g1,g2⟩:=hnew k hk e
      rw[g1,hdst]at ht;cases ht
      rw[ZaD (by rw[h.size];exact hlt),g2]
    . obtain⟨g1,g2,g3,g4⟩:=hold k hk hL e
      have:d≠t:=λe=>by subst e;exact g4 d hdst ht
      rw[Zaj this,g3];exact h.got k g1 g2 t ht
  . simp only[ZcZ]
    have:d≠t:=λe=>by subst e;exact hh k0 hk0 hk0L (by rw[hk0o];exact hdst)
    rw[Zaj this]
    exact h.old t (λk hk hL=>hh k (hold2 k hk hL).1 (hold2 k hk hL).2)
theorem Qpa {ρ:Nat->Nat}{N0:Nat}{L:Nat->Bool}{H:List HX}{post pre:List Hop}{i:Nat}{o:Oper}{a:Act}(hc:Qso N0 all H) (hL:Qfe all L) (ho:all[i]?=some o) (he:∀e∈o.after,QbI e=true->L e.on=true)
 {hs:List Hop}(hoo:∀k∈hs,all[k.h.i]?=some k.o) (hsub:∀k∈pre,k∈hs) (hin:∀k∈hs,k∈post\/k∈pre\/L k.h.i=false) (hpost:∀k∈post,k.h.i≠i/\k.h.i∉bef all i) (hpre:∀k∈pre,k.h.i≠i/\i∉bef all k.h.i) (hLi:L i=false)
 (hpa:PA ρ a0 L hs nt a) (hpt:PA ρ a0 (λ_=>true) pre nt (actT ρ a0 pre)):∀t∈o.looksAt all.toArray,a.tmps[t]?=(actT ρ a0 pre).tmps[t]?:=by
 intro t ht
 by_cases h:∃q∈pre,q.o.dst=some t
 . obtain⟨q,hq,hd⟩:=h
   have hb:=((statB_spec hc.st ho (hoo q (hsub q hq)) (λe=>(hpre q hq).1 e.symm)).2 t hd ht).resolve_right (hpre q hq).2
   have hLq:=Qen hL ho he _ hb
   rw[hpa.got q (hsub q hq) hLq t hd,hpt.got q hq rfl t hd]
 . rw[hpt.old t (λq hq _ hd=>h ⟨q,hq,hd⟩)]
   refine hpa.old t (λq hq hLq hd=>?_)
   rcases hin q hq with h1|h1|h1
   . obtain⟨g1,g2⟩:=hpost q h1
     rcases (statB_spec hc.st ho (hoo q hq) (λe=>g1 e.symm)).2 t hd ht with h2|h2
     . exact g2 h2
     . rw[Qdh hL (hoo q hq) hLq h2]at hLi;cases hLi
   . exact h ⟨q,h1,hd⟩
   . rw[h1]at hLq;cases hLq
set_option maxHeartbeats 2000000 in
theorem Qp5 {N0:Nat}(hΓ:GamOk P w0 S Γ) (hV:OldOk V w0 S) (hT:TabOk P T) (hT2:TysOk P T) (hlen:M0.length=N0) (hM0:MemAv (sc N0) M0) (henv:Qbs (sc N0) env0=true)
 (hd0:a0.defers=[]) (hs0:a0.tmps.size=nt) (hE0:∀ρ,(∀i,i<N0->ρ i=ρ0 i)->EnvOk ρ nt env0 a0)
 (hnext:∀env M ρ a w,(∀i,i<N0->ρ i=ρ0 i)->N0<=M.length->MemAv (sc M.length) M->Qbs (sc M.length) env=true->next env M->EnvOk ρ nt env a->Mem w0 S (denM ρ 0 M) w->Q .normal a w):
 ∀(fuel:Nat) (listed:Array Bool) (hs:List Hop) (env:Env) (M:List SB) (a:Act) (w:World) (ρ:Nat->Nat),listed.size=all.length->unl listed all.length=fuel->Qfe all (λj=>listed.getD j false) ->
  DP V T Γ nt all env0 M0 hs env M->Front V T Γ nt next fn id all N0 hs env M->(∀i,listed.getD i false=true->∃k∈hs,k.h.i=i)->(∀k∈hs,k.h.bar=true->listed.getD k.h.i false=true) ->
  PA ρ a0 (λj=>listed.getD j false) hs nt a->(∀i,i<N0->ρ i=ρ0 i)->Mem w0 S (denM ρ 0 (XL (λj=>listed.getD j false) M0 hs)) w->wpAny P .any all.toArray Q fuel listed a w:=by
 have hend:∀(listed:Array Bool) (hs:List Hop) (env:Env) (M:List SB) (a:Act) (w:World) (ρ:Nat->Nat),listed.size=all.length->(∀j,j<all.length->listed.getD j false=true)->Qfe all (λj=>listed.getD j false) ->
  DP V T Γ nt all env0 M0 hs env M->Front V T Γ nt next fn id all N0 hs env M->(∀i,listed.getD i false=true->∃k∈hs,k.h.i=i) ->
  PA ρ a0 (λj=>listed.getD j false) hs nt a->(∀i,i<N0->ρ i=ρ0 i)->Mem w0 S (denM ρ 0 (XL (λj=>listed.getD j false) M0 hs)) w->Q .normal a w:=by
  intro listed hs env M a w ρ hsz hall hL hd hF hin hpa hag HM
  have hok:=hd.allOk
  obtain⟨H,hH,bs,rfl⟩:=hF.chk
  have hc:=QcP hH
  have hLk:∀k∈hs,listed.getD k.h.i false=true:=λk hk=>hall _ (hc.lt k.h (Z0 _ (Yj hk)))
  cases hF with
  |bar i o l ho hdo hw hcc hk=>
   exfalso
   have hi:=(List.getElem?_eq_some_iff.1 ho).1
   obtain⟨k,hk,e⟩:=hin i (hall i hi)
   have:=(Xp (post:=[]) (QcP hcc).pr).1 k.h (Yj hk)
   exact this.1 e
  |fin hl hcc hn=>
   have hm:=hd.mem
   have hpt:=Qgl (ρ:=ρ) hd0 hs0 (hs:=hs) (λk hk=>(hok k hk).2.1) (Qgb hc.st (QaC hc.pr) (λk hk=>(hok k hk).1))
   have hE:=hd.env (hE0 ρ hag)
   have hlt:∀k∈hs,∀b∈k.h.W,b<M.length:=λk hk b hb=>by rw[hm];exact Qf4 hk b (by rw[(hok k hk).2.2.1];exact hb)
   have hge:N0<=M.length:=by rw[hm,<- hlen];exact QhA hs
   have hpm:∀b,pres N0 (λj=>listed.getD j false) hs b=true->sc M.length b=true:=λb hb=>by
    rcases pres_iff.1 hb with h|⟨k,hk,-,hb⟩
    . exact QaS Za
    . exact QaS (hlt k hk b hb)
   have hrefs:=λ(k:Hop) (hk:k∈hs)=>QdT hL hc (λk hk=>(hok k hk).1) hin hk (hLk k hk)
   have hfe:∀b,getB (XL (λj=>listed.getD j false) M0 hs) b=getB M b:=λb=>by
    rw[hm];exact Qf5 (λk hk=>(hok k hk).2.2.2.1) (λk hk h=>by rw[hLk k hk]at h;cases h)
   have hav:MemAv (sc M.length) M:=by
    have:=QhB (L:=λj=>listed.getD j false) (p:=sc M.length) hM0 (λb hb=>QaS Za) (hs:=hs) (λk hk hLk'=>⟨(hok k hk).2.2.2.1,λb hb=>QaS (hlt k hk b (by rw[<- (hok k hk).2.2.1];exact hb)),λb hb=>hpm b (hrefs k hk b ((hok k hk).2.2.2.2 b (Z0 _ hb)))⟩)
    intro b
    rw[<- hfe b];exact this b
   have henv':Qbs (sc M.length) env=true:=by
    have key:∀ {hs' env' M'},DP V T Γ nt all env0 M0 hs' env' M'->(∀k∈hs',k∈hs)->Qbs (sc M.length) env'=true:=by
     intro hs' env' M' hd'
     induction hd' with
     |nil=>intro _;exact QbY (λi hi=>QaS (by have:=Xv hi;omega)) henv
     |same hd' hx ih=>intro hsub;simp only[Qbs,Zr];exact⟨QrH (ih hsub) hx,ih hsub⟩
     | @op hs' env' M' k hd' ho ih=>
       intro hsub
       have h1:=ih (λq hq=>hsub q (ZF _ hq))
       unfold putS
       split
       . simp only[Qbs,Zr]
         exact⟨SV.av_refs (λb hb=>hpm b (hrefs k (hsub k ZC) b (ho.2.2.2.2.1 b (Yc _ hb)))),h1⟩
       . exact h1
    exact key hd (λk hk=>hk)
   have hEa:EnvOk ρ nt env a:=by
    refine⟨hpa.defers,hpa.size,λt x hx=>?_⟩
    have:=hE.get t x hx
    rw[<- this]
    by_cases h:∃q∈hs,q.o.dst=some t
    . obtain⟨q,hq,hdq⟩:=h
      rw[hpa.got q hq (hLk q hq) t hdq,hpt.got q hq rfl t hdq]
    . rw[hpa.old t (λq hq _ hdq=>h ⟨q,hq,hdq⟩),hpt.old t (λq hq _ hdq=>h ⟨q,hq,hdq⟩)]
   rw[Qe6 hfe]at HM
   exact hnext env M ρ a w hag hge hav henv' hn hEa HM
 intro fuel
 induction fuel with
 |zero=>
  intro listed hs env M a w ρ hsz hun hL hd hF hin hbar hpa hag HM
  have hall:∀j,j<all.length->listed.getD j false=true:=λj hj=>by
   unfold unl at hun
   rw[List.countP_eq_zero]at hun
   have:=hun j (List.mem_range.2 hj)
   simpa using this
  refine⟨?_,hend listed hs env M a w ρ hsz hall hL hd hF hin hpa hag HM⟩
  cases hr:Zb2 .any all.toArray listed with
  |nil=>rfl
  |cons i r=>
   exfalso
   obtain⟨o,ho,hl,-⟩:=Qim (all:=all) (listed:=listed) (i:=i) (by rw[hr];exact ZC)
   have hi:=(List.getElem?_eq_some_iff.1 ho).1
   have:=hall i hi
   rw[YO,ZbI Za]at this hl
   simp only[Y5]at this hl
   rw[this]at hl;cases hl
 |succ fuel ih=>
  intro listed hs env M a w ρ hsz hun hL hd hF hin hbar hpa hag HM
  have hok:=hd.allOk
  obtain⟨H,hH,bs,rfl⟩:=hF.chk
  have hc:=QcP hH
  have hpr:=QaC hc.pr
  refine⟨λhr=>hend listed hs env M a w ρ hsz (QmQ hc.st hsz hr) hL hd hF hin hpa hag HM,λi hi=>?_⟩
  obtain⟨o,ho,hli,he⟩:=Qim hi
  have hilt:=(List.getElem?_eq_some_iff.1 ho).1
  have hli':listed.getD i false=false:=by
   rw[YO,ZbI Za]at hli ⊢
   exact hli
  have hun':unl (listed.setIfInBounds i true) all.length=fuel:=by have:=Qri hsz hilt hli';omega
  have hsz':(listed.setIfInBounds i true).size=all.length:=by rw[Za8];exact hsz
  have hL':∀j,(listed.setIfInBounds i true).getD j false=(if j=i then true else listed.getD j false):=λj=>Qhz _ _ _ Za
  have hLn:∀j,j≠i->(listed.setIfInBounds i true).getD j false=listed.getD j false:=λj hj=>by rw[hL',Ze hj]
  have hcl':Qfe all (λj=>(listed.setIfInBounds i true).getD j false):=by
   intro j p hp hj e hee hb
   by_cases hji:j=i
   . subst hji
     rw[ho]at hp;cases hp
     have:=he e hee hb
     simp only[hL'];split<;>simp_all
   . simp only[hLn j hji]at hj
     have:=hL j p hp hj e hee hb
     simp only[hL'];split<;>simp_all
  have hst:=(Qic hc.st ho).1
  have hoo:∀k∈hs,all[k.h.i]?=some k.o:=λk hk=>(hok k hk).1
  have hpav:MemAv (pres N0 (λj=>listed.getD j false) hs) (XL (λj=>listed.getD j false) M0 hs):=
   QhB hM0 (λb hb=>pres_iff.2 (.inl hb)) (λk hk hLk=>⟨(hok k hk).2.2.2.1,λb hb=>pres_iff.2 (.inr ⟨k,hk,hLk,by rw[<- (hok k hk).2.2.1];exact hb⟩),λb hb=>QdT hL hc hoo hin hk hLk b ((hok k hk).2.2.2.2 b (Z0 _ hb))⟩)
  have exec:∀(post pre hs1:List Hop) (env':Env) (M':List SB) (R W:List Nat),hs=post++hs1->(hs1=pre\/∃k,hs1=k::pre/\listed.getD k.h.i false=false)->DP V T Γ nt all env0 M0 pre env' M' ->
   (∀q∈post,q.h.i≠i/\q.h.i∉bef all i/\(listed.getD q.h.i false=true->(∀b∈R,b∉q.h.W)/\∀b∈W,b∉q.h.W))->(∀q∈pre,q.h.i≠i/\i∉bef all q.h.i/\(listed.getD q.h.i false=false->(∀b∈R,b∉q.h.W)/\∀b∈W,b∉q.h.W)) ->
   (∀t∈o.looksAt all.toArray,a.tmps[t]?=(actT ρ a0 pre).tmps[t]?)/\EnvOk ρ nt env' (actT ρ a0 pre)/\(∀b,b∈R\/b∈W->getB (XL (λj=>listed.getD j false) M0 hs) b=getB M' b) /\
   (∀b∈W,M'.length<=b->pres N0 (λj=>listed.getD j false) hs b=false):=by
   intro post pre hs1 env' M' R W ehs e0 hdp hpost hpre
   have hsub:∀q∈pre,q∈hs:=λq hq=>by
    rw[ehs]
    rcases e0 with rfl|⟨k,rfl,-⟩
    . exact Z0 _ hq
    . exact Z0 _ (ZF _ hq)
   have hm:=hdp.mem
   have hpt:=Qgl (ρ:=ρ) hd0 hs0 (hs:=pre) (λk hk=>(hok k (hsub k hk)).2.1) (Qgb hc.st (by
    rw[ehs,YW]at hpr
    have:=QaC hpr
    rcases e0 with rfl|⟨k,rfl,-⟩
    . exact this
    . exact QaC (bs:=[k.h]) this) (λk hk=>hoo k (hsub k hk)))
   have hfold:∀b,b∈R\/b∈W->getB (XL (λj=>listed.getD j false) M0 hs) b=getB M' b:=by
    intro b hb
    rw[ehs,QgO (λq hq hLq=>by
     rw[(hok q (by rw[ehs];exact Yc _ hq)).2.2.1]
     rcases hb with hb|hb
     . exact ((hpost q hq).2.2 hLq).1 b hb
     . exact ((hpost q hq).2.2 hLq).2 b hb)]
    have:XL (λj=>listed.getD j false) M0 hs1=XL (λj=>listed.getD j false) M0 pre:=by
     rcases e0 with rfl|⟨k,rfl,hk⟩
     . rfl
     . simp only[XL,hk,cond_false]
    rw[this,hm]
    refine Qf5 (λq hq=>(hok q (hsub q hq)).2.2.2.1) (λq hq hLq=>?_)
    rw[(hok q (hsub q hq)).2.2.1]
    rcases hb with hb|hb
    . exact ((hpre q hq).2.2 hLq).1 b hb
    . exact ((hpre q hq).2.2 hLq).2 b hb
   refine⟨Qpa (post:=post) (hs:=hs) hc hL ho (λe hee hb=>he e hee hb) hoo hsub (λq hq=>?_) (λq hq=>⟨(hpost q hq).1,(hpost q hq).2.1⟩) (λq hq=>⟨(hpre q hq).1,(hpre q hq).2.1⟩) hli' hpa hpt,hdp.env (hE0 ρ hag),hfold,λb hb hge=>?_⟩
   . rw[ehs]at hq
     rcases List.mem_append.1 hq with hq|hq
     . exact .inl hq
     . rcases e0 with rfl|⟨k,rfl,hk⟩
       . exact .inr (.inl hq)
       . rcases List.mem_cons.1 hq with rfl|hq
         . exact .inr (.inr hk)
         . exact .inr (.inl hq)
   . cases hp:pres N0 (λj=>listed.getD j false) hs b with
     |false=>rfl
     |true=>
      exfalso
      have hM'ge:N0<=M'.length:=by rw[hm,<- hlen];exact QhA pre
      rcases pres_iff.1 hp with h|⟨q,hq,hLq,hbq⟩
      . omega
      . rw[ehs]at hq
        rcases List.mem_append.1 hq with hq|hq
        . exact ((hpost q hq).2.2 hLq).2 b hb hbq
        . have hqpre:q∈pre:=by
           rcases e0 with rfl|⟨k,rfl,hk⟩
           . exact hq
           . rcases List.mem_cons.1 hq with rfl|hq
             . rw[hk]at hLq;cases hLq
             . exact hq
          have:b<M'.length:=by rw[hm];exact Qf4 hqpre b (by rw[(hok q (hsub q hqpre)).2.2.1];exact hbq)
          omega
  unfold wpOp
  rw[Zap,ho]
  dsimp only
  by_cases hex:∃k∈hs,k.h.i=i
  · -- an operation that the run has behind it
    obtain⟨k,hk,rfl⟩:=hex
    obtain⟨post,pre,ehs⟩:=ZaY hk
    obtain⟨env',M',hdp,hop⟩:=hd.split post k pre ehs
    have hko:o=k.o:=by have:=hop.1;rw[ho]at this;exact YP this
    subst hko
    have hpr':=hpr
    rw[ehs,YW,Z4]at hpr'
    obtain⟨p1,p2⟩:=Xp hpr'
    have hbefL:∀j,j∈bef all k.h.i->listed.getD j false=true:=λj hj=>Qen hL ho (λe hee hb=>he e hee hb) j hj
    obtain⟨x1,x2,x3,x4⟩:=exec post pre (k::pre) env' M' k.h.R k.h.W ehs (.inr ⟨k,rfl,hli'⟩) hdp (λq hq=>by
     obtain⟨g1,g2,g3⟩:=p2 q.h (Yj hq)
     refine⟨λe=>g1 e.symm,g2,λhLq=>?_⟩
     rcases g3 with g3|g3
     . have:=Qdh hL (hoo q (by rw[ehs];exact Yc _ hq)) hLq g3
       rw[hli']at this;cases this
     . have:=Qcj g3
       exact⟨λb hb hbq=>(this.2 b hbq).1 hb,λb hb hbq=>(this.2 b hbq).2 hb⟩) (λq hq=>by
     obtain⟨g1,g2,g3⟩:=p1 q.h (Yj hq)
     refine⟨g1,g2,λhLq=>?_⟩
     rcases g3 with g3|g3
     . have:=hbefL _ g3
       rw[hLq]at this;cases this
     . have:=Qcj g3
       exact⟨λb hb hbq=>(this.1 b hbq).1 hb,λb hb hbq=>(this.1 b hbq).2 hb⟩)
    have hexec:execOp a.eval k.o=execOp (actT ρ a0 pre).eval k.o:=execOp_congr k.o hst (λx hx=>QiJ (λt hxt=>x1 t (by
     unfold ZdL
     refine Yc _ (List.mem_filterMap.2 ⟨x,by simpa using hx,by rw[hxt]⟩))))
    have hwt:=QfB (ops:=all.toArray) (o:=k.o) x1
    have hkhs:k∈hs:=hk
    have hnext2:∀(w':World) (ρ':Nat->Nat),(∀b,pres N0 (λj=>listed.getD j false) hs b=true->ρ' b=ρ b)->Mem w0 S (denM ρ' 0 (QW (XL (λj=>listed.getD j false) M0 hs) k.us)) w' ->
     wpAny P .any all.toArray Q fuel (listed.setIfInBounds k.h.i true) (a.put k.o.dst (k.x.den ρ')) w':=by
     intro w' ρ' hρ' HM'
     have hag':∀i,i<N0->ρ' i=ρ0 i:=λi hi=>(hρ' i (pres_iff.2 (.inl hi))).trans (hag i hi)
     refine ih _ hs env M _ w' ρ' hsz' hun' hcl' hd hF (λj hj=>?_) (λq hq hb=>?_) ?_ hag' ?_
     . by_cases e:j=k.h.i
       . exact⟨k,hk,e.symm⟩
       . rw[hLn j e]at hj;exact hin j hj
     . have:=hbar q hq hb
       rw[hL'];split<;>simp_all
     . refine PA.put hpa hop.2.1 (λq hq hLq hne=>?_) (λq hq e=>?_) (λq hq hLq=>⟨hq,by simp only[hL'];split<;>simp_all⟩) ⟨k,hk,rfl,by simp only[hL',if_true]⟩
       . simp only[hLn _ hne]at hLq
         refine⟨hq,hLq,?_,λt ht hd=>?_⟩
         . refine Zcp (p:=pres N0 (λj=>listed.getD j false) hs) hρ' (SV.av_refs (λb hb=>QdT hL hc hoo hin hq hLq b ((hok q hq).2.2.2.2 b (Yc _ hb))))
         . exact (statB_spec hc.st ho (hoo q hq) (λe=>hne e.symm)).1 t hd ht
       . have:=hop.1
         have e2:=QgM hpr hq hk e
         subst e2;exact⟨rfl,rfl⟩
     . have hpt:∀b,getB (XL (λj=>(listed.setIfInBounds k.h.i true).getD j false) M0 hs) b=getB (QW (XL (λj=>listed.getD j false) M0 hs) k.us) b:=by
        intro b
        rw[ehs]
        refine QiB hli' (by simp only[hL',if_true]) (hok k hk).2.2.2.1 (λq hq=>hLn _ (λe=>(p2 q.h (Yj hq)).1 e.symm)) (λq hq=>hLn _ (p1 q.h (Yj hq)).1) (λq hq hLq c hc2=>?_) (λq hq=>(hok q (by rw[ehs];exact Yc _ hq)).2.2.2.1)
        have hqhs:q∈hs:=by rw[ehs];exact Yc _ hq
        rw[(hok q hqhs).2.2.1]
        rw[(hok k hk).2.2.1]at hc2
        obtain⟨g1,g2,g3⟩:=p2 q.h (Yj hq)
        rcases g3 with g3|g3
        . have:=Qdh hL (hoo q hqhs) hLq g3
          rw[hli']at this;cases this
        . exact λhcq=>((Qcj g3).2 c hcq).2 hc2
       rw[Qe6 hpt];exact HM'
    rcases hop.2.2.2.2.2 with⟨hx0,hu0,hskip⟩|⟨hwant,hR,hW,hb|hst2⟩
    . rw[Ze (by rw[hwt,hskip ρ _ x2];simp)]
      have:=hnext2 w ρ (λ_ _=>rfl) (by rw[hu0];exact HM)
      rw[hx0]at this
      exact this
    . exact absurd (hbar k hk hb) (by rw[hli'];simp)
    . rw[Zf (by rw[hwt];exact hwant ρ _ x2)]
      left
      refine Qeu ?_
      rw[hexec]
      have hE:=QhE (P:=P) (V:=V) (ρ:=ρ) (M:=M') (nx:=M'.length) (env:=env') (T:=T) (hV.v HM.kept) hT hT2 x2 k.o
      rw[hR,hW]at x3
      have hWn:(rwE Γ M' (XM V T env' M' M'.length k.o.op)).2.1.Nodup:=by rw[<- hW,<- hop.2.2.1];exact hop.2.2.2.1
      have hleft:=Qhb (o:=k.o) hΓ HM.kept hE (λb hb x hx=>by
       rw[<- x3 b (.inl hb)]at hx;exact HM.at b x hx) (by
       have:=HM.some _ hWn
       rw[Qc9 _ (λb hb=>x3 b (.inr hb))]at this
       exact this) hst2
      refine Does.mono hleft ?_
      rintro v w' ⟨x,us,ρ',⟨rfl,rfl⟩,h1,h2,h3,rfl,h4⟩
      have hρ':∀b,pres N0 (λj=>listed.getD j false) hs b=true->ρ' b=ρ b:=λb hb=>by
       refine h3 b ?_
       by_cases hbW:b∈(rwE Γ M' (XM V T env' M' M'.length k.o.op)).2.1
       . left
         rcases Yy b M'.length with h|h
         . exact h
         . have:=x4 b (by rw[hW];exact hbW) h
           rw[this]at hb;cases hb
       . exact .inr hbW
      refine hnext2 w' ρ' hρ' (HM.ups hpav hρ' k.us hop.2.2.2.1 ?_)
      rw[h1,Qc9 _ (λb hb=>x3 b (.inr hb))]
      exact h4
  · -- the one at which the run stands
    cases hF with
    |fin hl hcc hn=>
     exfalso
     have hnd:(hs.map (λk=>k.h.i)).Nodup:=by
      have:∀(l:List Hop),QbC (QcR [] all) (l.map (·.h))=true->(l.map (λk=>k.h.i)).Nodup:=by
       intro l
       induction l with
       |nil=>intro _;exact Zbc
       |cons q r ih=>
        intro h
        rw[Z4]at h
        have h1:=(Xp (post:=[]) h).1
        simp only[QbC,Zr]at h
        refine List.nodup_cons.2 ⟨λhm=>?_,ih h.2⟩
        obtain⟨z,hz,e⟩:=List.mem_map.1 hm
        exact (h1 z.h (Yj hz)).1 e
      exact this hs hpr
     have:=Qhl all.length (i::hs.map (λk=>k.h.i)) (List.nodup_cons.2 ⟨λh=>by obtain⟨z,hz,e⟩:=List.mem_map.1 h;exact hex ⟨z,hz,e⟩,hnd⟩) (λj hj=>by
      rcases List.mem_cons.1 hj with rfl|hj
      . exact hilt
      . obtain⟨z,hz,rfl⟩:=List.mem_map.1 hj
        exact hc.lt z.h (Z0 _ (Yj hz)))
     simp only[Yf,ZN]at this
     omega
    |bar ib ob l hob hdo hw hcc hkk=>
     have hcb:=QcP hcc
     have hiib:i=ib:=by
      by_cases e:i=ib
      . exact e
      . exfalso
        have hbr:=hcb.br
        simp only[Qqw,Zr,cond_true,YK]at hbr
        have:=hbr.1 i (List.mem_range.2 hilt)
        simp only[Za1,XI,Zbn,ZbF,ZbD,Function.comp]at this
        rcases this with (h|⟨q,hq,h⟩)|h
        . exact e h
        . exact hex ⟨q,hq,h⟩
        . have hLb:=Qen hL ho (λe hee hb=>he e hee hb) ib h
          obtain⟨q,hq,e2⟩:=hin ib hLb
          exact ((Xp (post:=[]) hcb.pr).1 q.h (Yj hq)).1 e2
     subst hiib
     rw[ho]at hob
     have hob:=YP hob
     subst hob
     have p1:=(Xp (post:=[]) hcb.pr).1
     have hbefL:∀j,j∈bef all i->listed.getD j false=true:=λj hj=>Qen hL ho (λe hee hb=>he e hee hb) j hj
     obtain⟨x1,x2,x3,x4⟩:=exec [] hs hs env M (rwE Γ M (XM V T env M M.length o.op)).1 (rwE Γ M (XM V T env M M.length o.op)).2.1 rfl (.inl rfl) hd (by simp) (λq hq=>by
      obtain⟨g1,g2,g3⟩:=p1 q.h (Yj hq)
      refine⟨g1,g2,λhLq=>?_⟩
      rcases g3 with g3|g3
      . have:=hbefL _ g3
        rw[hLq]at this;cases this
      . have:=Qcj g3
        exact⟨λb hb hbq=>(this.1 b hbq).1 hb,λb hb hbq=>(this.1 b hbq).2 hb⟩)
     have hexec:execOp a.eval o=execOp (actT ρ a0 hs).eval o:=execOp_congr o hst (λx hx=>QiJ (λt hxt=>x1 t (by
      unfold ZdL
      refine Yc _ (List.mem_filterMap.2 ⟨x,by simpa using hx,by rw[hxt]⟩))))
     have hwt:=QfB (ops:=all.toArray) (o:=o) x1
     rw[Zf (by rw[hwt];exact hw ρ _ x2)]
     left
     refine Qeu ?_
     rw[hexec]
     have hE:=QhE (P:=P) (V:=V) (ρ:=ρ) (M:=M) (nx:=M.length) (env:=env) (T:=T) (hV.v HM.kept) hT hT2 x2 o
     have hWn:(rwE Γ M (XM V T env M M.length o.op)).2.1.Nodup:=QfF hkk
     have hleft:=Qhb (o:=o) hΓ HM.kept hE (λb hb x hx=>by
      rw[<- x3 b (.inl hb)]at hx;exact HM.at b x hx) (by
      have:=HM.some _ hWn
      rw[Qc9 _ (λb hb=>x3 b (.inr hb))]at this
      exact this) hkk
     refine Does.mono hleft ?_
     rintro v w' ⟨x,us,ρ',hK,h1,h2,h3,rfl,h4⟩
     have hρ':∀b,pres N0 (λj=>listed.getD j false) hs b=true->ρ' b=ρ b:=λb hb=>by
      refine h3 b ?_
      by_cases hbW:b∈(rwE Γ M (XM V T env M M.length o.op)).2.1
      . left
        rcases Yy b M.length with h|h
        . exact h
        . have:=x4 b hbW h
          rw[this]at hb;cases hb
      . exact .inr hbW
     have HM':=HM.ups hpav hρ' us (by rw[h1];exact h2) (by
      rw[h1,Qc9 _ (λb hb=>x3 b (.inr hb))]
      exact h4)
     let k:Hop:=⟨⟨i,(rwE Γ M (XM V T env M M.length o.op)).1,(rwE Γ M (XM V T env M M.length o.op)).2.1,x.refs++Qay us,true⟩,o,x,us⟩
     have hdk:DP V T Γ nt all env0 M0 (k::hs) (putS o.dst x env) (QW M us):=.op hd ⟨ho,hdo,h1,by rw[h1];exact h2,λb hb=>hb,.inr ⟨hw,rfl,rfl,.inl rfl⟩⟩
     obtain⟨hs2,env2,M2,d2,F2,nb2⟩:=Qc7 (hs:=k::hs) hΓ l _ _ hdk hK
     have hag':∀i,i<N0->ρ' i=ρ0 i:=λi hi=>(hρ' i (pres_iff.2 (.inl hi))).trans (hag i hi)
     obtain⟨H2,hH2,bs2,rfl⟩:=F2.chk
     have hc2:=QcP hH2
     have hpr2:=QaC hc2.pr
     have hpr3:=hpr2
     rw[YW]at hpr3
     have hnot2:∀q∈hs2,(∀z∈k::hs,z.h.i≠q.h.i):=λq hq z hz=>by
      obtain⟨post,pre,e⟩:=ZaY hz
      rw[e,YW,Z4,<- Yb]at hpr3
      exact ((Xp hpr3).2 q.h (Yc _ (Yj hq))).1
     have hL2off:∀q∈hs2,(listed.setIfInBounds i true).getD q.h.i false=false:=λq hq=>by
      have hne:q.h.i≠i:=λe=>hnot2 q hq k ZC e.symm
      rw[hLn _ hne]
      cases hLq:listed.getD q.h.i false with
      |false=>rfl
      |true=>
       obtain⟨z,hz,e⟩:=hin _ hLq
       exact absurd e (hnot2 q hq z (ZF _ hz))
     refine ih _ (hs2++k::hs) env2 M2 _ w' ρ' hsz' hun' hcl' d2 F2 (λj hj=>?_) (λq hq hb=>?_) ?_ hag' ?_
     . by_cases e:j=i
       . exact⟨k,by simp,e.symm⟩
       . rw[hLn j e]at hj
         obtain⟨q,hq,e⟩:=hin j hj
         exact⟨q,Z0 _ (ZF _ hq),e⟩
     . rcases List.mem_append.1 hq with hq|hq
       . rw[nb2 q hq]at hb;cases hb
       . rcases List.mem_cons.1 hq with rfl|hq
         . rw[hL',Zf rfl]
         . have:=hbar q hq hb
           rw[hL'];split<;>simp_all
     . refine PA.put hpa hdo (λq hq hLq hne=>?_) (λq hq e=>?_) (λq hq hLq=>⟨Z0 _ (ZF _ hq),by simp only[hL'];split<;>simp_all⟩) ⟨k,by simp,rfl,by simp only[hL'];exact Zf rfl⟩
       . rcases List.mem_append.1 hq with hq2|hq2
         . simp only[hL2off q hq2]at hLq;cases hLq
         . rcases List.mem_cons.1 hq2 with rfl|hq
           . exact absurd rfl hne
           . simp only[hLn _ hne]at hLq
             refine⟨hq,hLq,?_,λt ht hd=>?_⟩
             . refine Zcp (p:=pres N0 (λj=>listed.getD j false) hs) hρ' (SV.av_refs (λb hb=>QdT hL hc hoo hin hq hLq b ((hok q hq).2.2.2.2 b (Yc _ hb))))
             . exact (statB_spec hc.st ho (hoo q hq) (λe=>hne e.symm)).1 t hd ht
       . have e2:=QgM hpr2 hq (Z0 _ ZC:k∈hs2++k::hs) e
         subst e2;exact⟨rfl,rfl⟩
     . rw[Qf6 hL2off]
       have:XL (λj=>(listed.setIfInBounds i true).getD j false) M0 (k::hs)=QW (XL (λj=>listed.getD j false) M0 hs) us:=by
        simp only[XL]
        rw[show (listed.setIfInBounds i true).getD k.h.i false=true by rw[hL'];exact Zf rfl,cond_true,QdH (L:=λj=>listed.getD j false) (L':=λj=>(listed.setIfInBounds i true).getD j false) (λq hq=>hLn _ (λe=>hex ⟨q,hq,e⟩))]
       rw[this];exact HM'
end
end
section
open Go.RowKit
def Qgv (id:Nat):List Item->Option (List Item)
 |.inBlock i::k=>bif i.beq id then some k else Qgv id k
 |_::k=>Qgv id k
 |[]=>none
abbrev OS:=List (Code × List Item × (Env->List SB->Prop))
def flat:OS->List Item
 |[]=>[]
 |(b,k,_)::r=>.inLoop b::(k++flat r)
inductive NZ where
 |tmp (t e sz:Nat) (ks:List CK)
 |cell (t o e sz:Nat) (ks:List CK)
 |blk (b o e sz:Nat) (ks:List CK)
def nrmB (env:Env) (M:List SB) (b o e sz:Nat) (ks:List CK):Env × List SB:=match getB M b with
 |.cells l t=>match segGet l o with
  |some (.v (.slice none n m))=>match Qap l o (.so M.length 0 sz 0 0 false)with
   |some l'=>bif b.blt M.length&&(n.beq 0&&m.beq 0)then (env,QW M [(b,.cells l' t),(M.length,.rows e ks sz 0 0 (λ_ _=>0))])else (env,M)
   |none=>(env,M)
  |_=>(env,M)
 |_=>(env,M)
def nrm1 (env:Env) (M:List SB):NZ->Env × List SB
 |.tmp t e sz ks=>match lk env t with
  |some (.o (.c (.v (.slice none n m))))=>bif n.beq 0&&m.beq 0 then ((t,.o (.c (.so M.length 0 sz 0 0 false)))::env,QW M [(M.length,.rows e ks sz 0 0 (λ_ _=>0))])else (env,M)
  |_=>(env,M)
 |.cell t o e sz ks=>match lk env t with
  |some (.o (.c (.p b off)))=>nrmB env M b (off+o) e sz ks
  |_=>(env,M)
 |.blk b o e sz ks=>nrmB env M b o e sz ks
def nrmS:List NZ->Env->List SB->Env × List SB
 |[],env,M=>(env,M)
 |z::r,env,M=>match nrm1 env M z with
  |(env',M')=>nrmS r env' M'
structure Ann where
 σ:Type
 I:σ->Env × List SB
 dec:σ->Nat
 pi:Env->List SB->List Nat
 nz:List NZ
 rel:Option (σ->σ->Prop):=none
abbrev Anns:=List (Nat × Ann)
def lkA:Anns->Nat->Option Ann
 |[],_=>none
 |(t,i)::r,u=>bif t.beq u then some i else lkA r u
def lkAG:List (Nat × Anns)->Nat->Anns
 |[],_=>[]
 |(t,i)::r,u=>bif t.beq u then i else lkAG r u
def annAt (An:Anns):List Item->Option Ann
 |.inBlock id::_=>lkA An id
 |_=>none
def Qnb (f:Nat->Nat) (env:Env):Env->Prop
 |[]=>True
 |(t,x)::r=>lk env t=some (x.ren f)/\Qnb f env r
def idB:Nat->Nat->List Nat->Bool
 |_,0,_=>true
 |i,n+1,j::r=>i.beq j&&idB (i+1) n r
 |_,_+1,[]=>false
def Qna (k0:Nat) (π:List Nat) (G:Env × List SB) (env:Env) (M:List SB):Prop:=
 bif nodB π&&QaZ M.length π&&idB 0 k0 π&&Xj (sc G.2.length) G.2&&Qbs (sc G.2.length) G.1&&k0.ble G.2.length then Qnb (ofL π) env G.1/\π.map (getB M)=G.2.map (SB.ren (ofL π))else False
def QfZ (k0:Nat) (A:Ann) (s:A.σ) (env:Env) (M:List SB):Prop:=match nrmS A.nz env M with
 |(env',M')=>Qna k0 (A.pi env' M') (A.I s) env' M'
def QlV (id:Nat):List Item->OS->Option (List Item × OS)
 |k,os=>match Qgv id k with
  |some k'=>some (k',os)
  |none=>match os with
   |[]=>none
   |(_,k',_)::r=>QlV id k' r
def Q8:Nat->List SA->Env
 |_,[]=>[]
 |i,x::r=>(i,.o x)::Q8 (i+1) r
def resS (V:World) (T:Tab) (env:Env) (M:List SB):ResultVar->Option (Option Prop × SA)
 |.tmp t=>match lk env t with
  |some (.o x)=>some (none,x)
  |_=>none
 |.cell b t=>match lk env b with
  |some (.o (.c (.p c off)))=>match Qng V T M t (some (.o (.c (.p c off))))with
   |.eff _ vc (.o x) []=>some (vc,x)
   |_=>none
  |_=>none
def Qmg:Option Prop->Option Prop->Option Prop
 |none,q=>q
 |some p,none=>some p
 |some p,some q=>some (p/\q)
theorem QkN {p q:Option Prop}:vcP (Qmg p q)↔vcP p/\vcP q:=by cases p<;>cases q<;>simp[Qmg,vcP]
def resL (V:World) (T:Tab) (env:Env) (M:List SB):List ResultVar->Option (Option Prop × List SA)
 |[]=>some (none,[])
 |r::l=>match resS V T env M r,resL V T env M l with
  |some (p,x),some (q,y)=>some (Qmg p q,x::y)
  |_,_=>none
def svOf:List SA->SV
 |[x]=>.o x
 |l=>.t l
def finS (V:World) (T:Tab) (res:List ResultVar) (R:SV->List SB->Prop) (env:Env) (M:List SB):Prop:=match resL V T env M res with
 |some (vc,l)=>Qmh vc (R (svOf l) M)
 |none=>False
structure Fx where
 fn:Func
 nt:Nat
 an:Anns
 k0:Nat
 fin:Env->List SB->Prop
def isInl:Option Con->Option (Func × Code)
 |some (.inl fn c)=>some (fn,c)
 |_=>none
def QpQ (Γ:Gam):Eff->Option (Nat × Func × Code × List SA)
 |.call f args=>match isInl (lkGA Γ f args)with
  |some (fn,c)=>some (f,fn,c,args)
  |none=>none
 |_=>none
def QaN (p:Nat->Bool):List SA->Bool
 |[]=>true
 |x::r=>x.av p&&QaN p r
def Qev (p:Nat->Bool):Ups->Bool
 |[]=>true
 |(_,x)::r=>x.av p&&Qev p r
section
variable (V:World) (T:Tab) (Γ:Gam) (AG:List (Nat × Anns))
def run:Nat->Fx->Option (List Oper × List Oper)->OS->List Item->Env->List SB->Prop
 |0,_,_,_,_,_,_=>False
 |_+1,fx,none,os,[],env,M=>match os with
  |[]=>fx.fin env M
  |(_,_,hook)::_=>hook env M
 |n+1,fx,none,os,.inBlock _::k,env,M=>run n fx none os k env M
 |n+1,fx,none,os,.inLoop b::k,env,M=>run n fx none os (.code b::.inLoop b::k) env M
 |n+1,fx,none,os,.code c::k,env,M=>match c with
  |.skip=>run n fx none os k env M
  |.label _=>run n fx none os k env M
  |.seq x y=>run n fx none os (.code x::.code y::k) env M
  |.block id b=>run n fx none os (.code b::.inBlock id::k) env M
  |.loop b=>match annAt fx.an k with
   |none=>run n fx none os (.code b::.inLoop b::k) env M
   |some A=>match A.rel with
    |none=>(∃s0:A.σ,QfZ fx.k0 A s0 env M)/\∀s:A.σ,run n fx none ((b,k,λenv M=>∃s':A.σ,QfZ fx.k0 A s' env M/\A.dec s'<A.dec s)::os) [.code b] (A.I s).1 (A.I s).2
    |some rl=>∃s0:A.σ,QfZ fx.k0 A s0 env M/\rl s0 s0/\∀s:A.σ,rl s0 s->run n fx none ((b,k,λenv M=>∃s':A.σ,QfZ fx.k0 A s' env M/\rl s0 s'/\A.dec s'<A.dec s)::os) [.code b] (A.I s).1 (A.I s).2
  |.exit id=>match QlV id k os with
   |some (k',os')=>run n fx none os' k' env M
   |none=>False
  |.ret=>fx.fin env M
  |.cond c x y=>match QO env c with
   |some (.o (.c (.v (.bool b))))=>bif b then run n fx none os (.code x::k) env M else run n fx none os (.code y::k) env M
   |_=>False
  |.region _ ops false=>run n fx (some (ops.toList,ops.toList)) os k env M
  |.region id ops true=>drun V T Γ fx.nt (λenv M=>run n fx none os k env M) fx.fn id ops.toList M.length (QqJ Γ ops.toList) [] env M
  |_=>False
 |_+1,_,none,_,_::_,_,_=>False
 |n+1,fx,some (_,[]),os,k,env,M=>run n fx none os k env M
 |n+1,fx,some (all,o::l),os,k,env,M=>
  bif Qgw fx.nt o.dst then match QgN all o.guard with
   |some g=>
    let go:Env->Prop:=λenv=>
     let e:=XM V T env M M.length o.op
     match QpQ Γ e with
     |some (f,fn,c,args)=>bif args.length.ble fn.ntmps&&QaN (sc M.length) args then
      run n ⟨fn,fn.ntmps,lkAG AG f,M.length,λenv' M'=>finS V T fn.results.toList (λx M''=>bif x.av (sc M''.length)then run n fx (some (all,l)) os k (putS o.dst x env) M'' else False) env' M'⟩ none [] [.code c] (Q8 0 args) M else False
     |none=>Qcc Γ M o (λx us=>bif x.av (sc (QW M us).length)&&Qev (sc (QW M us).length) us then run n fx (some (all,l)) os k (putS o.dst x env) (QW M us)else False) e
    match g with
    |none=>go env
    |some (t,want)=>match lk env t with
     |some (.o (.c (.v (.bool b))))=>
      bif b then (bif want then go ((t,sv (.bool true))::env)else run n fx (some (all,l)) os k (putS o.dst (sv undef) ((t,sv (.bool true))::env)) M)
      else (bif want then run n fx (some (all,l)) os k (putS o.dst (sv undef) ((t,sv (.bool false))::env)) M else go ((t,sv (.bool false))::env))
     |some (.o (.c (.v (.tuple _))))=>run n fx (some (all,l)) os k (putS o.dst (sv undef) env) M
     |_=>False
   |none=>False
  else False
end
def Goes (P:Program) (f:FuncId) (fn:Func) (k:List Item) (a:Act) (w:World) (R:Ending->World->Prop):Prop:=
 ∀(b:Frame) (cs:List Frame),b.fn=f->b.kind=.normal->∃e w' fr,R e w'/\Comes P (lone (b.at a k) cs w) (lone fr cs w') e/\fr.fn=f/\fr.leaving P w' e
def QoV (P:Program) (f:FuncId) (fn:Func) (k:List Item) (R:Ending->World->Prop):Exit->Act->World->Prop
 |.normal,a,w=>Goes P f fn k a w R
 |.exit id,a,w=>∃k',exitTo id k=some k'/\Goes P f fn k' a w R
 |.ret,a,w=>a.defers=[]/\∃v,(results fn a.tmps).run P w=.ok v w/\R (.returned v) w
 |.panic chain,a,w=>a.defers=[]/\R (.panicked chain) w
 |.outgrown,_,w=>R .outgrown w
 |.goto _,_,_=>False
section
variable {P:Program}{f:FuncId}{fn:Func}{R:Ending->World->Prop}
theorem Qd6 (hf:P.funcs[f]?=some fn) {c:Code}{k:List Item}{a:Act}{w:World}(h:c.wp P (QoV P f fn k R) a w):Goes P f fn (.code c::k) a w R:=by
 intro b cs hb hk
 obtain⟨e,a',w',hq,harr⟩:=h b k cs
 cases e with
 |normal=>
  obtain⟨e,w2,fr,h1,h2,h3,h4⟩:=hq b cs hb hk
  exact⟨e,w2,fr,h1,Zdi harr h2,h3,h4⟩
 |exit id=>
  obtain⟨k',hx,hg⟩:=hq
  obtain⟨e,w2,fr,h1,h2,h3,h4⟩:=hg b cs hb hk
  exact⟨e,w2,fr,h1,Zdi (harr k' hx) h2,h3,h4⟩
 |goto l=>exact hq.elim
 |ret=>
  obtain⟨hd,v,hr,hR⟩:=hq
  obtain⟨todo,hs⟩:=harr
  exact⟨.returned v,w',_,hR,hs,hb,rfl,hd,hk,fn,by rw[<- hb]at hf;exact hf,hr⟩
 |panic chain=>
  obtain⟨hd,hR⟩:=hq
  obtain⟨todo,hs⟩:=harr
  exact⟨.panicked chain,w',_,hR,hs,hb,rfl,hd,fn,by rw[<- hb]at hf;exact hf⟩
 |outgrown=>exact⟨.outgrown,w',b,hq,harr.resolve_left (by rw[hk];simp),hb,Zd⟩
theorem QpV (hf:P.funcs[f]?=some fn) {a:Act}{w:World}(hd:a.defers=[]) {v:Value}(hr:(results fn a.tmps).run P w=.ok v w) (hR:R (.returned v) w):Goes P f fn [] a w R:=by
 intro b cs hb hk
 exact⟨.returned v,w,_,hR,.one step_end,hb,rfl,hd,hk,fn,by rw[<- hb]at hf;exact hf,hr⟩
theorem Xr {k k':List Item}{a:Act}{w:World}(hs:∀(b:Frame) cs,step P (lone (b.at a k) cs w)=.next (lone (b.at a k') cs w)) (h:Goes P f fn k' a w R):Goes P f fn k a w R:=by
 intro b cs hb hk
 obtain⟨e,w2,fr,h1,h2,h3,h4⟩:=h b cs hb hk
 exact⟨e,w2,fr,h1,Zdi (.one (hs b cs)) h2,h3,h4⟩
end
end
section
open Go.RowKit
def resF (tmps:Array Value):ResultVar->Sem Value
 |.tmp t=>pure (tmps.getD t undef)
 |.cell b t=>do loadVar t (<- asAddr (tmps.getD b undef))
theorem Qlc (fn:Func) (tmps:Array Value):results fn tmps=(do let vs <- fn.results.mapM (resF tmps);pure (if h:vs.size=1 then vs[0]else .tuple vs)):=by
 unfold results
 congr 2
section
variable {P:Program}{w0 w:World}{S:Nat->Prop}{ρ:Nat->Nat}{M:List SB}{nt:Nat}{env:Env}{a:Act}{T:Tab}{fn:Func}
theorem Qru {V:World}(hV:OldOk V w0 S) (hT:TabOk P T) (hE:EnvOk ρ nt env a) (HM:Mem w0 S (denM ρ 0 M) w) {r:ResultVar}{vc:Option Prop}{x:SA}(h:resS V T env M r=some (vc,x)) (hv:vcP vc):
 (resF a.tmps r).run P w=.ok (x.den ρ) w:=by
 cases r with
 |tmp t=>
  simp only[resS]at h
  split at h
  . rename_i y hl
    simp only[Zn,ZT]at h
    obtain⟨-,rfl⟩:=h
    have:=hE.eval (x:=.tmp t) hl
    simp only[Zel]at this
    simp only[resF,this,ZZ];rfl
  . cases h
 |cell b t=>
  simp only[resS]at h
  split at h
  . rename_i c off hl
    have hp:=hE.eval (x:=.tmp b) hl
    simp only[Zel]at hp
    have e:(ZG (.c (.p c off))).den ρ=.pointer (some ⟨ρ c,off,none⟩):=rfl
    rw[e]at hp
    have hk:=Qkf (V:=V) (M:=M) (w:=w) hT (hV.v HM.kept) t (x:=some (.o (.c (.p c off)))) (v:=.pointer (some ⟨ρ c,off,none⟩)) (λy hy=>by simp only[Zn]at hy;subst hy;rfl)
    split at h
    . rename_i TT vc' y hld
      simp only[Zn,ZT]at h
      obtain⟨rfl,rfl⟩:=h
      rw[hld]at hk
      have:=hk.2 (λb _=>HM.at b) hv
      simp only[Instr.loadAt,Instr.sureAddr,Zx,ZZ,ZD]at this
      simp only[resF,hp,asAddr,Zx,ZZ,ZD]
      cases hr:(loadVar t ⟨ρ c,off,none⟩).run P w with
      |ok v w'=>
       rw[hr]at this
       simp only[ZD,Result.ok.injEq,Next.value.injEq]at this
       obtain⟨rfl,rfl⟩:=this;rfl
      |halt hh w'=>rw[hr]at this;cases this
    . cases h
  . cases h
theorem QmO {V:World}(hV:OldOk V w0 S) (hT:TabOk P T) (hE:EnvOk ρ nt env a) (HM:Mem w0 S (denM ρ 0 M) w):∀(l:List ResultVar) {vc:Option Prop}{x:List SA},resL V T env M l=some (vc,x)->vcP vc ->
 (l.mapM (resF a.tmps)).run P w=.ok (x.map (Y2 ρ)) w
 |[],vc,x,h,hv=>by
  simp only[resL,Zn,ZT]at h
  obtain⟨-,rfl⟩:=h;rfl
 |r::l,vc,x,h,hv=>by
  simp only[resL]at h
  split at h
  . rename_i p y q z h1 h2
    simp only[Zn,ZT]at h
    obtain⟨rfl,rfl⟩:=h
    obtain⟨v1,v2⟩:=QkN.1 hv
    have e1:=Qru hV hT hE HM h1 v1
    have e2:=QmO hV hT hE HM l h2 v2
    simp only[List.mapM_cons,Zx]
    rw[e1]
    simp only[ZD,e2,ZZ,Z4]
  . cases h
theorem QgF {V:World}(hV:OldOk V w0 S) (hT:TabOk P T) (hE:EnvOk ρ nt env a) (HM:Mem w0 S (denM ρ 0 M) w) {R:SV->List SB->Prop}(h:finS V T fn.results.toList R env M):
 ∃x,R x M/\(results fn a.tmps).run P w=.ok (x.den ρ) w:=by
 unfold finS at h
 split at h
 . rename_i vc l hl
   obtain⟨h1,h2⟩:=Qbe.1 h
   refine⟨svOf l,h2,?_⟩
   have e:=QmO hV hT hE HM _ hl h1
   rw[Qlc,Array.mapM_eq_mapM_toList]
   simp only[Zx,map_eq_pure_bind]
   rw[e]
   simp only[ZD,ZZ]
   congr 1
   by_cases h1:l.length=1
   . obtain⟨y,rfl⟩:=List.length_eq_one_iff.1 h1
     simp[svOf,Zci]
   . rw[dif_neg (by simpa using h1)]
     unfold svOf
     split
     . exact absurd rfl h1
     . rfl
 . exact h.elim
end
structure Inv (ρ0:Nat->Nat) (k0 nt:Nat) (w0:World) (S:Nat->Prop) (env:Env) (M:List SB) (ρ:Nat->Nat) (a:Act) (w:World):Prop where
 av:MemAv (sc M.length) M
 eav:Qbs (sc M.length) env=true
 env:EnvOk ρ nt env a
 mem:Mem w0 S (denM ρ 0 M) w
 ag:∀i,i<k0->ρ i=ρ0 i
 le:k0<=M.length
def Qgn (P:Program) (f:FuncId) (fn:Func) (w0:World) (S:Nat->Prop) (ρ0:Nat->Nat) (k0 nt:Nat) (R:Ending->World->Prop):OS->Prop
 |[]=>True
 |(b,k,hook)::r=>(∀env M ρ a w,hook env M->Inv ρ0 k0 nt w0 S env M ρ a w->Goes P f fn (.inLoop b::(k++flat r)) a w R)/\Qgn P f fn w0 S ρ0 k0 nt R r
section
variable {P:Program}{f:FuncId}{fn:Func}{R:Ending->World->Prop}{w0:World}{S:Nat->Prop}
theorem QbG (id:Nat) (K:List Item):∀(k:List Item),(∀k',Qgv id k=some k'->exitTo id (k++K)=some (k'++K))/\(Qgv id k=none->exitTo id (k++K)=exitTo id K)
 |[]=>⟨λk' h=>by simp[Qgv]at h,λ_=>rfl⟩
 |x::r=>by
  have ih:=QbG id K r
  cases x
  case inBlock i=>
   simp only[Qgv,Ym,exitTo]
   by_cases h:i=id
   . subst h;simp
   . have hb:i.beq id=false:=by
      cases hb:i.beq id
      . rfl
      . exact absurd (Zo hb) h
     have:(i==id)=false:=by simp[h]
     simp only[hb,this,cond_false,Bool.false_eq_true,if_false]
     exact ih
  all_goals (simp only[Qgv,Ym,exitTo];exact ih)
theorem QgQ {ρ0:Nat->Nat}{k0 nt:Nat}(id:Nat):∀(os:OS) (k k2:List Item) (os2:OS),QlV id k os=some (k2,os2)->Qgn P f fn w0 S ρ0 k0 nt R os ->
 exitTo id (k++flat os)=some (k2++flat os2)/\Qgn P f fn w0 S ρ0 k0 nt R os2
 |[],k,k2,os2,h,hh=>by
  unfold QlV at h
  cases hx:Qgv id k with
  |none=>rw[hx]at h;cases h
  |some k'=>
   rw[hx]at h
   simp only[Zn,ZT]at h
   obtain⟨rfl,rfl⟩:=h
   exact⟨(QbG id _ k).1 _ hx,hh⟩
 |(b,k',hook)::r,k,k2,os2,h,hh=>by
  unfold QlV at h
  cases hx:Qgv id k with
  |none=>
   rw[hx]at h
   obtain⟨g1,g2⟩:=QgQ id r k' k2 os2 h hh.2
   exact⟨by rw[(QbG id _ k).2 hx];simp only[flat,exitTo];exact g1,g2⟩
  |some k3=>
   rw[hx]at h
   simp only[Zn,ZT]at h
   obtain⟨rfl,rfl⟩:=h
   exact⟨(QbG id _ k).1 _ hx,hh⟩
theorem Qif {p:Nat->Bool}:∀ {M:List SB},Xj p M=true->∀b,(getB M b).av p=true
 |[],_,b=>rfl
 |x::r,h,0=>by simp only[Xj,Zr]at h;exact h.1
 |x::r,h,b+1=>by simp only[Xj,Zr]at h;exact Qif h.2 b
theorem Qfn {M:List SB}(h:Xj (sc M.length) M=true):MemAv (sc M.length) M:=λb=>by
 rcases Yy b M.length with hb|hb
 . exact .inr ⟨QaS hb,Qif h b⟩
 . exact .inl (Qd7 M b hb)
theorem Qhw:∀(k i:Nat) (π:List Nat),idB i k π=true->∀j,j<k->π[j]?=some (i+j)
 |0,_,_,_,j,h=>Za
 |k+1,i,[],h,_,_=>by cases h
 |k+1,i,q::r,h,j,hj=>by
  simp only[idB,Zr]at h
  obtain rfl:=Zo h.1
  cases j with
  |zero=>rfl
  |succ j=>rw[Zah,Qhw k (i+1) r h.2 j Za];congr 1;omega
theorem QgJ {f:Nat->Nat}{env:Env}:∀ {E:Env},Qnb f env E->∀t x,lk E t=some x->lk env t=some (x.ren f)
 |[],_,t,x,h=>by simp[lk]at h
 |(u,y)::r,hm,t,x,h=>by
  unfold lk at h
  cases hb:u.beq t
  . rw[hb]at h;exact QgJ hm.2 t x h
  . rw[hb]at h
    have:=Zo hb
    subst this
    simp only[cond_true,Zn]at h;subst h
    exact hm.1
theorem Qm9 {ρ0:Nat->Nat}{k0 nt:Nat}{π:List Nat}{G:Env × List SB}{env:Env}{M:List SB}{ρ:Nat->Nat}{a:Act}{w:World}(h:Qna k0 π G env M) (hi:Inv ρ0 k0 nt w0 S env M ρ a w):
 Inv ρ0 k0 nt w0 S G.1 G.2 (λi=>ρ (ofL π i)) a w:=by
 unfold Qna at h
 cases hc:(nodB π&&QaZ M.length π&&idB 0 k0 π&&Xj (sc G.2.length) G.2&&Qbs (sc G.2.length) G.1&&k0.ble G.2.length)
 . rw[hc]at h;exact h.elim
 . rw[hc]at h
   simp only[cond_true]at h
   simp only[Zr]at hc
   obtain⟨⟨⟨⟨⟨c1,c2⟩,c3⟩,c4⟩,c5⟩,c6⟩:=hc
   refine⟨Qfn c4,c5,⟨hi.env.defers,hi.env.size,λt x hx=>?_⟩,?_,λi hik=>?_,XZ c6⟩
   . rw[hi.env.get t _ (QgJ h.1 t x hx),SV.ren_den]
   . have hd:=Qc8 (ρ:=ρ) (M:=M) π G.2 (ofL π) 0 (λi hi=>by rw[Zu,Zy hi];simp[ofL,Zp,hi]) h.2
     rw[<- hd]
     have hlt:=QaT c2
     exact (hi.mem.perm (Qbc ρ M π M.length (Zq _) (Qar c1) hlt)).sub (Za7 _ _)
   . have:=Qhw k0 0 π c3 i hik
     show ρ (ofL π i)=_
     unfold ofL
     rw[Zp,this,Y5,Zu]
     exact hi.ag i hik
theorem QhG {ρ:Nat->Nat}(args:List SA) (n:Nat) (h:args.length<=n):EnvOk ρ n (Q8 0 args) { tmps:=(args.map (Y2 ρ)).toArray++Zak (n-args.length) undef,defers:=[] }:=by
 have key:∀(l:List SA) (i t:Nat) (x:SV),lk (Q8 i l) t=some x->∃j y,t=i+j/\l[j]?=some y/\x=.o y:=by
  intro l
  induction l with
  |nil=>intro i t x h;simp[Q8,lk]at h
  |cons y r ih=>
   intro i t x h
   simp only[Q8,lk]at h
   cases hb:i.beq t
   . rw[hb]at h
     obtain⟨j,z,h1,h2,h3⟩:=ih (i+1) t x h
     exact⟨j+1,z,Za,h2,h3⟩
   . rw[hb]at h
     have:=Zo hb
     subst this
     simp only[cond_true,Zn]at h;subst h
     exact⟨0,y,rfl,rfl,rfl⟩
 refine⟨rfl,by simp;omega,λt x hx=>?_⟩
 obtain⟨j,y,rfl,hj,rfl⟩:=key args 0 t x hx
 rw[Zu]
 have hlt:j<args.length:=(List.getElem?_eq_some_iff.1 hj).1
 rw[Array.getElem?_append_left (by simpa using hlt),Zap,Ya,hj];rfl
theorem QbX {p:Nat->Bool}:∀(l:List SA) (i:Nat),(∀x∈l,x.av p=true)->Qbs p (Q8 i l)=true
 |[],_,_=>rfl
 |x::r,i,h=>by simp only[Q8,Qbs,Zr];exact⟨h x ZC,QbX r (i+1) (λy hy=>h y (ZF _ hy))⟩
theorem Qh2 {p:Nat->Bool}:∀ {us:Ups},Qev p us=true->∀q∈us,q.2.av p=true
 |[],_,q,h=>by simp at h
 |(b,x)::r,h,q,hq=>by
  simp only[Qev,Zr]at h
  rcases List.mem_cons.1 hq with rfl|hq
  . exact h.1
  . exact Qh2 h.2 q hq
theorem QgI {M:List SB}{us:Ups}(h:MemAv (sc M.length) M) (hn:(us.map (·.1)).Nodup) (hu:Qev (sc (QW M us).length) us=true):MemAv (sc (QW M us).length) (QW M us):=by
 obtain⟨h1,h2⟩:=QbP us M
 intro b
 by_cases hb:b∈us.map (·.1)
 . obtain⟨⟨b',x⟩,hq,rfl⟩:=List.mem_map.1 hb
   right
   rw[XF us M hn hq]
   exact⟨QaS (h2 _ hb),Qh2 hu _ hq⟩
 . rw[Q6 us M hb]
   exact (h b).imp id (λhh=>⟨QaS (by have:=Xv hh.1;omega),SB.av_mono (λi hi=>QaS (by have:=Xv hi;omega)) hh.2⟩)
theorem QfH {p:Nat->Bool}:∀(l:List Seg) (o:Nat) (x:SC) (l':List Seg),Qap l o x=some l'->x.av p=true->QS p l=true->QS p l'=true
 |[],_,_,_,h,_,_=>by simp[Qap]at h
 |.one y::r,0,x,l',h,hx,hl=>by
  simp only[Qap,Zn]at h;subst h
  simp only[QS,Zr]at hl ⊢
  exact⟨hx,hl.2⟩
 |.one y::r,o+1,x,l',h,hx,hl=>by
  simp only[Qap]at h
  split at h
  . rename_i r' hr
    simp only[Zn]at h;subst h
    simp only[QS,Zr]at hl ⊢
    exact⟨hl.1,QfH r o x r' hr hx hl.2⟩
  . cases h
 |.ints k n f::r,o,x,l',h,hx,hl=>by
  simp only[Qap]at h
  cases hb:o.blt n
  . rw[hb]at h
    simp only[cond_false]at h
    split at h
    . rename_i r' hr
      simp only[Zn]at h;subst h
      simp only[QS]at hl ⊢
      exact QfH r _ x r' hr hx hl
    . cases h
  . rw[hb]at h
    simp only[cond_true]at h
    split at h
    . split at h
      . simp only[Zn]at h;subst h;exact hl
      . cases h
    . cases h
theorem Qm5 {ρ0:Nat->Nat}{k0 nt:Nat}{env:Env}{M:List SB}{ρ:Nat->Nat}{a:Act}{w:World}{w0:World}{S:Nat->Prop}(hi:Inv ρ0 k0 nt w0 S env M ρ a w) (us:Ups) (hn:((us++[(M.length,Zk 0 [] 0 0 0 (λ_ _=>0))]).map (·.1)).Nodup)
 (e sz:Nat) (ks:List CK) (hu:Qev (sc (M.length+1)) us=true) (hl:∀q∈us,q.1<M.length) (hd:denU ρ us=denT ρ M (us.map (·.1))):
 Inv ρ0 k0 nt w0 S env (QW M (us++[(M.length,.rows e ks sz 0 0 (λ_ _=>0))])) ρ a w/\(QW M (us++[(M.length,.rows e ks sz 0 0 (λ_ _=>0))])).length=M.length+1:=by
 have hlen:∀(us:Ups) (M:List SB),(∀q∈us,q.1<M.length)->(QW M us).length=M.length:=by
  intro us
  induction us with
  |nil=>intro M _;rfl
  |cons q r ih=>
   intro M h
   obtain⟨b,x⟩:=q
   have h1:=(QdV x M b).2.1 (h _ ZC)
   simp only[QW]
   rw[ih (putB M b x) (λq hq=>by rw[h1];exact h q (ZF _ hq)),h1]
 have happ:∀(us vs:Ups) (M:List SB),QW M (us++vs)=QW (QW M us) vs:=by
  intro us
  induction us with
  |nil=>intro vs M;rfl
  |cons q r ih=>intro vs M;obtain⟨b,x⟩:=q;simp only[Ym,QW];exact ih vs _
 have hL:(QW M (us++[(M.length,.rows e ks sz 0 0 (λ_ _=>0))])).length=M.length+1:=by
  rw[happ]
  simp only[QW]
  rw[(QdV _ (QW M us) M.length).2.2 (hlen us M hl).symm,hlen us M hl]
 have hn':((us++[(M.length,Zk e ks sz 0 0 (λ_ _=>0))]).map (·.1)).Nodup:=by simpa using hn
 have huA:∀(us vs:Ups) (p:Nat->Bool),Qev p us=true->Qev p vs=true->Qev p (us++vs)=true:=by
  intro us vs p
  induction us with
  |nil=>intro _ h;exact h
  |cons q r ih=>intro h1 h2;obtain⟨b,x⟩:=q;simp only[Ym,Qev,Zr]at h1 ⊢;exact⟨h1.1,ih h1.2 h2⟩
 refine⟨⟨?_,?_,hi.env,?_,hi.ag,by rw[hL];exact Nat.le_succ_of_le hi.le⟩,hL⟩
 . exact QgI hi.av hn' (by rw[hL];exact huA _ _ _ hu rfl)
 . rw[hL];exact QbY (λi h=>QaS (by have:=Xv h;omega)) hi.eav
 . refine hi.mem.ups hi.av (λ_ _=>rfl) _ hn' ?_
   have hU:denU ρ (us++[(M.length,Zk e ks sz 0 0 (λ_ _=>0))])=denU ρ us++[.row (ρ M.length) e sz 0 0 []]:=by
    clear hn hn' hu hl hd hL
    induction us with
    |nil=>rfl
    |cons q r ih=>obtain⟨b,x⟩:=q;simp only[Ym,denU,ih,Yb]
   have hT:denT ρ M ((us++[(M.length,Zk e ks sz 0 0 (λ_ _=>0))]).map (·.1))=denT ρ M (us.map (·.1)):=by
    clear hn hn' hu hl hd hL hU
    induction us with
    |nil=>simp[denT,Qd7 M M.length (Zq _),denB]
    |cons q r ih=>obtain⟨b,x⟩:=q;simp only[Ym,Z4,denT,ih]
   rw[hU,hT,hd]
   have hs:=hi.mem.some (us.map (·.1)) (by rw[YW,List.nodup_append]at hn;exact hn.1)
   refine⟨hs.kept,λx hx=>?_,λx hx g hg=>?_,?_⟩
   . rcases List.mem_append.1 hx with hx|hx
     . exact hs.holds x hx
     . rw[Y0]at hx;subst hx
       exact⟨Zq _,by simp,λh=>absurd h Za⟩
   . rcases List.mem_append.1 hx with hx|hx
     . exact hs.own x hx g hg
     . rw[Y0]at hx;subst hx
       exact absurd hg.1 Za
   . refine List.pairwise_append.2 ⟨hs.dist,List.pairwise_singleton _ _,λx _ y hy g _ hg=>?_⟩
     rw[Y0]at hy;subst hy
     exact absurd hg.1 Za
theorem Qm4 (ρ:Nat->Nat) (b sz:Nat):(SC.so b 0 sz 0 0 false).den ρ=.slice none 0 0:=rfl
theorem Qm2 {ρ0:Nat->Nat}{k0 nt:Nat}{env:Env}{M:List SB}{ρ:Nat->Nat}{a:Act}{w:World}{w0:World}{S:Nat->Prop}(hi:Inv ρ0 k0 nt w0 S env M ρ a w) (b o e sz:Nat) (ks:List CK):
 Inv ρ0 k0 nt w0 S (nrmB env M b o e sz ks).1 (nrmB env M b o e sz ks).2 ρ a w:=by
 unfold nrmB
 split
 . rename_i l t hb
   split
   . rename_i n m hg
     split
     . rename_i l' hs
       cases hlt:(b.blt M.length&&(n.beq 0&&m.beq 0))
       . exact hi
       . simp only[Zr]at hlt
         obtain⟨hlt,hn0,hm0⟩:=hlt
         obtain rfl:=Zo hn0
         obtain rfl:=Zo hm0
         have hlt:=Xv hlt
         have h1:=Qa9 ρ l o _ hg
         have h2:=(QbO ρ l o _ l' hs).1
         rw[Qm4]at h2
         have h3:Qh ρ l'=Qh ρ l:=by
          rw[<- h2]
          apply YX
          intro i
          rw[Y8]
          by_cases hio:o=i
          . subst hio
            rw[Zf rfl]
            have:=(List.getElem?_eq_some_iff.1 h1).1
            rw[Zf this,h1];rfl
          . rw[Ze hio]
         have hav:QS (sc (M.length+1)) l'=true:=by
          have hM:=hi.av b
          rw[hb]at hM
          rcases hM with hM|hM
          . cases hM
          . refine QfH l o _ l' hs ?_ (QaA (λi h=>QaS (by have:=Xv h;omega)) hM.2)
            exact QaS Za
         exact (Qm5 hi [(b,.cells l' t)] (by simp;omega) e sz ks (by simp[Qev,SB.av,hav]) (by simpa using hlt) (by simp only[denU,denT,Z4,Zar,hb,denB,h3])).1
     . exact hi
   . exact hi
 . exact hi
theorem QrD {ρ0:Nat->Nat}{k0 nt:Nat}{env:Env}{M:List SB}{ρ:Nat->Nat}{a:Act}{w:World}{w0:World}{S:Nat->Prop}(hi:Inv ρ0 k0 nt w0 S env M ρ a w) (z:NZ):
 Inv ρ0 k0 nt w0 S (nrm1 env M z).1 (nrm1 env M z).2 ρ a w:=by
 cases z with
 |tmp t e sz ks=>
  simp only[nrm1]
  split
  . rename_i n m hx
    cases hnm:(n.beq 0&&m.beq 0)
    . exact hi
    simp only[Zr]at hnm
    obtain rfl:=Zo hnm.1
    obtain rfl:=Zo hnm.2
    simp only[cond_true]
    obtain⟨h,hL⟩:=Qm5 hi [] (by simp) e sz ks rfl (by simp) rfl
    refine⟨h.av,?_,⟨h.env.defers,h.env.size,λu y hy=>?_⟩,h.mem,h.ag,h.le⟩
    . simp only[YA]at hL h ⊢
      simp only[Qbs,Zr]
      exact⟨by rw[hL];exact QaS Za,h.eav⟩
    . unfold lk at hy
      cases hb:t.beq u
      . rw[hb]at hy;exact h.env.get u y hy
      . rw[hb]at hy
        have:=Zo hb
        subst this
        simp only[cond_true,Zn]at hy;subst hy
        have:=hi.env.get t _ hx
        exact this
  . exact hi
 |cell t o e sz ks=>
  simp only[nrm1]
  split
  . exact Qm2 hi _ _ _ _ _
  . exact hi
 |blk b o e sz ks=>exact Qm2 hi _ _ _ _ _
theorem Qhk {ρ0:Nat->Nat}{k0 nt:Nat}{ρ:Nat->Nat}{a:Act}{w:World}{w0:World}{S:Nat->Prop}:∀(l:List NZ) {env:Env}{M:List SB},Inv ρ0 k0 nt w0 S env M ρ a w ->
 Inv ρ0 k0 nt w0 S (nrmS l env M).1 (nrmS l env M).2 ρ a w
 |[],_,_,hi=>hi
 |z::r,_,_,hi=>Qhk r (QrD hi z)
theorem QdY {ρ0:Nat->Nat}{k0 nt:Nat}{A:Ann}{s:A.σ}{env:Env}{M:List SB}{ρ:Nat->Nat}{a:Act}{w:World}{w0:World}{S:Nat->Prop}(h:QfZ k0 A s env M) (hi:Inv ρ0 k0 nt w0 S env M ρ a w):
 Inv ρ0 k0 nt w0 S (A.I s).1 (A.I s).2 (λi=>ρ (ofL (A.pi (nrmS A.nz env M).1 (nrmS A.nz env M).2) i)) a w:=Qm9 h (Qhk A.nz hi)
theorem QeL {p:Nat->Bool}{env:Env}{d:Option Tmp}{x:SV}(h:Qbs p env=true) (hx:x.av p=true):Qbs p (putS d x env)=true:=by
 unfold putS
 split
 . simp only[Qbs,Zr];exact⟨hx,h⟩
 . exact h
theorem QpP {Γ:Gam}{e:Eff}{f:Nat}{fn:Func}{c:Code}{args:List SA}(h:QpQ Γ e=some (f,fn,c,args)):e=.call f args/\lkGA Γ f args=some (.inl fn c):=by
 unfold QpQ at h
 split at h
 . rename_i g ys
   split at h
   . rename_i fn' c' hi
     simp only[Zn,ZT]at h
     obtain⟨rfl,rfl,rfl,rfl⟩:=h
     refine⟨rfl,?_⟩
     unfold isInl at hi
     split at hi
     . rename_i e
       simp only[Zn,ZT]at hi
       obtain⟨rfl,rfl⟩:=hi;exact e
     . cases hi
   . cases h
 . cases h
theorem Qbk {p:Nat->Bool}:∀ {l:List SA},QaN p l=true->∀x∈l,x.av p=true
 |[],_,x,h=>by simp at h
 |y::r,h,x,hx=>by
  simp only[QaN,Zr]at h
  rcases List.mem_cons.1 hx with rfl|hx
  . exact h.1
  . exact Qbk h.2 x hx
section
variable {V:World}{T:Tab}{Γ:Gam}{AG:List (Nat × Anns)}
set_option maxHeartbeats 1000000 in
theorem QmM (hV:OldOk V w0 S) (hT:TabOk P T) (hT2:TysOk P T) (hΓ:GamOk P w0 S Γ):
 ∀n,(∀(f:FuncId) (fn:Func) (fx:Fx) (R:Ending->World->Prop) (ρ0:Nat->Nat) os k env M ρ a w,P.funcs[f]?=some fn ->
  (∀env M ρ a w,fx.fin env M->Inv ρ0 fx.k0 fx.nt w0 S env M ρ a w->∃v,(results fn a.tmps).run P w=.ok v w/\R (.returned v) w) ->
  run V T Γ AG n fx none os k env M->Qgn P f fn w0 S ρ0 fx.k0 fx.nt R os->Inv ρ0 fx.k0 fx.nt w0 S env M ρ a w->Goes P f fn (k++flat os) a w R) /\
  (∀(f:FuncId) (fn:Func) (fx:Fx) (R:Ending->World->Prop) (ρ0:Nat->Nat) all l os k env M ρ a w,P.funcs[f]?=some fn ->
   (∀env M ρ a w,fx.fin env M->Inv ρ0 fx.k0 fx.nt w0 S env M ρ a w->∃v,(results fn a.tmps).run P w=.ok v w/\R (.returned v) w) ->
   run V T Γ AG n fx (some (all,l)) os k env M->Qgn P f fn w0 S ρ0 fx.k0 fx.nt R os->Inv ρ0 fx.k0 fx.nt w0 S env M ρ a w->wpList P all.toArray (QoV P f fn (k++flat os) R) l a w):=by
 intro n
 induction n with
 |zero=>exact⟨λf fn fx R ρ0 os k env M ρ a w _ _ h=>h.elim,λf fn fx R ρ0 all l os k env M ρ a w _ _ h=>h.elim⟩
 |succ n ih=>
  obtain⟨ih1,ih2⟩:=ih
  constructor
  . intro f fn fx R ρ0 os k env M ρ a w hf hfin h hh hi
    have go1:=λos k env M ρ a w=>ih1 f fn fx R ρ0 os k env M ρ a w hf hfin
    cases k with
    |nil=>
     cases os with
     |nil=>
      obtain⟨v,hr,hR⟩:=hfin env M ρ a w h hi
      exact QpV hf hi.env.defers hr hR
     |cons p r=>
      obtain⟨b,k',hook⟩:=p
      exact hh.1 env M ρ a w h hi
    |cons x k=>
     cases x with
     |inBlock id=>exact Xr (λb cs=>step_inBlock) (go1 os k env M ρ a w h hh hi)
     |inLoop c=>exact Xr (λb cs=>step_inLoop) (go1 os _ env M ρ a w h hh hi)
     |code c=>
      cases c with
      |skip=>exact Xr (λb cs=>step_skip) (go1 os k env M ρ a w h hh hi)
      |label l=>exact Xr (λb cs=>step_label) (go1 os k env M ρ a w h hh hi)
      |seq x y=>exact Xr (λb cs=>step_seq) (go1 os _ env M ρ a w h hh hi)
      |block id b=>exact Xr (λb cs=>step_block) (go1 os _ env M ρ a w h hh hi)
      |loop b=>
       simp only[run]at h
       cases hA:annAt fx.an k with
       |none=>rw[hA]at h;exact Xr (λb cs=>step_loop) (go1 os _ env M ρ a w h hh hi)
       |some A=>
        rw[hA]at h
        dsimp only at h
        cases hR:A.rel with
        |none=>
         rw[hR]at h
         obtain⟨⟨s0,hm⟩,hr⟩:=h
         have key:∀m,∀s:A.σ,A.dec s=m->∀ρ a w,Inv ρ0 fx.k0 fx.nt w0 S (A.I s).1 (A.I s).2 ρ a w->Goes P f fn (.code b::.inLoop b::(k++flat os)) a w R:=by
          intro m
          induction m using Nat.strongRecOn with
          |ind m ihm=>
           intro s hs ρ a w hi
           refine go1 ((b,k,λenv M=>∃s':A.σ,QfZ fx.k0 A s' env M/\A.dec s'<A.dec s)::os) [.code b] _ _ ρ a w (hr s) ⟨?_,hh⟩ hi
           rintro env M ρ a w ⟨s',hm',hlt⟩ hi
           exact Xr (λb cs=>step_inLoop) (ihm (A.dec s') Za s' rfl _ a w (QdY hm' hi))
         exact Xr (λb cs=>step_loop) (key _ s0 rfl _ a w (QdY hm hi))
        |some rl=>
         rw[hR]at h
         obtain⟨s0,hm,h0,hr⟩:=h
         have key:∀m,∀s:A.σ,rl s0 s->A.dec s=m->∀ρ a w,Inv ρ0 fx.k0 fx.nt w0 S (A.I s).1 (A.I s).2 ρ a w->Goes P f fn (.code b::.inLoop b::(k++flat os)) a w R:=by
          intro m
          induction m using Nat.strongRecOn with
          |ind m ihm=>
           intro s hrl hs ρ a w hi
           refine go1 ((b,k,λenv M=>∃s':A.σ,QfZ fx.k0 A s' env M/\rl s0 s'/\A.dec s'<A.dec s)::os) [.code b] _ _ ρ a w (hr s hrl) ⟨?_,hh⟩ hi
           rintro env M ρ a w ⟨s',hm',hl',hlt⟩ hi
           exact Xr (λb cs=>step_inLoop) (ihm (A.dec s') Za s' hl' rfl _ a w (QdY hm' hi))
         exact Xr (λb cs=>step_loop) (key _ s0 h0 rfl _ a w (QdY hm hi))
      |exit id=>
       simp only[run]at h
       cases hx:QlV id k os with
       |none=>rw[hx]at h;exact h.elim
       |some p=>
        obtain⟨k',os'⟩:=p
        rw[hx]at h
        obtain⟨g1,g2⟩:=QgQ id os k k' os' hx hh
        refine Qd6 hf (wp_exit ?_)
        exact⟨_,g1,go1 os' k' env M ρ a w h g2 hi⟩
      |ret=>
       obtain⟨v,hr,hR⟩:=hfin env M ρ a w h hi
       exact Qd6 hf (wp_ret ⟨hi.env.defers,v,hr,hR⟩)
      |cond c x y=>
       simp only[run]at h
       split at h
       . rename_i b hc
         have e:a.eval c=.bool b:=hi.env.eval hc
         cases b
         . exact Xr (λb cs=>step_cond e) (go1 os _ env M ρ a w h hh hi)
         . exact Xr (λb cs=>step_cond e) (go1 os _ env M ρ a w h hh hi)
       . exact h.elim
      |region id ops draw=>
       cases draw
       . refine Qd6 hf (wp_region_list ?_)
         have:=ih2 f fn fx R ρ0 _ _ os k env M ρ a w hf hfin h hh hi
         simpa using this
       . simp only[run]at h
         refine Qd6 hf (wp_region_any hT2.1 ?_)
         have hd:DP V T Γ fx.nt ops.toList env M [] env M:=.nil
         obtain⟨hs,env',M',d',F',nb⟩:=Qc7 (hs:=[]) (next:=λenv M=>run V T Γ AG n fx none os k env M) (fn:=fx.fn) (id:=id) (N0:=M.length) hΓ (QqJ Γ ops.toList) env M hd h
         rw[YV]at d' F'
         have hoff:∀j,(Zak ops.size false).getD j false=false:=λj=>by
          rw[YO,Array.getElem?_replicate];split<;>rfl
         have hsz:ops.size=ops.toList.length:=by simp
         have:=Qp5 (P:=P) (Q:=QoV P f fn (k++flat os) R) (a0:=a) (ρ0:=ρ) (next:=λenv M=>run V T Γ AG n fx none os k env M) (fn:=fx.fn) (id:=id) hΓ hV hT hT2 rfl hi.av hi.eav hi.env.defers hi.env.size
          (λρ' h=>hi.env.over (p:=sc M.length) (λi hi=>h i (Xv hi)) hi.eav)
          (λenv2 M2 ρ2 a2 w2 hag hge hav henv hn hE HM=>go1 os k env2 M2 ρ2 a2 w2 hn hh ⟨hav,henv,hE,HM,λi hik=>(hag i (by have:=hi.le;omega)).trans (hi.ag i hik),by have:=hi.le;omega⟩)
          ops.size (Zak ops.size false) hs env' M' a { w with drawn:=w.drawn+1 } ρ (by simp) (by
           unfold unl
           rw[List.countP_eq_length.2 (λj _=>by rw[hoff];rfl),List.length_range,hsz]) (λj o ho hj=>by simp only[hoff]at hj;cases hj) d' F' (λi hi=>by rw[hoff]at hi;cases hi) (λk hk hb=>by rw[nb k hk]at hb;cases hb)
          ⟨hi.env.defers,hi.env.size,λh hh hL=>(by simp only[hoff]at hL;cases hL),λt _=>rfl⟩ (λ_ _=>rfl) (by
           have e:XL (λj=>(Zak ops.size false).getD j false) M hs=M:=by
            have:=Qf6 (M0:=M) (L:=λj=>(Zak ops.size false).getD j false) (rest:=[]) (hs:=hs) (λk _=>hoff _)
            rwa [YV]at this
           rw[e];exact hi.mem.drew)
         simpa using this
      |rangeFunc _ _ _ _=>exact h.elim
      |scope _=>exact h.elim
      |goto _=>exact h.elim
      |refuse _=>exact h.elim
     |inScope _=>exact h.elim
     |inRegion _ _=>exact h.elim
     |inRangeFunc _=>exact h.elim
     |endRangeFunc _=>exact h.elim
     |beginRound=>exact h.elim
     |call _ _ _ _=>exact h.elim
     |extern _ _=>exact h.elim
  . intro f fn fx R ρ0 all l os k env M ρ a w hf hfin h hh hi
    have go2:=λl env M ρ a w=>ih2 f fn fx R ρ0 all l os k env M ρ a w hf hfin
    cases l with
    |nil=>exact wpList_nil (ih1 f fn fx R ρ0 os k env M ρ a w hf hfin h hh hi)
    |cons o l=>
     simp only[run]at h
     cases hd:Qgw fx.nt o.dst with
     |false=>rw[hd]at h;exact h.elim
     |true=>
      rw[hd]at h
      simp only[cond_true]at h
      cases hg:QgN all o.guard with
      |none=>rw[hg]at h;exact h.elim
      |some g=>
       rw[hg]at h
       dsimp only at h
       obtain⟨hw1,hw2,hw3⟩:=QbF hi.env hg
       have hgo:∀env,Inv ρ0 fx.k0 fx.nt w0 S env M ρ a w->Y7 o (yielded all.toArray a.tmps)=true ->
        (match QpQ Γ (XM V T env M M.length o.op)with
        |some (f,fn,c,args)=>bif args.length.ble fn.ntmps&&QaN (sc M.length) args then
         run V T Γ AG n ⟨fn,fn.ntmps,lkAG AG f,M.length,λenv' M'=>finS V T fn.results.toList (λx M''=>bif x.av (sc M''.length)then run V T Γ AG n fx (some (all,l)) os k (Proofs.YtlafaaeecnifcaaGreatDoor.putS o.dst x env) M'' else False) env' M'⟩ none [] [.code c] (Q8 0 args) M else False
        |none=>Qcc Γ M o (λx us=>bif x.av (sc (QW M us).length)&&Qev (sc (QW M us).length) us then run V T Γ AG n fx (some (all,l)) os k (Proofs.YtlafaaeecnifcaaGreatDoor.putS o.dst x env) (QW M us)else False) (XM V T env M M.length o.op)) ->
        wpList P all.toArray (QoV P f fn (k++flat os) R) (o::l) a w:=by
        intro env hi hwant h
        refine wpList_step λK hK=>?_
        rw[Zf hwant]
        refine Qeu ?_
        have hE:=QhE (P:=P) (V:=V) (ρ:=ρ) (M:=M) (nx:=M.length) (env:=env) (T:=T) (hV.v hi.mem.kept) hT hT2 hi.env o
        split at h
        · -- a call, run in place
          rename_i g fn2 c2 args hin
          obtain⟨he,hl⟩:=QpP hin
          rw[he]at hE
          obtain⟨hen,hgf,hbody⟩:=hΓ g _ _ hl
          cases hlen:(args.length.ble fn2.ntmps&&QaN (sc M.length) args)
          . rw[hlen]at h;exact h.elim
          . rw[hlen]at h
            simp only[cond_true]at h
            simp only[Zr]at hlen
            have hle:=XZ hlen.1
            have hr:=hE hen
            rw[hr]
            have hgoes:=ih1 g fn2 ⟨fn2,fn2.ntmps,lkAG AG g,M.length,λenv' M'=>finS V T fn2.results.toList (λx M''=>bif x.av (sc M''.length)then run V T Γ AG n fx (some (all,l)) os k (Proofs.YtlafaaeecnifcaaGreatDoor.putS o.dst x env) M'' else False) env' M'⟩
             (λe w'=>∃v,e=.returned v/\K (a.put o.dst v) w') ρ [] [.code c2] (Q8 0 args) M ρ { tmps:=(args.map (Y2 ρ)).toArray++Zak (fn2.ntmps-args.length) undef,defers:=[] } w hgf
             (λenv' M' ρ' a' w' hfin' hi'=>by
              obtain⟨x,hx,hres⟩:=QgF (fn:=fn2) (R:=λx M''=>bif x.av (sc M''.length)then run V T Γ AG n fx (some (all,l)) os k (Proofs.YtlafaaeecnifcaaGreatDoor.putS o.dst x env) M'' else False) hV hT hi'.env hi'.mem hfin'
              refine⟨_,hres,_,rfl,?_⟩
              cases hxa:x.av (sc M'.length)
              . rw[hxa]at hx;exact hx.elim
              . rw[hxa]at hx
                have hmono:∀i,sc M.length i=true->sc M'.length i=true:=λi hi=>QaS (by have:=Xv hi;have:=hi'.le;simp only at this;omega)
                refine hK _ _ (go2 l _ M' ρ' _ w' hx hh ⟨hi'.av,QeL (QbY hmono hi.eav) hxa,(hi.env.over (p:=sc M.length) (λi hii=>hi'.ag i (Xv hii)) hi.eav).putS hd x,hi'.mem,λi hik=>(hi'.ag i (by have:=hi.le;simp only;omega)).trans (hi.ag i hik),by have:=hi'.le;have:=hi.le;simp only at *;omega⟩))
             h trivial ⟨hi.av,QbX args 0 (Qbk hlen.2),QhG args fn2.ntmps hle,hi.mem,λ_ _=>rfl,Zq _⟩
            show Calls P g _ w _
            intro cs
            let b:Frame:={ (default:Frame)with fn:=g,kind:=.normal }
            have henter:Zdj P g (args.map (Y2 ρ)).toArray .normal=b.at { tmps:=(args.map (Y2 ρ)).toArray++Zak (fn2.ntmps-args.length) undef,defers:=[] } [.code c2]:=by
             simp[Zdj,Frame.at,hgf,hbody,b]
            rw[henter]
            exact hgoes b cs rfl rfl
        · -- a step
          rename_i hin
          have hWn:=QfF h
          have hleft:=Qhb (o:=o) hΓ hi.mem.kept hE (λb hb x hx=>hi.mem.at b x hx) (hi.mem.some _ hWn) h
          refine Does.mono hleft ?_
          rintro v w' ⟨x,us,ρ',hx,h1,h2,h3,rfl,h4⟩
          cases hav:(x.av (sc (QW M us).length)&&Qev (sc (QW M us).length) us)
          . rw[hav]at hx;exact hx.elim
          . rw[hav]at hx
            simp only[cond_true]at hx
            simp only[Zr]at hav
            have hlen:=(QbP us M).1
            have hmono:∀i,sc M.length i=true->sc (QW M us).length i=true:=λi hi=>QaS (by have:=Xv hi;omega)
            have hρ:∀i,sc M.length i=true->ρ' i=ρ i:=λi hi=>h3 i (.inl (Xv hi))
            refine hK _ _ (go2 l _ _ ρ' _ w' hx hh ⟨QgI hi.av (by rw[h1];exact h2) hav.2,QeL (QbY hmono hi.eav) hav.1,(hi.env.over hρ hi.eav).putS hd x,hi.mem.ups hi.av hρ us (by rw[h1];exact h2) (by rw[h1];exact h4),λi hik=>(h3 i (.inl (by have:=hi.le;omega))).trans (hi.ag i hik),by have:=hi.le;omega⟩)
       have hskip:∀env,Inv ρ0 fx.k0 fx.nt w0 S env M ρ a w->Y7 o (yielded all.toArray a.tmps)=false->run V T Γ AG n fx (some (all,l)) os k (Proofs.YtlafaaeecnifcaaGreatDoor.putS o.dst (sv undef) env) M->wpList P all.toArray (QoV P f fn (k++flat os) R) (o::l) a w:=by
        intro env hi hwant h
        refine wpList_step λK hK=>?_
        rw[Ze (by rw[hwant];simp)]
        exact hK _ _ (go2 l _ M ρ _ w h hh ⟨hi.av,QeL hi.eav rfl,hi.env.putS hd (sv undef),hi.mem,hi.ag,hi.le⟩)
       cases g with
       |none=>exact hgo env hi (hw1 rfl) h
       |some tw=>
        obtain⟨t,want⟩:=tw
        dsimp only at h
        split at h
        . rename_i b hl
          have hwb:=hw2 t want b rfl hl
          have hi':Inv ρ0 fx.k0 fx.nt w0 S ((t,sv (.bool b))::env) M ρ a w:=⟨hi.av,by simp only[Qbs,Zr];exact⟨rfl,hi.eav⟩,hi.env.same hl,hi.mem,hi.ag,hi.le⟩
          cases b<;>cases want<;>simp only[cond_true,cond_false]at h
          . exact hgo _ hi' hwb h
          . exact hskip _ hi' hwb h
          . exact hskip _ hi' hwb h
          . exact hgo _ hi' hwb h
        . rename_i u hl
          exact hskip _ hi (hw3 t want u rfl hl) h
        . exact h.elim
end
end
end
section
open Go.RowKit
theorem TysOk.of {P:Program}{T:Tab}(h:T.all (λp=>QdB P p.1&&(!Qd2 p.2||eqTy P p.1)&&QhV P p.1)=true) (hm:P.follows .mixedOrders=true):TysOk P T:=by
 refine⟨hm,λt i hi=>?_⟩
 induction T with
 |nil=>simp[lkT]at hi
 |cons p r ih=>
  simp only[Zcd,Zr]at h
  unfold lkT at hi
  cases hb:p.1.beq t
  . rw[hb]at hi;exact ih h.2 hi
  . have:=Zo hb
    rw[hb]at hi
    simp only[cond_true,Zn]at hi;subst hi
    rw[<- this];refine⟨h.1.1.1,λhi=>?_,h.1.2⟩
    have:=h.1.1.2;rw[hi]at this;simpa using this
theorem QL {b:Bool}{A B:Prop}(h:b=true->A) (k:b=false->B):bif b then A else B:=by
 cases b
 . exact k rfl
 . exact h rfl
theorem svB {b c:Bool}(h:b=c):ZG (.c (.v (.bool b)))=ZG (.c (.v (.bool c))):=by rw[h]
theorem Qk {p q:Prop}(e:p=q) (h:q):p:=e ▸ h
def QcH (id:Nat):Code->Option (Array Oper)
 |.region i ops _=>bif i.beq id then some ops else none
 |.seq a b=>match QcH id a with
  |some x=>some x
  |none=>QcH id b
 |.cond _ a b=>match QcH id a with
  |some x=>some x
  |none=>QcH id b
 |.block _ b=>QcH id b
 |.loop b=>QcH id b
 |.scope b=>QcH id b
 |_=>none
def regOps (fn:Func) (id:Nat):Array Oper:=(fn.body.bind (QcH id)).getD #[]
section
variable {P:Program}{f:FuncId}{fn:Func}{c:Code}{T:Tab}{Γ:Gam}{AG:List (Nat × Anns)}{w0 w:World}{S:Nat->Prop}{ρ:Nat->Nat}{M:List SB}
theorem QaR {V:World}(hV:OldOk V w0 S) (hf:P.funcs[f]?=some fn) (hb:fn.body=some c) (hT:TabOk P T) (hT2:TysOk P T) (hΓ:GamOk P w0 S Γ) {R:SV->List SB->Prop}(args:List SA) (k0:Nat) (hk:k0<=M.length)
 (hc:(args.length.ble fn.ntmps&&QaN (sc M.length) args&&Xj (sc M.length) M)=true) (HM:Mem w0 S (denM ρ 0 M) w) (n:Nat)
 (h:run V T Γ AG n ⟨fn,fn.ntmps,lkAG AG f,k0,finS V T fn.results.toList R⟩ none [] [.code c] (Q8 0 args) M):
 Calls P f (args.map (Y2 ρ)).toArray w λe w'=>∃x M' ρ',R x M'/\(∀i,i<k0->ρ' i=ρ i)/\e=.returned (x.den ρ')/\Mem w0 S (denM ρ' 0 M') w':=by
 simp only[Zr]at hc
 have ha:=XZ hc.1.1
 have hs:=(QmM (P:=P) (w0:=w0) (S:=S) (AG:=AG) hV hT hT2 hΓ n).1 f fn ⟨fn,fn.ntmps,lkAG AG f,k0,finS V T fn.results.toList R⟩ (λe w'=>∃x M' ρ',R x M'/\(∀i,i<k0->ρ' i=ρ i)/\e=.returned (x.den ρ')/\Mem w0 S (denM ρ' 0 M') w') ρ
  [] [.code c] (Q8 0 args) M ρ { tmps:=(args.map (Y2 ρ)).toArray++Zak (fn.ntmps-args.length) undef,defers:=[] } w hf
  (λenv M ρ' a w hfin hi=>by
   obtain⟨x,hR,hr⟩:=QgF hV hT hi.env hi.mem hfin
   exact⟨_,hr,x,M,ρ',hR,hi.ag,rfl,hi.mem⟩) h trivial ⟨Qfn hc.2,QbX args 0 (Qbk hc.1.2),QhG args fn.ntmps ha,HM,λ_ _=>rfl,hk⟩
 intro cs
 let b:Frame:={ (default:Frame)with fn:=f,kind:=.normal }
 have henter:Zdj P f (args.map (Y2 ρ)).toArray .normal=b.at { tmps:=(args.map (Y2 ρ)).toArray++Zak (fn.ntmps-args.length) undef,defers:=[] } [.code c]:=by
  simp[Zdj,Frame.at,hf,hb,b]
 rw[henter]
 exact hs b cs rfl rfl
theorem Qgr {w0:World}{S:Nat->Prop}(hf:P.funcs[f]?=some fn) (hb:fn.body=some c) (hen:Qbt P f=true) (hT:TabOk P T) (hT2:TysOk P T) (hΓ:∀w,Kept S w0 w->GamOk P w (λ_=>False) Γ) (C:PCon) (n:Nat)
 (h:∀(w:World) args,C.pre args->(args.length.ble fn.ntmps&&QaN (sc 0) args)=true/\run w T Γ AG n ⟨fn,fn.ntmps,lkAG AG f,0,finS w T fn.results.toList (λx _=>x=C.out args/\x.av (sc 0)=true)⟩ none [] [.code c] (Q8 0 args) []):(Con.pure C).holdsAt P w0 S f:=by
 refine⟨hen,λρ args w hp hK=>?_⟩
 obtain⟨h1,h2⟩:=h w args hp
 refine (QaR (ZdA w) (ρ:=ρ) (M:=[]) hf hb hT hT2 (hΓ w hK) args 0 (Zq _) (by rw[show Xj (sc ([]:List SB).length) []=true from rfl,Zbo];exact h1) (Mem.start w) n h2).mono ?_
 rintro e w' ⟨x,M',ρ',⟨rfl,hx⟩,-,rfl,HM⟩
 exact⟨by rw[Zcp (p:=sc 0) (ρ:=ρ) (ρ':=ρ') (λi hi=>by have:=Xv hi;omega) hx],HM.below⟩
theorem QG (hf:P.funcs[f]?=some fn) (hb:fn.body=some c) (hen:Qbt P f=true) (hT:TabOk P T) (hT2:TysOk P T) (hΓ:∀w,GamOk P w (λ_=>False) Γ) (C:PCon) (n:Nat)
 (h:∀(w:World) args,C.pre args->(args.length.ble fn.ntmps&&QaN (sc 0) args)=true/\run w T Γ AG n ⟨fn,fn.ntmps,lkAG AG f,0,finS w T fn.results.toList (λx _=>x=C.out args/\x.av (sc 0)=true)⟩ none [] [.code c] (Q8 0 args) []):(Con.pure C).holds P f:=
 λ_ _=>Qgr hf hb hen hT hT2 (λw _=>hΓ w) C n h
def endP (C:PCon) (args:List SA) (x:SV) (M:List SB):Prop:=x.av (sc 0)=true/\∀ρ,x.den ρ=(C.out args).den ρ
theorem QcA {w0:World}{S:Nat->Prop}(hf:P.funcs[f]?=some fn) (hb:fn.body=some c) (hen:Qbt P f=true) (hT:TabOk P T) (hT2:TysOk P T) (hΓ:∀w,Kept S w0 w->GamOk P w (λ_=>False) Γ) (C:PCon) (AG:List SA->List (Nat × Anns)) (n:Nat)
 (h:∀(w:World) args,C.pre args->Kept S w0 w->(args.length.ble fn.ntmps&&QaN (sc 0) args)=true/\run w T Γ (AG args) n ⟨fn,fn.ntmps,lkAG (AG args) f,0,finS w T fn.results.toList (endP C args)⟩ none [] [.code c] (Q8 0 args) []):(Con.pure C).holdsAt P w0 S f:=by
 refine⟨hen,λρ args w hp hK=>?_⟩
 obtain⟨h1,h2⟩:=h w args hp hK
 refine (QaR (ZdA w) (ρ:=ρ) (M:=[]) hf hb hT hT2 (hΓ w hK) args 0 (Zq _) (by rw[show Xj (sc ([]:List SB).length) []=true from rfl,Zbo];exact h1) (Mem.start w) n h2).mono ?_
 rintro e w' ⟨x,M',ρ',⟨hx,hd⟩,-,rfl,HM⟩
 exact⟨by rw[Zcp (p:=sc 0) (ρ:=ρ) (ρ':=ρ') (λi hi=>by have:=Xv hi;omega) hx,hd ρ],HM.below⟩
theorem QE (hf:P.funcs[f]?=some fn) (hb:fn.body=some c) (hen:Qbt P f=true) (hT:TabOk P T) (hT2:TysOk P T) (hΓ:∀w,GamOk P w (λ_=>False) Γ) (C:PCon) (AG:List SA->List (Nat × Anns)) (n:Nat)
 (h:∀(w:World) args,C.pre args->(args.length.ble fn.ntmps&&QaN (sc 0) args)=true/\run w T Γ (AG args) n ⟨fn,fn.ntmps,lkAG (AG args) f,0,finS w T fn.results.toList (endP C args)⟩ none [] [.code c] (Q8 0 args) []):(Con.pure C).holds P f:=
 λ_ _=>QcA hf hb hen hT hT2 (λw _=>hΓ w) C AG n (λw args hp _=>h w args hp)
theorem QaE {ρ:Nat->Nat}{k:CK}{n:Nat}{f g:Nat->Int}(h:∀i,i<n->f i=g i):(Zz [.ints k n f]).den ρ=(Zz [.ints k n g]).den ρ:=by
 simp only[Y2,Qh,Seg.den]
 congr 3
 exact Yr λi hi=>by rw[h i (List.mem_range.1 hi)]
theorem QrA (hf:P.funcs[f]?=some fn) (hb:fn.body=some c) (hT:TabOk P T) (hT2:TysOk P T) {w:World}(hΓ:GamOk P w (λ_=>False) Γ) (args:List SA) (v:Value) (n:Nat) (ha:(args.length.ble fn.ntmps&&QaN (sc 0) args)=true)
 (h:run w T Γ AG n ⟨fn,fn.ntmps,lkAG AG f,0,finS w T fn.results.toList (λx _=>x=sv v)⟩ none [] [.code c] (Q8 0 args) []) {ar:Array Value}(has:ar=(args.map (Y2 (λ_=>0))).toArray):
 Calls P f ar w λe w'=>e=.returned v/\Below w.heap.size w w':=by
 subst has
 refine (QaR (ZdA w) (ρ:=λ_=>0) (M:=[]) hf hb hT hT2 hΓ args 0 (Zq _) (by rw[show Xj (sc ([]:List SB).length) []=true from rfl,Zbo];exact ha) (Mem.start w) n h).mono ?_
 rintro e w' ⟨x,M',ρ',rfl,-,rfl,HM⟩
 exact⟨rfl,HM.below⟩
def endR (C:MCon) (rp:SV->List SB->List Nat) (s:C.σ) (x:SV) (M:List SB):Prop:=
 ∃y:C.χ,C.ok s y/\bif nodB (rp x M)&&QaZ M.length (rp x M)&&idB 0 C.k (rp x M)&&(C.mem' s y).length.beq C.len&&Xj (sc C.len) (C.mem' s y)&&(C.val s y).av (sc C.len)then
  x=(C.val s y).ren (ofL (rp x M))/\(rp x M).map (getB M)=(C.mem' s y).map (SB.ren (ofL (rp x M)))else False
def svL:SV->List SA
 |.o x=>[x]
 |.t l=>l
def reL (env:Env):Nat->List SA->List SA
 |_,[]=>[]
 |i,x::r=>(match lk env i with
  |some (.o y)=>y
  |_=>x)::reL env (i+1) r
def reSV (env:Env):SV->SV
 |.o x=>.o (match lk env 0 with
  |some (.o y)=>y
  |_=>x)
 |.t l=>.t (reL env 0 l)
def endN (C:MCon) (nz:List NZ) (rp:SV->List SB->List Nat) (s:C.σ) (x:SV) (M:List SB):Prop:=match nz with
 |[]=>endR C rp s x M
 |nz=>bif Xj (sc M.length) M&&QaN (sc M.length) (svL x)then (match nrmS nz (Q8 0 (svL x)) M with
  |(env',M')=>endR C rp s (reSV env' x) M')else False
theorem QmR {ρ:Nat->Nat}{env:Env}:∀(l:List SA) (i:Nat) (xs:Array Value),(∀j,j<l.length->xs[i+j]?=(l[j]?).map (Y2 ρ))->(∀t x,lk env t=some x->xs[t]?=some (x.den ρ))->(reL env i l).map (Y2 ρ)=l.map (Y2 ρ)
 |[],_,_,_,_=>rfl
 |x::r,i,xs,h,he=>by
  simp only[reL,Z4]
  rw[QmR r (i+1) xs (λj hj=>by have:=h (j+1) (by simp;omega);rw[show i+1+j=i+(j+1) by omega];simpa using this) he]
  congr 1
  have h0:=h 0 (by simp)
  split
  . rename_i y hy
    have h1:=he i _ hy
    simp only[Yu,Zag,YF]at h0
    rw[h0]at h1
    simp only[Zci,Zn]at h1
    exact h1.symm
  . rfl
theorem Qj7 {ρ:Nat->Nat}{env:Env}(x:SV) (h:∀t y,lk env t=some y->((svL x).map (Y2 ρ))[t]?=some (y.den ρ)):(reSV env x).den ρ=x.den ρ:=by
 have key:=QmR (ρ:=ρ) (env:=env) (svL x) 0 ((svL x).map (Y2 ρ)).toArray (λj hj=>by simp) (λt y hy=>by simpa using h t y hy)
 cases x with
 |t l=>simp only[reSV,Zci];rw[show reL env 0 l=reL env 0 (svL (.t l))from rfl,key];rfl
 |o x=>
  simp only[svL,reL,Z4,Zar,Zaa,and_true]at key
  simp only[reSV,Zci]
  exact key
theorem Qa {w0:World}{S:Nat->Prop}(V:World->World) (hf:P.funcs[f]?=some fn) (hb:fn.body=some c) (hen:Qbt P f=true) (hT:TabOk P T) (hT2:TysOk P T) (hΓ:∀w S',Kept S w0 w->(∀g,S' g->g<w.heap.size)->GamOk P w S' Γ) (C:MCon) (AG:C.σ->List (Nat × Anns)) (hdet:∀x0,C.det=some x0->∀s x,x=x0/\C.ok s x0)
 (hV:∀s ρ w,C.pre s->Kept S w0 w->Mem w (feet (denM ρ 0 (C.mem s))) (denM ρ 0 (C.mem s)) w->OldOk (V w) w (feet (denM ρ 0 (C.mem s)))) (nz:List NZ) (rp:SV->List SB->List Nat) (n:Nat)
 (h:∀(s:C.σ) (w:World),C.pre s->Kept S w0 w->((C.args s).length.ble fn.ntmps&&QaN (sc (C.mem s).length) (C.args s)&&Xj (sc (C.mem s).length) (C.mem s)&&C.k.ble (C.mem s).length)=true /\
  run (V w) T Γ (AG s) n ⟨fn,fn.ntmps,lkAG (AG s) f,C.k,finS (V w) T fn.results.toList (endN C nz rp s)⟩ none [] [.code c] (Q8 0 (C.args s)) (C.mem s)):(Con.mem C).holdsAt P w0 S f:=by
 refine⟨hen,hdet,λρ s w hp hK HM=>?_⟩
 obtain⟨h1,h2⟩:=h s w hp hK
 simp only[Zr]at h1
 refine (QaR (hV s ρ w hp hK HM) (ρ:=ρ) hf hb hT hT2 (hΓ w _ hK (λg ⟨e,he,hg⟩=>(HM.holds e he).lt hg)) (C.args s) C.k (XZ h1.2) (by simp only[Zr];exact h1.1) HM n h2).mono ?_
 rintro e w' ⟨x0,M0,ρ',hend,hag,rfl,HM0⟩
 obtain⟨x,M',⟨y,hy,hx⟩,hxd,HM'⟩:∃x M',endR C rp s x M'/\x0.den ρ'=x.den ρ'/\Mem w (feet (denM ρ 0 (C.mem s))) (denM ρ' 0 M') w':=by
  cases nz with
  |nil=>exact⟨x0,M0,hend,rfl,HM0⟩
  |cons z r=>
   simp only[endN]at hend
   cases hc:(Xj (sc M0.length) M0&&QaN (sc M0.length) (svL x0))
   . rw[hc]at hend;exact hend.elim
   . rw[hc]at hend
     simp only[cond_true]at hend
     simp only[Zr]at hc
     have hi:Inv ρ' 0 (svL x0).length w (feet (denM ρ 0 (C.mem s))) (Q8 0 (svL x0)) M0 ρ' { tmps:=((svL x0).map (Y2 ρ')).toArray++Zak ((svL x0).length-(svL x0).length) undef,defers:=[] } w':=
      ⟨Qfn hc.1,QbX _ 0 (Qbk hc.2),QhG (svL x0) _ (Zq _),HM0,λ_ _=>rfl,Z9 _⟩
     have hi2:=Qhk (z::r) hi
     refine⟨_,_,hend,(Qj7 x0 λt y hy=>?_).symm,hi2.mem⟩
     have:=hi2.env.get t y hy
     simpa using this
 clear hend
 rw[hxd]
 clear hxd HM0
 cases hc:(nodB (rp x M')&&QaZ M'.length (rp x M')&&idB 0 C.k (rp x M')&&(C.mem' s y).length.beq C.len&&Xj (sc C.len) (C.mem' s y)&&(C.val s y).av (sc C.len))
 . rw[hc]at hx;exact hx.elim
 . rw[hc]at hx
   simp only[cond_true]at hx
   simp only[Zr]at hc
   obtain⟨⟨⟨⟨⟨c1,c2⟩,c3⟩,c4⟩,c5⟩,c6⟩:=hc
   refine⟨y,λi=>ρ' (ofL (rp x M') i),hy,λi hi=>?_,Zo c4,by rw[hx.1];congr 1;rw[SV.ren_den,<- hx.1],?_⟩
   . have:=Qhw C.k 0 _ c3 i hi
     show ρ' (ofL _ i)=_
     unfold ofL
     rw[Zp,this,Y5,Zu]
     exact hag i hi
   . have hd:=Qc8 (ρ:=ρ') (M:=M') (rp x M') (C.mem' s y) (ofL (rp x M')) 0 (λi hi=>by rw[Zu,Zy hi];simp[ofL,Zp,hi]) hx.2
     rw[<- hd]
     exact (HM'.perm (Qbc ρ' M' (rp x M') M'.length (Zq _) (Qar c1) (QaT c2))).sub (Za7 _ _)
theorem Qc4 {w0:World}{S:Nat->Prop}(V:World->World) (hf:P.funcs[f]?=some fn) (hb:fn.body=some c) (hen:Qbt P f=true) (hT:TabOk P T) (hT2:TysOk P T) (hΓ:∀w S',Kept S w0 w->(∀g,S' g->g<w.heap.size)->GamOk P w S' Γ) (C:MCon) (hdet:∀x0,C.det=some x0->∀s x,x=x0/\C.ok s x0)
 (hV:∀s ρ w,C.pre s->Kept S w0 w->Mem w (feet (denM ρ 0 (C.mem s))) (denM ρ 0 (C.mem s)) w->OldOk (V w) w (feet (denM ρ 0 (C.mem s)))) (nz:List NZ) (rp:SV->List SB->List Nat) (n:Nat)
 (h:∀(s:C.σ) (w:World),C.pre s->Kept S w0 w->((C.args s).length.ble fn.ntmps&&QaN (sc (C.mem s).length) (C.args s)&&Xj (sc (C.mem s).length) (C.mem s)&&C.k.ble (C.mem s).length)=true /\
  run (V w) T Γ AG n ⟨fn,fn.ntmps,lkAG AG f,C.k,finS (V w) T fn.results.toList (endN C nz rp s)⟩ none [] [.code c] (Q8 0 (C.args s)) (C.mem s)):(Con.mem C).holdsAt P w0 S f:=
 Qa V hf hb hen hT hT2 hΓ C (λ_=>AG) hdet hV nz rp n h
def endDR (C:RCon) (rp:SV->List SB->List Nat) (s:C.σ) (x:SV) (M:List SB):Prop:=
 ∃y:C.χ,C.ok s y/\bif nodB (rp x M)&&QaZ M.length (rp x M)&&(rp x M).length.beq C.len&&(C.new s y).length.beq C.len&&Xj (λi=>(C.mem s).length.ble i) (C.new s y)&&(C.val s y).av (λi=>(C.mem s).length.ble i)then
  x=(C.val s y).ren (λi=>ofL (rp x M) (i-(C.mem s).length))/\(rp x M).map (getB M)=(C.new s y).map (SB.ren (λi=>ofL (rp x M) (i-(C.mem s).length)))else False
def endZ (nz:List NZ) (R:SV->List SB->Prop) (x:SV) (M:List SB):Prop:=match nz with
 |[]=>R x M
 |nz=>bif Xj (sc M.length) M&&QaN (sc M.length) (svL x)then (match nrmS nz (Q8 0 (svL x)) M with
  |(env',M')=>R (reSV env' x) M')else False
def endD (C:RCon) (nz:List NZ) (rp:SV->List SB->List Nat) (s:C.σ) (x:SV) (M:List SB):Prop:=endZ nz (endDR C rp s) x M
theorem QrU {nz:List NZ}{R:SV->List SB->Prop}{x0:SV}{M0:List SB}{ρ':Nat->Nat}{w w':World}{S':Nat->Prop}(h:endZ nz R x0 M0) (HM0:Mem w S' (denM ρ' 0 M0) w'):
 ∃x M',R x M'/\x0.den ρ'=x.den ρ'/\Mem w S' (denM ρ' 0 M') w':=by
 cases nz with
 |nil=>exact⟨x0,M0,h,rfl,HM0⟩
 |cons z r=>
  simp only[endZ]at h
  cases hc:(Xj (sc M0.length) M0&&QaN (sc M0.length) (svL x0))
  . rw[hc]at h;exact h.elim
  . rw[hc]at h
    simp only[cond_true]at h
    simp only[Zr]at hc
    have hi:Inv ρ' 0 (svL x0).length w S' (Q8 0 (svL x0)) M0 ρ' { tmps:=((svL x0).map (Y2 ρ')).toArray++Zak ((svL x0).length-(svL x0).length) undef,defers:=[] } w':=
     ⟨Qfn hc.1,QbX _ 0 (Qbk hc.2),QhG (svL x0) _ (Zq _),HM0,λ_ _=>rfl,Z9 _⟩
    have hi2:=Qhk (z::r) hi
    refine⟨_,_,h,(Qj7 x0 λt y hy=>?_).symm,hi2.mem⟩
    have:=hi2.env.get t y hy
    simpa using this
theorem QgD {ρ ρ':Nat->Nat}{p:Nat->Bool}(h:∀i,p i=true->ρ' i=ρ i):∀ {m:List SB}{k:Nat},(∀i,k<=i->i<k+m.length->p i=true)->Xj p m=true->denM ρ' k m=denM ρ k m
 |[],_,_,_=>rfl
 |b::r,k,hk,ha=>by
  simp only[Xj,Zr]at ha
  simp only[denM]
  rw[SB.av_den h (hk k (Zq _) (by simp)) ha.1,QgD h (λi h1 h2=>hk i Za (by simp;omega)) ha.2]
theorem QfN {w0:World}{S:Nat->Prop}(hf:P.funcs[f]?=some fn) (hb:fn.body=some c) (hen:Qbt P f=true) (hT:TabOk P T) (hT2:TysOk P T) (hΓ:∀w,Kept S w0 w->GamOk P w (λ_=>False) Γ) (C:RCon) (hdet:∀x0,C.det=some x0->∀s x,x=x0/\C.ok s x0)
 (nz:List NZ) (rp:SV->List SB->List Nat) (n:Nat)
 (h:∀(s:C.σ) (ρ:Nat->Nat) (w:World),C.pre s->Kept S w0 w->(∀e∈denM ρ 0 (C.mem s),e.at w)->∃args:List SA,(C.args s).map (Y2 ρ)=args.map (Y2 ρ)/\(args.length.ble fn.ntmps&&QaN (sc 0) args)=true /\
  run w T Γ AG n ⟨fn,fn.ntmps,lkAG AG f,0,finS w T fn.results.toList (endD C nz rp s)⟩ none [] [.code c] (Q8 0 args) []):(Con.rd C).holdsAt P w0 S f:=by
 refine⟨hen,hdet,λρ s w hp hK hM=>?_⟩
 obtain⟨args,ha,h1,h2⟩:=h s ρ w hp hK hM
 rw[ha]
 refine (QaR (ZdA w) (ρ:=ρ) (M:=[]) hf hb hT hT2 (hΓ w hK) args 0 (Zq _) (by rw[show Xj (sc ([]:List SB).length) []=true from rfl,Zbo];exact h1) (Mem.start w) n h2).mono ?_
 rintro e w' ⟨x0,M0,ρ',hend,-,rfl,HM0⟩
 obtain⟨x,M',⟨y,hy,hx⟩,hxd,HM'⟩:=QrU hend HM0
 rw[hxd]
 cases hc:(nodB (rp x M')&&QaZ M'.length (rp x M')&&(rp x M').length.beq C.len&&(C.new s y).length.beq C.len&&Xj (λi=>(C.mem s).length.ble i) (C.new s y)&&(C.val s y).av (λi=>(C.mem s).length.ble i))
 . rw[hc]at hx;exact hx.elim
 . rw[hc]at hx
   simp only[cond_true]at hx
   simp only[Zr]at hc
   obtain⟨⟨⟨⟨⟨c1,c2⟩,c3⟩,c4⟩,c5⟩,c6⟩:=hc
   have hge:∀i,(C.mem s).length.ble i=true->(λi=>if i<(C.mem s).length then ρ i else ρ' (ofL (rp x M') (i-(C.mem s).length))) i=(λi=>ρ' (ofL (rp x M') (i-(C.mem s).length))) i:=λi hi=>Ze (by have:=XZ hi;omega)
   refine⟨y,λi=>if i<(C.mem s).length then ρ i else ρ' (ofL (rp x M') (i-(C.mem s).length)),hy,λi hi=>Zf hi,Zo c4,?_,?_⟩
   . rw[hx.1];congr 1;rw[SV.ren_den,<- hx.1]
     exact (Zcp hge c6).symm
   . rw[QgD (p:=λi=>(C.mem s).length.ble i) hge (λi h1 _=>Ys h1) c5]
     have hd:=Qc8 (ρ:=ρ') (M:=M') (rp x M') (C.new s y) (λi=>ofL (rp x M') (i-(C.mem s).length)) (C.mem s).length (λi hi=>by rw[Zy hi];simp[ofL,Zp,hi]) hx.2
     rw[<- hd]
     exact (HM'.perm (Qbc ρ' M' (rp x M') M'.length (Zq _) (Qar c1) (QaT c2))).sub (Za7 _ _)
end
def nrmR (nz:List NZ) (x:SV) (M:List SB):Option (SV × List SB):=match nz with
 |[]=>some (x,M)
 |nz=>bif Xj (sc M.length) M&&QaN (sc M.length) (svL x)then (match nrmS nz (Q8 0 (svL x)) M with
  |(env',M')=>some (reSV env' x,M'))else none
theorem Qn1 {nz:List NZ}{R:SV->List SB->Prop}{x x':SV}{M M':List SB}(h:nrmR nz x M=some (x',M')) (hR:R x' M'):endZ nz R x M:=by
 cases nz with
 |nil=>
  simp only[nrmR,Zn,ZT]at h
  obtain⟨rfl,rfl⟩:=h;exact hR
 |cons z r=>
  simp only[nrmR]at h
  simp only[endZ]
  cases hc:(Xj (sc M.length) M&&QaN (sc M.length) (svL x))
  . rw[hc]at h;cases h
  . rw[hc]at h
    simp only[cond_true,Zn,ZT]at h ⊢
    obtain⟨rfl,rfl⟩:=h;exact hR
theorem Qn2 {C:MCon}{nz:List NZ}{rp:SV->List SB->List Nat}{s:C.σ}{x:SV}{M:List SB}(h:endZ nz (endR C rp s) x M):endN C nz rp s x M:=by
 cases nz<;>exact h
theorem Qn3 {C:RCon}{nz:List NZ}{rp:SV->List SB->List Nat}{s:C.σ}{x x':SV}{M M':List SB}(h:nrmR nz x M=some (x',M')) (y:C.χ) (ok:C.ok s y)
 (hc:(nodB (rp x' M')&&QaZ M'.length (rp x' M')&&(rp x' M').length.beq C.len&&(C.new s y).length.beq C.len&&Xj (λi=>(C.mem s).length.ble i) (C.new s y)&&(C.val s y).av (λi=>(C.mem s).length.ble i))=true)
 (e1:x'=(C.val s y).ren (λi=>ofL (rp x' M') (i-(C.mem s).length))) (e2:(rp x' M').map (getB M')=(C.new s y).map (SB.ren (λi=>ofL (rp x' M') (i-(C.mem s).length)))):endD C nz rp s x M:=
 Qn1 h ⟨y,ok,by rw[hc];exact⟨e1,e2⟩⟩
theorem Ql {C:MCon}{nz:List NZ}{rp:SV->List SB->List Nat}{s:C.σ}{x x':SV}{M M':List SB}(h:nrmR nz x M=some (x',M')) (y:C.χ) (ok:C.ok s y)
 (hc:(nodB (rp x' M')&&QaZ M'.length (rp x' M')&&idB 0 C.k (rp x' M')&&(C.mem' s y).length.beq C.len&&Xj (sc C.len) (C.mem' s y)&&(C.val s y).av (sc C.len))=true)
 (e1:x'=(C.val s y).ren (ofL (rp x' M'))) (e2:(rp x' M').map (getB M')=(C.mem' s y).map (SB.ren (ofL (rp x' M')))):endN C nz rp s x M:=
 Qn2 (Qn1 h ⟨y,ok,by rw[hc];exact⟨e1,e2⟩⟩)
theorem QmF {w:World}{ρ:Nat->Nat}{b lo sz n m c:Nat}{nn:Bool}{t:TypeId}{ks:List CK}{kf:Nat->IntKind}{z:Nat->Nat->Int}(h:RowAt w (ρ b) t sz m c (QJ (ckAt ks) sz z m)) (hk:kOk ks kf 0=true) (hl:ks.length=sz) (hlo:lo+n<=m):
 ∃a c',(SC.so b lo sz n c nn).den ρ=.slice a n c'/\Rws sz kf w a n c' (λi=>z (lo+i))/\a.isNone=(c.beq 0 && !nn)/\n<=c':=by
 have hmc:=h.1
 simp only[SC.den]
 cases hc:(c.beq 0 && !nn)
 . refine⟨some ⟨ρ b,bif (c-lo).beq 0 then 0 else lo*sz,none⟩,c-lo,rfl,⟨Za,?_,?_⟩,rfl,Za⟩
   . rcases Yz c with h0|h0
     . subst h0;simp
     . obtain⟨C,-,-,-,hmx⟩:=h.2.2 h0
       unfold maxLen at hmx;omega
   . rcases Yz n with h0|h0
     . exact .inl h0
     . obtain⟨C,hB,hlC,ht,-⟩:=h.2.2 Za
       have hz:(c-lo).beq 0=false:=by cases hq:(c-lo).beq 0;rfl;exact absurd (Zo hq) Za
       refine .inr ⟨ρ b,lo*sz,by rw[hz];rfl,Blk.lt hB,λj hj i hi=>⟨?_,Zd⟩⟩
       rw[hB.cell]
       have h4:=Xm (ckAt ks) sz z m (lo+j) i Za hi
       rw[<- ht,ZO]at h4
       split at h4
       . rw[show lo*sz+j*sz+i=(lo+j)*sz+i by rw[Nat.add_mul],h4,Qnm hk Za,Zu]
       . cases h4
 . simp only[Zr]at hc
   have h0:=Zo hc.1
   obtain rfl:n=0:=Za
   exact⟨none,0,rfl,⟨Zq _,Zb,.inl rfl⟩,rfl,Zq _⟩
def noW:World:={ (default:World)with heap:=#[] }
theorem Qj (w:World) (S:Nat->Prop):OldOk noW w S:=by
 intro sz ks a m c z w' h _
 obtain⟨h1,h2,h3⟩:=h
 refine⟨h1,h2,?_⟩
 rcases h3 with h3|⟨b,off,-,hb,-⟩
 . exact .inl h3
 . simp[noW]at hb
abbrev sI (x:Int):Seg:=.one (.v (.int .i64 x))
abbrev sU (x:Int):Seg:=.one (.v (.int .u64 x))
abbrev sB (x:Bool):Seg:=.one (.v (.bool x))
abbrev sP (b o:Nat):Seg:=.one (.p b o)
abbrev sS (b lo sz n c:Nat) (nn:Bool):Seg:=.one (.so b lo sz n c nn)
abbrev aI (x:Int):SA:=.c (.v (.int .i64 x))
abbrev aU (x:Int):SA:=.c (.v (.int .u64 x))
abbrev aB (x:Bool):SA:=.c (.v (.bool x))
abbrev aP (b o:Nat):SA:=.c (.p b o)
abbrev nU (n:Nat) (f:Nat->Int):Seg:=.ints (.int .u64) n f
abbrev nI (n:Nat) (f:Nat->Int):Seg:=.ints (.int .i64) n f
abbrev nB (n:Nat) (f:Nat->Int):Seg:=.ints .bool n f
abbrev xE (i:Nat):HX:=⟨i,[],[],[],false⟩
abbrev xF (i b:Nat):HX:=⟨i,[],[],[b],false⟩
abbrev xR (i b:Nat):HX:=⟨i,[b],[],[],false⟩
abbrev kI5:List CK:=[.int .i64,.int .i64,.int .i64,.int .i64,.int .i64]
abbrev kI6:List CK:=[.int .i64,.int .i64,.int .i64,.int .i64,.int .i64,.int .i64]
abbrev kI9:List CK:=[.int .i64,.int .i64,.int .i64,.int .i64,.int .i64,.int .i64,.int .i64,.int .i64,.int .i64]
abbrev kV7:List CK:=[.int .u64,.int .i64,.int .i64,.int .i64,.int .i64,.int .i64,.int .i64]
abbrev dP (fn:Func) (id n:Nat) (h:List HX):Prop:=QjA fn id (regOps fn id) n h
def blkA:List SA->List Nat
 |[]=>[]
 |.c (.p b _)::r=>b::blkA r
 |.c (.o b _ _)::r=>b::blkA r
 |.c (.so b _ _ _ _ _)::r=>b::blkA r
 |_::r=>blkA r
def dcon (σ:Type) (pre:σ->Prop) (args:σ->List SA) (mem:σ->List SB) (val:σ->SV) (mem':σ->List SB) (k:Nat) (find:List SA->List SB->Option (List Nat)):MCon:=
 { σ:=σ,χ:=Unit,pre:=pre,args:=args,mem:=mem,ok:=λ_ _=>True,val:=λs _=>val s,mem':=λs _=>mem' s,k:=k,len:=k,det:=some (),find:=find }
def Qi (k:Nat):SV->List SB->List Nat:=λ_ _=>upN 0 k
theorem Qo {p:Prop}[Decidable p] {A B:Prop}(h:p->A) (k:¬p->B):bif decide p then A else B:=by
 by_cases hp:p
 . rw[decide_eq_true hp];exact h hp
 . rw[decide_eq_false hp];exact k hp
theorem QP {a b:Int}{A B:Prop}(h:a=b->A) (k:a≠b->B):bif (a==b)then A else B:=by
 by_cases hp:a=b
 . rw[beq_iff_eq.2 hp];exact h hp
 . rw[show (a==b)=false from beq_eq_false_iff_ne.2 hp];exact k hp
theorem QB {a b:Int}{A B:Prop}(h:a≠b->A) (k:a=b->B):bif (a != b)then A else B:=by
 by_cases hp:a=b
 . rw[show (a != b)=false by simp[hp]];exact k hp
 . rw[show (a != b)=true by simpa using hp];exact h hp
theorem QjJ {p:Prop}[Decidable p] {A B:Prop}(h:¬p->A) (k:p->B):bif (bif decide p then false else true)then A else B:=by
 by_cases hp:p
 . rw[decide_eq_true hp];exact k hp
 . rw[decide_eq_false hp];exact h hp
theorem QiX {a b:Int}{A B:Prop}(h:a≠b->A) (k:a=b->B):bif (bif a==b then false else true)then A else B:=by
 by_cases hp:a=b
 . rw[beq_iff_eq.2 hp];exact k hp
 . rw[show (a==b)=false from beq_eq_false_iff_ne.2 hp];exact h hp
theorem Xn {b:Bool}{A B:Prop}(h:b=false->A) (k:b=true->B):bif (bif b then false else true)then A else B:=by
 cases b
 . exact h rfl
 . exact k rfl
def blkE (env:Env) (t:Nat):Nat:=match lk env t with
 |some (.o (.c (.p b _)))=>b
 |some (.o (.c (.so b _ _ _ _ _)))=>b
 |some (.o (.c (.m b)))=>b
 |_=>0
theorem svI {a b:Int}(h:a=b):some (sv (.int .i64 a))=some (sv (.int .i64 b)):=by rw[h]
theorem sucI {n:Nat}(h:n<=1000000000):Zi .i64 ((n:Int)+1)=((n+1:Nat):Int):=by
 simp only[Zi,Za4,ZaK];simp;omega
theorem Qx {x:Int}(h0 : -9223372036854775808<=x) (h1:x<=9223372036854775807):Zi .i64 x=x:=by
 simp only[Zi,Za4,ZaK];simp;omega
theorem QaL {x:Int}(h0:0<=x) (h1:x<18446744073709551616):Zi .u64 x=x:=by
 simp only[Zi,Za4,ZaK];simp;omega
abbrev eS (a b:SA):Prop:=some (ZG a)=some (ZG b)
abbrev iR (i n:Int):Prop:=0<=i/\i<n
abbrev i04:Prop:=(0:Int)<=(0:Int)/\(0:Int)<(4:Int)
abbrev eN:Prop:=([]:List SB)=[]
abbrev zF:Nat->Int:=λ_=>0
abbrev t8 (n:Nat):Nat:=0+Zh (n:Int)+Zh (n:Int)+Zh (n:Int)+Zh (n:Int)+Zh (n:Int)+Zh (n:Int)+Zh (n:Int)+Zh (n:Int)
end
section
def getN (w a n:Nat):Nat:=w/2^a%2^n
def flipN (w a:Nat):Nat:=w ^^^ 2^a
theorem Qb7 {x:Nat}(h:x<18446744073709551616):Zi .u64 (x:Int)=x:=by
 simp only[Zi,Za4,ZaK];simp;omega
theorem ofI (x:Nat):ZbG 64 (x:Int)=BitVec.ofNat 64 x:=by simp
theorem QkD {x y:Nat}(hx:x<2^64) (hy:y<2^64):bits .and .u64 (x:Int) (y:Int)=((x &&& y:Nat):Int):=by
 show Zi .u64 ((ZbG 64 (x:Int) &&& ZbG 64 (y:Int)).toNat:Int)=_
 rw[ofI,ofI,BitVec.toNat_and,ZaZ,ZaZ,ZaX hx,ZaX hy,Qb7 (Zcu Nat.and_le_left hx)]
theorem QjK {x y:Nat}(hx:x<2^64) (hy:y<2^64):bits .or .u64 (x:Int) (y:Int)=((x ||| y:Nat):Int):=by
 show Zi .u64 ((ZbG 64 (x:Int) ||| ZbG 64 (y:Int)).toNat:Int)=_
 rw[ofI,ofI,BitVec.toNat_or,ZaZ,ZaZ,ZaX hx,ZaX hy,Qb7 (Nat.or_lt_two_pow hx hy)]
theorem Qqr {x y:Nat}(hx:x<2^64) (hy:y<2^64):bits .xor .u64 (x:Int) (y:Int)=((x ^^^ y:Nat):Int):=by
 show Zi .u64 ((ZbG 64 (x:Int) ^^^ ZbG 64 (y:Int)).toNat:Int)=_
 rw[ofI,ofI,BitVec.toNat_xor,ZaZ,ZaZ,ZaX hx,ZaX hy,Qb7 (Nat.xor_lt_two_pow hx hy)]
def Qgs (n:Int):Int:=bif decide (64<=n)then 18446744073709551615 else 2^n.toNat-1
def Qcq (a n:Int):Bool:=decide (0<=a/\1<=n/\a<64/\n<=64-a)
def getZ (w a n:Int):Int:=(getN w.toNat a.toNat n.toNat:Nat)
def bitZ (w a:Int):Bool:=decide (0<=a/\a<64)&&w.toNat.testBit a.toNat
def Qdm (w a:Int):Int:=bif decide (0<=a/\a<64)then (flipN w.toNat a.toNat:Nat)else w
abbrev U64 (w:Int):Prop:=0<=w/\w<18446744073709551616
theorem U64.nat {w:Int}(h:U64 w):∃n:Nat,w=n/\n<2^64:=⟨w.toNat,Za,Za⟩
theorem onesN (n:Nat) (h:n<=64):Qgs (n:Int)=((2^n-1:Nat):Int):=by
 have h1:=Zc4 n
 have h2:((2^n:Nat):Int)=2^n:=by push_cast;rfl
 unfold Qgs
 by_cases h64:n=64
 . subst h64;rfl
 . rw[decide_eq_false Za]
   simp only[cond_false,Zv]
   omega
theorem Qrx (n:Nat) (h:n<=64):2^n-1<2^64:=by
 have h1:=Zc4 n
 have:=Nat.pow_le_pow_right (show 0<2 by decide) h
 omega
theorem QmK (x a:Nat) (h:a<=64):ZbO (x:Int) (2^(min (a:Int).toNat 64))=((x/2^a:Nat):Int):=by
 rw[Zv,YM h,Int.fdiv_eq_ediv_of_nonneg _ (Int.pow_nonneg Zb)]
 push_cast;rfl
theorem Qjh (x a:Nat) (h:a<=64) (hx:x*2^a<18446744073709551616):Zi .u64 ((x:Int)*2^(min (a:Int).toNat 64))=((x*2^a:Nat):Int):=by
 rw[Zv,YM h,show (x:Int)*2^a=((x*2^a:Nat):Int) by push_cast;rfl,Qb7 hx]
theorem Qhy {w a n:Int}(hw:U64 w) (h:Qcq a n=true):bits .and .u64 (ZbO w (2^(min a.toNat 64))) (Qgs n)=getZ w a n:=by
 obtain⟨x,rfl,hx⟩:=hw.nat
 have h:=of_decide_eq_true h
 obtain⟨b,rfl⟩:=Z6 (show 0<=a by omega)
 obtain⟨m,rfl⟩:=Z6 (show 0<=n by omega)
 rw[QmK x b Za,onesN m Za,QkD (Zcu (Zed _ _) hx) (Qrx m Za),Nat.and_two_pow_sub_one_eq_mod]
 rfl
theorem Qqs {w a:Int}(hw:U64 w) (h:0<=a/\a<64):(bits .and .u64 (ZbO w (2^(min a.toNat 64))) 1==1)=bitZ w a:=by
 obtain⟨x,rfl,hx⟩:=hw.nat
 obtain⟨b,rfl⟩:=Z6 h.1
 have:=QkD (x:=x/2^b) (y:=1) (Zcu (Zed _ _) hx) Zb
 rw[QmK x b Za,show (1:Int)=((1:Nat):Int)from rfl,this,Nat.and_one_is_mod]
 unfold bitZ
 rw[decide_eq_true h,ZbM,Zv,Zv,Nat.testBit_eq_decide_div_mod_eq]
 by_cases h1:x/2^b%2=1
 . rw[h1];rfl
 . rw[decide_eq_false h1,beq_eq_false_iff_ne]
   intro hc;exact h1 (by exact_mod_cast hc)
theorem QnN {w a:Int}(hw:U64 w) (h:0<=a/\a<64):bits .xor .u64 w (Zi .u64 (1*2^(min a.toNat 64)))=Qdm w a:=by
 obtain⟨x,rfl,hx⟩:=hw.nat
 obtain⟨b,rfl⟩:=Z6 h.1
 have l:1*2^b<2^64:=by rw[Nat.one_mul];exact Nat.pow_lt_pow_right Zb Za
 rw[show (1:Int)=((1:Nat):Int)from rfl,Qjh 1 b Za l,Qqr hx l,Nat.one_mul]
 unfold Qdm
 rw[decide_eq_true h];rfl
def tk (t:List Int) (i:Nat):Int:=t.getD (i*2) 0
def tv (t:List Int) (i:Nat):Int:=t.getD (i*2+1) 0
def QZ (key:Int) (k:Nat):Nat:=((key*5%8+k)%8).toNat
def hit (t:List Int) (key:Int) (i:Nat):Bool:=tk t i==key||tk t i==0
def Qgj (t:List Int) (key:Int):Nat->Nat->Int
 |0,_=>-1
 |f+1,k=>if hit t key (QZ key k)then QZ key k else Qgj t key f (k+1)
def atI (t:List Int) (key:Int):Int:=Qgj t key 8 0
def Qb3 (t:List Int):Nat->Nat
 |0=>0
 |k+1=>Qb3 t k+if tk t k=0 then 0 else 1
def lenT (t:List Int):Nat:=Qb3 t 8
theorem Qqg (t:List Int) (k:Nat):Qb3 t k<=k:=by
 induction k with
 |zero=>exact Zq _
 |succ k ih=>simp only[Qb3];split<;>omega
def setS (t:List Int) (i:Nat) (k v:Int):List Int:=(t.set (i*2) k).set (i*2+1) v
theorem Qfl (t:List Int) (i:Nat) (k v:Int):(setS t i k v).length=t.length:=by simp[setS]
theorem Qdv (t:List Int) (i j:Nat) (k v:Int) (hl:t.length=16) (hi:i<8):tk (setS t i k v) j=if j=i then k else tk t j:=by
 unfold tk setS
 rw[Zp,Zp,Y8,Y8]
 rw[Ze Za]
 by_cases h:j=i
 . subst h;have hj:j*2<t.length:=Za
   simp[hj]
 . rw[Ze Za,Ze h]
theorem QfD (t:List Int) (i j:Nat) (k v:Int) (hl:t.length=16) (hi:i<8):tv (setS t i k v) j=if j=i then v else tv t j:=by
 unfold tv setS
 rw[Zp,Zp,Y8,Y8]
 by_cases h:j=i
 . subst h;have hj:j*2+1<t.length:=Za
   simp[hj]
 . rw[Ze Za,Ze Za,Ze h]
theorem Qqf (t:List Int) (i:Nat) (k v:Int) (hl:t.length=16) (hi:i<8) (n:Nat):
 (n<=i->Qb3 (setS t i k v) n=Qb3 t n)/\(i<n->Qb3 (setS t i k v) n+(if tk t i=0 then 0 else 1)=Qb3 t n+(if k=0 then 0 else 1)):=by
 induction n with
 |zero=>exact⟨λ_=>rfl,λh=>Za⟩
 |succ n ih=>
  simp only[Qb3,Qdv t i n k v hl hi]
  obtain⟨h1,h2⟩:=ih
  refine⟨λh=>?_,λh=>?_⟩
  . rw[Ze (by omega:¬n=i),h1 Za]
  . by_cases e:n=i
    . subst e;rw[Zf rfl,h1 (Zq _)];omega
    . rw[Ze e];have:=h2 Za;omega
theorem Qd0 (t:List Int) (i:Nat) (k v:Int) (hl:t.length=16) (hi:i<8):
 lenT (setS t i k v)+(if tk t i=0 then 0 else 1)=lenT t+(if k=0 then 0 else 1):=
 (Qqf t i k v hl hi 8).2 hi
theorem Qr3 (t:List Int) (n:Nat) (h:∀j,j<n->tk t j≠0):Qb3 t n=n:=by
 induction n with
 |zero=>rfl
 |succ n ih=>simp only[Qb3];rw[ih (λj hj=>h j Za),Ze (h n Za)]
def hm (key:Int):Nat:=(key*5%8).toNat
theorem Qhx (key:Int):hm key<8:=by unfold hm;omega
theorem XN (key:Int) (k:Nat):QZ key k=(hm key+k)%8:=by unfold QZ hm;omega
theorem QaM (key:Int) (k:Nat):QZ key k<8:=by rw[XN];omega
theorem hit_iff (t:List Int) (key:Int) (i:Nat):hit t key i=true↔tk t i=key\/tk t i=0:=by simp[hit]
theorem Qe1 (t:List Int) (key:Int) (i:Nat):hit t key i=false↔tk t i≠key/\tk t i≠0:=by simp[hit]
theorem atFrom_spec (t:List Int) (key:Int):∀f k,
 (∃m,k<=m/\m<k+f/\Qgj t key f k=QZ key m/\hit t key (QZ key m)=true/\∀m',k<=m'->m'<m->hit t key (QZ key m')=false) \/
 (Qgj t key f k=-1/\∀m',k<=m'->m'<k+f->hit t key (QZ key m')=false)
 |0,k=>.inr ⟨rfl,λ_ _ _=>Za⟩
 |f+1,k=>by
  simp only[Qgj]
  cases h:hit t key (QZ key k)
  . rcases atFrom_spec t key f (k+1)with⟨m,h1,h2,h3,h4,h5⟩|⟨h1,h2⟩
    . refine .inl ⟨m,Za,Za,by simpa using h3,h4,λm' a b=>?_⟩
      by_cases e:m'=k
      . subst e;exact h
      . exact h5 m' Za b
    . refine .inr ⟨by simpa using h1,λm' a b=>?_⟩
      by_cases e:m'=k
      . subst e;exact h
      . exact h2 m' Za Za
  . exact .inl ⟨k,Zq _,Za,by simp,h,λ_ _ _=>Za⟩
theorem atI_spec (t:List Int) (key:Int):
 (∃m,m<8/\atI t key=QZ key m/\hit t key (QZ key m)=true/\∀m',m'<m->hit t key (QZ key m')=false) \/
 (atI t key=-1/\∀j,j<8->hit t key j=false):=by
 rcases atFrom_spec t key 8 0 with⟨m,h1,h2,h3,h4,h5⟩|⟨h1,h2⟩
 . exact .inl ⟨m,Za,h3,h4,λm' h=>h5 m' Za h⟩
 . refine .inr ⟨h1,λj hj=>?_⟩
   have hh:=Qhx key
   have:=h2 ((j+8-hm key)%8) Za Za
   rwa [XN,show (hm key+(j+8-hm key)%8)%8=j by omega]at this
theorem atI_of (t:List Int) (key:Int) (m:Nat) (hm8:m<8) (h:hit t key (QZ key m)=true) (h':∀m',m'<m->hit t key (QZ key m')=false):atI t key=QZ key m:=by
 rcases atI_spec t key with⟨m2,a,b,c,d⟩|⟨_,b⟩
 . have:m2=m:=by
    rcases Nat.lt_trichotomy m2 m with g|g|g
    . rw[h' m2 g]at c;cases c
    . exact g
    . rw[d m g]at h;cases h
   rw[b,this]
 . rw[b _ (QaM _ _)]at h;cases h
def dst (h j:Nat):Nat:=(j+8-h)%8
theorem QjZ (key:Int) (j:Nat) (hj:j<8):QZ key (dst (hm key) j)=j:=by
 have:=Qhx key;rw[XN];unfold dst;omega
structure Good (t:List Int):Prop where
 len:t.length=16
 few:lenT t<=6
 key0:∀i,i<8->0<=tk t i
 key1:∀i,i<8->tk t i<=1000
 val0:∀i,i<8->0<=tv t i
 val1:∀i,i<8->tv t i<=4294967295
 none:∀i,i<8->tk t i=0->tv t i=0
 once:∀i j,i<8->j<8->tk t i=tk t j->tk t i≠0->i=j
 path:∀j,j<8->tk t j≠0->∀m,m<dst (hm (tk t j)) j->tk t (QZ (tk t j) m)≠0
theorem Good.found {t:List Int}(g:Good t) (j:Nat) (hj:j<8) (h0:tk t j≠0):atI t (tk t j)=j:=by
 have e:=QjZ (tk t j) j hj
 rw[atI_of t (tk t j) (dst (hm (tk t j)) j) (by unfold dst;omega) (by rw[e,hit_iff];exact .inl rfl),e]
 intro m hmm
 rw[Qe1]
 refine⟨λh=>?_,g.path j hj h0 m hmm⟩
 have:=g.once _ _ (QaM _ _) hj h (by rw[h];exact h0)
 rw[XN]at this
 have h1:=Qhx (tk t j)
 unfold dst at hmm;omega
theorem Good.mk' {t:List Int}(len:t.length=16) (few:lenT t<=6) (r:∀i,i<8->0<=tk t i/\tk t i<=1000/\0<=tv t i/\tv t i<=4294967295/\(tk t i=0->tv t i=0)/\(tk t i≠0->atI t (tk t i)=i)):Good t:=by
 refine⟨len,few,λi h=>(r i h).1,λi h=>(r i h).2.1,λi h=>(r i h).2.2.1,λi h=>(r i h).2.2.2.1,λi h=>(r i h).2.2.2.2.1,?_,?_⟩
 . intro i j hi hj e h0
   have a:=(r i hi).2.2.2.2.2 h0
   have b:=(r j hj).2.2.2.2.2 (by rw[<- e];exact h0)
   rw[<- e,a]at b;omega
 . intro j hj h0 m hmm
   have a:=(r j hj).2.2.2.2.2 h0
   rcases atI_spec t (tk t j)with⟨m2,b,c,d,e⟩|⟨b,_⟩
   . rw[c]at a
     have:m2=dst (hm (tk t j)) j:=by
      have a':QZ (tk t j) m2=j:=Za
      rw[XN]at a'
      have:=Qhx (tk t j)
      unfold dst;omega
     exact ((Qe1 _ _ _).1 (e m Za)).2
   . rw[b]at a;omega
theorem Good.free {t:List Int}(g:Good t):∃z,z<8/\tk t z=0:=by
 by_cases h:∃z,z<8/\tk t z=0
 . exact h
 . have:=Qr3 t 8 (λj hj hz=>h ⟨j,hj,hz⟩)
   have:=g.few;unfold lenT at this;omega
theorem Good.at {t:List Int}(g:Good t) (key:Int):∃i,i<8/\atI t key=(i:Nat)/\(tk t i=key\/tk t i=0)/\∃m,m<8/\QZ key m=i/\∀m',m'<m->tk t (QZ key m')≠key/\tk t (QZ key m')≠0:=by
 rcases atI_spec t key with⟨m,a,b,c,d⟩|⟨_,b⟩
 . exact⟨QZ key m,QaM _ _,b,(hit_iff _ _ _).1 c,m,a,rfl,λm' h=>(Qe1 _ _ _).1 (d m' h)⟩
 . obtain⟨z,hz,h0⟩:=g.free
   have:=(Qe1 _ _ _).1 (b z hz)
   exact absurd h0 this.2
def thereB (t:List Int) (key:Int):Bool:=decide (0<=atI t key)&&(tk t (atI t key).toNat==key)
theorem Good.there {t:List Int}(g:Good t) (key:Int) (hk:key≠0):thereB t key=true↔∃j,j<8/\tk t j=key:=by
 obtain⟨i,hi,ha,-,-⟩:=g.at key
 constructor
 . intro h
   simp only[thereB,ha,Zr,decide_eq_true_eq,beq_iff_eq,Zv]at h
   exact⟨i,hi,h.2⟩
 . rintro⟨j,hj,rfl⟩
   have:=g.found j hj hk
   simp[thereB,this]
theorem Good.val {t:List Int}(g:Good t) (j:Nat) (hj:j<8) (h0:tk t j≠0):tv t (atI t (tk t j)).toNat=tv t j:=by
 rw[g.found j hj h0];rfl
theorem Good.put {t:List Int}(g:Good t) (key v:Int) (h1:1<=key) (h2:key<=1000) (v0:0<=v) (v1:v<=4294967295) (hf:thereB t key=true\/lenT t<=5):
 Good (setS t (atI t key).toNat key v):=by
 obtain⟨i,hi,ha,ho,m,hm8,hsm,hb⟩:=g.at key
 rw[ha,Zv]
 have e1:=λj=>Qdv t i j key v g.len hi
 have e2:=λj=>QfD t i j key v g.len hi
 have hl:=Qd0 t i key v g.len hi
 refine⟨by rw[Qfl];exact g.len,?_,?_,?_,?_,?_,?_,?_,?_⟩
 . rw[Ze (by omega:¬key=0)]at hl
   rcases ho with h|h
   . rw[Ze Za]at hl;have:=g.few;omega
   . rw[Zf h]at hl
     rcases hf with hf|hf
     . simp[thereB,ha,h]at hf;omega
     . omega
 . intro j hj;rw[e1];split
   . omega
   . exact g.key0 j hj
 . intro j hj;rw[e1];split
   . omega
   . exact g.key1 j hj
 . intro j hj;rw[e2];split
   . omega
   . exact g.val0 j hj
 . intro j hj;rw[e2];split
   . omega
   . exact g.val1 j hj
 . intro j hj;rw[e1,e2];split
   . intro;omega
   . exact g.none j hj
 . have hk:∀j,j<8->tk t j=key->j=i:=by
    intro j hj hh
    have:=g.found j hj Za
    rw[hh,ha]at this;omega
   intro a b ha' hb' e h0
   rw[e1,e1]at e;rw[e1]at h0
   by_cases x:a=i<;>by_cases y:b=i
   . omega
   . rw[Zf x,Ze y]at e;exact absurd (hk b hb' e.symm) y
   . rw[Ze x,Zf y]at e;exact absurd (hk a ha' e) x
   . rw[Ze x,Ze y]at e;rw[Ze x]at h0;exact g.once a b ha' hb' e h0
 . intro j hj h0 m2 hm2
   rw[e1]at h0 hm2 ⊢
   rw[e1]
   by_cases x:j=i
   . rw[Zf x]at hm2 ⊢
     split
     . omega
     . have:m2<m:=by
        have:=Qhx key
        rw[XN]at hsm;unfold dst at hm2;omega
       exact (hb m2 this).2
   . rw[Ze x]at h0 hm2 ⊢
     split
     . omega
     . exact g.path j hj h0 m2 hm2
theorem Good.put_keys {t:List Int}(g:Good t) (key v:Int) (h1:1<=key) (k:Int) (hk:k≠0) (u:Int):
 (∃j,j<8/\tk (setS t (atI t key).toNat key v) j=k/\tv (setS t (atI t key).toNat key v) j=u)↔(k=key/\u=v)\/(k≠key/\∃j,j<8/\tk t j=k/\tv t j=u):=by
 obtain⟨i,hi,ha,ho,m,hm8,hsm,hb⟩:=g.at key
 rw[ha,Zv]
 have e1:=λj=>Qdv t i j key v g.len hi
 have e2:=λj=>QfD t i j key v g.len hi
 have hkk:∀j,j<8->tk t j=key->j=i:=by
  intro j hj hh
  have:=g.found j hj Za
  rw[hh,ha]at this;omega
 constructor
 . rintro⟨j,hj,a,b⟩
   rw[e1]at a;rw[e2]at b
   by_cases x:j=i
   . rw[Zf x]at a b;exact .inl ⟨a.symm,b.symm⟩
   . rw[Ze x]at a b
     by_cases y:k=key
     . exact absurd (hkk j hj Za) x
     . exact .inr ⟨y,j,hj,a,b⟩
 . rintro (⟨rfl,rfl⟩|⟨y,j,hj,a,b⟩)
   . exact⟨i,hi,by rw[e1,Zf rfl],by rw[e2,Zf rfl]⟩
   . have x:j≠i:=by
      rintro rfl
      rcases ho with h|h
      . omega
      . omega
     exact⟨j,hj,by rw[e1,Ze x];exact a,by rw[e2,Ze x];exact b⟩
def Qo9 (T:List Int) (k:Nat):List Int:=setS (setS T k 0 0) (atI (setS T k 0 0) (tk T k)).toNat (tk T k) (tv T k)
def Qlv (t:List Int) (i:Nat):Nat->List Int
 |0=>setS t i 0 0
 |n+1=>Qo9 (Qlv t i n) ((i+1+n)%8)
def QaW (t:List Int) (i:Nat):Nat->Nat->Nat
 |0,e=>e
 |f+1,e=>if tk t ((i+e)%8)=0 then e else QaW t i f (e+1)
def XQ (t:List Int) (i:Nat):Nat:=QaW t i 7 1
def Qe8 (t:List Int) (i:Nat):List Int:=Qlv t i (XQ t i-1)
theorem Qe4 (t:List Int) (i:Nat):∀f e,e<=QaW t i f e/\QaW t i f e<=e+f/\(∀o,e<=o->o<QaW t i f e->tk t ((i+o)%8)≠0)/\(QaW t i f e<e+f->tk t ((i+QaW t i f e)%8)=0)
 |0,e=>⟨Zq _,Zq _,λ_ _ _=>by simp only[QaW]at *;omega,λh=>by simp only[QaW]at h;omega⟩
 |f+1,e=>by
  simp only[QaW]
  split
  . next h=>exact⟨Zq _,Za,λ_ _ _=>Za,λ_=>h⟩
  . next h=>
    obtain⟨a,b,c,d⟩:=Qe4 t i f (e+1)
    refine⟨Za,Za,λo h1 h2=>?_,λh1=>d Za⟩
    by_cases x:o=e
    . subst x;exact h
    . exact c o Za h2
theorem Qcm {t:List Int}(g:Good t) (i:Nat) (hi:i<8) (h0:tk t i≠0):1<=XQ t i/\XQ t i<=7/\(∀o,1<=o->o<XQ t i->tk t ((i+o)%8)≠0)/\tk t ((i+XQ t i)%8)=0:=by
 obtain⟨a,b,c,d⟩:=Qe4 t i 7 1
 have hlt:QaW t i 7 1<1+7:=by
  rcases Yy (QaW t i 7 1) 8 with h|h
  . omega
  . exfalso
    obtain⟨z,hz,hz0⟩:=g.free
    by_cases x:z=i
    . subst x;exact h0 hz0
    . refine c (dst i z) (by unfold dst;omega) (by unfold dst;omega) ?_
      rw[show (i+dst i z)%8=z by unfold dst;omega];exact hz0
 exact⟨a,by unfold XQ;omega,c,d hlt⟩
structure InvC (t:List Int) (i E n:Nat) (T:List Int):Prop where
 len:T.length=16
 cnt:lenT T+1=lenT t
 key0:∀i,i<8->0<=tk T i
 key1:∀i,i<8->tk T i<=1000
 val0:∀i,i<8->0<=tv T i
 val1:∀i,i<8->tv T i<=4294967295
 none:∀i,i<8->tk T i=0->tv T i=0
 once:∀i j,i<8->j<8->tk T i=tk T j->tk T i≠0->i=j
 run:∀o,n<o->o<E->tk T ((i+o)%8)≠0
 stop:tk T ((i+E)%8)=0
 path:∀j,j<8->tk T j≠0->∀m,m<dst (hm (tk T j)) j->tk T (QZ (tk T j) m)≠0\/(n<dst i j/\dst i j<E/\dst i (QZ (tk T j) m)<=n)
 same:∀k,k≠0->∀u,(∃j,j<8/\tk T j=k/\tv T j=u)↔k≠tk t i/\∃j,j<8/\tk t j=k/\tv t j=u
theorem QlJ {t:List Int}(g:Good t) (i:Nat) (hi:i<8) (h0:tk t i≠0):InvC t i (XQ t i) 0 (setS t i 0 0):=by
 obtain⟨E1,E7,hr,hs⟩:=Qcm g i hi h0
 have e1:=λj=>Qdv t i j 0 0 g.len hi
 have e2:=λj=>QfD t i j 0 0 g.len hi
 have hl:=Qd0 t i 0 0 g.len hi
 rw[Ze h0,Zf rfl]at hl
 refine⟨by rw[Qfl];exact g.len,Za,?_,?_,?_,?_,?_,?_,?_,?_,?_,?_⟩
 . intro j hj;rw[e1];split
   . omega
   . exact g.key0 j hj
 . intro j hj;rw[e1];split
   . omega
   . exact g.key1 j hj
 . intro j hj;rw[e2];split
   . omega
   . exact g.val0 j hj
 . intro j hj;rw[e2];split
   . omega
   . exact g.val1 j hj
 . intro j hj;rw[e1,e2];split
   . intro;rfl
   . exact g.none j hj
 . intro a b ha hb e h
   rw[e1]at h e;rw[e1]at e
   by_cases x:a=i
   . rw[Zf x]at h;omega
   . rw[Ze x]at h e
     by_cases y:b=i
     . rw[Zf y]at e;exact absurd e h
     . rw[Ze y]at e;exact g.once a b ha hb e h
 . intro o ho hoE;rw[e1,Ze Za];exact hr o Za hoE
 . rw[e1,Ze Za];exact hs
 . intro j hj h m hmm
   by_cases x:j=i
   . rw[e1,Zf x]at h;exact absurd rfl h
   have ej:tk (setS t i 0 0) j=tk t j:=by rw[e1,Ze x]
   rw[ej]at h hmm ⊢
   have hp:=g.path j hj h m hmm
   by_cases y:QZ (tk t j) m=i
   . by_cases z:dst i j<XQ t i
     . exact .inr ⟨by unfold dst;omega,z,by rw[y];unfold dst;omega⟩
     . exfalso
       have hne:dst i j≠XQ t i:=by
        intro q;refine h ?_;rw[<- hs,<- q];congr 1;unfold dst;omega
       refine g.path j hj h (m+XQ t i) ?_ ?_
       . have:=Qhx (tk t j);rw[XN]at y;unfold dst at *;omega
       . rw[<- hs];congr 1;rw[XN]at y ⊢;omega
   . rw[e1,Ze y];exact .inl hp
 . intro k hk u
   constructor
   . rintro⟨j,hj,a,b⟩
     rw[e1]at a;rw[e2]at b
     by_cases x:j=i
     . rw[Zf x]at a;omega
     . rw[Ze x]at a b
       refine⟨λq=>x (g.once j i hj hi Za Za),j,hj,a,b⟩
   . rintro⟨q,j,hj,a,b⟩
     have x:j≠i:=by rintro rfl;exact q a.symm
     exact⟨j,hj,by rw[e1,Ze x];exact a,by rw[e2,Ze x];exact b⟩
theorem QjX {t:List Int}{i E n:Nat}{T:List Int}(v:InvC t i E n T) (hi:i<8) (hn:n+1<E) (hE:E<=7):
 ∃a,a<8/\atI (setS T ((i+1+n)%8) 0 0) (tk T ((i+1+n)%8))=(a:Nat)/\tk (setS T ((i+1+n)%8) 0 0) a=0/\dst i a<=n+1 /\
  ∃m,m<8/\QZ (tk T ((i+1+n)%8)) m=a/\∀m',m'<m->tk (setS T ((i+1+n)%8) 0 0) (QZ (tk T ((i+1+n)%8)) m')≠0:=by
 have hrun:=v.run (n+1) Za hn
 rw[show i+(n+1)=i+1+n by omega]at hrun
 obtain⟨k,hk⟩:∃k,k=(i+1+n)%8:=⟨_,rfl⟩
 rw[<- hk]at hrun ⊢
 have hk8:k<8:=Za
 have e1:=λj=>Qdv T k j 0 0 v.len hk8
 have hh:=Qhx (tk T k)
 have hM:=QjZ (tk T k) k hk8
 rcases atI_spec (setS T k 0 0) (tk T k)with⟨m,a,b,c,d⟩|⟨_,b⟩
 . refine⟨QZ (tk T k) m,QaM _ _,b,?_,?_,m,a,rfl,λm' h=>((Qe1 _ _ _).1 (d m' h)).2⟩
   . rcases (hit_iff _ _ _).1 c with h|h
     . exfalso
       rw[e1]at h
       by_cases x:QZ (tk T k) m=k
       . rw[Zf x]at h;omega
       . rw[Ze x]at h;exact x (v.once _ _ (QaM _ _) hk8 h Za)
     . exact h
   . by_cases x:QZ (tk T k) m=k
     . rw[x];unfold dst;omega
     . have hlt:m<dst (hm (tk T k)) k:=by
        rcases Yy m (dst (hm (tk T k)) k)with h|h
        . exact h
        . exfalso
          by_cases y:m=dst (hm (tk T k)) k
          . rw[y]at x;exact x hM
          . have:=d (dst (hm (tk T k)) k) Za
            rw[hM,Qe1,e1,Zf rfl]at this
            exact this.2 rfl
       rcases v.path k hk8 hrun m hlt with h|⟨_,_,h⟩
       . exfalso
         rcases (hit_iff _ _ _).1 c with g|g
         . rw[e1,Ze x]at g
           exact x (v.once _ _ (QaM _ _) hk8 g Za)
         . rw[e1,Ze x]at g;exact h g
       . omega
 . exfalso
   have:=(Qe1 _ _ _).1 (b k hk8)
   rw[e1,Zf rfl]at this
   exact this.2 rfl
theorem Qnw {t:List Int}{i E n:Nat}{T:List Int}(v:InvC t i E n T) (hi:i<8) (hn:n+1<E) (hE:E<=7):InvC t i E (n+1) (Qo9 T ((i+1+n)%8)):=by
 obtain⟨a,ha8,haI,ha0,had,m0,hm0,hsl,hbef⟩:=QjX v hi hn hE
 have hrun:=v.run (n+1) Za hn
 rw[show i+(n+1)=i+1+n by omega]at hrun
 unfold Qo9
 rw[haI,Zv]
 obtain⟨k,hk⟩:∃k,k=(i+1+n)%8:=⟨_,rfl⟩
 rw[<- hk]at hrun ha0 hsl hbef ⊢
 have hk8:k<8:=Za
 have hdk:dst i k=n+1:=by unfold dst;omega
 have f1:=λj=>Qdv T k j 0 0 v.len hk8
 have f2:=λj=>QfD T k j 0 0 v.len hk8
 have hlen1:(setS T k 0 0).length=16:=by rw[Qfl];exact v.len
 have e1:∀j,tk (setS (setS T k 0 0) a (tk T k) (tv T k)) j=if j=a then tk T k else if j=k then 0 else tk T j:=λj=>by rw[Qdv _ a j _ _ hlen1 ha8,f1]
 have e2:∀j,tv (setS (setS T k 0 0) a (tk T k) (tv T k)) j=if j=a then tv T k else if j=k then 0 else tv T j:=λj=>by rw[QfD _ a j _ _ hlen1 ha8,f2]
 have l1:=Qd0 T k 0 0 v.len hk8
 have l2:=Qd0 (setS T k 0 0) a (tk T k) (tv T k) hlen1 ha8
 rw[Ze hrun,Zf rfl]at l1
 rw[Zf ha0,Ze hrun]at l2
 have hak:a≠k->tk T a=0:=λx=>by rw[f1,Ze x]at ha0;exact ha0
 refine⟨by rw[Qfl];exact hlen1,by have:=v.cnt;omega,?_,?_,?_,?_,?_,?_,?_,?_,?_,?_⟩
 . intro j hj;rw[e1];split
   . exact v.key0 k hk8
   . split
     . omega
     . exact v.key0 j hj
 . intro j hj;rw[e1];split
   . exact v.key1 k hk8
   . split
     . omega
     . exact v.key1 j hj
 . intro j hj;rw[e2];split
   . exact v.val0 k hk8
   . split
     . omega
     . exact v.val0 j hj
 . intro j hj;rw[e2];split
   . exact v.val1 k hk8
   . split
     . omega
     . exact v.val1 j hj
 . intro j hj;rw[e1,e2];split
   . exact v.none k hk8
   . split
     . intro;rfl
     . exact v.none j hj
 . intro x y hx hy e h
   rw[e1]at h e;rw[e1]at e
   by_cases xa:x=a
   . by_cases ya:y=a
     . omega
     . rw[Zf xa]at e h;rw[Ze ya]at e
       by_cases yk:y=k
       . rw[Zf yk]at e;exact absurd e h
       . rw[Ze yk]at e;exact absurd (v.once _ _ hk8 hy e h).symm yk
   . rw[Ze xa]at e h
     by_cases xk:x=k
     . rw[Zf xk]at h;exact absurd rfl h
     . rw[Ze xk]at e h
       by_cases ya:y=a
       . rw[Zf ya]at e;exact absurd (v.once _ _ hx hk8 e h) xk
       . rw[Ze ya]at e
         by_cases yk:y=k
         . rw[Zf yk]at e;exact absurd e h
         . rw[Ze yk]at e;exact v.once _ _ hx hy e h
 . intro o ho hoE
   have hd:dst i ((i+o)%8)=o:=by unfold dst;omega
   rw[e1,Ze (by rintro rfl;omega),Ze (by rintro rfl;omega)]
   exact v.run o Za hoE
 . have hd:dst i ((i+E)%8)=E:=by unfold dst;omega
   rw[e1,Ze (by rintro rfl;omega),Ze (by rintro rfl;omega)]
   exact v.stop
 . intro j hj h m hmm
   by_cases xa:j=a
   . rw[e1 j,Zf xa]at hmm ⊢
     have hlt:m<m0:=by
      have:=Qhx (tk T k)
      rw[XN]at hsl;unfold dst at hmm;omega
     have hb:=hbef m hlt
     rw[f1]at hb
     left
     rw[e1]
     split
     . exact hrun
     . exact hb
   . have xk:j≠k:=by
      rintro rfl;rw[e1,Ze xa,Zf rfl]at h;exact h rfl
     rw[e1 j,Ze xa,Ze xk]at h hmm ⊢
     have hp:=v.path j hj h m hmm
     obtain⟨p,hp'⟩:∃p,p=QZ (tk T j) m:=⟨_,rfl⟩
     have hp8:p<8:=by rw[hp'];exact QaM _ _
     rw[<- hp']at hp ⊢
     rw[e1]
     by_cases pa:p=a
     . left;rw[Zf pa];exact hrun
     rw[Ze pa]
     have hjk:dst i j≠n+1:=by intro q;refine xk ?_;rw[hk];unfold dst at q;omega
     by_cases pk:p=k
     . rw[Zf pk]
       by_cases z:n<dst i j/\dst i j<E
       . right;rw[pk,hdk];omega
       . exfalso
         have hne:dst i j≠E:=by
          intro q;refine h ?_;rw[<- v.stop,<- q];congr 1;unfold dst;omega
         have hq:=v.path j hj h (m+(E-n-1)) (by
          have:=Qhx (tk T j);rw[XN]at hp';unfold dst at *;omega)
         rcases hq with hq|⟨q1,q2,_⟩
         . refine hq ?_
           rw[<- v.stop];congr 1;rw[XN]at hp' ⊢;omega
         . exact z ⟨q1,q2⟩
     . rw[Ze pk]
       rcases hp with hp|⟨q1,q2,q3⟩
       . exact .inl hp
       . exact .inr ⟨Za,q2,Za⟩
 . intro k' hk' u
   rw[<- v.same k' hk' u]
   constructor
   . rintro⟨j,hj,x,y⟩
     rw[e1]at x;rw[e2]at y
     by_cases ja:j=a
     . rw[Zf ja]at x y;exact⟨k,hk8,x,y⟩
     . rw[Ze ja]at x y
       by_cases jk:j=k
       . rw[Zf jk]at x;omega
       . rw[Ze jk]at x y;exact⟨j,hj,x,y⟩
   . rintro⟨j,hj,x,y⟩
     by_cases jk:j=k
     . subst jk;exact⟨a,ha8,by rw[e1,Zf rfl];exact x,by rw[e2,Zf rfl];exact y⟩
     . have ja:j≠a:=by
        rintro rfl;have:=hak jk;omega
       exact⟨j,hj,by rw[e1,Ze ja,Ze jk];exact x,by rw[e2,Ze ja,Ze jk];exact y⟩
theorem Qf2 {t:List Int}(g:Good t) (i:Nat) (hi:i<8) (h0:tk t i≠0):∀n,n<XQ t i->InvC t i (XQ t i) n (Qlv t i n)
 |0,_=>QlJ g i hi h0
 |n+1,h=>Qnw (Qf2 g i hi h0 n Za) hi h (Qcm g i hi h0).2.1
theorem QgZ {t:List Int}(g:Good t) (i:Nat) (hi:i<8) (h0:tk t i≠0):InvC t i (XQ t i) (XQ t i-1) (Qe8 t i):=
 Qf2 g i hi h0 _ (by have:=(Qcm g i hi h0).1;omega)
theorem Qgg {t:List Int}(g:Good t) (i:Nat) (hi:i<8) (h0:tk t i≠0):Good (Qe8 t i):=by
 have v:=QgZ g i hi h0
 refine⟨v.len,by have:=v.cnt;have:=g.few;omega,v.key0,v.key1,v.val0,v.val1,v.none,v.once,λj hj h m hmm=>?_⟩
 rcases v.path j hj h m hmm with q|⟨a,b,c⟩
 . exact q
 . omega
def QaV (t:List Int) (k:Int):Int × Int:=if thereB t k then (1,tv t (atI t k).toNat)else (4,0)
def doT (t:List Int) (what key value:Int):List Int × Int × Int:=
 if what=6 then (t,1,lenT t)
 else if (what≠1/\what≠2/\what≠5)\/key<1\/1000<key then (t,5,0)
 else if what=1 then (if thereB t key=false/\6<=lenT t then (t,3,0)else (setS t (atI t key).toNat key value,1,0))
 else if thereB t key=false then (t,4,0)
 else if what=2 then (Qe8 t (atI t key).toNat,1,tv t (atI t key).toNat)else (t,1,tv t (atI t key).toNat)
def In (t:List Int) (k u:Int):Prop:=∃j,j<8/\tk t j=k/\tv t j=u
theorem QfP {t:List Int}(g:Good t) {k u:Int}(hk:k≠0) (h:In t k u):QaV t k=(1,u):=by
 obtain⟨j,hj,rfl,rfl⟩:=h
 unfold QaV
 rw[(g.there _ hk).2 ⟨j,hj,rfl⟩,Zf rfl,g.val j hj hk]
theorem Qhh {t:List Int}(g:Good t) {k:Int}(hk:k≠0) (h:∀u,¬In t k u):QaV t k=(4,0):=by
 unfold QaV
 rw[Ze]
 intro e
 obtain⟨j,hj,e⟩:=(g.there _ hk).1 e
 exact h _ ⟨j,hj,e,rfl⟩
theorem peekA_or {t:List Int}(g:Good t) {k:Int}(hk:k≠0):(∃u,In t k u/\QaV t k=(1,u)/\thereB t k=true)\/((∀u,¬In t k u)/\QaV t k=(4,0)/\thereB t k=false):=by
 by_cases h:∃u,In t k u
 . obtain⟨u,hu⟩:=h
   refine .inl ⟨u,hu,QfP g hk hu,(g.there _ hk).2 ?_⟩
   obtain⟨j,hj,a,_⟩:=hu
   exact⟨j,hj,a⟩
 . have h':∀u,¬In t k u:=λu hu=>h ⟨u,hu⟩
   refine .inr ⟨h',Qhh g hk h',?_⟩
   cases e:thereB t k
   . rfl
   . obtain⟨j,hj,e⟩:=(g.there _ hk).1 e
     exact absurd ⟨j,hj,e,rfl⟩ (h' _)
theorem QfQ {t t':List Int}(g:Good t) (g':Good t') {k:Int}(hk:k≠0) (h:∀u,In t k u↔In t' k u):QaV t k=QaV t' k:=by
 rcases peekA_or g hk with⟨u,a,b,_⟩|⟨a,b,_⟩
 . rw[b,QfP g' hk ((h u).1 a)]
 . rw[b,Qhh g' hk (λu hu=>a u ((h u).2 hu))]
theorem Qp8 {t:List Int}(k v:Int) (h1:1<=k) (h2:k<=1000):doT t 5 k v=(t,(QaV t k).1,(QaV t k).2):=by
 unfold doT QaV
 rw[Ze Za,Ze Za,Ze Za]
 cases thereB t k
 . simp
 . simp
theorem put_cases {t:List Int}(g:Good t) (k v:Int) (h1:1<=k) (h2:k<=1000) (v0:0<=v) (v1:v<=4294967295):
 (doT t 1 k v=(t,3,0)/\lenT t=6/\QaV t k=(4,0)) \/
 (∃u,doT t 1 k v=(u,1,0)/\Good u/\QaV u k=(1,v)/\(∀l,l≠0->l≠k->QaV u l=QaV t l)/\((QaV t k).1=4/\lenT u=lenT t+1\/(QaV t k).1=1/\lenT u=lenT t)):=by
 have hk0:k≠0:=Za
 by_cases hf:thereB t k=false/\6<=lenT t
 . left
   refine⟨?_,by have:=g.few;omega,?_⟩
   . unfold doT;rw[Ze Za,Ze Za,Zf rfl,Zf hf]
   . unfold QaV;rw[hf.1];rfl
 . right
   have gp:=g.put k v h1 h2 v0 v1 (by
    cases e:thereB t k
    . right;have:¬6<=lenT t:=λx=>hf ⟨e,x⟩;omega
    . left;rfl)
   have ks:=λl hl u=>g.put_keys k v h1 l hl u
   refine⟨setS t (atI t k).toNat k v,?_,gp,?_,?_,?_⟩
   . unfold doT;rw[Ze Za,Ze Za,Zf rfl,Ze hf]
   . exact QfP gp hk0 ((ks k hk0 v).2 (.inl ⟨rfl,rfl⟩))
   . intro l hl hlk
     refine QfQ gp g hl λu=>?_
     refine (ks l hl u).trans ⟨?_,λx=>.inr ⟨hlk,x⟩⟩
     rintro (⟨x,_⟩|⟨_,x⟩)
     . exact absurd x hlk
     . exact x
   . obtain⟨i,hi,ha,ho,-⟩:=g.at k
     have hl:=Qd0 t i k v g.len hi
     rw[Ze hk0]at hl
     rw[ha,Zv]
     by_cases e:tk t i=k
     . right
       have ht:thereB t k=true:=by simp[thereB,ha,e]
       rw[Ze Za]at hl
       exact⟨by unfold QaV;rw[ht];rfl,Za⟩
     . left
       have e0:tk t i=0:=by rcases ho with h|h;exact absurd h e;exact h
       have ht:thereB t k=false:=by simp[thereB,ha,e0];omega
       rw[Zf e0]at hl
       exact⟨by unfold QaV;rw[ht];rfl,Za⟩
theorem take_cases {t:List Int}(g:Good t) (k v:Int) (h1:1<=k) (h2:k<=1000):
 (QaV t k=(4,0)/\doT t 2 k v=(t,4,0)) \/
 (∃u x,QaV t k=(1,x)/\doT t 2 k v=(u,1,x)/\Good u/\QaV u k=(4,0)/\(∀l,l≠0->l≠k->QaV u l=QaV t l)/\lenT u+1=lenT t):=by
 have hk0:k≠0:=Za
 rcases peekA_or g hk0 with⟨x,hx,hp,ht⟩|⟨hx,hp,ht⟩
 . right
   obtain⟨j,hj,rfl,rfl⟩:=hx
   have ha:=g.found j hj hk0
   have gi:=QgZ g j hj hk0
   have gc:=Qgg g j hj hk0
   refine⟨Qe8 t j,tv t j,hp,?_,gc,?_,?_,gi.cnt⟩
   . unfold doT;rw[Ze Za,Ze Za,Ze Za,ht,Ze (by simp),Zf rfl,ha];rfl
   . exact Qhh gc hk0 λu hu=>((gi.same _ hk0 u).1 hu).1 rfl
   . intro l hl hlk
     exact QfQ gc g hl λu=>(gi.same l hl u).trans ⟨λh=>h.2,λh=>⟨hlk,h⟩⟩
 . left
   refine⟨hp,?_⟩
   unfold doT;rw[Ze Za,Ze Za,Ze Za,Zf ht]
theorem Qkx {t:List Int}(g:Good t) (w k v:Int) (v0:0<=v) (v1:v<=4294967295):Good (doT t w k v).1:=by
 by_cases h6:w=6
 . unfold doT;rw[Zf h6];exact g
 by_cases hw:(w≠1/\w≠2/\w≠5)\/k<1\/1000<k
 . unfold doT;rw[Ze h6,Zf hw];exact g
 by_cases w1:w=1
 . subst w1
   rcases put_cases g k v Za Za v0 v1 with⟨e,-⟩|⟨u,e,gu,-⟩
   . rw[e];exact g
   . rw[e];exact gu
 by_cases w2:w=2
 . subst w2
   rcases take_cases g k v Za Za with⟨-,e⟩|⟨u,x,-,e,gu,-⟩
   . rw[e];exact g
   . rw[e];exact gu
 . obtain rfl:w=5:=Za
   rw[Qp8 k v Za Za];exact g
def hp (xs:List Int) (i:Nat):Int:=xs.getD i 0
def swp (xs:List Int) (i j:Nat):List Int:=(xs.set i (hp xs j)).set j (hp xs i)
def upF:Nat->List Int->Nat->List Int
 |0,xs,_=>xs
 |f+1,xs,i=>if 0<i/\hp xs i<hp xs ((i-1)/2)then upF f (swp xs i ((i-1)/2)) ((i-1)/2)else xs
def kid (xs:List Int) (i:Nat):Nat:=if 2*i+2<xs.length/\hp xs (2*i+2)<hp xs (2*i+1)then 2*i+2 else 2*i+1
def QdI:Nat->List Int->Nat->List Int
 |0,xs,_=>xs
 |f+1,xs,i=>if xs.length<=kid xs i\/hp xs i<=hp xs (kid xs i)then xs else QdI f (swp xs i (kid xs i)) (kid xs i)
def Qes (xs:List Int):Prop:=∀j,0<j->j<xs.length->hp xs ((j-1)/2)<=hp xs j
theorem Qy (xs:List Int) (i j:Nat):(swp xs i j).length=xs.length:=by simp[swp]
theorem Qcs (xs:List Int) (i j k:Nat) (hi:i<xs.length) (hj:j<xs.length):hp (swp xs i j) k=if k=j then hp xs i else if k=i then hp xs j else hp xs k:=by
 unfold hp swp
 rw[Zp,Y8,Y8]
 by_cases h:k=j
 . subst h;simp[hj,hp]
 . rw[Ze (λe=>h e.symm),Ze h]
   by_cases h':k=i
   . subst h';simp[hi,hp]
   . rw[Ze (λe=>h' e.symm),Ze h',Zp]
theorem QjU (xs:List Int) (i j:Nat) (hi:i<xs.length) (hj:j<xs.length):(swp xs i j).Perm xs:=by
 have h:=Array.swap_perm (xs:=xs.toArray) (i:=i) (j:=j) (by simpa using hi) (by simpa using hj)
 have h2:=Array.perm_iff_toList_perm.1 h
 have e:(xs.toArray.swap i j (by simpa using hi) (by simpa using hj)).toList=swp xs i j:=by
  simp[Array.swap,swp,hp,Zp,hi,hj]
 rw[e]at h2
 simpa using h2
theorem QgA (f:Nat):∀(xs:List Int) (i:Nat),(upF f xs i).length=xs.length:=by
 induction f with
 |zero=>intro xs i;rfl
 |succ f ih=>intro xs i;simp only[upF];split;. rw[ih,Qy]
             . rfl
theorem Qe5 (f:Nat):∀(xs:List Int) (i:Nat),(QdI f xs i).length=xs.length:=by
 induction f with
 |zero=>intro xs i;rfl
 |succ f ih=>intro xs i;simp only[QdI];split;. rfl
             . rw[ih,Qy]
theorem Qo1 (f:Nat):∀(xs:List Int) (i:Nat),i<xs.length->(upF f xs i).Perm xs:=by
 induction f with
 |zero=>intro xs i _;exact Zbu _
 |succ f ih=>
  intro xs i hi
  simp only[upF]
  split
  . exact (ih _ _ (by rw[Qy];omega)).trans (QjU xs i _ hi Za)
  . exact Zbu _
theorem Ql0 (f:Nat):∀(xs:List Int) (i:Nat),i<xs.length->(QdI f xs i).Perm xs:=by
 induction f with
 |zero=>intro xs i _;exact Zbu _
 |succ f ih=>
  intro xs i hi
  simp only[QdI]
  split
  . exact Zbu _
  . rename_i h
    exact (ih _ _ (by rw[Qy];omega)).trans (QjU xs i _ hi Za)
def UpInv (xs:List Int) (i:Nat):Prop:=(∀j,0<j->j<xs.length->j≠i->hp xs ((j-1)/2)<=hp xs j)/\(∀j,0<j->j<xs.length->(j-1)/2=i->0<i->hp xs ((i-1)/2)<=hp xs j)
theorem Qo2 (f:Nat):∀(xs:List Int) (i:Nat),i<xs.length->i<=f->UpInv xs i->Qes (upF f xs i):=by
 induction f with
 |zero=>
  intro xs i hi hf h
  obtain rfl:i=0:=Za
  intro j h0 hj
  exact h.1 j h0 hj Za
 |succ f ih=>
  intro xs i hi hf h
  simp only[upF]
  split
  . rename_i hc
    obtain⟨hc0,hc1⟩:=hc
    have hp':(i-1)/2<xs.length:=Za
    refine ih _ _ (by rw[Qy];omega) Za ⟨λj h0 hj hne=>?_,λj h0 hj hpar hi0=>?_⟩
    . rw[Qy]at hj
      rw[Qcs _ _ _ _ hi hp',Qcs _ _ _ _ hi hp']
      have e1:(j=(i-1)/2)=False:=by simp;exact hne
      simp only[e1,if_false]
      by_cases hji:j=i
      . subst hji;simp only[if_true];omega
      . simp only[hji,if_false]
        by_cases hpi:(j-1)/2=(i-1)/2
        . simp only[hpi,if_true];have:=h.1 j h0 hj hji;rw[hpi]at this;omega
        . simp only[hpi,if_false]
          by_cases hp2:(j-1)/2=i
          . simp only[hp2,if_true];exact h.2 j h0 hj hp2 hc0
          . simp only[hp2,if_false];exact h.1 j h0 hj hji
    . rw[Qy]at hj
      rw[Qcs _ _ _ _ hi hp',Qcs _ _ _ _ hi hp']
      have e1:¬((i-1)/2-1)/2=(i-1)/2:=Za
      have e2:¬((i-1)/2-1)/2=i:=Za
      have e3:¬j=(i-1)/2:=Za
      simp only[e1,e2,e3,if_false]
      have hg:=h.1 ((i-1)/2) hi0 hp' Za
      by_cases hji:j=i
      . simp only[hji,if_true];exact hg
      . simp only[hji,if_false]
        have:=h.1 j h0 hj hji
        rw[hpar]at this;omega
  . rename_i hc
    intro j h0 hj
    by_cases hji:j=i
    . subst hji;omega
    . exact h.1 j h0 hj hji
def QoU (xs:List Int) (i:Nat):Prop:=(∀j,0<j->j<xs.length->(j-1)/2≠i->hp xs ((j-1)/2)<=hp xs j)/\(∀j,0<j->j<xs.length->(j-1)/2=i->0<i->hp xs ((i-1)/2)<=hp xs j)
theorem Qni (xs:List Int) (i:Nat):(kid xs i=2*i+1\/kid xs i=2*i+2)/\(kid xs i<xs.length->∀j,0<j->j<xs.length->(j-1)/2=i->hp xs (kid xs i)<=hp xs j)/\(xs.length<=kid xs i->xs.length<=2*i+1):=by
 unfold kid
 split
 . rename_i h
   refine⟨.inr rfl,λ_ j h0 hj hp=>?_,λ_=>Za⟩
   obtain rfl|rfl:j=2*i+1\/j=2*i+2:=Za
   . omega
   . omega
 . rename_i h
   refine⟨.inl rfl,λ_ j h0 hj hp=>?_,λ_=>Za⟩
   obtain rfl|rfl:j=2*i+1\/j=2*i+2:=Za
   . omega
   . omega
theorem Ql1 (f:Nat):∀(xs:List Int) (i:Nat),xs.length<=i+f->QoU xs i->Qes (QdI f xs i):=by
 induction f with
 |zero=>
  intro xs i hf h j h0 hj
  simp only[QdI]at *
  exact h.1 j h0 hj Za
 |succ f ih=>
  intro xs i hf h
  obtain⟨k1,k2,k3⟩:=Qni xs i
  simp only[QdI]
  split
  . rename_i hc
    intro j h0 hj
    by_cases hji:(j-1)/2=i
    . rcases hc with hc|hc
      . have:=k3 hc;omega
      . rcases Yy (kid xs i) xs.length with hk|hk
        . have:=k2 hk j h0 hj hji;rw[hji];omega
        . have:=k3 hk;omega
    . exact h.1 j h0 hj hji
  . rename_i hc
    have hk:kid xs i<xs.length:=Za
    have hlt:hp xs (kid xs i)<hp xs i:=Za
    have k2:=k2 hk
    generalize kid xs i=k at *
    have hi:i<xs.length:=Za
    refine ih _ _ (by rw[Qy];omega) ⟨λj h0 hj hne=>?_,λj h0 hj hpar hk0=>?_⟩
    . rw[Qy]at hj
      rw[Qcs _ _ _ _ hi hk,Qcs _ _ _ _ hi hk]
      rw[Ze hne]
      by_cases hjk:j=k
      . subst hjk
        rw[Zf rfl,Zf Za];omega
      . rw[Ze hjk]
        by_cases hji:j=i
        . subst hji
          rw[Zf rfl,Ze Za]
          exact h.2 k Za hk Za Za
        . rw[Ze hji]
          by_cases hpi:(j-1)/2=i
          . rw[Zf hpi];exact k2 j h0 hj hpi
          . rw[Ze hpi];exact h.1 j h0 hj hpi
    . rw[Qy]at hj
      rw[Qcs _ _ _ _ hi hk,Qcs _ _ _ _ hi hk]
      rw[Ze Za,Zf Za,Ze Za,Ze Za]
      have:=h.1 j h0 hj Za
      rw[hpar]at this;exact this
def Xq (xs:List Int) (k x:Int):List Int × Int × Int:=
 if k=1 then (if 6<=xs.length then (xs,3,0)else (upF xs.length (xs++[x]) xs.length,1,0))
 else if k=2\/k=5 then (if xs.length=0 then (xs,2,0)else if k=5 then (xs,1,hp xs 0)else (QdI (xs.length-1) ((xs.set 0 (hp xs (xs.length-1))).take (xs.length-1)) 0,1,hp xs 0))
 else if k=6 then (xs,1,xs.length)else (xs,5,0)
theorem Qdr (xs ys:List Int) (j:Nat) (h:j<xs.length):hp (xs++ys) j=hp xs j:=by
 unfold hp;rw[Zp,Zp,Z5 h]
theorem Qrv {xs:List Int}(h:Qes xs) (x:Int):UpInv (xs++[x]) xs.length:=by
 refine⟨λj h0 hj hne=>?_,λj h0 hj hp _=>?_⟩
 . simp at hj
   rw[Qdr _ _ _ Za,Qdr _ _ _ Za]
   exact h j h0 Za
 . simp at hj;omega
theorem Qjg (xs:List Int) (v:Int) (n j:Nat) (hj:j<n) (h0:0<j):hp ((xs.set 0 v).take n) j=hp xs j:=by
 unfold hp
 rw[Zp,Zp,ZO,Zf hj,Y8,Ze Za]
theorem Qo4 {xs:List Int}(h:Qes xs) (v:Int) (n:Nat) (hn:n<=xs.length):QoU ((xs.set 0 v).take n) 0:=by
 refine⟨λj h0 hj hne=>?_,λj h0 hj hp hc=>Za⟩
 simp at hj
 rw[Qjg _ _ _ _ Za Za,Qjg _ _ _ _ Za h0]
 exact h j h0 Za
theorem Qml (xs:List Int) (hx:xs.length≠0):(hp xs 0::(xs.set 0 (hp xs (xs.length-1))).take (xs.length-1)).Perm xs:=by
 cases xs with
 |nil=>simp at hx
 |cons a t=>
  show (a::_).Perm (a::t)
  refine List.Perm.cons a ?_
  rcases List.eq_nil_or_concat t with rfl|⟨u,b,ht⟩
  . simp
  . rw[List.concat_eq_append]at ht
    subst ht
    have e:hp (a::(u++[b])) ((a::(u++[b])).length-1)=b:=by simp[hp,Zp]
    rw[e]
    have e2:((a::(u++[b])).set 0 b).take ((a::(u++[b])).length-1)=b::u:=by simp
    rw[e2]
    exact (Zc8 (l₁:=[b]) (l₂:=u))
theorem QlR {xs:List Int}(h:Qes xs) (k x:Int):Qes (Xq xs k x).1:=by
 unfold Xq
 split
 . split
   . exact h
   . exact Qo2 _ _ _ (by simp) (Zq _) (Qrv h x)
 . split
   . split
     . exact h
     . split
       . exact h
       . exact Ql1 _ _ _ (by simp) (Qo4 h _ _ Za)
   . split<;>exact h
theorem QnC (xs:List Int) (x:Int) (h:xs.length<6):∃ys,Xq xs 1 x=(ys,1,0)/\ys.Perm (x::xs)/\ys.length=xs.length+1:=by
 refine⟨_,by unfold Xq;rw[Zf rfl,Ze Za],(Qo1 _ _ _ (by simp)).trans (Zc8 (l₁:=xs) (l₂:=[x])),by rw[QgA];simp⟩
theorem QlQ (xs:List Int) (x:Int) (h:xs.length≠0):∃ys,Xq xs 2 x=(ys,1,hp xs 0)/\(hp xs 0::ys).Perm xs/\ys.length=xs.length-1:=by
 refine⟨_,by unfold Xq;rw[Ze Zb,Zf (.inl rfl),Ze h,Ze Zb],?_,by rw[Qe5];simp⟩
 refine List.Perm.trans (List.Perm.cons _ ?_) (Qml xs h)
 by_cases h1:xs.length-1=0
 . rw[h1];exact Zbu _
 . exact Ql0 _ _ _ (by simp;omega)
def deqR (xs:List Int) (k x:Int):List Int × Int × Int:=
 if k=1\/k=3 then (if 6<=xs.length then (xs,3,0)else if k=1 then (xs++[x],1,0)else (x::xs,1,0))
 else if k=2\/k=4\/k=5 then (if xs.length=0 then (xs,2,0)else if k=5 then (xs,1,xs.getD 0 0)else if k=4 then (xs.eraseIdx (xs.length-1),1,xs.getD (xs.length-1) 0)else (xs.eraseIdx 0,1,xs.getD 0 0))
 else if k=6 then (xs,1,xs.length)else (xs,5,0)
def queR (xs:List Int) (k x:Int):List Int × Int × Int:=
 if k=1 then (if 6<=xs.length then (xs,3,0)else (xs++[x],1,0))
 else if k=2\/k=5 then (if xs.length=0 then (xs,2,0)else if k=5 then (xs,1,xs.getD 0 0)else (xs.tail,1,xs.getD 0 0))
 else if k=6 then (xs,1,xs.length)else (xs,5,0)
def stkR (xs:List Int) (k x:Int):List Int × Int × Int:=
 if k=1 then (if 6<=xs.length then (xs,3,0)else (xs++[x],1,0))
 else if k=2\/k=5 then (if xs.length=0 then (xs,2,0)else if k=5 then (xs,1,xs.getD (xs.length-1) 0)else (xs.take (xs.length-1),1,xs.getD (xs.length-1) 0))
 else if k=6 then (xs,1,xs.length)else (xs,5,0)
def okAt (t:List Int) (j:Nat):Bool:=decide (0<=tv t j/\tv t j<=4294967295/\(tk t j=0->tv t j=0)/\(tk t j≠0->atI t (tk t j)=j))
def okTo (t:List Int):Nat->Bool
 |0=>true
 |k+1=>okTo t k&&okAt t k
def QqH (t:List Int):Bool:=decide (lenT t<=6)&&okTo t 8
theorem Qpz (t:List Int) (n:Nat):okTo t n=true↔∀j,j<n->okAt t j=true:=by
 induction n with
 |zero=>simp[okTo]
 |succ n ih=>
  simp only[okTo,Zr,ih]
  constructor
  . rintro⟨a,b⟩ j hj
    by_cases h:j=n
    . subst h;exact b
    . exact a j Za
  . intro h;exact⟨λj hj=>h j Za,h n Za⟩
theorem Qlb (t:List Int) (hl:t.length=16) (hk:∀j,j<8->0<=tk t j/\tk t j<=1000):QqH t=true↔Good t:=by
 unfold QqH
 rw[Zr,decide_eq_true_eq,Qpz]
 constructor
 . rintro⟨a,b⟩
   refine Good.mk' hl a λi hi=>?_
   have:=b i hi
   simp only[okAt,decide_eq_true_eq]at this
   exact⟨(hk i hi).1,(hk i hi).2,this.1,this.2.1,this.2.2.1,this.2.2.2⟩
 . intro g
   refine⟨g.few,λj hj=>?_⟩
   simp only[okAt,decide_eq_true_eq]
   exact⟨g.val0 j hj,g.val1 j hj,g.none j hj,g.found j hj⟩
def QbV (xs:List Int):Nat->Bool
 |0=>true
 |j+1=>QbV xs j&&decide (j=0\/hp xs ((j-1)/2)<=hp xs j)
theorem QeI (xs:List Int) (n:Nat):QbV xs n=true↔∀j,0<j->j<n->hp xs ((j-1)/2)<=hp xs j:=by
 induction n with
 |zero=>simp[QbV]
 |succ n ih=>
  simp only[QbV,Zr,ih,decide_eq_true_eq]
  constructor
  . rintro⟨a,b⟩ j h0 hj
    by_cases e:j=n
    . subst e;rcases b with b|b
      . omega
      . exact b
    . exact a j h0 Za
  . intro h
    exact⟨λj h0 hj=>h j h0 Za,by by_cases e:n=0;exact .inl e;exact .inr (h n Za Za)⟩
def Qfh (xs:List Int):Bool:=QbV xs xs.length&&decide (xs.length<=6)
theorem Qiy (xs:List Int):Qfh xs=true↔Qes xs/\xs.length<=6:=by
 unfold Qfh;rw[Zr,QeI,decide_eq_true_eq];exact Iff.rfl
theorem QlP (xs:List Int) (j n:Nat) (h:QbV xs j=false) (hj:j<=n):QbV xs n=false:=by
 cases e:QbV xs n
 . rfl
 . have:=(QeI xs j).2 (λi a b=>(QeI xs n).1 e i a Za);rw[h]at this;cases this
def XH (n k v:Int):Int:=if k=1 then (if 4294967295-n<v then n else n+v)else if k=2 then (if n<v then n else n-v)else n
def XX (n k v:Int):Int:=if k=1 then (if 4294967295-n<v then 3 else 1)else if k=2 then (if n<v then 2 else 1)else if k=5\/k=6 then 1 else 5
def Qag (n k v:Int):Int:=if k=1 then (if 4294967295-n<v then 0 else n)else if k=2 then (if n<v then 0 else n)else if k=5\/k=6 then n else 0
theorem Qh5 (n k v:Int) (h0:0<=n) (h2:0<=v):0<=XH n k v:=by unfold XH;split<;>split<;>omega
theorem Qh6 (n k v:Int) (h1:n<=4294967295) (h2:0<=v):XH n k v<=4294967295:=by unfold XH;split<;>split<;>omega
def opOk (a b c:Int):Bool:=decide (1<=a/\a<=6/\0<=b/\b<=1000/\0<=c/\c<=4294967295)
def lstC (l:List Int):List Int:=(l.length:Int)::(l++YH (16-l.length) 0)
theorem QpG (l:List Int) (h:l.length<=16):(lstC l).length=17:=by simp[lstC];omega
theorem QpI (l:List Int) (i:Nat) (h:i<16) (hl:l.length<=16):(lstC l)[i+1]?=some (l.getD i 0):=by
 simp only[lstC,Zah,List.getElem?_append,ZcV,Zp]
 by_cases hi:i<l.length
 . rw[Zf hi,Zy hi];rfl
 . rw[Ze hi,Zf Za,ZU Za];rfl
theorem QpH {l l':List Int}(h:lstC l=lstC l'):l=l':=by
 simp only[lstC,Zaa]at h
 have hl:l.length=l'.length:=Za
 rw[hl]at h
 exact List.append_cancel_right h.2
def InR (l:List Int):Prop:=∀v∈l,0<=v/\v<=4294967295
def lstR (kind:Int) (xs:List Int) (k x:Int):List Int × Int × Int:=
 if kind=1 then queR xs k x else if kind=2 then stkR xs k x else if kind=3 then deqR xs k x else Xq xs k x
def Qbx (kind:Int) (c:List Int):Prop:=
 (1<=kind/\kind<=4/\∃l,c=lstC l/\l.length<=6/\InR l/\(kind=4->Qes l)) \/
 (kind=5/\∃t,c=t++[0]/\Good t) \/
 (kind=6/\∃n:Int,c=n::YH 16 0/\0<=n/\n<=4294967295)
def objR (kind:Int) (c:List Int) (k key x:Int):List Int × Int × Int:=
 if kind=5 then ((doT (c.take 16) k key x).1++[0],(doT (c.take 16) k key x).2)
 else if kind=6 then (XH (c.getD 0 0) k x::YH 16 0,XX (c.getD 0 0) k x,Qag (c.getD 0 0) k x)
 else (lstC (lstR kind ((c.drop 1).take (c.getD 0 0).toNat) k x).1,(lstR kind ((c.drop 1).take (c.getD 0 0).toNat) k x).2)
theorem QbR (kind:Int) (l:List Int) (k key x:Int) (h1:1<=kind) (h4:kind<=4):objR kind (lstC l) k key x=(lstC (lstR kind l k x).1,(lstR kind l k x).2):=by
 unfold objR
 rw[Ze Za,Ze Za]
 have e:((lstC l).drop 1).take ((lstC l).getD 0 0).toNat=l:=by simp[lstC]
 rw[e]
theorem QeE (t:List Int) (g:Good t) (k key x:Int):objR 5 (t++[0]) k key x=((doT t k key x).1++[0],(doT t k key x).2):=by
 unfold objR
 have e:(t++[(0:Int)]).take 16=t:=by rw[<- g.len];simp
 rw[Zf rfl,e]
theorem QeD (n:Int) (k key x:Int):objR 6 (n::YH 16 0) k key x=(XH n k x::YH 16 0,XX n k x,Qag n k x):=by
 unfold objR;rw[Ze Zb,Zf rfl];rfl
theorem InR.append {l:List Int}(h:InR l) {x:Int}(h0:0<=x) (h1:x<=4294967295):InR (l++[x]):=by
 intro v hv
 rcases List.mem_append.1 hv with hv|hv
 . exact h v hv
 . simp at hv;omega
theorem InR.cons {l:List Int}(h:InR l) {x:Int}(h0:0<=x) (h1:x<=4294967295):InR (x::l):=by
 intro v hv
 rcases List.mem_cons.1 hv with rfl|hv
 . exact⟨h0,h1⟩
 . exact h v hv
theorem InR.sub {l l':List Int}(h:InR l) (hs:∀v∈l',v∈l):InR l':=λv hv=>h v (hs v hv)
theorem InR.get {l:List Int}(h:InR l) (i:Nat) (hi:i<l.length):0<=l.getD i 0/\l.getD i 0<=4294967295:=by
 rw[Zp,Zy hi];exact h _ (ZaB hi)
def QX (c v:Int):Prop:=1<=c/\c<=5/\0<=v/\v<=4294967295/\(c=1\/v=0)
structure Qgm (l:List Int) (k x:Int) (r:List Int × Int × Int):Prop where
 len:r.1.length<=6
 inr:InR r.1
 ans:QX r.2.1 r.2.2
 same:(r.2.1≠1\/k=5\/k=6)->r.1=l
 out:r.2.1=1->(k=2\/k=4)->r.1.length+1=l.length
 into:r.2.1=1->(k=1\/k=3)->r.1.length=l.length+1
 empty:k=2->(r.2.1=2↔l.length=0)
 done2:k=2->l.length≠0->r.2.1=1
 full:k=1->(r.2.1=3↔l.length=6)
 done1:k=1->l.length≠6->r.2.1=1
 count:k=6->r.2=(1,(l.length:Int))
theorem Qms (l:List Int) (k x:Int) (hl:l.length<=6) (hr:InR l) (h0:0<=x) (h1:x<=4294967295) (ho:1<=k/\k<=6):Qgm l k x (stkR l k x)/\((stkR l k x).2.1=5↔(k=3\/k=4)):=by
 unfold stkR
 by_cases c1:k=1
 . subst c1;rw[Zf rfl]
   by_cases c6:6<=l.length
   . rw[Zf c6];exact⟨⟨hl,hr,(by unfold QX;dsimp only;omega),λ_=>rfl,by simp,by simp,by simp,by simp,λ_=>⟨λ_=>Za,λ_=>rfl⟩,λ_ h=>Za,by simp⟩,by simp⟩
   . rw[Ze c6];exact⟨⟨by simp;omega,hr.append h0 h1,(by unfold QX;dsimp only;omega),by simp,by simp,by simp,by simp,by simp,λ_=>⟨by simp,λh=>Za⟩,λ_ _=>rfl,by simp⟩,by simp⟩
 rw[Ze c1]
 by_cases c2:k=2\/k=5
 . rw[Zf c2]
   by_cases c0:l.length=0
   . rw[Zf c0];exact⟨⟨hl,hr,(by unfold QX;dsimp only;omega),λ_=>rfl,by simp,by simp,λ_=>⟨λ_=>c0,λ_=>rfl⟩,λ_ h=>absurd c0 h,λh=>absurd h c1,λh=>absurd h c1,λh=>Za⟩,⟨by simp,λh=>Za⟩⟩
   . rw[Ze c0]
     have hg:=hr.get (l.length-1) Za
     by_cases c5:k=5
     . rw[Zf c5];exact⟨⟨hl,hr,(by unfold QX;dsimp only;omega),λ_=>rfl,λ_ h=>Za,λ_ h=>Za,λh=>Za,λh=>Za,λh=>Za,λh=>Za,λh=>Za⟩,⟨by simp,λh=>Za⟩⟩
     . rw[Ze c5];exact⟨⟨by simp;omega,hr.sub (λv hv=>List.mem_of_mem_take hv),(by unfold QX;dsimp only;omega),λh=>by simp at h;omega,λ_ _=>by simp;omega,λ_ h=>Za,λ_=>⟨by simp,λh=>absurd h c0⟩,λ_ _=>rfl,λh=>Za,λh=>Za,λh=>Za⟩,⟨by simp,λh=>Za⟩⟩
 rw[Ze c2]
 by_cases c6:k=6
 . rw[Zf c6];exact⟨⟨hl,hr,(by unfold QX;dsimp only;omega),λ_=>rfl,λ_ h=>Za,λ_ h=>Za,λh=>Za,λh=>Za,λh=>Za,λh=>Za,λ_=>rfl⟩,⟨by simp,λh=>Za⟩⟩
 . rw[Ze c6];exact⟨⟨hl,hr,(by unfold QX;dsimp only;omega),λ_=>rfl,by simp,by simp,λh=>Za,λh=>Za,λh=>Za,λh=>Za,λh=>absurd h c6⟩,⟨λ_=>Za,λ_=>rfl⟩⟩
theorem QmU (l:List Int) (k x:Int) (hl:l.length<=6) (hr:InR l) (h0:0<=x) (h1:x<=4294967295) (ho:1<=k/\k<=6):Qgm l k x (queR l k x)/\((queR l k x).2.1=5↔(k=3\/k=4)):=by
 unfold queR
 by_cases c1:k=1
 . subst c1;rw[Zf rfl]
   by_cases c6:6<=l.length
   . rw[Zf c6];exact⟨⟨hl,hr,(by unfold QX;dsimp only;omega),λ_=>rfl,by simp,by simp,by simp,by simp,λ_=>⟨λ_=>Za,λ_=>rfl⟩,λ_ h=>Za,by simp⟩,by simp⟩
   . rw[Ze c6];exact⟨⟨by simp;omega,hr.append h0 h1,(by unfold QX;dsimp only;omega),by simp,by simp,by simp,by simp,by simp,λ_=>⟨by simp,λh=>Za⟩,λ_ _=>rfl,by simp⟩,by simp⟩
 rw[Ze c1]
 by_cases c2:k=2\/k=5
 . rw[Zf c2]
   by_cases c0:l.length=0
   . rw[Zf c0];exact⟨⟨hl,hr,(by unfold QX;dsimp only;omega),λ_=>rfl,by simp,by simp,λ_=>⟨λ_=>c0,λ_=>rfl⟩,λ_ h=>absurd c0 h,λh=>absurd h c1,λh=>absurd h c1,λh=>Za⟩,⟨by simp,λh=>Za⟩⟩
   . rw[Ze c0]
     have hg:=hr.get 0 Za
     by_cases c5:k=5
     . rw[Zf c5];exact⟨⟨hl,hr,(by unfold QX;dsimp only;omega),λ_=>rfl,λ_ h=>Za,λ_ h=>Za,λh=>Za,λh=>Za,λh=>Za,λh=>Za,λh=>Za⟩,⟨by simp,λh=>Za⟩⟩
     . rw[Ze c5];exact⟨⟨by simp;omega,hr.sub (λv hv=>List.mem_of_mem_tail hv),(by unfold QX;dsimp only;omega),λh=>by simp at h;omega,λ_ _=>by simp;omega,λ_ h=>Za,λ_=>⟨by simp,λh=>absurd h c0⟩,λ_ _=>rfl,λh=>Za,λh=>Za,λh=>Za⟩,⟨by simp,λh=>Za⟩⟩
 rw[Ze c2]
 by_cases c6:k=6
 . rw[Zf c6];exact⟨⟨hl,hr,(by unfold QX;dsimp only;omega),λ_=>rfl,λ_ h=>Za,λ_ h=>Za,λh=>Za,λh=>Za,λh=>Za,λh=>Za,λ_=>rfl⟩,⟨by simp,λh=>Za⟩⟩
 . rw[Ze c6];exact⟨⟨hl,hr,(by unfold QX;dsimp only;omega),λ_=>rfl,by simp,by simp,λh=>Za,λh=>Za,λh=>Za,λh=>Za,λh=>absurd h c6⟩,⟨λ_=>Za,λ_=>rfl⟩⟩
theorem Qko (l:List Int) (k x:Int) (hl:l.length<=6) (hr:InR l) (h0:0<=x) (h1:x<=4294967295) (ho:1<=k/\k<=6):Qgm l k x (Xq l k x)/\((Xq l k x).2.1=5↔(k=3\/k=4)):=by
 by_cases c1:k=1
 . subst c1
   by_cases c6:6<=l.length
   . unfold Xq;rw[Zf rfl,Zf c6];exact⟨⟨hl,hr,(by unfold QX;dsimp only;omega),λ_=>rfl,by simp,by simp,by simp,by simp,λ_=>⟨λ_=>Za,λ_=>rfl⟩,λ_ h=>Za,by simp⟩,by simp⟩
   . obtain⟨ys,e,p,hy⟩:=QnC l x Za
     rw[e]
     exact⟨⟨by dsimp only;omega,(hr.cons h0 h1).sub (λv hv=>p.subset hv),(by unfold QX;dsimp only;omega),by simp,by simp,λ_ _=>hy,by simp,by simp,λ_=>⟨by simp,λh=>Za⟩,λ_ _=>rfl,by simp⟩,by simp⟩
 by_cases c2:k=2
 . subst c2
   by_cases c0:l.length=0
   . unfold Xq;rw[Ze c1,Zf (.inl rfl),Zf c0];exact⟨⟨hl,hr,(by unfold QX;dsimp only;omega),λ_=>rfl,by simp,by simp,λ_=>⟨λ_=>c0,λ_=>rfl⟩,λ_ h=>absurd c0 h,λh=>absurd h c1,λh=>absurd h c1,λh=>Za⟩,⟨by simp,λh=>Za⟩⟩
   . obtain⟨ys,e,p,hy⟩:=QlQ l x c0
     rw[e]
     have hg:0<=hp l 0/\hp l 0<=4294967295:=hr.get 0 Za
     exact⟨⟨by dsimp only;omega,hr.sub (λv hv=>p.subset (ZF _ hv)),(by unfold QX;dsimp only;omega),λh=>by simp at h,λ_ _=>by dsimp only;omega,λ_ h=>Za,λ_=>⟨by simp,λh=>absurd h c0⟩,λ_ _=>rfl,λh=>Za,λh=>Za,λh=>Za⟩,⟨by simp,λh=>Za⟩⟩
 unfold Xq
 rw[Ze c1]
 by_cases c5:k=5
 . subst c5
   rw[Zf (.inr rfl)]
   by_cases c0:l.length=0
   . rw[Zf c0];exact⟨⟨hl,hr,(by unfold QX;dsimp only;omega),λ_=>rfl,by simp,by simp,λh=>absurd h c2,λh=>absurd h c2,λh=>absurd h c1,λh=>absurd h c1,λh=>Za⟩,by simp⟩
   . rw[Ze c0,Zf rfl]
     have hg:0<=hp l 0/\hp l 0<=4294967295:=hr.get 0 Za
     exact⟨⟨hl,hr,(by unfold QX;dsimp only;omega),λ_=>rfl,λ_ h=>Za,λ_ h=>Za,λh=>Za,λh=>Za,λh=>Za,λh=>Za,λh=>Za⟩,by simp⟩
 rw[Ze Za]
 by_cases c6:k=6
 . rw[Zf c6];exact⟨⟨hl,hr,(by unfold QX;dsimp only;omega),λ_=>rfl,λ_ h=>Za,λ_ h=>Za,λh=>Za,λh=>Za,λh=>Za,λh=>Za,λ_=>rfl⟩,⟨by simp,λh=>Za⟩⟩
 . rw[Ze c6];exact⟨⟨hl,hr,(by unfold QX;dsimp only;omega),λ_=>rfl,by simp,by simp,λh=>Za,λh=>Za,λh=>Za,λh=>Za,λh=>absurd h c6⟩,⟨λ_=>Za,λ_=>rfl⟩⟩
theorem Qob (l:List Int) (k x:Int) (hl:l.length<=6) (hr:InR l) (h0:0<=x) (h1:x<=4294967295) (ho:1<=k/\k<=6):Qgm l k x (deqR l k x)/\(deqR l k x).2.1≠5:=by
 unfold deqR
 by_cases c1:k=1\/k=3
 . rw[Zf c1]
   by_cases c6:6<=l.length
   . rw[Zf c6];exact⟨⟨hl,hr,(by unfold QX;dsimp only;omega),λ_=>rfl,by simp,by simp,λh=>Za,λh=>Za,λ_=>⟨λ_=>Za,λ_=>rfl⟩,λ_ h=>Za,λh=>Za⟩,by simp⟩
   . rw[Ze c6]
     by_cases c11:k=1
     . rw[Zf c11];exact⟨⟨by simp;omega,hr.append h0 h1,(by unfold QX;dsimp only;omega),λh=>by simp at h;omega,λ_ h=>Za,by simp,λh=>Za,λh=>Za,λ_=>⟨by simp,λh=>Za⟩,λ_ _=>rfl,λh=>Za⟩,by simp⟩
     . rw[Ze c11];exact⟨⟨by simp;omega,hr.cons h0 h1,(by unfold QX;dsimp only;omega),λh=>by simp at h;omega,λ_ h=>Za,by simp,λh=>Za,λh=>Za,λh=>Za,λh=>Za,λh=>Za⟩,by simp⟩
 rw[Ze c1]
 by_cases c2:k=2\/k=4\/k=5
 . rw[Zf c2]
   by_cases c0:l.length=0
   . rw[Zf c0];exact⟨⟨hl,hr,(by unfold QX;dsimp only;omega),λ_=>rfl,by simp,by simp,λ_=>⟨λ_=>c0,λ_=>rfl⟩,λ_ h=>absurd c0 h,λh=>Za,λh=>Za,λh=>Za⟩,by simp⟩
   . rw[Ze c0]
     have hg:=hr.get (l.length-1) Za
     have hg0:=hr.get 0 Za
     by_cases c5:k=5
     . rw[Zf c5];exact⟨⟨hl,hr,(by unfold QX;dsimp only;omega),λ_=>rfl,λ_ h=>Za,λ_ h=>Za,λh=>Za,λh=>Za,λh=>Za,λh=>Za,λh=>Za⟩,by simp⟩
     . rw[Ze c5]
       by_cases c4:k=4
       . rw[Zf c4];exact⟨⟨by rw[Zau];split<;>omega,hr.sub (λv hv=>ZcN hv),(by unfold QX;dsimp only;omega),λh=>by simp at h;omega,λ_ _=>by rw[Zau,Zf Za];omega,λ_ h=>Za,λh=>Za,λh=>Za,λh=>Za,λh=>Za,λh=>Za⟩,by simp⟩
       . rw[Ze c4];exact⟨⟨by rw[Zau];split<;>omega,hr.sub (λv hv=>ZcN hv),(by unfold QX;dsimp only;omega),λh=>by simp at h;omega,λ_ _=>by rw[Zau,Zf Za];omega,λ_ h=>Za,λ_=>⟨by simp,λh=>absurd h c0⟩,λ_ _=>rfl,λh=>Za,λh=>Za,λh=>Za⟩,by simp⟩
 rw[Ze c2]
 have c6:k=6:=Za
 rw[Zf c6];exact⟨⟨hl,hr,(by unfold QX;dsimp only;omega),λ_=>rfl,λ_ h=>Za,λ_ h=>Za,λh=>Za,λh=>Za,λh=>Za,λh=>Za,λ_=>rfl⟩,by simp⟩
theorem Qne (kind:Int) (l:List Int) (k x:Int) (hl:l.length<=6) (hr:InR l) (h0:0<=x) (h1:x<=4294967295) (ho:1<=k/\k<=6) (k1:1<=kind) (k4:kind<=4):Qgm l k x (lstR kind l k x)/\((lstR kind l k x).2.1=5↔(k=3\/k=4)/\kind≠3):=by
 unfold lstR
 by_cases c1:kind=1
 . rw[Zf c1];have:=QmU l k x hl hr h0 h1 ho;exact⟨this.1,by rw[this.2];omega⟩
 . rw[Ze c1]
   by_cases c2:kind=2
   . rw[Zf c2];have:=Qms l k x hl hr h0 h1 ho;exact⟨this.1,by rw[this.2];omega⟩
   . rw[Ze c2]
     by_cases c3:kind=3
     . rw[Zf c3];have:=Qob l k x hl hr h0 h1 ho;exact⟨this.1,by have:=this.2;omega⟩
     . rw[Ze c3];have:=Qko l k x hl hr h0 h1 ho;exact⟨this.1,by rw[this.2];omega⟩
theorem Qhj {kind:Int}{c:List Int}(h:Qbx kind c) (k key x:Int) (ho:opOk k key x=true):Qbx kind (objR kind c k key x).1:=by
 unfold opOk at ho
 rw[decide_eq_true_eq]at ho
 rcases h with⟨k1,k4,l,rfl,hl,hr,hh⟩|⟨rfl,t,rfl,g⟩|⟨rfl,n,rfl,h0,h1⟩
 . rw[QbR kind l k key x k1 k4]
   have hw:=(Qne kind l k x hl hr ho.2.2.2.2.1 ho.2.2.2.2.2 ⟨ho.1,ho.2.1⟩ k1 k4).1
   refine .inl ⟨k1,k4,_,rfl,hw.len,hw.inr,λh4=>?_⟩
   unfold lstR
   rw[Ze Za,Ze Za,Ze Za]
   exact QlR (hh h4) k x
 . rw[QeE t g]
   exact .inr (.inl ⟨rfl,_,rfl,Qkx g k key x ho.2.2.2.2.1 ho.2.2.2.2.2⟩)
 . rw[QeD]
   exact .inr (.inr ⟨rfl,_,rfl,Qh5 n k x h0 ho.2.2.2.2.1,Qh6 n k x h1 ho.2.2.2.2.1⟩)
theorem Qc1 (kind:Int) (h1:1<=kind) (h6:kind<=6):Qbx kind (YH 17 0):=by
 by_cases h5:kind<=4
 . exact .inl ⟨h1,h5,[],rfl,Zb,(λv hv=>by cases hv),(λ_ j h0 hj=>by simp at hj)⟩
 . by_cases e:kind=5
   . refine .inr (.inl ⟨e,YH 16 0,rfl,?_⟩)
     exact (Qlb _ rfl Zb).1 Zb
   . exact .inr (.inr ⟨Za,0,rfl,Zb,Zb⟩)
theorem XD {kind:Int}{c:List Int}(h:Qbx kind c):c.length=17:=by
 rcases h with⟨k1,k4,l,rfl,hl,hr,hh⟩|⟨rfl,t,rfl,g⟩|⟨rfl,n,rfl,h0,h1⟩
 . exact QpG l Za
 . simp[g.len]
 . simp
theorem Qmj (n k x:Int) (h0:0<=n) (h1:n<=4294967295) (x0:0<=x) (x1:x<=4294967295) (ho:1<=k/\k<=6):
 QX (XX n k x) (Qag n k x)/\((XX n k x≠1\/k=5\/k=6)->XH n k x=n)/\(XX n k x=5↔(k=3\/k=4)):=by
 unfold QX XX Qag XH
 by_cases k1:k=1
 . subst k1;simp only[if_true];split<;>(refine⟨Za,?_,by simp⟩;intro h;simp at h<;>omega)
 . by_cases k2:k=2
   . subst k2;simp only[k1,if_true,if_false];split<;>(refine⟨Za,?_,by simp⟩;intro h;simp at h<;>omega)
   . simp only[k1,k2,if_false]
     by_cases k5:k=5\/k=6
     . rw[Zf k5,Zf k5];exact⟨Za,λ_=>trivial,Za⟩
     . rw[Ze k5,Ze k5];exact⟨Za,λ_=>trivial,Za⟩
theorem Qrm {t:List Int}(g:Good t) (k key x:Int) (x0:0<=x) (x1:x<=4294967295) (ho:1<=k/\k<=6) (y0:0<=key) (y1:key<=1000):
 QX (doT t k key x).2.1 (doT t k key x).2.2/\(((doT t k key x).2.1≠1\/k=5\/k=6)->(doT t k key x).1=t)/\((doT t k key x).2.1=5↔(k≠6/\(k=3\/k=4\/key=0))):=by
 by_cases h6:k=6
 . unfold doT;rw[Zf h6]
   have:=g.few
   exact⟨by unfold QX;dsimp only;omega,λ_=>rfl,by dsimp only;omega⟩
 by_cases hw:(k≠1/\k≠2/\k≠5)\/key<1\/1000<key
 . unfold doT;rw[Ze h6,Zf hw];exact⟨by unfold QX;dsimp only;omega,λ_=>rfl,⟨λ_=>Za,λ_=>rfl⟩⟩
 obtain⟨i,hi,hai,-,-⟩:=g.at key
 have hv0:=g.val0 i hi
 have hv1:=g.val1 i hi
 have htv:tv t (atI t key).toNat=tv t i:=by rw[hai];rfl
 unfold doT
 rw[Ze h6,Ze hw,htv]
 by_cases k1:k=1
 . rw[Zf k1]
   split
   . exact⟨by unfold QX;dsimp only;omega,λ_=>rfl,by dsimp only;omega⟩
   . exact⟨by unfold QX;dsimp only;omega,λh=>by dsimp only at h;omega,by dsimp only;omega⟩
 . rw[Ze k1]
   split
   . exact⟨by unfold QX;dsimp only;omega,λ_=>rfl,by dsimp only;omega⟩
   . split
     . exact⟨by unfold QX;dsimp only;omega,λh=>by dsimp only at h;omega,by dsimp only;omega⟩
     . exact⟨by unfold QX;dsimp only;omega,λ_=>rfl,by dsimp only;omega⟩
theorem QdC {kind:Int}{c:List Int}(h:Qbx kind c) (k key x:Int) (ho:opOk k key x=true):
 QX (objR kind c k key x).2.1 (objR kind c k key x).2.2/\(((objR kind c k key x).2.1≠1\/k=5\/k=6)->(objR kind c k key x).1=c) /\
 ((objR kind c k key x).2.1=5↔(((k=3\/k=4)/\kind≠3)\/(kind=5/\k≠6/\(k=3\/k=4\/key=0)))):=by
 unfold opOk at ho
 rw[decide_eq_true_eq]at ho
 obtain⟨o1,o2,o3,o4,o5,o6⟩:=ho
 rcases h with⟨k1,k4,l,rfl,hl,hr,hh⟩|⟨rfl,t,rfl,g⟩|⟨rfl,n,rfl,h0,h1⟩
 . rw[QbR kind l k key x k1 k4]
   obtain⟨a,b⟩:=Qne kind l k x hl hr o5 o6 ⟨o1,o2⟩ k1 k4
   exact⟨a.ans,λh=>by rw[a.same h],by dsimp only;rw[b];omega⟩
 . rw[QeE t g]
   obtain⟨a,b,c⟩:=Qrm g k key x o5 o6 ⟨o1,o2⟩ o3 o4
   exact⟨a,λh=>by rw[b h],by dsimp only;rw[c];omega⟩
 . rw[QeD]
   obtain⟨a,b,c⟩:=Qmj n k x h0 h1 o5 o6 ⟨o1,o2⟩
   exact⟨a,λh=>by rw[b h],by dsimp only;rw[c];omega⟩
def toN (n:Nat) (f:Nat->Int):List Int:=(Z2 n).map f
def fL (l:List Int):Nat->Int:=λi=>l.getD i 0
theorem Qbf (n:Nat) (f:Nat->Int):(toN n f).length=n:=by simp[toN]
theorem Xb {n:Nat}{f:Nat->Int}{i:Nat}(h:i<n):(toN n f).getD i 0=f i:=by
 simp[toN,Zp,h]
theorem Qa1 {l:List Int}{n:Nat}(h:l.length=n):toN n (fL l)=l:=by
 subst h
 apply YX
 intro i
 unfold toN fL
 by_cases hi:i<l.length
 . rw[Ya,Y4 hi]
   simp[Zy hi]
 . rw[ZU (by simp;omega),ZU Za]
theorem Qe3 {n:Nat}{f:Nat->Int}{i:Nat}(h:i<n):fL (toN n f) i=f i:=Xb h
theorem QdP {n:Nat}{f g:Nat->Int}(h:∀i,i<n->f i=g i):toN n f=toN n g:=
 Yr λi hi=>h i (List.mem_range.1 hi)
theorem Qam (x:Int) (l:List Int) (i:Nat):fL (x::l) (i+1)=fL l i:=by simp[fL]
theorem Qd8 (n i:Nat):fL (YH n 0) i=0:=by
 simp only[fL,Zp,ZcV];split<;>rfl
theorem Qaa {l m:List Int}{i:Nat}(h:i<l.length):fL (l++m) i=fL l i:=by
 simp[fL,Zp,Z5 h]
theorem XP {l m:List Int}{i:Nat}(h:l.length<=i):fL (l++m) i=fL m (i-l.length):=by
 simp[fL,Zp,Z8 h]
theorem Qkw {l:List Int}{i j:Nat}{x:Int}(h:i<l.length):fL (l.set i x) j=if j=i then x else fL l j:=by
 simp only[fL,Zp,Y8]
 by_cases e:i=j
 . subst e;simp[h]
 . rw[Ze e,Ze (λh=>e h.symm)]
theorem QjS (n:Nat) (f:Nat->Int):toN (n+1) f=toN n f++[f n]:=by simp[toN,List.range_succ]
theorem Qje {n:Nat}{f:Nat->Int}{i:Nat}{x:Int}:(toN n f).set i x=toN n (λj=>if j=i then x else f j):=by
 apply YX
 intro j
 rw[Y8]
 unfold toN
 by_cases e:i=j
 . subst e;simp;split<;>simp_all
 . rw[Ze e]
   simp only[Ya]
   by_cases hj:j<n
   . rw[Y4 hj];simp[show ¬j=i from λh=>e h.symm]
   . rw[ZU (by simpa using hj)];rfl
def IsL (z:Nat->Nat->Int) (l:List Int):Prop:=∀i,i<l.length->z i 0=l.getD i 0
theorem IsL.sub {z z':Nat->Nat->Int}{l:List Int}(h:IsL z l) (e:∀i,i<l.length->z' i 0=z i 0):IsL z' l:=λi hi=>(e i hi).trans (h i hi)
theorem IsL.snoc {z z':Nat->Nat->Int}{l:List Int}{x:Int}(h:IsL z l) (e:∀i,i<l.length->z' i 0=z i 0) (e2:z' l.length 0=x):IsL z' (l++[x]):=by
 intro i hi
 rw[Zw,Yd]at hi
 rw[Zp]
 by_cases h1:i<l.length
 . rw[Z5 h1,<- Zp,e i h1,h i h1]
 . obtain rfl:i=l.length:=Za
   rw[Z8 (Zq _)];simpa using e2
def upOf (l:List Int):List Int:=upF (l.length-1) l (l.length-1)
def Qa2 (l:List Int):List Int:=QdI l.length l 0
def QcD (l:List Int) (i:Nat):List Int:=(l.length:Int)::(l.take i++YH (16-i) 0)
theorem Qjz (l:List Int) (i n k:Nat) (h:i<=l.length):fL (l.take i++YH n 0) k=if k<i then l.getD k 0 else 0:=by
 have ht:(l.take i).length=i:=by simp;omega
 by_cases hk:k<i
 . rw[Zf hk,Qaa Za]
   simp[fL,Zp,hk]
 . rw[Ze hk,XP Za,Qd8]
theorem Qnf (l:List Int):QcD l l.length=lstC l:=by
 unfold QcD lstC;rw[List.take_length]
theorem Qlf (l:List Int) (j:Nat):fL (QcD l 0) j=if j=0 then (l.length:Int)else 0:=by
 unfold QcD
 cases j with
 |zero=>rfl
 |succ k=>rw[Qam,Qjz l 0 _ _ Za,Ze Za,Ze Za]
theorem Qlg (l:List Int) (i j:Nat) (h:i<l.length):fL (QcD l (i+1)) j=if j=i+1 then l.getD i 0 else fL (QcD l i) j:=by
 unfold QcD
 cases j with
 |zero=>rw[Ze Za];rfl
 |succ k=>
  rw[Qam,Qam,Qjz l _ _ _ Za,Qjz l _ _ _ Za]
  by_cases h1:k=i
  . subst h1;simp
  . rw[Ze (show ¬k+1=i+1 by omega)]
    by_cases h2:k<i
    . rw[Zf h2,Zf Za]
    . rw[Ze h2,Ze Za]
def ObjForm (kind:Int) (c:List Int):Prop:=Qbx kind c\/(kind=4/\∃l,c=lstC l/\l.length<=6/\InR l)
def Qax (kind:Int) (c:List Int):Bool:=bif kind==4 then Qfh ((c.drop 1).take (c.getD 0 0).toNat)else true
theorem ObjForm.list {k:Int}{c:List Int}(h:ObjForm k c) (h1:1<=k) (h4:k<=4):∃l,c=lstC l/\l.length<=6/\InR l/\(k=4->Qbx k c->Qes l):=by
 rcases h with (⟨-,-,l,e,a,b,d⟩|⟨h5,-⟩|⟨h6,-⟩)|⟨-,l,e,a,b⟩
 . exact⟨l,e,a,b,λh _=>d h⟩
 . omega
 . omega
 . refine⟨l,e,a,b,λh ho=>?_⟩
   rcases ho with⟨-,-,l',e',-,-,d'⟩|⟨h5,-⟩|⟨h6,-⟩
   . rw[QpH (e.symm.trans e')];exact d' h
   . omega
   . omega
theorem ObjForm.tab {f:Nat->Int}(h:ObjForm 5 (toN 17 f)):Good (toN 16 f)/\f 16=0:=by
 rcases h with (⟨-,h,-⟩|⟨-,t,e,g⟩|⟨h,-⟩)|⟨h,-⟩
 . omega
 . rw[QjS]at e
   have:=List.append_inj e (by rw[Qbf,g.len])
   rw[this.1];exact⟨g,by simpa using this.2⟩
 . omega
 . omega
theorem ObjForm.tally {f:Nat->Int}(h:ObjForm 6 (toN 17 f)):0<=f 0/\f 0<=4294967295/\∀i,1<=i->i<=16->f i=0:=by
 rcases h with (⟨-,h,-⟩|⟨h,-⟩|⟨-,n,e,h0,h1⟩)|⟨h,-⟩
 . omega
 . omega
 . have g (i:Nat) (hi:i<17):f i=(n::YH 16 0).getD i 0:=by rw[<- e,Xb hi]
   refine⟨by rw[g 0 Zb];exact h0,by rw[g 0 Zb];exact h1,λi hi h16=>?_⟩
   rw[g i Za]
   obtain⟨j,rfl⟩:∃j,i=j+1:=⟨i-1,Za⟩
   rw[List.getD_cons_succ];exact Qd8 16 j
 . omega
theorem Qf0 (l:List Int):((lstC l).drop 1).take ((lstC l).getD 0 0).toNat=l:=by simp[lstC]
end
section
structure Rec where
 kind:Int
 obj:List Int
 ans:List Int
 whn:List Int
 tog:Int
 ver:Int
 cnt:Int
def Rec.words (r:Rec):List Int:=r.kind::(r.obj++(r.ans++(r.whn++[r.tog,r.ver,r.cnt,0,0,0])))
def ansW (c v:Int):Int:=c*4294967296+v
def Qp (g:Int) (t:Nat):Int:=g/2^t%2
def QbL (g:Int) (t:Nat):Int:=if Qp g t=1 then g-2^t else g+2^t
structure RecOK (B:Int) (r:Rec):Prop where
 k1:1<=r.kind
 k6:r.kind<=6
 ok:Qbx r.kind r.obj
 a4:r.ans.length=4
 w4:r.whn.length=4
 g0:0<=r.tog
 g1:r.tog<16
 v0:0<=r.ver
 v1:r.ver<=1099511627776
 c0:0<=r.cnt
 c1:r.cnt<=B
 each:∀t,t<4->(r.ans.getD t 0=0/\r.whn.getD t 0=0)\/((∃c v,QX c v/\r.ans.getD t 0=ansW c v)/\1<=r.whn.getD t 0/\r.whn.getD t 0<=r.cnt)
 once:∀t u,t<4->u<t->r.whn.getD t 0≠0->r.whn.getD u 0≠r.whn.getD t 0
def Rec.new (kind:Int):Rec:=⟨kind,YH 17 0,[0,0,0,0],[0,0,0,0],0,0,0⟩
def Rec.done (r:Rec) (t:Nat) (k key x:Int):Rec:=
 { r with obj:=(objR r.kind r.obj k key x).1,ans:=r.ans.set t (ansW (objR r.kind r.obj k key x).2.1 (objR r.kind r.obj k key x).2.2),whn:=r.whn.set t (r.cnt+1),cnt:=r.cnt+1,tog:=QbL r.tog t }
theorem QkP (g:Int) (t:Nat) (ht:t<4) (h0:0<=g) (h1:g<16):0<=QbL g t/\QbL g t<16:=by
 unfold QbL Qp
 rcases (show t=0\/t=1\/t=2\/t=3 by omega)with rfl|rfl|rfl|rfl<;>(simp only[ZcO];split<;>omega)
theorem Qjd (g:Int) (t u:Nat) (ht:t<4) (hu:u<4) (h0:0<=g) (h1:g<16):Qp (QbL g t) u=if u=t then 1-Qp g t else Qp g u:=by
 unfold QbL Qp
 rcases (show t=0\/t=1\/t=2\/t=3 by omega)with rfl|rfl|rfl|rfl<;>rcases (show u=0\/u=1\/u=2\/u=3 by omega)with rfl|rfl|rfl|rfl<;>(simp only[ZcO];split<;>simp<;>omega)
theorem QaO (l:List Int) (i j:Nat) (x:Int) (h:i<l.length):(l.set i x).getD j 0=if j=i then x else l.getD j 0:=by
 rw[Zp,Y8,Zp]
 by_cases e:i=j
 . subst e;simp[h]
 . rw[Ze e,Ze (λh=>e h.symm)]
theorem RecOK.done {B:Int}{r:Rec}(h:RecOK B r) (t:Nat) (ht:t<4) (k key x:Int) (ho:opOk k key x=true):RecOK (B+1) (r.done t k key x):=by
 have hl:=QdC h.ok k key x ho
 have hg:=QkP r.tog t ht h.g0 h.g1
 have hc0:=h.c0
 have hc1:=h.c1
 have ha4:=h.a4
 have hw4:=h.w4
 refine⟨h.k1,h.k6,Qhj h.ok k key x ho,by simp[Rec.done,ha4],by simp[Rec.done,hw4],hg.1,hg.2,h.v0,h.v1,by simp only[Rec.done];omega,by simp only[Rec.done];omega,λu hu=>?_,λu v hu hv hne=>?_⟩
 . simp only[Rec.done]
   rw[QaO _ _ _ _ Za,QaO _ _ _ _ Za]
   by_cases e:u=t
   . rw[Zf e,Zf e];exact .inr ⟨⟨_,_,hl.1,rfl⟩,Za,Za⟩
   . rw[Ze e,Ze e]
     rcases h.each u hu with h1|⟨h1,h2,h3⟩
     . exact .inl h1
     . exact .inr ⟨h1,h2,Za⟩
 . simp only[Rec.done]at hne ⊢
   rw[QaO _ _ _ _ Za]at hne ⊢
   rw[QaO _ _ _ _ Za]
   by_cases e:u=t
   . rw[Zf e,Ze Za]
     rcases h.each v Za with h1|⟨h1,h2,h3⟩
     . rw[h1.2];omega
     . omega
   . rw[Ze e]at hne ⊢
     by_cases e2:v=t
     . rw[Zf e2]
       rcases h.each u Za with h1|⟨h1,h2,h3⟩
       . exact absurd h1.2 hne
       . omega
     . rw[Ze e2];exact h.once u v hu hv hne
theorem RecOK.new {kind:Int}(h1:1<=kind) (h6:kind<=6):RecOK 0 (Rec.new kind):=by
 refine⟨h1,h6,Qc1 kind h1 h6,rfl,rfl,ZQ _,(by decide:(0:Int)<16),ZQ _,(by decide:(0:Int)<=1099511627776),ZQ _,ZQ _,λt ht=>.inl ?_,λt u ht hu hne=>?_⟩
 . rcases (show t=0\/t=1\/t=2\/t=3 by omega)with rfl|rfl|rfl|rfl<;>exact⟨rfl,rfl⟩
 . exfalso;apply hne
   rcases (show t=0\/t=1\/t=2\/t=3 by omega)with rfl|rfl|rfl|rfl<;>rfl
theorem RecOK.mono {B B':Int}{r:Rec}(h:RecOK B r) (hb:B<=B'):RecOK B' r:={ h with c1:=Int.le_trans h.c1 hb }
theorem Rec.words_len {B:Int}{r:Rec}(h:RecOK B r):r.words.length=32:=by
 simp[Rec.words,h.a4,h.w4,XD h.ok]
def Rec.ofW (l:List Int):Rec:=⟨l.getD 0 0,(l.drop 1).take 17,(l.drop 18).take 4,(l.drop 22).take 4,l.getD 26 0,l.getD 27 0,l.getD 28 0⟩
theorem Rec.ofW_words {B:Int}{r:Rec}(h:RecOK B r):Rec.ofW r.words=r:=by
 obtain⟨kind,obj,ans,whn,tog,ver,cnt⟩:=r
 have h17:=XD h.ok
 have ha:=h.a4
 have hw:=h.w4
 dsimp only at h17 ha hw
 match obj,h17 with
 |[_,_,_,_,_,_,_,_,_,_,_,_,_,_,_,_,_],_=>
  match ans,ha with
  |[_,_,_,_],_=>
   match whn,hw with
   |[_,_,_,_],_=>rfl
def RecW (f:Nat->Int):Prop:=RecOK 1099511627776 (Rec.ofW (toN 32 f))/\toN 32 f=(Rec.ofW (toN 32 f)).words
theorem RecW.of {B:Int}{r:Rec}(h:RecOK B r) (hB:B<=1099511627776) {f:Nat->Int}(e:toN 32 f=r.words):RecW f/\Rec.ofW (toN 32 f)=r:=by
 have h2:Rec.ofW (toN 32 f)=r:=by rw[e];exact Rec.ofW_words h
 exact⟨⟨by rw[h2];exact h.mono hB,by rw[h2];exact e⟩,h2⟩
section
variable (f:Nat->Int)
theorem Qhi:(Rec.ofW (toN 32 f)).kind=f 0:=rfl
theorem Qjr:(Rec.ofW (toN 32 f)).tog=f 26:=rfl
theorem Qm1:(Rec.ofW (toN 32 f)).ver=f 27:=rfl
theorem QfV:(Rec.ofW (toN 32 f)).cnt=f 28:=rfl
theorem QrB:(Rec.ofW (toN 32 f)).obj=toN 17 (λi=>f (1+i)):=rfl
theorem QrC (t:Nat) (ht:t<4):(Rec.ofW (toN 32 f)).ans.getD t 0=f (18+t):=by
 show (((toN 32 f).drop 18).take 4).getD t 0=_
 rw[<- Xb (n:=32) (f:=f) (i:=18+t) Za]
 simp only[Zp,ZO,Zf ht,YL]
theorem Qjq (t:Nat) (ht:t<4):(Rec.ofW (toN 32 f)).whn.getD t 0=f (22+t):=by
 show (((toN 32 f).drop 22).take 4).getD t 0=_
 rw[<- Xb (n:=32) (f:=f) (i:=22+t) Za]
 simp only[Zp,ZO,Zf ht,YL]
end
theorem RecW.tail {f:Nat->Int}(h:RecW f):f 29=0/\f 30=0/\f 31=0:=by
 obtain⟨h1,h2⟩:=h
 have g (i:Nat) (hi:i<32):f i=(Rec.ofW (toN 32 f)).words.getD i 0:=by rw[<- h2,Xb hi]
 generalize Rec.ofW (toN 32 f)=r at *
 obtain⟨kind,obj,ans,whn,tog,ver,cnt⟩:=r
 have h17:=XD h1.ok
 have ha:=h1.a4
 have hw:=h1.w4
 dsimp only at h17 ha hw
 rw[g 29 Zb,g 30 Zb,g 31 Zb]
 match obj,h17 with
 |[_,_,_,_,_,_,_,_,_,_,_,_,_,_,_,_,_],_=>
  match ans,ha with
  |[_,_,_,_],_=>
   match whn,hw with
   |[_,_,_,_],_=>exact⟨rfl,rfl,rfl⟩
theorem Qcw (r:Rec) (h17:r.obj.length=17) (ha:r.ans.length=4) (hw:r.whn.length=4) (i:Nat) (hi:i<32):
 fL r.words i=if i=0 then r.kind else if i<=17 then fL r.obj (i-1)else if i<=21 then fL r.ans (i-18)else if i<=25 then fL r.whn (i-22)else if i=26 then r.tog else if i=27 then r.ver else if i=28 then r.cnt else 0:=by
 unfold Rec.words
 rcases Yz i with h0|h0
 . subst h0;rfl
 obtain⟨j,rfl⟩:∃j,i=j+1:=⟨i-1,Za⟩
 rw[Qam,Ze Za]
 by_cases h1:j+1<=17
 . rw[Zf h1,Qaa Za,Nat.add_sub_cancel]
 rw[Ze h1,XP Za,h17]
 by_cases h2:j+1<=21
 . rw[Zf h2,Qaa Za,show j-17=j+1-18 by omega]
 rw[Ze h2,XP Za,ha]
 by_cases h3:j+1<=25
 . rw[Zf h3,Qaa Za,show j-17-4=j+1-22 by omega]
 rw[Ze h3,XP Za,hw]
 have:j=25\/j=26\/j=27\/j=28\/j=29\/j=30:=Za
 rcases this with rfl|rfl|rfl|rfl|rfl|rfl<;>rfl
theorem RecW.get {f:Nat->Int}(h:RecW f) (i:Nat) (hi:i<32):f i=fL (Rec.ofW (toN 32 f)).words i:=by
 rw[<- h.2];exact (Qe3 hi).symm
def Xc (c v:Int):Bool:=decide (1<=c/\c<=5/\0<=v/\v<=4294967295/\(c=1\/v=0))
theorem Qb6 (c v:Int):Xc c v=true↔QX c v:=by unfold Xc QX;exact decide_eq_true_iff
theorem Qeq {c v:Int}(h:QX c v):ansW c v/4294967296%4294967296=c/\ansW c v%4294967296=v/\0<=ansW c v/\ansW c v<25769803776/\ansW c v≠0:=by
 obtain⟨h1,h2,h3,h4,-⟩:=h
 unfold ansW;omega
end
section
theorem QrO {w:Int}(h:U64 w):getZ w 32 32=w/4294967296%4294967296:=by
 obtain⟨x,rfl,hx⟩:=h.nat
 show ((x/4294967296%4294967296:Nat):Int)=_
 omega
theorem QnG {w:Int}(h:U64 w):getZ w 0 32=w%4294967296:=by
 obtain⟨x,rfl,hx⟩:=h.nat
 show ((x/1%4294967296:Nat):Int)=_
 omega
theorem QpX:∀w:Fin 16,∀t:Fin 4,(((w.val ^^^ 2^t.val:Nat):Nat):Int)=QbL (w.val:Int) t.val:=Zb
theorem Qse:∀w:Fin 16,∀t:Fin 4,w.val.testBit t.val=(Qp (w.val:Int) t.val==1):=Zb
theorem QnO {g:Int}{t:Nat}(h0:0<=g) (h1:g<16) (ht:t<4):Qdm g t=QbL g t:=by
 obtain⟨x,rfl⟩:=Z6 h0
 unfold Qdm
 rw[decide_eq_true Za]
 exact QpX ⟨x,Za⟩ ⟨t,ht⟩
theorem Qqt {g:Int}{t:Nat}(h0:0<=g) (h1:g<16) (ht:t<4):bitZ g t=(Qp g t==1):=by
 obtain⟨x,rfl⟩:=Z6 h0
 unfold bitZ
 rw[decide_eq_true Za,ZbM]
 exact Qse ⟨x,Za⟩ ⟨t,ht⟩
theorem Qmi (g:Int) (t:Nat):Qp g t=0\/Qp g t=1:=by unfold Qp;omega
theorem QqB {c v:Int}(h:QX c v):bits .or .u64 (Zi .u64 (Zi .u64 c*2^(min (32:Int).toNat 64))) (Zi .u64 v)=ansW c v:=by
 obtain⟨h1,h2,h3,h4,-⟩:=h
 obtain⟨x,rfl⟩:=Z6 (show 0<=c by omega)
 obtain⟨y,rfl⟩:=Z6 h3
 rw[Qb7 (x:=x) Za,Qb7 (x:=y) Za]
 rw[show Zi .u64 ((x:Int)*2^(min (32:Int).toNat 64))=((x*2^32:Nat):Int)from Qjh x 32 Zb Za]
 rw[QjK Za Za]
 unfold ansW
 have:=Nat.two_pow_add_eq_or_of_lt (i:=32) (b:=y) Za x
 rw[Nat.mul_comm,<- this]
 show ((4294967296*x+y:Nat):Int)=_
 omega
theorem beqD (i a:Nat):ZE i a=decide (i=a):=by
 by_cases h:i=a
 . subst h;rw[decide_eq_true rfl];exact Zbk _
 . rw[decide_eq_false h]
   cases hb:ZE i a
   . rfl
   . exact absurd (Zo hb) h
theorem Qqd {α:Type}(p:Prop) [Decidable p] (a b:α):(bif decide p then a else b)=if p then a else b:=by
 by_cases h:p
 . rw[decide_eq_true h,Zf h];rfl
 . rw[decide_eq_false h,Ze h];rfl
theorem Qfr {f:Nat->Int}(h:RecW f) (T:Nat) (hT:T<4) (k key x:Int) (ho:opOk k key x=true) (i:Nat) (hi:i<32):
 (bif ZE i 26 then Qdm (f 26) T else bif ZE i (22+T)then f 28+1 else bif ZE i 28 then f 28+1 else bif ZE i (18+T)then ansW (objR (f 0) (toN 17 λi=>f (1+i)) k key x).2.1 (objR (f 0) (toN 17 λi=>f (1+i)) k key x).2.2
  else bif (match ZL 1 i with|false=>false|true=>ZL i 17)then fL (objR (f 0) (toN 17 λi=>f (1+i)) k key x).1 (Nat.pred i)else f i)=fL ((Rec.ofW (toN 32 f)).done T k key x).words i:=by
 have hR:=h.1
 have hd:=hR.done T hT k key x ho
 have h17:=XD hd.ok
 rw[Qcw _ h17 hd.a4 hd.w4 i hi,h.get i hi,Qcw _ (XD hR.ok) hR.a4 hR.w4 i hi]
 have e26:Qdm (f 26) T=QbL (f 26) T:=QnO hR.g0 hR.g1 hT
 have eb:(match ZL 1 i with|false=>false|true=>ZL i 17)=decide (1<=i/\i<=17):=by
  by_cases h1:1<=i
  . rw[show ZL 1 i=true from Ys h1]
    by_cases h2:i<=17
    . rw[decide_eq_true ⟨h1,h2⟩];exact Ys h2
    . rw[decide_eq_false (λhh=>h2 hh.2)]
      cases hb:ZL i 17
      . rfl
      . exact absurd (Zao hb) h2
  . rw[decide_eq_false (λhh=>h1 hh.1)]
    obtain rfl:i=0:=Za
    rfl
 simp only[beqD,Qqd,eb,e26]
 simp only[Rec.done,Qhi,Qjr,Qm1,QfV,QrB]
 have ea (j:Nat) (u:Int) (hj:T<(Rec.ofW (toN 32 f)).ans.length):fL ((Rec.ofW (toN 32 f)).ans.set T u) j=if j=T then u else fL (Rec.ofW (toN 32 f)).ans j:=Qkw hj
 have ew (j:Nat) (u:Int) (hj:T<(Rec.ofW (toN 32 f)).whn.length):fL ((Rec.ofW (toN 32 f)).whn.set T u) j=if j=T then u else fL (Rec.ofW (toN 32 f)).whn j:=Qkw hj
 rw[ea _ _ (by rw[hR.a4];exact hT),ew _ _ (by rw[hR.w4];exact hT)]
 by_cases a0:i=0
 . subst a0;simp;rw[Ze Za,Ze Za]
 by_cases a1:i<=17
 . rw[Ze Za,Ze Za,Ze Za,Ze Za,Zf ⟨Za,a1⟩,Ze a0,Zf a1]
   obtain⟨j,rfl⟩:∃j,i=j+1:=⟨i-1,Za⟩
   rfl
 by_cases a2:i<=21
 . rw[Ze (by omega:¬i=26),Ze (by omega:¬i=22+T),Ze (by omega:¬i=28)]
   rw[Ze a0,Ze a1,Zf a2]
   by_cases b:i=18+T
   . rw[Zf b,Ze a0,Ze a1,Zf a2,Zf Za]
   . rw[Ze b,Ze Za,Ze a0,Ze a1,Zf a2,Ze Za]
 by_cases a3:i<=25
 . rw[Ze (by omega:¬i=26)]
   rw[Ze a0,Ze a1,Ze a2,Zf a3]
   by_cases b:i=22+T
   . rw[Zf b,Ze a0,Ze a1,Ze a2,Zf a3,Zf Za]
   . rw[Ze b,Ze Za,Ze Za,Ze Za,Ze a0,Ze a1,Ze a2,Zf a3,Ze Za]
 have:i=26\/i=27\/i=28\/i=29\/i=30\/i=31:=Za
 rcases this with rfl|rfl|rfl|rfl|rfl|rfl
 . simp
 all_goals (rw[Ze Za,Ze Za];simp;try omega)
def Qhg (a n:Int):Int:=(a%18446744073709551616)%n
theorem QeX (a n:Int) (h:0<n):0<=Qhg a n:=Zee _ Za
theorem Qj8 (a n:Int) (h:0<n):Qhg a n<n:=Int.emod_lt_of_pos _ h
theorem QoX {x:Int}(h : -9223372036854775808<=x/\x<9223372036854775808):Zi .i64 x=x:=by
 simp only[Zi,Za4,ZaK];simp;omega
theorem Qmf {x:Int}(h:0<=x/\x<18446744073709551616):Zi .u64 x=x:=by
 simp only[Zi,Za4,ZaK];simp;omega
theorem Qpp (a n:Int) (h:0<n/\n<=9223372036854775807):Zi .u64 n≠0/\Zi .i64 ((Zi .u64 a).tmod (Zi .u64 n))=Qhg a n:=by
 have e:IntKind.u64.wrap a=a%18446744073709551616:=by simp[Zi,ZaK,Za4]
 have h1:0<=a%18446744073709551616:=Zee _ Zb
 rw[Qmf (x:=n) Za,e,YR h1]
 have:=QeX a n h.1
 have:=Qj8 a n h.1
 have e2:a%18446744073709551616%n=Qhg a n:=rfl
 rw[e2]
 exact⟨Za,QoX ⟨Za,Za⟩⟩
theorem QqN (r:Rec) (h17:r.obj.length=17) (ha:r.ans.length=4) (hw:r.whn.length=4):fL r.words 28=r.cnt/\fL r.words 27=r.ver/\fL r.words 26=r.tog:=by
 have g:=Qcw r h17 ha hw
 exact⟨g 28 Zb,g 27 Zb,g 26 Zb⟩
theorem Qg3 {B:Int}{r:Rec}(h:RecOK B r) (t:Nat) (ht:t<4):fL r.words (18+t)=fL r.ans t:=by
 rw[Qcw r (XD h.ok) h.a4 h.w4 (18+t) Za,Ze Za,Ze Za,Zf Za,ZaL]
theorem Qg2 {B:Int}{r:Rec}(h:RecOK B r) (t:Nat) (ht:t<4):fL r.words (22+t)=fL r.whn t:=by
 rw[Qcw r (XD h.ok) h.a4 h.w4 (22+t) Za,Ze Za,Ze Za,Ze Za,Zf Za,ZaL]
theorem QgG {B:Int}{r:Rec}(h:RecOK B r) (hB:B<=1099511627776) (t:Nat) (ht:t<4):U64 (fL r.words (18+t))/\0<=fL r.words (22+t)/\fL r.words (22+t)<=9223372036854775807:=by
 have e1:fL r.words (18+t)=r.ans.getD t 0:=Qg3 h t ht
 have e2:fL r.words (22+t)=r.whn.getD t 0:=Qg2 h t ht
 have c1:=h.c1
 rw[e1,e2]
 rcases h.each t ht with⟨a,b⟩|⟨⟨c,v,hA,e⟩,b,d⟩
 . exact⟨⟨Za,Za⟩,Za,Za⟩
 . have hw:=Qeq hA
   exact⟨⟨Za,Za⟩,Za,Za⟩
theorem QrV {B:Int}{r:Rec}(h:RecOK B r) (T:Nat) (hT:T<4) (k key x:Int) (ho:opOk k key x=true) (t:Nat) (ht:t<4):
 fL (r.done T k key x).words (18+t)=(if t=T then ansW (objR r.kind r.obj k key x).2.1 (objR r.kind r.obj k key x).2.2 else fL r.words (18+t))/\fL (r.done T k key x).words (22+t)=(if t=T then r.cnt+1 else fL r.words (22+t)):=by
 have hd:=h.done T hT k key x ho
 rw[Qg3 hd t ht,Qg3 h t ht,Qg2 hd t ht,Qg2 h t ht]
 exact⟨Qkw (by rw[h.a4];exact hT),Qkw (by rw[h.w4];exact hT)⟩
structure Ask where
 t:Nat
 g:Int
 k:Int
 key:Int
 x:Int
structure Dd where
 t:Int
 k:Int
 key:Int
 x:Int
 c:Int
 v:Int
def Ask.nil:Ask:=⟨0,0,0,0,0⟩
def Dd.nil:Dd:=⟨0,0,0,0,0,0⟩
def Ask.is (a:Ask) (z:Nat->Int):Prop:=z 0=(a.t:Int)/\z 1=a.g/\z 2=a.k/\z 3=a.key/\z 4=a.x
def Dd.is (a:Dd) (z:Nat->Int):Prop:=z 0=(a.t:Int)/\z 1=a.k/\z 2=a.key/\z 3=a.x/\z 4=a.c/\z 5=a.v
def IsA (z:Nat->Nat->Int) (l:List Ask):Prop:=∀i,i<l.length->(l.getD i Ask.nil).is (z i)
def IsD (z:Nat->Nat->Int) (l:List Dd):Prop:=∀i,i<l.length->(l.getD i Dd.nil).is (z i)
theorem getD_snoc {α:Type}{l:List α}{a d:α}{i:Nat}(h:i<(l++[a]).length):(i<l.length/\(l++[a]).getD i d=l.getD i d)\/(i=l.length/\(l++[a]).getD i d=a):=by
 rw[Zw,Yd]at h
 simp only[Zp]
 by_cases h1:i<l.length
 . exact .inl ⟨h1,by rw[Z5 h1]⟩
 . obtain rfl:i=l.length:=Za
   exact .inr ⟨rfl,by simp⟩
theorem IsA.sub {z z':Nat->Nat->Int}{l:List Ask}(h:IsA z l) (e:∀i,i<l.length->∀j,z' i j=z i j):IsA z' l:=λi hi=>by
 have:=h i hi;unfold Ask.is at this ⊢;simp only[e i hi];exact this
theorem IsD.sub {z z':Nat->Nat->Int}{l:List Dd}(h:IsD z l) (e:∀i,i<l.length->∀j,z' i j=z i j):IsD z' l:=λi hi=>by
 have:=h i hi;unfold Dd.is at this ⊢;simp only[e i hi];exact this
theorem IsA.snoc {z z':Nat->Nat->Int}{l:List Ask}{a:Ask}(h:IsA z l) (e:∀i,i<l.length->∀j,z' i j=z i j) (e2:a.is (z' l.length)):IsA z' (l++[a]):=λi hi=>by
 rcases getD_snoc (d:=Ask.nil) hi with⟨h1,h2⟩|⟨rfl,h2⟩
 . rw[h2];exact h.sub e i h1
 . rw[h2];exact e2
theorem IsD.snoc {z z':Nat->Nat->Int}{l:List Dd}{a:Dd}(h:IsD z l) (e:∀i,i<l.length->∀j,z' i j=z i j) (e2:a.is (z' l.length)):IsD z' (l++[a]):=λi hi=>by
 rcases getD_snoc (d:=Dd.nil) hi with⟨h1,h2⟩|⟨rfl,h2⟩
 . rw[h2];exact h.sub e i h1
 . rw[h2];exact e2
def Ask.ok (a:Ask):Prop:=a.t<4/\(a.g=0\/a.g=1)/\opOk a.k a.key a.x=true
def AsksOK (l:List Ask):Prop:=∀a∈l,a.ok
def bOpen (r:Rec) (a:Ask):Bool:=Qp r.tog a.t != a.g
def Xw (r:Rec) (a:Ask):Rec:=bif bOpen r a then r.done a.t a.k a.key a.x else r
def QdN (r:Rec) (a:Ask):Dd:=⟨a.t,a.k,a.key,a.x,(objR r.kind r.obj a.k a.key a.x).2.1,(objR r.kind r.obj a.k a.key a.x).2.2⟩
def bDs (r:Rec) (a:Ask):List Dd:=bif bOpen r a then [QdN r a]else []
def bR:Rec->List Ask->Rec
 |r,[]=>r
 |r,a::l=>bR (Xw r a) l
def bD:Rec->List Ask->List Dd
 |r,[]=>[]
 |r,a::l=>bDs r a++bD (Xw r a) l
def Rec.at (r:Rec) (v:Int):Rec:={ r with ver:=v }
def bDo (r:Rec) (l:List Ask):Rec:=(bR r l).at ((bR r l).ver+1)
theorem Qi3:∀(r:Rec) (l m:List Ask),bR r (l++m)=bR (bR r l) m
 |r,[],m=>rfl
 |r,a::l,m=>Qi3 (Xw r a) l m
theorem Qi4:∀(r:Rec) (l m:List Ask),bD r (l++m)=bD r l++bD (bR r l) m
 |r,[],m=>rfl
 |r,a::l,m=>by show bDs r a++bD (Xw r a) (l++m)=(bDs r a++bD (Xw r a) l)++_;rw[Qi4 (Xw r a) l m,Yb];rfl
theorem bD_one (r:Rec) (a:Ask):bD r [a]=bDs r a:=YV _
theorem Qsh (r:Rec) (l:List Ask) (a:Ask):bR r (l++[a])=Xw (bR r l) a:=Qi3 r l [a]
theorem Qsj (r:Rec) (l:List Ask) (a:Ask):bD r (l++[a])=bD r l++bDs (bR r l) a:=by rw[Qi4,bD_one]
theorem Qh7 {l:List Ask}{i:Nat}(h:i<l.length):l.take (i+1)=l.take i++[l.getD i Ask.nil]:=by
 rw[List.take_add_one,Zy h];simp[Zp,h]
theorem AsksOK.get {l:List Ask}(h:AsksOK l) {i:Nat}(hi:i<l.length):(l.getD i Ask.nil).ok:=by
 rw[Zp,Zy hi];exact h _ (ZaB hi)
theorem AsksOK.tail {a:Ask}{l:List Ask}(h:AsksOK (a::l)):AsksOK l:=λb hb=>h b (ZF _ hb)
theorem Qdi {B:Int}{r:Rec}{a:Ask}(h:RecOK B r) (ha:a.ok):RecOK (B+1) (Xw r a):=by
 unfold Xw
 cases bOpen r a
 . exact h.mono Za
 . exact h.done a.t ha.1 a.k a.key a.x ha.2.2
theorem Qsi:∀ {l:List Ask}{B:Int}{r:Rec},RecOK B r->AsksOK l->RecOK (B+l.length) (bR r l)
 |[],B,r,h,_=>h.mono (by simp)
 |a::l,B,r,h,ha=>by
  have:=Qsi (l:=l) (Qdi h (ha a ZC)) ha.tail
  rw[show B+1+(l.length:Int)=B+((a::l).length:Int) by simp;omega]at this;exact this
theorem Qoy (r:Rec) (a:Ask):(Xw r a).ver=r.ver:=by unfold Xw;cases bOpen r a<;>rfl
theorem Ql9 (r:Rec) (a:Ask):(Xw r a).kind=r.kind:=by unfold Xw;cases bOpen r a<;>rfl
theorem Qi2:∀(l:List Ask) (r:Rec),(bR r l).ver=r.ver
 |[],r=>rfl
 |a::l,r=>(Qi2 l (Xw r a)).trans (Qoy r a)
theorem Qqx:∀(l:List Ask) (r:Rec),(bD r l).length<=l.length
 |[],r=>Zq _
 |a::l,r=>by
  have:=Qqx l (Xw r a)
  show (bDs r a++bD (Xw r a) l).length<=_
  rw[Zw,Yf]
  have h1:(bDs r a).length<=1:=by unfold bDs;cases bOpen r a<;>simp
  omega
theorem RecOK.at {B:Int}{r:Rec}(h:RecOK B r) {v:Int}(h0:0<=v) (h1:v<=1099511627776):RecOK B (r.at v):=
 ⟨h.k1,h.k6,h.ok,h.a4,h.w4,h.g0,h.g1,h0,h1,h.c0,h.c1,h.each,h.once⟩
theorem Qg1 {r:Rec}{a:Ask}(h:bOpen r a=false):Xw r a=r/\bDs r a=[]:=by unfold Xw bDs;rw[h];exact⟨rfl,rfl⟩
theorem QcS {B:Int}{r:Rec}{a:Ask}(h:RecOK B r) (ha:a.ok) (t:Nat) (ht:t<4):Qp (Xw r a).tog t=if t=a.t then a.g else Qp r.tog t:=by
 unfold Xw
 have hb01:Qp r.tog a.t=0\/Qp r.tog a.t=1:=by unfold Qp;omega
 cases ho:bOpen r a
 . have:Qp r.tog a.t=a.g:=by simpa [bOpen] using ho
   show Qp r.tog t=_
   split
   . rename_i e;rw[e];exact this
   . rfl
 . have:Qp r.tog a.t≠a.g:=by simpa [bOpen] using ho
   have e:=Qjd r.tog a.t t ha.1 ht h.g0 h.g1
   show Qp (QbL r.tog a.t) t=_
   rw[e]
   split
   . have:=ha.2.1;omega
   . rfl
theorem QqO:∀ {l:List Ask}{B:Int}{r:Rec},RecOK B r->AsksOK l->∀t,t<4->(∀a∈l,a.t≠t)->Qp (bR r l).tog t=Qp r.tog t
 |[],B,r,_,_,t,_,_=>rfl
 |a::l,B,r,h,ha,t,ht,hn=>by
  have h1:=QqO (l:=l) (Qdi h (ha a ZC)) ha.tail t ht (λb hb=>hn b (ZF _ hb))
  have h2:=QcS h (ha a ZC) t ht
  rw[Ze (λe=>hn a ZC e.symm)]at h2
  exact h1.trans h2
theorem QhZ:∀ {l:List Ask}{B:Int}{r:Rec},RecOK B r->AsksOK l->l.Pairwise (λa b=>a.t≠b.t)->∀a∈l,bOpen (bR r l) a=false
 |b::l,B,r,h,ha,hp,a,hm=>by
  have hb:=ha b ZC
  have hs:=Qdi h hb
  rw[Zbi]at hp
  rcases List.mem_cons.1 hm with rfl|hm
  . have h1:=QqO hs ha.tail a.t hb.1 (λc hc e=>hp.1 c hc e.symm)
    have h2:=QcS h hb a.t hb.1
    rw[Zf rfl]at h2
    show (Qp (bR (Xw r a) l).tog a.t != a.g)=false
    rw[h1,h2];simp
  . exact QhZ hs ha.tail hp.2 a hm
theorem QoY {r:Rec}(h17:r.obj.length=17) (ha:r.ans.length=4) (hw:r.whn.length=4) (v:Int):r.words.set 27 v=(r.at v).words:=by
 obtain⟨kind,obj,ans,whn,tog,ver,cnt⟩:=r
 dsimp only at h17 ha hw
 match obj,h17 with
 |[_,_,_,_,_,_,_,_,_,_,_,_,_,_,_,_,_],_=>
  match ans,ha with
  |[_,_,_,_],_=>
   match whn,hw with
   |[_,_,_,_],_=>rfl
theorem toN_at {B:Int}{r:Rec}{f:Nat->Int}(h:RecOK B r) (hf:toN 32 f=r.words) (v:Int):toN 32 (λi=>bif ZE i 27 then v else f i)=(r.at v).words:=by
 rw[<- QoY (XD h.ok) h.a4 h.w4,<- hf,Qje]
 refine QdP λi hi=>?_
 by_cases e:i=27
 . subst e;rfl
 . rw[Ze e]
   cases hb:ZE i 27
   . rfl
   . exact absurd (Zo hb) e
theorem Qra {B:Int}{r:Rec}{f:Nat->Int}(h:RecOK B r) (hf:toN 32 f=r.words):f 26=r.tog/\f 27=r.ver/\f 28=r.cnt:=by
 have g:=QqN r (XD h.ok) h.a4 h.w4
 have e (i:Nat) (hi:i<32):f i=fL r.words i:=by rw[<- hf,Qe3 hi]
 exact⟨(e 26 Zb).trans g.2.2,(e 27 Zb).trans g.2.1,(e 28 Zb).trans g.1⟩
theorem Qn4 {B:Int}{r:Rec}(h:RecOK B r) (hB:B+1<=1099511627776) (T:Nat) (hT:T<4) (k key x:Int) (ho:opOk k key x=true):
 fL (r.done T k key x).words (18+T)/4294967296%4294967296=(objR r.kind r.obj k key x).2.1/\fL (r.done T k key x).words (18+T)%4294967296=(objR r.kind r.obj k key x).2.2 /\
 Xc (fL (r.done T k key x).words (18+T)/4294967296%4294967296) (fL (r.done T k key x).words (18+T)%4294967296)=true:=by
 have hA:=(QdC h.ok k key x ho).1
 have hw:=Qeq hA
 have eT:=QrV h T hT k key x ho T hT
 rw[Zf rfl,Zf rfl]at eT
 rw[eT.1,hw.1,hw.2.1]
 exact⟨rfl,rfl,(Qb6 _ _).2 hA⟩
def putF (f:Nat->Int) (a:Nat) (x:Int):Nat->Int:=λi=>bif ZE i a then x else f i
theorem QY (f:Nat->Int) (a:Nat) (x:Int):putF f a x a=x:=by
 unfold putF;rw[show ZE a a=true from Zbk a];rfl
theorem Qs (f:Nat->Int) {a i:Nat}(x:Int) (h:i≠a):putF f a x i=f i:=by
 unfold putF
 cases hb:ZE i a
 . rfl
 . exact absurd (Zo hb) h
structure Sto where
 now:Nat->Int
 good:Nat->Int
 want:Nat->Int
 fl:Int
 fe:Int
def Sto.new:Sto:=⟨λ_=>0,λ_=>0,λ_=>0,0,0⟩
def Sto.save (s:Sto) (a:Nat) (x:Int):Sto:={ s with now:=putF s.now a x }
def Sto.flush (s:Sto) (t l:Nat):Sto:={ s with want:=putF s.want (9*t+l) 1,fl:=s.fl+1 }
def Sto.firm (s:Sto) (t:Nat) (n:Nat):Nat->Int:=λi=>bif decide (i/8<n) && !(s.want (9*t+i/8)==0)then s.now i else s.good i
def Sto.fence (s:Sto) (t:Nat):Sto:={ s with good:=s.firm t 9,want:=λi=>bif decide (i/9=t)then 0 else s.want i,fe:=s.fe+1 }
theorem Ql8 (a b:Nat):ZL a b=decide (a<=b):=by
 by_cases h:a<=b
 . rw[decide_eq_true h];exact Ys h
 . rw[decide_eq_false h]
   cases hb:ZL a b
   . rfl
   . exact absurd (Zao hb) h
theorem QnQ (s:Sto) (t:Nat):s.firm t 0=s.good:=funext λj=>by
 unfold Sto.firm;rw[decide_eq_false (ZP _)];rfl
theorem QnR (s:Sto) (t i:Nat) (h:s.want (9*t+i)=0):s.firm t (i+1)=s.firm t i:=funext λj=>by
 unfold Sto.firm
 by_cases e:j/8=i
 . subst e;rw[h];simp
 . rw[show (decide (j/8<i+1))=decide (j/8<i)from decide_eq_decide.2 Za]
theorem Qp0 (s:Sto) (t i j:Nat) (h:s.want (9*t+i)≠0):(bif ZL (8*i) j&&ZL j (8*i+1+1+1+1+1+1+1)then s.now (8*i+(j-8*i))else s.firm t i j)=s.firm t (i+1) j:=by
 unfold Sto.firm
 rw[Ql8,Ql8]
 by_cases e:j/8=i
 . subst e
   rw[decide_eq_true (show 8*(j/8)<=j by omega),decide_eq_true (show j<=8*(j/8)+1+1+1+1+1+1+1 by omega),decide_eq_true (show j/8<j/8+1 by omega),show (s.want (9*t+j/8)==0)=false from beq_eq_false_iff_ne.2 h,show 8*(j/8)+(j-8*(j/8))=j by omega];rfl
 . have hn:(decide (8*i<=j)&&decide (j<=8*i+1+1+1+1+1+1+1))=false:=by
    rw[Bool.and_eq_false_iff,decide_eq_false_iff_not,decide_eq_false_iff_not];omega
   rw[hn,show (decide (j/8<i+1))=decide (j/8<i)from decide_eq_decide.2 Za];rfl
theorem unwant (s:Sto) (t j:Nat):(bif ZL (9*t) j&&ZL j (9*t+1+1+1+1+1+1+1+1)then 0 else s.want j)=(s.fence t).want j:=by
 show _=bif decide (j/9=t)then 0 else s.want j
 rw[Ql8,Ql8]
 have:(decide (9*t<=j)&&decide (j<=9*t+1+1+1+1+1+1+1+1))=decide (j/9=t):=by
  rw[<- Bool.decide_and,decide_eq_decide];omega
 rw[this]
def XY (k:Int) (n:Nat):Nat->Int:=λi=>bif decide (8<=i/\i<8+n)then fL (Rec.new k).words (i-8)else 0
theorem Qlp (k:Int):XY k 0=λ_=>0:=funext λi=>by
 unfold XY;rw[decide_eq_false Za];rfl
theorem Qlq (k:Int) (n:Nat):putF (XY k n) (8+n) (fL (Rec.new k).words n)=XY k (n+1):=funext λi=>by
 by_cases h:i=8+n
 . subst h
   rw[QY]
   unfold XY
   rw[decide_eq_true Za,ZaL];rfl
 . rw[Qs _ _ h]
   unfold XY
   rw[show (decide (8<=i/\i<8+n))=decide (8<=i/\i<8+(n+1))from decide_eq_decide.2 Za]
def opW (k key x:Int):Int:=k*281474976710656+key*4294967296+x
theorem Qj9 {k key x:Int}(h:opOk k key x=true):opW k key x/281474976710656%65536=k/\opW k key x/4294967296%65536=key/\opW k key x%4294967296=x/\0<=opW k key x/\opW k key x<18446744073709551616:=by
 simp only[opOk,decide_eq_true_eq]at h
 unfold opW
 omega
end
section
open Go.RowKit
abbrev stoB (s:Sto):SB:=.cells [.ints (.int .u64) 72 s.now,.ints (.int .u64) 72 s.good,.ints .bool 36 s.want,.one (.v (.int .i64 s.fl)),.one (.v (.int .i64 s.fe))] 158
def tabU:Tab:=[(3,.one (.int .i64 0) (.int .i64)),
(4,.one (.bool false) .bool),
(22,.one (.slice none 0 0) (.slice 119)),
(24,.str [.one (.v (.int .i64 0)),.one (.v (.int .i64 0))] [(0,1,false),(1,1,false)]),
(28,.one (.pointer none) (.ptr 73)),
(30,.one (.slice none 0 0) (.slice 36)),
(34,.str [.one (.v (.int .i64 0)),.one (.v (.int .i64 0)),.one (.v (.int .i64 0))] [(0,1,false),(1,1,false),(2,1,false)]),
(36,.str [.one (.v (.int .i64 0)),.one (.v (.int .i64 0)),.one (.v (.int .i64 0)),.one (.v (.int .i64 0)),.one (.v (.int .i64 0)),.one (.v (.int .i64 0))] [(0,1,false),(1,3,true),(4,2,true)]),
(37,.one (.int .u64 0) (.int .u64)),
(39,.arr [.ints (.int .u64) 17 (λ_=>0)] 17 1 false),
(41,.one (.nilIface) .iface),
(45,.one (.slice none 0 0) (.slice 47)),
(47,.str [.one (.v (.int .i64 0)),.one (.v (.int .i64 0)),.one (.v (.int .i64 0)),.one (.v (.int .i64 0)),.one (.v (.int .i64 0)),.one (.v (.int .i64 0)),.one (.v (.int .i64 0)),.one (.v (.int .i64 0)),.one (.v (.int .i64 0))] [(0,1,false),(1,1,false),(2,3,true),(5,2,true),(7,1,false),(8,1,false)]),
(50,.one (.int .i64 0) (.int .i64)),
(66,.one (.pointer none) (.ptr 101)),
(67,.one (.pointer none) (.ptr 158)),
(68,.one (.pointer none) (.ptr 108)),
(69,.arr [.one (.v (.pointer none)),.one (.v (.pointer none)),.one (.v (.pointer none)),.one (.v (.pointer none))] 4 1 false),
(70,.arr [.ints (.int .i64) 4 (λ_=>0)] 4 1 false),
(71,.one (.slice none 0 0) (.slice 75)),
(73,.str [.one (.v (.pointer none)),.one (.v (.pointer none)),.one (.v (.pointer none)),.one (.v (.pointer none)),.one (.v (.pointer none)),.one (.v (.pointer none)),.ints (.int .i64) 4 (λ_=>0),.one (.v (.int .i64 0)),.one (.v (.slice none 0 0)),.one (.v (.slice none 0 0))] [(0,1,false),(1,1,false),(2,4,true),(6,4,true),(10,1,false),(11,1,false),(12,1,false)]),
(75,.str [.one (.v (.int .u64 0)),.one (.v (.int .i64 0)),.one (.v (.int .i64 0)),.one (.v (.int .i64 0)),.one (.v (.int .i64 0)),.one (.v (.int .i64 0)),.one (.v (.int .i64 0))] [(0,1,false),(1,6,true)]),
(76,.one (.int .u64 0) (.int .u64)),
(80,.one (.pointer none) (.ptr 82)),
(82,.str [.one (.v (.int .i64 0)),.one (.v (.int .i64 0))] [(0,1,false),(1,1,false)]),
(86,.one (.slice none 0 0) (.slice 91)),
(89,.one (.slice none 0 0) (.slice 3)),
(91,.str [.one (.v (.int .i64 0)),.one (.v (.int .i64 0)),.one (.v (.int .i64 0)),.one (.v (.int .i64 0)),.one (.v (.int .i64 0)),.one (.v (.int .i64 0)),.one (.v (.int .i64 0)),.one (.v (.int .i64 0)),.one (.v (.int .i64 0))] [(0,1,false),(1,3,true),(4,1,false),(5,1,false),(6,1,false),(7,2,true)]),
(96,.arr [.ints (.int .u64) 32 (λ_=>0)] 32 1 false),
(99,.arr [.ints (.int .u64) 16 (λ_=>0)] 16 1 false),
(101,.str [.ints (.int .u64) 16 (λ_=>0)] [(0,16,true)]),
(105,.one (.slice none 0 0) (.slice 198)),
(106,.arr [.ints (.int .u64) 3 (λ_=>0)] 3 1 false),
(108,.str [.one (.v (.int .i64 0)),.one (.v (.int .i64 0)),.one (.v (.int .i64 0)),.one (.v (.int .i64 0)),.one (.v (.int .i64 0)),.one (.v (.int .i64 0)),.one (.v (.bool false)),.one (.v (.int .i64 0)),.one (.v (.int .u64 0)),.ints (.int .u64) 32 (λ_=>0),.one (.v (.slice none 0 0)),.one (.v (.slice none 0 0)),.ints (.int .u64) 3 (λ_=>0),.one (.v (.int .i64 0)),.one (.v (.int .i64 0)),.one (.v (.int .i64 0))] [(0,1,false),(1,1,false),(2,3,true),(5,1,false),(6,1,false),(7,1,false),(8,1,false),(9,32,true),(41,1,false),(42,1,false),(43,3,true),(46,2,true),(48,1,false)]),
(117,.one (.slice none 0 0) (.slice 34)),
(119,.str [.one (.v (.int .i64 0)),.one (.v (.int .i64 0)),.one (.v (.int .i64 0)),.one (.v (.int .i64 0)),.one (.v (.int .i64 0)),.one (.v (.int .i64 0)),.one (.v (.int .u64 0))] [(0,1,false),(1,1,false),(2,3,true),(5,1,false),(6,1,false)]),
(122,.str [.one (.v (.int .i64 0)),.one (.v (.int .i64 0))] [(0,1,false),(1,1,false)]),
(124,.arr [.ints (.int .i64) 16 (λ_=>0)] 8 2 true),
(134,.one (.map none) (.map 3 133)),
(149,.one (.map none) (.map 3 3)),
(153,.arr [.ints (.int .u64) 8 (λ_=>0)] 8 1 false),
(154,.arr [.ints (.int .u64) 72 (λ_=>0)] 9 8 true),
(155,.arr [.ints .bool 9 (λ_=>0)] 9 1 false),
(156,.arr [.ints .bool 36 (λ_=>0)] 4 9 true),
(158,.str [.ints (.int .u64) 72 (λ_=>0),.ints (.int .u64) 72 (λ_=>0),.ints .bool 36 (λ_=>0),.one (.v (.int .i64 0)),.one (.v (.int .i64 0))] [(0,72,true),(72,72,true),(144,36,true),(180,1,false),(181,1,false)]),
(168,.one (.slice none 0 0) (.slice 37)),
(198,.str [.one (.v (.int .i64 0)),.one (.v (.int .i64 0)),.one (.v (.int .i64 0)),.one (.v (.int .i64 0)),.one (.v (.int .i64 0))] [(0,1,false),(1,1,false),(2,3,true)])]
theorem Qf:TabOk Tryz.prog tabU:=.cons ⟨Zc,Zc,Zc,Zc,Zc⟩ (.cons ⟨Zc,Zc,Zc,Zc,Zc⟩ (.cons ⟨Zc,Zc,Zc,Zc,Zc⟩ (.cons ⟨Zc,Zc,Zc,Zc⟩ (.cons ⟨Zc,Zc,Zc,Zc,Zc⟩ (.cons ⟨Zc,Zc,Zc,Zc,Zc⟩ (.cons ⟨Zc,Zc,Zc,Zc⟩ (.cons ⟨Zc,Zc,Zc,Zc⟩ (.cons ⟨Zc,Zc,Zc,Zc,Zc⟩ (.cons ⟨Zc,Zc,Zc,Zc⟩ (.cons ⟨Zc,Zc,Zc,Zc,Zc⟩ (.cons ⟨Zc,Zc,Zc,Zc,Zc⟩ (.cons ⟨Zc,Zc,Zc,Zc⟩ (.cons ⟨Zc,Zc,Zc,Zc,Zc⟩ (.cons ⟨Zc,Zc,Zc,Zc,Zc⟩ (.cons ⟨Zc,Zc,Zc,Zc,Zc⟩ (.cons ⟨Zc,Zc,Zc,Zc,Zc⟩ (.cons ⟨Zc,Zc,Zc,Zc⟩ (.cons ⟨Zc,Zc,Zc,Zc⟩ (.cons ⟨Zc,Zc,Zc,Zc,Zc⟩ (.cons ⟨Zc,Zc,Zc,Zc⟩ (.cons ⟨Zc,Zc,Zc,Zc⟩ (.cons ⟨Zc,Zc,Zc,Zc,Zc⟩ (.cons ⟨Zc,Zc,Zc,Zc,Zc⟩ (.cons ⟨Zc,Zc,Zc,Zc⟩ (.cons ⟨Zc,Zc,Zc,Zc,Zc⟩ (.cons ⟨Zc,Zc,Zc,Zc,Zc⟩ (.cons ⟨Zc,Zc,Zc,Zc⟩ (.cons ⟨Zc,Zc,Zc,Zc⟩ (.cons ⟨Zc,Zc,Zc,Zc⟩ (.cons ⟨Zc,Zc,Zc,Zc⟩ (.cons ⟨Zc,Zc,Zc,Zc,Zc⟩ (.cons ⟨Zc,Zc,Zc,Zc⟩ (.cons ⟨Zc,Zc,Zc,Zc⟩ (.cons ⟨Zc,Zc,Zc,Zc,Zc⟩ (.cons ⟨Zc,Zc,Zc,Zc⟩ (.cons ⟨Zc,Zc,Zc,Zc⟩ (.cons ⟨Zc,Zc,Zc,Zc⟩ (.cons ⟨Zc,Zc,Zc,Zc,Zc⟩ (.cons ⟨Zc,Zc,Zc,Zc,Zc⟩ (.cons ⟨Zc,Zc,Zc,Zc⟩ (.cons ⟨Zc,Zc,Zc,Zc⟩ (.cons ⟨Zc,Zc,Zc,Zc⟩ (.cons ⟨Zc,Zc,Zc,Zc⟩ (.cons ⟨Zc,Zc,Zc,Zc⟩ (.cons ⟨Zc,Zc,Zc,Zc,Zc⟩ (.cons ⟨Zc,Zc,Zc,Zc⟩ (TabOk.nil _)))))))))))))))))))))))))))))))))))))))))))))))
theorem Qc:TysOk Tryz.prog tabU:=TysOk.of Zc Zc
def QcK:PCon:=⟨λargs=>match args with
 |[.c (.v (.int .i64 a))]=>True
 |_=>False,λargs=>match args with
 |[.c (.v (.int .i64 a))]=>sv (.bool (bif decide (a>=0)then decide (a<72)else false))
 |_=>sv undef,λ_=>none⟩
theorem QgC:(Con.pure QcK).holds Tryz.prog 67:=by
 refine QG (AG:=[]) (Γ:=[]) Tryz.func67 rfl Zc Qf Qc (λ_=>GamOk.nil _ _ _) QcK 400 ?_
 intro W args hp
 unfold QcK at hp;dsimp only at hp;split at hp
 case h_2=>exact hp.elim
 rename_i a
 refine⟨rfl,?_⟩
 refine Qk (q:=bif decide (a>=(0:Int))then ZG (aB (decide (a<(72:Int))))=ZG (aB (bif decide (a>=(0:Int))then decide (a<(72:Int))else false))/\true=true else ZG (aB false)=ZG (aB (bif decide (a>=(0:Int))then decide (a<(72:Int))else false))/\true=true) Zc ?_
 exact Qo (λh=>⟨svB (by rw[decide_eq_true h];rfl),rfl⟩) (λh=>⟨svB (by rw[decide_eq_false h];rfl),rfl⟩)
structure QC where
 s:Sto
 a:Int
def QN:MCon:=dcon QC (λs=>0<=s.a/\s.a<72) (λs=>[.c (.p 0 0),.c (.v (.int .i64 s.a))]) (λs=>[stoB s.s]) (λs=>.t [.c (.v (.int .u64 (s.s.now s.a.toNat))),.c (.v .nilIface)]) (λs=>[stoB s.s]) 1 (λargs _=>some (blkA args))
theorem QQ:(Con.mem QN).holds Tryz.prog 49:=by
 intro w0 S
 refine Qa (Γ:=[(67,.pure QcK)]) (λ_=>noW) Tryz.func49 rfl Zc Qf Qc (λw S' _ _=>.cons (QgC w S') (.nil _ _ _)) QN (λ_=>[]) (λx0 h s x=>⟨rfl,Zd⟩) (λs ρ w _ _ _=>Qj w _) [] (Qi 1) 400 ?_
 rintro⟨s,a⟩ w ⟨h0,h1⟩ -
 refine⟨rfl,?_⟩
 dsimp only at *
 refine Qk (q:=True/\bif bif bif decide (a>=(0:Int))then decide (a<(72:Int))else false then false else true then endN QN [] (Qi 1) (QC.mk s a) (ZS [aU 0,Zt (.v (.iface 50 (ZA .i64 (2:Int))))]) [Zj [nU 72 s.1,nU 72 s.2,nB 36 s.3,sI s.4,sI s.5] 158]else (8:Int)≠(0:Int)/\(8:Int)≠(0:Int)/\((0:Int)<=Zi .i64 (Z7 a (8:Int))/\Zi .i64 (Z7 a (8:Int))<(9:Int))/\((0:Int)<=YT a (8:Int)/\YT a (8:Int)<(8:Int))/\0+Zh (Zi .i64 (Z7 a (8:Int)))+Zh (Zi .i64 (Z7 a (8:Int)))+Zh (Zi .i64 (Z7 a (8:Int)))+Zh (Zi .i64 (Z7 a (8:Int)))+Zh (Zi .i64 (Z7 a (8:Int)))+Zh (Zi .i64 (Z7 a (8:Int)))+Zh (Zi .i64 (Z7 a (8:Int)))+Zh (Zi .i64 (Z7 a (8:Int)))+Zh (YT a (8:Int))<72/\endN QN [] (Qi 1) (QC.mk s a) (ZS [aU (s.1 (0+Zh (Zi .i64 (Z7 a (8:Int)))+Zh (Zi .i64 (Z7 a (8:Int)))+Zh (Zi .i64 (Z7 a (8:Int)))+Zh (Zi .i64 (Z7 a (8:Int)))+Zh (Zi .i64 (Z7 a (8:Int)))+Zh (Zi .i64 (Z7 a (8:Int)))+Zh (Zi .i64 (Z7 a (8:Int)))+Zh (Zi .i64 (Z7 a (8:Int)))+Zh (YT a (8:Int)))),Zt (.v ZM)]) [Zj [nU 72 s.1,nU 72 s.2,nB 36 s.3,sI s.4,sI s.5] 158]) Zc ?_
 have e1:Zi .i64 (Z7 a 8)=a/8:=by rw[Zax h0];exact Qx Za Za
 have e2:YT a 8=a%8:=YR h0
 have e3:0+(a/8).toNat+(a/8).toNat+(a/8).toNat+(a/8).toNat+(a/8).toNat+(a/8).toNat+(a/8).toNat+(a/8).toNat+(a%8).toNat=a.toNat:=Za
 rw[e1,e2,e3]
 refine⟨Zd,Xn (λh=>?_) (λ_=>⟨Zb,Zb,⟨Za,Za⟩,⟨Za,Za⟩,Za,(),Zd,rfl,rfl⟩)⟩
 rw[decide_eq_true (show a>=0 by omega),decide_eq_true (show a<72 by omega)]at h;cases h
structure Xh where
 s:Sto
 a:Int
 x:Int
def Xt:MCon:=dcon Xh (λs=>0<=s.a/\s.a<72) (λs=>[.c (.p 0 0),.c (.v (.int .i64 s.a)),.c (.v (.int .u64 s.x))]) (λs=>[stoB s.s]) (λs=>.o (.c (.v .nilIface))) (λs=>[stoB (s.s.save s.a.toNat s.x)]) 1 (λargs _=>some (blkA args))
theorem Qad:(Con.mem Xt).holds Tryz.prog 40:=by
 intro w0 S
 refine Qa (Γ:=[(67,.pure QcK)]) (λ_=>noW) Tryz.func40 rfl Zc Qf Qc (λw S' _ _=>.cons (QgC w S') (.nil _ _ _)) Xt (λ_=>[]) (λx0 h s x=>⟨rfl,Zd⟩) (λs ρ w _ _ _=>Qj w _) [] (Qi 1) 400 ?_
 rintro⟨s,a,x⟩ w ⟨h0,h1⟩ -
 refine⟨rfl,?_⟩
 dsimp only at *
 refine Qk (q:=True/\bif bif bif decide (a>=(0:Int))then decide (a<(72:Int))else false then false else true then endN Xt [] (Qi 1) (Xh.mk s a x) (ZG (Zt (.v (.iface 50 (ZA .i64 (2:Int)))))) [Zj [nU 72 s.1,nU 72 s.2,nB 36 s.3,sI s.4,sI s.5] 158]else (8:Int)≠(0:Int)/\(8:Int)≠(0:Int)/\((0:Int)<=Zi .i64 (Z7 a (8:Int))/\Zi .i64 (Z7 a (8:Int))<(9:Int))/\((0:Int)<=YT a (8:Int)/\YT a (8:Int)<(8:Int))/\0+Zh (Zi .i64 (Z7 a (8:Int)))+Zh (Zi .i64 (Z7 a (8:Int)))+Zh (Zi .i64 (Z7 a (8:Int)))+Zh (Zi .i64 (Z7 a (8:Int)))+Zh (Zi .i64 (Z7 a (8:Int)))+Zh (Zi .i64 (Z7 a (8:Int)))+Zh (Zi .i64 (Z7 a (8:Int)))+Zh (Zi .i64 (Z7 a (8:Int)))+Zh (YT a (8:Int))<72/\endN Xt [] (Qi 1) (Xh.mk s a x) (ZG (Zt (.v ZM))) [Zj [nU 72 λ(i:Nat)=>bif ZE i (0+Zh (Zi .i64 (Z7 a (8:Int)))+Zh (Zi .i64 (Z7 a (8:Int)))+Zh (Zi .i64 (Z7 a (8:Int)))+Zh (Zi .i64 (Z7 a (8:Int)))+Zh (Zi .i64 (Z7 a (8:Int)))+Zh (Zi .i64 (Z7 a (8:Int)))+Zh (Zi .i64 (Z7 a (8:Int)))+Zh (Zi .i64 (Z7 a (8:Int)))+Zh (YT a (8:Int)))then x else s.1 i,nU 72 s.2,nB 36 s.3,sI s.4,sI s.5] 158]) Zc ?_
 have e1:Zi .i64 (Z7 a 8)=a/8:=by rw[Zax h0];exact Qx Za Za
 have e2:YT a 8=a%8:=YR h0
 have e3:0+(a/8).toNat+(a/8).toNat+(a/8).toNat+(a/8).toNat+(a/8).toNat+(a/8).toNat+(a/8).toNat+(a/8).toNat+(a%8).toNat=a.toNat:=Za
 rw[e1,e2,e3]
 refine⟨Zd,Xn (λh=>?_) (λ_=>⟨Zb,Zb,⟨Za,Za⟩,⟨Za,Za⟩,Za,(),Zd,rfl,rfl⟩)⟩
 rw[decide_eq_true (show a>=0 by omega),decide_eq_true (show a<72 by omega)]at h;cases h
structure QU where
 s:Sto
 t:Int
 l:Int
def Q2:MCon:=dcon QU (λs=>(0<=s.t/\s.t<4)/\(0<=s.l/\s.l<9)/\0<=s.s.fl/\s.s.fl<1000000000) (λs=>[.c (.p 0 0),.c (.v (.int .i64 s.t)),.c (.v (.int .i64 s.l))]) (λs=>[stoB s.s]) (λs=>.o (.c (.v .nilIface))) (λs=>[stoB (s.s.flush s.t.toNat s.l.toNat)]) 1 (λargs _=>some (blkA args))
theorem Qah:(Con.mem Q2).holds Tryz.prog 100:=by
 intro w0 S
 refine Qa (Γ:=[]) (λ_=>noW) Tryz.func100 rfl Zc Qf Qc (λw S' _ _=>.nil _ _ _) Q2 (λ_=>[]) (λx0 h s x=>⟨rfl,Zd⟩) (λs ρ w _ _ _=>Qj w _) [] (Qi 1) 400 ?_
 rintro⟨s,t,l⟩ w ⟨h0,h1,h2,h3⟩ -
 refine⟨rfl,?_⟩
 dsimp only at *
 refine Qk (q:=bif decide (t<(0:Int))then endN Q2 [] (Qi 1) (QU.mk s t l) (ZG (Zt (.v (.iface 50 (ZA .i64 (2:Int)))))) [Zj [nU 72 s.1,nU 72 s.2,nB 36 s.3,sI s.4,sI s.5] 158]else bif decide (t>=(4:Int))then endN Q2 [] (Qi 1) (QU.mk s t l) (ZG (Zt (.v (.iface 50 (ZA .i64 (2:Int)))))) [Zj [nU 72 s.1,nU 72 s.2,nB 36 s.3,sI s.4,sI s.5] 158]else bif decide (l<(0:Int))then endN Q2 [] (Qi 1) (QU.mk s t l) (ZG (Zt (.v (.iface 50 (ZA .i64 (2:Int)))))) [Zj [nU 72 s.1,nU 72 s.2,nB 36 s.3,sI s.4,sI s.5] 158]else bif decide (l>=(9:Int))then endN Q2 [] (Qi 1) (QU.mk s t l) (ZG (Zt (.v (.iface 50 (ZA .i64 (2:Int)))))) [Zj [nU 72 s.1,nU 72 s.2,nB 36 s.3,sI s.4,sI s.5] 158]else (iR t (4:Int))/\(iR l (9:Int))/\0+Zh t+Zh t+Zh t+Zh t+Zh t+Zh t+Zh t+Zh t+Zh t+Zh l<36/\endN Q2 [] (Qi 1) (QU.mk s t l) (ZG (Zt (.v ZM))) [Zj [nU 72 s.1,nU 72 s.2,nB 36 λ(i:Nat)=>bif ZE i (0+Zh t+Zh t+Zh t+Zh t+Zh t+Zh t+Zh t+Zh t+Zh t+Zh l)then (1:Int)else s.3 i,sI (Zi .i64 (s.4+(1:Int))),sI s.5] 158]) Zc ?_
 have e3:0+t.toNat+t.toNat+t.toNat+t.toNat+t.toNat+t.toNat+t.toNat+t.toNat+t.toNat+l.toNat=9*t.toNat+l.toNat:=Za
 rw[e3,Qx (x:=s.fl+1) Za Za]
 exact Qo (λh=>absurd h Za) (λ_=>Qo (λh=>absurd h Za) (λ_=>Qo (λh=>absurd h Za) (λ_=>Qo (λh=>absurd h Za) (λ_=>⟨h0,h1,Za,(),Zd,rfl,rfl⟩))))
structure Q0 where
 s:Sto
 t:Int
def Xf:MCon:=dcon Q0 (λs=>(0<=s.t/\s.t<4)/\0<=s.s.fe/\s.s.fe<1000000000) (λs=>[.c (.p 0 0),.c (.v (.int .i64 s.t))]) (λs=>[stoB s.s]) (λs=>.o (.c (.v .nilIface))) (λs=>[stoB (s.s.fence s.t.toNat)]) 1 (λargs _=>some (blkA args))
structure FeG where
 i:Nat
 hi:i<=9
def Qq3 (s:Q0):Ann where
 σ:=FeG
 I g:=([(0,.o (.c (.p 0 0))),(1,sv (.int .i64 s.t)),(19,.o (.a [.ints .bool 9 (λi=>s.s.want (9*s.t.toNat+i))])),(20,sv (.int .i64 g.i))],[stoB { s.s with good:=s.s.firm s.t.toNat g.i }])
 dec g:=9-g.i
 pi env _:=[0]
 nz:=[]
theorem Qai:(Con.mem Xf).holds Tryz.prog 101:=by
 intro w0 S
 refine Qa (Γ:=[]) (λ_=>noW) Tryz.func101 rfl Zc Qf Qc (λw S' _ _=>.nil _ _ _) Xf (λs=>[(101,[(0,Qq3 s)])]) (λx0 h s x=>⟨rfl,Zd⟩) (λs ρ w _ _ _=>Qj w _) [] (Qi 1) 400 ?_
 rintro⟨s,t⟩ w ⟨h0,h1,h2⟩ -
 refine⟨rfl,?_⟩
 dsimp only at h0 h1 h2
 refine Qk (q:=bif decide (t<(0:Int))then endN Xf [] (Qi 1) (Q0.mk s t) (ZG (Zt (.v (.iface 50 (ZA .i64 (2:Int)))))) [Zj [nU 72 s.1,nU 72 s.2,nB 36 s.3,sI s.4,sI s.5] 158]else bif decide (t>=(4:Int))then endN Xf [] (Qi 1) (Q0.mk s t) (ZG (Zt (.v (.iface 50 (ZA .i64 (2:Int)))))) [Zj [nU 72 s.1,nU 72 s.2,nB 36 s.3,sI s.4,sI s.5] 158]else (iR t (4:Int))/\0+Zh t+Zh t+Zh t+Zh t+Zh t+Zh t+Zh t+Zh t+Zh t+1+1+1+1+1+1+1+1+1<=36/\(∃(s0:Ann.σ (Qq3 (Q0.mk s t))),(eS (aP 0 0) (aP 0 0)/\eS (aI t) (aI t)/\eS (Zz [nB 9 λ(j:Nat)=>s.3 (0+Zh t+Zh t+Zh t+Zh t+Zh t+Zh t+Zh t+Zh t+Zh t+j)]) (Zz [nB 9 λ(i:Nat)=>s.3 (9*Zh t+i)])/\eS (aI 0) (aI ↑s0.1)/\True)/\[Zj [nU 72 s.1,nU 72 s.2,nB 36 s.3,sI s.4,sI s.5] 158]=[Zj [nU 72 s.1,nU 72 (Sto.firm s (Zh t) s0.1),nB 36 s.3,sI s.4,sI s.5] 158])/\∀(s_1:FeG),bif decide ((↑s_1.1:Int)<(9:Int))then (iR (↑s_1.1:Int) (9:Int))/\bif bif s.3 (9*Zh t+Zh (↑s_1.1:Int))==(0:Int)then false else true then (iR (↑s_1.1:Int) (9:Int))/\t8 s_1.1+1+1+1+1+1+1+1+1<=72/\(iR (↑s_1.1:Int) (9:Int))/\t8 s_1.1+1+1+1+1+1+1+1+1<=72/\dP Tryz.f101 7 1 [⟨11,[],[0],[],false⟩,xF 10 0,xF 9 0,xF 8 0,xR 7 0,xF 6 0,xF 5 0,xF 4 0,xE 3,xF 2 0,xE 1,xF 0 0]/\∃(s':FeG),((eS (aP 0 0) (aP 0 0)/\eS (aI t) (aI t)/\eS (Zz [nB 9 λ(i:Nat)=>s.3 (9*Zh t+i)]) (Zz [nB 9 λ(i:Nat)=>s.3 (9*Zh t+i)])/\eS (aI (Zi .i64 ((↑s_1.1:Int)+(1:Int)))) (aI ↑s'.1)/\True)/\[Zj [nU 72 s.1,nU 72 λ(j:Nat)=>bif match ZL (t8 s_1.1) j with|false=>false|true=>ZL j (t8 s_1.1+1+1+1+1+1+1+1)then s.1 (t8 s_1.1+(j-(t8 s_1.1)))else Sto.firm s (Zh t) s_1.1 j,nB 36 s.3,sI s.4,sI s.5] 158]=[Zj [nU 72 s.1,nU 72 (Sto.firm s (Zh t) s'.1),nB 36 s.3,sI s.4,sI s.5] 158])/\9-s'.1<9-s_1.1 else ∃(s':FeG),((eS (aP 0 0) (aP 0 0)/\eS (aI t) (aI t)/\eS (Zz [nB 9 λ(i:Nat)=>s.3 (9*Zh t+i)]) (Zz [nB 9 λ(i:Nat)=>s.3 (9*Zh t+i)])/\eS (aI (Zi .i64 ((↑s_1.1:Int)+(1:Int)))) (aI ↑s'.1)/\True)/\[Zj [nU 72 s.1,nU 72 (Sto.firm s (Zh t) s_1.1),nB 36 s.3,sI s.4,sI s.5] 158]=[Zj [nU 72 s.1,nU 72 (Sto.firm s (Zh t) s'.1),nB 36 s.3,sI s.4,sI s.5] 158])/\9-s'.1<9-s_1.1 else (iR t (4:Int))/\0+Zh t+Zh t+Zh t+Zh t+Zh t+Zh t+Zh t+Zh t+Zh t+1+1+1+1+1+1+1+1+1<=36/\endN Xf [] (Qi 1) (Q0.mk s t) (ZG (Zt (.v ZM))) [Zj [nU 72 s.1,nU 72 (Sto.firm s (Zh t) s_1.1),nB 36 λ(j:Nat)=>bif match ZL (0+Zh t+Zh t+Zh t+Zh t+Zh t+Zh t+Zh t+Zh t+Zh t) j with|false=>false|true=>ZL j (0+Zh t+Zh t+Zh t+Zh t+Zh t+Zh t+Zh t+Zh t+Zh t+1+1+1+1+1+1+1+1)then (0:Int)else s.3 j,sI s.4,sI (Zi .i64 (s.5+(1:Int)))] 158]) Zc ?_
 unfold t8
 have e9:0+t.toNat+t.toNat+t.toNat+t.toNat+t.toNat+t.toNat+t.toNat+t.toNat+t.toNat=9*t.toNat:=Za
 rw[e9,Qx (x:=s.fe+1) Za Za]
 refine Qo (λh=>absurd h Za) (λ_=>Qo (λh=>absurd h Za) (λ_=>⟨h0,Za,⟨⟨0,Zb⟩,⟨rfl,rfl,rfl,rfl,Zd⟩,?_⟩,?_⟩))
 . show [stoB s]=[stoB { s with good:=s.firm t.toNat 0 }]
   rw[QnQ]
 rintro⟨i,hi⟩
 dsimp only at hi ⊢
 refine Qo (λhlt=>?_) (λhge=>?_)
 . have hlt':i<9:=Za
   have e8:0+i+i+i+i+i+i+i+i=8*i:=Za
   rw[Zv,e8]
   refine⟨⟨Za,Za⟩,QiX (λh=>?_) (λh=>?_)⟩
   . exact⟨⟨Za,Za⟩,Za,⟨Za,Za⟩,Za,Qd Zc,⟨i+1,hlt'⟩,⟨⟨rfl,rfl,rfl,svI (sucI Za),Zd⟩,congrArg (λg=>[stoB { s with good:=g }]) (funext λj=>Qp0 s t.toNat i j h)⟩,by dsimp only;omega⟩
   . exact⟨⟨i+1,hlt'⟩,⟨⟨rfl,rfl,rfl,svI (sucI Za),Zd⟩,congrArg (λg=>[stoB { s with good:=g }]) (QnR s t.toNat i h).symm⟩,by dsimp only;omega⟩
 . obtain rfl:i=9:=Za
   exact⟨h0,Za,(),Zd,rfl,congrArg (λg=>[stoB { s with good:=s.firm t.toNat 9,want:=g,fe:=s.fe+1 }]) (funext λj=>unwant s t.toNat j)⟩
abbrev ramB (f:Nat->Int):SB:=.cells [.ints (.int .u64) 16 f] 101
structure Qa7 where
 f:Nat->Int
 a:Int
def Q7:MCon:=dcon Qa7 (λs=>0<=s.a/\s.a<16) (λs=>[.c (.p 0 0),.c (.v (.int .i64 s.a))]) (λs=>[ramB s.f]) (λs=>.t [.c (.v (.int .u64 (s.f s.a.toNat))),.c (.v .nilIface)]) (λs=>[ramB s.f]) 1 (λargs _=>some (blkA args))
theorem Xz:(Con.mem Q7).holds Tryz.prog 94:=by
 intro w0 S
 refine Qa (Γ:=[]) (λ_=>noW) Tryz.func94 rfl Zc Qf Qc (λw S' _ _=>.nil _ _ _) Q7 (λ_=>[]) (λx0 h s x=>⟨rfl,Zd⟩) (λs ρ w _ _ _=>Qj w _) [] (Qi 1) 400 ?_
 rintro⟨f,a⟩ w ⟨h0,h1⟩ -
 refine⟨rfl,?_⟩
 dsimp only at *
 refine Qk (q:=bif decide (a<(0:Int))then endN Q7 [] (Qi 1) (Qa7.mk f a) (ZS [aU 0,Zt (.v (.iface 50 (ZA .i64 (2:Int))))]) [Zj [nU 16 f] 101]else bif decide (a>=(16:Int))then endN Q7 [] (Qi 1) (Qa7.mk f a) (ZS [aU 0,Zt (.v (.iface 50 (ZA .i64 (2:Int))))]) [Zj [nU 16 f] 101]else (iR a (16:Int))/\Zh a<16/\endN Q7 [] (Qi 1) (Qa7.mk f a) (ZS [aU (f (Zh a)),Zt (.v ZM)]) [Zj [nU 16 f] 101]) Zc ?_
 refine Qo (λh=>absurd h Za) (λ_=>Qo (λh=>absurd h Za) (λ_=>⟨⟨h0,h1⟩,Za,(),Zd,rfl,rfl⟩))
structure Qa6 where
 f:Nat->Int
 a:Int
 x:Int
def Xk:MCon:=dcon Qa6 (λs=>0<=s.a/\s.a<16) (λs=>[.c (.p 0 0),.c (.v (.int .i64 s.a)),.c (.v (.int .u64 s.x))]) (λs=>[ramB s.f]) (λs=>.o (.c (.v .nilIface))) (λs=>[ramB (putF s.f s.a.toNat s.x)]) 1 (λargs _=>some (blkA args))
theorem Qaf:(Con.mem Xk).holds Tryz.prog 48:=by
 intro w0 S
 refine Qa (Γ:=[]) (λ_=>noW) Tryz.func48 rfl Zc Qf Qc (λw S' _ _=>.nil _ _ _) Xk (λ_=>[]) (λx0 h s x=>⟨rfl,Zd⟩) (λs ρ w _ _ _=>Qj w _) [] (Qi 1) 400 ?_
 rintro⟨f,a,x⟩ w ⟨h0,h1⟩ -
 refine⟨rfl,?_⟩
 dsimp only at *
 refine Qk (q:=bif decide (a<(0:Int))then endN Xk [] (Qi 1) (Qa6.mk f a x) (ZG (Zt (.v (.iface 50 (ZA .i64 (2:Int)))))) [Zj [nU 16 f] 101]else bif decide (a>=(16:Int))then endN Xk [] (Qi 1) (Qa6.mk f a x) (ZG (Zt (.v (.iface 50 (ZA .i64 (2:Int)))))) [Zj [nU 16 f] 101]else (iR a (16:Int))/\Zh a<16/\endN Xk [] (Qi 1) (Qa6.mk f a x) (ZG (Zt (.v ZM))) [Zj [nU 16 λ(i:Nat)=>bif ZE i (Zh a)then x else f i] 101]) Zc ?_
 refine Qo (λh=>absurd h Za) (λ_=>Qo (λh=>absurd h Za) (λ_=>⟨⟨h0,h1⟩,Za,(),Zd,rfl,rfl⟩))
structure Qdk where
 f:Nat->Int
 a:Int
 o:Int
 x:Int
def XR:MCon:=dcon Qdk (λs=>0<=s.a/\s.a<16) (λs=>[.c (.p 0 0),.c (.v (.int .i64 s.a)),.c (.v (.int .u64 s.o)),.c (.v (.int .u64 s.x))]) (λs=>[ramB s.f]) (λs=>.t [.c (.v (.bool (s.f s.a.toNat==s.o))),.c (.v .nilIface)]) (λs=>[ramB (bif s.f s.a.toNat==s.o then putF s.f s.a.toNat s.x else s.f)]) 1 (λargs _=>some (blkA args))
theorem QdA:(Con.mem XR).holds Tryz.prog 93:=by
 intro w0 S
 refine Qa (Γ:=[]) (λ_=>noW) Tryz.func93 rfl Zc Qf Qc (λw S' _ _=>.nil _ _ _) XR (λ_=>[]) (λx0 h s x=>⟨rfl,Zd⟩) (λs ρ w _ _ _=>Qj w _) [] (Qi 1) 400 ?_
 rintro⟨f,a,o,x⟩ w ⟨h0,h1⟩ -
 refine⟨rfl,?_⟩
 dsimp only at *
 refine Qk (q:=bif decide (a<(0:Int))then endN XR [] (Qi 1) (Qdk.mk f a o x) (ZS [aB false,Zt (.v (.iface 50 (ZA .i64 (2:Int))))]) [Zj [nU 16 f] 101]else bif decide (a>=(16:Int))then endN XR [] (Qi 1) (Qdk.mk f a o x) (ZS [aB false,Zt (.v (.iface 50 (ZA .i64 (2:Int))))]) [Zj [nU 16 f] 101]else (iR a (16:Int))/\Zh a<16/\bif f (Zh a) != o then endN XR [] (Qi 1) (Qdk.mk f a o x) (ZS [aB false,Zt (.v ZM)]) [Zj [nU 16 f] 101]else (iR a (16:Int))/\Zh a<16/\endN XR [] (Qi 1) (Qdk.mk f a o x) (ZS [aB true,Zt (.v ZM)]) [Zj [nU 16 λ(i:Nat)=>bif ZE i (Zh a)then x else f i] 101]) Zc ?_
 refine Qo (λh=>absurd h Za) (λ_=>Qo (λh=>absurd h Za) (λ_=>⟨⟨h0,h1⟩,Za,QB (λh=>⟨(),Zd,?_,?_⟩) (λh=>⟨⟨h0,h1⟩,Za,(),Zd,?_,?_⟩)⟩))
 . show ZS [.c (.v (.bool false)),_]=ZS [.c (.v (.bool (f a.toNat==o))),_]
   rw[show (f a.toNat==o)=false from beq_eq_false_iff_ne.2 h];rfl
 . show [_]=[ramB (bif f a.toNat==o then putF f a.toNat x else f)]
   rw[show (f a.toNat==o)=false from beq_eq_false_iff_ne.2 h];rfl
 . show ZS [.c (.v (.bool true)),_]=ZS [.c (.v (.bool (f a.toNat==o))),_]
   rw[show (f a.toNat==o)=true from beq_iff_eq.2 h];rfl
 . show [_]=[ramB (bif f a.toNat==o then putF f a.toNat x else f)]
   rw[show (f a.toNat==o)=true from beq_iff_eq.2 h];rfl
end
end Go.Proofs.YtlafaaeecnifcaaGreatDoor
