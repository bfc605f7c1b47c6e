/- What the proof leans on, gathered. -/
import Derived.KernelRfl
import Derived.WalkKit
import Derived.ProofKit
import Derived.OpenShut
import Derived.Lib.Hide
import Derived.Maps.AppendAt
import Derived.Deep.MidRow
import Derived.Laws.StructEq
import Derived.Laws.MakeOwn
namespace Go.Proofs.YtlafaaeecnifcaaGreatDoor
open Addr renaming add->Zce
open Bool renaming and_eq_true->Zr,not_eq_true'->YD,and_false->ZaI,and_true->Zbo,and_self->ZbN,false_eq_true->ZbS,not_true->Zca,false_and->Zcs,and_assoc->Zdf
open Builtin renaming zeroCells->Zan,delete_->ZaM,len_->Zbj,append_->Zbl,clear_->Zdh,firstCells->ZdD
open Deferred renaming ofValue->ZdW
open Function renaming comp->Zdw
open Go renaming setObj->Zb9
open Instr renaming findKey->Zac,lookup->Zaf,findNow->ZaG,sureAddr->ZaH,sliceAt->ZaU,buildSlice->Zbb,loadAt->Zbh,mapUpdate->Zbm,sliceBounds->Zbs,fill->ZbT,storeAt->Zcb,indexAt->Zcc,makeInterface->Zcl,slice->ZcI,sameNow->ZcL,makeMap->ZcM,sliceBound->ZcS,index->Zde,fieldAt->Zdx,field->Zd4,box->Zeq
open Int renaming le_refl->ZQ
open List renaming length_append->Zw,getElem?_eq_getElem->Zy,mem_cons_self->ZC,mem_cons_of_mem->ZF,length_map->ZN,getElem?_take->ZO,getElem?_eq_none->ZU,length_take->ZW,mem_append_right->Z0,range->Z2,map_cons->Z4,getElem?_append_left->Z5,getElem?_append_right->Z8,getElem?_map->Ya,append_assoc->Yb,mem_append_left->Yc,length_singleton->Yd,length_cons->Yf,cons_append->Ym,take_of_length_le->Yn,map_congr_left->Yr,nil_append->YA,pairwise_singleton->YB,length_range->YJ,all_eq_true->YK,getElem?_drop->YL,map->YN,append_nil->YV,ext_getElem?->YX,drop_of_length_le->YY,mem_singleton->Y0,getElem?_range->Y4,getElem?_cons_zero->Zag,take_append_of_le_length->Zam,getElem?_toArray->Zap,take_take->ZaJ,length_drop->ZaV,mem_append->Za0,flatMap_cons->Za3,getElem?_take_of_lt->Za6,drop_append_of_le_length->Zbd,range_succ_eq_map->Zbg,mem_cons->Zbn,getElem?_append->Zbv,mem_map->ZbD,drop_append->ZbE,map_map->ZbF,take_succ_cons->ZbK,length_set->ZbQ,set_eq_take_append_cons_drop->ZbW,take_zero->ZbZ,singleton_append->Zb8,all_cons->Zcd,nodup_cons->Zcj,drop_succ_cons->Zck,extract_eq_take_drop->ZcG,drop_eq_getElem_cons->ZcH,take_append->ZcR,set_append_right->Zc5,set_append_left->Zda,drop_zero->Zdb,extract_toArray->Zdd,getD_cons_zero->Zdr,filter_append->ZdB,size_toArray->ZdK,zip->Zen
open List.Pairwise renaming nil->Zal
open List.cons renaming injEq->Zaa
open Nat renaming eq_of_beq_eq_true->Zo,le_refl->Zq,zero_add->Zu,mul_le_mul_right->ZK,le_trans->ZV,zero_le->Z9,add_mul->Yi,ble_eq_true_of_le->Ys,add_zero->Yu,lt_or_ge->Yy,eq_zero_or_pos->Yz,min_eq_left->YM,add_assoc->Zab,le_of_eq->Zae,le_of_ble_eq_true->Zao,mul_comm->ZaE,zero_mul->ZaF,sub_zero->ZaQ,lt_of_lt_of_le->Zbe,add_sub_cancel->Zbf,mul_one->Zbx,blt_eq->ZbR,add_comm->Zb0,div_lt_of_lt_mul->Zdc,succ_mul->ZdJ,div_add_mod->Zd8,min->Zej
open Next renaming value->Yh,skip->Zcq
open Op renaming equalIn->YQ,equal->Zav,eqFields->Zd6
open Option renaming map_some->YF,bind_some->ZaW,map_none->Zeb
open Option.some renaming injEq->Zn,inj->YP
open Prod.mk renaming injEq->ZT
open Result renaming andThen_ok->ZD
open Sem renaming run_bind->Zx,run_pure->ZZ,run->ZbX
open Std.Legacy.Range renaming size->Zc7
open Value renaming int->ZA,cells->Zad,oneCell'->Zcr,ownBlock->Zdg
open World renaming setRow->ZdH
open _root_.Array renaming ext'->Zat,toList_map->Zba,getElem?_toList->Zbp,getElem?_modify->Zb7,length_toList->Zdv
set_option linter.unusedVariables false
set_option maxRecDepth 100000
set_option maxHeartbeats 8000000
theorem Za{p:Prop}(h:p:=by omega):p:=h
theorem Zb{p:Prop}(h:p:=by decide):p:=h
theorem Zc{p:Prop}(h:p:=by kernel_rfl):p:=h
theorem Zd:True:=⟨⟩
theorem Ze{c:Prop}{h:Decidable c}(k:¬c){α:Sort _}{t e:α}:ite c t e=e:=if_neg k
theorem Zf{c:Prop}{h:Decidable c}(k:c){α:Sort _}{t e:α}:ite c t e=t:=if_pos k
section
open Go.RowKit
structure Kept (S:Nat->Prop) (w w':World):Prop where
 os:w'.os=w.os
 tape:w'.tape=w.tape
 output:w'.output=w.output
 size:w.heap.size<=w'.heap.size
 block:∀k,k<w.heap.size->¬S k->w'.heap[k]?=w.heap[k]?
namespace Kept
variable {S S':Nat->Prop}{a b c w w':World}
theorem refl (S:Nat->Prop) (w:World):Kept S w w:=⟨rfl,rfl,rfl,Zq _,λ_ _ _=>rfl⟩
theorem trans (h:Kept S a b) (k:Kept S b c):Kept S a c:=
 ⟨k.os.trans h.os,k.tape.trans h.tape,k.output.trans h.output,ZV h.size k.size,λi hi hs=>(k.block i (Zbe hi h.size) hs).trans (h.block i hi hs)⟩
theorem mono (h:Kept S a b) (hs:∀k,S k->S' k):Kept S' a b:=⟨h.os,h.tape,h.output,h.size,λk hk hn=>h.block k hk (λx=>hn (hs k x))⟩
theorem alloc (h:Kept S a b) (o:Obj):Kept S a (b.alloc o):=
 h.trans ⟨rfl,rfl,rfl,by simp,λk hk _=>Below.heap_alloc _ _ _ hk⟩
theorem setCell (h:Kept S a b) {p:Addr}(hp:S p.block\/a.heap.size<=p.block) (v:Value):Kept S a (b.setCell p v):=
 ⟨h.os,h.tape,h.output,by simp[World.setCell];exact h.size,λk hk hn=>by
  have:k≠p.block:=by rintro rfl;rcases hp with hp|hp;exact hn hp;omega
  rw[Below.heap_setCell _ _ _ _ this];exact h.block k hk hn⟩
theorem own {k:Nat}(h:Kept (. =k) a b) (o:Nat) (v:Value):Kept (. =k) a (b.setCell ⟨k,o,none⟩ v):=h.setCell (.inl rfl) v
theorem drew (h:Kept S a b):Kept S a b.drew:=⟨h.os,h.tape,h.output,h.size,h.block⟩
theorem of_below (h:Below a.heap.size a b):Kept S a b:=⟨h.os,h.tape,h.output,h.size,λk hk _=>h.block k hk⟩
theorem below (h:Kept S a b) {B:Nat}(hB:B<=a.heap.size) (hS:∀k,S k->B<=k):Below B a b:=
 ⟨h.os,h.tape,h.output,h.size,λk hk=>h.block k Za (λx=>by have:=hS k x;omega)⟩
theorem cell (h:Kept S a b) {k o:Nat}(hk:k<a.heap.size) (hn:¬S k):b.cell? ⟨k,o,none⟩=a.cell? ⟨k,o,none⟩:=
 World.cell?_of_block (w:=a) (h.block k hk hn)
end Kept
def Blk (w:World) (b:Nat) (C:List Value) (t:TypeId):Prop:=w.heap[b]?=some (.cells C.toArray t (0,0))
namespace Blk
variable {w w':World}{b:Nat}{C:List Value}{t:TypeId}
theorem lt (h:Blk w b C t):b<w.heap.size:=(Array.getElem?_eq_some_iff.1 h).1
theorem cell (h:Blk w b C t) (i:Nat):w.cell? ⟨b,i,none⟩=C[i]?:=by unfold Blk at h;simp[World.cell?,h]
theorem frozen (h:Blk w b C t) (i:Nat):w.frozen? ⟨b,i,none⟩=false:=by unfold Blk at h;simp[World.frozen?,h]
theorem set (h:Blk w b C t) (i:Nat) (v:Value):Blk (w.setCell ⟨b,i,none⟩ v) b (C.set i v) t:=by
 unfold Blk at h ⊢
 simp[World.setCell,Zb7,h]
theorem new (w:World) (C:List Value) (t:TypeId):Blk (w.alloc (.cells C.toArray t)) w.heap.size C t:=by
 show (w.heap.push _)[w.heap.size]?=_
 simp
end Blk
def spl (C:List Value) (o:Nat) (vs:List Value):List Value:=C.take o++vs++C.drop (o+vs.length)
theorem XE (C:List Value) (o:Nat) (vs:List Value) (h:o+vs.length<=C.length):(spl C o vs).length=C.length:=by
 unfold spl;simp;omega
def setBlk (w:World) (b:Nat) (C:List Value):World:=w.setRow b C.toArray
theorem Blk.setBlk {w:World}{b:Nat}{C:List Value}{t:TypeId}(h:Blk w b C t) (C':List Value):Blk (setBlk w b C') b C' t:=by
 unfold Blk at h ⊢
 unfold Proofs.YtlafaaeecnifcaaGreatDoor.setBlk ZdH
 simp[Zb7,h]
theorem Qjj (w:World) (b:Nat) (C:List Value) (k:Nat) (h:k≠b):(setBlk w b C).heap[k]?=w.heap[k]?:=by
 unfold setBlk ZdH
 simp only[Zb7]
 rw[Ze Za]
theorem Qji (w:World) (b:Nat) (C:List Value):(setBlk w b C).heap.size=w.heap.size:=by
 unfold setBlk ZdH;simp
theorem Kept.setBlk (w:World) (b:Nat) (C:List Value):Kept (. =b) w (setBlk w b C):=
 ⟨rfl,rfl,rfl,by rw[Qji];exact Zq _,λk _ hn=>Qjj w b C k hn⟩
section
variable {P:Program}
theorem Qff (w:World) (b:Nat) (C:List Value) (t ty:TypeId) (o n:Nat) (d:TypeDesc) (hB:Blk w b C t) (hfit:o+n<=C.length)
 (hu:P.underlying ty=some d) (hd:(match d with | .struct _ | .array _ _=>true|_=>false)=true) (hi:(P.info? ty).map (·.size)=some n):
 (loadVar ty ⟨b,o,none⟩).run P w=.ok (.agg ((C.drop o).take n).toArray) w:=by
 have hlen:((C.drop o).take n).length=n:=by simp;omega
 have hl:=run_loadCells_list (P:=P) w ⟨b,o,none⟩ ((C.drop o).take n) (λj v hv=>by
  have hadd:(⟨b,o,none⟩:Addr).add j=⟨b,o+j,none⟩:=by unfold Zce;split<;>simp_all
  have hj:j<n:=by
   rcases Yy j n with h|h
   . exact h
   . rw[ZU Za]at hv;cases hv
  rw[hadd,hB.cell (o+j)]
  rw[ZO,Zf hj,YL]at hv
  exact hv)
 rw[hlen]at hl
 cases hq:P.info? ty with
 |none=>simp[hq]at hi
 |some i=>
  have hs:i.size=n:=by simpa [hq] using hi
  have hagg:(isAgg ty).run P w=.ok true w:=by
   unfold isAgg
   rw[Zx,run_underlying hu w]
   cases d<;>simp_all
  simp[loadVar,Zx,hagg,sizeOf,typeInfo,hq,hs,hl]
theorem Qez (w:World) (b:Nat) (C:List Value) (t ty:TypeId) (o n:Nat) (vs:List Value) (hB:Blk w b C t) (hn:vs.length=n) (hfit:o+n<=C.length)
 (hi:(P.info? ty).map (·.size)=some n) (h1:∀v∈vs,v.oneCell'=true):
 (storeVar ty ⟨b,o,none⟩ (.agg vs.toArray)).run P w=.ok () (setBlk w b (spl C o vs)):=by
 have hst:=run_storeCells_at P b o t vs 0 C.toArray w hB (by simpa [hn] using hfit) h1
 cases hq:P.info? ty with
 |none=>simp[hq]at hi
 |some i=>
  have hs:i.size=n:=by simpa [hq] using hi
  simp only[Yu]at hst
  simp[storeVar,sizeOf,typeInfo,hq,Zad,hs,hn,hst,setBlk,spl]
end
def Rws (n:Nat) (ks:Nat->IntKind) (w:World) (a:Option Addr) (len cap:Nat) (f:Nat->Nat->Int):Prop:=
 len<=cap/\cap<=9223372036854775807/\(len=0\/∃b off,a=some ⟨b,off,none⟩/\b<w.heap.size/\∀j,j<len->∀i,i<n ->
  w.cell? ⟨b,off+j*n+i,none⟩=some (.int (ks i) (f j i))/\True)
theorem Rws.below {n:Nat}{ks:Nat->IntKind}{w w':World}{a:Option Addr}{len cap:Nat}{f:Nat->Nat->Int}(h:Rws n ks w a len cap f) (k:Below w.heap.size w w'):Rws n ks w' a len cap f:=by
 obtain⟨h1,h2,h3⟩:=h
 refine⟨h1,h2,?_⟩
 rcases h3 with h3|⟨b,off,rfl,hb,hc⟩
 . exact .inl h3
 . refine .inr ⟨b,off,rfl,Zbe hb k.size,λj hj i hi=>?_⟩
   obtain⟨c,d⟩:=hc j hj i hi
   exact⟨by rw[k.cell (p:=⟨b,off+j*n+i,none⟩) hb];exact c,d⟩
theorem Rws.at {n:Nat}{ks:Nat->IntKind}{w:World}{a:Option Addr}{len cap:Nat}{f:Nat->Nat->Int}(h:Rws n ks w a len cap f) (j:Nat) (hj:j<len):
 ∃b off,a=some ⟨b,off,none⟩/\b<w.heap.size/\∀i,i<n->w.cell? ⟨b,off+j*n+i,none⟩=some (.int (ks i) (f j i))/\True:=by
 obtain⟨-,-,h3⟩:=h
 rcases h3 with h3|⟨b,off,rfl,hb,hc⟩
 . omega
 . exact⟨b,off,rfl,hb,hc j hj⟩
def OldOk (V w0:World) (S:Nat->Prop):Prop:=∀sz ks a m c z w,Rws sz ks V a m c z->Kept S w0 w->Rws sz ks w a m c z
theorem OldOk.self (w:World):OldOk w w (λ_=>False):=λsz ks a m c z w' h k=>h.below (k.below (Zq _) (λ_ h=>h.elim))
end
section
open Go.RowKit
structure Abs where
 hold:Nat->List Nat->World->Prop
 lt:∀b F w,hold b F w->∀g∈F,g<w.heap.size
 keep:∀b F w w',hold b F w->w.heap.size<=w'.heap.size->(∀g∈F,w'.heap[g]?=w.heap[g]?)->hold b F w'
inductive En where
 |blk (b:Nat) (C:List Value) (t:TypeId)
 |row (b:Nat) (t:TypeId) (sz n c:Nat) (xs:List Value)
 |obj (b:Nat) (o:Obj)
 |abs (b:Nat) (A:Abs) (F:List Nat)
def RowAt (w:World) (b:Nat) (t:TypeId) (sz n c:Nat) (xs:List Value):Prop:=
 n<=c/\xs.length=n*sz/\(0<c->∃C,Blk w b C t/\C.length=c*sz/\C.take (n*sz)=xs/\c<=maxLen)
def En.at:En->World->Prop
 |.blk b C t,w=>Blk w b C t
 |.row b t sz n c xs,w=>RowAt w b t sz n c xs
 |.obj b o,w=>w.heap[b]?=some o
 |.abs b A F,w=>A.hold b F w
def En.foot:En->Nat->Prop
 |.blk b _ _,g=>b=g
 |.row b _ _ _ c _,g=>0<c/\b=g
 |.obj b _,g=>b=g
 |.abs _ _ F,g=>g∈F
def Apart (e f:En):Prop:=∀g,e.foot g->¬f.foot g
theorem Apart.symm {e f:En}(h:Apart e f):Apart f e:=λg hf he=>h g he hf
def feet (L:List En) (g:Nat):Prop:=∃e∈L,e.foot g
structure Mem (w0:World) (S:Nat->Prop) (M:List En) (w:World):Prop where
 kept:Kept S w0 w
 holds:∀e∈M,e.at w
 own:∀e∈M,∀g,e.foot g->S g\/w0.heap.size<=g
 dist:M.Pairwise Apart
theorem En.at.keeps {w w':World}{e:En}(h:e.at w) (hs:w.heap.size<=w'.heap.size) (hb:∀g,e.foot g->w'.heap[g]?=w.heap[g]?):e.at w':=by
 cases e with
 |blk b C t=>exact (hb b rfl).trans h
 |row b t sz n c xs=>
  exact⟨h.1,h.2.1,λhc=>let ⟨C,h1,h2⟩:=h.2.2 hc;⟨C,(hb b ⟨hc,rfl⟩).trans h1,h2⟩⟩
 |obj b o=>exact (hb b rfl).trans h
 |abs b A F=>exact A.keep b F w w' h hs (λg hg=>hb g hg)
theorem En.at.lt {w:World}{e:En}(h:e.at w) {g:Nat}(hg:e.foot g):g<w.heap.size:=by
 cases e with
 |blk b C t=>obtain rfl:b=g:=hg
             exact Blk.lt h
 |row b t sz n c xs=>
  obtain⟨hc,rfl⟩:=hg
  obtain⟨C,h1,h2⟩:=h.2.2 hc
  exact Blk.lt h1
 |obj b o=>
  obtain rfl:b=g:=hg
  exact (Array.getElem?_eq_some_iff.1 h).1
 |abs b A F=>exact A.lt b F w h g hg
theorem En.at.kept {w w':World}{S:Nat->Prop}{e:En}(h:e.at w) (k:Kept S w w') (hn:∀g,e.foot g->¬S g):e.at w':=
 h.keeps k.size (λg hg=>k.block g (h.lt hg) (hn g hg))
namespace Mem
variable {w0 w w':World}{S:Nat->Prop}{M L L' E:List En}
theorem start (w:World):Mem w (λ_=>False) [] w:=⟨Kept.refl _ _,by simp,by simp,Zal⟩
theorem below (h:Mem w0 (λ_=>False) M w):Below w0.heap.size w0 w:=h.kept.below (Zq _) (λ_ h=>h.elim)
theorem perm {M':List En}(h:Mem w0 S M w) (p:M.Perm M'):Mem w0 S M' w:=
 ⟨h.kept,λe he=>h.holds e (p.symm.subset he),λe he=>h.own e (p.symm.subset he),p.pairwise h.dist (λhh=>hh.symm)⟩
theorem sub (h:Mem w0 S M w) {M':List En}(hs:M'.Sublist M):Mem w0 S M' w:=
 ⟨h.kept,λe he=>h.holds e (hs.subset he),λe he=>h.own e (hs.subset he),h.dist.sublist hs⟩
theorem self (h:Mem w0 S M w):Mem w (feet M) M w:=⟨Kept.refl _ _,h.holds,λe he g hg=>.inl ⟨e,he,hg⟩,h.dist⟩
theorem subset (h:Mem w0 S M w) {S':Nat->Prop}(hs:∀g,S g->S' g):Mem w0 S' M w:=
 ⟨h.kept.mono hs,h.holds,λe he g hg=>(h.own e he g hg).imp (hs g) id,h.dist⟩
theorem swap (h:Mem w0 S M w) (p:M.Perm (L++E)) (k:Mem w (feet L) L' w'):Mem w0 S (L'++E) w':=by
 have h:=h.perm p
 have hd:=List.pairwise_append.1 h.dist
 have hfS:∀g,feet L g->S g\/w0.heap.size<=g:=λg ⟨e,he,hg⟩=>h.own e (Yc _ he) g hg
 refine⟨⟨k.kept.os.trans h.kept.os,k.kept.tape.trans h.kept.tape,k.kept.output.trans h.kept.output,ZV h.kept.size k.kept.size,λi hi hn=>?_⟩,λe he=>?_,λe he g hg=>?_,List.pairwise_append.2 ⟨k.dist,hd.2.1,λe he f hf g hg hfg=>?_⟩⟩
 . rw[k.kept.block i (Zbe hi h.kept.size) (λhl=>by rcases hfS i hl with h1|h1;exact hn h1;omega)]
   exact h.kept.block i hi hn
 . rcases List.mem_append.1 he with he|he
   . exact k.holds e he
   . exact (h.holds e (Z0 _ he)).kept k.kept (λg hg ⟨f,hf,hfg⟩=>hd.2.2 f hf e he g hfg hg)
 . rcases List.mem_append.1 he with he|he
   . rcases k.own e he g hg with h1|h1
     . exact hfS g h1
     . exact .inr (ZV h.kept.size h1)
   . exact h.own e (Z0 _ he) g hg
 . rcases k.own e he g hg with⟨f',hf',hfg'⟩|h1
   . exact hd.2.2 f' hf' f hf g hfg' hfg
   . have:=(h.holds f (Z0 _ hf)).lt hfg
     omega
theorem drew (h:Mem w0 S M w):Mem w0 S M w.drew:=⟨h.kept.drew,λe he=>(h.holds e he).keeps (Zq _) (λ_ _=>rfl),h.own,h.dist⟩
end Mem
theorem Mem.one {w w':World}{S:Nat->Prop}{e:En}(k:Kept S w w') (he:e.at w') (hf:∀g,e.foot g->S g\/w.heap.size<=g):Mem w S [e] w':=
 ⟨k,λx hx=>by rw[Y0]at hx;subst hx;exact he,λx hx=>by rw[Y0]at hx;subst hx;exact hf,YB _ _⟩
theorem Mem.alloc (w:World) (C:List Value) (t:TypeId):Mem w (λ_=>False) [.blk w.heap.size C t] (w.alloc (.cells C.toArray t)):=
 .one ((Kept.refl _ w).alloc _) (Blk.new w C t) (λg hg=>.inr (Zae hg))
def Qhe (P:Program) (ty:TypeId):Bool:=match P.underlying ty with
 |some (.struct _)|some (.array _ _)|none=>false
 |_=>true
def oneB (P:Program) (ty:TypeId):Bool:=(P.info? ty).map (·.size)==some 1
section
variable {P:Program}{w:World}
theorem QfJ (ty:TypeId) (h:Qhe P ty=true):(isAgg ty).run P w=.ok false w:=by
 unfold Qhe at h
 cases hu:P.underlying ty with
 |none=>rw[hu]at h;cases h
 |some d=>
  rw[hu]at h
  unfold isAgg
  rw[Zx,run_underlying hu w]
  cases d<;>simp_all
theorem Qfg (ty:TypeId) (h:Qhe P ty=true) (p:Addr) (v:Value) (hc:w.cell? p=some v):(loadVar ty p).run P w=.ok v w:=by
 simp[loadVar,Zx,QfJ ty h,load,ZbX,hc]
theorem QeA (ty:TypeId) (h:oneB P ty=true) (p:Addr) (v u:Value) (h1:v.oneCell'=true) (hc:w.cell? p=some u) (hf:w.frozen? p=false):(storeVar ty p v).run P w=.ok () (w.setCell p v):=by
 unfold oneB at h
 cases hq:P.info? ty with
 |none=>rw[hq]at h;cases h
 |some i=>
  have hs:i.size=1:=by rw[hq]at h;simpa using h
  have hcs:v.cells= #[v]:=by cases v<;>simp_all [Zad,Zcr]
  have hadd:p.add 0=p:=rfl
  cases v<;>simp_all [storeVar,sizeOf,typeInfo,Zad,storeCells,store,ZbX,Zcr,Zx]
end
end
section
open Go.RowKit
inductive CK where
 |int (k:IntKind)
 |bool
def mkV:CK->Int->Value
 |.int k,z=>.int k z
 |.bool,z=>.bool (!(z==0))
theorem QdD (k:CK) (z:Int):(mkV k z).oneCell'=true:=by cases k<;>rfl
def ikN:IntKind->Nat
 |.i8=>0 | .i16=>1 | .i32=>2 | .i64=>3 | .u8=>4 | .u16=>5 | .u32=>6 | .u64=>7
theorem QdF {a b:IntKind}(h:(ikN a).beq (ikN b)=true):a=b:=by
 cases a<;>cases b<;>first|rfl|(revert h;decide)
def ckN:CK->Nat
 |.int k=>ikN k
 |.bool=>8
theorem QhU {a b:CK}(h:(ckN a).beq (ckN b)=true):a=b:=by
 cases a with
 |bool=>cases b with
  |bool=>rfl
  |int k=>cases k<;>exact absurd h Zb
 |int k=>cases b with
  |bool=>cases k<;>exact absurd h Zb
  |int k'=>rw[QdF h]
def valI:CK->Value->Option Int
 |.int k,.int k' z=>bif (ikN k).beq (ikN k')then some z else none
 |.bool,.bool b=>some (bif b then 1 else 0)
 |_,_=>none
theorem Qdu {k:CK}{v:Value}{z:Int}(h:valI k v=some z):mkV k z=v:=by
 unfold valI at h
 split at h
 . rename_i k k' y
   cases hk:(ikN k).beq (ikN k')
   . rw[hk]at h;cases h
   . rw[hk]at h
     have:=QdF hk
     subst this
     simp only[cond_true,Zn]at h;subst h;rfl
 . rename_i b
   simp only[Zn]at h;subst h
   cases b<;>rfl
 . cases h
inductive SC where
 |v (x:Value)
 |p (b off:Nat)
 |e (b off ix:Nat)
 |s (b off n c:Nat)
 |i (t b off:Nat)
 |r (a:Option Addr) (n c m sz:Nat) (ks:Nat->IntKind) (z:Nat->Nat->Int)
 |re (a:Option Addr) (c m sz:Nat) (ks:Nat->IntKind) (z:Nat->Nat->Int) (i f:Nat)
 |o (b n c:Nat)
 |er (b sz ix f:Nat)
 |so (b lo sz n c:Nat) (nn:Bool)
 |fn (f:FuncId) (cs:List (Nat × Nat))
 |m (b:Nat)
 |q (c:Bool) (t:TypeId) (x:Value)
def Qcn (a:Option Addr) (o:Nat):Option Addr:=match a with
 |some p=>some ⟨p.block,p.off+o,none⟩
 |none=>none
def SC.den (ρ:Nat->Nat):SC->Value
 |.v x=>x
 |.p b off=>.pointer (some ⟨ρ b,off,none⟩)
 |.e b off ix=>.pointer (some ⟨ρ b,off+ix,none⟩)
 |.s b off n c=>.slice (some ⟨ρ b,off,none⟩) n c
 |.i t b off=>.iface t (.pointer (some ⟨ρ b,off,none⟩))
 |.r a n c _ _ _ _=>.slice a n c
 |.re a _ _ sz _ _ j g=>.pointer (Qcn a (j*sz+g))
 |.o b n c=>bif c.beq 0 then .slice none 0 0 else .slice (some ⟨ρ b,0,none⟩) n c
 |.er b sz ix f=>.pointer (some ⟨ρ b,ix*sz+f,none⟩)
 |.so b lo sz n c nn=>bif c.beq 0 && !nn then .slice none 0 0 else .slice (some ⟨ρ b,bif (c-lo).beq 0 then 0 else lo*sz,none⟩) n (c-lo)
 |.fn f cs=>.func (.func f) #[] (cs.map λp=>.pointer (some ⟨ρ p.1,p.2,none⟩)).toArray
 |.m b=>.map (some (ρ b))
 |.q c t x=>bif c then .iface t x else .nilIface
def SC.ok:SC->Bool
 |.v x=>x.oneCell'
 |_=>true
theorem SC.ok_den {x:SC}(h:x.ok=true) (ρ:Nat->Nat):(x.den ρ).oneCell'=true:=by
 cases x with
 |v x=>exact h
 |o b n c=>simp only[SC.den];cases c.beq 0<;>rfl
 |so b lo sz n c nn=>simp only[SC.den];cases (c.beq 0 && !nn)<;>rfl
 |q c t x=>cases c<;>rfl
 |_=>rfl
inductive Seg where
 |one (x:SC)
 |ints (k:CK) (n:Nat) (f:Nat->Int)
def Seg.len:Seg->Nat
 |.one _=>1
 |.ints _ n _=>n
def Seg.ok:Seg->Bool
 |.one x=>x.ok
 |.ints _ _ _=>true
def Seg.den (ρ:Nat->Nat):Seg->List Value
 |.one x=>[x.den ρ]
 |.ints k n f=>(Z2 n).map λi=>mkV k (f i)
def Qh (ρ:Nat->Nat):List Seg->List Value
 |[]=>[]
 |s::r=>s.den ρ++Qh ρ r
def Qq:List Seg->Nat
 |[]=>0
 |s::r=>s.len+Qq r
def Qdo:List Seg->Bool
 |[]=>true
 |s::r=>s.ok&&Qdo r
theorem Seg.den_len (ρ:Nat->Nat) (s:Seg):(s.den ρ).length=s.len:=by cases s<;>simp[Seg.den,Seg.len]
theorem Qt (ρ:Nat->Nat) (l:List Seg):(Qh ρ l).length=Qq l:=by
 induction l with
 |nil=>rfl
 |cons s r ih=>simp[Qh,Qq,ih,Seg.den_len]
theorem Qgp (ρ:Nat->Nat) (l m:List Seg):Qh ρ (l++m)=Qh ρ l++Qh ρ m:=by
 induction l with
 |nil=>rfl
 |cons s r ih=>simp[Qh,ih]
theorem Qdx {ρ:Nat->Nat}:∀ {l:List Seg},Qdo l=true->∀v∈Qh ρ l,v.oneCell'=true
 |[],_,v,hv=>by simp[Qh]at hv
 |s::r,h,v,hv=>by
  simp only[Qdo,Zr]at h
  simp only[Qh,Za0]at hv
  rcases hv with hv|hv
  . cases s with
    |one x=>simp only[Seg.den,Y0]at hv;subst hv;exact SC.ok_den h.1 ρ
    |ints k n f=>
     simp only[Seg.den,ZbD]at hv
     obtain⟨i,-,rfl⟩:=hv;exact QdD _ _
  . exact Qdx h.2 v hv
def upd (f:Nat->Int) (o:Nat) (z:Int):Nat->Int:=λi=>bif i.beq o then z else f i
def segGet:List Seg->Nat->Option SC
 |[],_=>none
 |.one x::_,0=>some x
 |.one _::r,o+1=>segGet r o
 |.ints k n f::r,o=>bif o.blt n then some (.v (mkV k (f o)))else segGet r (o-n)
theorem Xv {a b:Nat}(h:a.blt b=true):a<b:=by simpa [ZbR] using h
theorem Qsc {a b:Nat}(h:a.blt b=false):b<=a:=by
 rcases Yy a b with h1|h1
 . rw[show a.blt b=true by simpa [ZbR] using h1]at h;cases h
 . exact h1
theorem XZ {a b:Nat}(h:a.ble b=true):a<=b:=Zao h
theorem Qsd {a b:Nat}(h:a.ble b=false):b<a:=by
 rcases Yy b a with h1|h1
 . exact h1
 . rw[Ys h1]at h;cases h
theorem nbeq {a b:Nat}(h:a≠b):a.beq b=false:=by
 cases hb:a.beq b
 . rfl
 . exact absurd (Zo hb) h
theorem QaS {a b:Nat}(h:a<b):a.blt b=true:=by simpa [ZbR] using h
theorem blt_ff {a b:Nat}(h:b<=a):a.blt b=false:=by
 cases hb:a.blt b
 . rfl
 . have:=Xv hb;omega
theorem Qi0 {a b:Nat}(h:a<=b):a.ble b=true:=Ys h
theorem Qov {a b:Nat}(h:b<a):a.ble b=false:=by
 cases hb:a.ble b
 . rfl
 . have:=XZ hb;omega
theorem Qas (k:CK) (n:Nat) (f:Nat->Int) (i:Nat) (h:i<n):((Z2 n).map λi=>mkV k (f i))[i]?=some (mkV k (f i)):=by
 simp[Ya,Y4 h]
theorem Qa9 (ρ:Nat->Nat):∀(l:List Seg) (o:Nat) (x:SC),segGet l o=some x->(Qh ρ l)[o]?=some (x.den ρ)
 |[],_,_,h=>by simp[segGet]at h
 |.one y::r,0,x,h=>by
  simp only[segGet,Zn]at h;subst h;rfl
 |.one y::r,o+1,x,h=>by
  simp only[segGet]at h
  simpa [Qh,Seg.den] using Qa9 ρ r o x h
 |.ints k n f::r,o,x,h=>by
  simp only[segGet]at h
  simp only[Qh,Seg.den]
  cases hb:o.blt n
  . rw[hb]at h
    have h1:=Qsc hb
    have:=Qa9 ρ r (o-n) x h
    rw[Z8 (by simpa using h1)]
    simpa using this
  . rw[hb]at h
    have h1:=Xv hb
    simp only[cond_true,Zn]at h;subst h
    rw[Z5 (by simpa using h1),Qas _ _ _ _ h1];rfl
def QR:List Seg->Nat->Option (CK × Nat × (Nat->Int))
 |[],_=>none
 |.one _::_,0=>none
 |.one _::r,o+1=>QR r o
 |.ints k n f::r,o=>bif o.beq 0 then some (k,n,f)else bif n.ble o then QR r (o-n)else none
theorem Qbj (ρ:Nat->Nat):∀(l:List Seg) (o:Nat) (k:CK) (n:Nat) (f:Nat->Int),QR l o=some (k,n,f)->∀i,i<n->(Qh ρ l)[o+i]?=some (mkV k (f i))
 |[],_,_,_,_,h=>by simp[QR]at h
 |.one y::r,0,_,_,_,h=>by simp[QR]at h
 |.one y::r,o+1,k,n,f,h=>by
  intro i hi
  simp only[QR]at h
  have:=Qbj ρ r o k n f h i hi
  rw[show o+1+i=(o+i)+1 by omega]
  simpa [Qh,Seg.den] using this
 |.ints k' n' f'::r,o,k,n,f,h=>by
  intro i hi
  simp only[QR]at h
  simp only[Qh,Seg.den]
  cases hb:o.beq 0
  . rw[hb]at h
    simp only[cond_false]at h
    cases hc:n'.ble o
    . rw[hc]at h;simp at h
    . rw[hc]at h
      have h1:=XZ hc
      have:=Qbj ρ r (o-n') k n f h i hi
      rw[Z8 (by simp;omega)]
      rw[ZN,YJ,show o+i-n'=o-n'+i by omega];exact this
  . rw[hb]at h
    have:o=0:=Zo hb
    subst this
    simp only[cond_true,Zn,ZT]at h
    obtain⟨rfl,rfl,rfl⟩:=h
    rw[Zu,Z5 (by simpa using hi),Qas _ _ _ _ hi]
def Qap:List Seg->Nat->SC->Option (List Seg)
 |[],_,_=>none
 |.one _::r,0,x=>some (.one x::r)
 |.one y::r,o+1,x=>match Qap r o x with
  |some r'=>some (.one y::r')
  |none=>none
 |.ints k n f::r,o,x=>bif o.blt n then (match x with
  |.v u=>(match valI k u with
   |some z=>some (.ints k n (upd f o z)::r)
   |none=>none)
  |_=>none)
  else match Qap r (o-n) x with
   |some r'=>some (.ints k n f::r')
   |none=>none
theorem Qh3 (k:CK) (n:Nat) (f:Nat->Int) (o:Nat) (z:Int):((Z2 n).map λi=>mkV k (f i)).set o (mkV k z)=(Z2 n).map λi=>mkV k (upd f o z i):=by
 apply YX
 intro i
 by_cases hi:i<n
 . rw[Qas _ _ _ _ hi]
   by_cases h:o=i
   . subst h
     rw[List.getElem?_set_self (by simpa using hi)];simp[upd]
   . rw[List.getElem?_set_ne h,Qas _ _ _ _ hi]
     simp only[upd]
     rw[show i.beq o=false by
      cases hb:i.beq o
      . rfl
      . exact absurd (Zo hb).symm h]
     rfl
 . rw[ZU (by simp;omega),ZU (by simp;omega)]
theorem QbO (ρ:Nat->Nat):∀(l:List Seg) (o:Nat) (x:SC) (l':List Seg),Qap l o x=some l'->(Qh ρ l).set o (x.den ρ)=Qh ρ l'/\o<Qq l
 |[],_,_,_,h=>by simp[Qap]at h
 |.one y::r,0,x,l',h=>by
  simp only[Qap,Zn]at h;subst h
  exact⟨rfl,by simp only[Qq,Seg.len];omega⟩
 |.one y::r,o+1,x,l',h=>by
  simp only[Qap]at h
  cases h1:Qap r o x with
  |none=>rw[h1]at h;cases h
  |some r'=>
   rw[h1]at h
   simp only[Zn]at h;subst h
   have:=QbO ρ r o x r' h1
   exact⟨by simpa [Qh,Seg.den] using this.1,by simp only[Qq,Seg.len];omega⟩
 |.ints k n f::r,o,x,l',h=>by
  simp only[Qap]at h
  cases hb:o.blt n
  . rw[hb]at h
    have hle:=Qsc hb
    simp only[cond_false]at h
    cases h1:Qap r (o-n) x with
    |none=>rw[h1]at h;cases h
    |some r'=>
     rw[h1]at h
     simp only[Zn]at h;subst h
     have:=QbO ρ r (o-n) x r' h1
     refine⟨?_,by simp only[Qq,Seg.len];omega⟩
     simp only[Qh,Seg.den]
     rw[Zc5 _ _ (by simpa using hle)]
     simp only[ZN,YJ]
     rw[this.1]
  . rw[hb]at h
    have hlt:=Xv hb
    simp only[cond_true]at h
    split at h
    . rename_i u
      cases hk:valI k u with
      |none=>rw[hk]at h;cases h
      |some z=>
       rw[hk]at h
       simp only[Zn]at h;subst h
       refine⟨?_,by simp only[Qq,Seg.len];omega⟩
       simp only[Qh,Seg.den,SC.den]
       rw[<- Qdu hk,Zda _ _ (by simpa using hlt),Qh3]
    . cases h
def Qcf:List Seg->Nat->Nat->Int->Option (List Seg)
 |[],_,_,_=>none
 |.one _::_,0,_,_=>none
 |.one y::r,o+1,i,z=>match Qcf r o i z with
  |some r'=>some (.one y::r')
  |none=>none
 |.ints k n f::r,o,i,z=>bif o.beq 0 then some (.ints k n (upd f i z)::r)else bif n.ble o then (match Qcf r (o-n) i z with
  |some r'=>some (.ints k n f::r')
  |none=>none)else none
theorem Qdy (ρ:Nat->Nat):∀(l:List Seg) (o i:Nat) (z:Int) (l':List Seg) (k:CK) (n:Nat) (f:Nat->Int),QR l o=some (k,n,f)->i<n->Qcf l o i z=some l'->(Qh ρ l).set (o+i) (mkV k z)=Qh ρ l'/\o+i<Qq l
 |[],_,_,_,_,_,_,_,h,_,_=>by simp[QR]at h
 |.one y::r,0,_,_,_,_,_,_,h,_,_=>by simp[QR]at h
 |.one y::r,o+1,i,z,l',k,n,f,h,hi,h2=>by
  simp only[QR]at h
  simp only[Qcf]at h2
  cases h1:Qcf r o i z with
  |none=>rw[h1]at h2;cases h2
  |some r'=>
   rw[h1]at h2
   simp only[Zn]at h2;subst h2
   have:=Qdy ρ r o i z r' k n f h hi h1
   rw[show o+1+i=(o+i)+1 by omega]
   exact⟨by simpa [Qh,Seg.den] using this.1,by simp only[Qq,Seg.len];omega⟩
 |.ints k' n' f'::r,o,i,z,l',k,n,f,h,hi,h2=>by
  simp only[QR]at h
  simp only[Qcf]at h2
  simp only[Qh,Seg.den,Qq,Seg.len]
  cases hb:o.beq 0
  . rw[hb]at h h2
    simp only[cond_false]at h h2
    cases hc:n'.ble o
    . rw[hc]at h;simp at h
    . rw[hc]at h h2
      simp only[cond_true]at h h2
      have hle:=XZ hc
      cases h1:Qcf r (o-n') i z with
      |none=>rw[h1]at h2;cases h2
      |some r'=>
       rw[h1]at h2
       simp only[Zn]at h2;subst h2
       have:=Qdy ρ r (o-n') i z r' k n f h hi h1
       refine⟨?_,Za⟩
       rw[Zc5 _ _ (by simp;omega)]
       simp only[ZN,YJ,Qh,Seg.den]
       rw[show o+i-n'=o-n'+i by omega,this.1]
  . rw[hb]at h h2
    have:o=0:=Zo hb
    subst this
    simp only[cond_true,Zn,ZT]at h h2
    obtain⟨rfl,rfl,rfl⟩:=h
    subst h2
    refine⟨?_,Za⟩
    rw[Zu,Zda _ _ (by simpa using hi),Qh3]
    rfl
theorem Qc0:∀(l:List Seg) (o:Nat) (k:CK) (n:Nat) (f:Nat->Int),QR l o=some (k,n,f)->o+n<=Qq l
 |[],_,_,_,_,h=>by simp[QR]at h
 |.one y::r,0,_,_,_,h=>by simp[QR]at h
 |.one y::r,o+1,k,n,f,h=>by
  simp only[QR]at h
  have:=Qc0 r o k n f h
  simp only[Qq,Seg.len];omega
 |.ints k' n' f'::r,o,k,n,f,h=>by
  simp only[QR]at h
  simp only[Qq,Seg.len]
  cases hb:o.beq 0
  . rw[hb]at h
    simp only[cond_false]at h
    cases hc:n'.ble o
    . rw[hc]at h;simp at h
    . rw[hc]at h
      have h1:=XZ hc
      have:=Qc0 r (o-n') k n f h
      omega
  . rw[hb]at h
    have:o=0:=Zo hb
    subst this
    simp only[cond_true,Zn,ZT]at h
    obtain⟨rfl,rfl,rfl⟩:=h
    omega
def Qcg:List Seg->Nat->(Nat->Int)->Option (List Seg)
 |[],_,_=>none
 |.one _::_,0,_=>none
 |.one y::r,o+1,g=>match Qcg r o g with
  |some r'=>some (.one y::r')
  |none=>none
 |.ints k n f::r,o,g=>bif o.beq 0 then some (.ints k n g::r)else bif n.ble o then (match Qcg r (o-n) g with
  |some r'=>some (.ints k n f::r')
  |none=>none)else none
theorem Qdz (ρ:Nat->Nat):∀(l:List Seg) (o:Nat) (g:Nat->Int) (l':List Seg) (k:CK) (n:Nat) (f:Nat->Int),QR l o=some (k,n,f)->Qcg l o g=some l' ->
 Qh ρ l'=(Qh ρ l).take o++((Z2 n).map λi=>mkV k (g i))++(Qh ρ l).drop (o+n)
 |[],_,_,_,_,_,_,h,_=>by simp[QR]at h
 |.one y::r,0,_,_,_,_,_,h,_=>by simp[QR]at h
 |.one y::r,o+1,g,l',k,n,f,h,h2=>by
  simp only[QR]at h
  simp only[Qcg]at h2
  cases h1:Qcg r o g with
  |none=>rw[h1]at h2;cases h2
  |some r'=>
   rw[h1]at h2
   simp only[Zn]at h2;subst h2
   have:=Qdz ρ r o g r' k n f h h1
   simp only[Qh,Seg.den,this,YA,ZbK,show o+1+n=(o+n)+1 by omega,Zck,Ym]
 |.ints k' n' f'::r,o,g,l',k,n,f,h,h2=>by
  simp only[QR]at h
  simp only[Qcg]at h2
  cases hb:o.beq 0
  . rw[hb]at h h2
    simp only[cond_false]at h h2
    cases hc:n'.ble o
    . rw[hc]at h;simp at h
    . rw[hc]at h h2
      simp only[cond_true]at h h2
      have hle:=XZ hc
      cases h1:Qcg r (o-n') g with
      |none=>rw[h1]at h2;cases h2
      |some r'=>
       rw[h1]at h2
       simp only[Zn]at h2;subst h2
       have:=Qdz ρ r (o-n') g r' k n f h h1
       simp only[Qh,Seg.den,this]
       rw[ZcR,Yn (l:=(Z2 n').map _) (by simpa using hle),ZbE,YY (l:=(Z2 n').map _) (by simp;omega)]
       simp only[ZN,YJ,YA,Yb,show o+n-n'=o-n'+n by omega]
  . rw[hb]at h h2
    have:o=0:=Zo hb
    subst this
    simp only[cond_true,Zn,ZT]at h h2
    obtain⟨rfl,rfl,rfl⟩:=h
    subst h2
    simp only[Qh,Seg.den,ZbZ,YA,Zu]
    rw[ZbE,YY (l:=(Z2 n').map _) (by simp)]
    simp
def segSub:List Seg->Nat->Nat->Option (List Seg)
 |_,_,0=>some []
 |[],_,_+1=>none
 |.one x::r,0,m+1=>match segSub r 0 m with
  |some r'=>some (.one x::r')
  |none=>none
 |.one _::r,o+1,m+1=>segSub r o (m+1)
 |.ints k n f::r,o,m+1=>bif n.ble o then segSub r (o-n) (m+1)
  else bif (o+(m+1)).ble n then some [.ints k (m+1) (bif o.beq 0 then f else λi=>f (o+i))]
  else bif o.beq 0 then (match segSub r 0 (m+1-n)with
   |some r'=>some (.ints k n f::r')
   |none=>none)else none
theorem Qh8 (k:CK) (n m o:Nat) (f:Nat->Int) (h:o+m<=n):(((Z2 n).map λi=>mkV k (f i)).drop o).take m=(Z2 m).map λi=>mkV k (f (o+i)):=by
 apply YX
 intro i
 by_cases hi:i<m
 . rw[Za6 hi,YL,Qas _ _ _ _ Za,Qas k m (λi=>f (o+i)) i hi]
 . rw[ZU (by simp;omega),ZU (by simp;omega)]
theorem Qaj (ρ:Nat->Nat):∀(l:List Seg) (o m:Nat) (l':List Seg),segSub l o m=some l'->((Qh ρ l).drop o).take m=Qh ρ l'/\(m≠0->o+m<=Qq l)/\Qq l'=m
 |l,o,0,l',h=>by
  rw[segSub.eq_1]at h
  simp only[Zn]at h;subst h
  exact⟨by simp[Qh],λh=>absurd rfl h,rfl⟩
 |[],o,m+1,l',h=>by simp[segSub]at h
 |.one x::r,0,m+1,l',h=>by
  simp only[segSub]at h
  cases h1:segSub r 0 m with
  |none=>rw[h1]at h;cases h
  |some r'=>
   rw[h1]at h
   simp only[Zn]at h;subst h
   have:=Qaj ρ r 0 m r' h1
   refine⟨?_,λ_=>?_,?_⟩
   . simpa [Qh,Seg.den] using this.1
   . simp only[Qq,Seg.len]
     by_cases hm:m=0
     . subst hm;omega
     . have:=this.2.1 hm;omega
   . simp only[Qq,Seg.len];omega
 |.one x::r,o+1,m+1,l',h=>by
  simp only[segSub]at h
  have:=Qaj ρ r o (m+1) l' h
  refine⟨?_,λ_=>?_,this.2.2⟩
  . simpa [Qh,Seg.den] using this.1
  . have:=this.2.1 Za;simp only[Qq,Seg.len];omega
 |.ints k n f::r,o,m+1,l',h=>by
  simp only[segSub]at h
  simp only[Qh,Seg.den,Qq,Seg.len]
  cases hb:n.ble o
  . rw[hb]at h
    have hlt:=Qsd hb
    simp only[cond_false]at h
    cases hc:(o+(m+1)).ble n
    . rw[hc]at h
      have hgt:=Qsd hc
      simp only[cond_false]at h
      cases hd:o.beq 0
      . rw[hd]at h;simp at h
      . rw[hd]at h
        have:o=0:=Zo hd
        subst this
        simp only[cond_true]at h
        cases h1:segSub r 0 (m+1-n)with
        |none=>rw[h1]at h;cases h
        |some r'=>
         rw[h1]at h
         simp only[Zn]at h;subst h
         have:=Qaj ρ r 0 (m+1-n) r' h1
         refine⟨?_,λ_=>?_,?_⟩
         . rw[Zdb,ZcR,Yn (by simp;omega)]
           simp only[ZN,YJ,Qh,Seg.den]
           rw[<- this.1,Zdb]
         . have:=this.2.1 Za;omega
         . simp only[Qq,Seg.len];omega
    . rw[hc]at h
      have hle:=XZ hc
      simp only[cond_true,Zn]at h;subst h
      refine⟨?_,λ_=>Za,by simp[Qq,Seg.len]⟩
      rw[Zbd (by simp;omega),Zam (by simp;omega),Qh8 k n (m+1) o f hle]
      simp only[Qh,Seg.den,YV]
      cases hd:o.beq 0
      . rfl
      . have:o=0:=Zo hd
        subst this;simp
  . rw[hb]at h
    have hle:=XZ hb
    simp only[cond_true]at h
    have:=Qaj ρ r (o-n) (m+1) l' h
    refine⟨?_,λ_=>?_,this.2.2⟩
    . rw[ZbE,YY (by simp;omega),YA]
      simp only[ZN,YJ];exact this.1
    . have:=this.2.1 Za;omega
def Qbi:List Seg->Nat->List Seg->Option (List Seg)
 |l,0,new=>bif (Qq new).ble (Qq l)then (match l,new with
  |.ints k n f::r,[.ints k' m g]=>bif (ckN k).beq (ckN k')&&m.ble n then some (.ints k n (bif m.beq n then g else λi=>bif i.blt m then g i else f i)::r)else none
  |l,new=>match segSub l (Qq new) (Qq l-Qq new)with
   |some r=>some (new++r)
   |none=>none)else none
 |[],_+1,_=>none
 |.one y::r,o+1,new=>match Qbi r o new with
  |some r'=>some (.one y::r')
  |none=>none
 |.ints k n f::r,o+1,new=>bif n.ble (o+1)then (match Qbi r (o+1-n) new with
  |some r'=>some (.ints k n f::r')
  |none=>none)
  else match new with
   |[.ints k' m g]=>bif (ckN k).beq (ckN k')&&(o+1+m).ble n then some (.ints k n (λi=>bif (o+1).ble i&&i.blt (o+1+m)then g (i-(o+1))else f i)::r)else none
   |_=>none
theorem Qcp (A B vs:List Value) (o:Nat) (h:A.length<=o):spl (A++B) o vs=A++spl B (o-A.length) vs:=by
 unfold spl
 rw[ZcR,Yn h,ZbE,YY Za,YA,Yb,Yb,Yb,show o+vs.length-A.length=o-A.length+vs.length by omega]
theorem QjY (k:CK) (n o m:Nat) (f g h:Nat->Int) (B:List Value) (hm:o+m<=n) (hh:∀i,i<n->h i=if o<=i/\i<o+m then g (i-o)else f i):
 spl (((Z2 n).map λi=>mkV k (f i))++B) o ((Z2 m).map λi=>mkV k (g i))=((Z2 n).map λi=>mkV k (h i))++B:=by
 unfold spl
 rw[Zam (by simp;omega),Zbd (by simp;omega),<- Yb]
 congr 1
 apply YX
 intro i
 simp only[ZN,YJ]
 by_cases hi:i<n
 . rw[Qas _ _ _ _ hi,hh i hi]
   by_cases h1:i<o
   . rw[Yb,Z5 (by simp;omega),Za6 h1,Qas _ _ _ _ hi,Ze Za]
   . by_cases h2:i<o+m
     . rw[Yb,Z8 (by simp;omega),Z5 (by simp;omega)]
       simp only[ZW,ZN,YJ]
       rw[show i-min o n=i-o by omega,Qas _ _ _ _ Za,Zf Za]
     . rw[Z8 (by simp;omega),YL]
       simp only[Zw,ZW,ZN,YJ]
       rw[show o+m+(i-(min o n+m))=i by omega,Qas _ _ _ _ hi,Ze Za]
 . rw[ZU (by simp;omega),ZU (by simp;omega)]
theorem Qa8 (ρ:Nat->Nat):∀(l:List Seg) (o:Nat) (new l':List Seg),Qbi l o new=some l'->spl (Qh ρ l) o (Qh ρ new)=Qh ρ l'/\o+Qq new<=Qq l
 |l,0,new,l',h=>by
  rw[Qbi.eq_def]at h
  simp only at h
  cases hb:(Qq new).ble (Qq l)
  . rw[hb]at h;simp at h
  . rw[hb]at h
    have hle:=XZ hb
    simp only[cond_true]at h
    refine⟨?_,Za⟩
    split at h
    . rename_i k n f r k' m g
      cases hk:((ckN k).beq (ckN k')&&m.ble n)
      . rw[hk]at h;simp at h
      . rw[hk]at h
        simp only[cond_true,Zn]at h;subst h
        simp only[Zr]at hk
        have:=QhU hk.1
        subst this
        have hmn:=XZ hk.2
        simp only[Qh,Seg.den,YV]
        refine QjY k n 0 m f g _ _ Za (λi hi=>?_)
        cases hd:m.beq n
        . simp only[cond_false]
          cases he:i.blt m
          . have:=Qsc he;rw[Ze Za];rfl
          . have:=Xv he;rw[Zf Za];simp
        . have:m=n:=Zo hd
          subst this
          simp only[cond_true];rw[Zf Za];simp
    . cases h1:segSub l (Qq new) (Qq l-Qq new)with
      |none=>rw[h1]at h;cases h
      |some r=>
       rw[h1]at h
       simp only[Zn]at h;subst h
       have:=Qaj ρ l _ _ r h1
       unfold spl
       rw[ZbZ,YA,Zu,Qgp,<- this.1,Qt]
       congr 1
       rw[Yn (by rw[ZaV,Qt];exact Zq _)]
 |[],o+1,new,l',h=>by simp[Qbi]at h
 |.one y::r,o+1,new,l',h=>by
  simp only[Qbi]at h
  cases h1:Qbi r o new with
  |none=>rw[h1]at h;cases h
  |some r'=>
   rw[h1]at h
   simp only[Zn]at h;subst h
   have:=Qa8 ρ r o new r' h1
   refine⟨?_,by simp only[Qq,Seg.len];omega⟩
   simp only[Qh,Seg.den]
   rw[Qcp _ _ _ _ (by simp)]
   simp only[Yf,List.length_nil,Zu,Zbf]
   rw[this.1]
 |.ints k n f::r,o+1,new,l',h=>by
  simp only[Qbi]at h
  cases hb:n.ble (o+1)
  . rw[hb]at h
    simp only[cond_false]at h
    split at h
    . rename_i k' m g
      cases hk:((ckN k).beq (ckN k')&&(o+1+m).ble n)
      . rw[hk]at h;simp at h
      . rw[hk]at h
        simp only[cond_true,Zn]at h;subst h
        simp only[Zr]at hk
        have:=QhU hk.1
        subst this
        have hmn:=XZ hk.2
        refine⟨?_,by simp only[Qq,Seg.len];omega⟩
        simp only[Qh,Seg.den,YV]
        refine QjY k n (o+1) m f g _ _ Za (λi hi=>?_)
        cases he:((o+1).ble i&&i.blt (o+1+m))
        . rw[Ze];rfl
          rintro⟨h1,h2⟩
          rw[Ys h1,show i.blt (o+1+m)=true by simpa [ZbR] using h2]at he
          cases he
        . simp only[Zr]at he
          rw[Zf ⟨XZ he.1,Xv he.2⟩];rfl
    . cases h
  . rw[hb]at h
    have hle:=XZ hb
    simp only[cond_true]at h
    cases h1:Qbi r (o+1-n) new with
    |none=>rw[h1]at h;cases h
    |some r'=>
     rw[h1]at h
     simp only[Zn]at h;subst h
     have:=Qa8 ρ r (o+1-n) new r' h1
     refine⟨?_,by simp only[Qq,Seg.len];omega⟩
     simp only[Qh,Seg.den]
     rw[Qcp _ _ _ _ (by simp;omega)]
     simp only[ZN,YJ]
     rw[this.1]
end
section
open Go.RowKit
inductive SA where
 |c (x:SC)
 |a (l:List Seg)
inductive SV where
 |o (x:SA)
 |t (l:List SA)
def SA.den (ρ:Nat->Nat):SA->Value
 |.c x=>x.den ρ
 |.a l=>.agg (Qh ρ l).toArray
def SV.den (ρ:Nat->Nat):SV->Value
 |.o x=>x.den ρ
 |.t l=>.tuple (l.map (SA.den ρ)).toArray
abbrev sv (x:Value):SV:=.o (.c (.v x))
inductive SB where
 |cells (l:List Seg) (t:TypeId)
 |rows (t:TypeId) (ks:List CK) (sz n c:Nat) (z:Nat->Nat->Int)
 |abs (A:Abs) (F:List Nat)
 |mp (es:List (Nat × Value))
 |en (e:En)
 |gone
 |mf (h:Int->Bool) (v:Int->Int)
def ckAt (ks:List CK) (j:Nat):CK:=ks.getD j .bool
def rowV (ks:Nat->CK) (sz:Nat) (z:Nat->Nat->Int) (i:Nat):List Value:=(Z2 sz).map λj=>mkV (ks j) (z i j)
def QJ (ks:Nat->CK) (sz:Nat) (z:Nat->Nat->Int):Nat->List Value
 |0=>[]
 |n+1=>QJ ks sz z n++rowV ks sz z n
theorem Qpi (ks:Nat->CK) (sz:Nat) (z:Nat->Nat->Int) (i:Nat):(rowV ks sz z i).length=sz:=by simp[rowV]
theorem QI (ks:Nat->CK) (sz:Nat) (z:Nat->Nat->Int):∀n,(QJ ks sz z n).length=n*sz
 |0=>by simp[QJ]
 |n+1=>by simp[QJ,QI ks sz z n,Qpi,Yi]
def mpV:Nat->List (Nat × Value)->List MapEntry
 |_,[]=>[]
 |i,(k,v)::r=>{ key:=.int .i64 k,val:=v,born:=i }::mpV (i+1) r
structure MfOk (h:Int->Bool) (v:Int->Int) (es:List MapEntry):Prop where
 nd:es.Pairwise λa b=>a.key≠b.key
 ent:∀e∈es,∃k,e.key=.int .i64 k/\e.val=.int .i64 (v k)/\h k=true
 all:∀k,h k=true->∃e∈es,e.key=.int .i64 k
def Qgt (h:Int->Bool) (v:Int->Int):Abs where
 hold b F w:=F=[b]/\∃es c,w.heap[b]?=some (.map es c)/\MfOk h v es.toList
 lt:=λb F w ⟨hF,es,c,he,_⟩ g hg=>by
  subst hF
  obtain rfl:=List.mem_singleton.1 hg
  exact (Array.getElem?_eq_some_iff.1 he).1
 keep:=λb F w w' ⟨hF,es,c,he,ho⟩ _ hh=>⟨hF,es,c,(hh b (by rw[hF];exact List.mem_singleton.2 rfl)).trans he,ho⟩
def denB (ρ:Nat->Nat) (i:Nat):SB->List En
 |.cells l t=>[.blk (ρ i) (Qh ρ l) t]
 |.rows t ks sz n c z=>[.row (ρ i) t sz n c (QJ (ckAt ks) sz z n)]
 |.abs A F=>[.abs (ρ i) A F]
 |.mp es=>[.obj (ρ i) (.map (mpV 0 es).toArray es.length)]
 |.en e=>[e]
 |.mf h v=>[.abs (ρ i) (Qgt h v) [ρ i]]
 |.gone=>[]
def denM (ρ:Nat->Nat):Nat->List SB->List En
 |_,[]=>[]
 |i,b::r=>denB ρ i b++denM ρ (i+1) r
inductive Kd where
 |bool|int (k:IntKind)|str|ptr (e:TypeId)|slice (e:TypeId)|iface|map (k e:TypeId)|func|other
inductive TyI where
 |one (z:Value) (kd:Kd)
 |str (z:List Seg) (ps:List (Nat × Nat × Bool))
 |arr (z:List Seg) (n es:Nat) (ea:Bool)
abbrev Tab:=List (Nat × TyI)
def lkT:Tab->Nat->Option TyI
 |[],_=>none
 |(t,i)::r,u=>bif t.beq u then some i else lkT r u
def Qa0 (P:Program) (t:TypeId):Bool:=match P.underlying t with
 |some (.struct _)|some (.array _ _)=>true
 |_=>false
def QfS (P:Program) (t:TypeId):Option (List (Nat × Nat × Bool)):=match P.underlying t with
 |some (.struct fs)=>some (fs.toList.map λf=>(f.offset,((P.info? f.type).map (·.size)).getD 0,Qa0 P f.type))
 |_=>none
def QqA (P:Program) (t:TypeId):Option (Nat × Nat × Bool):=match P.underlying t with
 |some (.array n e)=>some (n,((P.info? e).map (·.size)).getD 0,Qa0 P e)
 |_=>none
def kdOf (P:Program) (t:TypeId):Kd:=match P.underlying t with
 |some .bool=>.bool
 |some (.int k)=>.int k
 |some .string=>.str
 |some (.pointer e)=>.ptr e
 |some (.slice e)=>.slice e
 |some (.interface _)=>.iface
 |some (.map k e)=>.map k e
 |some (.func _ _ _)=>.func
 |_=>.other
def TyOk (P:Program) (t:TypeId):TyI->Prop
 |.one z kd=>kdOf P t=kd/\Qhe P t=true/\(P.info? t).map (·.size)=some 1/\(P.info? t).bind (·.zero)=some z/\z.oneCell'=true
 |.str z ps=>QfS P t=some ps/\(P.info? t).map (·.size)=some (Qq z)/\(P.info? t).bind (·.zero)=some (.agg (Qh (λ_=>0) z).toArray)/\Qdo z=true
 |.arr z n es ea=>QqA P t=some (n,es,ea)/\(P.info? t).map (·.size)=some (Qq z)/\(P.info? t).bind (·.zero)=some (.agg (Qh (λ_=>0) z).toArray)/\Qdo z=true
def TabOk (P:Program) (T:Tab):Prop:=∀t i,lkT T t=some i->TyOk P t i
theorem TabOk.nil (P:Program):TabOk P []:=λ_ _ h=>by simp[lkT]at h
theorem TabOk.cons {P:Program}{t:Nat}{i:TyI}{T:Tab}(h:TyOk P t i) (hT:TabOk P T):TabOk P ((t,i)::T):=λu j hj=>by
 unfold lkT at hj
 cases hb:t.beq u
 . rw[hb]at hj;exact hT u j hj
 . rw[hb]at hj
   have:=Zo hb
   subst this
   simp only[cond_true,Zn]at hj;subst hj;exact h
def TyI.zero:TyI->List Seg
 |.one z _=>[.one (.v z)]
 |.str z _=>z
 |.arr z _ _ _=>z
def TyI.size:TyI->Nat
 |.one _ _=>1
 |.str z _=>Qq z
 |.arr z _ _ _=>Qq z
def SC.av (p:Nat->Bool):SC->Bool
 |.v _=>true
 |.p b _=>p b
 |.e b _ _=>p b
 |.s b _ _ _=>p b
 |.i _ b _=>p b
 |.r _ _ _ _ _ _ _=>true
 |.re _ _ _ _ _ _ _ _=>true
 |.o b _ _=>p b
 |.er b _ _ _=>p b
 |.so b _ _ _ _ _=>p b
 |.fn _ cs=>cs.all λq=>p q.1
 |.m b=>p b
 |.q _ _ _=>true
def QS (p:Nat->Bool):List Seg->Bool
 |[]=>true
 |.one x::r=>x.av p&&QS p r
 |.ints _ _ _::r=>QS p r
def SA.av (p:Nat->Bool):SA->Bool
 |.c x=>x.av p
 |.a l=>QS p l
def SV.av (p:Nat->Bool):SV->Bool
 |.o x=>x.av p
 |.t l=>l.all (SA.av p)
def SB.av (p:Nat->Bool):SB->Bool
 |.cells l _=>QS p l
 |_=>true
abbrev Env:=List (Nat × SV)
def Qbs (p:Nat->Bool):Env->Bool
 |[]=>true
 |(_,x)::r=>x.av p&&Qbs p r
def sc (n:Nat):Nat->Bool:=λb=>b.blt n
section
variable {p q:Nat->Bool}(h:∀i,p i=true->q i=true)
include h
theorem SC.av_mono {x:SC}(hx:x.av p=true):x.av q=true:=by
 cases x with
 |fn f cs=>simp only[SC.av,YK]at hx ⊢;exact λy hy=>h _ (hx y hy)
 |_=>first|rfl|exact h _ hx
theorem QaA:∀ {l:List Seg},QS p l=true->QS q l=true
 |[],_=>rfl
 |.one x::r,hx=>by
  simp only[QS,Zr]at hx ⊢
  exact⟨SC.av_mono h hx.1,QaA hx.2⟩
 |.ints _ _ _::r,hx=>by
  simp only[QS]at hx ⊢
  exact QaA hx
theorem SA.av_mono {x:SA}(hx:x.av p=true):x.av q=true:=by
 cases x with
 |c x=>exact SC.av_mono h hx
 |a l=>exact QaA h (l:=l) hx
theorem SV.av_mono {x:SV}(hx:x.av p=true):x.av q=true:=by
 cases x with
 |o x=>exact SA.av_mono h hx
 |t l=>simp only[SV.av,YK]at hx ⊢;exact λy hy=>SA.av_mono h (hx y hy)
theorem SB.av_mono {x:SB}(hx:x.av p=true):x.av q=true:=by
 cases x with
 |cells l t=>exact QaA h (l:=l) hx
 |_=>rfl
theorem QbY:∀ {e:Env},Qbs p e=true->Qbs q e=true
 |[],_=>rfl
 |(_,x)::r,hx=>by
  simp only[Qbs,Zr]at hx ⊢
  exact⟨SV.av_mono h hx.1,QbY hx.2⟩
end
section
variable {ρ ρ':Nat->Nat}{p:Nat->Bool}(hρ:∀i,p i=true->ρ' i=ρ i)
include hρ
theorem SC.av_den {x:SC}(h:x.av p=true):x.den ρ'=x.den ρ:=by
 cases x with
 |v x=>rfl
 |p b off=>simp only[SC.den,hρ b h]
 |e b off ix=>simp only[SC.den,hρ b h]
 |s b off m c=>simp only[SC.den,hρ b h]
 |i t b off=>simp only[SC.den,hρ b h]
 |r a n c m sz ks z=>rfl
 |re a c m sz ks z i f=>rfl
 |o b n c=>simp only[SC.den,hρ b h]
 |er b sz ix f=>simp only[SC.den,hρ b h]
 |so b lo sz n c nn=>simp only[SC.den,hρ b h]
 |m b=>simp only[SC.den,hρ b h]
 |q c t x=>rfl
 |fn f cs=>
  simp only[SC.av,YK]at h
  simp only[SC.den]
  congr 2
  exact Yr λy hy=>by rw[hρ _ (h y hy)]
theorem QaB:∀ {l:List Seg},QS p l=true->Qh ρ' l=Qh ρ l
 |[],_=>rfl
 |.one x::r,h=>by
  simp only[QS,Zr]at h
  simp only[Qh,Seg.den,SC.av_den hρ h.1,QaB h.2]
 |.ints k m f::r,h=>by
  simp only[QS]at h
  simp only[Qh,Seg.den,QaB h]
theorem SA.av_den {x:SA}(h:x.av p=true):x.den ρ'=x.den ρ:=by
 cases x with
 |c x=>exact SC.av_den hρ h
 |a l=>simp only[SA.den,QaB hρ (l:=l) h]
theorem SV.av_den {x:SV}(h:x.av p=true):x.den ρ'=x.den ρ:=by
 cases x with
 |o x=>exact SA.av_den hρ h
 |t l=>
  simp only[SV.den]
  congr 2
  exact Yr λy hy=>SA.av_den hρ (List.all_eq_true.1 h y hy)
theorem SB.av_den {x:SB}{i:Nat}(hi:p i=true) (h:x.av p=true):denB ρ' i x=denB ρ i x:=by
 cases x with
 |cells l t=>simp only[denB,hρ i hi,QaB hρ (l:=l) h]
 |rows t ks sz n c z=>simp only[denB,hρ i hi]
 |abs A F=>simp only[denB,hρ i hi]
 |mp es=>simp only[denB,hρ i hi]
 |en e=>rfl
 |gone=>rfl
 |mf h v=>simp only[denB,hρ i hi]
end
def nth:List SB->Nat->Option SB
 |[],_=>none
 |b::_,0=>some b
 |_::r,n+1=>nth r n
def getB:List SB->Nat->SB
 |[],_=>.gone
 |b::_,0=>b
 |_::r,n+1=>getB r n
def putB:List SB->Nat->SB->List SB
 |[],0,x=>[x]
 |[],n+1,x=>.gone::putB [] n x
 |_::r,0,x=>x::r
 |b::r,n+1,x=>b::putB r n x
abbrev Ups:=List (Nat × SB)
def QW (M:List SB):Ups->List SB
 |[]=>M
 |(b,x)::r=>QW (putB M b x) r
def denT (ρ:Nat->Nat) (M:List SB):List Nat->List En
 |[]=>[]
 |b::r=>denB ρ b (getB M b)++denT ρ M r
def denU (ρ:Nat->Nat):Ups->List En
 |[]=>[]
 |(b,x)::r=>denB ρ b x++denU ρ r
theorem QaI (x:SB):∀(M:List SB) (b:Nat),getB (putB M b x) b=x
 |[],0=>rfl
 |[],b+1=>QaI x [] b
 |_::r,0=>rfl
 |_::r,b+1=>QaI x r b
theorem QcG (x:SB):∀(M:List SB) (b c:Nat),b≠c->getB (putB M b x) c=getB M c
 |[],0,0,h=>absurd rfl h
 |[],0,c+1,_=>rfl
 |[],b+1,0,_=>rfl
 |[],b+1,c+1,h=>by
  have:=QcG x [] b c Za
  simp only[putB,getB]at this ⊢;exact this
 |_::r,0,0,h=>absurd rfl h
 |_::r,0,c+1,_=>rfl
 |_::r,b+1,0,_=>rfl
 |_::r,b+1,c+1,h=>by
  simp only[putB,getB];exact QcG x r b c Za
theorem Q6 {c:Nat}:∀(us:Ups) (M:List SB),c∉us.map (·.1)->getB (QW M us) c=getB M c
 |[],_,_=>rfl
 |(b,x)::r,M,h=>by
  simp only[Z4,Zbn,not_or]at h
  simp only[QW]
  rw[Q6 r _ h.2,QcG x M b c (Ne.symm h.1)]
theorem XF {c:Nat}{x:SB}:∀(us:Ups) (M:List SB),(us.map (·.1)).Nodup->(c,x)∈us->getB (QW M us) c=x
 |(b,y)::r,M,hn,h=>by
  simp only[Z4,Zcj]at hn
  simp only[QW]
  rcases List.mem_cons.1 h with h|h
  . simp only[ZT]at h
    obtain⟨rfl,rfl⟩:=h
    rw[Q6 r _ hn.1,QaI]
  . exact XF r _ hn.2 h
theorem QdV (x:SB):∀(M:List SB) (b:Nat),M.length<=(putB M b x).length/\(b<M.length->(putB M b x).length=M.length)/\(b=M.length->(putB M b x).length=M.length+1)
 |[],0=>by simp[putB]
 |[],b+1=>by simp[putB]
 |_::r,0=>by simp[putB]
 |_::r,b+1=>by
  have:=QdV x r b
  simp only[putB,Yf];omega
theorem Qd7:∀(M:List SB) (b:Nat),M.length<=b->getB M b=.gone
 |[],_,_=>rfl
 |_::r,0,h=>by simp at h
 |_::r,b+1,h=>by simp only[getB];exact Qd7 r b (by simpa using h)
theorem Qda (ρ:Nat->Nat):∀(M:List SB) (i N:Nat),M.length<=N->denM ρ i M=(Z2 N).flatMap λb=>denB ρ (i+b) (getB M b)
 |[],i,N,_=>by
  simp only[denM]
  rw[List.flatMap_eq_nil_iff.2]
  intro b _;rfl
 |c::r,i,0,h=>by simp at h
 |c::r,i,N+1,h=>by
  have:=Qda ρ r (i+1) N (by simpa using h)
  rw[Zbg,Za3,List.flatMap_map]
  simp only[denM,getB,Yu]
  rw[this]
  congr 1
  simp only[show ∀b,i+1+b=i+(b+1) by intro b;omega]
theorem QiC {α:Type}(f:Nat->List α):∀(T l:List Nat),T.Nodup->l.Nodup->(∀b∈T,b∈l)->(l.flatMap f).Perm (T.flatMap f++(l.filter (λb=>!T.contains b)).flatMap f)
 |[],l,_,_,_=>by rw[show l.filter (λb=>!([]:List Nat).contains b)=l from List.filter_eq_self.2 (by simp)];exact List.Perm.refl _
 |t::T,l,hT,hl,hs=>by
  rw[Zcj]at hT
  have htl:t∈l:=hs t ZC
  obtain⟨l1,l2,rfl⟩:=List.append_of_mem htl
  have hl':=hl
  rw[List.nodup_append]at hl
  obtain⟨hl1,hl2,hd⟩:=hl
  rw[Zcj]at hl2
  have ht1:t∉l1:=λh=>(hd t h t ZC) rfl
  have ih:=QiC f T (l1++l2) hT.2 (List.nodup_append.2 ⟨hl1,hl2.2,λa ha b hb=>hd a ha b (ZF _ hb)⟩) (λb hb=>by
   have:=hs b (ZF _ hb)
   simp only[Za0,Zbn]at this ⊢
   rcases this with h|rfl|h
   . exact .inl h
   . exact absurd hb hT.1
   . exact .inr h)
  have e:(l1++t::l2).filter (λb=>!(t::T).contains b)=(l1++l2).filter (λb=>!T.contains b):=by
   rw[ZdB,ZdB,List.filter_cons]
   simp only[List.contains_cons,beq_self_eq_true,Bool.true_or,Zca,ZbS,if_false]
   congr 1<;>(apply List.filter_congr;intro b hb)
   . have:(b==t)=false:=by simp;rintro rfl;exact ht1 hb
     simp[this]
   . have:(b==t)=false:=by simp;rintro rfl;exact hl2.1 hb
     simp[this]
  rw[e]
  simp only[List.flatMap_append,Za3]at ih ⊢
  exact (List.perm_append_comm_assoc _ _ _).trans (by rw[Yb];exact ih.append_left _)
def rest (N:Nat) (T:List Nat):List Nat:=(Z2 N).filter (λb=>!T.contains b)
theorem Qbu (ρ:Nat->Nat) (M:List SB):∀T,denT ρ M T=T.flatMap λb=>denB ρ b (getB M b)
 |[]=>rfl
 |b::r=>by simp only[denT,Za3,Qbu ρ M r]
theorem Qbc (ρ:Nat->Nat) (M:List SB) (T:List Nat) (N:Nat) (hN:M.length<=N) (hT:T.Nodup) (hs:∀b∈T,b<N):(denM ρ 0 M).Perm (denT ρ M T++denT ρ M (rest N T)):=by
 rw[Qda ρ M 0 N hN,Qbu,Qbu]
 simp only[Zu]
 exact QiC _ T _ hT List.nodup_range (λb hb=>List.mem_range.2 (hs b hb))
theorem Qoc (ρ:Nat->Nat) (M:List SB):∀us:Ups,(us.map (·.1)).Nodup->denT ρ (QW M us) (us.map (·.1))=denU ρ us:=by
 intro us hn
 have key:∀(vs:Ups),(∀q∈vs,q∈us)->denT ρ (QW M us) (vs.map (·.1))=denU ρ vs:=by
  intro vs
  induction vs with
  |nil=>intro _;rfl
  |cons q r ih=>
   intro h
   obtain⟨b,x⟩:=q
   simp only[Z4,denT,denU]
   rw[XF us M hn (h _ ZC),ih (λq hq=>h q (ZF _ hq))]
 exact key us (λq hq=>hq)
theorem Qgc {ρ ρ':Nat->Nat}{M M':List SB}:∀(T:List Nat),(∀b∈T,denB ρ' b (getB M' b)=denB ρ b (getB M b))->denT ρ' M' T=denT ρ M T
 |[],_=>rfl
 |b::r,h=>by simp only[denT];rw[h b ZC,Qgc r (λc hc=>h c (ZF _ hc))]
def MemAv (p:Nat->Bool) (M:List SB):Prop:=∀b,getB M b=.gone\/(p b=true/\(getB M b).av p=true)
theorem MemAv.den {p:Nat->Bool}{M:List SB}(h:MemAv p M) {ρ ρ':Nat->Nat}(hρ:∀i,p i=true->ρ' i=ρ i) (b:Nat):denB ρ' b (getB M b)=denB ρ b (getB M b):=by
 rcases h b with h|⟨h1,h2⟩
 . rw[h];rfl
 . exact SB.av_den hρ h1 h2
theorem Qm8:∀(T:List Nat),∃N,∀b∈T,b<N
 |[]=>⟨0,by simp⟩
 |b::r=>by
  obtain⟨N,h⟩:=Qm8 r
  exact⟨max N (b+1),λc hc=>by
   rcases List.mem_cons.1 hc with rfl|hc
   . omega
   . have:=h c hc;omega⟩
theorem Mem.ups {w0 w w':World}{S:Nat->Prop}{ρ ρ':Nat->Nat}{M:List SB}{p:Nat->Bool}(HM:Mem w0 S (denM ρ 0 M) w) (hp:MemAv p M) (hρ:∀i,p i=true->ρ' i=ρ i) (us:Ups) (hn:(us.map (·.1)).Nodup)
 (k:Mem w (feet (denT ρ M (us.map (·.1)))) (denU ρ' us) w'):Mem w0 S (denM ρ' 0 (QW M us)) w':=by
 obtain⟨N,hN⟩:=Qm8 (us.map (·.1))
 have h1:=Qbc ρ M (us.map (·.1)) (max N (max M.length (QW M us).length)) Za hn (λb hb=>by have:=hN b hb;omega)
 have h2:=Qbc ρ' (QW M us) (us.map (·.1)) (max N (max M.length (QW M us).length)) Za hn (λb hb=>by have:=hN b hb;omega)
 rw[Qoc ρ' M us hn]at h2
 refine Mem.perm ?_ h2.symm
 have e:denT ρ' (QW M us) (rest (max N (max M.length (QW M us).length)) (us.map (·.1)))=denT ρ M (rest (max N (max M.length (QW M us).length)) (us.map (·.1))):=by
  refine Qgc _ (λb hb=>?_)
  unfold rest at hb
  rw[List.mem_filter]at hb
  rw[Q6 us M (by simpa using hb.2)]
  exact hp.den hρ b
 rw[e]
 exact HM.swap h1 k
theorem Mem.some {w0 w:World}{S:Nat->Prop}{ρ:Nat->Nat}{M:List SB}(HM:Mem w0 S (denM ρ 0 M) w) (T:List Nat) (hT:T.Nodup):Mem w (feet (denT ρ M T)) (denT ρ M T) w:=by
 obtain⟨N,hN⟩:=Qm8 T
 have h1:=Qbc ρ M T (max N M.length) Za hT (λb hb=>by have:=hN b hb;omega)
 exact ((HM.perm h1).sub (List.sublist_append_left _ _)).self
theorem Mem.at {w0 w:World}{S:Nat->Prop}{ρ:Nat->Nat}{M:List SB}(HM:Mem w0 S (denM ρ 0 M) w) (b:Nat):∀e∈denB ρ b (getB M b),e.at w:=by
 have:=(HM.some [b] (by simp)).holds
 simpa [denT] using this
def lk:Env->Nat->Option SV
 |[],_=>none
 |(t,x)::r,u=>bif t.beq u then some x else lk r u
structure EnvOk (ρ:Nat->Nat) (nt:Nat) (env:Env) (a:Act):Prop where
 defers:a.defers=[]
 size:a.tmps.size=nt
 get:∀t x,lk env t=some x->a.tmps[t]?=some (x.den ρ)
def QO (env:Env):Operand->Option SV
 |.tmp t=>lk env t
 |.const v=>some (sv v)
 |.global g=>some (sv (.pointer (some ⟨g,0,none⟩)))
 |.func f=>some (sv (.func (.func f) #[] #[]))
theorem EnvOk.eval {ρ:Nat->Nat}{nt:Nat}{env:Env}{a:Act}(h:EnvOk ρ nt env a) {x:Operand}{v:SV}(e:QO env x=some v):a.eval x=v.den ρ:=by
 cases x with
 |tmp t=>
  have:=h.get t v e
  simp only[Act.eval,Array.getD_eq_getD_getElem?,this,Option.getD_some]
 |const v=>simp only[QO,Zn]at e;subst e;rfl
 |global g=>simp only[QO,Zn]at e;subst e;rfl
 |func f=>simp only[QO,Zn]at e;subst e;rfl
theorem EnvOk.put {ρ:Nat->Nat}{nt:Nat}{env:Env}{a:Act}(h:EnvOk ρ nt env a) {d:Nat}(hd:d<nt) (x:SV):EnvOk ρ nt ((d,x)::env) (a.put (some d) (x.den ρ)):=by
 refine⟨h.defers,by simp only[Act.put,Array.size_setIfInBounds];exact h.size,λt y hy=>?_⟩
 simp only[Act.put]
 unfold lk at hy
 cases hb:d.beq t
 . rw[hb]at hy
   have hne:d≠t:=λe=>by subst e;simp at hb
   rw[Array.getElem?_setIfInBounds_ne hne];exact h.get t y hy
 . rw[hb]at hy
   have:=Zo hb
   subst this
   simp only[cond_true,Zn]at hy;subst hy
   rw[Array.getElem?_setIfInBounds_self_of_lt (by rw[h.size];exact hd)]
theorem QrH {p:Nat->Bool}:∀ {e:Env}{t:Nat}{x:SV},Qbs p e=true->lk e t=some x->x.av p=true
 |[],_,_,_,h=>by simp[lk]at h
 |(u,y)::r,t,x,h1,h2=>by
  simp only[Qbs,Zr]at h1
  unfold lk at h2
  cases hb:u.beq t
  . rw[hb]at h2;exact QrH h1.2 h2
  . rw[hb]at h2;simp only[cond_true,Zn]at h2;subst h2;exact h1.1
theorem EnvOk.over {ρ ρ':Nat->Nat}{nt:Nat}{p:Nat->Bool}{env:Env}{a:Act}(h:EnvOk ρ nt env a) (hρ:∀i,p i=true->ρ' i=ρ i) (hs:Qbs p env=true):EnvOk ρ' nt env a:=
 ⟨h.defers,h.size,λt x hx=>by rw[SV.av_den hρ (QrH hs hx)];exact h.get t x hx⟩
theorem EnvOk.same {ρ:Nat->Nat}{nt:Nat}{env:Env}{a:Act}(h:EnvOk ρ nt env a) {t:Nat}{x:SV}(hx:lk env t=some x):EnvOk ρ nt ((t,x)::env) a:=by
 refine⟨h.defers,h.size,λu y hy=>?_⟩
 unfold lk at hy
 cases hb:t.beq u
 . rw[hb]at hy;exact h.get u y hy
 . rw[hb]at hy
   have:=Zo hb
   subst this
   simp only[cond_true,Zn]at hy;subst hy
   exact h.get t _ hx
end
section
open Go.RowKit
inductive Eff where
 |eff (T:List Nat) (vc:Option Prop) (x:SV) (us:Ups)
 |any (χ:Type) (T:List Nat) (vc:Option Prop) (ok:χ->Prop) (x:χ->SV) (W:List Nat) (bs:χ->List SB)
 |call (f:FuncId) (args:List SA)
 |no
abbrev Eff.val (vc:Option Prop) (x:SV):Eff:=.eff [] vc x []
def vcP:Option Prop->Prop
 |none=>True
 |some p=>p
def Qmh:Option Prop->Prop->Prop
 |none,q=>q
 |some p,q=>p/\q
theorem Qbe {o:Option Prop}{q:Prop}:Qmh o q↔vcP o/\q:=by cases o<;>simp[Qmh,vcP]
def ikE (a b:IntKind):Bool:=(ikN a).beq (ikN b)
def ifK (a b:IntKind) (x:Option (Option Prop × Value)):Option (Option Prop × Value):=bif ikE a b then x else none
theorem QpR {a b:IntKind}{x:Option (Option Prop × Value)}{y:Option Prop × Value}(h:ifK a b x=some y):a=b/\x=some y:=by
 unfold ifK at h
 cases hb:ikE a b
 . rw[hb]at h;cases h
 . rw[hb]at h;exact⟨QdF hb,h⟩
def OldV (V w:World):Prop:=∀sz ks a m c z,Rws sz ks V a m c z->Rws sz ks w a m c z
theorem OldOk.v {V w0 w:World}{S:Nat->Prop}(h:OldOk V w0 S) (k:Kept S w0 w):OldV V w:=λsz ks a m c z hr=>h sz ks a m c z w hr k
section
variable {P:Program}{V w:World}{ρ:Nat->Nat}{M:List SB}{nx:Nat}
def Qbt (P:Program) (f:FuncId):Bool:=match P.funcs[f]? with
 |some fn=>!(fn.name == "runtime.NumGoroutine")&&fn.body.isSome
 |none=>false
def Res (P:Program) (w:World) (r:Sem Next) (v:Value) (w':World):Prop:=∃n,r.run P w=.ok n w'/\(n=.value v\/(n=.skip/\v=undef))
theorem Res.val {r:Sem Next}{v:Value}{w':World}(h:r.run P w=.ok (.value v) w'):Res P w r v w':=⟨_,h,.inl rfl⟩
theorem Res.skip {r:Sem Next}{w':World}(h:r.run P w=.ok .skip w'):Res P w r undef w':=⟨_,h,.inr ⟨rfl,rfl⟩⟩
def Out (P:Program) (ρ:Nat->Nat) (M:List SB) (nx:Nat) (w:World) (r:Sem Next) (x:SV) (us:Ups):Prop:=
 ∃w' ρ',(∀i,(i<nx\/i∉us.map (·.1))->ρ' i=ρ i)/\Res P w r (x.den ρ') w'/\Mem w (feet (denT ρ M (us.map (·.1)))) (denU ρ' us) w'
def XW (P:Program) (V:World) (ρ:Nat->Nat) (M:List SB) (nx:Nat) (w:World) (r:Sem Next):Eff->Prop
 |.eff T vc x us=>(∀b∈T,∀e∈denB ρ b (getB M b),e.at w)->Mem w (feet (denT ρ M (us.map (·.1)))) (denT ρ M (us.map (·.1))) w->vcP vc->Out P ρ M nx w r x us
 |.any χ T vc ok x W bs=>(∀b∈T,∀e∈denB ρ b (getB M b),e.at w)->Mem w (feet (denT ρ M W)) (denT ρ M W) w->vcP vc->∃c,ok c/\(bs c).length=W.length/\Out P ρ M nx w r (x c) (W.zip (bs c))
 |.call f args=>Qbt P f=true->r.run P w=.ok (.enter f (args.map (SA.den ρ)).toArray) w
 |.no=>True
theorem QF {r:Sem Next}{T:List Nat}{vc:Option Prop}{x:SV}(h:(∀b∈T,∀e∈denB ρ b (getB M b),e.at w)->vcP vc->r.run P w=.ok (.value (x.den ρ)) w):XW P V ρ M nx w r (.eff T vc x []):=λh1 h2 h3=>
 ⟨w,ρ,λ_ _=>rfl,.val (h h1 h3),⟨Kept.refl _ _,by simp[denU],by simp[denU],Zal⟩⟩
theorem Qf3 {t n:Nat}(h:(P.info? t).map (·.size)=some n):∃i,P.info? t=some i/\i.size=n:=by
 cases hq:P.info? t with
 |none=>rw[hq]at h;cases h
 |some i=>exact⟨i,rfl,by rw[hq]at h;simpa using h⟩
theorem Qdj {t:TypeId}(h:Qa0 P t=true):∃d,P.underlying t=some d/\(match d with | .struct _ | .array _ _=>true|_=>false)=true:=by
 unfold Qa0 at h
 cases hu:P.underlying t with
 |none=>rw[hu]at h;cases h
 |some d=>rw[hu]at h;exact⟨d,rfl,by cases d<;>simp_all⟩
theorem TyOk.agg {t:TypeId}{i:TyI}(h:TyOk P t i) (hi:∀z k,i≠ .one z k):Qa0 P t=true/\(P.info? t).map (·.size)=some i.size/\(P.info? t).bind (·.zero)=some (.agg (Qh (λ_=>0) i.zero).toArray)/\Qdo i.zero=true/\Qq i.zero=i.size:=by
 cases i with
 |one z k=>exact absurd rfl (hi z k)
 |str z ps=>
  obtain⟨h1,h2,h3,h4⟩:=h
  refine⟨?_,h2,h3,h4,rfl⟩
  unfold QfS at h1;unfold Qa0
  cases hu:P.underlying t with
  |none=>rw[hu]at h1;cases h1
  |some d=>rw[hu]at h1;cases d<;>simp_all
 |arr z n es ea=>
  obtain⟨h1,h2,h3,h4⟩:=h
  refine⟨?_,h2,h3,h4,rfl⟩
  unfold QqA at h1;unfold Qa0
  cases hu:P.underlying t with
  |none=>rw[hu]at h1;cases h1
  |some d=>rw[hu]at h1;cases d<;>simp_all
theorem Qex {ρ ρ':Nat->Nat}{l:List Seg}(h:QS (λ_=>false) l=true):Qh ρ l=Qh ρ' l:=QaB (p:=λ_=>false) (λi hi=>by cases hi) h
theorem QiZ {b:Nat}{l:List Seg}{t:TypeId}(h:getB M b=.cells l t) (hR:∀e∈denB ρ b (getB M b),e.at w):Blk w (ρ b) (Qh ρ l) t:=by
 rw[h]at hR;exact hR (.blk (ρ b) (Qh ρ l) t) (by simp[denB])
theorem Qou {b:Nat}{l:List Seg}{t:TypeId}{x:SB}(h:getB M b=.cells l t) (hW:Mem w (feet (denT ρ M (([(b,x)]:Ups).map (·.1)))) (denT ρ M (([(b,x)]:Ups).map (·.1))) w):Blk w (ρ b) (Qh ρ l) t:=
 hW.holds (.blk (ρ b) (Qh ρ l) t) (by simp[denT,denB,h])
theorem QfT {b:Nat}{l l':List Seg}{t:TypeId}(h:getB M b=.cells l t) {r:Sem Next}{x:SV}{w':World}(hr:Res P w r (x.den ρ) w') (hk:Kept (λg=>g=ρ b) w w') (hB:Blk w' (ρ b) (Qh ρ l') t):Out P ρ M nx w r x [(b,.cells l' t)]:=by
 refine⟨w',ρ,λ_ _=>rfl,hr,?_⟩
 have hf:feet (denT ρ M ([(b,SB.cells l' t)].map (·.1))) (ρ b):=⟨.blk (ρ b) (Qh ρ l) t,by simp[denT,denB,h],rfl⟩
 exact .one (hk.mono (λg hg=>by subst hg;exact hf)) hB (λg hg=>.inl (by have hg:ρ b=g:=hg;subst hg;exact hf))
theorem Qjo (l:List Seg) (t:TypeId) {r:Sem Next}(hl:QS (sc nx) l=true) (hr:r.run P w=.ok (.value (.pointer (some ⟨w.heap.size,0,none⟩))) (w.alloc (.cells (Qh ρ l).toArray t))):Out P ρ M nx w r (.o (.c (.p nx 0))) [(nx,.cells l t)]:=by
 have hρ:∀i,sc nx i=true->(λi=>if i=nx then w.heap.size else ρ i) i=ρ i:=λi hi=>Ze (by have:=Xv hi;omega)
 refine⟨w.alloc (.cells (Qh ρ l).toArray t),λi=>if i=nx then w.heap.size else ρ i,λi hi=>Ze (by simp at hi;omega),.val ?_,?_⟩
 . rw[hr];simp[SV.den,SA.den,SC.den]
 . have:=(Mem.alloc w (Qh ρ l) t).subset (S':=feet (denT ρ M ([(nx,SB.cells l t)].map (·.1)))) (λ_ h=>h.elim)
   simpa [denU,denB,QaB hρ hl] using this
def QoT (T:Tab) (nx:Nat) (t:TypeId):Eff:=match lkT T t with
 |some i=>bif QS (λ_=>false) i.zero then .eff [] none (.o (.c (.p nx 0))) [(nx,.cells i.zero t)]else .no
 |none=>.no
theorem Qet {T:Tab}(hT:TabOk P T) {t:TypeId}{i:TyI}(h:lkT T t=some i) (hs:QS (λ_=>false) i.zero=true):∃z:Value,∃j,P.info? t=some j/\j.zero=some z/\z.cells=(Qh ρ i.zero).toArray/\j.size=i.size:=by
 have ok:=hT t i h
 have hz:∃z:Value,(P.info? t).bind (·.zero)=some z/\z.cells=(Qh ρ i.zero).toArray/\(P.info? t).map (·.size)=some i.size:=by
  cases i with
  |one z k=>
   obtain⟨-,-,h2,h3,h4⟩:=ok
   exact⟨z,h3,by cases z<;>simp_all [Zad,Zcr,TyI.zero,Qh,Seg.den,SC.den],h2⟩
  |str z ps=>exact⟨_,ok.2.2.1,by simp only[TyI.zero]at hs ⊢;rw[Zad,Qex (ρ':=ρ) hs],ok.2.1⟩
  |arr z n es ea=>exact⟨_,ok.2.2.1,by simp only[TyI.zero]at hs ⊢;rw[Zad,Qex (ρ':=ρ) hs],ok.2.1⟩
 obtain⟨z,h1,h2,h3⟩:=hz
 cases hq:P.info? t with
 |none=>rw[hq]at h1;cases h1
 |some j=>exact⟨z,j,rfl,by simpa [hq] using h1,h2,by simpa [hq] using h3⟩
theorem QoS {T:Tab}(hT:TabOk P T) (t:TypeId):XW P V ρ M nx w (do pure (Yh (<- Instr.alloc t true (.tuple #[])))) (QoT T nx t):=by
 unfold QoT
 cases h:lkT T t with
 |none=>trivial
 |some i=>
  dsimp only
  cases hs:QS (λ_=>false) i.zero with
  |false=>trivial
  |true=>
   obtain⟨z,j,hq,h1,h2,-⟩:=Qet (ρ:=ρ) hT h hs
   intro _ _ _
   refine Qjo i.zero t (QaA (λ_ h=>by cases h) hs) ?_
   simp[Instr.alloc,zeroValue,typeInfo,hq,h1,newVar,newRow,h2,Zx]
def boxS (nx:Nat) (t:TypeId):Option SV->Eff
 |some (.o (.c x))=>bif x.ok&&x.av (sc nx)then .eff [] none (.o (.c (.p nx 0))) [(nx,.cells [.one x] t)]else .no
 |some (.o (.a l))=>bif QS (sc nx) l then .eff [] none (.o (.c (.p nx 0))) [(nx,.cells l t)]else .no
 |_=>.no
theorem QfU {v:Value}(h:v.oneCell'=true):v.cells= #[v]:=by cases v<;>simp_all [Zad,Zcr]
theorem Qsb (t:TypeId) {x:Option SV}{v:Value}(hx:∀y,x=some y->v=y.den ρ):XW P V ρ M nx w (do pure (Yh (<- Zeq t v))) (boxS nx t x):=by
 unfold boxS
 split
 . rename_i x
   have:=hx _ rfl
   subst this
   cases ho:(x.ok&&x.av (sc nx))
   . trivial
   . simp only[Zr]at ho
     intro _ _ _
     refine Qjo [.one x] t (by simp[QS,ho.2]) ?_
     simp[Zeq,newVar,newRow,QfU (SC.ok_den ho.1 ρ),SV.den,SA.den,Qh,Seg.den]
 . rename_i l
   have:=hx _ rfl
   subst this
   cases ho:QS (sc nx) l
   . trivial
   . intro _ _ _
     refine Qjo l t ho ?_
     simp[Zeq,newVar,newRow,Zad,SV.den,SA.den]
 . trivial
def rowS (ks:Nat->IntKind) (z:Nat->Nat->Int) (i:Nat):Nat->Nat->List Seg
 |_,0=>[]
 |f,n+1=>.one (.v (.int (ks f) (z i f)))::rowS ks z i (f+1) n
theorem Qj5 (ρ:Nat->Nat) (ks:Nat->IntKind) (z:Nat->Nat->Int) (i:Nat):∀(n f j:Nat),j<n->(Qh ρ (rowS ks z i f n))[j]?=some (.int (ks (f+j)) (z i (f+j)))
 |0,f,j,h=>Za
 |n+1,f,0,h=>rfl
 |n+1,f,j+1,h=>by
  have:=Qj5 ρ ks z i n (f+1) j Za
  rw[show f+1+j=f+(j+1) by omega]at this
  simpa [rowS,Qh,Seg.den] using this
theorem Qhf (ρ:Nat->Nat) (ks:Nat->IntKind) (z:Nat->Nat->Int) (i:Nat):∀(n f:Nat),(Qh ρ (rowS ks z i f n)).length=n
 |0,f=>rfl
 |n+1,f=>by simp[rowS,Qh,Seg.den,Qhf ρ ks z i n (f+1)]
def Qjp (k:Nat->CK) (g:Nat->Int):Nat->Nat->List Seg
 |_,0=>[]
 |f,n+1=>.one (.v (mkV (k f) (g f)))::Qjp k g (f+1) n
theorem QdX (ρ:Nat->Nat) (k:Nat->CK) (g:Nat->Int):∀(n f:Nat),Qh ρ (Qjp k g f n)=(Z2 n).map λj=>mkV (k (f+j)) (g (f+j))
 |0,f=>rfl
 |n+1,f=>by
  rw[Zbg]
  simp only[Qjp,Qh,Seg.den,Zb8,Z4,Yu,ZbF,QdX ρ k g n (f+1)]
  congr 1
  exact Yr λj _=>by simp only[Zdw];rw[show f+1+j=f+j.succ by omega]
def isStr:TyI->Bool
 |.str _ _=>true
 |_=>false
def runS (i:TyI) (k:CK) (f:Nat->Int) (ix:Nat):List Seg:=bif isStr i then Qjp (λ_=>k) (λj=>f (ix+j)) 0 i.size else [.ints k i.size (λj=>f (ix+j))]
theorem Qpg (ρ:Nat->Nat) (i:TyI) (k:CK) (f:Nat->Int) (ix:Nat):Qh ρ (runS i k f ix)=(Z2 i.size).map λj=>mkV k (f (ix+j)):=by
 unfold runS
 cases isStr i
 . simp[Qh,Seg.den]
 . simp[QdX]
def Qng (V:World) (T:Tab) (M:List SB) (t:TypeId):Option SV->Eff
 |some (.o (.c (.p b off)))=>match lkT T t,getB M b with
  |some (.one _ _),.cells l _=>match segGet l off with
   |some x=>.eff [b] none (.o (.c x)) []
   |none=>.no
  |some i,.cells l _=>match segSub l off i.size with
   |some l'=>bif i.size.beq 0 then .no else .eff [b] none (.o (.a l')) []
   |none=>.no
  |_,_=>.no
 |some (.o (.c (.e b off ix)))=>match lkT T t,getB M b with
  |some (.one _ _),.cells l _=>match QR l off with
   |some (k,n,f)=>.eff [b] (some (ix<n)) (sv (mkV k (f ix))) []
   |none=>.no
  |some i,.cells l _=>match QR l off with
   |some (k,n,f)=>.eff [b] (some (ix+i.size<=n)) (.o (.a (runS i k f ix))) []
   |none=>.no
  |_,_=>.no
 |some (.o (.c (.er b sz ix f)))=>match lkT T t,getB M b with
  |some (.one _ _),.rows _ ks sz' n c z=>bif sz'.beq sz&&f.blt sz then .eff [b] (some (ix<n)) (sv (mkV (ckAt ks f) (z ix f))) []else .no
  |some i,.rows _ ks sz' n c z=>bif sz'.beq sz&&(f+i.size).ble sz then .eff [b] (some (ix<n)) (.o (.a (Qjp (ckAt ks) (z ix) f i.size))) []else .no
  |_,_=>.no
 |some (.o (.c (.re a c m sz ks z i f)))=>match lkT T t with
  |some (.one _ _)=>bif f.blt sz then .eff [] (some (Rws sz ks V a m c z/\i<m)) (sv (.int (ks f) (z i f))) []else .no
  |some ti=>bif f.beq 0&&ti.size.beq sz then .eff [] (some (Rws sz ks V a m c z/\i<m)) (.o (.a (rowS ks z i 0 sz))) []else .no
  |none=>.no
 |_=>.no
theorem QdE {T:Tab}(hT:TabOk P T) {t:TypeId}{i:TyI}(h1:lkT T t=some i) (hi:∀z k,i≠ .one z k) {b off:Nat}{C:List Value}{t':TypeId}(hB:Blk w b C t') (hl:off+i.size<=C.length):
 (do pure (Yh (<- Zbh t (.pointer (some ⟨b,off,none⟩)))):Sem Next).run P w=.ok (.value (.agg ((C.drop off).take i.size).toArray)) w:=by
 obtain⟨ha,hz,-,-,-⟩:=(hT _ _ h1).agg hi
 obtain⟨d,hu,hd⟩:=Qdj ha
 have:=Qff (P:=P) w b C t' t off i.size d hB hl hu (by cases d<;>simp_all) hz
 simp[Zbh,ZaH,this]
theorem Qc5 {T:Tab}(hT:TabOk P T) {t:TypeId}{z:Value}{kd:Kd}(h1:lkT T t=some (.one z kd)) {b off:Nat}{v:Value}(hc:w.cell? ⟨b,off,none⟩=some v):
 (do pure (Yh (<- Zbh t (.pointer (some ⟨b,off,none⟩)))):Sem Next).run P w=.ok (.value v) w:=by
 have hs:=(hT _ _ h1).2.1
 simp[Zbh,ZaH,Qfg t hs _ _ hc]
theorem Xm (ks:Nat->CK) (sz:Nat) (z:Nat->Nat->Int):∀(n i j:Nat),i<n->j<sz->(QJ ks sz z n)[i*sz+j]?=some (mkV (ks j) (z i j))
 |0,i,j,h,_=>Za
 |n+1,i,j,h,hj=>by
  simp only[QJ]
  rcases Yy i n with hi|hi
  . have:i*sz+j<n*sz:=by
     have:(i+1)*sz<=n*sz:=ZK _ hi
     rw[Yi]at this;omega
    rw[Z5 (by rw[QI];exact this)]
    exact Xm ks sz z n i j hi hj
  . obtain rfl:i=n:=Za
    rw[Z8 (by rw[QI];omega),QI,show i*sz+j-i*sz=j by omega]
    simp[rowV,Ya,Y4 hj]
theorem Qj4 {b:Nat}{t:TypeId}{ks:List CK}{sz n c:Nat}{z:Nat->Nat->Int}(h:getB M b=.rows t ks sz n c z) (hR:∀e∈denB ρ b (getB M b),e.at w):RowAt w (ρ b) t sz n c (QJ (ckAt ks) sz z n):=by
 rw[h]at hR
 exact hR (.row (ρ b) t sz n c (QJ (ckAt ks) sz z n)) (by simp[denB])
theorem RowAt.blk {b:Nat}{t:TypeId}{sz n c:Nat}{xs:List Value}(h:RowAt w b t sz n c xs) (hn:0<n):∃C,Blk w b C t/\C.length=c*sz/\C.take (n*sz)=xs/\c<=maxLen:=h.2.2 (by have:=h.1;omega)
theorem RowAt.cell {b:Nat}{t:TypeId}{ks:Nat->CK}{sz n c:Nat}{z:Nat->Nat->Int}(h:RowAt w b t sz n c (QJ ks sz z n)) {i j:Nat}(hi:i<n) (hj:j<sz):w.cell? ⟨b,i*sz+j,none⟩=some (mkV (ks j) (z i j)):=by
 obtain⟨C,hB,hl,ht,-⟩:=h.blk Za
 rw[hB.cell,<- Xm ks sz z n i j hi hj,<- ht,ZO,Zf]
 have:(i+1)*sz<=n*sz:=ZK _ hi
 rw[Yi]at this;omega
def EffRd (P:Program) (ρ:Nat->Nat) (M:List SB) (w:World) (r:Sem Next):Eff->Prop
 |.eff T vc x us=>us=[]/\((∀b∈T,∀e∈denB ρ b (getB M b),e.at w)->vcP vc->r.run P w=.ok (.value (x.den ρ)) w)
 |.no=>True
 |_=>False
theorem EffRd.ok {r:Sem Next}{e:Eff}(h:EffRd P ρ M w r e):XW P V ρ M nx w r e:=by
 cases e with
 |eff T vc x us=>obtain⟨rfl,h⟩:=h;exact QF h
 |no=>trivial
 |_=>exact h.elim
theorem Qkf {T:Tab}(hT:TabOk P T) (hV:OldV V w) (t:TypeId) {x:Option SV}{v:Value}(hx:∀y,x=some y->v=y.den ρ):EffRd P ρ M w (do pure (Yh (<- Zbh t v))) (Qng V T M t x):=by
 unfold Qng
 split
 . rename_i b off
   have:=hx _ rfl
   subst this
   split
   . rename_i z k l t' h1 h2
     cases h3:segGet l off with
     |none=>trivial
     |some y=>
      refine⟨rfl,λhR _=>Qc5 hT h1 ?_⟩
      rw[(QiZ h2 (hR b (by simp))).cell];exact Qa9 ρ l off y h3
   . rename_i i l t' hi h1 h2
     cases h3:segSub l off i.size with
     |none=>trivial
     |some l'=>
      dsimp only
      cases h00:i.size.beq 0
      case true=>trivial
      rw[cond_false]
      have h0:i.size≠0:=λe=>by rw[e]at h00;cases h00
      refine⟨rfl,λhR _=>?_⟩
      obtain⟨e1,e2,e3⟩:=Qaj ρ l off i.size l' h3
      have:=QdE hT h1 (λz k e=>hi z k e) (QiZ h2 (hR b (by simp))) (by rw[Qt];exact e2 h0)
      rw[e1]at this
      exact this
   . trivial
 . rename_i b off ix
   have:=hx _ rfl
   subst this
   split
   . rename_i z k l t' h1 h2
     cases h3:QR l off with
     |none=>trivial
     |some q=>
      obtain⟨k,n,f⟩:=q
      refine⟨rfl,λhR hlt=>Qc5 hT h1 ?_⟩
      rw[(QiZ h2 (hR b (by simp))).cell];exact Qbj ρ l off k n f h3 ix hlt
   . rename_i i l t' hi h1 h2
     cases h3:QR l off with
     |none=>trivial
     |some q=>
      obtain⟨k,n,f⟩:=q
      refine⟨rfl,λhR hlt=>?_⟩
      simp only[vcP]at hlt
      have hB:=QiZ h2 (hR b (by simp))
      have hle:off+n<=(Qh ρ l).length:=by
       rw[Qt];exact Qc0 l off k n f h3
      have:=QdE hT h1 (λz k e=>hi z k e) hB (off:=off+ix) Za
      rw[show (SV.o (.a (runS i k f ix))).den ρ=.agg (((Qh ρ l).drop (off+ix)).take i.size).toArray by
       simp only[SV.den,SA.den,Qpg]
       congr 2
       apply YX
       intro j
       by_cases hj:j<i.size
       . rw[Za6 hj,YL,Ya,Y4 hj,Zab,Qbj ρ l off k n f h3 (ix+j) Za];rfl
       . rw[ZU (by simp;omega),ZU (by simp;omega)]]
      exact this
   . trivial
 . rename_i b sz ix f
   have:=hx _ rfl
   subst this
   split
   . rename_i z0 k0 t' ks sz' n c z h1 h2
     cases hb:(sz'.beq sz&&f.blt sz)
     . trivial
     . simp only[Zr]at hb
       obtain rfl:=Zo hb.1
       refine⟨rfl,λhR hlt=>Qc5 hT h1 ?_⟩
       simp only[vcP]at hlt
       exact (Qj4 h2 (hR b (by simp))).cell hlt (Xv hb.2)
   . rename_i i t' ks sz' n c z hi h1 h2
     cases hb:(sz'.beq sz&&(f+i.size).ble sz)
     . trivial
     . simp only[Zr]at hb
       obtain rfl:=Zo hb.1
       have hf:=XZ hb.2
       refine⟨rfl,λhR hlt=>?_⟩
       simp only[vcP]at hlt
       have hrow:=Qj4 h2 (hR b (by simp))
       obtain⟨C,hB,hl,ht,-⟩:=hrow.blk Za
       have h1n:(ix+1)*sz'<=n*sz':=ZK _ hlt
       have hnc:n*sz'<=c*sz':=ZK _ hrow.1
       rw[Yi]at h1n
       have:=QdE hT h1 (λz k e=>hi z k e) hB (off:=ix*sz'+f) Za
       rw[show (SV.o (.a (Qjp (ckAt ks) (z ix) f i.size))).den ρ=.agg ((C.drop (ix*sz'+f)).take i.size).toArray by
        simp only[SV.den,SA.den,QdX]
        congr 2
        apply YX
        intro j
        by_cases hj:j<i.size
        . rw[Za6 hj,YL,Ya,Y4 hj]
          have:=hrow.cell (i:=ix) (j:=f+j) hlt Za
          rw[hB.cell]at this
          rw[Zab,this];rfl
        . rw[ZU (by simp;omega),ZU (by simp;omega)]]
       exact this
   . trivial
 . rename_i a c m sz ks z i f
   have:=hx _ rfl
   subst this
   split
   . rename_i z0 k0 h1
     cases hb:f.blt sz
     . trivial
     . refine⟨rfl,λ_ h=>?_⟩
       obtain⟨hr,hi⟩:=h
       obtain⟨b,off,rfl,-,hc⟩:=(hV _ _ _ _ _ _ hr).at i hi
       have e:(SV.o (.c (.re (some ⟨b,off,none⟩) c m sz ks z i f))).den ρ=.pointer (some ⟨b,off+i*sz+f,none⟩):=by
        simp only[SV.den,SA.den,SC.den,Qcn,Zab]
       rw[e]
       exact Qc5 hT h1 (hc f (Xv hb)).1
   . rename_i ti hone h1
     cases hb:(f.beq 0&&ti.size.beq sz)
     . trivial
     . simp only[Zr]at hb
       obtain rfl:=Zo hb.1
       have hsz:=Zo hb.2
       refine⟨rfl,λ_ h=>?_⟩
       obtain⟨hr,hi⟩:=h
       obtain⟨b,off,rfl,-,hc⟩:=(hV _ _ _ _ _ _ hr).at i hi
       obtain⟨ha,hz,-,-,-⟩:=(hT _ _ h1).agg (λz k e=>hone z k e)
       obtain⟨d,hu,hd⟩:=Qdj ha
       have e:(SV.o (.c (.re (some ⟨b,off,none⟩) c m sz ks z i 0))).den ρ=.pointer (some ⟨b,off+i*sz,none⟩):=by
        simp only[SV.den,SA.den,SC.den,Qcn,Yu]
       rw[e]
       have hmid:=run_loadVar_mid (P:=P) w b (off+i*sz) t (Qh ρ (rowS ks z i 0 sz)) d (λj v hv=>by
        have hj:j<sz:=by
         have:=(List.getElem?_eq_some_iff.1 hv).1
         rwa [Qhf]at this
        rw[Qj5 ρ ks z i sz 0 j hj,Zu,Zn]at hv
        subst hv
        exact (hc j hj).1) hu (by cases d<;>simp_all [TypeDesc.isRow]) (by rw[Qhf,<- hsz];exact hz)
       simp[Zbh,ZaH,hmid,SV.den,SA.den]
   . trivial
 . trivial
theorem QpJ {T:Tab}(hT:TabOk P T) (hV:OldV V w) (t:TypeId) {x:Option SV}{v:Value}(hx:∀y,x=some y->v=y.den ρ):XW P V ρ M nx w (do pure (Yh (<- Zbh t v))) (Qng V T M t x):=(Qkf hT hV t hx).ok
def Qey (k:CK):List Seg->Option (List Int)
 |[]=>some []
 |.one (.v u)::r=>match valI k u,Qey k r with
  |some z,some l=>some (z::l)
  |_,_=>none
 |_=>none
def Qj0 (k:CK):List Seg->Option (Nat->Int)
 |[.ints k' _ g]=>bif (ckN k).beq (ckN k')then some g else none
 |l=>match Qey k l with
  |some zs=>some (λi=>zs.getD i 0)
  |none=>none
theorem QfG (ρ:Nat->Nat) (k:CK):∀(l:List Seg) (zs:List Int),Qey k l=some zs->Qh ρ l=(Z2 (Qq l)).map λi=>mkV k (zs.getD i 0)
 |[],zs,h=>rfl
 |.ints _ _ _::r,zs,h=>by simp[Qey]at h
 |.one x::r,zs,h=>by
  cases x with
  |v u=>
   simp only[Qey]at h
   split at h
   . rename_i z l h1 h2
     simp only[Zn]at h;subst h
     have ih:=QfG ρ k r l h2
     simp only[Qh,Seg.den,Qq,Seg.len,SC.den,<- Qdu h1,ih]
     rw[Zb0,Zbg]
     simp
   . cases h
  |_=>simp[Qey]at h
theorem Qk7 (ρ:Nat->Nat) {k:CK}{l:List Seg}{g:Nat->Int}(h:Qj0 k l=some g):Qh ρ l=(Z2 (Qq l)).map λi=>mkV k (g i):=by
 unfold Qj0 at h
 split at h
 . rename_i k' n g'
   cases hk:(ckN k).beq (ckN k')
   . rw[hk]at h;cases h
   . rw[hk]at h
     have:=QhU hk
     subst this
     simp only[cond_true,Zn]at h;subst h
     simp[Qh,Seg.den,Qq,Seg.len]
 . split at h
   . rename_i zs hz
     simp only[Zn]at h;subst h
     exact QfG ρ k _ zs hz
   . cases h
def Qdt (ks:Nat->CK):Nat->List Seg->Option (List Int)
 |_,[]=>some []
 |f,.one (.v u)::r=>match valI (ks f) u,Qdt ks (f+1) r with
  |some z,some l=>some (z::l)
  |_,_=>none
 |_,_=>none
theorem Qdc (ρ:Nat->Nat) (ks:Nat->CK):∀(l:List Seg) (f:Nat) (zs:List Int),Qdt ks f l=some zs->zs.length=Qq l/\Qh ρ l=(Z2 (Qq l)).map λi=>mkV (ks (f+i)) (zs.getD i 0)
 |[],f,zs,h=>by simp only[Qdt,Zn]at h;subst h;exact⟨rfl,rfl⟩
 |.ints _ _ _::r,f,zs,h=>by simp[Qdt]at h
 |.one x::r,f,zs,h=>by
  cases x with
  |v u=>
   simp only[Qdt]at h
   split at h
   . rename_i z l h1 h2
     simp only[Zn]at h;subst h
     obtain⟨ih1,ih⟩:=Qdc ρ ks r (f+1) l h2
     refine⟨by simp only[Yf,Qq,Seg.len,ih1];omega,?_⟩
     simp only[Qh,Seg.den,Qq,Seg.len,SC.den,<- Qdu h1,ih]
     rw[Zb0 1,Zbg]
     simp only[Zb8,Z4,ZbF,Yu,Zdr]
     congr 1
     exact Yr λj _=>by simp only[Zdw,List.getD_cons_succ];rw[show f+1+j=f+j.succ by omega]
   . cases h
  |_=>simp[Qdt]at h
def updR (z:Nat->Nat->Int) (ix f:Nat) (zs:List Int):Nat->Nat->Int:=λi j=>bif i.beq ix&&(f.ble j&&j.blt (f+zs.length))then zs.getD (j-f) 0 else z i j
def Qmp (T:Tab) (M:List SB) (t:TypeId):Option SV->Option SV->Eff
 |some (.o (.c (.p b off))),some (.o (.c y))=>match lkT T t,getB M b with
  |some (.one _ _),.cells l t'=>match Qap l off y with
   |some l'=>bif y.ok then .eff [] none (sv undef) [(b,.cells l' t')]else .no
   |none=>.no
  |_,_=>.no
 |some (.o (.c (.p b off))),some (.o (.a m))=>match lkT T t,getB M b with
  |some (.one _ _),_=>.no
  |some i,.cells l t'=>match Qbi l off m with
   |some l'=>bif Qdo m&&(Qq m).beq i.size then .eff [] none (sv undef) [(b,.cells l' t')]else .no
   |none=>.no
  |_,_=>.no
 |some (.o (.c (.e b off ix))),some (.o (.c (.v u)))=>match lkT T t,getB M b with
  |some (.one _ _),.cells l t'=>match QR l off with
   |some (k,n,f)=>match valI k u with
    |some z=>match Qcf l off ix z with
     |some l'=>.eff [] (some (ix<n)) (sv undef) [(b,.cells l' t')]
     |none=>.no
    |none=>.no
   |none=>.no
  |_,_=>.no
 |some (.o (.c (.e b off ix))),some (.o (.a m))=>match lkT T t,getB M b with
  |some (.one _ _),_=>.no
  |some i,.cells l t'=>match QR l off with
   |some (k,n,f)=>match Qj0 k m with
    |some g=>match Qcg l off (λj=>bif ix.ble j&&j.blt (ix+i.size)then g (j-ix)else f j)with
     |some l'=>bif (Qq m).beq i.size then .eff [] (some (ix+i.size<=n)) (sv undef) [(b,.cells l' t')]else .no
     |none=>.no
    |none=>.no
   |none=>.no
  |_,_=>.no
 |some (.o (.c (.er b sz ix f))),some (.o (.c (.v u)))=>match lkT T t,getB M b with
  |some (.one _ _),.rows t' ks sz' n c z=>bif sz'.beq sz&&f.blt sz then (match valI (ckAt ks f) u with
   |some y=>.eff [] (some (ix<n)) (sv undef) [(b,.rows t' ks sz' n c (updR z ix f [y]))]
   |none=>.no)else .no
  |_,_=>.no
 |some (.o (.c (.er b sz ix f))),some (.o (.a m))=>match lkT T t,getB M b with
  |some (.one _ _),_=>.no
  |some i,.rows t' ks sz' n c z=>bif sz'.beq sz&&(f+i.size).ble sz&&(Qq m).beq i.size then (match Qdt (ckAt ks) f m with
   |some zs=>.eff [] (some (ix<n)) (sv undef) [(b,.rows t' ks sz' n c (updR z ix f zs))]
   |none=>.no)else .no
  |_,_=>.no
 |_,_=>.no
theorem Qrz {t:TypeId}(h:(P.info? t).map (·.size)=some 1):oneB P t=true:=by unfold oneB;rw[h];rfl
theorem Qdw {T:Tab}(hT:TabOk P T) {t:TypeId}{z:Value}{kd:Kd}(h1:lkT T t=some (.one z kd)) {b off:Nat}{C:List Value}{t':TypeId}{v:Value}(hB:Blk w b C t') (hl:off<C.length) (hv:v.oneCell'=true):
 (do Zcb t (.pointer (some ⟨b,off,none⟩)) v;pure Zcq:Sem Next).run P w=.ok .skip (w.setCell ⟨b,off,none⟩ v):=by
 have hc:w.cell? ⟨b,off,none⟩=some C[off]:=by rw[hB.cell];exact Zy hl
 have hr:=QeA (P:=P) t (Qrz (hT _ _ h1).2.2.1) ⟨b,off,none⟩ v _ hv hc (hB.frozen _)
 simp only[Zcb,ZaH,Zx,ZZ,ZD,hr]
theorem Qcy {T:Tab}(hT:TabOk P T) {t:TypeId}{i:TyI}(h1:lkT T t=some i) (hi:∀z k,i≠ .one z k) {b off:Nat}{C vs:List Value}{t':TypeId}(hB:Blk w b C t') (hn:vs.length=i.size) (hl:off+i.size<=C.length) (hv:∀v∈vs,v.oneCell'=true):
 (do Zcb t (.pointer (some ⟨b,off,none⟩)) (.agg vs.toArray);pure Zcq:Sem Next).run P w=.ok .skip (setBlk w b (spl C off vs)):=by
 obtain⟨ha,hz,-,-,-⟩:=(hT _ _ h1).agg hi
 have hr:=Qez (P:=P) w b C t' t off i.size vs hB hn hl hz hv
 simp only[Zcb,ZaH,Zx,ZZ,ZD,hr]
theorem Qhr (w:World) (b o:Nat) (v:Value):Kept (λg=>g=b) w (w.setCell ⟨b,o,none⟩ v):=(Kept.refl (λg=>g=b) w).setCell (p:=⟨b,o,none⟩) (.inl rfl) _
theorem Qd1 (w:World) (b:Nat) (C:List Value):Kept (λg=>g=b) w (setBlk w b C):=(Kept.setBlk w b C).mono (λk hk=>hk)
theorem Qrt {b:Nat}{t:TypeId}{ks:List CK}{sz n c:Nat}{z:Nat->Nat->Int}{x:SB}(h:getB M b=.rows t ks sz n c z) (hW:Mem w (feet (denT ρ M (([(b,x)]:Ups).map (·.1)))) (denT ρ M (([(b,x)]:Ups).map (·.1))) w):RowAt w (ρ b) t sz n c (QJ (ckAt ks) sz z n):=
 hW.holds (.row (ρ b) t sz n c (QJ (ckAt ks) sz z n)) (by simp[denT,denB,h])
theorem Qjn {b:Nat}{t:TypeId}{ks:List CK}{sz n c:Nat}{z z':Nat->Nat->Int}(h:getB M b=.rows t ks sz n c z) (hc:0<c) {r:Sem Next}{x:SV}{w':World}(hr:Res P w r (x.den ρ) w') (hk:Kept (λg=>g=ρ b) w w') (hB:RowAt w' (ρ b) t sz n c (QJ (ckAt ks) sz z' n)):Out P ρ M nx w r x [(b,.rows t ks sz n c z')]:=by
 refine⟨w',ρ,λ_ _=>rfl,hr,?_⟩
 have hf:feet (denT ρ M ([(b,SB.rows t ks sz n c z')].map (·.1))) (ρ b):=⟨.row (ρ b) t sz n c (QJ (ckAt ks) sz z n),by simp[denT,denB,h],hc,rfl⟩
 exact .one (hk.mono (λg hg=>by subst hg;exact hf)) hB (λg hg=>.inl (by have hg:0<c/\ρ b=g:=hg;rw[<- hg.2];exact hf))
theorem Qbn {ks:Nat->CK}{sz n:Nat}{z:Nat->Nat->Int}{L:List Value}(hl:L.length=n*sz) (h:∀i j,i<n->j<sz->L[i*sz+j]?=some (mkV (ks j) (z i j))):L=QJ ks sz z n:=by
 apply YX
 intro q
 by_cases hq:q<n*sz
 . have hs:0<sz:=by
    rcases Yz sz with h0|h0
    . subst h0;omega
    . exact h0
   have e:q=q/sz*sz+q%sz:=by rw[ZaE];exact (Zd8 q sz).symm
   have h1:q/sz<n:=Zdc (by rw[ZaE];exact hq)
   have h2:=Nat.mod_lt q hs
   rw[e,h _ _ h1 h2,Xm ks sz z n _ _ h1 h2]
 . rw[ZU Za,ZU (by rw[QI];omega)]
theorem RowAt.put {w w':World}{b:Nat}{t:TypeId}{ks:Nat->CK}{sz n c:Nat}{z:Nat->Nat->Int}(h:RowAt w b t sz n c (QJ ks sz z n)) {ix f:Nat}{zs:List Int}(hix:ix<n) (hf:f+zs.length<=sz)
 (hw:∀C,Blk w b C t->Blk w' b (spl C (ix*sz+f) ((Z2 zs.length).map λi=>mkV (ks (f+i)) (zs.getD i 0))) t):RowAt w' b t sz n c (QJ ks sz (updR z ix f zs) n):=by
 obtain⟨C,hB,hl,ht,hm⟩:=h.blk Za
 have h1n:(ix+1)*sz<=n*sz:=ZK _ hix
 have hnc:n*sz<=c*sz:=ZK _ h.1
 rw[Yi]at h1n
 refine⟨h.1,QI _ _ _ _,λ_=>⟨_,hw C hB,by rw[XE _ _ _ (by simp;omega)];exact hl,?_,hm⟩⟩
 apply Qbn
 . rw[ZW,XE _ _ _ (by simp;omega)];omega
 intro i j hi hj
 have hij:(i+1)*sz<=n*sz:=ZK _ hi
 rw[Yi]at hij
 have hC:C[i*sz+j]?=some (mkV (ks j) (z i j)):=by
  rw[<- Xm ks sz z n i j hi hj,<- ht,ZO,Zf Za]
 rw[ZO,Zf Za]
 unfold spl updR
 simp only[Zbv,Zw,ZW,ZN,YJ,ZO,YL,Ya]
 rw[YM (show ix*sz+f<=C.length by omega)]
 by_cases he:i=ix
 . subst he
   simp only[show i.beq i=true by simp,Bool.true_and]
   by_cases h1:j<f
   . rw[Zf Za,Zf Za,Zf Za,hC]
     simp[show f.ble j=false by cases hb:f.ble j;rfl;exact absurd (XZ hb) Za]
   . by_cases h2:j<f+zs.length
     . rw[Zf Za,Ze Za,Y4 Za]
       simp only[show f.ble j=true from Ys Za,show j.blt (f+zs.length)=true by simpa [ZbR] using h2,ZbN,cond_true,YF]
       rw[show i*sz+j-(i*sz+f)=j-f by omega,show f+(j-f)=j by omega]
     . rw[Ze Za,show i*sz+f+zs.length+(i*sz+j-(i*sz+f+zs.length))=i*sz+j by omega,hC]
       simp[show j.blt (f+zs.length)=false by cases hb:j.blt (f+zs.length);rfl;exact absurd (Xv hb) Za]
 . simp only[nbeq he,Zcs,cond_false]
   rcases Nat.lt_or_gt_of_ne he with hlt|hgt
   . have:(i+1)*sz<=ix*sz:=ZK _ hlt
     rw[Yi]at this
     rw[Zf Za,Zf Za,Zf Za,hC]
   . have:(ix+1)*sz<=i*sz:=ZK _ hgt
     rw[Yi]at this
     rw[Ze Za,show ix*sz+f+zs.length+(i*sz+j-(ix*sz+f+zs.length))=i*sz+j by omega,hC]
theorem Qmo {T:Tab}(hT:TabOk P T) (t:TypeId) {x y:Option SV}{v u:Value}(hx:∀s,x=some s->v=s.den ρ) (hy:∀s,y=some s->u=s.den ρ):XW P V ρ M nx w (do Zcb t v u;pure Zcq) (Qmp T M t x y):=by
 unfold Qmp
 split
 . rename_i b off y
   have:=hx _ rfl
   subst this
   have:=hy _ rfl
   subst this
   split
   . rename_i z k l t' h1 h2
     cases h3:Qap l off y with
     |none=>trivial
     |some l'=>
      dsimp only
      cases ho:y.ok
      . trivial
      . intro _ hW _
        obtain⟨e1,e2⟩:=QbO ρ l off y l' h3
        have hB:=Qou h2 hW
        exact QfT h2 (.skip (Qdw hT h1 hB (by rw[Qt];exact e2) (SC.ok_den ho ρ))) (Qhr w _ _ _) (by rw[<- e1];exact hB.set off _)
   . trivial
 . rename_i b off m
   have:=hx _ rfl
   subst this
   have:=hy _ rfl
   subst this
   split
   . trivial
   . rename_i i l t' hi h1 h2
     cases h3:Qbi l off m with
     |none=>trivial
     |some l'=>
      dsimp only
      cases ho:(Qdo m&&(Qq m).beq i.size)
      . trivial
      . simp only[Zr]at ho
        intro _ hW _
        obtain⟨e1,e2⟩:=Qa8 ρ l off m l' h3
        have hB:=Qou h2 hW
        have hsz:=Zo ho.2
        exact QfT h2 (.skip (Qcy hT h1 (λz k e=>hi z k e) hB (vs:=Qh ρ m) (by rw[Qt,hsz]) (by rw[Qt];omega) (Qdx ho.1))) (Qd1 w _ _) (by rw[<- e1];exact hB.setBlk _)
   . trivial
 . rename_i b off ix u
   have:=hx _ rfl
   subst this
   have:=hy _ rfl
   subst this
   split
   . rename_i z0 k0 l t' h1 h2
     cases h3:QR l off with
     |none=>trivial
     |some q=>
      obtain⟨k,n,f⟩:=q
      dsimp only
      cases h4:valI k u with
      |none=>trivial
      |some z=>
       dsimp only
       cases h5:Qcf l off ix z with
       |none=>trivial
       |some l'=>
        intro _ hW hlt
        simp only[vcP]at hlt
        obtain⟨e1,e2⟩:=Qdy ρ l off ix z l' k n f h3 hlt h5
        have hB:=Qou h2 hW
        rw[Qdu h4]at e1
        exact QfT h2 (.skip (Qdw hT h1 hB (by rw[Qt];exact e2) (by rw[<- Qdu h4];exact QdD _ _))) (Qhr w _ _ _) (by rw[<- e1];exact hB.set _ _)
   . trivial
 . rename_i b off ix m
   have:=hx _ rfl
   subst this
   have:=hy _ rfl
   subst this
   split
   . trivial
   . rename_i i l t' hi h1 h2
     cases h3:QR l off with
     |none=>trivial
     |some q=>
      obtain⟨k,n,f⟩:=q
      dsimp only
      cases h4:Qj0 k m with
      |none=>trivial
      |some g=>
       dsimp only
       cases h5:Qcg l off (λj=>bif ix.ble j&&j.blt (ix+i.size)then g (j-ix)else f j)with
       |none=>trivial
       |some l'=>
        dsimp only
        cases ho:(Qq m).beq i.size
        . trivial
        . intro _ hW hlt
          simp only[vcP]at hlt
          have hsz:=Zo ho
          have hB:=Qou h2 hW
          have hle:=Qc0 l off k n f h3
          have hd:=Qdz ρ l off _ l' k n f h3 h5
          have hm:=Qk7 ρ h4
          have e1:spl (Qh ρ l) (off+ix) (Qh ρ m)=Qh ρ l':=by
           rw[hd,hm,hsz]
           apply YX
           intro j
           unfold spl
           simp only[Zbv,Zw,ZW,ZN,YJ,ZO,YL,Ya,Qt]
           rw[YM Za,YM Za]
           by_cases c1:j<off
           . rw[Zf Za,Zf Za,Zf Za,Zf Za,Zf c1,Zf c1]
           . by_cases c2:j<off+n
             . rw[Zf c2,Ze c1,Y4 (show j-off<n by omega)]
               have hlj:=Qbj ρ l off k n f h3 (j-off) Za
               rw[show off+(j-off)=j by omega]at hlj
               by_cases c3:j<off+ix
               . rw[Zf Za,Zf c3,Zf c3,hlj]
                 simp only[YF,Qov (show j-off<ix by omega),Zcs,cond_false]
               . by_cases c4:j<off+ix+i.size
                 . rw[Zf c4,Ze c3,Y4 (show j-(off+ix)<i.size by omega)]
                   simp only[YF,show ix.ble (j-off)=true from Ys Za,QaS (show j-off<ix+i.size by omega),ZbN,cond_true]
                   rw[show j-off-ix=j-(off+ix) by omega]
                 . rw[Ze c4,show off+ix+i.size+(j-(off+ix+i.size))=j by omega,hlj]
                   simp only[YF,blt_ff (show ix+i.size<=j-off by omega),ZaI,cond_false]
             . rw[Ze Za,Ze c2,show off+ix+i.size+(j-(off+ix+i.size))=j by omega,show off+n+(j-(off+n))=j by omega]
          exact QfT h2 (.skip (Qcy hT h1 (λz k e=>hi z k e) hB (vs:=Qh ρ m) (by rw[Qt,hsz]) (by rw[Qt];omega) (by rw[hm];intro v hv;simp only[ZbD]at hv;obtain⟨_,-,rfl⟩:=hv;exact QdD _ _))) (Qd1 w _ _) (by rw[<- e1];exact hB.setBlk _)
   . trivial
 . rename_i b sz ix f u
   have:=hx _ rfl
   subst this
   have:=hy _ rfl
   subst this
   split
   . rename_i z0 k0 t' ks sz' n c z h1 h2
     cases hb:(sz'.beq sz&&f.blt sz)
     . trivial
     . simp only[Zr]at hb
       obtain rfl:=Zo hb.1
       have hf:=Xv hb.2
       dsimp only[cond_true]
       cases h4:valI (ckAt ks f) u with
       |none=>trivial
       |some y=>
        intro _ hW hlt
        simp only[vcP]at hlt
        have hrow:=Qrt h2 hW
        obtain⟨C,hB,hl,ht,-⟩:=hrow.blk Za
        have h1n:(ix+1)*sz'<=n*sz':=ZK _ hlt
        have hnc:n*sz'<=c*sz':=ZK _ hrow.1
        rw[Yi]at h1n
        refine Qjn h2 (by have:=hrow.1;omega) (.skip (Qdw hT h1 hB (off:=ix*sz'+f) (v:=u) Za (by rw[<- Qdu h4];exact QdD _ _))) (Qhr w _ _ _) (hrow.put hlt (zs:=[y]) (by simp;omega) (λC' hC'=>?_))
        have he:C'=C:=by
         have h1:w.heap[ρ b]?=some (.cells C'.toArray t' (0,0)):=hC'
         have h2:w.heap[ρ b]?=some (.cells C.toArray t' (0,0)):=hB
         rw[h1]at h2;simpa using h2
        subst he
        have:=hB.set (ix*sz'+f) u
        have e:spl C' (ix*sz'+f) ((Z2 ([y]:List Int).length).map λi=>mkV (ckAt ks (f+i)) (([y]:List Int).getD i 0))=C'.set (ix*sz'+f) u:=by
         simp only[Yd,List.range_one,Z4,List.map_nil,Yu,Zdr,Qdu h4]
         unfold spl
         rw[ZbW,Zf Za];simp
        rw[e];exact this
   . trivial
 . rename_i b sz ix f m
   have:=hx _ rfl
   subst this
   have:=hy _ rfl
   subst this
   split
   . trivial
   . rename_i i t' ks sz' n c z hi h1 h2
     cases hb:(sz'.beq sz&&(f+i.size).ble sz&&(Qq m).beq i.size)
     . trivial
     . simp only[Zr]at hb
       obtain⟨⟨hb1,hb2⟩,hb3⟩:=hb
       obtain rfl:=Zo hb1
       have hf:=XZ hb2
       have hsz:=Zo hb3
       dsimp only[cond_true]
       cases h4:Qdt (ckAt ks) f m with
       |none=>trivial
       |some zs=>
        intro _ hW hlt
        simp only[vcP]at hlt
        have hrow:=Qrt h2 hW
        obtain⟨C,hB,hl,ht,-⟩:=hrow.blk Za
        have h1n:(ix+1)*sz'<=n*sz':=ZK _ hlt
        have hnc:n*sz'<=c*sz':=ZK _ hrow.1
        rw[Yi]at h1n
        obtain⟨hz1,hz2⟩:=Qdc ρ (ckAt ks) m f zs h4
        refine Qjn h2 (by have:=hrow.1;omega) (.skip (Qcy hT h1 (λz k e=>hi z k e) hB (off:=ix*sz'+f) (vs:=Qh ρ m) (by rw[Qt,hsz]) Za (by rw[hz2];intro v hv;simp only[ZbD]at hv;obtain⟨_,-,rfl⟩:=hv;exact QdD _ _))) (Qd1 w _ _) (hrow.put hlt (zs:=zs) Za (λC' hC'=>?_))
        have he:C'=C:=by
         have h1:w.heap[ρ b]?=some (.cells C'.toArray t' (0,0)):=hC'
         have h2:w.heap[ρ b]?=some (.cells C.toArray t' (0,0)):=hB
         rw[h1]at h2;simpa using h2
        subst he
        rw[hz1,<- hz2];exact hB.setBlk _
   . trivial
 . trivial
end
end
section
open Go.RowKit
section
variable {P:Program}{V w:World}{ρ:Nat->Nat}{M:List SB}{nx:Nat}
theorem QfR {t:TypeId}{ps:List (Nat × Nat × Bool)}(h:QfS P t=some ps) {f:Nat}{o n:Nat}{ag:Bool}(hf:ps[f]?=some (o,n,ag)):
 ∃fs fd,P.underlying t=some (.struct fs)/\fs[f]?=some fd/\fd.offset=o/\((P.info? fd.type).map (·.size)).getD 0=n/\Qa0 P fd.type=ag:=by
 unfold QfS at h
 split at h
 . rename_i fs hu
   simp only[Zn]at h;subst h
   rw[Ya]at hf
   cases hg:fs.toList[f]? with
   |none=>rw[hg]at hf;cases hf
   |some fd=>
    rw[hg]at hf
    simp only[YF,Zn,ZT]at hf
    exact⟨fs,fd,hu,by rw[<- Zbp];exact hg,hf.1,hf.2.1,hf.2.2⟩
 . cases h
theorem Qb5 {t n es:Nat}{ea:Bool}(h:QqA P t=some (n,es,ea)):∃e,P.underlying t=some (.array n e)/\((P.info? e).map (·.size)).getD 0=es/\Qa0 P e=ea:=by
 unfold QqA at h
 split at h
 . rename_i m e hu
   simp only[Zn,ZT]at h
   obtain⟨rfl,h2,h3⟩:=h
   exact⟨e,hu,h2,h3⟩
 . cases h
theorem Qbq {t n:Nat}(h:((P.info? t).map (·.size)).getD 0=n) (hn:n≠0):∃i,P.info? t=some i/\i.size=n:=by
 cases hq:P.info? t with
 |none=>rw[hq]at h;exact absurd h.symm hn
 |some i=>exact⟨i,rfl,by rw[hq]at h;simpa using h⟩
theorem QaK (b off n:Nat):(⟨b,off,none⟩:Addr).add n=⟨b,off+n,none⟩:=by unfold Zce;split<;>simp_all
theorem TyOk.size {t:TypeId}{i:TyI}(h:TyOk P t i):(P.info? t).map (·.size)=some i.size:=by
 cases i with
 |one z k=>exact h.2.2.1
 |str z ps=>exact h.2.1
 |arr z n es ea=>exact h.2.1
theorem QbU {t e:Nat}(h:kdOf P t=.slice e):P.underlying t=some (.slice e):=by
 unfold kdOf at h;split at h<;>simp_all
def fldP (T:Tab) (t f:Nat):Option Nat:=match lkT T t with
 |some (.str _ ps)=>match ps[f]? with
  |some (o,n,_)=>bif n.beq 0 then none else some o
  |none=>none
 |_=>none
theorem Qck {T:Tab}(hT:TabOk P T) {t f o:Nat}(h:fldP T t f=some o) (b off:Nat):(Zdx t (.pointer (some ⟨b,off,none⟩)) f).run P w=.ok (.pointer (some ⟨b,off+o,none⟩)) w:=by
 unfold fldP at h
 split at h
 . rename_i z ps h1
   split at h
   . rename_i o' n ag h2
     cases h3:n.beq 0
     . rw[h3]at h
       simp only[cond_false,Zn]at h;subst h
       obtain⟨fs,fd,hu,hg,ho,hn,-⟩:=QfR (hT _ _ h1).1 h2
       have hn0:n≠0:=λe=>by subst e;cases h3
       obtain⟨i,hi,hs⟩:=Qbq hn hn0
       simp[Zdx,run_underlying hu,hg,ZaH,fieldPlace,sizeOf,typeInfo,hi,hs,hn0,Zx,QaK,ho]
     . rw[h3]at h;cases h
   . cases h
 . cases h
def QeJ (V:World) (T:Tab) (t f:Nat):Option SV->Eff
 |some (.o (.c (.p b off)))=>match fldP T t f with
  |some o=>.val none (.o (.c (.p b (off+o))))
  |none=>.no
 |some (.o (.c (.e b off ix)))=>match fldP T t f with
  |some o=>.val none (.o (.c (.e b off (ix+o))))
  |none=>.no
 |some (.o (.c (.er b sz ix g)))=>match fldP T t f with
  |some o=>.val none (.o (.c (.er b sz ix (g+o))))
  |none=>.no
 |some (.o (.c (.re a c m sz ks z i g)))=>match fldP T t f with
  |some o=>.val (some (Rws sz ks V a m c z/\i<m)) (.o (.c (.re a c m sz ks z i (g+o))))
  |none=>.no
 |_=>.no
theorem QhD {T:Tab}(hT:TabOk P T) (t f:Nat) {x:Option SV}{v:Value}(hx:∀y,x=some y->v=y.den ρ):XW P V ρ M nx w (do pure (Yh (<- Zdx t v f))) (QeJ V T t f x):=by
 unfold QeJ
 split
 case h_5=>trivial
 all_goals (have:=hx _ rfl;subst this;cases h:fldP T t f with
  |none=>trivial
  |some o=>?_)
 . refine QF λ_ _=>?_
   simp only[SV.den,SA.den,SC.den,Zx,Qck hT h,ZD,ZZ]
 . refine QF λ_ _=>?_
   simp only[SV.den,SA.den,SC.den,Zx,Qck hT h,ZD,ZZ,Zab]
 . refine QF λ_ _=>?_
   simp only[SV.den,SA.den,SC.den,Zx,Qck hT h,ZD,ZZ,Zab]
 . refine QF λ_ hr=>?_
   obtain⟨b,off,rfl,-,-⟩:=hr.1.at _ hr.2
   simp only[SV.den,SA.den,SC.den,Qcn,Zx,Qck hT h,ZD,ZZ,Zab]
def Qps (l:List Seg) (o n:Nat) (ag:Bool):Eff:=
 bif ag then (match segSub l o n with
  |some l'=>bif n.beq 0 then .no else .val none (.o (.a l'))
  |none=>.no)
 else match segGet l o with
  |some x=>.val none (.o (.c x))
  |none=>.no
theorem Qpr {l:List Seg}{o n e:Nat}{ag:Bool}(hn:((P.info? e).map (·.size)).getD 0=n) (ha:Qa0 P e=ag) (hs:(P.underlying e).isSome=true ):
 XW P V ρ M nx w (do pure (Yh (<- part e (Qh ρ l).toArray o))) (Qps l o n ag):=by
 unfold Qps
 obtain⟨d,hd⟩:=Option.isSome_iff_exists.mp hs
 cases hb:ag
 . dsimp only[cond_false]
   cases h1:segGet l o with
   |none=>trivial
   |some x=>
    refine QF λ_ _=>?_
    have hc:=Qa9 ρ l o x h1
    have hag:(isAgg e).run P w=.ok false w:=by
     rw[hb]at ha
     unfold Qa0 at ha
     unfold isAgg
     rw[Zx,run_underlying hd w]
     rw[hd]at ha
     cases d<;>simp_all
    simp[part,hag,hc,Zx,SV.den,SA.den]
 . dsimp only[cond_true]
   cases h1:segSub l o n with
   |none=>trivial
   |some l'=>
    dsimp only
    cases h00:n.beq 0
    case true=>trivial
    rw[cond_false]
    have h0:n≠0:=λe=>by rw[e]at h00;cases h00
    refine QF λ_ _=>?_
    obtain⟨i,hi,hsz⟩:=Qbq hn h0
    obtain⟨e1,e2,e3⟩:=Qaj ρ l o n l' h1
    have hag:(isAgg e).run P w=.ok true w:=by
     rw[hb]at ha
     unfold Qa0 at ha
     unfold isAgg
     rw[Zx,run_underlying hd w]
     rw[hd]at ha
     cases d<;>simp_all
    have e4:((Qh ρ l).toArray.extract o (o+n))=(Qh ρ l').toArray:=by
     rw[<- e1]
     simp[Zdd,ZcG]
    simp[part,hag,sizeOf,typeInfo,hi,hsz,Zx,e1,SV.den,SA.den]
def QnX (T:Tab) (t f:Nat):Option SV->Eff
 |some (.o (.a l))=>match lkT T t with
  |some (.str _ ps)=>match ps[f]? with
   |some (o,n,ag)=>Qps l o n ag
   |none=>.no
  |_=>.no
 |_=>.no
def QdB (P:Program) (t:TypeId):Bool:=match P.underlying t with
 |some (.struct fs)=>fs.toList.all λf=>(P.underlying f.type).isSome
 |some (.array _ e)=>(P.underlying e).isSome
 |_=>true
def Xa (P:Program) (t:TypeId):Nat:=((P.info? t).map (·.size)).getD 0
def seqF (P:Program):Nat->List Field->Option Nat
 |o,[]=>some o
 |o,f::r=>if f.offset=o/\f.name≠ "_" then seqF P (o+Xa P f.type) r else none
def Qf7 (P:Program):Nat->TypeId->Bool
 |0,_=>false
 |d+1,t=>(P.info? t).isSome&&match P.underlying t with
  |some (.int _)=>Xa P t==1
  |some (.struct fs)=>!P.stoodInHeld t&&(fs.toList.all (λf=>Qf7 P d f.type))&&seqF P 0 fs.toList==some (Xa P t)
  |some (.array n e)=>Qf7 P d e&&Xa P t==n*Xa P e && !(Xa P e==0)
  |_=>false
def eqTy (P:Program) (t:TypeId):Bool:=Qf7 P 12 t && !P.eqGuardType P.depth t
def Qhs:List Seg->Bool
 |[]=>true
 |.one (.v (.int _ _))::r=>Qhs r
 |.ints (.int _) _ _::r=>Qhs r
 |_=>false
def Qd2:TyI->Bool
 |.one _ _=>false
 |.str z _=>Qhs z
 |.arr z _ _ _=>Qhs z
def QhV (P:Program) (t:TypeId):Bool:=match P.info? t with
 |some i=>i.bytes.ble 2048
 |none=>false
def TysOk (P:Program) (T:Tab):Prop:=P.follows .mixedOrders=true/\∀t i,lkT T t=some i->QdB P t=true/\(Qd2 i=true->eqTy P t=true)/\QhV P t=true
theorem QnW {T:Tab}(hT:TabOk P T) (hT2:TysOk P T) (t f:Nat) {x:Option SV}{v:Value}(hx:∀y,x=some y->v=y.den ρ):XW P V ρ M nx w (do pure (Yh (<- Zd4 t v f))) (QnX T t f x):=by
 unfold QnX
 split
 . rename_i l
   have:=hx _ rfl
   subst this
   split
   . rename_i z ps h1
     cases h2:ps[f]? with
     |none=>trivial
     |some q=>
      obtain⟨o,n,ag⟩:=q
      dsimp only
      obtain⟨fs,fd,hu,hg,ho,hn,ha⟩:=QfR (hT _ _ h1).1 h2
      have hsome:(P.underlying fd.type).isSome=true:=by
       have:=(hT2.2 _ _ h1).1
       unfold QdB at this
       rw[hu]at this
       exact List.all_eq_true.1 this fd (Array.mem_toList_iff.2 (Array.mem_of_getElem? hg))
      have hp:=Qpr (P:=P) (V:=V) (w:=w) (M:=M) (ρ:=ρ) (nx:=nx) (l:=l) (o:=o) hn ha hsome
      have e:(do pure (Yh (<- Zd4 t (SV.den ρ (.o (.a l))) f)):Sem Next).run P w=(do pure (Yh (<- part fd.type (Qh ρ l).toArray o)):Sem Next).run P w:=by
       simp[Zd4,run_underlying hu,hg,ho,asAgg,SV.den,SA.den,Zx]
      revert hp
      unfold Qps
      cases ag
      . dsimp only[cond_false]
        cases segGet l o with
        |none=>exact λ_=>trivial
        |some y=>intro hp h1 h2 h3;obtain⟨w',ρ',g1,⟨n,g2,g3⟩,g4⟩:=hp h1 h2 h3;exact⟨w',ρ',g1,⟨n,by rw[e];exact g2,g3⟩,g4⟩
      . dsimp only[cond_true]
        cases segSub l o n with
        |none=>exact λ_=>trivial
        |some y=>
         cases n.beq 0
         . intro hp h1 h2 h3;obtain⟨w',ρ',g1,⟨n,g2,g3⟩,g4⟩:=hp h1 h2 h3;exact⟨w',ρ',g1,⟨n,by rw[e];exact g2,g3⟩,g4⟩
         . exact λ_=>trivial
   . trivial
 . trivial
def arrP (T:Tab) (t:Nat):Option (Nat × Nat):=match lkT T t with
 |some (.arr _ n es _)=>bif es.beq 0 then none else some (n,es)
 |_=>none
def slcP (T:Tab) (t:Nat):Option Nat:=match lkT T t with
 |some (.one _ (.slice e))=>match lkT T e with
  |some ti=>some ti.size
  |none=>none
 |_=>none
theorem Qe0 {T:Tab}(hT:TabOk P T) {t n es:Nat}(h:arrP T t=some (n,es)) (b off:Nat) (k:IntKind) (i:Int) (hb:0<=i/\i<n):(Zcc t (.pointer (some ⟨b,off,none⟩)) (.int k i)).run P w=.ok (.pointer (some ⟨b,off+i.toNat*es,none⟩)) w:=by
 unfold arrP at h
 split at h
 . rename_i z n' es' ea h1
   cases h3:es'.beq 0
   . rw[h3]at h
     simp only[cond_false,Zn,ZT]at h
     obtain⟨rfl,rfl⟩:=h
     have hes:es'≠0:=λe=>by subst e;cases h3
     obtain⟨e,hu,hn,-⟩:=Qb5 (hT _ _ h1).1
     obtain⟨j,hj,hs⟩:=Qbq hn hes
     simp[Zcc,run_underlying hu,ZaH,asIntOf,sizeOf,typeInfo,hj,hs,hb,Zx,QaK]
   . rw[h3]at h;cases h
 . cases h
theorem Qak {T:Tab}(hT:TabOk P T) {t es:Nat}(h:slcP T t=some es) (b off n c:Nat) (k:IntKind) (i:Int) (hb:0<=i/\i<n):(Zcc t (.slice (some ⟨b,off,none⟩) n c) (.int k i)).run P w=.ok (.pointer (some ⟨b,off+i.toNat*es,none⟩)) w:=by
 unfold slcP at h
 split at h
 . rename_i z e h1
   split at h
   . rename_i ti h2
     simp only[Zn]at h;subst h
     have hu:=QbU (hT _ _ h1).1
     obtain⟨j,hj,hs⟩:=Qf3 (hT _ _ h2).size
     simp[Zcc,run_underlying hu,asIntOf,sizeOf,typeInfo,hj,hs,hb,Zx,QaK]
   . cases h
 . cases h
def isRun (M:List SB) (b off:Nat):Bool:=match getB M b with
 |.cells l _=>(QR l off).isSome
 |_=>false
def Qrq:List Seg->Nat->Nat->Option Nat
 |[],_,_=>none
 |.one _::r,base,off=>Qrq r base.succ off
 |.ints _ n _::r,base,off=>bif off.blt (base+n)then some base else Qrq r (base+n) off
def runAt (M:List SB) (b off:Nat):Option Nat:=match getB M b with
 |.cells l _=>Qrq l 0 off
 |_=>none
def mulE (i es:Nat):Nat:=bif es.beq 1 then i else i*es
theorem QfX (i es:Nat):mulE i es=i*es:=by
 unfold mulE
 cases h:es.beq 1
 . rfl
 . have:=Zo h
   subst this;simp
def QeH (V:World) (T:Tab) (M:List SB) (t:Nat):Option SV->Option SV->Eff
 |some (.o (.c (.r a n c m sz ks z))),some (.o (.c (.v (.int _ i))))=>match slcP T t with
  |some es=>bif es.beq sz then .val (some (Rws sz ks V a m c z/\0<=i/\i<n/\i.toNat<m)) (.o (.c (.re a c m sz ks z i.toNat 0)))else .no
  |none=>.no
 |some (.o (.c (.s b off n _))),some (.o (.c (.v (.int _ i))))=>match slcP T t with
  |some es=>bif isRun M b off then .val (some (0<=i/\i<n)) (.o (.c (.e b off (mulE i.toNat es))))
   else match runAt M b off with
    |some base=>bif base.ble off then .val (some (0<=i/\i<n)) (.o (.c (.e b base (off-base+mulE i.toNat es))))else .no
    |none=>.val (some (0<=i/\i<n)) (.o (.c (.p b (off+mulE i.toNat es))))
  |none=>.no
 |some (.o (.c (.o b n c))),some (.o (.c (.v (.int _ i))))=>match slcP T t with
  |some es=>.val (some (0<=i/\i<n/\0<c)) (.o (.c (.er b es i.toNat 0)))
  |none=>.no
 |some (.o (.c (.so b lo sz n c nn))),some (.o (.c (.v (.int _ i))))=>match slcP T t with
  |some es=>bif es.beq sz then .val (some (0<=i/\i<n/\lo+n<=c)) (.o (.c (.er b es (lo+i.toNat) 0)))else .no
  |none=>.no
 |some (.o (.c (.p b off))),some (.o (.c (.v (.int _ i))))=>match arrP T t with
  |some (n,es)=>bif isRun M b off then .val (some (0<=i/\i<n)) (.o (.c (.e b off (mulE i.toNat es))))
   else .val (some (0<=i/\i<n)) (.o (.c (.p b (off+mulE i.toNat es))))
  |none=>.no
 |some (.o (.c (.e b off ix))),some (.o (.c (.v (.int _ i))))=>match arrP T t with
  |some (n,es)=>.val (some (0<=i/\i<n)) (.o (.c (.e b off (ix+mulE i.toNat es))))
  |none=>.no
 |_,_=>.no
theorem Qhv {T:Tab}(hT:TabOk P T) (t:Nat) {x y:Option SV}{v u:Value}(hx:∀s,x=some s->v=s.den ρ) (hy:∀s,y=some s->u=s.den ρ):XW P V ρ M nx w (do pure (Yh (<- Zcc t v u))) (QeH V T M t x y):=by
 unfold QeH
 split
 case h_7=>trivial
 all_goals (have:=hx _ rfl;subst this;have:=hy _ rfl;subst this)
 . rename_i a n c m sz ks z k i
   cases h:slcP T t with
   |none=>trivial
   |some es=>
    dsimp only
    cases hb:es.beq sz
    . trivial
    . obtain rfl:=Zo hb
      refine QF λ_ hr=>?_
      obtain⟨hr,h0,hn,hm⟩:=hr
      obtain⟨b,off,rfl,-,-⟩:=hr.at i.toNat hm
      simp only[SV.den,SA.den,SC.den,Qcn,Zx,Qak hT h _ _ _ _ _ _ ⟨h0,hn⟩,ZD,ZZ,Yu]
 . rename_i b off n c k i
   cases h:slcP T t with
   |none=>trivial
   |some es=>
    dsimp only
    cases isRun M b off
    . dsimp only[cond_false]
      cases runAt M b off with
      |none=>refine QF λ_ hr=>?_;simp only[QfX,SV.den,SA.den,SC.den,Zx,Qak hT h _ _ _ _ _ _ hr,ZD,ZZ]
      |some base=>
       dsimp only
       cases hb:base.ble off
       . trivial
       . have hb:=XZ hb
         refine QF λ_ hr=>?_
         simp only[QfX,SV.den,SA.den,SC.den,Zx,Qak hT h _ _ _ _ _ _ hr,ZD,ZZ]
         rw[show base+(off-base+i.toNat*es)=off+i.toNat*es by omega]
    . refine QF λ_ hr=>?_;simp only[QfX,SV.den,SA.den,SC.den,Zx,Qak hT h _ _ _ _ _ _ hr,ZD,ZZ]
 . rename_i b n c k i
   cases h:slcP T t with
   |none=>trivial
   |some es=>
    refine QF λ_ hr=>?_
    obtain⟨h0,hn,hc⟩:=hr
    have:c.beq 0=false:=by cases hb:c.beq 0;rfl;exact absurd (Zo hb) Za
    simp only[SV.den,SA.den,SC.den,this,cond_false,Zx,Qak hT h _ _ _ _ _ _ ⟨h0,hn⟩,ZD,ZZ,Zu,Yu]
 . rename_i b lo sz n c nn k i
   cases h:slcP T t with
   |none=>trivial
   |some es=>
    dsimp only
    cases hb:es.beq sz
    . trivial
    . obtain rfl:=Zo hb
      refine QF λ_ hr=>?_
      obtain⟨h0,hn,hc⟩:=hr
      have e1:(c.beq 0 && !nn)=false:=by cases hb:c.beq 0;rfl;exact absurd (Zo hb) Za
      have e2:(c-lo).beq 0=false:=by cases hb:(c-lo).beq 0;rfl;exact absurd (Zo hb) Za
      simp only[SV.den,SA.den,SC.den,e1,e2,cond_false,Zx,Qak hT h _ _ _ _ _ _ ⟨h0,hn⟩,ZD,ZZ,Yu,Yi]
 . rename_i b off k i
   cases h:arrP T t with
   |none=>trivial
   |some q=>
    obtain⟨n,es⟩:=q
    dsimp only
    cases isRun M b off
    all_goals (refine QF λ_ hr=>?_;simp only[QfX,SV.den,SA.den,SC.den,Zx,Qe0 hT h _ _ _ _ hr,ZD,ZZ])
 . rename_i b off ix k i
   cases h:arrP T t with
   |none=>trivial
   |some q=>
    obtain⟨n,es⟩:=q
    refine QF λ_ hr=>?_
    simp only[QfX,SV.den,SA.den,SC.den,Zx,Qe0 hT h _ _ _ _ hr,ZD,ZZ,Zab]
def Qnz (T:Tab) (t:Nat):Option SV->Option SV->Eff
 |some (.o (.a [.ints k n f])),some (.o (.c (.v (.int _ i))))=>match lkT T t with
  |some (.arr _ m es ea)=>bif es.beq 1&&m.beq n && !ea then .val (some (0<=i/\i<n)) (sv (mkV k (f i.toNat)))
   else bif ea&&(m*es).beq n && !es.beq 0 then .val (some (0<=i/\i<m)) (.o (.a (Qjp (λ_=>k) (λj=>f (i.toNat*es+j)) 0 es)))else .no
  |_=>.no
 |some (.o (.a l)),some (.o (.c (.v (.int _ i))))=>match lkT T t with
  |some (.arr _ m es ea)=>bif es.beq 1&&m.beq (Qq l) && !ea then (match segGet l i.toNat with
   |some x=>.val (some (0<=i/\i<m)) (.o (.c x))
   |none=>.no)else .no
  |_=>.no
 |_,_=>.no
theorem Qny {T:Tab}(hT:TabOk P T) (hT2:TysOk P T) (t:Nat) {x y:Option SV}{v u:Value}(hx:∀s,x=some s->v=s.den ρ) (hy:∀s,y=some s->u=s.den ρ):XW P V ρ M nx w (do pure (Yh (<- Zde t v u))) (Qnz T t x y):=by
 unfold Qnz
 split
 . rename_i k n f k' i
   have:=hx _ rfl
   subst this
   have:=hy _ rfl
   subst this
   split
   . rename_i z m es ea h1
     obtain⟨e,hu,hn,ha⟩:=Qb5 (hT _ _ h1).1
     have hsome:(P.underlying e).isSome=true:=by
      have:=(hT2.2 _ _ h1).1
      unfold QdB at this
      rw[hu]at this
      exact this
     obtain⟨d,hd⟩:=Option.isSome_iff_exists.mp hsome
     have hag:(isAgg e).run P w=.ok ea w:=by
      unfold Qa0 at ha
      unfold isAgg
      rw[Zx,run_underlying hd w]
      rw[hd]at ha
      cases d<;>simp_all
     cases hc:(es.beq 1&&m.beq n && !ea)
     . simp only[cond_false]
       cases hc2:(ea&&(m*es).beq n && !es.beq 0)
       . trivial
       . simp only[Zr,YD]at hc2
         obtain⟨⟨rfl,h4⟩,h5⟩:=hc2
         have h4:=Zo h4
         have hes:es≠0:=λe=>by rw[e]at h5;cases h5
         refine QF λ_ hb=>?_
         simp only[vcP]at hb
         have hb1:=hb.1
         have hb2:=hb.2
         obtain⟨j,hj,hs⟩:=Qbq hn hes
         have hlt:(i.toNat+1)*es<=m*es:=ZK _ Za
         rw[Yi,Nat.one_mul]at hlt
         have e4:=Qh8 k n es (i.toNat*es) f Za
         have e5:Qh ρ [.ints k n f]=(Z2 n).map λi=>mkV k (f i):=by simp[Qh,Seg.den]
         simp[Zde,run_underlying hu,SV.den,SA.den,SC.den,asIntOf,hb1,hb2,part,hag,sizeOf,typeInfo,hj,hs,Zx,QdX,e5,e4]
     . simp only[Zr,YD]at hc
       obtain⟨⟨h3,h4⟩,h5⟩:=hc
       have:=Zo h3
       subst this
       have:=Zo h4
       subst this
       subst h5
       refine QF λ_ hb=>?_
       simp only[vcP]at hb
       obtain⟨j,hj,hs⟩:=Qbq hn Za
       have hlt:i.toNat<m:=Za
       have hg:=Qas k m f i.toNat hlt
       have hb1:=hb.1
       have hb2:=hb.2
       simp[Zde,run_underlying hu,SV.den,SA.den,SC.den,asIntOf,hb1,hb2,part,hag,sizeOf,typeInfo,hj,hs,Zx,Qh,Seg.den,hlt]
   . trivial
 . rename_i l k' i _
   have:=hx _ rfl
   subst this
   have:=hy _ rfl
   subst this
   split
   . rename_i z m es ea h1
     obtain⟨e,hu,hn,ha⟩:=Qb5 (hT _ _ h1).1
     have hsome:(P.underlying e).isSome=true:=by
      have:=(hT2.2 _ _ h1).1
      unfold QdB at this
      rw[hu]at this
      exact this
     obtain⟨d,hd⟩:=Option.isSome_iff_exists.mp hsome
     have hag:(isAgg e).run P w=.ok ea w:=by
      unfold Qa0 at ha
      unfold isAgg
      rw[Zx,run_underlying hd w]
      rw[hd]at ha
      cases d<;>simp_all
     cases hc:(es.beq 1&&m.beq (Qq l) && !ea)
     . trivial
     . simp only[Zr,YD]at hc
       obtain⟨⟨h3,h4⟩,h5⟩:=hc
       have:=Zo h3
       subst this
       have h4:=Zo h4
       subst h5
       simp only[cond_true]
       split
       . rename_i x hg
         refine QF λ_ hb=>?_
         simp only[vcP]at hb
         obtain⟨j,hj,hs⟩:=Qbq hn Za
         have hg2:=Qa9 ρ l _ x hg
         have hlt:i.toNat<(Qh ρ l).length:=by rw[Qt];omega
         rw[Zy hlt]at hg2
         have hg3:=YP hg2
         have hb1:=hb.1
         have hb2:=hb.2
         simp[Zde,run_underlying hu,SV.den,SA.den,SC.den,asIntOf,hb1,hb2,part,hag,sizeOf,typeInfo,hj,hs,Zx,hlt,hg3]
       . trivial
   . trivial
 . trivial
end
end
section
open Go.RowKit
def binS:BinOp->Value->Value->Option (Option Prop × Value)
 |.add,.int k a,.int k' b=>ifK k k' (some (none,.int k (k.wrap (a+b))))
 |.sub,.int k a,.int k' b=>ifK k k' (some (none,.int k (k.wrap (a-b))))
 |.mul,.int k a,.int k' b=>ifK k k' (some (none,.int k (k.wrap (a*b))))
 |.quo,.int k a,.int k' b=>ifK k k' (some (some (b≠0),.int k (k.wrap (a.tdiv b))))
 |.rem,.int k a,.int k' b=>ifK k k' (some (some (b≠0),.int k (a.tmod b)))
 |.and,.int k a,.int k' b=>ifK k k' (some (none,.int k (bits .and k a b)))
 |.or,.int k a,.int k' b=>ifK k k' (some (none,.int k (bits .or k a b)))
 |.xor,.int k a,.int k' b=>ifK k k' (some (none,.int k (bits .xor k a b)))
 |.andNot,.int k a,.int k' b=>ifK k k' (some (none,.int k (bits .andNot k a b)))
 |.shl,.int k a,.int _ b=>some (some (0<=b),.int k (k.wrap (a*2^(min b.toNat k.bits))))
 |.shr,.int k a,.int _ b=>some (some (0<=b),.int k (a.fdiv (2^(min b.toNat k.bits))))
 |.eql,.int k a,.int k' b=>ifK k k' (some (none,.bool (a==b)))
 |.neq,.int k a,.int k' b=>ifK k k' (some (none,.bool (a != b)))
 |.lss,.int k a,.int k' b=>ifK k k' (some (none,.bool (decide (a<b))))
 |.leq,.int k a,.int k' b=>ifK k k' (some (none,.bool (decide (a<=b))))
 |.gtr,.int k a,.int k' b=>ifK k k' (some (none,.bool (decide (a>b))))
 |.geq,.int k a,.int k' b=>ifK k k' (some (none,.bool (decide (a>=b))))
 |.add,.string a,.string b=>some (some (a.size+b.size<=1099511627776),.string (a++b))
 |.eql,.string a,.string b=>some (none,.bool (a.toList==b.toList))
 |.neq,.string a,.string b=>some (none,.bool (!(a.toList==b.toList)))
 |_,_,_=>none
theorem Qqu {P:Program}{op:BinOp}{x y z:Value}{vc:Option Prop}(h:binS op x y=some (vc,z)) (hv:vcP vc) (t:TypeId) (u v:Operand) (w:World):
 (do eqGuard op t u v x y;binOp op t x y:Sem Value).run P w=.ok z w:=by
 unfold binS at h
 split at h
 all_goals (try (replace h:=QpR h;obtain⟨rfl,h⟩:=h))
 all_goals simp only[Zn,ZT,reduceCtorEq]at h
 all_goals (obtain⟨rfl,rfl⟩:=h)
 all_goals (try simp only[vcP]at hv)
 case h_18 a b=>
  have:¬(9223372036854775807<(a.size:Int)+(b.size:Int)):=Za
  simp[go_sem,binOp,Op.stringOp]
  omega
 all_goals simp_all [go_sem,Zx,Op.intArith,Op.intDiv,Op.shift,binOp,Op.intCmp,Op.intBits,bits,Op.stringOp]
 all_goals (rw[Ze Za];rfl)
def isC:Operand->Bool
 |.const _=>true
 |_=>false
def cmpO (T:Tab) (op:BinOp) (t:Nat) (cst:Bool):SC->SC->Option (Option Prop × Value)
 |.v (.nilIface),.v (.nilIface)=>match op,lkT T t with
  |.eql,some (.one _ .iface)=>(bif cst then some (none,.bool true)else none)
  |.neq,some (.one _ .iface)=>(bif cst then some (none,.bool false)else none)
  |_,_=>none
 |.v (.iface _ _),.v (.nilIface)=>match op,lkT T t with
  |.eql,some (.one _ .iface)=>some (none,.bool false)
  |.neq,some (.one _ .iface)=>some (none,.bool true)
  |_,_=>none
 |.i _ _ _,.v (.nilIface)=>match op,lkT T t with
  |.eql,some (.one _ .iface)=>some (none,.bool false)
  |.neq,some (.one _ .iface)=>some (none,.bool true)
  |_,_=>none
 |.q b _ _,.v (.nilIface)=>match op,lkT T t with
  |.eql,some (.one _ .iface)=>(bif cst then some (none,.bool (!b))else none)
  |.neq,some (.one _ .iface)=>(bif cst then some (none,.bool b)else none)
  |_,_=>none
 |.p _ _,.v (.pointer none)=>match op,lkT T t with
  |.eql,some (.one _ (.ptr _))=>some (none,.bool false)
  |.neq,some (.one _ (.ptr _))=>some (none,.bool true)
  |_,_=>none
 |.v (.pointer none),.v (.pointer none)=>match op,lkT T t with
  |.eql,some (.one _ (.ptr _))=>some (none,.bool true)
  |.neq,some (.one _ (.ptr _))=>some (none,.bool false)
  |_,_=>none
 |.v (.bool a),.v (.bool b)=>match op,lkT T t with
  |.eql,some (.one _ .bool)=>some (none,.bool (a==b))
  |.neq,some (.one _ .bool)=>some (none,.bool (!(a==b)))
  |_,_=>none
 |.v a,.v b=>binS op a b
 |_,_=>none
def Qkj:SC->Bool
 |.v (.slice none n m)=>n.beq 0&&m.beq 0
 |_=>false
def nilS:SC->Option Bool
 |.so _ _ _ _ c nn=>some (c.beq 0 && !nn)
 |.r a _ _ _ _ _ _=>some a.isNone
 |.v (.slice a _ _)=>some a.isNone
 |_=>none
def cmpS (T:Tab) (op:BinOp) (t:Nat) (cst:Bool) (x y:SC):Option (Option Prop × Value):=
 bif Qkj y then (match op,lkT T t,nilS x with
  |.eql,some (.one _ (.slice _)),some b=>some (none,.bool b)
  |.neq,some (.one _ (.slice _)),some b=>some (none,.bool (!b))
  |_,_,_=>none)else cmpO T op t cst x y
theorem Qlw {x:SC}(h:Qkj x=true):x=.v (.slice none 0 0):=by
 unfold Qkj at h
 split at h
 . simp only[Zr]at h
   rw[Zo h.1,Zo h.2]
 . cases h
section
variable {P:Program}{V w:World}{ρ:Nat->Nat}{M:List SB}{nx:Nat}
theorem Qnl {t:Nat}(h:kdOf P t=.bool):P.underlying t=some .bool:=by
 unfold kdOf at h;split at h<;>simp_all
theorem QbD {t:Nat}(h:kdOf P t=.iface):∃m,P.underlying t=some (.interface m):=by
 unfold kdOf at h;split at h<;>simp_all
theorem Qiv {t e:Nat}(h:kdOf P t=.ptr e):P.underlying t=some (.pointer e):=by
 unfold kdOf at h;split at h<;>simp_all
theorem Qci {t e:Nat}(h:kdOf P t=.slice e):P.underlying t=some (.slice e):=by
 unfold kdOf at h;split at h<;>simp_all
theorem QqK {t:Nat}(h:kdOf P t=.str):P.underlying t=some .string:=by
 unfold kdOf at h;split at h<;>simp_all
theorem QqL {t:Nat}{k:IntKind}(h:kdOf P t=.int k):P.underlying t=some (.int k):=by
 unfold kdOf at h;split at h<;>simp_all
theorem maxD:∃d,Op.maxDepth=d+1:=⟨9999,rfl⟩
theorem XV {t:Nat}{a b:Value}(h:∀k m,a≠ .int k m) (h2:∀k m,a≠ .float k m) (h3:∀k m n,a≠ .complex k m n) (h4:∀m,a≠ .string m):binOp .eql t a b=(do pure (.bool (<- Zav t a b))):=by
 cases a<;>first|rfl|(cases b<;>rfl)|(exact absurd rfl (h _ _))|(exact absurd rfl (h2 _ _))|(exact absurd rfl (h3 _ _ _))|(exact absurd rfl (h4 _))
theorem XU {t:Nat}{a b:Value}(h:∀k m,a≠ .int k m) (h2:∀k m,a≠ .float k m) (h3:∀k m n,a≠ .complex k m n) (h4:∀m,a≠ .string m):binOp .neq t a b=(do pure (.bool (!(<- Zav t a b)))):=by
 cases a<;>first|rfl|(cases b<;>rfl)|(exact absurd rfl (h _ _))|(exact absurd rfl (h2 _ _))|(exact absurd rfl (h3 _ _ _))|(exact absurd rfl (h4 _))
theorem QpB {t e:Nat}(hu:P.underlying t=some (.slice e)) (u v:Operand) (a:Option Addr) (n c:Nat):(do eqGuard .eql t u v (.slice a n c) (.slice none 0 0);binOp .eql t (.slice a n c) (.slice none 0 0):Sem Value).run P w=.ok (.bool a.isNone) w:=by
 obtain⟨d,hd⟩:=maxD
 cases a<;>simp[eqGuard_at_slice,XV,Zav,hd,YQ,run_underlying hu]
theorem QpA {t e:Nat}(hu:P.underlying t=some (.slice e)) (u v:Operand) (a:Option Addr) (n c:Nat):(do eqGuard .neq t u v (.slice a n c) (.slice none 0 0);binOp .neq t (.slice a n c) (.slice none 0 0):Sem Value).run P w=.ok (.bool (!a.isNone)) w:=by
 obtain⟨d,hd⟩:=maxD
 cases a<;>simp[eqGuard_at_slice,XU,Zav,hd,YQ,run_underlying hu]
theorem q_eql {t:Nat}{m:Array (String × TypeId)}(hu:P.underlying t=some (.interface m)) (b:Bool) (ty:TypeId) (x:Value) {u v:Operand}(hv:(isC u||isC v)=true):(do eqGuard .eql t u v (SC.den ρ (.q b ty x)) (SC.den ρ (.v .nilIface));binOp .eql t (SC.den ρ (.q b ty x)) (SC.den ρ (.v .nilIface)):Sem Value).run P w=.ok (.bool (!b)) w:=by
 obtain⟨d,hd⟩:=maxD
 cases b
 . have hg:eqGuard .eql t u v (SC.den ρ (.v .nilIface)) (SC.den ρ (.v .nilIface))=pure ():=by
    cases u<;>cases v<;>first|rfl|(simp[isC]at hv)
   show (do eqGuard .eql t u v (SC.den ρ (.v .nilIface)) (SC.den ρ (.v .nilIface));binOp .eql t (SC.den ρ (.v .nilIface)) (SC.den ρ (.v .nilIface)):Sem Value).run P w=_
   rw[hg]
   simp[SC.den,XV,Zav,hd,YQ,run_underlying hu]
 . simp[SC.den,eqGuard_at_iface,XV,Zav,hd,YQ,run_underlying hu]
theorem q_neq {t:Nat}{m:Array (String × TypeId)}(hu:P.underlying t=some (.interface m)) (b:Bool) (ty:TypeId) (x:Value) {u v:Operand}(hv:(isC u||isC v)=true):(do eqGuard .neq t u v (SC.den ρ (.q b ty x)) (SC.den ρ (.v .nilIface));binOp .neq t (SC.den ρ (.q b ty x)) (SC.den ρ (.v .nilIface)):Sem Value).run P w=.ok (.bool (b)) w:=by
 obtain⟨d,hd⟩:=maxD
 cases b
 . have hg:eqGuard .neq t u v (SC.den ρ (.v .nilIface)) (SC.den ρ (.v .nilIface))=pure ():=by
    cases u<;>cases v<;>first|rfl|(simp[isC]at hv)
   show (do eqGuard .neq t u v (SC.den ρ (.v .nilIface)) (SC.den ρ (.v .nilIface));binOp .neq t (SC.den ρ (.v .nilIface)) (SC.den ρ (.v .nilIface)):Sem Value).run P w=_
   rw[hg]
   simp[SC.den,XU,Zav,hd,YQ,run_underlying hu]
 . simp[SC.den,eqGuard_at_iface,XU,Zav,hd,YQ,run_underlying hu]
theorem Qqi {T:Tab}(hT:TabOk P T) {op:BinOp}{t:Nat}{x y:SC}{z:Value}{vc:Option Prop}{u v:Operand}(h:cmpO T op t (isC u||isC v) x y=some (vc,z)) (hv:vcP vc):
 (do eqGuard op t u v (x.den ρ) (y.den ρ);binOp op t (x.den ρ) (y.den ρ):Sem Value).run P w=.ok z w:=by
 obtain⟨d,hd⟩:=maxD
 unfold cmpO at h
 split at h
 all_goals (try (split at h<;>first|(cases h;done)|skip))
 next h1=>
  cases hv:(isC u||isC v)
  . rw[hv]at h;cases h
  rw[hv]at h
  simp only[cond_true,Zn,ZT]at h
  obtain⟨rfl,rfl⟩:=h
  obtain⟨m,hu⟩:=QbD (hT _ _ h1).1
  have hg:eqGuard .eql t u v (SC.den ρ (.v .nilIface)) (SC.den ρ (.v .nilIface))=pure ():=by
   cases u<;>cases v<;>first|rfl|(simp[isC]at hv)
  rw[hg]
  simp[SC.den,XV,Zav,hd,YQ,run_underlying hu]
 next h1=>
  cases hv:(isC u||isC v)
  . rw[hv]at h;cases h
  rw[hv]at h
  simp only[cond_true,Zn,ZT]at h
  obtain⟨rfl,rfl⟩:=h
  obtain⟨m,hu⟩:=QbD (hT _ _ h1).1
  have hg:eqGuard .neq t u v (SC.den ρ (.v .nilIface)) (SC.den ρ (.v .nilIface))=pure ():=by
   cases u<;>cases v<;>first|rfl|(simp[isC]at hv)
  rw[hg]
  simp[SC.den,XU,Zav,hd,YQ,run_underlying hu]
 next h1=>simp only[Zn,ZT]at h;obtain⟨rfl,rfl⟩:=h;obtain⟨m,hu⟩:=QbD (hT _ _ h1).1;simp[SC.den,eqGuard_at_iface,XV,Zav,hd,YQ,run_underlying hu]
 next h1=>simp only[Zn,ZT]at h;obtain⟨rfl,rfl⟩:=h;obtain⟨m,hu⟩:=QbD (hT _ _ h1).1;simp[SC.den,eqGuard_at_iface,XU,Zav,hd,YQ,run_underlying hu]
 next h1=>simp only[Zn,ZT]at h;obtain⟨rfl,rfl⟩:=h;obtain⟨m,hu⟩:=QbD (hT _ _ h1).1;simp[SC.den,eqGuard_at_iface,XV,Zav,hd,YQ,run_underlying hu]
 next h1=>simp only[Zn,ZT]at h;obtain⟨rfl,rfl⟩:=h;obtain⟨m,hu⟩:=QbD (hT _ _ h1).1;simp[SC.den,eqGuard_at_iface,XU,Zav,hd,YQ,run_underlying hu]
 next h1=>
  cases hq:(isC u||isC v)
  . rw[hq]at h;cases h
  rw[hq]at h
  simp only[cond_true,Zn,ZT]at h
  obtain⟨rfl,rfl⟩:=h
  obtain⟨m,hu⟩:=QbD (hT _ _ h1).1
  exact q_eql hu _ _ _ hq
 next h1=>
  cases hq:(isC u||isC v)
  . rw[hq]at h;cases h
  rw[hq]at h
  simp only[cond_true,Zn,ZT]at h
  obtain⟨rfl,rfl⟩:=h
  obtain⟨m,hu⟩:=QbD (hT _ _ h1).1
  exact q_neq hu _ _ _ hq
 next h1=>simp only[Zn,ZT]at h;obtain⟨rfl,rfl⟩:=h;have hu:=Qiv (hT _ _ h1).1;simp[SC.den,eqGuard_at_pointer,XV,Zav,hd,YQ,run_underlying hu]
 next h1=>simp only[Zn,ZT]at h;obtain⟨rfl,rfl⟩:=h;have hu:=Qiv (hT _ _ h1).1;simp[SC.den,eqGuard_at_pointer,XU,Zav,hd,YQ,run_underlying hu]
 next h1=>simp only[Zn,ZT]at h;obtain⟨rfl,rfl⟩:=h;have hu:=Qiv (hT _ _ h1).1;simp[SC.den,eqGuard_at_pointer,XV,Zav,hd,YQ,run_underlying hu]
 next h1=>simp only[Zn,ZT]at h;obtain⟨rfl,rfl⟩:=h;have hu:=Qiv (hT _ _ h1).1;simp[SC.den,eqGuard_at_pointer,XU,Zav,hd,YQ,run_underlying hu]
 next h1=>simp only[Zn,ZT]at h;obtain⟨rfl,rfl⟩:=h;have hu:=Qnl (hT _ _ h1).1;simp[SC.den,eqGuard_at_bool,XV,Zav,hd,YQ,run_underlying hu]
 next h1=>simp only[Zn,ZT]at h;obtain⟨rfl,rfl⟩:=h;have hu:=Qnl (hT _ _ h1).1;simp[SC.den,eqGuard_at_bool,XU,Zav,hd,YQ,run_underlying hu]
 next=>exact Qqu h hv t u v w
 next=>cases h
theorem Qkd {x:SC}{b:Bool}(h:nilS x=some b) (ρ:Nat->Nat):∃a n c,x.den ρ=.slice a n c/\a.isNone=b:=by
 unfold nilS at h
 split at h
 . rename_i b' lo sz n c nn
   simp only[Zn]at h;subst h
   simp only[SC.den]
   cases (c.beq 0 && !nn)
   . exact⟨_,_,_,rfl,rfl⟩
   . exact⟨_,_,_,rfl,rfl⟩
 . simp only[Zn]at h;subst h;exact⟨_,_,_,rfl,rfl⟩
 . simp only[Zn]at h;subst h;exact⟨_,_,_,rfl,rfl⟩
 . cases h
theorem Qqh {T:Tab}(hT:TabOk P T) {op:BinOp}{t:Nat}{x y:SC}{z:Value}{vc:Option Prop}{u v:Operand}(h:cmpS T op t (isC u||isC v) x y=some (vc,z)) (hv:vcP vc):
 (do eqGuard op t u v (x.den ρ) (y.den ρ);binOp op t (x.den ρ) (y.den ρ):Sem Value).run P w=.ok z w:=by
 unfold cmpS at h
 cases hn:Qkj y
 . rw[hn]at h;exact Qqi hT h hv
 . rw[hn]at h
   obtain rfl:=Qlw hn
   simp only[cond_true]at h
   split at h
   . rename_i z0 e b h1 h2
     simp only[Zn,ZT]at h
     obtain⟨rfl,rfl⟩:=h
     obtain⟨a,n,c,e1,rfl⟩:=Qkd h2 ρ
     rw[e1]
     exact QpB (Qci (hT _ _ h1).1) _ _ _ _ _
   . rename_i z0 e b h1 h2
     simp only[Zn,ZT]at h
     obtain⟨rfl,rfl⟩:=h
     obtain⟨a,n,c,e1,rfl⟩:=Qkd h2 ρ
     rw[e1]
     exact QpA (Qci (hT _ _ h1).1) _ _ _ _ _
   . cases h
def unS:UnOp->SC->Option SC
 |.not,.v (.bool b)=>some (.v (.bool (!b)))
 |.neg,.v (.int k n)=>some (.v (.int k (k.wrap (0-n))))
 |.xor,.v (.int k n)=>some (.v (.int k (bits .xor k (if k.signed then -1 else k.max) n)))
 |_,_=>none
theorem Qrj {op:UnOp}{x z:SC}(h:unS op x=some z):(Op.unary op (x.den ρ)).run P w=.ok (z.den ρ) w:=by
 unfold unS at h
 split at h<;>simp only[Zn,reduceCtorEq]at h
 all_goals (subst h)
 all_goals simp[Op.unary,SC.den,Op.intArith,intBits_xor]
def Qkn (T:Tab) (t:Nat):SC->Option SC
 |.v x=>match lkT T t with
  |some (.one _ .iface)=>none
  |some (.one _ .other)=>none
  |some _=>some (.v (.iface t x))
  |none=>none
 |.p b off=>match lkT T t with
  |some (.one _ (.ptr _))=>some (.i t b off)
  |_=>none
 |_=>none
theorem Qke {t:Nat}{x:Value}(h:∀m,P.underlying t≠some (.interface m)) (hs:(P.underlying t).isSome=true):(Zcl t x).run P w=.ok (.iface t x) w:=by
 obtain⟨d,hd⟩:=Option.isSome_iff_exists.mp hs
 have hn:∀m,d≠ .interface m:=λm e=>h m (by rw[hd,e])
 cases d<;>first|(exact absurd rfl (hn _))|simp[Zcl,run_underlying hd]
theorem QlN {T:Tab}(hT:TabOk P T) {t:Nat}{x z:SC}(h:Qkn T t x=some z):(Zcl t (x.den ρ)).run P w=.ok (z.den ρ) w:=by
 unfold Qkn at h
 split at h
 . split at h<;>simp only[Zn,reduceCtorEq]at h
   subst h
   rename_i x i hn hn2 h1
   have ok:=hT _ _ h1
   cases i with
   |one z k=>
    have hk:=ok.1
    cases hu:P.underlying t with
    |none=>
     have:k=.other:=by rw[<- hk];unfold kdOf;rw[hu]
     exact absurd (by rw[this]) (hn2 z)
    |some d=>
     refine Qke (λm e=>?_) (by rw[hu];rfl)
     have:k=.iface:=by rw[<- hk];unfold kdOf;rw[e]
     exact hn z (by rw[this])
   |str z ps=>
    obtain⟨ha,-⟩:=ok.agg (λz k e=>by cases e)
    obtain⟨d,hd,he⟩:=Qdj ha
    exact Qke (λm e=>by rw[hd]at e;cases e;simp at he) (by rw[hd];rfl)
   |arr z n es ea=>
    obtain⟨ha,-⟩:=ok.agg (λz k e=>by cases e)
    obtain⟨d,hd,he⟩:=Qdj ha
    exact Qke (λm e=>by rw[hd]at e;cases e;simp at he) (by rw[hd];rfl)
 . split at h<;>simp only[Zn,reduceCtorEq]at h
   subst h
   rename_i h1
   have hu:=Qiv (hT _ _ h1).1
   exact Qke (λm e=>by rw[hu]at e;cases e) (by rw[hu];rfl)
 . cases h
def Qqc (T:Tab) (s d:Nat):SC->Option SC
 |.v (.int _ n)=>match lkT T s,lkT T d with
  |some (.one _ (.int _)),some (.one _ (.int k))=>some (.v (.int k (k.wrap n)))
  |_,_=>none
 |_=>none
theorem Qof {T:Tab}(hT:TabOk P T) {s d:Nat}{x z:SC}(h:Qqc T s d x=some z):(convert s d (x.den ρ)).run P w=.ok (z.den ρ) w:=by
 unfold Qqc at h
 split at h
 . split at h<;>simp only[Zn,reduceCtorEq]at h
   subst h
   rename_i h1 h2
   have hu:=QqL (hT _ _ h1).1
   have hv:=QqL (hT _ _ h2).1
   simp[convert,SC.den,run_underlying hu,run_underlying hv,Conv.intToInt]
 . cases h
def QrE:SV->Bool
 |.o (.c (.p _ _))=>true
 |.o (.c (.e _ _ _))=>true
 |.o (.c (.i _ _ _))=>true
 |.o (.c (.er _ _ _ _))=>true
 |.o (.c (.fn _ _))=>true
 |.o (.c (.v (.iface _ _)))=>true
 |.o (.c (.v (.func (.func _) _ _)))=>true
 |_=>false
def Qfp:SV->Nat->Option SV
 |.t l,i=>match l[i]? with
  |some x=>some (.o x)
  |none=>none
 |_,_=>none
theorem QiH {x z:SV}{i:Nat}(h:Qfp x i=some z):(Instr.extract (x.den ρ) i).run P w=.ok (z.den ρ) w:=by
 cases x with
 |o x=>cases h
 |t l=>
  simp only[Qfp]at h
  cases hg:l[i]? with
  |none=>rw[hg]at h;cases h
  |some y=>
   rw[hg]at h
   simp only[Zn]at h;subst h
   simp[Instr.extract,SV.den,hg]
def Qch:SA->Option (List Seg)
 |.c x=>bif x.ok then some [.one x]else none
 |.a l=>some l
def Qpm (l:List Seg) (o:Nat):List Seg->Option (List Seg)
 |[.one x]=>match Qap l o x with
  |some l'=>some l'
  |none=>Qbi l o [.one x]
 |m=>Qbi l o m
theorem QmW (ρ:Nat->Nat) (l:List Seg) (o:Nat) (m l':List Seg) (h:Qpm l o m=some l'):spl (Qh ρ l) o (Qh ρ m)=Qh ρ l'/\o+Qq m<=Qq l:=by
 unfold Qpm at h
 split at h
 . rename_i x
   cases h1:Qap l o x with
   |none=>rw[h1]at h;exact Qa8 ρ l o _ l' h
   |some l2=>
    rw[h1]at h
    simp only[Zn]at h;subst h
    obtain⟨e1,e2⟩:=QbO ρ l o x l2 h1
    refine⟨?_,by simp only[Qq,Seg.len];omega⟩
    rw[<- e1]
    simp only[Qh,Seg.den,YV,spl,Yd]
    rw[ZbW,Zf (by rw[Qt];exact e2)]
    simp
 . exact Qa8 ρ l o _ l' h
def Qf9 (ps:Nat->Option (Nat × Nat)):List Seg->List (Nat × Option SV)->Option (List Seg)
 |l,[]=>some l
 |l,(i,some (.o x))::r=>match ps i,Qch x with
  |some (o,n),some m=>bif (Qq m).beq n then (match Qpm l o m with
   |some l'=>Qf9 ps l' r
   |none=>none)else none
  |_,_=>none
 |_,_=>none
theorem QiA (vs:List Value):∀(cs:Array Value) (o:Nat),o+vs.length<=cs.size->(vs.toArray.zipIdx.foldl (λcs (x:Value × Nat)=>cs.setIfInBounds (o+x.2) x.1) cs)=(spl cs.toList o vs).toArray:=by
 have key:∀(vs:List Value) (k:Nat) (cs:List Value) (o:Nat),o+k+vs.length<=cs.length->(List.zipIdx vs k).foldl (λcs (x:Value × Nat)=>cs.setIfInBounds (o+x.2) x.1) cs.toArray=(spl cs (o+k) vs).toArray:=by
  intro vs
  induction vs with
  |nil=>intro k cs o h;simp[spl]
  |cons v r ih=>
   intro k cs o h
   simp only[Yf]at h
   simp only[List.zipIdx_cons,List.foldl_cons,List.setIfInBounds_toArray]
   rw[ih (k+1) (cs.set (o+k) v) o (by rw[ZbQ];omega)]
   congr 1
   unfold spl
   have h1:(cs.set (o+k) v).take (o+(k+1))=cs.take (o+k)++[v]:=by
    rw[show o+(k+1)=o+k+1 by omega,List.take_succ_eq_append_getElem (by rw[ZbQ];omega),List.getElem_set_self,List.take_set_of_le (Zq _)]
   have h2:(cs.set (o+k) v).drop (o+(k+1)+r.length)=cs.drop (o+k+(v::r).length):=by
    rw[List.drop_set_of_lt Za]
    simp only[Yf];congr 1;omega
   rw[h1,h2];simp
 intro cs o h
 have:=key vs 0 cs.toList o (by simpa using h)
 simpa [Array.zipIdx_toArray] using this
theorem Qdp {x:SA}{m:List Seg}(h:Qch x=some m):(x.den ρ).cells=(Qh ρ m).toArray:=by
 cases x with
 |c x=>
  simp only[Qch]at h
  cases ho:x.ok
  . rw[ho]at h;cases h
  . rw[ho]at h
    simp only[cond_true,Zn]at h;subst h
    simp[SA.den,QfU (SC.ok_den ho ρ),Qh,Seg.den]
 |a l=>
  simp only[Qch,Zn]at h;subst h
  rfl
theorem QiE (ps:Nat->Option (Nat × Nat)):∀(l:List Seg) (parts:List (Nat × Option SV)) (vs:List (Nat × Value)) (l':List Seg),Qf9 ps l parts=some l' ->
 parts.length=vs.length->(∀(i:Nat) (p:Nat × Option SV) (v:Nat × Value),parts[i]?=some p->vs[i]?=some v->v.1=p.1/\∀y,p.2=some y->v.2=y.den ρ) ->
 ZbT ps (Qh ρ l).toArray vs=some (Qh ρ l').toArray
 |l,[],vs,l',h,hl,_=>by
  simp only[Qf9,Zn]at h;subst h
  obtain rfl:vs=[]:=by cases vs<;>simp_all
  rfl
 |l,(i,q)::r,[],l',h,hl,_=>by simp at hl
 |l,(i,q)::r,(j,v)::vs,l',h,hl,hp=>by
  have h0:=hp 0 _ _ rfl rfl
  obtain⟨rfl,hq⟩:=h0
  dsimp only at hq hp
  cases q with
  |none=>simp[Qf9]at h
  |some y=>cases y with
   |t _=>simp[Qf9]at h
   |o x=>
    simp only[Qf9]at h
    cases h1:ps j with
    |none=>rw[h1]at h;cases h
    |some on=>
     obtain⟨o,n⟩:=on
     cases h2:Qch x with
     |none=>rw[h1,h2]at h;cases h
     |some m=>
      rw[h1,h2]at h
      dsimp only at h
      cases hb:(Qq m).beq n
      . rw[hb]at h;cases h
      . rw[hb]at h
        have hlen:=Zo hb
        simp only[cond_true]at h
        cases h3:Qpm l o m with
        |none=>rw[h3]at h;cases h
        |some l2=>
         rw[h3]at h
         obtain⟨e1,e2⟩:=QmW ρ l o m l2 h3
         have hv:v=x.den ρ:=hq _ rfl
         subst hv
         have hc:=Qdp (ρ:=ρ) h2
         have ih:=QiE ps l2 r vs l' h (by simpa using hl) (λk p u hk hu=>hp (k+1) p u hk hu)
         unfold ZbT
         have hsz:(SA.den ρ x).cells.size=n:=by rw[hc];simp[Qt,hlen]
         simp only[h1]
         rw[Ze (by rw[hsz];simp[Qt];omega),hc,QiA _ _ _ (by simp[Qt];omega)]
         simp only[e1]
         exact ih
def Qcr (env:Env):List (Nat × Operand)->List (Nat × Option SV)
 |[]=>[]
 |p::r=>(p.1,QO env p.2)::Qcr env r
theorem Qbp (env:Env):∀l,Qcr env l=l.map λp=>(p.1,QO env p.2)
 |[]=>rfl
 |p::r=>by simp[Qcr,Qbp env r]
def Qfj (ps:List (Nat × Nat × Bool)) (i:Nat):Option (Nat × Nat):=match ps[i]? with
 |some (o,n,_)=>some (o,n)
 |none=>none
def Qot (T:Tab) (env:Env) (t:TypeId) (parts:Array (Nat × Operand)):Eff:=match lkT T t with
 |some (.str z ps)=>bif QS (λ_=>false) z then (match Qf9 (Qfj ps) z (Qcr env parts.toList)with
  |some l=>.val none (.o (.a l))
  |none=>.no)else .no
 |some (.arr z n es ea)=>bif QS (λ_=>false) z then (match Qf9 (λi=>some (i*es,es)) z (Qcr env parts.toList)with
  |some l=>.val none (.o (.a l))
  |none=>.no)else .no
 |_=>.no
theorem QbE {t:TypeId}(h:(P.underlying t).isSome=true):(P.info? t).isSome=true:=by
 unfold Program.underlying at h
 cases hq:P.info? t with
 |none=>rw[hq]at h;simp at h
 |some i=>rfl
theorem Qio:∀(fs:List Field),(fs.all λf=>(P.underlying f.type).isSome)=true ->
 fs.mapM (λf=>(P.info? f.type).map λi=>(f.offset,i.size))=some (fs.map λf=>(f.offset,((P.info? f.type).map (·.size)).getD 0))
 |[],_=>rfl
 |f::r,h=>by
  rw[Zcd,Zr]at h
  have h1:=QbE h.1
  obtain⟨i,hi⟩:=Option.isSome_iff_exists.mp h1
  simp[List.mapM_cons,hi,Qio r h.2]
theorem Qos {T:Tab}(hT:TabOk P T) (hT2:TysOk P T) {nt:Nat}{env:Env}{a:Act}(hE:EnvOk ρ nt env a) (t:TypeId) (parts:Array (Nat × Operand)):XW P V ρ M nx w (do pure (Yh (<- Instr.build t (parts.map λ(i,x)=>(i,a.eval x))))) (Qot T env t parts):=by
 have hfill:∀(pl:Nat->Option (Nat × Nat)) (z l:List Seg),QS (λ_=>false) z=true->Qf9 pl z (Qcr env parts.toList)=some l->ZbT pl (Qh (λ_=>0) z).toArray (parts.map λ(i,x)=>(i,a.eval x)).toList=some (Qh ρ l).toArray:=by
  intro pl z l hz hf
  rw[Qex (ρ':=ρ) hz]
  refine QiE pl z _ _ l hf (by rw[Qbp];simp) (λi p v hp hv=>?_)
  rw[Qbp,Ya]at hp
  rw[Zba,Ya]at hv
  cases hq:parts.toList[i]? with
  |none=>rw[hq]at hp;cases hp
  |some q=>
   rw[hq]at hp hv
   simp only[YF,Zn]at hp hv
   subst hp;subst hv
   exact⟨rfl,λy hy=>hE.eval hy⟩
 unfold Qot
 split
 . rename_i z ps h1
   cases hz:QS (λ_=>false) z
   . trivial
   . dsimp only[cond_true]
     cases hf:Qf9 (Qfj ps) z (Qcr env parts.toList)with
     |none=>trivial
     |some l=>
      refine QF λ_ _=>?_
      obtain⟨o1,o2,o3,o4⟩:=hT _ _ h1
      have hty:=(hT2.2 _ _ h1).1
      have hb:P.built t (parts.map λ(i,x)=>(i,a.eval x)).toList=some (Qh ρ l).toArray:=by
       unfold QfS at o1
       split at o1
       . rename_i fs hu
         simp only[Zn]at o1
         unfold QdB at hty
         rw[hu]at hty
         cases hi:P.info? t with
         |none=>rw[hi]at o3;cases o3
         |some it=>
          rw[hi]at o3
          simp only[ZaW]at o3
          simp only[Program.built,hi,hu,o3,Qio fs.toList hty]
          rw[<- hfill (Qfj ps) z l hz hf]
          simp only[Zad]
          congr 1
          funext i
          unfold Qfj
          rw[<- o1]
          simp only[Zap,Ya]
          cases fs.toList[i]?<;>rfl
       . cases o1
      have:=run_build (P:=P) w t _ _ hb
      simp only[Zx,this,ZD,ZZ];rfl
 . rename_i z n es ea h1
   cases hz:QS (λ_=>false) z
   . trivial
   . dsimp only[cond_true]
     cases hf:Qf9 (λi=>some (i*es,es)) z (Qcr env parts.toList)with
     |none=>trivial
     |some l=>
      refine QF λ_ _=>?_
      obtain⟨o1,o2,o3,o4⟩:=hT _ _ h1
      have hty:=(hT2.2 _ _ h1).1
      have hb:P.built t (parts.map λ(i,x)=>(i,a.eval x)).toList=some (Qh ρ l).toArray:=by
       obtain⟨e,hu,hes,-⟩:=Qb5 o1
       unfold QdB at hty
       rw[hu]at hty
       obtain⟨ie,hie⟩:=Option.isSome_iff_exists.mp (QbE hty)
       have hsz:ie.size=es:=by rw[hie]at hes;simpa using hes
       cases hi:P.info? t with
       |none=>rw[hi]at o3;cases o3
       |some it=>
        rw[hi]at o3
        simp only[ZaW]at o3
        simp only[Program.built,hi,hu,o3,hie,hsz]
        exact hfill _ z l hz hf
      have:=run_build (P:=P) w t _ _ hb
      simp only[Zx,this,ZD,ZZ];rfl
 . trivial
end
end
section
open Go.RowKit
section
variable {P:Program}
theorem Qgq {w:World}(f:Nat->Bool) (g:Nat->Option Bool × Unit->Sem (ForInStep (Option Bool × Unit))):∀(l:List Nat),
 (∀i∈l,(g i (none,())).run P w=.ok (if f i then .yield (none,())else .done (some false,())) w) ->
 (forIn (m:=Sem) l (none,()) g).run P w=.ok (if l.all f then (none,())else (some false,())) w:=by
 intro l
 induction l with
 |nil=>intro _;rfl
 |cons i l ih=>
  intro h
  have h1:=h i (by simp)
  have h2:=ih (λj hj=>h j (by simp[hj]))
  rw[List.forIn_cons]
  simp only[Zx,h1,ZD]
  cases hf:f i
  . simp[hf,ZZ]
  . simp only[if_true]
    rw[h2]
    simp[hf]
theorem QeB (w:World) (d:Nat) (t elem:TypeId) (n sz:Nat) (xs ys:Array Value) (f:Nat->Bool)
 (ht:P.underlying t=some (.array n elem)) (hs:(P.info? elem).map (·.size)=some sz)
 (hf:∀i,i<n->∃a b,(part elem xs (i*sz)).run P w=.ok a w/\(part elem ys (i*sz)).run P w=.ok b w/\(YQ d elem a b).run P w=.ok (f i) w):
 (YQ (d+1) t (.agg xs) (.agg ys)).run P w=.ok ((Z2 n).all f) w:=by
 have hz:(sizeOf elem).run P w=.ok sz w:=by
  cases hq:P.info? elem with
  |none=>simp[hq]at hs
  |some i=>simp[hq]at hs;simp[sizeOf,typeInfo,hq,hs]
 simp only[YQ,Zx,run_underlying ht,ZD,hz]
 rw[Std.Legacy.Range.forIn_eq_forIn_range',Qgq f]
 . simp only[Zc7,ZaQ,Zbf,Nat.div_one]
   rw[<- List.range_eq_range']
   by_cases h:(Z2 n).all f=true
   . simp[h,ZZ]
   . simp[h,ZZ]
 . intro i hi
   have hin:i<n:=by
    simp[Zc7]at hi
    omega
   obtain⟨a,b,ha,hb,he⟩:=hf i hin
   simp only[Zx,ha,hb,he,ZD]
   cases f i<;>simp[ZZ]
end
def eqV:List Value->List Value->Bool
 |[],[]=>true
 |.int k a::r,.int k' b::s=>(a==b)&&eqV r s
 |_,_=>false
inductive Ints2:List Value->List Value->Prop
 |nil:Ints2 [] []
 |cons {k:IntKind}{a b:Int}{r s:List Value}(h:Ints2 r s):Ints2 (.int k a::r) (.int k b::s)
theorem Ints2.len {r s:List Value}(h:Ints2 r s):r.length=s.length:=by induction h<;>simp_all
theorem Ints2.drop {r s:List Value}(h:Ints2 r s):∀n,Ints2 (r.drop n) (s.drop n):=by
 induction h with
 |nil=>intro n;simp;exact .nil
 |cons h ih=>intro n;cases n with
  |zero=>exact .cons h
  |succ n=>exact ih n
theorem Ints2.take {r s:List Value}(h:Ints2 r s):∀n,Ints2 (r.take n) (s.take n):=by
 induction h with
 |nil=>intro n;simp;exact .nil
 |cons h ih=>intro n;cases n with
  |zero=>exact .nil
  |succ n=>exact .cons (ih n)
theorem QiK {r s:List Value}(h:Ints2 r s):∀n,eqV r s=(eqV (r.take n) (s.take n)&&eqV (r.drop n) (s.drop n)):=by
 induction h with
 |nil=>intro n;simp[eqV]
 |cons h ih=>intro n;cases n with
  |zero=>simp[eqV]
  |succ n=>simp only[ZbK,Zck,eqV,ih n,Zdf]
section
variable (P:Program)
def valQ (t:TypeId) (xs:List Value):Value:=if Qa0 P t then .agg xs.toArray else xs.headD undef
end
section
variable {P:Program}{w:World}
theorem QdW {d e:Nat}{xs:List Value}{off:Nat}(h:Qf7 P d e=true) (hl:off+Xa P e<=xs.length):(part e xs.toArray off).run P w=.ok (valQ P e ((xs.drop off).take (Xa P e))) w:=by
 cases d with
 |zero=>simp[Qf7]at h
 |succ d=>
  unfold Qf7 at h
  rw[Zr]at h
  obtain⟨i,hi⟩:=Option.isSome_iff_exists.mp h.1
  have hsz:i.size=Xa P e:=by simp[Xa,hi]
  have h2:=h.2
  cases hu:P.underlying e with
  |none=>rw[hu]at h2;simp at h2
  |some dd=>
   rw[hu]at h2
   have hag:∀b,Qa0 P e=b->(isAgg e).run P w=.ok b w:=by
    intro b hb
    unfold Qa0 at hb
    unfold isAgg
    rw[Zx,run_underlying hu w]
    rw[hu]at hb
    cases dd<;>simp_all
   cases ha:Qa0 P e with
   |false=>
    have hc:Xa P e=1:=by
     unfold Qa0 at ha
     rw[hu]at ha
     cases dd<;>simp_all
    rw[hc]at hl ⊢
    have hg:xs[off]?=some xs[off]:=Zy Za
    unfold valQ
    rw[ha]
    simp only[part,Zx,hag _ ha,ZD,ZbS,if_false]
    rw[Zap,hg]
    simp only[ZZ]
    congr 1
    rw[ZcH Za]
    rfl
   |true=>
    unfold valQ
    rw[ha]
    simp only[part,Zx,hag _ ha,ZD,if_true,sizeOf,typeInfo,run_program,hi,ZZ,hsz]
    simp[Zdd,ZcG]
theorem Qga {d:Nat}(ih:∀t,Qf7 P d t=true->∀d',d<=d'->∀xs ys,Ints2 xs ys->xs.length=Xa P t->(YQ d' t (valQ P t xs) (valQ P t ys)).run P w=.ok (eqV xs ys) w) {d':Nat}(hd:d<=d') {xs ys:List Value}(hi:Ints2 xs ys):
 ∀(fs:List Field) (o:Nat),(fs.all λf=>Qf7 P d f.type)=true->seqF P o fs=some xs.length->o<=xs.length->(Zd6 d' xs.toArray ys.toArray fs).run P w=.ok (eqV (xs.drop o) (ys.drop o)) w
 |[],o,_,h,_=>by
  simp only[seqF,Zn]at h
  subst h
  rw[YY (Zq _),YY (by rw[hi.len];exact Zq _)]
  simp[Zd6,eqV]
 |f::r,o,hall,h,ho=>by
  simp only[Zcd,Zr]at hall
  unfold seqF at h
  split at h
  . rename_i hc
    obtain⟨rfl,hn⟩:=hc
    have hle:f.offset+Xa P f.type<=xs.length:=by
     have:∀(fs:List Field) (o t:Nat),seqF P o fs=some t->o<=t:=by
      intro fs
      induction fs with
      |nil=>intro o t h;simp only[seqF,Zn]at h;omega
      |cons g s ih=>intro o t h;unfold seqF at h;split at h
                    . have:=ih _ _ h;omega
                    . cases h
     exact this _ _ _ h
    have e1:=QdW (w:=w) (xs:=xs) hall.1 hle
    have e2:=QdW (w:=w) (xs:=ys) hall.1 (by rw[<- hi.len];exact hle)
    have e3:=ih f.type hall.1 d' hd _ _ ((hi.drop f.offset).take (Xa P f.type)) (by simp;omega)
    have e4:=Qga ih hd hi r _ hall.2 h hle
    simp only[Zd6,ne_eq,hn,not_false_eq_true,if_true,Zx,e1,e2,e3,ZD]
    rw[QiK (hi.drop f.offset) (Xa P f.type),List.drop_drop,List.drop_drop]
    cases eqV ((xs.drop f.offset).take (Xa P f.type)) ((ys.drop f.offset).take (Xa P f.type))
    . simp
    . simp[e4]
  . cases h
theorem QkI (sz:Nat):∀(n:Nat) {xs ys:List Value},Ints2 xs ys->xs.length=n*sz->(Z2 n).all (λi=>eqV ((xs.drop (i*sz)).take sz) ((ys.drop (i*sz)).take sz))=eqV xs ys
 |0,xs,ys,h,hl=>by
  rw[ZaF]at hl
  cases h with
  |nil=>rfl
  |cons h=>simp at hl
 |n+1,xs,ys,h,hl=>by
  have hm:(n+1)*sz=n*sz+sz:=ZdJ n sz
  rw[List.range_succ,List.all_append]
  have h1:=QkI sz n (h.take (n*sz)) (by simp;omega)
  rw[QiK h (n*sz),<- h1]
  congr 1
  . apply Bool.eq_iff_iff.2
    simp only[YK,List.mem_range]
    have key:∀(l:List Value) i,i<n->((l.take (n*sz)).drop (i*sz)).take sz=(l.drop (i*sz)).take sz:=by
     intro l i hi
     have:i*sz+sz<=n*sz:=by
      have:=ZK sz (show i+1<=n by omega)
      rwa [ZdJ]at this
     rw[List.drop_take,ZaJ,YM Za]
    constructor<;>(intro hh i hi;have:=hh i hi;first|(rw[key xs i hi,key ys i hi];exact this)|(rw[key xs i hi,key ys i hi]at this;exact this))
  . simp only[Zcd,List.all_nil,Zbo]
    rw[Yn (by simp;omega),Yn (by simp[<- h.len];omega)]
theorem QeK:∀(d:Nat) (t:TypeId),Qf7 P d t=true->∀d',d<=d'->∀xs ys,Ints2 xs ys->xs.length=Xa P t->(YQ d' t (valQ P t xs) (valQ P t ys)).run P w=.ok (eqV xs ys) w
 |0,t,h=>by simp[Qf7]at h
 |d+1,t,h=>by
  intro d' hd xs ys hi hl
  obtain⟨d2,rfl⟩:∃d2,d'=d2+1:=⟨d'-1,Za⟩
  have h0:=h
  unfold Qf7 at h
  rw[Zr]at h
  have h2:=h.2
  cases hu:P.underlying t with
  |none=>rw[hu]at h2;simp at h2
  |some dd=>
   rw[hu]at h2
   cases dd<;>try (simp at h2;done)
   case int k0=>
    have hc:Xa P t=1:=by simpa using h2
    rw[hc]at hl
    have ha:Qa0 P t=false:=by unfold Qa0;rw[hu]
    cases hi with
    |nil=>simp at hl
    |cons hr=>
     rename_i k a b r s
     have:r=[]:=List.length_eq_zero_iff.1 (by simpa using hl)
     subst this
     cases hr
     simp only[valQ,ha,ZbS,if_false,List.headD_cons]
     rw[run_equalIn_int w d2 t k k0 a b hu]
     simp[eqV]
   case struct fs=>
    simp only[Zr,YD,beq_iff_eq]at h2
    have ha:Qa0 P t=true:=by unfold Qa0;rw[hu]
    have hfs:P.fieldsOf t=fs:=by unfold Program.fieldsOf;rw[hu]
    simp only[valQ,ha,if_true]
    rw[run_equalIn_struct w d2 t _ _ (by rw[hfs];exact hu) h2.1.1,hfs]
    have:=Qga (w:=w) (λt ht d' hd xs ys hi hl=>QeK d t ht d' hd xs ys hi hl) (show d<=d2 by omega) hi fs.toList 0 h2.1.2 (by rw[h2.2,hl]) (Z9 _)
    simpa using this
   case array n e=>
    simp only[Zr,YD,beq_iff_eq,beq_eq_false_iff_ne,ne_eq]at h2
    obtain⟨⟨h3,h4⟩,h5⟩:=h2
    have ha:Qa0 P t=true:=by unfold Qa0;rw[hu]
    simp only[valQ,ha,if_true]
    have hsz:(P.info? e).map (·.size)=some (Xa P e):=by
     unfold Xa
     unfold Xa at h5
     cases hq:P.info? e with
     |none=>rw[hq]at h5;simp at h5
     |some i=>rfl
    rw[QeB w d2 t e n (Xa P e) _ _ (λi=>eqV ((xs.drop (i*Xa P e)).take (Xa P e)) ((ys.drop (i*Xa P e)).take (Xa P e))) hu hsz (λi hin=>?_)]
    . rw[QkI (Xa P e) n hi (by rw[hl,h4])]
    . have hle:i*Xa P e+Xa P e<=xs.length:=by
       have:=ZK (Xa P e) (show i+1<=n by omega)
       rw[ZdJ]at this
       omega
      exact⟨_,_,QdW h3 hle,QdW h3 (by rw[<- hi.len];exact hle),QeK d e h3 d2 Za _ _ ((hi.drop _).take _) (by simp;omega)⟩
def intsE (n:Nat) (f g:Nat->Int):Bool:=decide ((Z2 n).map f=(Z2 n).map g)
def Qds:List Seg->List Seg->Option Bool
 |[],[]=>some true
 |.one (.v (.int k a))::r,.one (.v (.int k' b))::s=>bif ikE k k' then (match Qds r s with
  |some e=>some (bif a==b then e else false)
  |none=>none)else none
 |.ints (.int k) n f::r,.ints (.int k') n' g::s=>bif ikE k k'&&n.beq n' then (match Qds r s with
  |some e=>some (bif intsE n f g then e else false)
  |none=>none)else none
 |_,_=>none
theorem Qkl (k:IntKind) (f g:Nat->Int) {r s:List Value}(h:Ints2 r s):∀(l:List Nat),Ints2 ((l.map λi=>ZA k (f i))++r) ((l.map λi=>ZA k (g i))++s) /\
 eqV ((l.map λi=>ZA k (f i))++r) ((l.map λi=>ZA k (g i))++s)=(decide (l.map f=l.map g)&&eqV r s)
 |[]=>⟨h,by simp⟩
 |i::l=>by
  obtain⟨h1,h2⟩:=Qkl k f g h l
  refine⟨.cons h1,?_⟩
  simp only[Z4,Ym,eqV,h2,<- Zdf]
  congr 1
  rw[Bool.eq_iff_iff]
  simp
theorem QlW (ρ:Nat->Nat):∀(l m:List Seg) (b:Bool),Qds l m=some b->Ints2 (Qh ρ l) (Qh ρ m)/\eqV (Qh ρ l) (Qh ρ m)=b:=by
 intro l
 induction l with
 |nil=>
  intro m b h
  cases m with
  |nil=>simp only[Qds,Zn]at h;subst h;exact⟨.nil,rfl⟩
  |cons y s=>simp[Qds]at h
 |cons x r ih=>
  intro m b h
  unfold Qds at h
  split at h
  . rename_i e;cases e
  . rename_i k a r' k' b' s e1
    simp only[Zaa]at e1
    obtain⟨rfl,rfl⟩:=e1
    cases hk:ikE k k'
    . rw[hk]at h;cases h
    . rw[hk]at h
      obtain rfl:=QdF hk
      simp only[cond_true]at h
      cases he:Qds r s with
      |none=>rw[he]at h;cases h
      |some e=>
       rw[he]at h
       simp only[Zn]at h;subst h
       obtain⟨h1,h2⟩:=ih s e he
       refine⟨.cons h1,?_⟩
       simp only[Qh,Seg.den,SC.den,Ym,YA,eqV,h2]
       cases a==b'<;>rfl
  . rename_i k n f r' k' n' g s e1
    simp only[Zaa]at e1
    obtain⟨rfl,rfl⟩:=e1
    cases hk:(ikE k k'&&n.beq n')
    . rw[hk]at h;cases h
    . rw[hk]at h
      simp only[Zr]at hk
      obtain rfl:=QdF hk.1
      obtain rfl:=Zo hk.2
      simp only[cond_true]at h
      cases he:Qds r s with
      |none=>rw[he]at h;cases h
      |some e=>
       rw[he]at h
       simp only[Zn]at h;subst h
       obtain⟨h1,h2⟩:=ih s e he
       obtain⟨g1,g2⟩:=Qkl k f g h1 (Z2 n)
       refine⟨g1,?_⟩
       simp only[Qh,Seg.den,mkV]
       rw[g2,h2]
       unfold intsE
       cases decide (YN f (Z2 n)=YN g (Z2 n))<;>rfl
  . cases h
def cmpA (T:Tab) (op:BinOp) (t:Nat) (l m:List Seg):Option Bool:=match lkT T t with
 |some i=>bif Qd2 i&&(Qq l).beq i.size then (match op,Qds l m with
  |.eql,some b=>some b
  |.neq,some b=>some (bif b then false else true)
  |_,_=>none)else none
 |none=>none
theorem Qqj {T:Tab}(hT:TabOk P T) (hT2:TysOk P T) {op:BinOp}{t:Nat}{l m:List Seg}{b:Bool}{u v:Operand}{ρ:Nat->Nat}(h:cmpA T op t l m=some b):
 (do eqGuard op t u v ((SA.a l).den ρ) ((SA.a m).den ρ);binOp op t ((SA.a l).den ρ) ((SA.a m).den ρ):Sem Value).run P w=.ok (.bool b) w:=by
 unfold cmpA at h
 cases h1:lkT T t with
 |none=>rw[h1]at h;cases h
 |some i=>
  rw[h1]at h
  dsimp only at h
  cases hc:(Qd2 i&&(Qq l).beq i.size)
  . rw[hc]at h;cases h
  . rw[hc]at h
    simp only[cond_true]at h
    simp only[Zr]at hc
    have hq:=(hT2.2 _ _ h1).2.1 hc.1
    unfold eqTy at hq
    simp only[Zr,YD]at hq
    have hlen:=Zo hc.2
    obtain⟨ha,hz,-,-,-⟩:=(hT _ _ h1).agg (λz k e=>by subst e;simp[Qd2]at hc)
    have hcq:Xa P t=i.size:=by unfold Xa;rw[hz];rfl
    have key:∀e,Qds l m=some e->(YQ 10000 t (.agg (Qh ρ l).toArray) (.agg (Qh ρ m).toArray)).run P w=.ok e w:=by
     intro e he
     obtain⟨g1,g2⟩:=QlW ρ l m e he
     have:=QeK (w:=w) 12 t hq.1 10000 Zb _ _ g1 (by rw[Qt,hlen,hcq])
     unfold valQ at this
     rw[ha]at this
     simp only[if_true]at this
     rw[this,g2]
    have hg:=run_eqGuard_agg (P:=P) w op t u v (Qh ρ l).toArray (Qh ρ m).toArray hq.2
    simp only[SA.den,Zx,hg,ZD]
    split at h
    . rename_i e he
      simp only[Zn]at h;subst h
      rw[run_eql_struct,key _ he];rfl
    . rename_i e he
      simp only[Zn]at h;subst h
      rw[run_neq_struct,key _ he]
      cases e<;>rfl
    . cases h
end
end
section
open Go.RowKit
section
variable {P:Program}{V w:World}{ρ:Nat->Nat}{M:List SB}{nx:Nat}
def Qki:List Seg->Option (List CK)
 |[]=>some []
 |.one (.v (.int k _))::r=>match Qki r with
  |some l=>some (.int k::l)
  |none=>none
 |.one (.v (.bool _))::r=>match Qki r with
  |some l=>some (.bool::l)
  |none=>none
 |.ints k n _::r=>match Qki r with
  |some l=>some (List.replicate n k++l)
  |none=>none
 |_=>none
def rowP (T:Tab) (t:Nat):Option (Nat × Nat × List CK):=match lkT T t with
 |some (.one _ (.slice e))=>match lkT T e with
  |some ti=>match Qki ti.zero with
   |some ks=>bif QS (λ_=>false) ti.zero&&ks.length.beq ti.size && !ti.size.beq 0 then some (e,ti.size,ks)else none
   |none=>none
  |none=>none
 |_=>none
theorem QfL {T:Tab}(hT:TabOk P T) (hT2:TysOk P T) {t e sz:Nat}{ks:List CK}(h:rowP T t=some (e,sz,ks)):
 P.underlying t=some (.slice e)/\0<sz/\ks.length=sz/\∃i z,P.info? e=some i/\i.zero=some z/\i.size=sz/\i.bytes<=2048/\z.cells.size=sz:=by
 unfold rowP at h
 split at h
 . rename_i z e' h1
   split at h
   . rename_i ti h2
     split at h
     . rename_i ks' h3
       cases hc:(QS (λ_=>false) ti.zero&&ks'.length.beq ti.size && !ti.size.beq 0)
       . rw[hc]at h;cases h
       . rw[hc]at h
         simp only[cond_true,Zn,ZT]at h
         obtain⟨rfl,rfl,rfl⟩:=h
         simp only[Zr,YD]at hc
         obtain⟨⟨c1,c2⟩,c3⟩:=hc
         have hne:ti.size≠0:=λe=>by rw[e]at c3;cases c3
         obtain⟨z,j,hj,hz,hzc,hs⟩:=Qet (ρ:=λ_=>0) hT h2 c1
         have hb:=(hT2.2 _ _ h2).2.2
         unfold QhV at hb
         rw[hj]at hb
         refine⟨QbU (hT _ _ h1).1,Za,Zo c2,j,z,hj,hz,hs,XZ hb,?_⟩
         rw[hzc,ZdK,Qt]
         cases ti<;>rfl
     . cases h
   . cases h
 . cases h
def ksE:List CK->List CK->Bool
 |[],[]=>true
 |a::r,b::s=>(ckN a).beq (ckN b)&&ksE r s
 |_,_=>false
theorem QgK:∀ {r s:List CK},ksE r s=true->r=s
 |[],[],_=>rfl
 |[],_::_,h=>by cases h
 |_::_,[],h=>by cases h
 |a::r,b::s,h=>by
  simp only[ksE,Zr]at h
  rw[QhU h.1,QgK h.2]
structure Src where
 b:Nat
 vc:Prop
 m:Nat
 z:Nat->Nat->Int
def kOk:List CK->(Nat->IntKind)->Nat->Bool
 |[],_,_=>true
 |.int k::r,f,i=>ikE k (f i)&&kOk r f (i+1)
 |.bool::_,_,_=>false
theorem Qnm {f:Nat->IntKind}{z:Int}:∀ {ks:List CK}{i j:Nat},kOk ks f i=true->j<ks.length->mkV (ckAt ks j) z=.int (f (i+j)) z
 |[],_,_,_,h=>by simp at h
 |.int k::r,i,0,h,_=>by
  simp only[kOk,Zr]at h
  have:=QdF h.1
  subst this;rfl
 |.int k::r,i,j+1,h,hj=>by
  simp only[kOk,Zr]at h
  have:=Qnm (z:=z) (j:=j) h.2 (by simpa using hj)
  rw[show i+(j+1)=i+1+j by omega];exact this
 |.bool::_,_,_,h,_=>by simp[kOk]at h
def srcS (V:World) (M:List SB) (e sz:Nat) (ks:List CK):Option SV->Option Src
 |some (.o (.c (.o b m c)))=>match getB M b with
  |.rows t' ks' sz' n' c' z=>bif t'.beq e&&sz'.beq sz&&ksE ks' ks then some ⟨b,m<=n'/\c=c',m,z⟩else none
  |_=>none
 |some (.o (.c (.so b lo sz2 m c nn)))=>match getB M b with
  |.rows t' ks' sz' n' c' z=>bif t'.beq e&&sz'.beq sz&&sz2.beq sz&&ksE ks' ks then some ⟨b,lo+m<=n'/\c=c',m,λi=>z (lo+i)⟩else none
  |_=>none
 |some (.o (.c (.v (.slice none n m))))=>bif n.beq 0&&m.beq 0 then some ⟨M.length,True,0,λ_ _=>0⟩else none
 |some (.o (.c (.r a n c m sz2 kf z)))=>bif sz2.beq sz&&kOk ks kf 0&&ks.length.beq sz then some ⟨M.length,Rws sz kf V a m c z/\n<=m,n,z⟩else none
 |_=>none
theorem QeC (ks:Nat->CK) (sz:Nat) (z:Nat->Nat->Int) (n m:Nat) (h:m<=n):(QJ ks sz z n).take (m*sz)=QJ ks sz z m:=by
 apply Qbn
 . rw[ZW,QI]
   have:=ZK sz h
   omega
 . intro i j hi hj
   have:(i+1)*sz<=m*sz:=ZK _ hi
   rw[Yi]at this
   rw[ZO,Zf Za,Xm ks sz z n i j Za hj]
theorem Qk9 (ks:Nat->CK) (sz:Nat) (z:Nat->Nat->Int) (n lo m:Nat) (h:lo+m<=n):((QJ ks sz z n).drop (lo*sz)).take (m*sz)=QJ ks sz (λi=>z (lo+i)) m:=by
 apply Qbn
 . rw[ZW,ZaV,QI]
   have:=ZK sz h
   rw[Yi]at this
   omega
 . intro i j hi hj
   have:(i+1)*sz<=m*sz:=ZK _ hi
   rw[Yi]at this
   rw[ZO,Zf Za,YL,show lo*sz+(i*sz+j)=(lo+i)*sz+j by rw[Yi];omega,Xm ks sz z n (lo+i) j Za hj]
theorem QmE (hV:OldV V w) {e sz:Nat}{ks:List CK}{x:Option SV}{v:Value}{s:Src}(h:srcS V M e sz ks x=some s) (hx:∀y,x=some y->v=y.den ρ) (hR:∀e∈denB ρ s.b (getB M s.b),e.at w) (hv:s.vc):
 ∃a c,v=.slice a s.m c/\(s.m=0\/∃b off,a=some ⟨b,off,none⟩/\∀j u,(QJ (ckAt ks) sz s.z s.m)[j]?=some u->w.cell? ⟨b,off+j,none⟩=some u):=by
 unfold srcS at h
 split at h
 . rename_i b m c
   have:=hx _ rfl
   subst this
   split at h
   . rename_i t' ks' sz' n' c' z hb
     cases hc:(t'.beq e&&sz'.beq sz&&ksE ks' ks)
     . rw[hc]at h;cases h
     . rw[hc]at h
       simp only[cond_true,Zn]at h;subst h
       simp only[Zr]at hc
       obtain⟨⟨-,h2⟩,h3⟩:=hc
       obtain rfl:=Zo h2
       obtain rfl:=QgK h3
       obtain⟨h1,rfl⟩:=hv
       have hrow:=Qj4 hb hR
       cases hcc:c.beq 0
       . refine⟨some ⟨ρ b,0,none⟩,c,by simp only[SV.den,SA.den,SC.den,hcc,cond_false],?_⟩
         rcases Yz m with h0|h0
         . exact .inl h0
         . obtain⟨C,hB,hl,ht,-⟩:=hrow.blk Za
           refine .inr ⟨ρ b,0,rfl,λj u hj=>?_⟩
           rw[hB.cell,Zu]
           rw[<- QeC _ _ _ n' m h1,<- ht,ZaJ,ZO]at hj
           split at hj
           . exact hj
           . cases hj
       . have h0:=Zo hcc
         have:=hrow.1
         exact⟨none,0,by simp only[SV.den,SA.den,SC.den,hcc,cond_true];rw[show m=0 by omega],.inl (by simp only;omega)⟩
   . cases h
 . rename_i b lo sz2 m c nn
   have:=hx _ rfl
   subst this
   split at h
   . rename_i t' ks' sz' n' c' z hb
     cases hc:(t'.beq e&&sz'.beq sz&&sz2.beq sz&&ksE ks' ks)
     . rw[hc]at h;cases h
     . rw[hc]at h
       simp only[cond_true,Zn]at h;subst h
       simp only[Zr]at hc
       obtain⟨⟨⟨-,h2⟩,h4⟩,h3⟩:=hc
       obtain rfl:=Zo h2
       obtain rfl:=Zo h4
       obtain rfl:=QgK h3
       obtain⟨h1,rfl⟩:=hv
       have hrow:=Qj4 hb hR
       have hnc:=hrow.1
       cases hcc:(c.beq 0 && !nn)
       . refine⟨some ⟨ρ b,bif (c-lo).beq 0 then 0 else lo*sz2,none⟩,c-lo,by simp only[SV.den,SA.den,SC.den,hcc,cond_false],?_⟩
         rcases Yz m with h0|h0
         . exact .inl h0
         . obtain⟨C,hB,hl,ht,-⟩:=hrow.blk Za
           have hz:(c-lo).beq 0=false:=by cases hq:(c-lo).beq 0;rfl;exact absurd (Zo hq) Za
           refine .inr ⟨ρ b,lo*sz2,by rw[hz];rfl,λj u hj=>?_⟩
           rw[hB.cell]
           rw[<- Qk9 _ _ _ n' lo m h1,<- ht,ZO]at hj
           split at hj
           . rw[YL,ZO]at hj
             split at hj
             . exact hj
             . cases hj
           . cases hj
       . simp only[Zr]at hcc
         have h0:=Zo hcc.1
         exact⟨none,0,by simp only[SV.den,SA.den,SC.den,hcc.1,hcc.2,ZbN,cond_true];rw[show m=0 by omega],.inl (by simp only;omega)⟩
   . cases h
 . rename_i n m
   cases hc:(n.beq 0&&m.beq 0)
   . rw[hc]at h;cases h
   . rw[hc]at h
     simp only[Zr]at hc
     obtain rfl:=Zo hc.1
     obtain rfl:=Zo hc.2
     simp only[cond_true,Zn]at h;subst h
     have:=hx _ rfl
     subst this
     exact⟨none,0,rfl,.inl rfl⟩
 . rename_i a n c m sz2 kf z
   cases hc:(sz2.beq sz&&kOk ks kf 0&&ks.length.beq sz)
   . rw[hc]at h;cases h
   . rw[hc]at h
     simp only[Zr]at hc
     obtain⟨⟨h1,h2⟩,h3⟩:=hc
     obtain rfl:=Zo h1
     have h3:=Zo h3
     simp only[cond_true,Zn]at h;subst h
     have:=hx _ rfl
     subst this
     obtain⟨hr,hn⟩:=hv
     dsimp only at hn ⊢
     rcases Yz n with h0|h0
     . exact⟨a,c,rfl,.inl h0⟩
     . obtain⟨-,-,g|⟨b,off,rfl,hb,hcell⟩⟩:=hV _ _ _ _ _ _ hr
       . omega
       . refine⟨_,c,rfl,.inr ⟨b,off,rfl,λj u hj=>?_⟩⟩
         have hjl:j<n*sz2:=by
          rcases Yy j (n*sz2)with h|h
          . exact h
          . rw[ZU (by rw[QI];exact h)]at hj;cases hj
         have hs:0<sz2:=by
          rcases Yz sz2 with h|h
          . subst h;simp at hjl
          . exact h
         have hq:j/sz2<n:=Zdc (by rw[ZaE];exact hjl)
         have hm:=Nat.mod_lt j hs
         have hdm:j/sz2*sz2+j%sz2=j:=by rw[ZaE];exact Zd8 j sz2
         have h4:=Xm (ckAt ks) sz2 z n (j/sz2) (j%sz2) hq hm
         rw[hdm,hj,Qnm h2 Za,Zu]at h4
         rw[YP h4,<- (hcell (j/sz2) Za (j%sz2) hm).1]
         congr 2;omega
 . cases h
def catR (n:Nat) (z z2:Nat->Nat->Int):Nat->Nat->Int:=λi j=>bif i.blt n then z i j else z2 (i-n) j
theorem Qij (ks:Nat->CK) (sz n m:Nat) (z z2:Nat->Nat->Int):QJ ks sz z n++QJ ks sz z2 m=QJ ks sz (catR n z z2) (n+m):=by
 apply Qbn
 . rw[Zw,QI,QI,Yi]
 . intro i j hi hj
   unfold catR
   rcases Yy i n with h|h
   . have:(i+1)*sz<=n*sz:=ZK _ h
     rw[Yi]at this
     rw[Z5 (by rw[QI];omega),Xm ks sz z n i j h hj]
     simp[show i.blt n=true by simpa [ZbR] using h]
   . have:n*sz<=i*sz:=ZK _ h
     rw[Z8 (by rw[QI];omega),QI,show i*sz+j-n*sz=(i-n)*sz+j by rw[Nat.sub_mul];omega,Xm ks sz z2 m (i-n) j Za hj]
     simp[show i.blt n=false by cases hb:i.blt n;rfl;exact absurd (Xv hb) Za]
theorem RowAt.own {b:Nat}{t:TypeId}{ks:Nat->CK}{sz n c:Nat}{z:Nat->Nat->Int}(h:RowAt w b t sz n c (QJ ks sz z n)) {m:Nat}(hm:m<=n):w.ownsRow 0 t sz (bif c.beq 0 then .slice none 0 0 else .slice (some ⟨b,0,none⟩) m c) m (QJ ks sz z m):=by
 refine⟨QI _ _ _ _,?_⟩
 cases hc:c.beq 0
 . have h0:c≠0:=λe=>by subst e;simp at hc
   obtain⟨C,hB,hl,ht,hmx⟩:=h.2.2 Za
   refine .inr ⟨b,c,C.toArray,rfl,Z9 _,hB,by have:=h.1;omega,hmx,by simpa using hl,?_⟩
   have:=ZK sz hm
   have e:C.take (m*sz)=(C.take (n*sz)).take (m*sz):=by rw[ZaJ,YM this]
   rw[e,ht,QeC _ _ _ n m hm]
 . have h0:=Zo hc
   have:=h.1
   exact .inl ⟨rfl,Za⟩
theorem QmZ {t sz k:Nat}{v:Value}{xs:List Value}(h:w.ownsRow 0 t sz v k xs) (hk:0<k):∃g c,v=.slice (some ⟨g,0,none⟩) k c/\k<=c/\RowAt w g t sz k c xs/\v.ownBlock=some g:=by
 obtain⟨h1,⟨rfl,rfl⟩|⟨g,c,cur,rfl,hb,hg,hl,hm,hs,ht⟩⟩:=h
 . omega
 . exact⟨g,c,rfl,hl,⟨hl,h1,λ_=>⟨cur.toList,by unfold Blk;simpa using hg,by simpa using hs,ht,hm⟩⟩,rfl⟩
theorem bz {c:Nat}(h:0<c):c.beq 0=false:=by cases hb:c.beq 0;rfl;exact absurd (Zo hb) Za
def dstS (M:List SB) (e sz:Nat) (ks:List CK):Option SV->Option (Option Nat × Prop × Nat × Nat × (Nat->Nat->Int) × Bool)
 |some (.o (.c (.o b n c)))=>match getB M b with
  |.rows t' ks' sz' n' c' z=>bif t'.beq e&&sz'.beq sz&&ksE ks' ks then some (some b,n<=n'/\c=c',n,c,z,false)else none
  |_=>none
 |some (.o (.c (.so b lo _ n c nn)))=>match getB M b with
  |.rows t' ks' sz' n' c' z=>bif t'.beq e&&sz'.beq sz&&ksE ks' ks&&lo.beq 0 then some (some b,n<=n'/\c=c',n,c,z,nn)else none
  |_=>none
 |some (.o (.c (.v (.slice none n m))))=>bif n.beq 0&&m.beq 0 then some (none,True,0,0,λ_ _=>0,false)else none
 |_=>none
def appU (nx e sz n m c:Nat) (ks:List CK) (z:Nat->Nat->Int):Option Nat->Nat->List SB
 |some _,c'=>[.gone,.rows e ks sz (n+m) c' z]
 |none,c'=>[.rows e ks sz (n+m) c' z]
def appW (nx:Nat):Option Nat->List Nat
 |some b=>[b,nx]
 |none=>[nx]
def neB:Option Nat->Nat->Bool
 |some b,c=>!b.beq c
 |none,_=>true
def QjO (V:World) (T:Tab) (M:List SB) (nx:Nat) (t:Nat) (x y:Option SV):Eff:=match rowP T t with
 |some (e,sz,ks)=>match dstS M e sz ks x,srcS V M e sz ks y with
  |some (ob,p,n,c,z,nn),some s=>bif neB ob s.b&&neB ob nx then
   .any Nat [s.b] (some (p/\s.vc/\n+s.m<=68719476736)) (λc'=>n+s.m<=c') (λc'=>.o (.c (.so nx 0 sz (n+s.m) c' nn))) (appW nx ob) (appU nx e sz n s.m c ks (catR n z s.z) ob)else .no
  |_,_=>.no
 |none=>.no
theorem QmH (ρ:Nat->Nat) (b sz n c:Nat) (nn:Bool):(SC.so b 0 sz n c nn).den ρ=bif c.beq 0 && !nn then .slice none 0 0 else .slice (some ⟨ρ b,0,none⟩) n c:=by
 simp only[SC.den,ZaQ,ZaF]
 cases c.beq 0<;>rfl
theorem Qip {base t sz k:Nat}{v:Value}{xs:List Value}(h:w.ownsRow base t sz v k xs):w.ownsRow 0 t sz v k xs:=by
 obtain⟨h1,h2|⟨g,c,cur,hv,hb,h3⟩⟩:=h
 . exact⟨h1,.inl h2⟩
 . exact⟨h1,.inr ⟨g,c,cur,hv,Z9 _,h3⟩⟩
theorem Qbl {t e:Nat}{i:TypeInfo}(ht:P.underlying t=some (.slice e)) (hi:P.info? e=some i) (ty:TypeId) (base a:Option Addr) (n c c2:Nat) (hn:n<=c):
 (Zbl #[t,t] ty #[.slice base n c,.slice a 0 c2]).run P w=.ok (.slice base n c) w:=by
 have hcs:∀(b:Addr),(loadCells b 0).run P w=.ok #[] w:=λb=>by
  have:=run_loadCells_list (P:=P) w b [] (by simp)
  simpa using this
 cases base<;>cases a<;>simp[Zbl,run_underlying ht,sizeOf,typeInfo,hi,Zx,Builtin.lenOf,ZdD,hn,hcs,storeCells]
theorem Qma {T:Tab}(hV:OldV V w) (hT:TabOk P T) (hT2:TysOk P T) (t:Nat) (ty:TypeId) {x y:Option SV}{v u:Value}(hx:∀s,x=some s->v=s.den ρ) (hy:∀s,y=some s->u=s.den ρ):
 XW P V ρ M nx w (do let r <- Zbl #[t,t] ty #[v,u];pure (Yh r)) (QjO V T M nx t x y):=by
 unfold QjO
 split
 . rename_i e sz ks hp
   obtain⟨hu,hsz,hkl,i,zv,hi,hz,his,hib,hzs⟩:=QfL hT hT2 hp
   split
   . rename_i ob p n c z nn s hd hs
     cases hne:(neB ob s.b&&neB ob nx)
     . trivial
     . intro hR hW hv
       obtain⟨hp1,hp2,hlen⟩:=hv
       simp only[Zr]at hne
       obtain⟨a,c2,rfl,hsrc⟩:=QmE hV hs hy (hR s.b (by simp)) hp2
       have hdst:(∃b n' ,ob=some b/\n<=n'/\n<=c/\v=(bif c.beq 0 && !nn then .slice none 0 0 else .slice (some ⟨ρ b,0,none⟩) n c)/\getB M b=.rows e ks sz n' c z/\RowAt w (ρ b) e sz n' c (QJ (ckAt ks) sz z n'))\/(ob=none/\n=0/\c=0/\v=.slice none 0 0/\nn=false):=by
        unfold dstS at hd
        split at hd
        . rename_i b n1 c1
          split at hd
          . rename_i t' ks' sz' n' c' z' hb
            cases hc:(t'.beq e&&sz'.beq sz&&ksE ks' ks)
            . rw[hc]at hd;cases hd
            . rw[hc]at hd
              simp only[cond_true,Zn,ZT]at hd
              obtain⟨rfl,rfl,rfl,rfl,rfl,rfl⟩:=hd
              simp only[Zr]at hc
              obtain⟨⟨h2,h4⟩,h3⟩:=hc
              obtain rfl:=Zo h2
              obtain rfl:=Zo h4
              obtain rfl:=QgK h3
              obtain⟨g1,rfl⟩:=hp1
              have hrow:RowAt w (ρ b) t' sz' n' c1 (QJ (ckAt ks') sz' z' n'):=hW.holds (.row (ρ b) t' sz' n' c1 (QJ (ckAt ks') sz' z' n')) (by simp[denT,denB,hb,appW])
              exact .inl ⟨b,n',rfl,g1,ZV g1 hrow.1,(hx _ rfl).trans (by simp only[SV.den,SA.den,SC.den,Bool.not_false,Zbo]),hb,hrow⟩
          . cases hd
        . rename_i b lo sz2 n1 c1 nn1
          split at hd
          . rename_i t' ks' sz' n' c' z' hb
            cases hc:(t'.beq e&&sz'.beq sz&&ksE ks' ks&&lo.beq 0)
            . rw[hc]at hd;cases hd
            . rw[hc]at hd
              simp only[cond_true,Zn,ZT]at hd
              obtain⟨rfl,rfl,rfl,rfl,rfl,rfl⟩:=hd
              simp only[Zr]at hc
              obtain⟨⟨⟨h2,h4⟩,h3⟩,h5⟩:=hc
              obtain rfl:=Zo h2
              obtain rfl:=Zo h4
              obtain rfl:=Zo h5
              obtain rfl:=QgK h3
              obtain⟨g1,rfl⟩:=hp1
              have hrow:RowAt w (ρ b) t' sz' n' c1 (QJ (ckAt ks') sz' z' n'):=hW.holds (.row (ρ b) t' sz' n' c1 (QJ (ckAt ks') sz' z' n')) (by simp[denT,denB,hb,appW])
              exact .inl ⟨b,n',rfl,g1,ZV g1 hrow.1,(hx _ rfl).trans (QmH _ _ _ _ _ _),hb,hrow⟩
          . cases hd
        . rename_i n1 m1
          cases hc:(n1.beq 0&&m1.beq 0)
          . rw[hc]at hd;cases hd
          . rw[hc]at hd
            simp only[Zr]at hc
            obtain rfl:=Zo hc.1
            obtain rfl:=Zo hc.2
            simp only[cond_true,Zn,ZT]at hd
            obtain⟨rfl,rfl,rfl,rfl,rfl,rfl⟩:=hd
            exact .inr ⟨rfl,rfl,rfl,hx _ rfl,rfl⟩
        . cases hd
       by_cases hm:s.m=0
       · -- nothing is appended
         rw[hm]at hsrc ⊢
         refine⟨c,?_⟩
         rcases hdst with⟨b,n',rfl,h1,hnc,rfl,hb,hrow⟩|⟨rfl,rfl,rfl,rfl,rfl⟩
         . have hbn:b≠nx:=λe=>by subst e;simp[neB]at hne
           have hr:(Zbl #[t,t] ty #[bif c.beq 0 && !nn then .slice none 0 0 else .slice (some ⟨ρ b,0,none⟩) n c,.slice a 0 c2]).run P w=.ok (bif c.beq 0 && !nn then .slice none 0 0 else .slice (some ⟨ρ b,0,none⟩) n c) w:=by
            cases hc:(c.beq 0 && !nn)
            . exact Qbl hu hi ty _ _ _ _ _ hnc
            . exact Qbl hu hi ty _ _ _ _ _ (Zq _)
           refine⟨Za,rfl,w,λi=>if i=nx then ρ b else ρ i,λi hi=>Ze (by simp[appW,appU]at hi;omega),.val (by
            simp only[Zx,hr,ZD,ZZ,SV.den,SA.den,QmH,Zf];rfl),?_⟩
           have hf:∀g,(0<c/\ρ b=g)->feet (denT ρ M ((Zen (appW nx (some b)) (appU nx e sz n 0 c ks (catR n z s.z) (some b) c)).map (·.1))) g:=λg hg=>⟨.row (ρ b) e sz n' c (QJ (ckAt ks) sz z n'),by simp[denT,denB,hb,appW,appU],hg⟩
           have hrow2:RowAt w (ρ b) e sz (n+0) c (QJ (ckAt ks) sz (catR n z s.z) (n+0)):=by
            refine⟨hnc,QI _ _ _ _,λhc=>?_⟩
            obtain⟨C,hB,hl,ht,hmx⟩:=hrow.2.2 hc
            refine⟨C,hB,hl,?_,hmx⟩
            rw[<- Qij]
            simp only[QJ,YV,Yu]
            have:=ZK sz h1
            rw[show C.take (n*sz)=(C.take (n'*sz)).take (n*sz) by rw[ZaJ,YM this],ht,QeC _ _ _ n' n h1]
           have:=Mem.one (w:=w) (S:=feet (denT ρ M ((Zen (appW nx (some b)) (appU nx e sz n 0 c ks (catR n z s.z) (some b) c)).map (·.1)))) (Kept.refl _ w) (e:=.row (ρ b) e sz (n+0) c (QJ (ckAt ks) sz (catR n z s.z) (n+0))) hrow2 (λg hg=>.inl (hf g hg))
           simpa [denU,denB,appW,appU] using this
         . refine⟨Za,rfl,w,λi=>if i=nx then 0 else ρ i,λi hi=>Ze (by simp[appW,appU]at hi;omega),.val (by
            have:=Qbl (P:=P) (w:=w) hu hi ty none a 0 0 c2 (Zq _)
            simp only[Zx,this,ZD,ZZ,SV.den,SA.den,SC.den];rfl),?_⟩
           have:=Mem.one (w:=w) (S:=feet (denT ρ M ((Zen (appW nx none) (appU nx e sz 0 0 0 ks (catR 0 z s.z) none 0)).map (·.1)))) (Kept.refl _ w) (e:=.row 0 e sz 0 0 []) ⟨Zq _,by simp,λh=>Za⟩ (λg hg=>by have:=hg.1;omega)
           simpa [denU,denB,appW,appU,QJ] using this
       · -- something is
         rcases hsrc with h0|⟨b2,off2,rfl,hnews⟩
         . exact absurd h0 hm
         have h1v:∀n,∀u∈QJ (ckAt ks) sz s.z n,u.oneCell'=true:=by
          intro n
          induction n with
          |zero=>intro u hu;simp[QJ]at hu
          |succ n ih=>
           intro u hu
           simp only[QJ,Za0]at hu
           rcases hu with hu|hu
           . exact ih u hu
           . simp only[rowV,ZbD]at hu;obtain⟨_,-,rfl⟩:=hu;exact QdD _ _
         have hbytes:(n+s.m)*i.bytes<=140737488355328:=by
          have h1:(n+s.m)*i.bytes<=68719476736*i.bytes:=ZK _ hlen
          omega
         obtain⟨v',w',row,hr,hown',hgrow,hblk,hat⟩:∃v' w' row,(Zbl #[t,t] ty #[v,.slice (some ⟨b2,off2,none⟩) s.m c2]).run P w=.ok v' w'/\w'.ownsRow 0 e sz v' (n+s.m) (QJ (ckAt ks) sz z n++QJ (ckAt ks) sz s.z s.m) /\
          w.grownBy w' row/\(∀g,row=some g->∃b,ob=some b/\0<c/\g=ρ b)/\(v'.ownBlock=row\/v'.ownBlock=some w.heap.size\/∃g,v'.ownBlock=some g/\w.heap.size<=g):=by
          have own:∀(hown:w.ownsRow 0 e sz v n (QJ (ckAt ks) sz z n)),(∀g,v.ownBlock=some g->∃b,ob=some b/\0<c/\g=ρ b)->∃v' w' row,(Zbl #[t,t] ty #[v,.slice (some ⟨b2,off2,none⟩) s.m c2]).run P w=.ok v' w'/\w'.ownsRow 0 e sz v' (n+s.m) (QJ (ckAt ks) sz z n++QJ (ckAt ks) sz s.z s.m) /\
           w.grownBy w' row/\(∀g,row=some g->∃b,ob=some b/\0<c/\g=ρ b)/\(v'.ownBlock=row\/v'.ownBlock=some w.heap.size\/∃g,v'.ownBlock=some g/\w.heap.size<=g):=λhown hblk=>by
           obtain⟨v',w',hr,hown',hgrow,-,hat⟩:=run_append_own_at (P:=P) w 0 t ty e i zv sz i.bytes hu hi hz his rfl hzs hsz v n _ hown ⟨b2,off2,none⟩ s.m c2 (QJ (ckAt ks) sz s.z s.m) (QI _ _ _ _)
            (λj u hj=>by rw[QaK];exact hnews j u hj) (h1v _) (by unfold maxLen;omega) hbytes (Z9 _)
           exact⟨v',w',v.ownBlock,hr,hown',hgrow,hblk,hat.imp id .inl⟩
          rcases hdst with⟨b,n',rfl,h1,hnc,rfl,hb,hrow⟩|⟨rfl,rfl,rfl,rfl,-⟩
          . cases hc:c.beq 0
            . have hc0:0<c:=by
               rcases Yz c with h|h
               . subst h;simp at hc
               . exact h
              have ho:=hrow.own h1
              rw[hc]at ho own
              simp only[Zcs,cond_false]at own ho ⊢
              exact own ho (λg hg=>⟨b,rfl,hc0,by simpa [Zdg] using hg.symm⟩)
            . have hc0:=Zo hc
              subst hc0
              obtain rfl:n=0:=Za
              cases nn
              . exact own ⟨by simp[QJ],.inl ⟨rfl,rfl⟩⟩ (λg hg=>by simp[Zdg]at hg)
              . obtain⟨v',w',hr,hown',hgrow⟩:=run_append_arg_grows (P:=P) w t ty e i zv sz i.bytes hu hi hz his rfl hzs hsz ⟨ρ b,0,none⟩ 0 0 [] (by simp) (λj u hj=>by simp at hj) ⟨b2,off2,none⟩ s.m c2 (QJ (ckAt ks) sz s.z s.m) (QI _ _ _ _)
                 (λj u hj=>by rw[QaK];exact hnews j u hj) Za (by unfold maxLen;omega) hbytes
                obtain⟨g,c',rfl,-,-,hob⟩:=QmZ (Qip hown') Za
                refine⟨_,w',none,hr,Qip hown',hgrow,(λg h=>by cases h),.inr (.inr ⟨g,hob,?_⟩)⟩
                obtain⟨-,⟨hv,-⟩|⟨g2,c2,cur,hv,hbg,-⟩⟩:=hown'
                . cases hv
                . simp only[Value.slice.injEq,Zn,Addr.mk.injEq]at hv
                  omega
          . exact own ⟨by simp[QJ],.inl ⟨rfl,rfl⟩⟩ (λg hg=>by simp[Zdg]at hg)
         rw[Qij]at hown'
         obtain⟨g,c',rfl,hle,hrow',hob⟩:=QmZ hown' Za
         have hS:∀g',row=some g'->feet (denT ρ M (appW nx ob)) g':=by
          intro g' hg'
          obtain⟨b,rfl,hc,rfl⟩:=hblk g' hg'
          rcases hdst with⟨b',n',h0,h1,hnc,hve,hb,hrow⟩|⟨h0,-⟩
          . simp only[Zn]at h0
            subst h0
            exact⟨.row (ρ b) e sz n' c (QJ (ckAt ks) sz z n'),by simp[denT,denB,hb,appW],hc,rfl⟩
          . cases h0
         have hzip:(Zen (appW nx ob) (appU nx e sz n s.m c ks (catR n z s.z) ob c')).map (·.1)=appW nx ob:=by cases ob<;>rfl
         have hob2:ob≠some nx:=λe=>by subst e;simp[neB]at hne
         have hbz:c'.beq 0=false:=bz Za
         refine⟨c',hle,by cases ob<;>rfl,w',λi=>if i=nx then g else ρ i,λi hi=>Ze (λe=>by
          subst e
          rw[hzip]at hi
          rcases hi with hi|hi
          . omega
          . cases ob<;>simp[appW]at hi),.val (by simp only[Zx,hr,ZD,ZZ,SV.den,SA.den,QmH,Zf,hbz,Zcs,cond_false]),?_⟩
         rw[hzip]
         have hk:Kept (feet (denT ρ M (appW nx ob))) w w':=⟨hgrow.os,hgrow.tape,hgrow.output,hgrow.size,λk hk hn=>hgrow.block k hk (λhh=>hn (hS k hh.symm))⟩
         have:=Mem.one hk (e:=.row g e sz (n+s.m) c' (QJ (ckAt ks) sz (catR n z s.z) (n+s.m))) hrow' (λg' hg'=>by
          obtain⟨-,rfl⟩:=hg'
          rcases hat with hat|hat|⟨g2,hat,hg2⟩
          . exact .inl (hS g (by rw[<- hat];exact hob))
          . rw[hob]at hat
            simp only[Zn]at hat
            exact .inr Za
          . rw[hob]at hat
            simp only[Zn]at hat
            exact .inr Za)
         cases ob with
         |none=>simpa [denU,denB,appW,appU] using this
         |some b=>
          simpa [denU,denB,appW,appU] using this
   . trivial
 . trivial
end
end
section
open Go.RowKit
section
variable {P:Program}{V w:World}{ρ:Nat->Nat}{M:List SB}{nx:Nat}{env:Env}{a:Act}{T:Tab}{nt:Nat}
theorem QhC (size:Nat):∀(parts:List (Nat × Value)) (k:Nat) (A J:List Value),(∀(i:Nat) (p:Nat × Value),parts[i]?=some p->p.1=k+i/\p.2.cells.size=size)->A.length=k*size->J.length=parts.length*size ->
 ZbT (λi=>some (i*size,size)) (A++J).toArray parts=some (A++parts.flatMap (λp=>p.2.cells.toList)).toArray
 |[],k,A,J,_,hA,hJ=>by
  have:J=[]:=List.length_eq_zero_iff.1 (by simpa using hJ)
  subst this;simp[ZbT]
 |(i,v)::r,k,A,J,h,hA,hJ=>by
  obtain⟨h1,h2⟩:=h 0 (i,v) rfl
  simp only[Yu]at h1 h2
  subst h1
  simp only[Yf,Yi]at hJ
  have ih:=QhC size r (i+1) (A++v.cells.toList) (J.drop size) (λj p hp=>by
   have:=h (j+1) p (by simpa using hp)
   exact⟨Za,this.2⟩) (by rw[Zw,hA,Yi];simp[h2]) (by rw[ZaV];omega)
  unfold ZbT
  dsimp only
  rw[Ze (by simp[h2];omega)]
  have hf:=QiA v.cells.toList (A++J).toArray (i*size) (by simp[h2];omega)
  simp only[Array.toArray_toList]at hf
  rw[hf]
  have e:spl (A++J) (i*size) v.cells.toList=(A++v.cells.toList)++J.drop size:=by
   unfold spl
   rw[<- hA,List.take_left,ZbE,YY Za]
   simp[h2]
  rw[e,ih]
  simp
def litZ (ks:List CK) (sz:Nat):Nat->List (Nat × Option SV)->Option (List (List Int))
 |_,[]=>some []
 |k,(i,some (.o x))::r=>match Qch x with
  |some m=>bif i.beq k&&(Qq m).beq sz then (match Qdt (ckAt ks) 0 m,litZ ks sz (k+1) r with
   |some zs,some l=>some (zs::l)
   |_,_=>none)else none
  |none=>none
 |_,_=>none
def zOf (l:List (List Int)):Nat->Nat->Int:=λi j=>(l.getD i []).getD j 0
theorem Qiu {ks:List CK}{sz:Nat}:∀(parts:List (Nat × Option SV)) (vs:List (Nat × Value)) (k:Nat) (l:List (List Int)),litZ ks sz k parts=some l->parts.length=vs.length ->
 (∀(i:Nat) (p:Nat × Option SV) (v:Nat × Value),parts[i]?=some p->vs[i]?=some v->v.1=p.1/\∀y,p.2=some y->v.2=y.den ρ) ->
 (∀(i:Nat) (p:Nat × Value),vs[i]?=some p->p.1=k+i/\p.2.cells.size=sz)/\l.length=vs.length/\∀i j,i<l.length->j<sz->(vs.flatMap (λp=>p.2.cells.toList))[i*sz+j]?=some (mkV (ckAt ks j) (zOf l i j))
 |[],vs,k,l,h,hl,_=>by
  simp only[litZ,Zn]at h;subst h
  have:vs=[]:=List.length_eq_zero_iff.1 (by simpa using hl.symm)
  subst this
  exact⟨by simp,rfl,by simp⟩
 |(i,q)::r,[],k,l,h,hl,_=>by simp at hl
 |(i,q)::r,(j,v)::vs,k,l,h,hl,hp=>by
  have h0:=hp 0 (i,q) (j,v) rfl rfl
  obtain⟨rfl,hq⟩:=h0
  cases q with
  |none=>simp[litZ]at h
  |some y=>cases y with
   |t _=>simp[litZ]at h
   |o x=>
    have hv:=hq _ rfl
    dsimp only at hv
    simp only[litZ]at h
    cases hm:Qch x with
    |none=>rw[hm]at h;cases h
    |some m=>
     rw[hm]at h
     dsimp only at h
     cases hc:(j.beq k&&(Qq m).beq sz)
     . rw[hc]at h;cases h
     . rw[hc]at h
       simp only[Zr]at hc
       obtain rfl:=Zo hc.1
       have hsz:=Zo hc.2
       simp only[cond_true]at h
       split at h
       . rename_i zs l' h1 h2
         simp only[Zn]at h;subst h
         obtain⟨g1,g2,g3⟩:=Qiu r vs (j+1) l' h2 (by simpa using hl) (λi p v hpi hvi=>hp (i+1) p v (by simpa using hpi) (by simpa using hvi))
         obtain⟨c1,c2⟩:=Qdc ρ (ckAt ks) m 0 zs h1
         have hcell:v.cells.toList=Qh ρ m:=by rw[hv];simp only[SV.den];rw[Qdp hm]
         refine⟨λi p hpi=>?_,by simp[g2],λi q hi hj=>?_⟩
         . cases i with
           |zero=>
            simp only[Zag,Zn]at hpi;subst hpi
            exact⟨rfl,by rw[<- Zdv,hcell,Qt,hsz]⟩
           |succ i=>
            have:=g1 i p (by simpa using hpi)
            exact⟨Za,this.2⟩
         . simp only[Za3,hcell]
           cases i with
           |zero=>
            rw[ZaF,Zu,Z5 (by rw[Qt];omega),c2,Ya,Y4 Za]
            simp[zOf]
           |succ i=>
            rw[Z8 (by rw[Qt,Yi];omega),Qt,hsz,show (i+1)*sz+q-sz=i*sz+q by rw[Yi];omega,g3 i q (by simpa using hi) hj]
            simp[zOf]
       . cases h
def oneP:Nat->List (Nat × Option SV)->Option (List SC)
 |_,[]=>some []
 |k,(i,some (.o (.c x)))::r=>bif i.beq k&&x.ok then (match oneP (k+1) r with
  |some l=>some (x::l)
  |none=>none)else none
 |_,_=>none
theorem Qiq:∀(parts:List (Nat × Option SV)) (vs:List (Nat × Value)) (k:Nat) (l:List SC),oneP k parts=some l->parts.length=vs.length ->
 (∀(i:Nat) (p:Nat × Option SV) (v:Nat × Value),parts[i]?=some p->vs[i]?=some v->v.1=p.1/\∀y,p.2=some y->v.2=y.den ρ) ->
 (∀(i:Nat) (p:Nat × Value),vs[i]?=some p->p.1=k+i/\p.2.cells.size=1)/\l.length=vs.length/\vs.flatMap (λp=>p.2.cells.toList)=Qh ρ (l.map Seg.one)
 |[],vs,k,l,h,hl,_=>by
  simp only[oneP,Zn]at h;subst h
  have:vs=[]:=List.length_eq_zero_iff.1 (by simpa using hl.symm)
  subst this
  exact⟨by simp,rfl,rfl⟩
 |(i,q)::r,[],k,l,h,hl,_=>by simp at hl
 |(i,q)::r,(j,v)::vs,k,l,h,hl,hp=>by
  have h0:=hp 0 (i,q) (j,v) rfl rfl
  obtain⟨rfl,hq⟩:=h0
  unfold oneP at h
  split at h
  . rename_i e;cases e
  . rename_i k0 kk pl i2 x r2 e
    simp only[Zaa,ZT]at e
    obtain⟨⟨rfl,rfl⟩,rfl⟩:=e
    dsimp only at h hq
    cases hb:(Nat.beq j k0&&x.ok)
    . rw[hb]at h;cases h
    . rw[hb]at h
      simp only[cond_true]at h
      simp only[Zr]at hb
      obtain rfl:=Zo hb.1
      split at h
      . rename_i l' hl'
        simp only[Zn]at h;subst h
        have hv:v=x.den ρ:=hq _ rfl
        obtain⟨g1,g2,g3⟩:=Qiq r vs (j+1) l' hl' (by simpa using hl) (λn p u hp' hu=>hp (n+1) p u (by simpa using hp') (by simpa using hu))
        have hc:v.cells= #[x.den ρ]:=by rw[hv];exact QfU (SC.ok_den hb.2 ρ)
        refine⟨λn p hn=>?_,by simp[g2],?_⟩
        . cases n with
          |zero=>
           simp only[Zag,Zn]at hn;subst hn
           exact⟨rfl,by rw[hc];rfl⟩
          |succ n=>
           have:=g1 n p (by simpa using hn)
           exact⟨Za,this.2⟩
        . simp only[Za3,hc,g3,Z4,Qh,Seg.den]
      . cases h
  . cases h
theorem Qm0 (l:List Seg) (t:TypeId) (n:Nat) {r:Sem Next}(hl:QS (sc nx) l=true) (hr:r.run P w=.ok (.value (.slice (some ⟨w.heap.size,0,none⟩) n n)) (w.alloc (.cells (Qh ρ l).toArray t))):Out P ρ M nx w r (.o (.c (.s nx 0 n n))) [(nx,.cells l t)]:=by
 have hρ:∀i,sc nx i=true->(λi=>if i=nx then w.heap.size else ρ i) i=ρ i:=λi hi=>Ze (by have:=Xv hi;omega)
 refine⟨w.alloc (.cells (Qh ρ l).toArray t),λi=>if i=nx then w.heap.size else ρ i,λi hi=>Ze (by simp at hi;omega),.val ?_,?_⟩
 . rw[hr];simp[SV.den,SA.den,SC.den]
 . have:=(Mem.alloc w (Qh ρ l) t).subset (S':=feet (denT ρ M ([(nx,SB.cells l t)].map (·.1)))) (λ_ h=>h.elim)
   simpa [denU,denB,QaB hρ hl] using this
def Qgh (T:Tab) (env:Env) (nx:Nat) (t:TypeId) (len:Nat) (parts:Array (Nat × Operand)):Eff:=match lkT T t with
 |some (.one _ (.slice e))=>match lkT T e with
  |some (.one _ _)=>match oneP 0 (Qcr env parts.toList)with
   |some l=>bif l.length.beq len&&len.ble 16777216 && !len.beq 0&&QS (sc nx) (l.map Seg.one)then .eff [] none (.o (.c (.s nx 0 len len))) [(nx,.cells (l.map Seg.one) e)]else .no
   |none=>.no
  |_=>.no
 |_=>.no
theorem QiY (hT:TabOk P T) (hE:EnvOk ρ nt env a) (t:TypeId) (len:Nat) (parts:Array (Nat × Operand)):
 XW P V ρ M nx w (do pure (Yh (<- Zbb t len (parts.map λ(i,x)=>(i,a.eval x))))) (Qgh T env nx t len parts):=by
 unfold Qgh
 split
 . rename_i z0 e h1
   split
   . rename_i zv kd h2
     obtain⟨o1,o2,o3,o4,o5⟩:=hT _ _ h2
     have hu:=QbU (hT _ _ h1).1
     split
     . rename_i l hl
       cases hc:(l.length.beq len&&len.ble 16777216 && !len.beq 0&&QS (sc nx) (l.map Seg.one))
       . trivial
       . simp only[Zr,YD]at hc
         obtain⟨⟨⟨c1,c2⟩,c3⟩,c4⟩:=hc
         have hlen:=Zo c1
         have hbig:=XZ c2
         have hne:len≠0:=λh=>by rw[h]at c3;simp at c3
         intro _ _ _
         cases hi:P.info? e with
         |none=>rw[hi]at o3;cases o3
         |some i=>
          rw[hi]at o3 o4
          simp only[YF,Zn,ZaW]at o3 o4
          obtain⟨g1,g2,g3⟩:=Qiq (ρ:=ρ) (Qcr env parts.toList) (parts.map λ(i,x)=>(i,a.eval x)).toList 0 l hl (by rw[Qbp];simp) (λi p v hp hv=>by
           rw[Qbp,Ya]at hp
           rw[Zba,Ya]at hv
           cases hq:parts.toList[i]? with
           |none=>rw[hq]at hp;cases hp
           |some q=>
            rw[hq]at hp hv
            simp only[YF,Zn]at hp hv
            subst hp;subst hv
            exact⟨rfl,λy hy=>hE.eval hy⟩)
          generalize hvs:(parts.map λ(i,x)=>(i,a.eval x))=vs at *
          refine Qm0 (l.map Seg.one) e len c4 ?_
          have hfill:∀J:List Value,J.length=len->ZbT (λi=>some (i,1)) J.toArray vs.toList=some (Qh ρ (l.map Seg.one)).toArray:=λJ hJ=>by
           have:=QhC 1 vs.toList 0 [] J g1 (by simp) (by rw[hJ,Zbx,<- hlen,g2])
           simp only[Zbx,YA,g3]at this
           exact this
          have:=hfill ((Z2 len).map λi=>zv.cells[i%zv.cells.size]!) (by simp)
          have e1:((Array.range len).map λi=>zv.cells[i%zv.cells.size]!)=((Z2 len).map λi=>zv.cells[i%zv.cells.size]!).toArray:=by
           apply Zat;simp
          rw[<- e1]at this
          simp[Zbb,run_underlying hu,sizeOf,typeInfo,hi,o3,show ¬16777216<len by omega,hne,zeroValue,o4,this,newRow,Zx]
     . trivial
   . trivial
 . trivial
def QeR (T:Tab) (env:Env) (nx:Nat) (t:TypeId) (len:Nat) (parts:Array (Nat × Operand)):Eff:=match rowP T t with
 |some (e,sz,ks)=>match litZ ks sz 0 (Qcr env parts.toList)with
  |some l=>bif l.length.beq len&&(len*sz).ble 16777216 then .eff [] none (.o (.c (.so nx 0 sz len len true))) [(nx,.rows e ks sz len len (zOf l))]else .no
  |none=>.no
 |none=>.no
theorem QeY (e:TypeId) (ks:List CK) (sz n:Nat) (z:Nat->Nat->Int) {r:Sem Next}{C:List Value}(hn:n<=maxLen) (hC:C.length=n*sz) (hz:C=QJ (ckAt ks) sz z n)
 (hr:r.run P w=.ok (.value (.slice (some ⟨w.heap.size,0,none⟩) n n)) (w.alloc (.cells C.toArray e))):Out P ρ M nx w r (.o (.c (.so nx 0 sz n n true))) [(nx,.rows e ks sz n n z)]:=by
 refine⟨w.alloc (.cells C.toArray e),λi=>if i=nx then w.heap.size else ρ i,λi hi=>Ze (by simp at hi;omega),.val ?_,?_⟩
 . rw[hr]
   simp only[SV.den,SA.den,SC.den,Zca,ZaI,cond_false,Zf,ZaF]
   cases (n-0).beq 0<;>rfl
 . have:=Mem.one (w:=w) (S:=feet (denT ρ M ([(nx,SB.rows e ks sz n n z)].map (·.1)))) ((Kept.refl _ w).alloc (.cells C.toArray e)) (e:=.row w.heap.size e sz n n (QJ (ckAt ks) sz z n))
    ⟨Zq _,QI _ _ _ _,λ_=>⟨C,Blk.new w C e,hC,by rw[<- hC,List.take_length,hz],hn⟩⟩ (λg hg=>.inr (Zae hg.2))
   simpa [denU,denB] using this
theorem QhW (hT:TabOk P T) (hT2:TysOk P T) (hE:EnvOk ρ nt env a) (t:TypeId) (len:Nat) (parts:Array (Nat × Operand)):
 XW P V ρ M nx w (do pure (Yh (<- Zbb t len (parts.map λ(i,x)=>(i,a.eval x))))) (QeR T env nx t len parts):=by
 unfold QeR
 split
 . rename_i e sz ks hp
   obtain⟨hu,hsz,hkl,i,zv,hi,hz,his,hib,hzs⟩:=QfL hT hT2 hp
   split
   . rename_i l hl
     cases hc:(l.length.beq len&&(len*sz).ble 16777216)
     . trivial
     . simp only[Zr]at hc
       have hlen:=Zo hc.1
       have hbig:=XZ hc.2
       intro _ _ _
       obtain⟨g1,g2,g3⟩:=Qiu (ρ:=ρ) (Qcr env parts.toList) (parts.map λ(i,x)=>(i,a.eval x)).toList 0 l hl (by rw[Qbp];simp) (λi p v hp hv=>by
        rw[Qbp,Ya]at hp
        rw[Zba,Ya]at hv
        cases hq:parts.toList[i]? with
        |none=>rw[hq]at hp;cases hp
        |some q=>
         rw[hq]at hp hv
         simp only[YF,Zn]at hp hv
         subst hp;subst hv
         exact⟨rfl,λy hy=>hE.eval hy⟩)
       generalize hvs:(parts.map λ(i,x)=>(i,a.eval x))=vs at *
       have hfl:(vs.toList.flatMap (λp=>p.2.cells.toList)).length=len*sz:=by
        rw[<- hlen,g2]
        have:∀(l:List (Nat × Value)),(∀p∈l,p.2.cells.size=sz)->(l.flatMap (λp=>p.2.cells.toList)).length=l.length*sz:=by
         intro l
         induction l with
         |nil=>intro _;simp
         |cons p r ih=>intro h;simp only[Za3,Zw,Yf,Yi,Zdv,h p ZC,ih (λq hq=>h q (ZF _ hq))];omega
        refine this _ (λp hp=>?_)
        obtain⟨i,hi⟩:=List.getElem?_of_mem hp
        exact (g1 i p hi).2
       refine QeY e ks sz len (zOf l) (C:=vs.toList.flatMap (λp=>p.2.cells.toList)) (by unfold maxLen;have:=Nat.le_mul_of_pos_right len hsz;omega) hfl (Qbn hfl (λi j hi hj=>g3 i j Za hj)) ?_
       have hfill:∀J:List Value,J.length=len*sz->ZbT (λi=>some (i*sz,sz)) J.toArray vs.toList=some (vs.toList.flatMap (λp=>p.2.cells.toList)).toArray:=λJ hJ=>by
        have:=QhC sz vs.toList 0 [] J g1 (by simp) (by rw[hJ,<- hlen,g2])
        simpa using this
       by_cases h0:len*sz=0
       . have:=hfill [] (by simp[h0])
         have h00:len=0:=by rcases Nat.mul_eq_zero.1 h0 with h|h;exact h;omega
         simp[Zbb,run_underlying hu,sizeOf,typeInfo,hi,his,h0,this,newRow,Zx,Array.range_zero']
       . have:=hfill ((Z2 (len*sz)).map λi=>zv.cells[i%zv.cells.size]!) (by simp)
         have e1:((Array.range (len*sz)).map λi=>zv.cells[i%zv.cells.size]!)=((Z2 (len*sz)).map λi=>zv.cells[i%zv.cells.size]!).toArray:=by
          apply Zat;simp
         rw[<- e1]at this
         simp[Zbb,run_underlying hu,sizeOf,typeInfo,hi,his,show ¬16777216<len*sz by omega,h0,zeroValue,hz,this,newRow,Zx]
   . trivial
 . trivial
def QdL (T:Tab) (env:Env) (nx:Nat) (t:TypeId) (len:Nat) (parts:Array (Nat × Operand)):Eff:=match rowP T t with
 |some _=>QeR T env nx t len parts
 |none=>Qgh T env nx t len parts
theorem Qgy (hT:TabOk P T) (hT2:TysOk P T) (hE:EnvOk ρ nt env a) (t:TypeId) (len:Nat) (parts:Array (Nat × Operand)):
 XW P V ρ M nx w (do pure (Yh (<- Zbb t len (parts.map λ(i,x)=>(i,a.eval x))))) (QdL T env nx t len parts):=by
 unfold QdL
 split
 . exact QhW hT hT2 hE t len parts
 . exact QiY hT hE t len parts
def QeG (T:Tab) (nx:Nat) (t:TypeId):Option SV->Option SV->Eff
 |some (.o (.c (.v (.int _ l)))),some (.o (.c (.v (.int _ c))))=>match lkT T t with
  |some (.one _ (.slice e))=>match lkT T e with
   |some (.one (.int k (.ofNat q)) (.int k'))=>bif q.beq 0 then .eff [] (some (0<=l/\l=c/\l<=68719476736)) (.o (.c (.so nx 0 1 l.toNat l.toNat true))) [(nx,.rows e [.int k] 1 l.toNat l.toNat (λ_ _=>0))]else .no
   |_=>.no
  |_=>.no
 |_,_=>.no
theorem Qhm (hT:TabOk P T) (hT2:TysOk P T) (t:TypeId) {x y:Option SV}{v u:Value}(hx:∀s,x=some s->v=s.den ρ) (hy:∀s,y=some s->u=s.den ρ):
 XW P V ρ M nx w (do pure (Yh (<- Instr.makeSlice t v u))) (QeG T nx t x y):=by
 unfold QeG
 split
 . rename_i k1 l k2 c
   have:=hx _ rfl
   subst this
   have:=hy _ rfl
   subst this
   split
   . rename_i z0 e h1
     split
     . rename_i k q k' h2
       cases hqz:q.beq 0
       . trivial
       obtain rfl:=Zo hqz
       dsimp only[cond_true]
       intro _ _ hv
       obtain⟨h0,rfl,hle⟩:=hv
       obtain⟨o1,o2,o3,o4,o5⟩:=hT _ _ h2
       have hb:=(hT2.2 _ _ h2).2.2
       unfold QhV at hb
       cases hi:P.info? e with
       |none=>rw[hi]at o3;cases o3
       |some i=>
        rw[hi]at o3 o4 hb
        simp only[YF,Zn,ZaW]at o3 o4
        have hib:=XZ hb
        have hr:=run_make (P:=P) w t e i (.int k (.ofNat 0)) (QbU (hT _ _ h1).1) hi o4 k1 k2 l l h0 (ZQ _) (by
         have:(i.bytes:Int)*l<=2048*l:=Int.mul_le_mul_of_nonneg_right Za h0
         omega) Za
        rw[o3,Zbx]at hr
        have hm:(madeCells (ZA k (.ofNat 0)).cells l.toNat)=(QJ (ckAt [.int k]) 1 (λ_ _=>0) l.toNat).toArray:=by
         apply Zat
         apply YX
         intro q
         have hs:(madeCells (ZA k (.ofNat 0)).cells l.toNat).toList.length=l.toNat:=by simp[madeCells]
         by_cases hq:q<l.toNat
         . have:=Xm (ckAt [.int k]) 1 (λ_ _=>0) l.toNat q 0 hq Za
           rw[Zbx,Yu]at this
           simp only[this]
           simp[madeCells,hq,Zad,ckAt,mkV,Nat.mod_one]
         . rw[ZU Za,ZU (by simp[QI];omega)]
        rw[hm]at hr
        refine QeY e [.int k] 1 l.toNat _ (by unfold maxLen;omega) (QI _ _ _ _) rfl ?_
        simp only[SV.den,SA.den,SC.den,Zx,hr,ZD,ZZ]
     . trivial
   . trivial
 . trivial
def Qa3 (env:Env) (d:Nat):Option Operand->Option Int
 |none=>some d
 |some x=>match QO env x with
  |some (.o (.c (.v (.int _ j))))=>some j
  |_=>none
theorem QeS (hE:EnvOk ρ nt env a) {d:Nat}{x:Operand}{j:Int}(h:Qa3 env d (some x)=some j):∃k,a.eval x=.int k j:=by
 simp only[Qa3]at h
 split at h
 . rename_i k z hx
   simp only[Zn]at h
   subst h
   exact⟨k,hE.eval hx⟩
 . cases h
theorem XT (hE:EnvOk ρ nt env a) (isS:Bool) {lo hi:Option Operand}{n c:Nat}{l h:Int}(hlo:Qa3 env 0 lo=some l) (hhi:Qa3 env n hi=some h) (h0:0<=l) (h1:l<=h) (h2:h<=c):
 (Zbs isS n c (lo.map a.eval) (hi.map a.eval) none).run P w=.ok (l.toNat,h.toNat,c) w:=by
 have h4:0<=h:=Za
 have h5:l<=(h.toNat:Int):=Za
 unfold Zbs
 cases lo with
 |none=>
  have:(0:Int)=l:=YP hlo
  subst this
  cases hi with
  |none=>
   have:(n:Int)=h:=YP hhi
   subst this
   simp
  |some y=>
   obtain⟨k,hy⟩:=QeS hE hhi
   simp[ZcS,hy,asIntOf,h4,h2]
 |some z=>
  obtain⟨k',hz⟩:=QeS hE hlo
  cases hi with
  |none=>
   have:(n:Int)=h:=YP hhi
   subst this
   simp[ZcS,hz,asIntOf,h0,h1]
  |some y=>
   obtain⟨k,hy⟩:=QeS hE hhi
   simp[ZcS,hy,hz,asIntOf,h4,h2,h0]
   exact λhh=>absurd hh Za
def isNone {α:Type}:Option α->Bool
 |none=>true
 |_=>false
def QmJ (V:World) (T:Tab) (env:Env) (t:TypeId) (x:Option SV) (lo hi mx:Option Operand):Eff:=bif isNone mx then match x with
 |some (.o (.c (.r a n c m sz ks z)))=>match slcP T t,Qa3 env 0 lo,Qa3 env n hi with
  |some es,some l,some h=>bif isNone lo then .val (some (0<=h/\h<=c)) (.o (.c (.r a h.toNat c m sz ks z)))
   else bif es.beq sz then .val (some (Rws sz ks V a m c z/\0<m/\0<=l/\l<=h/\h<=c/\l<c)) (.o (.c (.r (Qcn a (l.toNat*sz)) (h.toNat-l.toNat) (c-l.toNat) (m-l.toNat) sz ks (λi=>z (l.toNat+i)))))else .no
  |_,_,_=>.no
 |some (.o (.c (.o b n c)))=>match slcP T t,Qa3 env 0 lo,Qa3 env n hi with
  |some es,some l,some h=>bif isNone lo then .val (some (0<=h/\h<=c)) (.o (.c (.o b h.toNat c)))
   else .val (some (0<=l/\l<=h/\h<=c)) (.o (.c (.so b l.toNat es (h.toNat-l.toNat) c false)))
  |_,_,_=>.no
 |some (.o (.c (.so b lo' sz n c nn)))=>match slcP T t,Qa3 env 0 lo,Qa3 env n hi with
  |some es,some l,some h=>bif isNone lo then .val (some (0<=h/\h<=(c-lo':Nat))) (.o (.c (.so b lo' sz h.toNat c nn)))else bif es.beq sz then .val (some (0<=l/\l<=h/\h<=(c-lo':Nat)/\(lo'=0\/l<(c-lo':Nat)))) (.o (.c (.so b (lo'+l.toNat) sz (h.toNat-l.toNat) c nn)))else .no
  |_,_,_=>.no
 |some (.o (.c (.p b off)))=>match lkT T t with
  |some (.arr _ n es _)=>match Qa3 env 0 lo,Qa3 env n hi with
   |some l,some h=>bif es.beq 0 then .no else .val (some (0<=l/\l<=h/\h<=n)) (.o (.c (.s b (bif n.beq l.toNat then off else off+l.toNat*es) (h.toNat-l.toNat) (n-l.toNat))))
   |_,_=>.no
  |_=>.no
 |some (.o (.c (.v (.string s))))=>match lkT T t,Qa3 env 0 lo,Qa3 env s.size hi with
  |some (.one _ .str),some l,some h=>.val (some (0<=l/\l<=h/\h<=s.size)) (sv (.string (s.extract l.toNat h.toNat)))
  |_,_,_=>.no
 |_=>.no else .no
theorem Qhd {T:Tab}(hT:TabOk P T) {t es:Nat}(h:slcP T t=some es):∃e,P.underlying t=some (.slice e)/\(sizeOf e).run P w=.ok es w:=by
 unfold slcP at h
 split at h
 . rename_i z e h1
   split at h
   . rename_i ti h2
     simp only[Zn]at h;subst h
     obtain⟨j,hj,hs⟩:=Qf3 (hT _ _ h2).size
     exact⟨e,QbU (hT _ _ h1).1,by simp[sizeOf,typeInfo,hj,hs,Zx]⟩
   . cases h
 . cases h
theorem Qbh (hT:TabOk P T) (hE:EnvOk ρ nt env a) {t es:Nat}(hs:slcP T t=some es) {lo hi:Option Operand}{A:Option Addr}{n c:Nat}{l h:Int}(hlo:Qa3 env 0 lo=some l) (hhi:Qa3 env n hi=some h) (h0:0<=l) (h1:l<=h) (h2:h<=c):
 (ZaU t (.slice A n c) (lo.map a.eval) (hi.map a.eval) none).run P w=.ok (.slice (if c=l.toNat then A else A.map (·.add (l.toNat*es))) (h.toNat-l.toNat) (c-l.toNat)) w:=by
 obtain⟨e,hu,hsz⟩:=Qhd (w:=w) hT hs
 simp only[ZaU,run_underlying hu,Zx,ZZ,ZD,ZcI,XT hE true hlo hhi h0 h1 h2,hsz]
theorem QmI (hT:TabOk P T) (hE:EnvOk ρ nt env a) (t:TypeId) (x:Operand) (lo hi mx:Option Operand):XW P V ρ M nx w (do pure (Yh (<- ZaU t (a.eval x) (lo.map a.eval) (hi.map a.eval) (mx.map a.eval)))) (QmJ V T env t (QO env x) lo hi mx):=by
 unfold QmJ
 cases mx with
 |some _=>trivial
 |none=>
  rw[show isNone (none:Option Operand)=true from rfl,cond_true,Zeb]
  split
  . rename_i A n c m sz ks z hx
    have e1:a.eval x=.slice A n c:=hE.eval hx
    split
    . rename_i es l h hs hlo hhi
      cases hl0:isNone lo
      . simp only[cond_false]
        cases hes:es.beq sz
        . trivial
        . obtain rfl:=Zo hes
          refine QF λ_ hv=>?_
          obtain⟨hr,hm,h0,h1,h2,h3⟩:=hv
          rw[e1]
          simp only[Zx,Qbh hT hE hs hlo hhi h0 h1 h2,ZD,ZZ]
          obtain⟨b,off,rfl,-,-⟩:=hr.at 0 hm
          rw[Ze Za]
          simp only[YF,QaK,SV.den,SA.den,SC.den,Qcn]
      . simp only[cond_true]
        have:lo=none:=by cases lo;rfl;cases hl0
        subst this
        have:(0:Int)=l:=YP hlo
        subst this
        refine QF λ_ hv=>?_
        rw[e1]
        simp only[Zx,Qbh hT hE hs hlo hhi (ZQ _) hv.1 hv.2,ZD,ZZ]
        have hadd:(A.map λx=>x.add (Int.toNat 0*es))=A:=by cases A<;>simp[Zce]
        rw[hadd]
        simp[SV.den,SA.den,SC.den]
    . trivial
  . rename_i b n c hx
    have e1:=hE.eval hx
    simp only[SV.den,SA.den,SC.den]at e1
    split
    . rename_i es l h hs hlo hhi
      have key:∀(h0:0<=l) (h1:l<=h) (h2:h<=c),(ZaU t (a.eval x) (lo.map a.eval) (hi.map a.eval) none).run P w=.ok (bif c.beq 0 then .slice none 0 0 else .slice (some ⟨ρ b,bif (c-l.toNat).beq 0 then 0 else l.toNat*es,none⟩) (h.toNat-l.toNat) (c-l.toNat)) w:=by
       intro h0 h1 h2
       rw[e1]
       cases hc:c.beq 0
       . simp only[cond_false]
         rw[Qbh hT hE hs hlo hhi h0 h1 h2]
         cases hz:(c-l.toNat).beq 0
         . have:c-l.toNat≠0:=λe=>by rw[e]at hz;cases hz
           rw[Ze Za]
           simp only[YF,QaK,Zu,cond_false]
         . have:=Zo hz
           rw[Zf Za];rfl
       . have:=Zo hc
         subst this
         simp only[cond_true]
         have hl:l=0:=Za
         have hh:h=0:=Za
         subst hl;subst hh
         obtain⟨e,hu,hsz⟩:=Qhd (w:=w) hT hs
         have hb:(Zbs true 0 0 (lo.map a.eval) (hi.map a.eval) none).run P w=.ok (0,0,0) w:=by
          cases hi with
          |none=>exact XT (l:=0) (h:=0) hE true hlo rfl (ZQ _) (ZQ _) (ZQ _)
          |some y=>exact XT (l:=0) (h:=0) hE true hlo hhi (ZQ _) (ZQ _) (ZQ _)
         simp[ZaU,run_underlying hu,Zx,ZcI,hb,hsz]
      cases hl0:isNone lo
      . simp only[cond_false]
        refine QF λ_ hv=>?_
        simp only[Zx,key hv.1 hv.2.1 hv.2.2,ZD,ZZ,SV.den,SA.den,SC.den,Bool.not_false,Zbo]
      . simp only[cond_true]
        have:lo=none:=by cases lo;rfl;cases hl0
        subst this
        have:(0:Int)=l:=YP hlo
        subst this
        refine QF λ_ hv=>?_
        simp only[Zx,key (ZQ _) hv.1 hv.2,ZD,ZZ,SV.den,SA.den,SC.den,Int.toNat_zero,ZaF,ZaQ]
        cases c.beq 0<;>rfl
    . trivial
  . rename_i b lo' sz n c nn hx
    have e1:=hE.eval hx
    simp only[SV.den,SA.den,SC.den]at e1
    split
    . rename_i es l h hs hlo hhi
      cases hl0:isNone lo
      . simp only[cond_false]
        cases hes:es.beq sz
        . trivial
        obtain rfl:=Zo hes
        refine QF λ_ hv=>?_
        obtain⟨g0,g1,g2,g3⟩:=hv
        rw[e1]
        simp only[SV.den,SA.den,SC.den]
        cases hc:(c.beq 0 && !nn)
        . simp only[cond_false]
          simp only[Zx,Qbh hT hE hs hlo hhi g0 g1 g2,ZD,ZZ]
          cases hz:(c-(lo'+l.toNat)).beq 0
          . have hz':c-(lo'+l.toNat)≠0:=λe=>by rw[e]at hz;cases hz
            have hz2:(c-lo').beq 0=false:=by cases hq:(c-lo').beq 0;rfl;exact absurd (Zo hq) Za
            rw[Ze Za,hz2]
            simp only[YF,QaK,cond_false,Yi,Nat.sub_sub]
          . have:=Zo hz
            rw[Zf Za]
            simp only[cond_true,Nat.sub_sub]
            rcases g3 with rfl|g3
            . simp only[ZaF,ZaQ]
              cases c.beq 0<;>rfl
            . omega
        . simp only[Zr]at hc
          have h0:=Zo hc.1
          subst h0
          simp only[cond_true]
          have hl':l=0:=by simp at g2;omega
          have hh:h=0:=by simp at g2;omega
          subst hl';subst hh
          obtain⟨e,hu,hsz⟩:=Qhd (w:=w) hT hs
          have hb:(Zbs true 0 0 (lo.map a.eval) (hi.map a.eval) none).run P w=.ok (0,0,0) w:=by
           cases hi with
           |none=>exact XT (l:=0) (h:=0) hE true hlo rfl (ZQ _) (ZQ _) (ZQ _)
           |some y=>exact XT (l:=0) (h:=0) hE true hlo hhi (ZQ _) (ZQ _) (ZQ _)
          simp[ZaU,run_underlying hu,Zx,ZcI,hb,hsz]
      . simp only[cond_true]
        have:lo=none:=by cases lo;rfl;cases hl0
        subst this
        have:(0:Int)=l:=YP hlo
        subst this
        refine QF λ_ hv=>?_
        rw[e1]
        simp only[SV.den,SA.den,SC.den]
        cases hc:(c.beq 0 && !nn)
        . simp only[cond_false]
          simp only[Zx,Qbh hT hE hs hlo hhi (ZQ _) hv.1 hv.2,ZD,ZZ,Int.toNat_zero,ZaF,ZaQ,YF]
          have:(⟨ρ b,bif (c-lo').beq 0 then 0 else lo'*sz,none⟩:Addr).add 0=⟨ρ b,bif (c-lo').beq 0 then 0 else lo'*sz,none⟩:=rfl
          rw[this];simp
        . simp only[Zr]at hc
          have h0:=Zo hc.1
          subst h0
          simp only[cond_true]
          have hv2:h<=0:=by have:=hv.2;simpa using this
          have hh:h=0:=by have:=hv.1;omega
          subst hh
          obtain⟨e,hu,hsz⟩:=Qhd (w:=w) hT hs
          have hb:(Zbs true 0 0 ((none:Option Operand).map a.eval) (hi.map a.eval) none).run P w=.ok (0,0,0) w:=by
           cases hi with
           |none=>exact XT (l:=0) (h:=0) hE true hlo rfl (ZQ _) (ZQ _) (ZQ _)
           |some y=>exact XT (l:=0) (h:=0) hE true hlo hhi (ZQ _) (ZQ _) (ZQ _)
          simp only[Zeb]at hb
          simp[ZaU,run_underlying hu,Zx,ZcI,hb,hsz]
    . trivial
  . rename_i b off hx
    have e1:a.eval x=.pointer (some ⟨ρ b,off,none⟩):=hE.eval hx
    split
    . rename_i z0 n es ea hl
      split
      . rename_i l h hlo hhi
        cases hes:es.beq 0
        . refine QF λ_ hv=>?_
          obtain⟨h0,h1,h2⟩:=hv
          obtain⟨e,hu,hn,-⟩:=Qb5 (hT _ _ hl).1
          have hz:es≠0:=λe=>by subst e;cases hes
          obtain⟨i,hi2,hs⟩:=Qbq hn hz
          have hres:(some (if n=l.toNat then (⟨ρ b,off,none⟩:Addr)else Zce ⟨ρ b,off,none⟩ (l.toNat*es)))=some ⟨ρ b,bif n.beq l.toNat then off else off+l.toNat*es,none⟩:=by
           cases hc:n.beq l.toNat
           . rw[Ze (λe=>by rw[e]at hc;simp at hc),QaK];rfl
           . rw[Zf (Zo hc)];rfl
          have hsz:(sizeOf e).run P w=.ok es w:=by simp[sizeOf,typeInfo,hi2,hs,Zx]
          simp only[ZaU,run_underlying hu,e1,ZaH,XT hE false hlo hhi h0 h1 h2,Zx,ZZ,ZD,hsz]
          rw[hres]
          rfl
        . trivial
      . trivial
    . trivial
  . rename_i s hx
    have e1:a.eval x=.string s:=hE.eval hx
    split
    . rename_i z0 l h h1 hlo hhi
      refine QF λ_ hv=>?_
      obtain⟨g0,g1,g2⟩:=hv
      have hu:=QqK (hT _ _ h1).1
      have hb:=XT (P:=P) (w:=w) hE false hlo hhi g0 g1 g2
      rw[e1]
      simp[ZaU,run_underlying hu,ZcI,hb,Zx,SV.den,SA.den,SC.den]
    . trivial
  . trivial
def QoN (T:Tab) (t:TypeId):Option SV->Eff
 |some (.o (.c (.s b off m _)))=>match lkT T t with
  |some (.arr _ n _ _)=>bif n.ble m then .val none (.o (.c (.p b off)))else .no
  |_=>.no
 |_=>.no
theorem QoM (hT:TabOk P T) (hE:EnvOk ρ nt env a) (t:TypeId) (x:Operand):XW P V ρ M nx w (do pure (Yh (<- Instr.arrayAt t (a.eval x)))) (QoN T t (QO env x)):=by
 unfold QoN
 split
 . rename_i b off m c hx
   split
   . rename_i z0 n es ea hl
     cases hm:n.ble m
     . trivial
     . refine QF λ_ _=>?_
       have e1:a.eval x=.slice (some ⟨ρ b,off,none⟩) m c:=hE.eval hx
       have hle:=Zao hm
       obtain⟨e,hu,-,-⟩:=Qb5 (hT _ _ hl).1
       simp only[Instr.arrayAt,run_underlying hu,e1,Zx,ZZ,ZD,Ze (show ¬m<n by omega)]
       rfl
   . trivial
 . trivial
def minN (m n:Nat):Nat:=bif m.ble n then m else n
theorem QrG (m n:Nat):minN m n=Zej m n:=by
 unfold minN
 show _=min m n
 cases h:m.ble n
 . have:=Qsd h;simp only[cond_false];omega
 . have:=XZ h;simp only[cond_true];omega
def Qr0 (T:Tab) (M:List SB) (t:TypeId):Option SV->Option SV->Eff
 |some (.o (.c (.s b off n _))),some (.o (.c (.s b2 off2 m _)))=>match lkT T t,getB M b,getB M b2 with
  |some (.one _ (.slice e)),.cells l t',.cells l2 _=>match lkT T e with
   |some ti=>match segSub l2 off2 (minN m n*ti.size)with
    |some x=>match Qbi l off x with
     |some l'=>bif Qdo x && !(minN m n*ti.size).beq 0 && !b.beq b2 then .eff [b2] none (sv (.int .i64 (minN m n))) [(b,.cells l' t')]else .no
     |none=>.no
    |none=>.no
   |none=>.no
  |_,_,_=>.no
 |_,_=>.no
theorem Qqb (hT:TabOk P T) (t:TypeId) (ts:Array TypeId) (ty:TypeId) (ht:ts[0]?=some t) {x y:Option SV}{v u:Value}(hx:∀s,x=some s->v=s.den ρ) (hy:∀s,y=some s->u=s.den ρ):
 XW P V ρ M nx w (do let r <- Builtin.copy_ ts ty #[v,u];pure (Yh r)) (Qr0 T M t x y):=by
 unfold Qr0
 simp only[QrG]
 split
 . rename_i b off n c b2 off2 m c2
   have:=hx _ rfl
   subst this
   have:=hy _ rfl
   subst this
   split
   . rename_i z e l t' l2 t2 h1 h2 h3
     cases h4:lkT T e with
     |none=>trivial
     |some ti=>
      dsimp only
      cases h5:segSub l2 off2 (Zej m n*ti.size)with
      |none=>trivial
      |some x=>
       dsimp only
       cases h6:Qbi l off x with
       |none=>trivial
       |some l'=>
        dsimp only
        cases h7:(Qdo x && !(Zej m n*ti.size).beq 0 && !b.beq b2)
        . trivial
        . simp only[Zr,YD]at h7
          intro hR hW _
          have hne:Zej m n*ti.size≠0:=λe=>by rw[e]at h7;simp at h7
          have hu:=QbU (hT _ _ h1).1
          obtain⟨j,hj,hs⟩:=Qf3 (hT _ _ h4).size
          obtain⟨s1,s2,s3⟩:=Qaj ρ l2 off2 _ x h5
          obtain⟨e1,e2⟩:=Qa8 ρ l off x l' h6
          have hB:=Qou h2 hW
          have hB2:=QiZ h3 (hR b2 (by simp))
          have hst:=run_storeCells_at P (ρ b) off t' (Qh ρ x) 0 (Qh ρ l).toArray w hB (by simp[Qt];omega) (Qdx h7.1.1)
          have hlo:(loadCells ⟨ρ b2,off2,none⟩ (Zej m n*ti.size)).run P w=.ok (Qh ρ x).toArray w:=by
           have:=run_loadCells_list (P:=P) w ⟨ρ b2,off2,none⟩ (Qh ρ x) (λi v hv=>by
            rw[QaK,hB2.cell (off2+i)]
            rw[<- s1,ZO]at hv
            split at hv
            . rw[YL]at hv;exact hv
            . cases hv)
           rw[Qt,s3]at this
           exact this
          simp only[Yu]at hst
          have hsz:(sizeOf e).run P w=.ok ti.size w:=by simp[sizeOf,typeInfo,hj,hs,Zx]
          refine QfT h2 (w':=setBlk w (ρ b) (spl (Qh ρ l) off (Qh ρ x))) (.val ?_) (Qd1 w _ _) (by rw[<- e1];exact hB.setBlk _)
          simp[Builtin.copy_,ZdD,Builtin.lenOf,ht,SV.den,SA.den,SC.den,Zx,run_underlying hu,hsz,hlo,hst,goInt]
          simp[setBlk,spl]
   . trivial
 . trivial
end
end
section
open Go.RowKit
section
variable {P:Program}{V w:World}{ρ:Nat->Nat}{M:List SB}{nx nt:Nat}{env:Env}{a:Act}{T:Tab}
def QfY:List (Nat × Value)->Nat->Bool
 |[],_=>false
 |(k,_)::r,n=>k.beq n||QfY r n
def Qjs:List (Nat × Value)->Nat->Option Value
 |[],_=>none
 |(k,v)::r,n=>bif k.beq n then some v else Qjs r n
theorem QgH:∀(es:List (Nat × Value)) (i n:Nat) (v:Value),mpV i (es++[(n,v)])=mpV i es++[{ key:=.int .i64 n,val:=v,born:=i+es.length }]
 |[],i,n,v=>by simp[mpV]
 |(k,x)::r,i,n,v=>by simp only[Ym,mpV,QgH r,Yf,Zaa,true_and];congr 3;omega
theorem Qbb {kd:IntKind}(n:Nat):∀(es:List (Nat × Value)) (i j:Nat),(QfY es n=false->ZaG (.int kd) (.int .i64 n) (mpV i es) j=some none)/\(∀v,Qjs es n=some v->∃m,ZaG (.int kd) (.int .i64 n) (mpV i es) j=some (some (m,v)))
 |[],i,j=>⟨λ_=>rfl,λv h=>by simp[Qjs]at h⟩
 |(k,x)::r,i,j=>by
  obtain⟨h1,h2⟩:=Qbb (kd:=kd) n r (i+1) (j+1)
  have e:ZcL (.int kd) (.int .i64 (n:Int)) (.int .i64 (k:Int))=some (k.beq n):=by
   simp only[ZcL,if_true]
   cases hb:k.beq n
   . have:¬(n:Int)=k:=λh=>by
      have:k=n:=Za
      subst this;simp at hb
     simp[this]
   . have:=Zo hb
     subst this;simp
  constructor
  . intro h
    simp only[QfY,Bool.or_eq_false_iff]at h
    simp only[mpV,ZaG,e,h.1]
    exact h1 h.2
  . intro v h
    simp only[Qjs]at h
    simp only[mpV,ZaG,e]
    cases hb:k.beq n
    . rw[hb]at h;exact h2 v h
    . rw[hb]at h
      simp only[cond_true,Zn]at h;subst h
      exact⟨j,rfl⟩
def mapP (T:Tab) (t:Nat):Option (Nat × Nat):=match lkT T t with
 |some (.one _ (.map k e))=>match lkT T k with
  |some (.one _ (.int _))=>some (k,e)
  |_=>none
 |_=>none
theorem QpK {t k e:TypeId}(h:kdOf P t=.map k e):P.underlying t=some (.map k e):=by
 unfold kdOf at h
 split at h<;>simp_all
theorem QpL {t:TypeId}{k:IntKind}(h:kdOf P t=.int k):P.underlying t=some (.int k):=by
 unfold kdOf at h
 split at h<;>simp_all
theorem QbS (hT:TabOk P T) {t k e:Nat}(h:mapP T t=some (k,e)):P.underlying t=some (.map k e)/\∃kd,P.underlying k=some (.int kd):=by
 unfold mapP at h
 split at h
 . rename_i z k' e' h1
   split at h
   . rename_i z2 kd h2
     simp only[Zn,ZT]at h
     obtain⟨rfl,rfl⟩:=h
     exact⟨QpK (hT _ _ h1).1,kd,QpL (hT _ _ h2).1⟩
   . cases h
 . cases h
theorem Q5 {k:TypeId}{kd:IntKind}(h:P.underlying k=some (.int kd)) (b:Bool) (v:Value):(Instr.checkKey b 10000 k v).run P w=.ok () w:=by
 unfold Instr.checkKey
 rw[Zx,run_underlying h]
 rfl
def Qhn (nx:Nat):Option Operand->Eff
 |none=>.eff [] none (.o (.c (.m nx))) [(nx,.mp [])]
 |_=>.no
theorem Qjt (t:TypeId) (r:Option Operand):XW P V ρ M nx w (do pure (Yh (<- ZcM t (r.map a.eval)))) (Qhn nx r):=by
 unfold Qhn
 cases r with
 |some r=>trivial
 |none=>
  intro _ _ _
  refine⟨w.alloc (.map #[] 0),λi=>if i=nx then w.heap.size else ρ i,λi hi=>Ze (by simp at hi;omega),.val ?_,?_⟩
  . simp[ZcM,SV.den,SA.den,SC.den]
  . have:=Mem.one (w:=w) (S:=feet (denT ρ M ([(nx,SB.mp [])].map (·.1)))) ((Kept.refl _ w).alloc (.map #[] 0)) (e:=.obj w.heap.size (.map #[] 0)) (by show (w.heap.push _)[w.heap.size]?=_;simp) (λg hg=>.inr (Zae hg))
    simpa [denU,denB,mpV] using this
def Qjx (T:Tab) (M:List SB) (t:TypeId):Option SV->Option SV->Option SV->Eff
 |some (.o (.c (.m b))),some (.o (.c (.v (.int .i64 (.ofNat n))))),some (.o (.c (.v u)))=>match mapP T t,getB M b with
  |some _,.mp es=>bif QfY es n then .no else .eff [] none (sv undef) [(b,.mp (es++[(n,u)]))]
  |_,_=>.no
 |_,_,_=>.no
theorem QlM (hT:TabOk P T) (t:TypeId) {x y z:Option SV}{v u s:Value}(hx:∀q,x=some q->v=q.den ρ) (hy:∀q,y=some q->u=q.den ρ) (hz:∀q,z=some q->s=q.den ρ):
 XW P V ρ M nx w (do Zbm t v u s;pure Zcq) (Qjx T M t x y z):=by
 unfold Qjx
 split
 . rename_i b n uu
   have:=hx _ rfl
   subst this
   have:=hy _ rfl
   subst this
   have:=hz _ rfl
   subst this
   split
   . rename_i q es h1 hb
     obtain⟨k,e⟩:=q
     cases hh:QfY es n
     . intro _ hW _
       obtain⟨ht,kd,hk⟩:=QbS hT h1
       have hobj:w.heap[ρ b]?=some (.map (mpV 0 es).toArray es.length):=hW.holds (.obj (ρ b) (.map (mpV 0 es).toArray es.length)) (by simp[denT,denB,hb])
       have hlt:=(Array.getElem?_eq_some_iff.1 hobj).1
       have hg:(getObj (ρ b)).run P w=.ok (.map (mpV 0 es).toArray es.length) w:=by simp[getObj,ZbX,hobj]
       have hf:(Zac k (.int .i64 n) (mpV 0 es)).run P w=.ok none w:=by
        unfold Zac
        rw[Zx,run_underlying hk]
        simp only[ZD,(Qbb (kd:=kd) n es 0 0).1 hh]
        rfl
       have hs:∀ob,(Zb9 (ρ b) ob).run P w=.ok () { w with heap:=w.heap.setIfInBounds (ρ b) ob }:=λob=>by simp[Zb9,ZbX,hobj]
       have hF:feet (denT ρ M ([(b,SB.mp (es++[(n,s)]))].map (·.1))) (ρ b):=⟨.obj (ρ b) (.map (mpV 0 es).toArray es.length),by simp[denT,denB,hb],rfl⟩
       refine⟨{ w with heap:=w.heap.setIfInBounds (ρ b) (.map (mpV 0 (es++[(n,s)])).toArray (es.length+1)) },ρ,λ_ _=>rfl,.skip ?_,?_⟩
       . have e4:(mpV 0 (es++[(n,s)])).toArray=(mpV 0 es).toArray.push { key:=.int .i64 n,val:=s,born:=es.length }:=by rw[QgH];simp
         rw[e4]
         show (do Zbm t (.map (some (ρ b))) (.int .i64 n) s;pure Zcq:Sem Next).run P w=_
         simp[Zbm,Zx,run_underlying ht,hg,Q5 hk,hf,hs]
       . have hk2:Kept (feet (denT ρ M ([(b,SB.mp (es++[(n,s)]))].map (·.1)))) w { w with heap:=w.heap.setIfInBounds (ρ b) (.map (mpV 0 (es++[(n,s)])).toArray (es.length+1)) }:=
          ⟨rfl,rfl,rfl,by simp,λi hi hn=>by
           have:ρ b≠i:=λhh=>hn (hh ▸ hF)
           simp[this]⟩
         have:=Mem.one hk2 (e:=.obj (ρ b) (.map (mpV 0 (es++[(n,s)])).toArray (es.length+1))) (by show (w.heap.setIfInBounds (ρ b) _)[ρ b]?=_;simp[hlt]) (λg hg=>.inl (by have hg:ρ b=g:=hg;exact hg ▸ hF))
         simpa [denU,denB] using this
     . trivial
   . trivial
 . trivial
def Qjv (T:Tab) (M:List SB) (t:TypeId) (ok:Bool):Option SV->Option SV->Eff
 |some (.o (.c (.m b))),some (.o (.c (.v (.int .i64 (.ofNat n)))))=>match mapP T t,getB M b with
  |some (_,e),.mp es=>match Qjs es n with
   |some v=>bif ok then .eff [b] none (.t [.c (.v v),.c (.v (.bool true))]) []else .eff [b] none (sv v) []
   |none=>bif QfY es n then .no else match lkT T e with
    |some (.one z _)=>bif ok then .eff [b] none (.t [.c (.v z),.c (.v (.bool false))]) []else .eff [b] none (sv z) []
    |_=>.no
  |_,_=>.no
 |_,_=>.no
theorem Qlh (hT:TabOk P T) (t:TypeId) (ok:Bool) {x y:Option SV}{v u:Value}(hx:∀q,x=some q->v=q.den ρ) (hy:∀q,y=some q->u=q.den ρ):
 XW P V ρ M nx w (do pure (Yh (<- Zaf t v u ok))) (Qjv T M t ok x y):=by
 unfold Qjv
 split
 . rename_i b n
   have:=hx _ rfl
   subst this
   have:=hy _ rfl
   subst this
   split
   . rename_i k e es h1 hb
     have hobjs:(∀b'∈[b],∀en∈denB ρ b' (getB M b'),en.at w)->(getObj (ρ b)).run P w=.ok (.map (mpV 0 es).toArray es.length) w:=λhR=>by
      have hobj:w.heap[ρ b]?=some (.map (mpV 0 es).toArray es.length):=hR b (by simp) (.obj (ρ b) (.map (mpV 0 es).toArray es.length)) (by simp[denB,hb])
      simp[getObj,ZbX,hobj]
     obtain⟨ht,kd,hk⟩:=QbS hT h1
     split
     . rename_i vv hv
       have hf:∃m,(Zac k (.int .i64 n) (mpV 0 es)).run P w=.ok (some (m,vv)) w:=by
        obtain⟨m,hm⟩:=(Qbb (kd:=kd) n es 0 0).2 vv hv
        refine⟨m,?_⟩
        unfold Zac
        rw[Zx,run_underlying hk]
        simp only[ZD,hm]
        rfl
       obtain⟨m,hf⟩:=hf
       cases ok
       . refine QF λhR _=>?_
         have hg:=hobjs hR
         show (do pure (Yh (<- Zaf t (.map (some (ρ b))) (.int .i64 n) false)):Sem Next).run P w=_
         simp[Zaf,Zx,run_underlying ht,hg,Q5 hk,hf,SV.den,SA.den,SC.den]
       . refine QF λhR _=>?_
         have hg:=hobjs hR
         show (do pure (Yh (<- Zaf t (.map (some (ρ b))) (.int .i64 n) true)):Sem Next).run P w=_
         simp[Zaf,Zx,run_underlying ht,hg,Q5 hk,hf,SV.den,SA.den,SC.den]
     . cases hh:QfY es n
       . dsimp only[cond_false]
         split
         . rename_i z kz hz
           have hf:(Zac k (.int .i64 n) (mpV 0 es)).run P w=.ok none w:=by
            unfold Zac
            rw[Zx,run_underlying hk]
            simp only[ZD,(Qbb (kd:=kd) n es 0 0).1 hh]
            rfl
           obtain⟨-,-,-,hz4,-⟩:=hT _ _ hz
           have hzv:(zeroValue e).run P w=.ok z w:=by
            cases hq:P.info? e with
            |none=>rw[hq]at hz4;cases hz4
            |some j=>
             rw[hq]at hz4
             have hz5:j.zero=some z:=hz4
             simp[zeroValue,typeInfo,hq,hz5]
           cases ok
           . refine QF λhR _=>?_
             have hg:=hobjs hR
             show (do pure (Yh (<- Zaf t (.map (some (ρ b))) (.int .i64 n) false)):Sem Next).run P w=_
             simp[Zaf,Zx,run_underlying ht,hg,Q5 hk,hf,hzv,SV.den,SA.den,SC.den]
           . refine QF λhR _=>?_
             have hg:=hobjs hR
             show (do pure (Yh (<- Zaf t (.map (some (ρ b))) (.int .i64 n) true)):Sem Next).run P w=_
             simp[Zaf,Zx,run_underlying ht,hg,Q5 hk,hf,hzv,SV.den,SA.den,SC.den]
         . trivial
       . trivial
   . trivial
 . trivial
def QjC (T:Tab) (M:List SB) (t:TypeId):Option SV->Option SV->Eff
 |some (.o (.c (.m b))),some (.o (.c (.v (.int .i64 (.ofNat n)))))=>match mapP T t,getB M b with
  |some _,.mp es=>.eff [] none (sv undef) [(b,.gone)]
  |_,_=>.no
 |_,_=>.no
theorem Qis:∀ {es:List (Nat × Value)}{n:Nat},QfY es n=true->∃v,Qjs es n=some v
 |[],n,h=>by simp[QfY]at h
 |(k,v)::r,n,h=>by
  simp only[QfY,Bool.or_eq_true]at h
  simp only[Qjs]
  cases hb:k.beq n
  . rw[hb]at h
    exact Qis (h.resolve_left (by simp))
  . exact⟨v,rfl⟩
theorem Ql3 (hT:TabOk P T) (t:TypeId) (ts:Array TypeId) (ty:TypeId) (ht0:ts[0]?=some t) {x y:Option SV}{v u:Value}(hx:∀q,x=some q->v=q.den ρ) (hy:∀q,y=some q->u=q.den ρ):
 XW P V ρ M nx w (do let r <- ZaM ts ty #[v,u];pure (Yh r)) (QjC T M t x y):=by
 unfold QjC
 split
 . rename_i b n
   have:=hx _ rfl
   subst this
   have:=hy _ rfl
   subst this
   split
   . rename_i q es h1 hb
     obtain⟨k,e⟩:=q
     intro _ hW _
     obtain⟨ht,kd,hk⟩:=QbS hT h1
     have hobj:w.heap[ρ b]?=some (.map (mpV 0 es).toArray es.length):=hW.holds (.obj (ρ b) (.map (mpV 0 es).toArray es.length)) (by simp[denT,denB,hb])
     have hg:(getObj (ρ b)).run P w=.ok (.map (mpV 0 es).toArray es.length) w:=by simp[getObj,ZbX,hobj]
     have hs:∀ob,(Zb9 (ρ b) ob).run P w=.ok () { w with heap:=w.heap.setIfInBounds (ρ b) ob }:=λob=>by simp[Zb9,ZbX,hobj]
     have hF:feet (denT ρ M ([(b,SB.gone)].map (·.1))) (ρ b):=⟨.obj (ρ b) (.map (mpV 0 es).toArray es.length),by simp[denT,denB,hb],rfl⟩
     have hd:∃ob,(ZaM ts ty #[.map (some (ρ b)),.int .i64 n]).run P w=.ok (.tuple #[]) { w with heap:=w.heap.setIfInBounds (ρ b) ob }:=by
      cases hh:QfY es n
      . have hf:(Zac k (.int .i64 n) (mpV 0 es)).run P w=.ok none w:=by
         unfold Zac
         rw[Zx,run_underlying hk]
         simp only[ZD,(Qbb (kd:=kd) n es 0 0).1 hh]
         rfl
        exact⟨.map (mpV 0 es).toArray es.length,by simp[ZaM,ht0,Zx,run_underlying ht,hg,Q5 hk,hf,hs]⟩
      . obtain⟨vv,hv⟩:=Qis hh
        obtain⟨m,hm⟩:=(Qbb (kd:=kd) n es 0 0).2 vv hv
        have hf:(Zac k (.int .i64 n) (mpV 0 es)).run P w=.ok (some (m,vv)) w:=by
         unfold Zac
         rw[Zx,run_underlying hk]
         simp only[ZD,hm]
         rfl
        exact⟨.map ((mpV 0 es).toArray.eraseIdxIfInBounds m) es.length,by simp[ZaM,ht0,Zx,run_underlying ht,hg,Q5 hk,hf,hs]⟩
     obtain⟨ob,hd⟩:=hd
     refine⟨{ w with heap:=w.heap.setIfInBounds (ρ b) ob },ρ,λ_ _=>rfl,.val ?_,?_⟩
     . show (do let r <- ZaM ts ty #[.map (some (ρ b)),.int .i64 n];pure (Yh r):Sem Next).run P w=_
       simp only[Zx,hd];rfl
     . have hk2:Kept (feet (denT ρ M ([(b,SB.gone)].map (·.1)))) w { w with heap:=w.heap.setIfInBounds (ρ b) ob }:=
        ⟨rfl,rfl,rfl,by simp,λi hi hn=>by
         have:ρ b≠i:=λhh=>hn (hh ▸ hF)
         simp[this]⟩
       exact⟨hk2,by simp[denU,denB],by simp[denU,denB],Zal⟩
   . trivial
 . trivial
end
end
section
open Go.RowKit
section
variable {P:Program}{V w:World}{ρ:Nat->Nat}{M:List SB}{nx:Nat}
def clrR (lo n:Nat) (z:Nat->Nat->Int):Nat->Nat->Int:=λi j=>bif lo.ble i&&i.blt (lo+n)then 0 else z i j
theorem Qro {C vs:List Value}{o k:Nat}(h:o+vs.length<=C.length):(spl C o vs)[k]?=if o<=k/\k<o+vs.length then vs[k-o]? else C[k]?:=by
 unfold spl
 simp only[Zbv,Zw,ZW,ZO,YL]
 rw[YM (show o<=C.length by omega)]
 by_cases h1:k<o
 . rw[Zf Za,Zf Za,Zf h1,Ze Za]
 . by_cases h2:k<o+vs.length
   . rw[Zf Za,Ze h1,Zf ⟨Za,h2⟩]
   . rw[Ze Za,Ze Za,show o+vs.length+(k-(o+vs.length))=k by omega]
theorem RowAt.clr {w w':World}{b:Nat}{t:TypeId}{ks:Nat->CK}{sz m c:Nat}{z:Nat->Nat->Int}(h:RowAt w b t sz m c (QJ ks sz z m)) {lo n:Nat}(hn:0<n) (hm:lo+n<=m)
 (hw:∀C,Blk w b C t->Blk w' b (spl C (lo*sz) (QJ ks sz (λ_ _=>0) n)) t):RowAt w' b t sz m c (QJ ks sz (clrR lo n z) m):=by
 obtain⟨C,hB,hl,ht,hx⟩:=h.blk Za
 have h1:(lo+n)*sz<=m*sz:=ZK _ hm
 have h2:m*sz<=c*sz:=ZK _ h.1
 rw[Yi]at h1
 have hv:(QJ ks sz (λ_ _=>0) n).length=n*sz:=QI _ _ _ _
 refine⟨h.1,QI _ _ _ _,λ_=>⟨_,hw C hB,by rw[XE _ _ _ (by rw[hv];omega)];exact hl,?_,hx⟩⟩
 apply Qbn
 . rw[ZW,XE _ _ _ (by rw[hv];omega)];omega
 intro i j hi hj
 have hij:(i+1)*sz<=m*sz:=ZK _ hi
 rw[Yi]at hij
 have hC:C[i*sz+j]?=some (mkV (ks j) (z i j)):=by
  rw[<- Xm ks sz z m i j hi hj,<- ht,ZO,Zf Za]
 rw[ZO,Zf Za,Qro (by rw[hv];omega),hv]
 unfold clrR
 by_cases h3:lo<=i/\i<lo+n
 . have h4:lo*sz<=i*sz:=ZK _ h3.1
   have h5:(i+1)*sz<=(lo+n)*sz:=ZK _ h3.2
   rw[Yi,Yi]at h5
   rw[Zf ⟨Za,Za⟩,show i*sz+j-lo*sz=(i-lo)*sz+j by rw[Nat.sub_mul];omega,Xm ks sz _ n (i-lo) j Za hj]
   simp only[show lo.ble i=true from Ys h3.1,show i.blt (lo+n)=true by simpa [ZbR] using h3.2,ZbN,cond_true]
 . have hb:(lo.ble i&&i.blt (lo+n))=false:=by
    cases hb:(lo.ble i&&i.blt (lo+n))
    . rfl
    . simp only[Zr]at hb
      exact absurd ⟨XZ hb.1,Xv hb.2⟩ h3
   rw[hb,cond_false,Ze,hC]
   rintro⟨h4,h5⟩
   apply h3
   constructor
   . rcases Yy i lo with h6|h6
     . have:(i+1)*sz<=lo*sz:=ZK _ h6
       rw[Yi]at this;omega
     . exact h6
   . rcases Yy i (lo+n)with h6|h6
     . exact h6
     . have:(lo+n)*sz<=i*sz:=ZK _ h6
       rw[Yi]at this;omega
theorem Qii (ks:Nat->CK) (sz:Nat) (z:Nat->Nat->Int):∀n,∀u∈QJ ks sz z n,u.oneCell'=true
 |0,u,h=>by cases h
 |n+1,u,h=>by
  simp only[QJ,Za0]at h
  rcases h with h|h
  . exact Qii ks sz z n u h
  . unfold rowV at h
    simp only[ZbD]at h
    obtain⟨_,-,rfl⟩:=h
    exact QdD _ _
def isZ:Int->Bool
 |.ofNat n=>n.beq 0
 |_=>false
def allZ:List Int->Bool
 |[]=>true
 |x::r=>isZ x&&allZ r
theorem QkJ:∀ {l:List Int}{i:Nat},allZ l=true->l.getD i 0=0
 |[],i,_=>rfl
 |x::r,i,h=>by
  simp only[allZ,Zr]at h
  cases i with
  |zero=>
   show x=0
   cases x with
   |ofNat n=>have:=Zo h.1;subst this;rfl
   |negSucc n=>cases h.1
  |succ i=>exact QkJ (l:=r) (i:=i) h.2
def QoW (ks:List CK) (l:List Seg):Bool:=match Qdt (ckAt ks) 0 l with
 |some zs=>allZ zs
 |none=>false
theorem Qme {ks:List CK}{l:List Seg}(h:QoW ks l=true) (ρ:Nat->Nat):Qh ρ l=(Z2 (Qq l)).map λi=>mkV (ckAt ks i) 0:=by
 unfold QoW at h
 split at h
 . rename_i zs hz
   obtain⟨h1,h2⟩:=Qdc ρ (ckAt ks) l 0 zs hz
   rw[h2]
   refine Yr λi hi=>?_
   rw[QkJ h,Zu]
 . cases h
def Qop (T:Tab) (M:List SB) (t:Nat):Option SV->Eff
 |some (.o (.c (.so b lo sz n c nn)))=>match rowP T t,getB M b with
  |some (e,sz',ks),.rows t2 ks2 sz2 m c2 z=>match lkT T e with
   |some ti=>bif sz'.beq sz2&&ksE ks2 ks&&sz.beq sz'&&QoW ks ti.zero then .eff [] (some (0<n/\lo+n<=m/\c=c2)) (sv (.tuple #[])) [(b,.rows t2 ks2 sz2 m c2 (clrR lo n z))]else .no
   |none=>.no
  |_,_=>.no
 |_=>.no
theorem Qoo {T:Tab}(hT:TabOk P T) (hT2:TysOk P T) (t:Nat) (ts:Array TypeId) (ty:TypeId) (ht:ts[0]?=some t) {x:Option SV}{v:Value}(hx:∀s,x=some s->v=s.den ρ):
 XW P V ρ M nx w (do let r <- Zdh ts ty #[v];pure (Yh r)) (Qop T M t x):=by
 unfold Qop
 split
 . rename_i b lo sz n c nn
   have:=hx _ rfl
   subst this
   split
   . rename_i e sz' ks t2 ks2 sz2 m c2 z hp hb
     cases hl:lkT T e with
     |none=>trivial
     |some ti=>
      dsimp only
      cases hc:(sz'.beq sz2&&ksE ks2 ks&&sz.beq sz'&&QoW ks ti.zero)
      . trivial
      . rw[cond_true]
        simp only[Zr]at hc
        obtain⟨⟨⟨k1,k2⟩,k3⟩,k4⟩:=hc
        obtain rfl:=Zo k1
        obtain rfl:=QgK k2
        obtain rfl:=Zo k3
        intro _ hW hv
        obtain⟨hn,hm,rfl⟩:=hv
        have hrow:=Qrt hb hW
        have hmc:=hrow.1
        obtain⟨hu,hs0,hkl,i,zv,hi,hz,hsz,-,hzs⟩:=QfL hT hT2 hp
        obtain⟨C,hB,hCl,-,-⟩:=hrow.blk Za
        have hav:QS (λ_=>false) ti.zero=true:=by
         unfold rowP at hp
         split at hp
         . split at hp
           . rename_i ti' h2
             split at hp
             . cases hcc:(QS (λ_=>false) ti'.zero&&(List.length _).beq ti'.size && !ti'.size.beq 0)
               . rw[hcc]at hp;cases hp
               . rw[hcc]at hp
                 simp only[cond_true,Zn,ZT]at hp
                 obtain⟨rfl,-,-⟩:=hp
                 rw[h2]at hl
                 obtain rfl:=YP hl
                 simp only[Zr]at hcc
                 exact hcc.1.1
             . cases hp
           . cases hp
         . cases hp
        obtain⟨zv',j',hj',hz',hzc,-⟩:=Qet (ρ:=ρ) hT hl hav
        rw[hi]at hj'
        obtain rfl:=YP hj'
        rw[hz]at hz'
        obtain rfl:=YP hz'
        have hden:=Qme k4 ρ
        have hlen:Qq ti.zero=sz:=by
         have:=congrArg Array.size hzc
         rw[hzs,ZdK,Qt]at this;exact this.symm
        have hzl:(Zan zv.cells n).toList=QJ (ckAt ks2) sz (λ_ _=>0) n:=by
         apply Qbn
         . simp[Zan,hzs]
         . intro i j hi hj
           have hlt:i*sz+j<n*sz:=by
            have:(i+1)*sz<=n*sz:=ZK _ hi
            rw[Yi]at this;omega
           have hmod:(i*sz+j)%sz=j:=by rw[Zb0,Nat.add_mul_mod_self_right];exact Nat.mod_eq_of_lt hj
           have hcell:zv.cells[j]! =mkV (ckAt ks2 j) 0:=by
            rw[hzc,hden,hlen]
            simp[hj]
           simp[Zan,hzs,hlt,hmod,hcell]
        have hfit:lo*sz+(QJ (ckAt ks2) sz (λ_ _=>0) n).length<=C.length:=by
         rw[QI,hCl,<- Yi]
         exact ZK _ Za
        have hst:=run_storeCells_at P (ρ b) (lo*sz) t2 (QJ (ckAt ks2) sz (λ_ _=>0) n) 0 C.toArray w hB (by simpa using hfit) (Qii _ _ _ _)
        simp only[Yu]at hst
        have hd:(SC.so b lo sz n c nn).den ρ=.slice (some ⟨ρ b,lo*sz,none⟩) n (c-lo):=by
         simp only[SC.den]
         rw[bz (show 0<c by omega),bz (show 0<c-lo by omega)];rfl
        have hzv:(zeroValue e).run P w=.ok zv w:=by simp[zeroValue,typeInfo,hi,hz,Zx]
        refine Qjn hb Za (w':=setBlk w (ρ b) (spl C (lo*sz) (QJ (ckAt ks2) sz (λ_ _=>0) n))) (.val ?_) (Qd1 w _ _) (hrow.clr hn hm λC' hC'=>?_)
        . show (do let r <- Zdh ts ty #[(SC.so b lo sz n c nn).den ρ];pure (Yh r):Sem Next).run P w=_
          rw[hd]
          obtain⟨n',rfl⟩:∃n',n=n'+1:=⟨n-1,Za⟩
          simp[Zdh,ht,Zx,run_underlying hu,hzv,hzl,hst,SV.den,SA.den,SC.den]
          simp[setBlk,spl]
        . have:C'=C:=by
           have h1:=hC'
           have h2:=hB
           unfold Blk at h1 h2
           rw[h1]at h2
           simpa using h2
          rw[this];exact hB.setBlk _
   . trivial
 . trivial
end
end
section
open Go.RowKit
section
variable {P:Program}{V w:World}{ρ:Nat->Nat}{M:List SB}{nx nt:Nat}{env:Env}{a:Act}{T:Tab}
theorem fnow_mf (kd:IntKind) (n:Int):∀(es:List MapEntry) (j:Nat),(∀e∈es,∃k,e.key=.int .i64 k) ->
 (ZaG (.int kd) (.int .i64 n) es j=some none/\∀e∈es,e.key≠ .int .i64 n)\/∃m e,es[m]?=some e/\e.key=.int .i64 n/\ZaG (.int kd) (.int .i64 n) es j=some (some (j+m,e.val))
 |[],j,_=>.inl ⟨rfl,λe h=>by cases h⟩
 |x::r,j,h=>by
  obtain⟨k,hk⟩:=h x ZC
  have e:ZcL (.int kd) (.int .i64 n) x.key=some (n==k):=by rw[hk];simp[ZcL]
  by_cases hn:n=k
  . subst hn
    refine .inr ⟨0,x,rfl,hk,?_⟩
    simp only[ZaG,e,beq_self_eq_true,Yu]
  . have hb:(n==k)=false:=beq_eq_false_iff_ne.2 hn
    have hne:x.key≠ .int .i64 n:=by rw[hk];intro h;injection h with _ h;exact hn h.symm
    rcases fnow_mf kd n r (j+1) (λe he=>h e (ZF _ he))with⟨h1,h2⟩|⟨m,y,h1,h2,h3⟩
    . refine .inl ⟨by simp only[ZaG,e,hb,h1],λy hy=>?_⟩
      rcases List.mem_cons.1 hy with rfl|hy
      . exact hne
      . exact h2 y hy
    . refine .inr ⟨m+1,y,h1,h2,?_⟩
      simp only[ZaG,e,hb,h3]
      rw[Nat.add_right_comm,Zab]
theorem fkey_mf {h:Int->Bool}{v:Int->Int}{es:List MapEntry}(ok:MfOk h v es) {k:TypeId}{kd:IntKind}(hk:P.underlying k=some (.int kd)) (n:Int):
 (h n=false/\(Zac k (.int .i64 n) es).run P w=.ok none w)\/(h n=true/\∃m e,es[m]?=some e/\e.key=.int .i64 n/\e.val=.int .i64 (v n)/\(Zac k (.int .i64 n) es).run P w=.ok (some (m,e.val)) w):=by
 have hr:∀r,ZaG (.int kd) (.int .i64 n) es 0=some r->(Zac k (.int .i64 n) es).run P w=.ok r w:=λr hr=>by
  unfold Zac
  rw[Zx,run_underlying hk]
  simp only[ZD,hr]
  rfl
 rcases fnow_mf kd n es 0 (λe he=>(ok.ent e he).imp λk hk=>hk.1)with⟨h1,h2⟩|⟨m,e,h1,h2,h3⟩
 . refine .inl ⟨?_,hr _ h1⟩
   cases hn:h n
   . rfl
   . obtain⟨e,he,hke⟩:=ok.all n hn
     exact absurd hke (h2 e he)
 . obtain⟨k',e1,e2,e3⟩:=ok.ent e (List.mem_of_getElem? h1)
   rw[h2]at e1
   injection e1 with _ e1
   subst e1
   exact .inr ⟨e3,m,e,h1,h2,e2,by have:=hr _ h3;rwa [Zu]at this⟩
theorem MfOk.push {h:Int->Bool}{v:Int->Int}{es:List MapEntry}(ok:MfOk h v es) {k:Int}(hk:h k=false) (u:Int) (c:Nat):MfOk (λx=>bif x==k then true else h x) (λx=>bif x==k then u else v x) (es++[{ key:=.int .i64 k,val:=.int .i64 u,born:=c }]):=by
 have hne:∀e∈es,∀k',e.key=.int .i64 k'->k'≠k:=λe he k' e1 e2=>by
  obtain⟨k2,e3,-,e4⟩:=ok.ent e he
  rw[e1]at e3
  injection e3 with _ e3
  subst e3 e2
  rw[hk]at e4;cases e4
 refine⟨List.pairwise_append.2 ⟨ok.nd,YB _ _,λa ha b hb=>?_⟩,λe he=>?_,λk' hk'=>?_⟩
 . obtain rfl:=List.mem_singleton.1 hb
   intro e
   exact hne a ha k e rfl
 . rcases List.mem_append.1 he with he|he
   . obtain⟨k',e1,e2,e3⟩:=ok.ent e he
     have hb:(k'==k)=false:=beq_eq_false_iff_ne.2 (hne e he k' e1)
     exact⟨k',e1,by rw[hb];exact e2,by rw[hb];exact e3⟩
   . obtain rfl:=List.mem_singleton.1 he
     exact⟨k,rfl,by rw[beq_self_eq_true];rfl,by rw[beq_self_eq_true];rfl⟩
 . by_cases e:k'=k
   . subst e;exact⟨_,Z0 _ (List.mem_singleton.2 rfl),rfl⟩
   . have hb:(k'==k)=false:=beq_eq_false_iff_ne.2 e
     rw[hb]at hk'
     obtain⟨e,he,h1⟩:=ok.all k' hk'
     exact⟨e,Yc _ he,h1⟩
theorem MfOk.erase {h:Int->Bool}{v:Int->Int}{es:List MapEntry}(ok:MfOk h v es) {k:Int}{m:Nat}{e0:MapEntry}(hm:es[m]?=some e0) (hk:e0.key=.int .i64 k):MfOk (λx=>bif x==k then false else h x) v (es.eraseIdx m):=by
 obtain⟨hlt,hget⟩:=List.getElem?_eq_some_iff.1 hm
 have hsplit:es=es.take m++e0::es.drop (m+1):=by
  rw[<- hget,<- ZcH hlt,List.take_append_drop]
 have he:es.eraseIdx m=es.take m++es.drop (m+1):=List.eraseIdx_eq_take_drop_succ es m
 have hnd:=ok.nd
 rw[hsplit]at hnd
 obtain⟨n1,n2,n3⟩:=List.pairwise_append.1 hnd
 rw[List.pairwise_cons]at n2
 have hsub:∀e∈es.take m++es.drop (m+1),e∈es/\e.key≠e0.key:=λe h=>by
  rcases List.mem_append.1 h with h|h
  . exact⟨List.mem_of_mem_take h,n3 e h e0 ZC⟩
  . exact⟨List.mem_of_mem_drop h,λx=>n2.1 e h x.symm⟩
 rw[he]
 refine⟨List.pairwise_append.2 ⟨n1,n2.2,λa ha b hb=>n3 a ha b (ZF _ hb)⟩,λe h=>?_,λk' hk'=>?_⟩
 . obtain⟨h1,h2⟩:=hsub e h
   obtain⟨k',e1,e2,e3⟩:=ok.ent e h1
   have hb:(k'==k)=false:=beq_eq_false_iff_ne.2 λe4=>by subst e4;exact h2 (e1.trans hk.symm)
   exact⟨k',e1,e2,by rw[hb];exact e3⟩
 . by_cases e:k'=k
   . subst e;rw[beq_self_eq_true]at hk';cases hk'
   . have hb:(k'==k)=false:=beq_eq_false_iff_ne.2 e
     rw[hb]at hk'
     obtain⟨x,hx,h1⟩:=ok.all k' hk'
     refine⟨x,?_,h1⟩
     rw[hsplit]at hx
     rcases List.mem_append.1 hx with hx|hx
     . exact Yc _ hx
     . rcases List.mem_cons.1 hx with rfl|hx
       . rw[hk]at h1
         injection h1 with _ h1
         exact absurd h1.symm e
       . exact Z0 _ hx
def mfTy (T:Tab) (t:Nat):Bool:=match mapP T t with
 |some (_,e)=>match lkT T e with
  |some (.one (.int .i64 z) _)=>isZ z
  |_=>false
 |none=>false
def Qho (T:Tab) (nx t:Nat) (r:Option Operand):Eff:=bif mfTy T t then (match r with
 |none=>.eff [] none (.o (.c (.m nx))) [(nx,.mf (λ_=>false) (λ_=>0))]
 |_=>.no)else Qhn nx r
theorem Qju (t:TypeId) (r:Option Operand):XW P V ρ M nx w (do pure (Yh (<- ZcM t (r.map a.eval)))) (Qho T nx t r):=by
 unfold Qho
 cases mfTy T t
 . exact Qjt t r
 . cases r with
   |some r=>trivial
   |none=>
    intro _ _ _
    refine⟨w.alloc (.map #[] 0),λi=>if i=nx then w.heap.size else ρ i,λi hi=>Ze (by simp at hi;omega),.val ?_,?_⟩
    . simp[ZcM,SV.den,SA.den,SC.den]
    . have:=Mem.one (w:=w) (S:=feet (denT ρ M ([(nx,SB.mf (λ_=>false) (λ_=>0))].map (·.1)))) ((Kept.refl _ w).alloc (.map #[] 0)) (e:=.abs w.heap.size (Qgt (λ_=>false) (λ_=>0)) [w.heap.size])
       ⟨rfl,#[],0,by show (w.heap.push _)[w.heap.size]?=_;simp,Zal,λe h=>by simp at h,λk h=>by cases h⟩ (λg hg=>.inr (by obtain rfl:=List.mem_singleton.1 hg;exact Zq _))
      simpa [denU,denB] using this
def isMf (M:List SB):Option SV->Bool
 |some (.o (.c (.m b)))=>match getB M b with
  |.mf _ _=>true
  |_=>false
 |_=>false
theorem QqI {b:Nat}{h h':Int->Bool}{v v':Int->Int}(hb:getB M b=.mf h v) {r:Sem Next}{x:SV}{es:Array MapEntry}{c:Nat}(hlt:ρ b<w.heap.size) (hr:Res P w r (x.den ρ) { w with heap:=w.heap.setIfInBounds (ρ b) (.map es c) }) (ho:MfOk h' v' es.toList):Out P ρ M nx w r x [(b,.mf h' v')]:=by
 have hF:feet (denT ρ M ([(b,SB.mf h' v')].map (·.1))) (ρ b):=⟨.abs (ρ b) (Qgt h v) [ρ b],by simp[denT,denB,hb],List.mem_singleton.2 rfl⟩
 refine⟨{ w with heap:=w.heap.setIfInBounds (ρ b) (.map es c) },ρ,λ_ _=>rfl,hr,?_⟩
 have hk2:Kept (feet (denT ρ M ([(b,SB.mf h' v')].map (·.1)))) w { w with heap:=w.heap.setIfInBounds (ρ b) (.map es c) }:=
  ⟨rfl,rfl,rfl,by simp,λi hi hn=>by
   have:ρ b≠i:=λhh=>hn (hh ▸ hF)
   simp[this]⟩
 have:=Mem.one hk2 (e:=.abs (ρ b) (Qgt h' v') [ρ b]) ⟨rfl,es,c,by show (w.heap.setIfInBounds (ρ b) _)[ρ b]?=_;simp[hlt],ho⟩ (λg hg=>.inl (by obtain rfl:=List.mem_singleton.1 hg;exact hF))
 simpa [denU,denB] using this
def Qjw (T:Tab) (M:List SB) (t:TypeId) (ok:Bool) (x y:Option SV):Eff:=bif isMf M x then (match x,y with
 |some (.o (.c (.m b))),some (.o (.c (.v (.int .i64 k))))=>match mapP T t,getB M b with
  |some (_,e),.mf h v=>match lkT T e with
   |some (.one (.int .i64 z) _)=>bif isZ z then (bif ok then .eff [b] none (.t [.c (.v (.int .i64 (bif h k then v k else 0))),.c (.v (.bool (h k)))]) []else .eff [b] none (sv (.int .i64 (bif h k then v k else 0))) [])else .no
   |_=>.no
  |_,_=>.no
 |_,_=>.no)else Qjv T M t ok x y
theorem isZ_eq {z:Int}(h:isZ z=true):z=0:=by
 cases z with
 |ofNat n=>have:=Zo h;subst this;rfl
 |negSucc n=>cases h
theorem Qli (hT:TabOk P T) (t:TypeId) (ok:Bool) {x y:Option SV}{v u:Value}(hx:∀q,x=some q->v=q.den ρ) (hy:∀q,y=some q->u=q.den ρ):
 XW P V ρ M nx w (do pure (Yh (<- Zaf t v u ok))) (Qjw T M t ok x y):=by
 unfold Qjw
 cases isMf M x
 . exact Qlh hT t ok hx hy
 rw[cond_true]
 split
 . rename_i b n
   have:=hx _ rfl
   subst this
   have:=hy _ rfl
   subst this
   split
   . rename_i k e h f h1 hb
     split
     . rename_i z kz hz
       cases hzz:isZ z
       . trivial
       obtain rfl:=isZ_eq hzz
       obtain⟨ht,kd,hk⟩:=QbS hT h1
       obtain⟨-,-,-,hz4,-⟩:=hT _ _ hz
       have hzv:(zeroValue e).run P w=.ok (.int .i64 0) w:=by
        cases hq:P.info? e with
        |none=>rw[hq]at hz4;cases hz4
        |some j=>
         rw[hq]at hz4
         have hz5:j.zero=some (.int .i64 0):=hz4
         simp[zeroValue,typeInfo,hq,hz5]
       have key:(∀b'∈[b],∀en∈denB ρ b' (getB M b'),en.at w)->∀q:Bool,(Zaf t (.map (some (ρ b))) (.int .i64 n) q).run P w=.ok (if q then .tuple #[.int .i64 (bif h n then f n else 0),.bool (h n)]else .int .i64 (bif h n then f n else 0)) w:=λhR q=>by
        obtain⟨-,es,c,hobj,hok⟩:(Qgt h f).hold (ρ b) [ρ b] w:=hR b (by simp) (.abs (ρ b) (Qgt h f) [ρ b]) (by simp[denB,hb])
        have hg:(getObj (ρ b)).run P w=.ok (.map es c) w:=by simp[getObj,ZbX,hobj]
        rcases fkey_mf (P:=P) (w:=w) hok hk n with⟨e1,e2⟩|⟨e1,m,x,-,-,e4,e5⟩
        . rw[e1]
          simp[Zaf,Zx,run_underlying ht,hg,Q5 hk,e2,hzv]
        . rw[e4]at e5
          rw[e1]
          simp[Zaf,Zx,run_underlying ht,hg,Q5 hk,e5]
       cases ok
       . refine QF λhR _=>?_
         show (do pure (Yh (<- Zaf t (.map (some (ρ b))) (.int .i64 n) false)):Sem Next).run P w=_
         simp only[Zx,key hR false];rfl
       . refine QF λhR _=>?_
         show (do pure (Yh (<- Zaf t (.map (some (ρ b))) (.int .i64 n) true)):Sem Next).run P w=_
         simp only[Zx,key hR true];rfl
     . trivial
   . trivial
 . trivial
def Qht (T:Tab) (M:List SB) (t:TypeId) (x y z:Option SV):Eff:=bif isMf M x then (match x,y,z with
 |some (.o (.c (.m b))),some (.o (.c (.v (.int .i64 k)))),some (.o (.c (.v (.int .i64 u))))=>match mapP T t,getB M b with
  |some _,.mf h v=>.eff [] (some (h k=false)) (sv undef) [(b,.mf (λx=>bif x==k then true else h x) (λx=>bif x==k then u else v x))]
  |_,_=>.no
 |_,_,_=>.no)else Qjx T M t x y z
theorem QgL (hT:TabOk P T) (t:TypeId) {x y z:Option SV}{v u s:Value}(hx:∀q,x=some q->v=q.den ρ) (hy:∀q,y=some q->u=q.den ρ) (hz:∀q,z=some q->s=q.den ρ):
 XW P V ρ M nx w (do Zbm t v u s;pure Zcq) (Qht T M t x y z):=by
 unfold Qht
 cases isMf M x
 . exact QlM hT t hx hy hz
 rw[cond_true]
 split
 . rename_i b n uu
   have:=hx _ rfl
   subst this
   have:=hy _ rfl
   subst this
   have:=hz _ rfl
   subst this
   split
   . rename_i q h f h1 hb
     obtain⟨k,e⟩:=q
     intro _ hW hh
     have hh:h n=false:=hh
     obtain⟨ht,kd,hk⟩:=QbS hT h1
     obtain⟨-,es,c,hobj,hok⟩:(Qgt h f).hold (ρ b) [ρ b] w:=hW.holds (.abs (ρ b) (Qgt h f) [ρ b]) (by simp[denT,denB,hb])
     have hlt:=(Array.getElem?_eq_some_iff.1 hobj).1
     have hg:(getObj (ρ b)).run P w=.ok (.map es c) w:=by simp[getObj,ZbX,hobj]
     have hs:∀ob,(Zb9 (ρ b) ob).run P w=.ok () { w with heap:=w.heap.setIfInBounds (ρ b) ob }:=λob=>by simp[Zb9,ZbX,hobj]
     rcases fkey_mf (P:=P) (w:=w) hok hk n with⟨e1,e2⟩|⟨e1,-⟩
     . refine QqI hb (es:=es.push { key:=.int .i64 n,val:=.int .i64 uu,born:=c }) (c:=c+1) hlt (.skip ?_) (by rw[Array.toList_push];exact hok.push hh uu c)
       show (do Zbm t (.map (some (ρ b))) (.int .i64 n) (.int .i64 uu);pure Zcq:Sem Next).run P w=_
       simp[Zbm,Zx,run_underlying ht,hg,Q5 hk,e2,hs]
     . rw[hh]at e1;cases e1
   . trivial
 . trivial
def QjD (T:Tab) (M:List SB) (t:TypeId) (x y:Option SV):Eff:=bif isMf M x then (match x,y with
 |some (.o (.c (.m b))),some (.o (.c (.v (.int .i64 k))))=>match mapP T t,getB M b with
  |some _,.mf h v=>.eff [] (some (h k=true)) (sv undef) [(b,.mf (λx=>bif x==k then false else h x) v)]
  |_,_=>.no
 |_,_=>.no)else QjC T M t x y
theorem Ql4 (hT:TabOk P T) (t:TypeId) (ts:Array TypeId) (ty:TypeId) (ht0:ts[0]?=some t) {x y:Option SV}{v u:Value}(hx:∀q,x=some q->v=q.den ρ) (hy:∀q,y=some q->u=q.den ρ):
 XW P V ρ M nx w (do let r <- ZaM ts ty #[v,u];pure (Yh r)) (QjD T M t x y):=by
 unfold QjD
 cases isMf M x
 . exact Ql3 hT t ts ty ht0 hx hy
 rw[cond_true]
 split
 . rename_i b n
   have:=hx _ rfl
   subst this
   have:=hy _ rfl
   subst this
   split
   . rename_i q h f h1 hb
     obtain⟨k,e⟩:=q
     intro _ hW hh
     have hh:h n=true:=hh
     obtain⟨ht,kd,hk⟩:=QbS hT h1
     obtain⟨-,es,c,hobj,hok⟩:(Qgt h f).hold (ρ b) [ρ b] w:=hW.holds (.abs (ρ b) (Qgt h f) [ρ b]) (by simp[denT,denB,hb])
     have hlt:=(Array.getElem?_eq_some_iff.1 hobj).1
     have hg:(getObj (ρ b)).run P w=.ok (.map es c) w:=by simp[getObj,ZbX,hobj]
     have hs:∀ob,(Zb9 (ρ b) ob).run P w=.ok () { w with heap:=w.heap.setIfInBounds (ρ b) ob }:=λob=>by simp[Zb9,ZbX,hobj]
     rcases fkey_mf (P:=P) (w:=w) hok hk n with⟨e1,-⟩|⟨e1,m,x,e2,e3,-,e5⟩
     . rw[hh]at e1;cases e1
     . refine QqI hb (es:=es.eraseIdxIfInBounds m) (c:=c) hlt (.val ?_) (by rw[Array.toList_eraseIdxIfInBounds];exact hok.erase e2 e3)
       show (do let r <- ZaM ts ty #[.map (some (ρ b)),.int .i64 n];pure (Yh r):Sem Next).run P w=_
       simp[ZaM,ht0,Zx,run_underlying ht,hg,Q5 hk,e5,hs]
       rfl
   . trivial
 . trivial
end
end
section
open Go.RowKit
def Qi6 (env:Env):List Operand->Option (List SA)
 |[]=>some []
 |x::r=>match QO env x,Qi6 env r with
  |some (.o y),some l=>some (y::l)
  |_,_=>none
def noV (a:Array Value):Bool:=match a.toList with
 |[]=>true
 |_=>false
theorem Qm3 {a:Array Value}(h:noV a=true):a= #[]:=by
 unfold noV at h
 split at h
 . rename_i e;exact Zat e
 . cases h
def Qr9 (V:World) (T:Tab) (env:Env) (M:List SB) (nx:Nat) (c:Call):Eff:=match c.callee with
 |.value f=>match QO env f with
  |some (.o (.c (.v (.func (.func g) fi ca))))=>bif noV fi&&noV ca then (match Qi6 env c.args.toList with
   |some l=>.call g l
   |none=>.no)else .no
  |some (.o (.c (.fn g cs)))=>match Qi6 env c.args.toList with
   |some l=>.call g (l++cs.map λq=>.c (.p q.1 q.2))
   |none=>.no
  |_=>.no
 |.builtin .len=>match c.argTypes.toList,c.args.toList with
  |[t],[x]=>match lkT T t,QO env x with
   |some (.one _ (.slice _)),some (.o (.c (.s _ _ n _)))=>.val none (sv (.int .i64 n))
   |some (.one _ (.slice _)),some (.o (.c (.v (.slice _ n _))))=>.val none (sv (.int .i64 n))
   |some (.one _ (.slice _)),some (.o (.c (.r _ n _ _ _ _ _)))=>.val none (sv (.int .i64 n))
   |some (.one _ (.slice _)),some (.o (.c (.o _ n c)))=>.val (some (n<=c)) (sv (.int .i64 n))
   |some (.one _ (.slice _)),some (.o (.c (.so _ lo _ n c nn)))=>.val (some (n<=c)) (sv (.int .i64 n))
   |some (.one _ .str),some (.o (.c (.v (.string s))))=>.val none (sv (.int .i64 s.size))
   |_,_=>.no
  |_,_=>.no
 |.builtin .min=>match c.args.toList with
  |[x,y]=>match QO env x,QO env y with
   |some (.o (.c (.v (.int k a)))),some (.o (.c (.v (.int _ b))))=>.val none (sv (.int k (if b<a then b else a)))
   |_,_=>.no
  |_=>.no
 |.builtin .copy=>match c.argTypes.toList,c.args.toList with
  |t::_,[x,y]=>Qr0 T M t (QO env x) (QO env y)
  |_,_=>.no
 |.builtin .append=>match c.argTypes.toList,c.args.toList with
  |[t,t'],[x,y]=>bif t.beq t' then QjO V T M nx t (QO env x) (QO env y)else .no
  |_,_=>.no
 |.builtin .delete=>match c.argTypes.toList,c.args.toList with
  |t::_,[x,y]=>QjD T M t (QO env x) (QO env y)
  |_,_=>.no
 |.builtin .clear=>match c.argTypes.toList,c.args.toList with
  |t::_,[x]=>Qop T M t (QO env x)
  |_,_=>.no
 |_=>.no
def Qrw (t:Bool) (x y:SV):SV:=match x,y with
 |.o (.c (.v (.bool a))),.o (.c (.v (.bool b)))=>sv (.bool (bif t then a else b))
 |.o (.c (.v (.int k a))),.o (.c (.v (.int k' b)))=>bif ikE k k' then sv (.int k (bif t then a else b))else bif t then x else y
 |x,y=>bif t then x else y
theorem QmY (ρ:Nat->Nat) (t:Bool) (x y:SV):(Qrw t x y).den ρ=if t then x.den ρ else y.den ρ:=by
 unfold Qrw
 split
 . cases t<;>rfl
 . rename_i k a k' b
   cases hk:ikE k k'
   . cases t<;>rfl
   . obtain rfl:=QdF hk
     cases t<;>rfl
 . cases t<;>rfl
def Ql7 (env:Env):List Operand->Option (List (Nat × Nat))
 |[]=>some []
 |x::r=>match QO env x,Ql7 env r with
  |some (.o (.c (.p b off))),some l=>some ((b,off)::l)
  |_,_=>none
def XM (V:World) (T:Tab) (env:Env) (M:List SB) (nx:Nat):Op->Eff
 |.move x=>match QO env x with
  |some v=>.val none v
  |none=>.no
 |.assign x=>match QO env x with
  |some v=>.val none v
  |none=>.no
 |.pick c a b=>match QO env c,QO env a,QO env b with
  |some (.o (.c (.v (.bool t)))),some va,some vb=>.val none (Qrw t va vb)
  |_,_,_=>.no
 |.alloc t=>QoT T nx t
 |.box t x=>boxS nx t (QO env x)
 |.load t x=>Qng V T M t (QO env x)
 |.store t x y=>Qmp T M t (QO env x) (QO env y)
 |.nilCheck x=>match QO env x with
  |some v=>bif QrE v then .val none v else .no
  |none=>.no
 |.binOp op t x y _=>match QO env x,QO env y with
  |some (.o (.c a)),some (.o (.c b))=>match cmpS T op t (isC x||isC y) a b with
   |some (vc,z)=>.val vc (sv z)
   |none=>.no
  |some (.o (.a l)),some (.o (.a m))=>match cmpA T op t l m with
   |some b=>.val none (sv (.bool b))
   |none=>.no
  |_,_=>.no
 |.unOp op _ x=>match QO env x with
  |some (.o (.c a))=>match unS op a with
   |some z=>.val none (.o (.c z))
   |none=>.no
  |_=>.no
 |.convert s d x=>match QO env x with
  |some (.o (.c a))=>match Qqc T s d a with
   |some z=>.val none (.o (.c z))
   |none=>.no
  |_=>.no
 |.makeInterface t x=>match QO env x with
  |some (.o (.c a))=>match Qkn T t a with
   |some z=>.val none (.o (.c z))
   |none=>.no
  |_=>.no
 |.fieldAddr t x f=>QeJ V T t f (QO env x)
 |.field t x f=>QnX T t f (QO env x)
 |.indexAddr t x i=>QeH V T M t (QO env x) (QO env i)
 |.index t x i=>Qnz T t (QO env x) (QO env i)
 |.extract x i=>match QO env x with
  |some v=>match Qfp v i with
   |some z=>.val none z
   |none=>.no
  |none=>.no
 |.call c=>Qr9 V T env M nx c
 |.build t parts=>Qot T env t parts
 |.buildSlice t len parts=>QdL T env nx t len parts
 |.makeSlice t x y=>QeG T nx t (QO env x) (QO env y)
 |.slice t x lo hi mx=>QmJ V T env t (QO env x) lo hi mx
 |.sliceToArrayPointer t x=>QoN T t (QO env x)
 |.makeMap t r=>Qho T nx t r
 |.insert t m k x=>Qht T M t (QO env m) (QO env k) (QO env x)
 |.mapUpdate t m k x=>Qht T M t (QO env m) (QO env k) (QO env x)
 |.lookup t m k ok=>Qjw T M t ok (QO env m) (QO env k)
 |.makeFunc (.func f) first captured=>bif first.toList.isEmpty then (match Ql7 env captured.toList with
  |some cs=>.val none (.o (.c (.fn f cs)))
  |none=>.no)else .no
 |_=>.no
section
variable {P:Program}{V w:World}{ρ:Nat->Nat}{M:List SB}{nx nt:Nat}{env:Env}{a:Act}{T:Tab}
theorem Qgk (hE:EnvOk ρ nt env a):∀(l:List Operand) (r:List SA),Qi6 env l=some r->l.map a.eval=r.map (SA.den ρ)
 |[],r,h=>by simp only[Qi6,Zn]at h;subst h;rfl
 |x::l,r,h=>by
  simp only[Qi6]at h
  split at h
  . rename_i y m h1 h2
    simp only[Zn]at h;subst h
    simp only[Z4,Qgk hE l m h2,hE.eval h1];rfl
  . cases h
theorem QiW (hE:EnvOk ρ nt env a):∀(l:List Operand) (r:List (Nat × Nat)),Ql7 env l=some r->l.map a.eval=r.map λp=>.pointer (some ⟨ρ p.1,p.2,none⟩)
 |[],r,h=>by simp only[Ql7,Zn]at h;subst h;rfl
 |x::l,r,h=>by
  simp only[Ql7]at h
  split at h
  . rename_i b off m h1 h2
    simp only[Zn]at h;subst h
    simp only[Z4,QiW hE l m h2,hE.eval h1];rfl
  . cases h
theorem Qfa {f:FuncId}{args:Array Value}(h:Qbt P f=true):(callFunc f args).run P w=.ok (.enter f args) w:=by
 unfold Qbt at h
 cases hf:P.funcs[f]? with
 |none=>rw[hf]at h;cases h
 |some fn=>
  rw[hf]at h
  simp only[Zr,YD]at h
  have h1:fn.name≠ "runtime.NumGoroutine":=by simpa using h.1
  obtain⟨c,hb⟩:=Option.isSome_iff_exists.mp h.2
  simp[callFunc,hf,h1,hb]
theorem Qqm (hV:OldV V w) (hT:TabOk P T) (hT2:TysOk P T) (hE:EnvOk ρ nt env a) (c:Call) (ty:TypeId):XW P V ρ M nx w (do let d <- resolve a.eval c ty;invoke d.target d.args) (Qr9 V T env M nx c):=by
 unfold Qr9
 obtain⟨callee,args,argTypes⟩:=c
 dsimp only
 split
 . rename_i f
   split
   . rename_i g fi ca h1
     cases he:(noV fi&&noV ca)
     . trivial
     . simp only[Zr]at he
       obtain rfl:=Qm3 he.1
       obtain rfl:=Qm3 he.2
       dsimp only[cond_true]
       cases h2:Qi6 env args.toList with
       |none=>trivial
       |some l=>
        dsimp only[XW]
        intro hen
        have e1:a.eval f=.func (.func g) #[] #[]:=hE.eval h1
        have e2:args.map a.eval=(l.map (SA.den ρ)).toArray:=by
         apply Zat
         rw[Zba];exact Qgk hE _ _ h2
        simp[resolve,e1,e2,ZdW,invoke,Qfa hen]
   . rename_i g cs h1
     cases h2:Qi6 env args.toList with
     |none=>trivial
     |some l=>
      dsimp only[XW]
      intro hen
      have e1:=hE.eval h1
      simp only[SV.den,SA.den,SC.den]at e1
      have e2:args.map a.eval=(l.map (SA.den ρ)).toArray:=by
       apply Zat
       rw[Zba];exact Qgk hE _ _ h2
      simp[resolve,e1,e2,ZdW,invoke,Qfa hen,SA.den,SC.den,Function.comp_def]
   . trivial
 . split
   . rename_i t x h1 h2
     have ha:argTypes= #[t]:=by apply Zat;exact h1
     have hb:args= #[x]:=by apply Zat;exact h2
     subst ha;subst hb
     split
     . rename_i z e b off n c hl hx
       refine QF λ_ _=>?_
       have e1:a.eval x=_:=hE.eval hx
       have hu:=Qci (hT _ _ hl).1
       simp[resolve,e1,invoke,builtin,Zbj,SV.den,SA.den,SC.den,run_underlying hu,goInt]
     . rename_i z e b n c hl hx
       refine QF λ_ _=>?_
       have e1:a.eval x=_:=hE.eval hx
       have hu:=Qci (hT _ _ hl).1
       simp[resolve,e1,invoke,builtin,Zbj,SV.den,SA.den,SC.den,run_underlying hu,goInt]
     . rename_i z e b n c m sz ks zz hl hx
       refine QF λ_ _=>?_
       have e1:a.eval x=_:=hE.eval hx
       have hu:=Qci (hT _ _ hl).1
       simp[resolve,e1,invoke,builtin,Zbj,SV.den,SA.den,SC.den,run_underlying hu,goInt]
     . rename_i z e b n c hl hx
       refine QF λ_ hv=>?_
       simp only[vcP]at hv
       have e1:a.eval x=(bif c.beq 0 then .slice none 0 0 else .slice (some ⟨ρ b,0,none⟩) n c):=hE.eval hx
       have hu:=Qci (hT _ _ hl).1
       cases hc:c.beq 0
       . rw[hc]at e1
         simp[resolve,e1,invoke,builtin,Zbj,SV.den,SA.den,SC.den,run_underlying hu,goInt]
       . rw[hc]at e1
         have:=Zo hc
         have:n=0:=Za
         simp[resolve,e1,invoke,builtin,Zbj,SV.den,SA.den,SC.den,run_underlying hu,goInt,this]
     . rename_i z e b lo sz n c nn hl hx
       refine QF λ_ hv=>?_
       simp only[vcP]at hv
       have e1:a.eval x=(bif c.beq 0 && !nn then .slice none 0 0 else .slice (some ⟨ρ b,bif (c-lo).beq 0 then 0 else lo*sz,none⟩) n (c-lo)):=hE.eval hx
       have hu:=Qci (hT _ _ hl).1
       cases hc:(c.beq 0 && !nn)
       . rw[hc]at e1
         simp[resolve,e1,invoke,builtin,Zbj,SV.den,SA.den,SC.den,run_underlying hu,goInt]
       . rw[hc]at e1
         simp only[Zr]at hc
         have:=Zo hc.1
         have:n=0:=Za
         simp[resolve,e1,invoke,builtin,Zbj,SV.den,SA.den,SC.den,run_underlying hu,goInt,this]
     . rename_i z s hl hx
       refine QF λ_ _=>?_
       have e1:a.eval x=_:=hE.eval hx
       have hu:=QqK (hT _ _ hl).1
       simp[resolve,e1,invoke,builtin,Zbj,SV.den,SA.den,SC.den,run_underlying hu,goInt]
     . trivial
   . trivial
 . split
   . rename_i x y h2
     have hb:args= #[x,y]:=by apply Zat;exact h2
     subst hb
     split
     . rename_i k p k' q hx hy
       refine QF λ_ _=>?_
       have e1:a.eval x=.int k p:=hE.eval hx
       have e2:a.eval y=.int k' q:=hE.eval hy
       simp[resolve,e1,e2,invoke,builtin,run_min_int2,SV.den,SA.den,SC.den]
     . trivial
   . trivial
 . split
   . rename_i t r x y h1 h2
     have hb:args= #[x,y]:=by apply Zat;exact h2
     subst hb
     have ht:argTypes[0]?=some t:=by rw[<- Zbp,h1];rfl
     have:=Qqb (P:=P) (V:=V) (M:=M) (nx:=nx) (w:=w) hT t argTypes ty ht (x:=QO env x) (y:=QO env y) (λs h=>hE.eval h) (λs h=>hE.eval h)
     simpa [resolve,invoke,builtin] using this
   . trivial
 . split
   . rename_i t t' x y h1 h2
     have hb:args= #[x,y]:=by apply Zat;exact h2
     subst hb
     have ha:argTypes= #[t,t']:=by apply Zat;exact h1
     subst ha
     cases htt:t.beq t'
     . trivial
     . obtain rfl:=Zo htt
       have:=Qma (P:=P) (V:=V) (M:=M) (nx:=nx) (w:=w) hV hT hT2 t ty (x:=QO env x) (y:=QO env y) (λs h=>hE.eval h) (λs h=>hE.eval h)
       simpa [resolve,invoke,builtin] using this
   . trivial
 . split
   . rename_i t r x y h1 h2
     have hb:args= #[x,y]:=by apply Zat;exact h2
     subst hb
     have ht:argTypes[0]?=some t:=by rw[<- Zbp,h1];rfl
     have:=Ql4 (P:=P) (V:=V) (M:=M) (nx:=nx) (w:=w) hT t argTypes ty ht (x:=QO env x) (y:=QO env y) (λs h=>hE.eval h) (λs h=>hE.eval h)
     simpa [resolve,invoke,builtin] using this
   . trivial
 . split
   . rename_i t r x h1 h2
     have hb:args= #[x]:=by apply Zat;exact h2
     subst hb
     have ht:argTypes[0]?=some t:=by rw[<- Zbp,h1];rfl
     have:=Qoo (P:=P) (V:=V) (M:=M) (nx:=nx) (w:=w) hT hT2 t argTypes ty ht (x:=QO env x) (λs h=>hE.eval h)
     simpa [resolve,invoke,builtin] using this
   . trivial
 . trivial
theorem QhE (hV:OldV V w) (hT:TabOk P T) (hT2:TysOk P T) (hE:EnvOk ρ nt env a) (o:Oper):XW P V ρ M nx w (execOp a.eval o) (XM V T env M nx o.op):=by
 unfold execOp
 cases hop:o.op
 all_goals simp only[XM]
 all_goals (try (exact trivial))
 case move x=>
  cases h:QO env x with
  |none=>trivial
  |some v=>exact QF λ_ _=>by rw[hE.eval h];rfl
 case assign x=>
  cases h:QO env x with
  |none=>trivial
  |some v=>exact QF λ_ _=>by rw[hE.eval h];rfl
 case pick c x y=>
  split
  . rename_i t va vb h1 h2 h3
    refine QF λ_ _=>?_
    have e1:a.eval c=.bool t:=hE.eval h1
    simp only[e1,hE.eval h2,hE.eval h3,QmY]
    cases t<;>simp[asBool]
  . trivial
 case makeMap t r=>exact Qju t r
 case mapUpdate t m k x=>exact QgL hT t (λy h=>hE.eval h) (λy h=>hE.eval h) (λy h=>hE.eval h)
 case insert t m k x=>exact QgL hT t (λy h=>hE.eval h) (λy h=>hE.eval h) (λy h=>hE.eval h)
 case lookup t m k ok=>exact Qli hT t ok (λy h=>hE.eval h) (λy h=>hE.eval h)
 case alloc t=>exact QoS hT t
 case box t x=>exact Qsb t (λy h=>hE.eval h)
 case load t x=>exact QpJ hT hV t (λy h=>hE.eval h)
 case store t x y=>exact Qmo hT t (λy h=>hE.eval h) (λy h=>hE.eval h)
 case nilCheck x=>
  cases h:QO env x with
  |none=>trivial
  |some v=>
   dsimp only
   cases hn:QrE v
   . trivial
   . refine QF λ_ _=>?_
     rw[hE.eval h]
     unfold QrE at hn
     split at hn<;>first|rfl|(cases hn;done)
 case binOp op t x y ty=>
  split
  . rename_i p q h1 h2
    cases hc:cmpS T op t (isC x||isC y) p q with
    |none=>trivial
    |some r=>
     obtain⟨vc,z⟩:=r
     refine QF λ_ hv=>?_
     have e1:a.eval x=p.den ρ:=hE.eval h1
     have e2:a.eval y=q.den ρ:=hE.eval h2
     have:=Qqh (P:=P) (w:=w) (ρ:=ρ) hT (u:=x) (v:=y) hc hv
     simp only[e1,e2]
     simp only[Zx]at this ⊢
     cases hg:(eqGuard op t x y (p.den ρ) (q.den ρ)).run P w with
     |ok u w'=>
      rw[hg]at this
      simp only[ZD]at this ⊢
      rw[this];rfl
     |halt h w'=>rw[hg]at this;cases this
  . rename_i l m h1 h2
    cases hc:cmpA T op t l m with
    |none=>trivial
    |some b=>
     refine QF λ_ _=>?_
     have e1:a.eval x=(SA.a l).den ρ:=hE.eval h1
     have e2:a.eval y=(SA.a m).den ρ:=hE.eval h2
     have:=Qqj (P:=P) (w:=w) (ρ:=ρ) hT hT2 (u:=x) (v:=y) hc
     simp only[e1,e2]
     simp only[Zx]at this ⊢
     cases hg:(eqGuard op t x y ((SA.a l).den ρ) ((SA.a m).den ρ)).run P w with
     |ok u w'=>
      rw[hg]at this
      simp only[ZD]at this ⊢
      rw[this];rfl
     |halt h w'=>rw[hg]at this;cases this
  . trivial
 case unOp op t x=>
  split
  . rename_i p h1
    cases hu:unS op p with
    |none=>trivial
    |some z=>
     refine QF λ_ _=>?_
     have e1:a.eval x=p.den ρ:=hE.eval h1
     simp only[e1,Zx,Qrj hu,ZD,ZZ];rfl
  . trivial
 case convert s d x=>
  split
  . rename_i p h1
    cases hu:Qqc T s d p with
    |none=>trivial
    |some z=>
     refine QF λ_ _=>?_
     have e1:a.eval x=p.den ρ:=hE.eval h1
     simp only[e1,Zx,Qof hT hu,ZD,ZZ];rfl
  . trivial
 case makeInterface t x=>
  split
  . rename_i p h1
    cases hu:Qkn T t p with
    |none=>trivial
    |some z=>
     refine QF λ_ _=>?_
     have e1:a.eval x=p.den ρ:=hE.eval h1
     simp only[e1,Zx,QlN hT hu,ZD,ZZ];rfl
  . trivial
 case fieldAddr t x f=>exact QhD hT t f (λy h=>hE.eval h)
 case field t x f=>exact QnW hT hT2 t f (λy h=>hE.eval h)
 case indexAddr t x i=>exact Qhv hT t (λy h=>hE.eval h) (λy h=>hE.eval h)
 case index t x i=>exact Qny hT hT2 t (λy h=>hE.eval h) (λy h=>hE.eval h)
 case extract x i=>
  cases h:QO env x with
  |none=>trivial
  |some v=>
   dsimp only
   cases h2:Qfp v i with
   |none=>trivial
   |some z=>
    refine QF λ_ _=>?_
    simp only[hE.eval h,Zx,QiH h2,ZD,ZZ]
 case call c=>exact Qqm hV hT hT2 hE c o.type
 case build t parts=>exact Qos hT hT2 hE t parts
 case buildSlice t len parts=>exact Qgy hT hT2 hE t len parts
 case makeSlice t x y=>exact Qhm hT hT2 t (λy h=>hE.eval h) (λy h=>hE.eval h)
 case sliceToArrayPointer t x=>exact QoM hT hE t x
 case slice t x lo hi mx=>exact QmI hT hE t x lo hi mx
 case makeFunc fn first captured=>
  cases fn
  case func f=>
   dsimp only
   cases hf:first.toList.isEmpty
   . trivial
   . dsimp only[cond_true]
     cases hc:Ql7 env captured.toList with
     |none=>trivial
     |some cs=>
      refine QF λ_ _=>?_
      have h1:first= #[]:=by apply Zat;simpa using hf
      have h2:captured.map a.eval=(cs.map λp=>Value.pointer (some ⟨ρ p.1,p.2,none⟩)).toArray:=by
       apply Zat
       rw[Zba];exact QiW hE _ _ hc
      subst h1
      simp[Instr.makeFunc,h2,SV.den,SA.den,SC.den]
  all_goals trivial
end
end
end Go.Proofs.YtlafaaeecnifcaaGreatDoor
