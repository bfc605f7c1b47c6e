/- What the proof leans on, gathered. -/
import Derived.Orders
import Derived.Laws.Entries
import Derived.Test.YthenelknbfjpeaaDoorProg
import Derived.Lib.IndexMore
import Derived.Lib.AtoiAll
import Derived.Lib.ItoaNum
import Derived.Test.YthenelknbfjpeaaDoorShl
import Derived.Lib.LaidTab
import Derived.Lib.AppendIntMem
import Derived.Lib.Hide
import Derived.Test.YthenelknbfjpeaaDoorRows
import Derived.ChangeVars
import Derived.RowKit
import Derived.LaidLaws
import Derived.LaidSub
import Derived.LaidHandle
import Derived.Lay
import Derived.HandedShaped
import Derived.Deep.Slices
import Derived.Deep.Fields
import Derived.ChangeSame
import Derived.ProofKit
import Derived.WideShapes
import Derived.Test.YthenelknbfjpeaaDoorZK1
namespace Go.Proofs.YthenelknbfjpeaaDoor
set_option linter.unusedVariables false
set_option maxRecDepth 100000
set_option maxHeartbeats 8000000
section
open Go.RowKit
def SC.ren (f:Nat->Nat):SC->SC
 |.p b off=>.p (f b) off
 |.e b off ix=>.e (f b) off ix
 |.s b off n c=>.s (f b) off n c
 |.i t b off=>.i t (f b) off
 |.o b n c=>.o (f b) n c
 |.er b sz ix g=>.er (f b) sz ix g
 |.so b lo sz n c nn=>.so (f b) lo sz n c nn
 |.fn g cs=>.fn g (cs.map fun q=>(f q.1,q.2))
 |.m b=>.m (f b)
 |x=>x
def Seg.ren (f:Nat->Nat):Seg->Seg
 |.one x=>.one (x.ren f)
 |s=>s
def SA.ren (f:Nat->Nat):SA->SA
 |.c x=>.c (x.ren f)
 |.a l=>.a (l.map (Seg.ren f))
def SV.ren (f:Nat->Nat):SV->SV
 |.o x=>.o (x.ren f)
 |.t l=>.t (l.map (SA.ren f))
def SB.ren (f:Nat->Nat):SB->SB
 |.cells l t=>.cells (l.map (Seg.ren f)) t
 |b=>b
theorem SC.ren_den (ρ:Nat->Nat) (f:Nat->Nat) (x:SC):(x.ren f).den ρ=x.den (fun i=>ρ (f i)):=by
 cases x with
 |fn g cs=>simp only[SC.ren,SC.den,List.map_map];rfl
 |_=>rfl
theorem Qbg (ρ:Nat->Nat) (f:Nat->Nat):∀(l:List Seg),Qa ρ (l.map (Seg.ren f))=Qa (fun i=>ρ (f i)) l
 |[]=>rfl
 |.one x::r=>by simp only[List.map_cons,Qa,Seg.ren,Seg.den,SC.ren_den,Qbg ρ f r]
 |.ints k n g::r=>by simp only[List.map_cons,Qa,Seg.ren,Seg.den,Qbg ρ f r]
theorem SA.ren_den (ρ:Nat->Nat) (f:Nat->Nat) (x:SA):(x.ren f).den ρ=x.den (fun i=>ρ (f i)):=by
 cases x with
 |c x=>exact SC.ren_den ρ f x
 |a l=>simp only[SA.ren,SA.den,Qbg]
theorem SV.ren_den (ρ:Nat->Nat) (f:Nat->Nat) (x:SV):(x.ren f).den ρ=x.den (fun i=>ρ (f i)):=by
 cases x with
 |o x=>exact SA.ren_den ρ f x
 |t l=>simp only[SV.ren,SV.den,List.map_map];congr 2;exact List.map_congr_left fun y _=>SA.ren_den ρ f y
theorem SB.ren_den (ρ:Nat->Nat) (f:Nat->Nat) (i:Nat) (x:SB):denB ρ (f i) (x.ren f)=denB (fun i=>ρ (f i)) i x:=by
 cases x with
 |cells l t=>simp only[SB.ren,denB,Qbg]
 |_=>rfl
def ofL (π:List Nat):Nat->Nat:=fun i=>π.getD i 0
structure PCon where
 pre:List SA->Prop
 val:List SA->SV
 two:List SA->Option (Bool × SV)
structure MCon where
 σ:Type
 χ:Type
 pre:σ->Prop
 args:σ->List SA
 mem:σ->List SB
 ok:σ->χ->Prop
 val:σ->χ->SV
 mem':σ->χ->List SB
 k:Nat
 len:Nat
 det:Option χ
 find:List SA->List SB->Option (List Nat)
structure RCon where
 σ:Type
 χ:Type
 pre:σ->Prop
 args:σ->List SA
 mem:σ->List SB
 ok:σ->χ->Prop
 val:σ->χ->SV
 new:σ->χ->List SB
 len:Nat
 det:Option χ
 find:List SA->List SB->Option (List Nat)
inductive Con where
 |pure (c:PCon)
 |mem (c:MCon)
 |rd (c:RCon)
 |inl (fn:Func) (c:Code)
def PCon.out (c:PCon) (args:List SA):SV:=match c.two args with
 |none=>c.val args
 |some (b,v)=>bif b then c.val args else v
abbrev Gam:=List (Nat × Con)
def lkG:Gam->Nat->Option Con
 |[],_=>none
 |(t,i)::r,u=>bif t.beq u then some i else lkG r u
def isNo {α:Type}:Option α->Bool
 |none=>true
 |some _=>false
def Qgn (args:List SA):Con->Bool
 |.mem c=>!isNo (c.find args [])
 |.rd c=>!isNo (c.find args [])
 |_=>true
def lkG1:Gam->Nat->List SA->Option Con
 |[],_,_=>none
 |(t,i)::r,u,a=>bif t.beq u&&Qgn a i then some i else lkG1 r u a
def lkGA (Γ:Gam) (u:Nat) (a:List SA):Option Con:=match lkG1 Γ u a with
 |some c=>some c
 |none=>lkG Γ u
def Con.holdsAt (P:Program) (w0:World) (S:Nat->Prop) (f:FuncId):Con->Prop
 |.pure c=>XR P f=true/\∀(ρ:Nat->Nat) (args:List SA) (w:World),c.pre args->Kept S w0 w ->
  Calls P f (args.map (SA.den ρ)).toArray w fun e w'=>e=.returned ((c.out args).den ρ)/\Below w.heap.size w w'
 |.mem c=>XR P f=true/\(∀x0,c.det=some x0->∀s x,x=x0/\c.ok s x0)/\∀(ρ:Nat->Nat) (s:c.σ) (w:World),c.pre s->Kept S w0 w->Mem w (feet (denM ρ 0 (c.mem s))) (denM ρ 0 (c.mem s)) w ->
  Calls P f ((c.args s).map (SA.den ρ)).toArray w fun e w'=>∃x ρ',c.ok s x/\(∀i,i<c.k->ρ' i=ρ i)/\(c.mem' s x).length=c.len/\e=.returned ((c.val s x).den ρ')/\Mem w (feet (denM ρ 0 (c.mem s))) (denM ρ' 0 (c.mem' s x)) w'
 |.rd c=>XR P f=true/\(∀x0,c.det=some x0->∀s x,x=x0/\c.ok s x0)/\∀(ρ:Nat->Nat) (s:c.σ) (w:World),c.pre s->Kept S w0 w->(∀e∈denM ρ 0 (c.mem s),e.at w) ->
  Calls P f ((c.args s).map (SA.den ρ)).toArray w fun e w'=>∃x ρ',c.ok s x/\(∀i,i<(c.mem s).length->ρ' i=ρ i)/\(c.new s x).length=c.len/\e=.returned ((c.val s x).den ρ')/\Mem w (fun _=>False) (denM ρ' (c.mem s).length (c.new s x)) w'
 |.inl fn c=>XR P f=true/\P.funcs[f]?=some fn/\fn.body=some c
def GamOk (P:Program) (w0:World) (S:Nat->Prop) (Γ:Gam):Prop:=∀f a c,lkGA Γ f a=some c->c.holdsAt P w0 S f
theorem GamOk.nil (P:Program) (w0:World) (S:Nat->Prop):GamOk P w0 S []:=fun _ _ _ h=>by simp[lkGA,lkG1,lkG]at h
theorem GamOk.cons {P:Program}{w0:World}{S:Nat->Prop}{f:Nat}{c:Con}{Γ:Gam}(h:c.holdsAt P w0 S f) (hΓ:GamOk P w0 S Γ):GamOk P w0 S ((f,c)::Γ):=fun u a j hj=>by
 unfold lkGA at hj
 simp only[lkG1,lkG]at hj
 cases hw:(f.beq u&&Qgn a c)
 · rw[hw]at hj
   simp only[cond_false]at hj
   cases h1:lkG1 Γ u a with
   |some d=>
    rw[h1]at hj
    exact hΓ u a j (by unfold lkGA;rw[h1];exact hj)
   |none=>
    rw[h1]at hj
    dsimp only at hj
    cases hb:f.beq u
    · rw[hb]at hj
      exact hΓ u a j (by unfold lkGA;rw[h1];exact hj)
    · rw[hb]at hj
      have:=Nat.eq_of_beq_eq_true hb
      subst this
      simp only[cond_true,Option.some.injEq]at hj;subst hj;exact h
 · rw[hw]at hj
   simp only[Bool.and_eq_true]at hw
   have:=Nat.eq_of_beq_eq_true hw.1
   subst this
   simp only[cond_true,Option.some.injEq]at hj;subst hj;exact h
def Con.holds (P:Program) (f:FuncId) (c:Con):Prop:=∀w0 S,c.holdsAt P w0 S f
def Qy (nx:Nat):Nat->List Nat
 |0=>[]
 |n+1=>nx::Qy (nx+1) n
def nodB:List Nat->Bool
 |[]=>true
 |b::r=>r.all (fun c=>!c.beq b)&&nodB r
theorem QY {l:List Nat}(h:nodB l=true):l.Nodup:=by
 induction l with
 |nil=>exact List.nodup_nil
 |cons b r ih=>
  simp only[nodB,Bool.and_eq_true,List.all_eq_true]at h
  refine List.nodup_cons.2 ⟨fun hb=>?_,ih h.2⟩
  have:=h.1 b hb
  simp at this
def Qbe (n:Nat):List Nat->Bool
 |[]=>true
 |b::r=>b.blt n&&Qbe n r
def QeG {α:Type}:Nat->List α->List α
 |0,_=>[]
 |_,[]=>[]
 |n+1,b::r=>b::QeG n r
def Qf5 {α:Type}:Nat->List α->List α
 |0,l=>l
 |_,[]=>[]
 |n+1,_::r=>Qf5 n r
def QdK:Nat->List SB
 |0=>[]
 |n+1=>.gone::QdK n
def zipB:List Nat->List SB->Ups
 |b::r,x::s=>(b,x)::zipB r s
 |_,_=>[]
def QX (p:Nat->Bool):List SB->Bool
 |[]=>true
 |b::r=>b.av p&&QX p r
def conW (c:MCon) (π:List Nat) (nx:Nat):List Nat:=π++Qy nx (c.len-c.k)
def QdQ (c:MCon) (π:List Nat) (nx:Nat):List Nat:=QeG c.k π++Qy nx (c.len-c.k)
def conB (c:MCon) (π:List Nat) (nx:Nat) (m:List SB):List SB:=
 (QeG c.k m++(QdK (π.length-c.k)++Qf5 c.k m)).map (SB.ren (ofL (QdQ c π nx)))
def rwE (Γ:Gam) (M:List SB):Eff->List Nat × List Nat × Bool
 |.eff T _ _ us=>(T,us.map (·.1),false)
 |.any _ T _ _ _ W _=>(T,W,true)
 |.call f args=>match lkGA Γ f args with
  |some (.mem c)=>match c.find args M with
   |some π=>([],conW c π M.length,isNo c.det)
   |none=>([],[],true)
  |some (.rd c)=>match c.find args M with
   |some π=>(π,Qy M.length c.len,isNo c.det)
   |none=>([],[],true)
  |_=>([],[],false)
 |.no=>([],[],false)
def Qbs (o:Oper):Prop:=False
def Xy (Γ:Gam) (M:List SB) (o:Oper) (K:SV->Ups->Prop):Eff->Prop
 |.eff T vc x us=>QeF vc (bif nodB (us.map (·.1))then K x us else False)
 |.any χ T vc ok x W bs=>QeF vc (bif nodB W then ∀c:χ,ok c->K (x c) (zipB W (bs c))else False)
 |.call f args=>match lkGA Γ f args with
  |some (.pure c)=>c.pre args/\match c.two args with
   |none=>K (c.val args) []
   |some (b,v)=>bif b then K (c.val args) []else K v []
  |some (.mem c)=>match c.find args M with
   |some π=>bif nodB π&&Qbe M.length π&&c.k.ble π.length&&c.k.ble c.len then
    ∃s:c.σ,args=(c.args s).map (SA.ren (ofL π))/\π.map (getB M)=(c.mem s).map (SB.ren (ofL π))/\c.pre s /\
     ∀x:c.χ,c.ok s x->bif (c.mem' s x).length.beq c.len&&QX (sc c.len) (c.mem' s x)&&(c.val s x).av (sc c.len)then K ((c.val s x).ren (ofL (QdQ c π M.length))) (zipB (conW c π M.length) (conB c π M.length (c.mem' s x)))else False else False
   |none=>Qbs o
  |some (.rd c)=>match c.find args M with
   |some π=>bif Qbe M.length π then
    ∃s:c.σ,args=(c.args s).map (SA.ren (ofL π))/\π.map (getB M)=(c.mem s).map (SB.ren (ofL π))/\c.pre s /\
     ∀x:c.χ,c.ok s x->bif (c.new s x).length.beq c.len&&QX (sc (π.length+c.len)) (c.new s x)&&(c.val s x).av (sc (π.length+c.len))then
      K ((c.val s x).ren (ofL (π++Qy M.length c.len))) (zipB (Qy M.length c.len) ((c.new s x).map (SB.ren (ofL (π++Qy M.length c.len)))))else False else False
   |none=>Qbs o
  |some (.inl fn c)=>Qbs o
  |none=>Qbs o
 |.no=>Qbs o
def Does (P:Program) (r:Result Next) (K:Value->World->Prop):Prop:=match r with
 |.ok (.value v) w'=>K v w'
 |.ok .skip w'=>K undef w'
 |.ok (.enter f args) w'=>Calls P f args w' fun e w''=>∃v,e=.returned v/\K v w''
 |_=>False
theorem Does.mono {P:Program}{r:Result Next}{K K':Value->World->Prop}(h:Does P r K) (hk:∀v w,K v w->K' v w):Does P r K':=by
 unfold Does at h ⊢
 split at h
 · exact hk _ _ h
 · exact hk _ _ h
 · exact h.mono fun e w'' ⟨v,he,hv⟩=>⟨v,he,hk _ _ hv⟩
 · exact h.elim
theorem QaP {P:Program}{o:Oper}{a:Act}{w:World}{next:Act->World->Prop}{Q:Exit->Act->World->Prop}(h:Does P ((execOp a.eval o).run P w) (fun v w'=>next (a.put o.dst v) w')):o.wp P a w next Q:=by
 unfold Oper.wp
 generalize (execOp a.eval o).run P w=r at h
 unfold Does at h
 split at h
 · exact h
 · exact h
 · exact h.mono fun e w'' ⟨v,he,hv⟩=>by subst he;exact hv
 · exact h.elim
theorem Does.of_res {P:Program}{w w':World}{r:Sem Next}{v:Value}{K:Value->World->Prop}(h:Res P w r v w') (hk:K v w'):Does P (r.run P w) K:=by
 obtain⟨n,hr,hn⟩:=h
 rw[hr]
 rcases hn with rfl|⟨rfl,rfl⟩
 · exact hk
 · exact hk
theorem XW:∀(W:List Nat) (bs:List SB),bs.length=W.length->(zipB W bs).map (·.1)=W
 |[],_,_=>rfl
 |b::r,[],h=>by simp at h
 |b::r,x::s,h=>by simp only[zipB,List.map_cons];rw[XW r s (by simpa using h)]
theorem XV:∀(W:List Nat) (bs:List SB),zipB W bs=W.zip bs
 |[],_=>by simp[zipB]
 |b::r,[]=>rfl
 |b::r,x::s=>by simp only[zipB,List.zip_cons_cons,XV r s]
theorem Xx {α:Type}:∀(n:Nat) (l:List α),QeG n l=l.take n
 |0,l=>by cases l<;>rfl
 |n+1,[]=>rfl
 |n+1,b::r=>by simp only[QeG,List.take_succ_cons,Xx n r]
theorem Qbk {α:Type}:∀(n:Nat) (l:List α),Qf5 n l=l.drop n
 |0,l=>by cases l<;>rfl
 |n+1,[]=>rfl
 |n+1,b::r=>by simp only[Qf5,List.drop_succ_cons,Qbk n r]
theorem Xb:∀(n nx:Nat),(Qy nx n).length=n/\∀i,i<n->(Qy nx n)[i]?=some (nx+i)
 |0,nx=>⟨rfl,fun i h=>by omega⟩
 |n+1,nx=>by
  obtain⟨h1,h2⟩:=Xb n (nx+1)
  refine⟨by simp[Qy,h1],fun i hi=>?_⟩
  cases i with
  |zero=>rfl
  |succ i=>simp only[Qy,List.getElem?_cons_succ,h2 i (by omega)];congr 1;omega
theorem Xs {n nx b:Nat}(h:b∈Qy nx n):nx<=b/\b<nx+n:=by
 induction n generalizing nx with
 |zero=>simp[Qy]at h
 |succ n ih=>
  simp only[Qy,List.mem_cons]at h
  rcases h with rfl|h
  · omega
  · have:=ih h;omega
theorem QH:∀(n nx:Nat),(Qy nx n).Nodup
 |0,_=>List.nodup_nil
 |n+1,nx=>List.nodup_cons.2 ⟨fun h=>by have:=(Xs h).1;omega,QH n (nx+1)⟩
theorem zip3 (π fr:List Nat) (k:Nat) (A G B:List SB) (hA:A.length=k) (hk:k<=π.length) (hG:G.length=π.length-k):
 (π++fr).zip (A++(G++B))=(π.take k).zip A++((π.drop k).zip G++fr.zip B):=by
 have e:π++fr=π.take k++(π.drop k++fr):=by rw[<- List.append_assoc,List.take_append_drop]
 rw[e,List.zip_append (by simp;omega),List.zip_append (by simp;omega)]
theorem QaI:∀n,(QdK n).length=n
 |0=>rfl
 |n+1=>by simp[QdK,QaI n]
theorem Xv {n:Nat}:∀ {l:List Nat},Qbe n l=true->∀b∈l,b<n
 |[],_,b,h=>by simp at h
 |c::r,h,b,hb=>by
  simp only[Qbe,Bool.and_eq_true]at h
  rcases List.mem_cons.1 hb with rfl|hb
  · exact Qt h.1
  · exact Xv h.2 b hb
theorem Qaz (ρ:Nat->Nat):∀(us vs:Ups),denU ρ (us++vs)=denU ρ us++denU ρ vs
 |[],_=>rfl
 |(b,x)::r,vs=>by simp only[List.cons_append,denU,Qaz ρ r vs,List.append_assoc]
theorem Qdj (ρ:Nat->Nat) (f:Nat->Nat):∀(W:List Nat) (n:Nat),denU ρ (W.zip ((QdK n).map (SB.ren f)))=[]
 |[],_=>by simp[denU]
 |b::r,0=>by simp[QdK,denU]
 |b::r,n+1=>by simp only[QdK,List.map_cons,List.zip_cons_cons,denU,SB.ren,denB,Qdj ρ f r n,List.nil_append]
theorem Qbl {ρ ρ':Nat->Nat}{f:Nat->Nat}{n:Nat}(hf:∀i,i<n->ρ (f i)=ρ' i):∀(m:List SB) (W:List Nat) (k:Nat),(∀i,i<m.length->W[i]?=some (f (k+i)))->k+m.length<=n->QX (sc n) m=true ->
 denU ρ (W.zip (m.map (SB.ren f)))=denM ρ' k m
 |[],W,k,_,_,_=>by simp[denU,denM]
 |x::r,[],k,h,_,_=>by have:=h 0 (by simp);simp at this
 |x::r,b::W,k,h,hn,ha=>by
  have h0:=h 0 (by simp)
  simp only[List.getElem?_cons_zero,Option.some.injEq,Nat.add_zero]at h0
  subst h0
  simp only[List.length_cons]at hn
  simp only[QX,Bool.and_eq_true]at ha
  simp only[List.map_cons,List.zip_cons_cons,denU,denM]
  rw[SB.ren_den,SB.av_den (p:=sc n) (ρ:=ρ') (ρ':=fun i=>ρ (f i)) (fun i hi=>hf i (Qt hi)) (show sc n k=true from QU (by omega)) ha.1,
   Qbl hf r W (k+1) (fun i hi=>by have:=h (i+1) (by simpa using hi);rw[List.getElem?_cons_succ]at this;rw[this];congr 2;omega) (by omega) ha.2]
theorem QcX {p:Nat->Bool}:∀ {l m:List SB},QX p (l++m)=(QX p l&&QX p m)
 |[],m=>by simp[QX]
 |b::r,m=>by simp only[List.cons_append,QX,QcX (l:=r),Bool.and_assoc]
theorem Qd9 (ρ:Nat->Nat):∀(l m:List SB) (k:Nat),denM ρ k (l++m)=denM ρ k l++denM ρ (k+l.length) m
 |[],m,k=>by simp[denM]
 |b::r,m,k=>by simp only[List.cons_append,denM,Qd9 ρ r m (k+1),List.length_cons,List.append_assoc];congr 3;omega
theorem Qbm {ρ:Nat->Nat}{M:List SB}:∀(π:List Nat) (m:List SB) (f:Nat->Nat) (k:Nat),(∀i,i<π.length->π[i]?=some (f (k+i)))->π.map (getB M)=m.map (SB.ren f)->denT ρ M π=denM (fun i=>ρ (f i)) k m
 |[],m,f,k,_,h=>by
  have:m=[]:=by cases m<;>simp_all
  subst this;rfl
 |b::r,[],f,k,_,h=>by simp at h
 |b::r,x::s,f,k,hp,h=>by
  simp only[List.map_cons,List.cons.injEq]at h
  have h0:=hp 0 (by simp)
  simp only[List.getElem?_cons_zero,Option.some.injEq,Nat.add_zero]at h0
  simp only[denT,denM]
  rw[h.1,h0,SB.ren_den,Qbm r s f (k+1) (fun i hi=>by have:=hp (i+1) (by simpa using hi);rw[List.getElem?_cons_succ]at this;rw[this];congr 2;omega) h.2]
section
variable {P:Program}{V w0 w:World}{S:Nat->Prop}{ρ:Nat->Nat}{M:List SB}{Γ:Gam}{o:Oper}{K:SV->Ups->Prop}{r:Sem Next}
def Left (P:Program) (ρ:Nat->Nat) (M:List SB) (w:World) (r:Sem Next) (W:List Nat) (K:SV->Ups->Prop):Prop:=
 Does P (r.run P w) fun v w'=>∃x us ρ',K x us/\us.map (·.1)=W/\W.Nodup/\(∀i,(i<M.length\/i∉W)->ρ' i=ρ i)/\v=x.den ρ'/\Mem w (feet (denT ρ M W)) (denU ρ' us) w'
theorem Qco (hΓ:GamOk P w0 S Γ) (hK:Kept S w0 w) {e:Eff}(hE:QD P V ρ M M.length w r e) (hR:∀b∈(rwE Γ M e).1,∀x∈denB ρ b (getB M b),x.at w) (hW:Mem w (feet (denT ρ M (rwE Γ M e).2.1)) (denT ρ M (rwE Γ M e).2.1) w)
 (h:Xy Γ M o K e):Left P ρ M w r (rwE Γ M e).2.1 K:=by
 cases e with
 |eff T vc x us=>
  simp only[Xy]at h
  obtain⟨h1,h2⟩:=Q1.1 h
  cases hn:nodB (us.map (·.1))
  · rw[hn]at h2;exact h2.elim
  · rw[hn]at h2
    obtain⟨w',ρ',g1,g2,g3⟩:=hE hR hW h1
    exact Does.of_res g2 ⟨x,us,ρ',h2,rfl,QY hn,g1,rfl,g3⟩
 |any χ T vc ok x W bs=>
  simp only[Xy]at h
  obtain⟨h1,h2⟩:=Q1.1 h
  cases hn:nodB W
  · rw[hn]at h2;exact h2.elim
  · rw[hn]at h2
    obtain⟨c,hc,hl,w',ρ',g1,g2,g3⟩:=hE hR hW h1
    have hz:=XW W (bs c) hl
    rw[XV]at hz
    rw[hz]at g1 g3
    exact Does.of_res g2 ⟨x c,zipB W (bs c),ρ',h2 c hc,by rw[XV];exact hz,QY hn,g1,rfl,by rw[XV];exact g3⟩
 |call f args=>
  simp only[Xy]at h
  cases hl:lkGA Γ f args with
  |none=>rw[hl]at h;exact h.elim
  |some c=>
   rw[hl]at h
   have hc:=hΓ f args c hl
   cases c with
   |inl fn c=>exact h.elim
   |pure c=>
    obtain⟨hen,hc⟩:=hc
    have hr:=hE hen
    dsimp only at h
    have hw:(rwE Γ M (.call f args)).2.1=[]:=by simp only[rwE,hl]
    rw[hw]
    unfold Left
    rw[hr]
    refine (hc ρ args w h.1 hK).mono ?_
    rintro e w' ⟨rfl,hb⟩
    refine⟨_,rfl,c.out args,[],ρ,?_,rfl,List.nodup_nil,fun _ _=>rfl,rfl,⟨Kept.of_below hb,by simp[denU],by simp[denU],List.Pairwise.nil⟩⟩
    have h2:=h.2
    unfold PCon.out
    cases ht:c.two args with
    |none=>rw[ht]at h2;exact h2
    |some bv=>
     obtain⟨b,v⟩:=bv
     rw[ht]at h2
     cases b<;>exact h2
   |rd c=>
    obtain⟨hen,hdet,hc⟩:=hc
    have hr:=hE hen
    dsimp only at h
    cases hp:c.find args M with
    |none=>rw[hp]at h;exact h.elim
    |some π=>
     rw[hp]at h
     dsimp only at h
     cases hck:Qbe M.length π
     · rw[hck]at h;exact h.elim
     · rw[hck]at h
       simp only[cond_true]at h
       have k2:=Xv hck
       obtain⟨s,ha,hm,hpre,hK2⟩:=h
       have hw:(rwE Γ M (.call f args)).2.1=Qy M.length c.len:=by simp only[rwE,hl,hp]
       have hrd:(rwE Γ M (.call f args)).1=π:=by simp only[rwE,hl,hp]
       rw[hrd]at hR
       rw[hw]at hW ⊢
       have hfr:denT ρ M (Qy M.length c.len)=[]:=by
        rw[Xd]
        exact List.flatMap_eq_nil_iff.2 fun b hb=>by rw[QaK M b (Xs hb).1];rfl
       have hml:(c.mem s).length=π.length:=by have:=congrArg List.length hm;simpa using this.symm
       have hmem:denT ρ M π=denM (fun i=>ρ (ofL π i)) 0 (c.mem s):=Qbm π (c.mem s) (ofL π) 0 (fun i hi=>by
        rw[Nat.zero_add,List.getElem?_eq_getElem hi];simp[ofL,List.getD_eq_getElem?_getD,hi]) hm
       have hcall:=hc (fun i=>ρ (ofL π i)) s w hpre hK (fun e he=>by
        rw[<- hmem,Xd,List.mem_flatMap]at he
        obtain⟨b,hb,he⟩:=he
        exact hR b hb e he)
       have hargs:((c.args s).map (SA.den fun i=>ρ (ofL π i)))=args.map (SA.den ρ):=by
        rw[ha,List.map_map];exact List.map_congr_left fun y _=>(SA.ren_den ρ (ofL π) y).symm
       rw[hargs]at hcall
       unfold Left
       rw[hr]
       refine hcall.mono ?_
       rintro e w' ⟨x,ρc,hok,hag,hlen,rfl,HM⟩
       have hK3:=hK2 x hok
       cases hsc:((c.new s x).length.beq c.len&&QX (sc (π.length+c.len)) (c.new s x)&&(c.val s x).av (sc (π.length+c.len)))
       · rw[hsc]at hK3;exact hK3.elim
       · rw[hsc]at hK3
         simp only[cond_true]at hK3
         simp only[Bool.and_eq_true]at hsc
         obtain⟨f1,f2⟩:=Xb c.len M.length
         let ρ2:Nat->Nat:=fun j=>if M.length<=j/\j<M.length+c.len then ρc (π.length+(j-M.length))else ρ j
         have hold:∀j,j<M.length->ρ2 j=ρ j:=fun j hj=>if_neg (by omega)
         have hpi:∀i,i<π.length+c.len->ρ2 (ofL (π++Qy M.length c.len) i)=ρc i:=by
          intro i hi
          unfold ofL
          rw[List.getD_eq_getElem?_getD]
          by_cases h1:i<π.length
          · rw[List.getElem?_append_left h1,List.getElem?_eq_getElem h1]
            simp only[Option.getD_some]
            rw[hold _ (k2 _ (List.getElem_mem h1)),hag i (by omega)]
            simp[ofL,List.getD_eq_getElem?_getD,h1]
          · rw[List.getElem?_append_right (by omega),f2 _ (by omega)]
            simp only[Option.getD_some]
            show (if M.length<=M.length+(i-π.length)/\M.length+(i-π.length)<M.length+c.len then ρc (π.length+(M.length+(i-π.length)-M.length))else _)=_
            rw[if_pos (by omega)];congr 1;omega
         have hval:((c.val s x).ren (ofL (π++Qy M.length c.len))).den ρ2=(c.val s x).den ρc:=by
          rw[SV.ren_den]
          exact SV.av_den (p:=sc (π.length+c.len)) (fun i hi=>hpi i (Qt hi)) hsc.2
         refine⟨_,rfl,_,_,ρ2,hK3,XW _ _ (by rw[List.length_map,hlen,f1]),QH _ _,?_,hval.symm,?_⟩
         · intro i hi
           rcases hi with hi|hi
           · exact hold i hi
           · refine if_neg (fun hh=>hi ?_)
             refine List.mem_of_getElem? (f2 (i-M.length) (by omega) |>.trans ?_)
             congr 1;omega
         · rw[hfr,XV,Qbl hpi (c.new s x) _ π.length (fun i hi=>by
            rw[f2 i (by omega)]
            unfold ofL
            rw[List.getD_eq_getElem?_getD,List.getElem?_append_right (by omega),show π.length+i-π.length=i by omega,f2 i (by omega)];rfl) (by omega) hsc.1.2,<- hml]
           exact HM.subset (fun _ h=>h.elim)
   |mem c=>
    obtain⟨hen,hdet,hc⟩:=hc
    have hr:=hE hen
    dsimp only at h
    cases hp:c.find args M with
    |none=>rw[hp]at h;exact h.elim
    |some π=>
     rw[hp]at h
     dsimp only at h
     cases hck:(nodB π&&Qbe M.length π&&c.k.ble π.length&&c.k.ble c.len)
     · rw[hck]at h;exact h.elim
     · rw[hck]at h
       simp only[cond_true]at h
       simp only[Bool.and_eq_true]at hck
       obtain⟨⟨⟨k1,k2⟩,k3⟩,k4⟩:=hck
       have k3:=QL k3
       have k4:=QL k4
       have k2:=Xv k2
       have k1:=QY k1
       obtain⟨s,ha,hm,hpre,hK2⟩:=h
       have hw:(rwE Γ M (.call f args)).2.1=conW c π M.length:=by simp only[rwE,hl,hp]
       rw[hw]at hW ⊢
       have hfr:∀b,b∈Qy M.length (c.len-c.k)->denB ρ b (getB M b)=[]:=fun b hb=>by rw[QaK M b (Xs hb).1];rfl
       have hTW:denT ρ M (conW c π M.length)=denT ρ M π:=by
        have:∀(l m:List Nat),(∀b∈m,denB ρ b (getB M b)=[])->denT ρ M (l++m)=denT ρ M l:=by
         intro l m hm
         rw[Xd,Xd,List.flatMap_append]
         have:m.flatMap (fun b=>denB ρ b (getB M b))=[]:=List.flatMap_eq_nil_iff.2 hm
         rw[this,List.append_nil]
        exact this _ _ hfr
       have hmem:denT ρ M π=denM (fun i=>ρ (ofL π i)) 0 (c.mem s):=Qbm π (c.mem s) (ofL π) 0 (fun i hi=>by
        rw[Nat.zero_add,List.getElem?_eq_getElem hi];simp[ofL,List.getD_eq_getElem?_getD,hi]) hm
       rw[hTW,hmem]at hW
       have hcall:=hc (fun i=>ρ (ofL π i)) s w hpre hK hW
       have hargs:((c.args s).map (SA.den fun i=>ρ (ofL π i)))=args.map (SA.den ρ):=by
        rw[ha,List.map_map];exact List.map_congr_left fun y _=>(SA.ren_den ρ (ofL π) y).symm
       rw[hargs]at hcall
       unfold Left
       rw[hr]
       refine hcall.mono ?_
       rintro e w' ⟨x,ρc,hok,hag,hlen,rfl,HM⟩
       have hK3:=hK2 x hok
       cases hsc:((c.mem' s x).length.beq c.len&&QX (sc c.len) (c.mem' s x)&&(c.val s x).av (sc c.len))
       · rw[hsc]at hK3;exact hK3.elim
       · rw[hsc]at hK3
         simp only[cond_true]at hK3
         simp only[Bool.and_eq_true]at hsc
         replace hsc:=And.intro hsc.1.2 hsc.2
         obtain⟨f1,f2⟩:=Xb (c.len-c.k) M.length
         let ρ2:Nat->Nat:=fun j=>if M.length<=j/\j<M.length+(c.len-c.k)then ρc (c.k+(j-M.length))else ρ j
         have hold:∀j,j<M.length->ρ2 j=ρ j:=fun j hj=>if_neg (by omega)
         have hpi:∀i,i<c.len->ρ2 (ofL (QdQ c π M.length) i)=ρc i:=by
          intro i hi
          unfold ofL QdQ
          rw[Xx,List.getD_eq_getElem?_getD]
          by_cases h1:i<c.k
          · rw[List.getElem?_append_left (by rw[List.length_take];omega),List.getElem?_take,if_pos h1]
            have hi2:i<π.length:=by omega
            rw[List.getElem?_eq_getElem hi2]
            simp only[Option.getD_some]
            rw[hold _ (k2 _ (List.getElem_mem hi2)),hag i h1]
            simp[ofL,List.getD_eq_getElem?_getD,hi2]
          · rw[List.getElem?_append_right (by rw[List.length_take];omega),List.length_take,Nat.min_eq_left k3,f2 _ (by omega)]
            simp only[Option.getD_some]
            show (if M.length<=M.length+(i-c.k)/\M.length+(i-c.k)<M.length+(c.len-c.k)then ρc (c.k+(M.length+(i-c.k)-M.length))else _)=_
            rw[if_pos (by omega)];congr 1;omega
         have hbl:(conB c π M.length (c.mem' s x)).length=(conW c π M.length).length:=by
          unfold conB conW
          rw[Xx,Qbk]
          simp only[List.length_map,List.length_append,List.length_take,List.length_drop,QaI,hlen,f1]
          omega
         have hval:((c.val s x).ren (ofL (QdQ c π M.length))).den ρ2=(c.val s x).den ρc:=by
          rw[SV.ren_den]
          exact SV.av_den (p:=sc c.len) (fun i hi=>hpi i (Qt hi)) hsc.2
         refine⟨_,rfl,_,_,ρ2,hK3,XW _ _ hbl,?_,?_,hval.symm,?_⟩
         · unfold conW
           refine List.nodup_append.2 ⟨k1,?_,fun a ha b hb=>?_⟩
           · exact QH _ _
           · have:=k2 a ha;have:=(Xs hb).1;omega
         · intro i hi
           rcases hi with hi|hi
           · exact hold i hi
           · refine if_neg (fun hh=>hi ?_)
             unfold conW
             refine List.mem_append_right _ (List.mem_of_getElem? (f2 (i-M.length) (by omega) |>.trans ?_))
             congr 1;omega
         · have e1:denU ρ2 (zipB (conW c π M.length) (conB c π M.length (c.mem' s x)))=denM ρc 0 (c.mem' s x):=by
            rw[XV]
            unfold conW conB
            rw[Xx,Qbk]
            have hsplit:π=π.take c.k++π.drop c.k:=(List.take_append_drop _ _).symm
            have hm':c.mem' s x=(c.mem' s x).take c.k++(c.mem' s x).drop c.k:=(List.take_append_drop _ _).symm
            have hav:=hsc.1
            rw[hm',QcX,Bool.and_eq_true]at hav
            rw[List.map_append,List.map_append,zip3 π _ c.k _ _ _ (by simp;omega) k3 (by simp[QaI])]
            rw[Qaz,Qaz,Qdj,List.nil_append]
            rw[Qbl hpi ((c.mem' s x).take c.k) _ 0 (fun i hi=>by
             rw[List.length_take]at hi
             rw[Nat.zero_add,List.getElem?_take,if_pos (by omega)]
             unfold ofL QdQ
             rw[Xx,List.getD_eq_getElem?_getD,List.getElem?_append_left (by rw[List.length_take];omega),List.getElem?_take,if_pos (by omega),List.getElem?_eq_getElem (by omega)];rfl) (by rw[List.length_take];omega) hav.1]
            rw[Qbl hpi ((c.mem' s x).drop c.k) _ c.k (fun i hi=>by
             rw[List.length_drop]at hi
             rw[f2 i (by omega)]
             unfold ofL QdQ
             rw[Xx,List.getD_eq_getElem?_getD,List.getElem?_append_right (by rw[List.length_take];omega),List.length_take,Nat.min_eq_left k3,show c.k+i-c.k=i by omega,f2 i (by omega)];rfl) (by rw[List.length_drop];omega) hav.2]
            conv=>rhs;rw[hm']
            rw[Qd9,List.length_take,hlen,Nat.min_eq_left k4,Nat.zero_add]
           rw[e1,hTW,hmem]
           exact HM
 |no=>exact h.elim
theorem Qck {c:MCon}{π:List Nat}(k1:π.Nodup) (k2:∀b∈π,b<M.length):(conW c π M.length).Nodup:=
 List.nodup_append.2 ⟨k1,QH _ _,fun a ha b hb=>by have:=k2 a ha;have:=(Xs hb).1;omega⟩
theorem QeJ (hΓ:GamOk P w0 S Γ) {e:Eff}(hb:(rwE Γ M e).2.2=false) (h:Xy Γ M o K e):∃x us,K x us/\us.map (·.1)=(rwE Γ M e).2.1/\(us.map (·.1)).Nodup/\Xy Γ M o (fun x' us'=>x'=x/\us'=us) e:=by
 cases e with
 |eff T vc x us=>
  simp only[Xy]at h ⊢
  obtain⟨h1,h2⟩:=Q1.1 h
  cases hn:nodB (us.map (·.1))
  · rw[hn]at h2;exact h2.elim
  · rw[hn]at h2
    exact⟨x,us,h2,rfl,QY hn,Q1.2 ⟨h1,rfl,rfl⟩⟩
 |any χ T vc ok x W bs=>simp[rwE]at hb
 |call f args=>
  simp only[Xy,rwE]at h hb ⊢
  cases hl:lkGA Γ f args with
  |none=>rw[hl]at h;exact h.elim
  |some c=>
   rw[hl]at h hb
   have hc:=hΓ f args c hl
   cases c with
   |inl fn c=>exact h.elim
   |pure c=>
    dsimp only at h ⊢
    refine⟨c.out args,[],?_,rfl,List.nodup_nil,h.1,?_⟩
    · have h2:=h.2
      unfold PCon.out
      cases ht:c.two args with
      |none=>rw[ht]at h2;exact h2
      |some bv=>
       obtain⟨b,v⟩:=bv
       rw[ht]at h2
       cases b<;>exact h2
    · unfold PCon.out
      cases ht:c.two args with
      |none=>exact⟨rfl,rfl⟩
      |some bv=>
       obtain⟨b,v⟩:=bv
       cases b<;>exact⟨rfl,rfl⟩
   |rd c=>
    obtain⟨-,hdet,-⟩:=hc
    dsimp only at h hb ⊢
    cases hp:c.find args M with
    |none=>rw[hp]at h;exact h.elim
    |some π=>
     rw[hp]at h hb
     dsimp only at h hb ⊢
     cases hd:c.det with
     |none=>rw[hd]at hb;cases hb
     |some x0=>
      cases hck:Qbe M.length π
      · rw[hck]at h;exact h.elim
      · rw[hck]at h
        simp only[cond_true]at h ⊢
        obtain⟨s,ha,hm,hpre,hK2⟩:=h
        obtain⟨-,hok⟩:=hdet x0 hd s x0
        have hK3:=hK2 x0 hok
        cases hsc:((c.new s x0).length.beq c.len&&QX (sc (π.length+c.len)) (c.new s x0)&&(c.val s x0).av (sc (π.length+c.len)))
        · rw[hsc]at hK3;exact hK3.elim
        · rw[hsc]at hK3
          have hlen:(c.new s x0).length=c.len:=by
           simp only[Bool.and_eq_true]at hsc
           exact Nat.eq_of_beq_eq_true hsc.1.1
          have hz:(zipB (Qy M.length c.len) ((c.new s x0).map (SB.ren (ofL (π++Qy M.length c.len))))).map (·.1)=Qy M.length c.len:=XW _ _ (by
           rw[List.length_map,hlen,(Xb _ _).1])
          refine⟨_,_,hK3,hz,by rw[hz];exact QH _ _,s,ha,hm,hpre,fun x hx=>?_⟩
          · obtain⟨rfl,-⟩:=hdet x0 hd s x
            rw[hsc];exact⟨rfl,rfl⟩
   |mem c=>
    obtain⟨-,hdet,-⟩:=hc
    dsimp only at h hb ⊢
    cases hp:c.find args M with
    |none=>rw[hp]at h;exact h.elim
    |some π=>
     rw[hp]at h hb
     dsimp only at h hb ⊢
     cases hd:c.det with
     |none=>rw[hd]at hb;cases hb
     |some x0=>
      cases hck:(nodB π&&Qbe M.length π&&c.k.ble π.length&&c.k.ble c.len)
      · rw[hck]at h;exact h.elim
      · rw[hck]at h
        simp only[cond_true]at h ⊢
        obtain⟨s,ha,hm,hpre,hK2⟩:=h
        obtain⟨-,hok⟩:=hdet x0 hd s x0
        have hK3:=hK2 x0 hok
        cases hsc:((c.mem' s x0).length.beq c.len&&QX (sc c.len) (c.mem' s x0)&&(c.val s x0).av (sc c.len))
        · rw[hsc]at hK3;exact hK3.elim
        · rw[hsc]at hK3
          have hlen:(c.mem' s x0).length=c.len:=by
           simp only[Bool.and_eq_true]at hsc
           exact Nat.eq_of_beq_eq_true hsc.1.1
          simp only[Bool.and_eq_true]at hck
          have k3:=QL hck.1.2
          have k4:=QL hck.2
          have hz:(zipB (conW c π M.length) (conB c π M.length (c.mem' s x0))).map (·.1)=conW c π M.length:=XW _ _ (by
           unfold conB conW
           rw[Xx,Qbk]
           simp only[List.length_map,List.length_append,List.length_take,List.length_drop,QaI,hlen,(Xb _ _).1]
           omega)
          refine⟨_,_,hK3,hz,by rw[hz];exact Qck (QY hck.1.1.1) (Xv hck.1.1.2),s,ha,hm,hpre,fun x hx=>?_⟩
          · obtain⟨rfl,-⟩:=hdet x0 hd s x
            rw[hsc];exact⟨rfl,rfl⟩
 |no=>exact h.elim
theorem Qbu {e:Eff}(h:Xy Γ M o K e):(rwE Γ M e).2.1.Nodup:=by
 cases e with
 |eff T vc x us=>
  simp only[Xy]at h
  obtain⟨h1,h2⟩:=Q1.1 h
  cases hn:nodB (us.map (·.1))
  · rw[hn]at h2;exact h2.elim
  · exact QY hn
 |any χ T vc ok x W bs=>
  simp only[Xy]at h
  obtain⟨h1,h2⟩:=Q1.1 h
  cases hn:nodB W
  · rw[hn]at h2;exact h2.elim
  · exact QY hn
 |call f args=>
  simp only[Xy,rwE]at h ⊢
  cases hl:lkGA Γ f args with
  |none=>rw[hl]at h;exact h.elim
  |some c=>
   rw[hl]at h
   cases c with
   |inl fn c=>exact h.elim
   |pure c=>exact List.nodup_nil
   |rd c=>
    dsimp only at h ⊢
    cases hp:c.find args M with
    |none=>rw[hp]at h;exact h.elim
    |some π=>exact QH _ _
   |mem c=>
    dsimp only at h ⊢
    cases hp:c.find args M with
    |none=>rw[hp]at h;exact h.elim
    |some π=>
     rw[hp]at h
     dsimp only at h ⊢
     cases hck:(nodB π&&Qbe M.length π&&c.k.ble π.length&&c.k.ble c.len)
     · rw[hck]at h;exact h.elim
     · simp only[Bool.and_eq_true]at hck
       exact Qck (QY hck.1.1.1) (Xv hck.1.1.2)
 |no=>exact h.elim
end
end
section
open Go.RowKit
def Qc6:List Oper->Nat->Option Oper
 |[],_=>none
 |o::_,0=>some o
 |_::r,n+1=>Qc6 r n
theorem Qaa:∀(l:List Oper) (n:Nat),Qc6 l n=l[n]?
 |[],_=>rfl
 |_::_,0=>rfl
 |_::r,n+1=>Qaa r n
def Qcf (all:List Oper):Option (Nat × Bool)->Option (Option (Nat × Bool))
 |none=>some none
 |some (j,want)=>match Qc6 all j with
  |some p=>match p.dst with
   |some t=>some (some (t,want))
   |none=>none
  |none=>none
def putS (d:Option Tmp) (x:SV) (env:Env):Env:=match d with
 |some d=>(d,x)::env
 |none=>env
def Qb5 (nt:Nat):Option Tmp->Bool
 |some d=>d.blt nt
 |none=>true
theorem EnvOk.putS {ρ:Nat->Nat}{nt:Nat}{env:Env}{a:Act}(h:EnvOk ρ nt env a) {d:Option Tmp}(hd:Qb5 nt d=true) (x:SV):EnvOk ρ nt (putS d x env) (a.put d (x.den ρ)):=by
 cases d with
 |none=>exact h
 |some d=>exact h.put (Qt hd) x
theorem Xi {ρ:Nat->Nat}{nt:Nat}{env:Env}{a:Act}(h:EnvOk ρ nt env a) {all:List Oper}{o:Oper}{g:Option (Nat × Bool)}(hg:Qcf all o.guard=some g):
 (g=none->Region.wanted o (yielded all.toArray a.tmps)=true)/\(∀t want b,g=some (t,want)->lk env t=some (sv (.bool b))->Region.wanted o (yielded all.toArray a.tmps)=(b==want))/\∀t want u,g=some (t,want)->lk env t=some (sv (.tuple u))->Region.wanted o (yielded all.toArray a.tmps)=false:=by
 unfold Qcf at hg
 unfold Region.wanted
 cases ho:o.guard with
 |none=>
  rw[ho]at hg
  simp only[Option.some.injEq]at hg;subst hg
  exact⟨fun _=>rfl,fun t want b e=>(by cases e),fun t want u e=>(by cases e)⟩
 |some jw=>
  obtain⟨j,want⟩:=jw
  rw[ho]at hg
  dsimp only at hg
  cases hn:Qc6 all j with
  |none=>rw[hn]at hg;cases hg
  |some p=>
   rw[hn]at hg
   dsimp only at hg
   cases hp:p.dst with
   |none=>rw[hp]at hg;cases hg
   |some t=>
    rw[hp]at hg
    simp only[Option.some.injEq]at hg;subst hg
    have h2:(all.toArray[j]?)=some p:=by rw[List.getElem?_toArray,<- Qaa];exact hn
    refine⟨fun e=>(by cases e),fun t' want' b e hl=>?_,fun t' want' u e hl=>?_⟩
    · simp only[Option.some.injEq,Prod.mk.injEq]at e
      obtain⟨rfl,rfl⟩:=e
      have h1:=h.get t _ hl
      have:yielded all.toArray a.tmps j=some b:=by
       unfold yielded
       rw[h2]
       simp only[Option.bind_some,hp,h1];rfl
      simp only[this]
      cases b<;>cases want<;>rfl
    · simp only[Option.some.injEq,Prod.mk.injEq]at e
      obtain⟨rfl,rfl⟩:=e
      have h1:=h.get t _ hl
      have:yielded all.toArray a.tmps j=none:=by
       unfold yielded
       rw[h2]
       simp only[Option.bind_some,hp,h1];rfl
      simp only[this]
      rfl
def Xk (e:Edge):Bool:=match e.ground with
 |.textOnly _=>false
 |.gcOnly _=>false
 |_=>true
theorem Qdr (e:Edge):Region.binds .any e=Xk e:=by
 unfold Region.binds Xk;cases e.ground<;>rfl
def memN (i:Nat):List Nat->Bool
 |[]=>false
 |j::r=>i.beq j||memN i r
theorem Qv {i:Nat}:∀ {l:List Nat},memN i l=true↔i∈l
 |[]=>by simp[memN]
 |j::r=>by simp[memN,Qv (l:=r)]
def uniN:List Nat->List Nat->List Nat
 |[],m=>m
 |i::r,m=>bif memN i m then uniN r m else uniN r (i::m)
theorem Qcm {i:Nat}:∀ {l m:List Nat},i∈uniN l m↔i∈l\/i∈m
 |[],m=>by simp[uniN]
 |j::r,m=>by
  simp only[uniN]
  cases h:memN j m
  · simp only[cond_false,Qcm (l:=r),List.mem_cons]
    constructor
    · rintro (h|rfl|h)
      · exact .inl (.inr h)
      · exact .inl (.inl rfl)
      · exact .inr h
    · rintro ((rfl|h)|h)
      · exact .inr (.inl rfl)
      · exact .inl h
      · exact .inr (.inr h)
  · simp only[cond_true,Qcm (l:=r),List.mem_cons]
    have:=Qv.1 h
    constructor
    · rintro (h|h)
      · exact .inl (.inr h)
      · exact .inr h
    · rintro ((rfl|h)|h)
      · exact .inr this
      · exact .inl h
      · exact .inr h
def nthL:List (List Nat)->Nat->List Nat
 |[],_=>[]
 |l::_,0=>l
 |_::r,n+1=>nthL r n
def befE (acc:List (List Nat)):List Edge->List Nat
 |[]=>[]
 |e::r=>bif Xk e then uniN (e.on::nthL acc e.on) (befE acc r)else befE acc r
def XU:List (List Nat)->List Oper->List (List Nat)
 |acc,[]=>acc
 |acc,o::r=>XU (acc++[befE acc o.after.toList]) r
def bef (all:List Oper) (i:Nat):List Nat:=nthL (XU [] all) i
def Qba (all:List Oper) (L:Nat->Bool):Prop:=∀j o,all[j]?=some o->L j=true->∀e∈o.after,Xk e=true->L e.on=true
theorem Qab:∀(l:List (List Nat)) (i:Nat),nthL l i=(l[i]?).getD []
 |[],_=>rfl
 |_::_,0=>rfl
 |_::r,i+1=>by simp only[nthL,List.getElem?_cons_succ,Qab r i]
theorem QcP {acc:List (List Nat)}{j:Nat}:∀ {es:List Edge},j∈befE acc es->∃e∈es,Xk e=true/\(j=e.on\/j∈nthL acc e.on)
 |[],h=>by simp[befE]at h
 |e::r,h=>by
  simp only[befE]at h
  cases hb:Xk e
  · rw[hb]at h
    obtain⟨e',h1,h2⟩:=QcP (es:=r) h
    exact⟨e',List.mem_cons_of_mem _ h1,h2⟩
  · rw[hb]at h
    rw[cond_true,Qcm]at h
    rcases h with h|h
    · exact⟨e,List.mem_cons_self,hb,List.mem_cons.1 h⟩
    · obtain⟨e',h1,h2⟩:=QcP (es:=r) h
      exact⟨e',List.mem_cons_of_mem _ h1,h2⟩
theorem QbT {all:List Oper}{L:Nat->Bool}(hL:Qba all L):∀(l:List Oper) (acc:List (List Nat)),(∀j,l[j]?=all[acc.length+j]?) ->
 (∀k o,k<acc.length->all[k]?=some o->(∀e∈o.after,Xk e=true->L e.on=true)->∀j∈nthL acc k,L j=true) ->
 ∀k o,all[k]?=some o->(∀e∈o.after,Xk e=true->L e.on=true)->∀j∈nthL (XU acc l) k,L j=true
 |[],acc,hl,hacc=>fun k o ho he j hj=>by
  simp only[XU]at hj
  by_cases hk:k<acc.length
  · exact hacc k o hk ho he j hj
  · rw[Qab,List.getElem?_eq_none (by omega)]at hj;simp at hj
 |o::r,acc,hl,hacc=>by
  simp only[XU]
  refine QbT hL r _ (fun j=>?_) (fun k p hk hp he j hj=>?_)
  · have:=hl (j+1)
    rw[List.getElem?_cons_succ]at this
    rw[this,List.length_append,List.length_singleton];congr 1;omega
  · rw[List.length_append,List.length_singleton]at hk
    by_cases h:k<acc.length
    · rw[Qab,List.getElem?_append_left h,<- Qab]at hj
      exact hacc k p h hp he j hj
    · obtain rfl:k=acc.length:=by omega
      have h0:=hl 0
      rw[Nat.add_zero,hp]at h0
      simp only[List.getElem?_cons_zero,Option.some.injEq]at h0
      subst h0
      rw[Qab,List.getElem?_append_right (Nat.le_refl _)]at hj
      simp only[Nat.sub_self,List.getElem?_cons_zero,Option.getD_some]at hj
      obtain⟨e,h1,h2,h3⟩:=QcP hj
      have hLe:=he e (by simpa using h1) h2
      rcases h3 with rfl|h3
      · exact hLe
      · by_cases hlt:e.on<acc.length
        · cases ho:all[e.on]? with
          |none=>
           exfalso
           have h4:all.length<=e.on:=by
            rcases Nat.lt_or_ge e.on all.length with h|h
            · rw[List.getElem?_eq_getElem h]at ho;cases ho
            · exact h
           have:=(List.getElem?_eq_some_iff.1 hp).1
           omega
          |some q=>exact hacc e.on q hlt ho (fun e' he' hb'=>hL e.on q ho hLe e' he' hb') j h3
        · rw[Qab,List.getElem?_eq_none (by omega)]at h3;simp at h3
theorem QaN {all:List Oper}{L:Nat->Bool}(hL:Qba all L) {i:Nat}{o:Oper}(ho:all[i]?=some o) (he:∀e∈o.after,Xk e=true->L e.on=true):∀j∈bef all i,L j=true:=
 QbT hL all [] (fun j=>by simp) (fun k o hk=>by simp at hk) i o ho he
theorem Qai {all:List Oper}{L:Nat->Bool}(hL:Qba all L) {i j:Nat}{o:Oper}(ho:all[i]?=some o) (hi:L i=true) (hj:j∈bef all i):L j=true:=
 QaN hL ho (fun e he hb=>hL i o ho hi e he hb) j hj
structure HX where
 i:Nat
 R:List Nat
 W:List Nat
 f:List Nat
 bar:Bool
def Qdi:List Nat->List Nat->Bool
 |[],_=>true
 |i::r,m=>!memN i m&&Qdi r m
theorem QR:∀ {l m:List Nat},Qdi l m=true->∀i∈l,i∉m
 |[],_,_,i,h=>by simp at h
 |j::r,m,h,i,hi=>by
  simp only[Qdi,Bool.and_eq_true,Bool.not_eq_true']at h
  rcases List.mem_cons.1 hi with rfl|hi
  · intro hm;rw[Qv.2 hm]at h;exact absurd h.1 (by simp)
  · exact QR h.2 i hi
def Qda (x y:HX):Bool:=Qdi x.W y.R&&Qdi x.W y.W&&Qdi y.W x.R
def looksL (all:List Oper) (o:Oper):List Nat:=o.looksAt all.toArray
def dstL (o:Oper):List Nat:=match o.dst with
 |some t=>[t]
 |none=>[]
def QcV (all:List Oper) (B:List (List Nat)):Bool:=
 (List.range all.length).all fun i=>match Qc6 all i with
  |none=>false
  |some o=>(match o.op with | .select _ _=>false|_=>true)&&o.after.toList.all (fun e=>!Xk e||e.on.blt i)&&(List.range all.length).all fun j=>i.beq j||match Qc6 all j with
   |none=>false
   |some p=>Qdi (dstL p) (dstL o)&&(Qdi (dstL p) (looksL all o)||(memN j (nthL B i)||memN i (nthL B j)))
def Xf (B:List (List Nat)):List HX->Bool
 |[]=>true
 |y::r=>r.all (fun x=>!x.i.beq y.i && !memN y.i (nthL B x.i)&&(memN x.i (nthL B y.i)||Qda x y))&&Xf B r
def Qgj (n:Nat) (B:List (List Nat)):List HX->Bool
 |[]=>true
 |x::r=>(bif x.bar then (List.range n).all (fun j=>memN j (x.i::r.map (·.i))||memN x.i (nthL B j))else true)&&Qgj n B r
def refsB (N0:Nat) (B:List (List Nat)) (h:List HX) (x:HX):Bool:=
 x.f.all fun b=>b.blt N0||memN b x.W||h.any (fun y=>memN y.i (nthL B x.i)&&memN b y.W)
def chkB (N0:Nat) (all:List Oper) (h:List HX):Bool:=
 let B:=XU [] all
 QcV all B&&Xf B h&&Qgj all.length B h&&h.all (refsB N0 B h)&&h.all (fun x=>x.i.blt all.length)
def QdL (fn:Func) (id:Nat) (ops:Array Oper) (N0:Nat) (h:List HX):Prop:=chkB N0 ops.toList h=true
theorem QgO {fn:Func}{id:Nat}{ops:Array Oper}{N0:Nat}{h:List HX}(e:chkB N0 ops.toList h=true):QdL fn id ops N0 h:=e
def isBar (Γ:Gam) (o:Oper):Bool:=match o.op with
 |.call c=>match c.callee with
  |.builtin .append=>true
  |.value (.func f)=>match lkG Γ f with
   |some (.mem c)=>isNo c.det
   |some (.rd c)=>isNo c.det
   |_=>false
  |_=>false
 |_=>false
def QfB (Γ:Gam):Nat->List Oper->List Nat
 |_,[]=>[]
 |i,o::r=>bif isBar Γ o then i::QfB Γ (i+1) r else QfB Γ (i+1) r
def Qfg:List Nat->List Nat->Nat
 |[],_=>0
 |i::r,m=>bif memN i m then (Qfg r m).succ else Qfg r m
def levO (B:List (List Nat)) (bars:List Nat) (k:Nat) (wantBar:Bool):List Nat->List Nat
 |[]=>[]
 |i::r=>bif (Qfg bars (nthL B i)).beq k&&(bif wantBar then memN i bars else !memN i bars)then i::levO B bars k wantBar r else levO B bars k wantBar r
def levsO (B:List (List Nat)) (bars idx:List Nat):Nat->Nat->List Nat
 |_,0=>[]
 |k,n+1=>levO B bars k false idx++(levO B bars k true idx++levsO B bars idx (k+1) n)
def upN (i:Nat):Nat->List Nat
 |0=>[]
 |n+1=>i::upN (i+1) n
def Qgp (Γ:Gam) (all:List Oper):List Nat:=
 let bars:=QfB Γ 0 all
 levsO (XU [] all) bars (upN 0 all.length) 0 bars.length.succ
def SC.refs:SC->List Nat
 |.p b _=>[b]
 |.e b _ _=>[b]
 |.s b _ _ _=>[b]
 |.i _ b _=>[b]
 |.o b _ _=>[b]
 |.er b _ _ _=>[b]
 |.so b _ _ _ _ _=>[b]
 |.fn _ cs=>cs.map (·.1)
 |.m b=>[b]
 |_=>[]
def Xz:List Seg->List Nat
 |[]=>[]
 |.one x::r=>x.refs++Xz r
 |_::r=>Xz r
def SA.refs:SA->List Nat
 |.c x=>x.refs
 |.a l=>Xz l
def Qdz:List SA->List Nat
 |[]=>[]
 |x::r=>x.refs++Qdz r
def SV.refs:SV->List Nat
 |.o x=>x.refs
 |.t l=>Qdz l
def SB.refs:SB->List Nat
 |.cells l _=>Xz l
 |_=>[]
def QM:Ups->List Nat
 |[]=>[]
 |(_,x)::r=>x.refs++QM r
section
variable (V:World) (T:Tab) (Γ:Gam) (nt:Nat) (next:Env->List SB->Prop) (fn:Func) (id:Nat) (all:List Oper) (N0:Nat)
def drun:List Nat->List HX->Env->List SB->Prop
 |[],h,env,M=>bif h.length.beq all.length then QdL fn id all.toArray N0 h/\next env M else False
 |i::l,h,env,M=>match Qc6 all i with
  |none=>False
  |some o=>bif Qb5 nt o.dst then (match Qcf all o.guard with
   |none=>False
   |some g=>
    let go:Env->Prop:=fun env=>
     let e:=Qx V T env M M.length o.op
     let rw:=rwE Γ M e
     let k:Prop:=Xy Γ M o (fun x us=>drun l (⟨i,rw.1,rw.2.1,x.refs++QM us,rw.2.2⟩::h) (putS o.dst x env) (Qk M us)) e
     bif rw.2.2 then QdL fn id all.toArray N0 (⟨i,rw.1,rw.2.1,[],true⟩::h)/\k else k
    let skip:Env->Prop:=fun env=>drun l (⟨i,[],[],[],false⟩::h) (putS o.dst (sv undef) env) M
    match g with
    |none=>go env
    |some (t,want)=>match lk env t with
     |some (.o (.c (.v (.bool b))))=>
      bif b then (bif want then go ((t,sv (.bool true))::env)else skip ((t,sv (.bool true))::env))
      else (bif want then skip ((t,sv (.bool false))::env)else go ((t,sv (.bool false))::env))
     |some (.o (.c (.v (.tuple _))))=>skip env
     |_=>False)else False
end
end
section
open Go.RowKit
theorem Qdg {a b:Act}{x:Operand}(h:∀t,x=.tmp t->a.tmps[t]?=b.tmps[t]?):a.eval x=b.eval x:=by
 cases x with
 |tmp t=>
  have:=h t rfl
  simp only[Act.eval,Array.getD_eq_getD_getElem?,this]
 |_=>rfl
theorem Qbr {ops:Array Oper}{a b:Act}{o:Oper}(h:∀t,t∈o.looksAt ops->a.tmps[t]?=b.tmps[t]?):Region.wanted o (yielded ops a.tmps)=Region.wanted o (yielded ops b.tmps):=by
 unfold Region.wanted
 cases hg:o.guard with
 |none=>rfl
 |some gw=>
  obtain⟨g,want⟩:=gw
  have hy:yielded ops a.tmps g=yielded ops b.tmps g:=by
   unfold yielded
   cases ht:(ops[g]?).bind (·.dst)with
   |none=>rfl
   |some t=>
    have:=h t (by simp[Oper.looksAt,hg,ht])
    simp only[Option.bind_some,this]
  simp only[hy]
theorem SC.av_refs {p:Nat->Bool}{x:SC}(h:∀b∈x.refs,p b=true):x.av p=true:=by
 cases x with
 |fn f cs=>simp only[SC.av,List.all_eq_true];exact fun q hq=>h _ (by simp only[SC.refs,List.mem_map];exact⟨q,hq,rfl⟩)
 |_=>first|rfl|exact h _ (by simp[SC.refs])
theorem XA {p:Nat->Bool}:∀ {l:List Seg},(∀b∈Xz l,p b=true)->Qi p l=true
 |[],_=>rfl
 |.one x::r,h=>by
  simp only[Xz,List.mem_append]at h
  simp only[Qi,Bool.and_eq_true]
  exact⟨SC.av_refs (fun b hb=>h b (.inl hb)),XA (fun b hb=>h b (.inr hb))⟩
 |.ints _ _ _::r,h=>by
  simp only[Xz]at h
  simp only[Qi];exact XA h
theorem SA.av_refs {p:Nat->Bool}{x:SA}(h:∀b∈x.refs,p b=true):x.av p=true:=by
 cases x with
 |c x=>exact SC.av_refs h
 |a l=>exact XA (l:=l) h
theorem SV.av_refs {p:Nat->Bool}{x:SV}(h:∀b∈x.refs,p b=true):x.av p=true:=by
 cases x with
 |o x=>exact SA.av_refs h
 |t l=>
  simp only[SV.av]
  induction l with
  |nil=>rfl
  |cons y r ih=>
   simp only[SV.refs,Qdz,List.mem_append]at h ih
   simp only[List.all_cons,Bool.and_eq_true]
   exact⟨SA.av_refs (fun b hb=>h b (.inl hb)),ih (fun b hb=>h b (.inr hb))⟩
theorem SB.av_refs {p:Nat->Bool}{x:SB}(h:∀b∈x.refs,p b=true):x.av p=true:=by
 cases x with
 |cells l t=>exact XA (l:=l) h
 |_=>rfl
theorem Qdw {us:Ups}{b c:Nat}{x:SB}(h:(b,x)∈us) (hc:c∈x.refs):c∈QM us:=by
 induction us with
 |nil=>simp at h
 |cons q r ih=>
  obtain⟨b',y⟩:=q
  simp only[QM,List.mem_append]
  rcases List.mem_cons.1 h with h|h
  · simp only[Prod.mk.injEq]at h;obtain⟨rfl,rfl⟩:=h;exact .inl hc
  · exact .inr (ih h)
structure Hop where
 h:HX
 o:Oper
 x:SV
 us:Ups
def Qb3 (M0:List SB):List Hop->List SB
 |[]=>M0
 |h::r=>Qk (Qb3 M0 r) h.us
def Qw (L:Nat->Bool) (M0:List SB):List Hop->List SB
 |[]=>M0
 |h::r=>bif L h.h.i then Qk (Qw L M0 r) h.us else Qw L M0 r
def actT (ρ:Nat->Nat) (a0:Act):List Hop->Act
 |[]=>a0
 |h::r=>(actT ρ a0 r).put h.o.dst (h.x.den ρ)
theorem QdA (x:SB):∀(M:List SB) (b:Nat),b<(putB M b x).length
 |[],0=>by simp[putB]
 |[],b+1=>by simp only[putB,List.length_cons];have:=QdA x [] b;omega
 |_::r,0=>by simp[putB]
 |_::r,b+1=>by simp only[putB,List.length_cons];have:=QdA x r b;omega
theorem Xo:∀(us:Ups) (M:List SB),M.length<=(Qk M us).length/\∀b∈us.map (·.1),b<(Qk M us).length
 |[],M=>⟨Nat.le_refl _,by simp⟩
 |(b,x)::r,M=>by
  obtain⟨h1,h2⟩:=Xo r (putB M b x)
  have h3:=(Qbh x M b).1
  have h4:=QdA x M b
  refine⟨by simp only[Qk];omega,fun c hc=>?_⟩
  simp only[List.map_cons,List.mem_cons]at hc
  simp only[Qk]
  rcases hc with rfl|hc
  · omega
  · exact h2 c hc
theorem Qax {us:Ups}{b:Nat}(hb:b∈us.map (·.1)) (hn:(us.map (·.1)).Nodup) (M N:List SB):getB (Qk M us) b=getB (Qk N us) b:=by
 obtain⟨⟨b',x⟩,hq,rfl⟩:=List.mem_map.1 hb
 rw[Qu us M hn hq,Qu us N hn hq]
theorem Qae {ρ:Nat->Nat}{M M':List SB}(T:List Nat) (h:∀b∈T,getB M' b=getB M b):denT ρ M' T=denT ρ M T:=QbP T (fun b hb=>by rw[h b hb])
theorem Qa8 {ρ:Nat->Nat}{M N:List SB}(h:∀b,getB M b=getB N b):denM ρ 0 M=denM ρ 0 N:=by
 rw[Qaf ρ M 0 (max M.length N.length) (by omega),Qaf ρ N 0 (max M.length N.length) (by omega)]
 simp only[h]
section
variable {P:Program}{V w0:World}{S:Nat->Prop}{ρ0:Nat->Nat}{T:Tab}{Γ:Gam}{nt:Nat}{next:Env->List SB->Prop}{fn:Func}{id:Nat}{all:List Oper}{Q:Exit->Act->World->Prop}{a0:Act}{env0:Env}{M0:List SB}
def HopOk (V:World) (T:Tab) (Γ:Gam) (nt:Nat) (all:List Oper) (env:Env) (M:List SB) (h:Hop):Prop:=
 all[h.h.i]?=some h.o/\Qb5 nt h.o.dst=true/\h.us.map (·.1)=h.h.W/\(h.us.map (·.1)).Nodup/\(∀b∈h.x.refs++QM h.us,b∈h.h.f) /\
 ((h.x=sv undef/\h.us=[]/\∀ρ a,EnvOk ρ nt env a->Region.wanted h.o (yielded all.toArray a.tmps)=false) \/
  ((∀ρ a,EnvOk ρ nt env a->Region.wanted h.o (yielded all.toArray a.tmps)=true)/\h.h.R=(rwE Γ M (Qx V T env M M.length h.o.op)).1/\h.h.W=(rwE Γ M (Qx V T env M M.length h.o.op)).2.1 /\
   (h.h.bar=true\/Xy Γ M h.o (fun x' us'=>x'=h.x/\us'=h.us) (Qx V T env M M.length h.o.op))))
inductive DP (V:World) (T:Tab) (Γ:Gam) (nt:Nat) (all:List Oper) (env0:Env) (M0:List SB):List Hop->Env->List SB->Prop
 |nil:DP V T Γ nt all env0 M0 [] env0 M0
 |same {hs env M t x}(hd:DP V T Γ nt all env0 M0 hs env M) (hx:lk env t=some x):DP V T Γ nt all env0 M0 hs ((t,x)::env) M
 |op {hs env M h}(hd:DP V T Γ nt all env0 M0 hs env M) (ho:HopOk V T Γ nt all env M h):DP V T Γ nt all env0 M0 (h::hs) (putS h.o.dst h.x env) (Qk M h.us)
theorem DP.env {hs:List Hop}{env:Env}{M:List SB}(h:DP V T Γ nt all env0 M0 hs env M) {ρ:Nat->Nat}(hE:EnvOk ρ nt env0 a0):EnvOk ρ nt env (actT ρ a0 hs):=by
 induction h with
 |nil=>exact hE
 |same hd hx ih=>exact ih.same hx
 |op hd ho ih=>exact ih.putS ho.2.1 _
theorem DP.mem {hs:List Hop}{env:Env}{M:List SB}(h:DP V T Γ nt all env0 M0 hs env M):M=Qb3 M0 hs:=by
 induction h with
 |nil=>rfl
 |same hd hx ih=>exact ih
 |op hd ho ih=>rw[ih];rfl
theorem DP.split {hs:List Hop}{env:Env}{M:List SB}(h:DP V T Γ nt all env0 M0 hs env M):∀post k pre,hs=post++k::pre->∃env' M',DP V T Γ nt all env0 M0 pre env' M'/\HopOk V T Γ nt all env' M' k:=by
 induction h with
 |nil=>intro post k pre e;cases post<;>simp at e
 |same hd hx ih=>exact ih
 | @op hs env M h hd ho ih=>
   intro post k pre e
   cases post with
   |nil=>
    simp only[List.nil_append,List.cons.injEq]at e
    obtain⟨rfl,rfl⟩:=e
    exact⟨_,_,hd,ho⟩
   |cons q post=>
    simp only[List.cons_append,List.cons.injEq]at e
    exact ih post k pre e.2
theorem DP.allOk {hs:List Hop}{env:Env}{M:List SB}(h:DP V T Γ nt all env0 M0 hs env M):∀k∈hs,all[k.h.i]?=some k.o/\Qb5 nt k.o.dst=true/\k.us.map (·.1)=k.h.W/\(k.us.map (·.1)).Nodup/\∀b∈k.x.refs++QM k.us,b∈k.h.f:=fun k hk=>by
 obtain⟨post,pre,e⟩:=List.append_of_mem hk
 obtain⟨env',M',-,h1,h2,h3,h4,h5,-⟩:=h.split post k pre e
 exact⟨h1,h2,h3,h4,h5⟩
inductive Front (V:World) (T:Tab) (Γ:Gam) (nt:Nat) (next:Env->List SB->Prop) (fn:Func) (id:Nat) (all:List Oper) (N0:Nat) (hs:List Hop) (env:Env) (M:List SB):Prop
 |fin (hl:hs.length=all.length) (hc:chkB N0 all (hs.map (·.h))=true) (hn:next env M)
 |bar (i:Nat) (o:Oper) (l:List Nat) (ho:all[i]?=some o) (hd:Qb5 nt o.dst=true) (hw:∀ρ a,EnvOk ρ nt env a->Region.wanted o (yielded all.toArray a.tmps)=true)
  (hc:chkB N0 all (⟨i,(rwE Γ M (Qx V T env M M.length o.op)).1,(rwE Γ M (Qx V T env M M.length o.op)).2.1,[],true⟩::hs.map (·.h))=true)
  (hk:Xy Γ M o (fun x us=>drun V T Γ nt next fn id all N0 l (⟨i,(rwE Γ M (Qx V T env M M.length o.op)).1,(rwE Γ M (Qx V T env M M.length o.op)).2.1,x.refs++QM us,true⟩::hs.map (·.h)) (putS o.dst x env) (Qk M us)) (Qx V T env M M.length o.op))
theorem Qad {N0:Nat}(hΓ:GamOk P w0 S Γ):∀(l:List Nat) (hs:List Hop) (env:Env) (M:List SB),DP V T Γ nt all env0 M0 hs env M->drun V T Γ nt next fn id all N0 l (hs.map (·.h)) env M ->
 ∃hs' env' M',DP V T Γ nt all env0 M0 (hs'++hs) env' M'/\Front V T Γ nt next fn id all N0 (hs'++hs) env' M'/\∀h∈hs',h.h.bar=false
 |[],hs,env,M,hd,h=>by
  simp only[drun]at h
  cases hl:(hs.map (·.h)).length.beq all.length
  · rw[hl]at h;exact h.elim
  · rw[hl]at h
    have:=Nat.eq_of_beq_eq_true hl
    rw[List.length_map]at this
    exact⟨[],env,M,hd,.fin this (by have:=h.1;unfold QdL at this;simpa using this) h.2,by simp⟩
 |i::l,hs,env,M,hd,h=>by
  simp only[drun]at h
  cases ho:Qc6 all i with
  |none=>rw[ho]at h;exact h.elim
  |some o=>
   rw[ho]at h
   rw[Qaa]at ho
   dsimp only at h
   cases hdo:Qb5 nt o.dst with
   |false=>rw[hdo]at h;exact h.elim
   |true=>
    rw[hdo]at h
    simp only[cond_true]at h
    cases hg:Qcf all o.guard with
    |none=>rw[hg]at h;exact h.elim
    |some g=>
     rw[hg]at h
     dsimp only at h
     have hgo:∀env,DP V T Γ nt all env0 M0 hs env M->(∀ρ a,EnvOk ρ nt env a->Region.wanted o (yielded all.toArray a.tmps)=true) ->
      (bif (rwE Γ M (Qx V T env M M.length o.op)).2.2 then QdL fn id all.toArray N0 (⟨i,(rwE Γ M (Qx V T env M M.length o.op)).1,(rwE Γ M (Qx V T env M M.length o.op)).2.1,[],true⟩::hs.map (·.h))/\Xy Γ M o (fun x us=>drun V T Γ nt next fn id all N0 l (⟨i,(rwE Γ M (Qx V T env M M.length o.op)).1,(rwE Γ M (Qx V T env M M.length o.op)).2.1,x.refs++QM us,(rwE Γ M (Qx V T env M M.length o.op)).2.2⟩::hs.map (·.h)) (Proofs.YthenelknbfjpeaaDoor.putS o.dst x env) (Qk M us)) (Qx V T env M M.length o.op)
       else Xy Γ M o (fun x us=>drun V T Γ nt next fn id all N0 l (⟨i,(rwE Γ M (Qx V T env M M.length o.op)).1,(rwE Γ M (Qx V T env M M.length o.op)).2.1,x.refs++QM us,(rwE Γ M (Qx V T env M M.length o.op)).2.2⟩::hs.map (·.h)) (Proofs.YthenelknbfjpeaaDoor.putS o.dst x env) (Qk M us)) (Qx V T env M M.length o.op)) ->
      ∃hs' env' M',DP V T Γ nt all env0 M0 (hs'++hs) env' M'/\Front V T Γ nt next fn id all N0 (hs'++hs) env' M'/\∀h∈hs',h.h.bar=false:=by
      intro env hd hw h
      cases hb:(rwE Γ M (Qx V T env M M.length o.op)).2.2 with
      |true=>
       rw[hb]at h
       exact⟨[],env,M,hd,.bar i o l ho hdo hw (by have:=h.1;unfold QdL at this;simpa using this) h.2,by simp⟩
      |false=>
       rw[hb]at h
       obtain⟨x,us,hK,hW,hnd,hst⟩:=QeJ hΓ hb h
       obtain⟨hs',env',M',g1,g2,g3⟩:=Qad hΓ l (⟨⟨i,(rwE Γ M (Qx V T env M M.length o.op)).1,(rwE Γ M (Qx V T env M M.length o.op)).2.1,x.refs++QM us,false⟩,o,x,us⟩::hs) _ _
        (.op hd ⟨ho,hdo,hW,hnd,fun b hb=>hb,.inr ⟨hw,rfl,rfl,.inr hst⟩⟩) hK
       refine⟨hs'++[_],env',M',by rw[List.append_assoc];exact g1,by rw[List.append_assoc];exact g2,fun h hh=>?_⟩
       rcases List.mem_append.1 hh with hh|hh
       · exact g3 h hh
       · rw[List.mem_singleton]at hh;subst hh;rfl
     have hskip:∀env,DP V T Γ nt all env0 M0 hs env M->(∀ρ a,EnvOk ρ nt env a->Region.wanted o (yielded all.toArray a.tmps)=false)->drun V T Γ nt next fn id all N0 l (⟨i,[],[],[],false⟩::hs.map (·.h)) (Proofs.YthenelknbfjpeaaDoor.putS o.dst (sv undef) env) M ->
      ∃hs' env' M',DP V T Γ nt all env0 M0 (hs'++hs) env' M'/\Front V T Γ nt next fn id all N0 (hs'++hs) env' M'/\∀h∈hs',h.h.bar=false:=by
      intro env hd hw h
      obtain⟨hs',env',M',g1,g2,g3⟩:=Qad hΓ l (⟨⟨i,[],[],[],false⟩,o,sv undef,[]⟩::hs) _ _ (.op hd ⟨ho,hdo,rfl,List.nodup_nil,fun b hb=>by simp[SV.refs,SA.refs,SC.refs,QM]at hb,.inl ⟨rfl,rfl,hw⟩⟩) h
      refine⟨hs'++[_],env',M',by rw[List.append_assoc];exact g1,by rw[List.append_assoc];exact g2,fun h hh=>?_⟩
      rcases List.mem_append.1 hh with hh|hh
      · exact g3 h hh
      · rw[List.mem_singleton]at hh;subst hh;rfl
     cases g with
     |none=>exact hgo env hd (fun ρ a hE=>(Xi hE hg).1 rfl) h
     |some tw=>
      obtain⟨t,want⟩:=tw
      dsimp only at h
      split at h
      · rename_i b hl
        have hwb:∀ρ a,EnvOk ρ nt ((t,sv (.bool b))::env) a->Region.wanted o (yielded all.toArray a.tmps)=(b==want):=fun ρ a hE=>(Xi hE hg).2.1 t want b rfl (by simp[lk])
        have hd':=DP.same hd hl
        cases b<;>cases want<;>simp only[cond_true,cond_false]at h
        · exact hgo _ hd' hwb h
        · exact hskip _ hd' hwb h
        · exact hskip _ hd' hwb h
        · exact hgo _ hd' hwb h
      · rename_i u hl
        exact hskip _ hd (fun ρ a hE=>(Xi hE hg).2.2 t want u rfl hl) h
      · exact h.elim
theorem statB_spec {B:List (List Nat)}(h:QcV all B=true) {i j:Nat}{o p:Oper}(ho:all[i]?=some o) (hp:all[j]?=some p) (hij:i≠j):
 (∀t,p.dst=some t->o.dst≠some t)/\∀t,p.dst=some t->t∈o.looksAt all.toArray->j∈nthL B i\/i∈nthL B j:=by
 unfold QcV at h
 rw[List.all_eq_true]at h
 have h1:=h i (List.mem_range.2 (List.getElem?_eq_some_iff.1 ho).1)
 rw[Qaa,ho]at h1
 simp only[Bool.and_eq_true,List.all_eq_true]at h1
 have h2:=h1.2 j (List.mem_range.2 (List.getElem?_eq_some_iff.1 hp).1)
 rw[nbeq hij,Qaa,hp]at h2
 simp only[Bool.false_or,Bool.and_eq_true,Bool.or_eq_true]at h2
 refine⟨fun t ht hd=>QR h2.1 t (by simp[dstL,ht]) (by simp[dstL,hd]),fun t ht hl=>?_⟩
 rcases h2.2 with h3|h3|h3
 · exact absurd hl (QR h3 t (by simp[dstL,ht]))
 · exact .inl (Qv.1 h3)
 · exact .inr (Qv.1 h3)
theorem QcU {B:List (List Nat)}(h:QcV all B=true) {i:Nat}{o:Oper}(ho:all[i]?=some o):(∀cs b,o.op≠ .select cs b)/\∀e∈o.after,Xk e=true->e.on<i:=by
 unfold QcV at h
 rw[List.all_eq_true]at h
 have h1:=h i (List.mem_range.2 (List.getElem?_eq_some_iff.1 ho).1)
 rw[Qaa,ho]at h1
 simp only[Bool.and_eq_true,List.all_eq_true]at h1
 refine⟨fun cs b e=>?_,fun e he hb=>?_⟩
 · have:=h1.1.1;rw[e]at this;cases this
 · have:=h1.1.2 e (by simpa using he)
   rw[hb]at this
   exact Qt (by simpa using this)
theorem Qp {B:List (List Nat)}:∀ {post:List HX}{y:HX}{pre:List HX},Xf B (post++y::pre)=true ->
 (∀x∈pre,x.i≠y.i/\y.i∉nthL B x.i/\(x.i∈nthL B y.i\/Qda x y=true))/\(∀z∈post,y.i≠z.i/\z.i∉nthL B y.i/\(y.i∈nthL B z.i\/Qda y z=true))
 |[],y,pre,h=>by
  simp only[List.nil_append,Xf,Bool.and_eq_true,List.all_eq_true]at h
  refine⟨fun x hx=>?_,by simp⟩
  have:=h.1 x hx
  simp only[Bool.not_eq_true',Bool.or_eq_true]at this
  refine⟨fun e=>by rw[e]at this;simp at this,fun e=>?_,this.2.imp Qv.1 id⟩
  rw[Qv.2 e]at this;exact absurd this.1.2 (by simp)
 |z::post,y,pre,h=>by
  simp only[List.cons_append,Xf,Bool.and_eq_true,List.all_eq_true]at h
  obtain⟨g1,g2⟩:=Qp h.2
  refine⟨g1,fun q hq=>?_⟩
  rcases List.mem_cons.1 hq with rfl|hq
  · have:=h.1 y (by simp)
    simp only[Bool.not_eq_true',Bool.or_eq_true]at this
    refine⟨fun e=>by rw[e]at this;simp at this,fun e=>?_,this.2.imp Qv.1 id⟩
    rw[Qv.2 e]at this;exact absurd this.1.2 (by simp)
  · exact g2 q hq
theorem XG {x y:HX}(h:Qda x y=true):(∀b∈x.W,b∉y.R/\b∉y.W)/\∀b∈y.W,b∉x.R/\b∉x.W:=by
 unfold Qda at h
 simp only[Bool.and_eq_true]at h
 exact⟨fun b hb=>⟨QR h.1.1 b hb,QR h.1.2 b hb⟩,fun b hb=>⟨QR h.2 b hb,fun hx=>QR h.1.2 b hx hb⟩⟩
theorem QbJ {L:Nat->Bool}{b:Nat}:∀ {hs:List Hop},(∀k∈hs,(k.us.map (·.1)).Nodup)->(∀k∈hs,L k.h.i=false->b∉k.us.map (·.1))->getB (Qw L M0 hs) b=getB (Qb3 M0 hs) b
 |[],_,_=>rfl
 |k::r,hn,h=>by
  have ih:=QbJ (hs:=r) (fun k hk=>hn k (List.mem_cons_of_mem _ hk)) (fun k hk=>h k (List.mem_cons_of_mem _ hk))
  simp only[Qw,Qb3]
  cases hL:L k.h.i
  · rw[cond_false,Qm k.us _ (h k List.mem_cons_self hL)];exact ih
  · rw[cond_true]
    by_cases hb:b∈k.us.map (·.1)
    · exact Qax hb (hn k List.mem_cons_self) _ _
    · rw[Qm k.us _ hb,Qm k.us _ hb];exact ih
theorem Qcg {L:Nat->Bool}{b:Nat}{rest:List Hop}:∀ {hs:List Hop},(∀k∈hs,L k.h.i=true->b∉k.us.map (·.1))->getB (Qw L M0 (hs++rest)) b=getB (Qw L M0 rest) b
 |[],_=>rfl
 |k::r,h=>by
  have ih:=Qcg (hs:=r) (rest:=rest) (fun k hk=>h k (List.mem_cons_of_mem _ hk))
  simp only[List.cons_append,Qw]
  cases hL:L k.h.i
  · exact ih
  · rw[cond_true,Qm k.us _ (h k List.mem_cons_self hL)];exact ih
theorem Qay {L L':Nat->Bool}:∀ {hs:List Hop},(∀k∈hs,L' k.h.i=L k.h.i)->Qw L' M0 hs=Qw L M0 hs
 |[],_=>rfl
 |k::r,h=>by simp only[Qw];rw[h k List.mem_cons_self,Qay (fun k hk=>h k (List.mem_cons_of_mem _ hk))]
theorem QbK {L:Nat->Bool}{rest:List Hop}:∀ {hs:List Hop},(∀k∈hs,L k.h.i=false)->Qw L M0 (hs++rest)=Qw L M0 rest
 |[],_=>rfl
 |k::r,h=>by simp only[List.cons_append,Qw,h k List.mem_cons_self,cond_false];exact QbK (fun k hk=>h k (List.mem_cons_of_mem _ hk))
theorem Qdc {L L':Nat->Bool}{k:Hop}{b:Nat}(hk:L k.h.i=false) (hk':L' k.h.i=true) (hn:(k.us.map (·.1)).Nodup) {pre:List Hop}:∀ {post:List Hop},(∀q∈post,L' q.h.i=L q.h.i)->(∀q∈pre,L' q.h.i=L q.h.i)->(∀q∈post,L q.h.i=true->∀c∈k.us.map (·.1),c∉q.us.map (·.1))->(∀q∈post,(q.us.map (·.1)).Nodup) ->
 getB (Qw L' M0 (post++k::pre)) b=getB (Qk (Qw L M0 (post++k::pre)) k.us) b
 |[],h1,h2,_,_=>by simp only[List.nil_append,Qw,hk,hk',cond_true,cond_false,Qay h2]
 |q::post,h1,h2,h3,h4=>by
  have ih:=Qdc (b:=b) hk hk' hn (post:=post) (pre:=pre) (fun z hz=>h1 z (List.mem_cons_of_mem _ hz)) h2 (fun z hz=>h3 z (List.mem_cons_of_mem _ hz)) (fun z hz=>h4 z (List.mem_cons_of_mem _ hz))
  simp only[List.cons_append,Qw]
  rw[h1 q List.mem_cons_self]
  cases hL:L q.h.i
  · exact ih
  · simp only[cond_true]
    by_cases hb:b∈q.us.map (·.1)
    · rw[Qax hb (h4 q List.mem_cons_self) _ (Qw L M0 (post++k::pre)),Qm k.us _ (fun hk=>h3 q List.mem_cons_self hL b hk hb)]
    · rw[Qm q.us _ hb,ih]
      by_cases hb2:b∈k.us.map (·.1)
      · exact Qax hb2 hn _ _
      · rw[Qm k.us _ hb2,Qm k.us _ hb2,Qm q.us _ hb]
structure PA (ρ:Nat->Nat) (a0:Act) (L:Nat->Bool) (hs:List Hop) (nt:Nat) (a:Act):Prop where
 defers:a.defers=[]
 size:a.tmps.size=nt
 got:∀h∈hs,L h.h.i=true->∀t,h.o.dst=some t->a.tmps[t]?=some (h.x.den ρ)
 old:∀t,(∀h∈hs,L h.h.i=true->h.o.dst≠some t)->a.tmps[t]?=a0.tmps[t]?
theorem QbX {ρ:Nat->Nat}(h0:a0.defers=[]) (hs0:a0.tmps.size=nt):∀ {hs:List Hop},(∀k∈hs,Qb5 nt k.o.dst=true)->hs.Pairwise (fun k q=>∀t,k.o.dst=some t->q.o.dst≠some t)->PA ρ a0 (fun _=>true) hs nt (actT ρ a0 hs)
 |[],_,_=>⟨h0,hs0,by simp,fun _ _=>rfl⟩
 |k::r,hd,hp=>by
  rw[List.pairwise_cons]at hp
  have ih:=QbX (ρ:=ρ) h0 hs0 (hs:=r) (fun q hq=>hd q (List.mem_cons_of_mem _ hq)) hp.2
  have hk:=hd k List.mem_cons_self
  cases hdst:k.o.dst with
  |none=>
   have e:actT ρ a0 (k::r)=actT ρ a0 r:=by simp only[actT,hdst];rfl
   rw[e]
   refine⟨ih.defers,ih.size,fun h hh hL t ht=>?_,fun t h=>ih.old t (fun q hq hL=>h q (List.mem_cons_of_mem _ hq) hL)⟩
   rcases List.mem_cons.1 hh with rfl|hh
   · rw[hdst]at ht;cases ht
   · exact ih.got h hh hL t ht
  |some d=>
   rw[hdst]at hk
   have hlt:=Qt hk
   have e:actT ρ a0 (k::r)=(actT ρ a0 r).put (some d) (k.x.den ρ):=by simp only[actT,hdst]
   rw[e]
   refine⟨ih.defers,by simp only[Act.put,Array.size_setIfInBounds];exact ih.size,fun h hh hL t ht=>?_,fun t h=>?_⟩
   · simp only[Act.put]
     rcases List.mem_cons.1 hh with rfl|hh
     · rw[hdst]at ht;cases ht
       rw[Array.getElem?_setIfInBounds_self_of_lt (by rw[ih.size];exact hlt)]
     · have:d≠t:=fun e=>by subst e;exact hp.1 h hh d hdst ht
       rw[Array.getElem?_setIfInBounds_ne this];exact ih.got h hh hL t ht
   · simp only[Act.put]
     have:d≠t:=fun e=>by subst e;exact h k List.mem_cons_self rfl hdst
     rw[Array.getElem?_setIfInBounds_ne this];exact ih.old t (fun q hq hL=>h q (List.mem_cons_of_mem _ hq) hL)
theorem Qcs:∀(n:Nat) (l:List Nat),l.Nodup->(∀x∈l,x<n)->l.length<=n
 |0,[],_,_=>Nat.le_refl _
 |0,x::r,_,h=>absurd (h x List.mem_cons_self) (Nat.not_lt_zero _)
 |n+1,l,hn,h=>by
  by_cases hm:n∈l
  · have:=Qcs n (l.erase n) (hn.erase n) (fun x hx=>by
     rw[hn.mem_erase_iff]at hx
     have:=h x hx.2;omega)
    rw[List.length_erase_of_mem hm]at this
    omega
  · have:=Qcs n l hn (fun x hx=>by
     have:=h x hx
     have:x≠n:=fun e=>hm (e ▸ hx)
     omega)
    omega
def unl (listed:Array Bool) (n:Nat):Nat:=(List.range n).countP (fun j=>!listed.getD j false)
theorem Qci {f g:Nat->Bool}{i:Nat}(hf:f i=true) (hg:g i=false):∀ {l:List Nat},l.Nodup->i∈l->(∀j,j≠i->g j=f j)->l.countP f=l.countP g+1
 |[],_,h,_=>by simp at h
 |j::r,hn,h,hh=>by
  rw[List.nodup_cons]at hn
  rw[List.countP_cons,List.countP_cons]
  by_cases e:j=i
  · subst e
    have:r.countP f=r.countP g:=List.countP_congr (fun k hk=>by rw[hh k (fun e=>hn.1 (e ▸ hk))])
    rw[hf,hg,this];simp
  · rcases List.mem_cons.1 h with h|h
    · exact absurd h.symm e
    · rw[Qci hf hg hn.2 h hh,hh j e];omega
theorem QcB (listed:Array Bool) (i j:Nat) (hi:i<listed.size):(listed.setIfInBounds i true).getD j false=(if j=i then true else listed.getD j false):=by
 rw[Array.getD_eq_getD_getElem?,Array.getElem?_setIfInBounds,Array.getD_eq_getD_getElem?]
 by_cases e:i=j
 · subst e;simp[hi]
 · rw[if_neg e,if_neg (fun h=>e h.symm)]
theorem Qgw {listed:Array Bool}{n i:Nat}(hs:listed.size=n) (hi:i<n) (hL:listed.getD i false=false):unl listed n=unl (listed.setIfInBounds i true) n+1:=
 Qci (by simp[hL]) (by rw[QcB _ _ _ (by omega)];simp) List.nodup_range (List.mem_range.2 hi) (fun j hj=>by rw[QcB _ _ _ (by omega),if_neg hj])
theorem Qc0 {listed:Array Bool}{i:Nat}(h:i∈Region.ready .any all.toArray listed):∃o,all[i]?=some o/\listed.getD i true=false/\∀e∈o.after,Xk e=true->listed.getD e.on false=true:=by
 unfold Region.ready at h
 rw[List.mem_filter]at h
 obtain⟨h1,h2⟩:=h
 have hi:i<all.length:=by simpa using List.mem_range.1 h1
 refine⟨all[i],List.getElem?_eq_getElem hi,?_⟩
 rw[List.getElem?_toArray,List.getElem?_eq_getElem hi]at h2
 simp only[Option.map_some,Option.getD_some,Bool.and_eq_true,Bool.not_eq_true',Array.all_eq_true]at h2
 refine⟨h2.1,fun e he hb=>?_⟩
 obtain⟨k,hk,rfl⟩:=Array.mem_iff_getElem.1 he
 have:=h2.2 k hk
 rw[Qdr,hb]at this
 simpa using this
theorem QeS {B:List (List Nat)}(hst:QcV all B=true) {listed:Array Bool}(hs:listed.size=all.length) (h:Region.ready .any all.toArray listed=[]):∀j,j<all.length->listed.getD j false=true:=by
 intro j
 induction j using Nat.strongRecOn with
 |_ j ih=>
  intro hj
  cases hL:listed.getD j false with
  |true=>rfl
  |false=>
   exfalso
   have hL':listed.getD j true=false:=by
    rw[Array.getD_eq_getD_getElem?,Array.getElem?_eq_getElem (by omega)]at hL ⊢
    exact hL
   have:j∈Region.ready .any all.toArray listed:=by
    unfold Region.ready
    rw[List.mem_filter]
    refine⟨List.mem_range.2 (by simpa using hj),?_⟩
    rw[List.getElem?_toArray,List.getElem?_eq_getElem hj]
    simp only[Option.map_some,Option.getD_some,Bool.and_eq_true,Bool.not_eq_true',Array.all_eq_true]
    refine⟨hL',fun k hk=>?_⟩
    rw[Qdr]
    cases hb:Xk (all[j].after[k])with
    |false=>rfl
    |true=>
     have hlt:=(QcU hst (List.getElem?_eq_getElem hj)).2 _ (Array.getElem_mem hk) hb
     simp only[Bool.not_true,Bool.false_or]
     exact ih _ hlt (by omega)
   rw[h]at this
   simp at this
theorem Front.chk {N0:Nat}{hs:List Hop}{env:Env}{M:List SB}(h:Front V T Γ nt next fn id all N0 hs env M):∃H:List HX,chkB N0 all H=true/\∃bs:List HX,H=bs++hs.map (·.h):=by
 cases h with
 |fin hl hc hn=>exact⟨_,hc,[],rfl⟩
 |bar i o l ho hd hw hc hk=>exact⟨_,hc,[_],rfl⟩
structure QgZ (N0:Nat) (all:List Oper) (H:List HX):Prop where
 st:QcV all (XU [] all)=true
 pr:Xf (XU [] all) H=true
 br:Qgj all.length (XU [] all) H=true
 rf:∀x∈H,∀b∈x.f,b<N0\/b∈x.W\/∃y∈H,y.i∈bef all x.i/\b∈y.W
 lt:∀x∈H,x.i<all.length
theorem XS {N0:Nat}{H:List HX}(h:chkB N0 all H=true):QgZ N0 all H:=by
 unfold chkB at h
 simp only[Bool.and_eq_true,List.all_eq_true]at h
 obtain⟨⟨⟨⟨h1,h2⟩,h3⟩,h4⟩,h5⟩:=h
 refine⟨h1,h2,h3,fun x hx b hb=>?_,fun x hx=>Qt (h5 x hx)⟩
 have:=h4 x hx
 unfold refsB at this
 rw[List.all_eq_true]at this
 have:=this b hb
 simp only[Bool.or_eq_true,List.any_eq_true,Bool.and_eq_true]at this
 rcases this with (h|h)|⟨y,h1,h2,h3⟩
 · exact .inl (Qt h)
 · exact .inr (.inl (Qv.1 h))
 · exact .inr (.inr ⟨y,h1,Qv.1 h2,Qv.1 h3⟩)
theorem QQ {B:List (List Nat)}:∀ {bs hs:List HX},Xf B (bs++hs)=true->Xf B hs=true
 |[],_,h=>h
 |b::r,hs,h=>by
  simp only[List.cons_append,Xf,Bool.and_eq_true]at h
  exact QQ h.2
theorem Qce {B:List (List Nat)}{hs:List Hop}(hp:Xf B (hs.map (·.h))=true) {h k:Hop}(hh:h∈hs) (hk:k∈hs) (e:h.h.i=k.h.i):h=k:=by
 obtain⟨post,pre,rfl⟩:=List.append_of_mem hh
 rw[List.map_append,List.map_cons]at hp
 obtain⟨g1,g2⟩:=Qp hp
 rcases List.mem_append.1 hk with hk|hk
 · exact absurd e (g2 k.h (List.mem_map_of_mem hk)).1
 · rcases List.mem_cons.1 hk with rfl|hk
   · rfl
   · exact absurd e.symm (g1 k.h (List.mem_map_of_mem hk)).1
theorem QbO {B:List (List Nat)}(hst:QcV all B=true):∀ {hs:List Hop},Xf B (hs.map (·.h))=true->(∀k∈hs,all[k.h.i]?=some k.o)->hs.Pairwise (fun k q=>∀t,k.o.dst=some t->q.o.dst≠some t)
 |[],_,_=>List.Pairwise.nil
 |k::r,hp,ho=>by
  rw[List.map_cons]at hp
  have hp2:=hp
  simp only[Xf,Bool.and_eq_true]at hp2
  refine List.pairwise_cons.2 ⟨fun q hq t ht=>?_,QbO hst hp2.2 (fun q hq=>ho q (List.mem_cons_of_mem _ hq))⟩
  obtain⟨g1,-⟩:=Qp (post:=[]) hp
  exact (statB_spec hst (ho q (List.mem_cons_of_mem _ hq)) (ho k List.mem_cons_self) (g1 q.h (List.mem_map_of_mem hq)).1).1 t ht
def pres (N0:Nat) (L:Nat->Bool) (hs:List Hop):Nat->Bool:=fun b=>b.blt N0||hs.any (fun k=>L k.h.i&&memN b k.h.W)
theorem pres_iff {N0:Nat}{L:Nat->Bool}{hs:List Hop}{b:Nat}:pres N0 L hs b=true↔b<N0\/∃k∈hs,L k.h.i=true/\b∈k.h.W:=by
 unfold pres
 simp only[Bool.or_eq_true,List.any_eq_true,Bool.and_eq_true,Qv,Nat.blt_eq]
theorem QaB {N0:Nat}{L:Nat->Bool}{hs:List Hop}{bs:List HX}(hL:Qba all L) (hc:QgZ N0 all (bs++hs.map (·.h))) (ho:∀k∈hs,all[k.h.i]?=some k.o) (hin:∀i,L i=true->∃k∈hs,k.h.i=i)
 {k:Hop}(hk:k∈hs) (hLk:L k.h.i=true):∀b∈k.h.f,pres N0 L hs b=true:=by
 intro b hb
 rw[pres_iff]
 rcases hc.rf k.h (List.mem_append_right _ (List.mem_map_of_mem hk)) b hb with h|h|⟨y,hy,h1,h2⟩
 · exact .inl h
 · exact .inr ⟨k,hk,hLk,h⟩
 · have hLy:=Qai hL (ho k hk) hLk h1
   obtain⟨q,hq,he⟩:=hin _ hLy
   obtain⟨post,pre,e⟩:=List.append_of_mem hy
   have hp:=hc.pr
   have:q.h=y:=by
    have hqm:q.h∈bs++hs.map (·.h):=List.mem_append_right _ (List.mem_map_of_mem hq)
    rw[e]at hp hqm
    obtain⟨g1,g2⟩:=Qp hp
    rcases List.mem_append.1 hqm with h|h
    · exact absurd he.symm (g2 _ h).1
    · rcases List.mem_cons.1 h with h|h
      · exact h
      · exact absurd he (g1 _ h).1
   exact .inr ⟨q,hq,by rw[he];exact hLy,by rw[this];exact h2⟩
theorem QcD {N0:Nat}{L:Nat->Bool}{p:Nat->Bool}(hM0:MemAv (sc N0) M0) (hp0:∀b,b<N0->p b=true):∀ {hs:List Hop},(∀k∈hs,L k.h.i=true->(k.us.map (·.1)).Nodup/\(∀b∈k.us.map (·.1),p b=true)/\∀b∈QM k.us,p b=true)->MemAv p (Qw L M0 hs)
 |[],_=>fun b=>(hM0 b).imp id (fun h=>⟨hp0 b (Qt h.1),SB.av_mono (fun i hi=>hp0 i (Qt hi)) h.2⟩)
 |k::r,h=>by
  have ih:=QcD hM0 hp0 (hs:=r) (L:=L) (fun q hq=>h q (List.mem_cons_of_mem _ hq))
  simp only[Qw]
  cases hL:L k.h.i
  · exact ih
  · rw[cond_true]
    obtain⟨h1,h2,h3⟩:=h k List.mem_cons_self hL
    intro b
    by_cases hb:b∈k.us.map (·.1)
    · obtain⟨⟨b',x⟩,hq,rfl⟩:=List.mem_map.1 hb
      right
      rw[Qu k.us _ h1 hq]
      exact⟨h2 _ hb,SB.av_refs (fun c hc=>h3 c (Qdw hq hc))⟩
    · rw[Qm k.us _ hb];exact ih b
theorem QbI:∀ {hs:List Hop}{k:Hop},k∈hs->∀b∈k.us.map (·.1),b<(Qb3 M0 hs).length
 |[],k,h,_,_=>by simp at h
 |q::r,k,h,b,hb=>by
  simp only[Qb3]
  rcases List.mem_cons.1 h with rfl|h
  · exact (Xo k.us _).2 b hb
  · have:=QbI h b hb
    have:=(Xo q.us (Qb3 M0 r)).1
    omega
theorem QcC:∀(hs:List Hop),M0.length<=(Qb3 M0 hs).length
 |[]=>Nat.le_refl _
 |q::r=>by
  have:=QcC r
  have:=(Xo q.us (Qb3 M0 r)).1
  simp only[Qb3];omega
theorem PA.put {ρ ρ':Nat->Nat}{L L':Nat->Bool}{hs hs':List Hop}{a:Act}(h:PA ρ a0 L hs nt a) {o:Oper}{i:Nat}{x:SV}(hd:Qb5 nt o.dst=true)
 (hold:∀k∈hs',L' k.h.i=true->k.h.i≠i->k∈hs/\L k.h.i=true/\k.x.den ρ'=k.x.den ρ/\∀t,o.dst=some t->k.o.dst≠some t) (hnew:∀k∈hs',k.h.i=i->k.o=o/\k.x=x) (hold2:∀k∈hs,L k.h.i=true->k∈hs'/\L' k.h.i=true) (hi:∃k∈hs',k.h.i=i/\L' k.h.i=true):
 PA ρ' a0 L' hs' nt (a.put o.dst (x.den ρ')):=by
 obtain⟨k0,hk0,hk0i,hk0L⟩:=hi
 obtain⟨hk0o,hk0x⟩:=hnew k0 hk0 hk0i
 cases hdst:o.dst with
 |none=>
  show PA ρ' a0 L' hs' nt a
  refine⟨h.defers,h.size,fun k hk hL t ht=>?_,fun t hh=>h.old t (fun k hk hL=>hh k (hold2 k hk hL).1 (hold2 k hk hL).2)⟩
  by_cases e:k.h.i=i
  · rw[(hnew k hk e).1,hdst]at ht;cases ht
  · obtain⟨g1,g2,g3,-⟩:=hold k hk hL e
    rw[g3];exact h.got k g1 g2 t ht
 |some d=>
  rw[hdst]at hd
  have hlt:=Qt hd
  refine⟨h.defers,by simp only[Act.put,Array.size_setIfInBounds];exact h.size,fun k hk hL t ht=>?_,fun t hh=>?_⟩
  · simp only[Act.put]
    by_cases e:k.h.i=i
    · obtain⟨g1,g2⟩:=hnew k hk e
      rw[g1,hdst]at ht;cases ht
      rw[Array.getElem?_setIfInBounds_self_of_lt (by rw[h.size];exact hlt),g2]
    · obtain⟨g1,g2,g3,g4⟩:=hold k hk hL e
      have:d≠t:=fun e=>by subst e;exact g4 d hdst ht
      rw[Array.getElem?_setIfInBounds_ne this,g3];exact h.got k g1 g2 t ht
  · simp only[Act.put]
    have:d≠t:=fun e=>by subst e;exact hh k0 hk0 hk0L (by rw[hk0o];exact hdst)
    rw[Array.getElem?_setIfInBounds_ne this]
    exact h.old t (fun k hk hL=>hh k (hold2 k hk hL).1 (hold2 k hk hL).2)
theorem QfJ {ρ:Nat->Nat}{N0:Nat}{L:Nat->Bool}{H:List HX}{post pre:List Hop}{i:Nat}{o:Oper}{a:Act}(hc:QgZ N0 all H) (hL:Qba all L) (ho:all[i]?=some o) (he:∀e∈o.after,Xk e=true->L e.on=true)
 {hs:List Hop}(hoo:∀k∈hs,all[k.h.i]?=some k.o) (hsub:∀k∈pre,k∈hs) (hin:∀k∈hs,k∈post\/k∈pre\/L k.h.i=false) (hpost:∀k∈post,k.h.i≠i/\k.h.i∉bef all i) (hpre:∀k∈pre,k.h.i≠i/\i∉bef all k.h.i) (hLi:L i=false)
 (hpa:PA ρ a0 L hs nt a) (hpt:PA ρ a0 (fun _=>true) pre nt (actT ρ a0 pre)):∀t∈o.looksAt all.toArray,a.tmps[t]?=(actT ρ a0 pre).tmps[t]?:=by
 intro t ht
 by_cases h:∃q∈pre,q.o.dst=some t
 · obtain⟨q,hq,hd⟩:=h
   have hb:=((statB_spec hc.st ho (hoo q (hsub q hq)) (fun e=>(hpre q hq).1 e.symm)).2 t hd ht).resolve_right (hpre q hq).2
   have hLq:=QaN hL ho he _ hb
   rw[hpa.got q (hsub q hq) hLq t hd,hpt.got q hq rfl t hd]
 · rw[hpt.old t (fun q hq _ hd=>h ⟨q,hq,hd⟩)]
   refine hpa.old t (fun q hq hLq hd=>?_)
   rcases hin q hq with h1|h1|h1
   · obtain⟨g1,g2⟩:=hpost q h1
     rcases (statB_spec hc.st ho (hoo q hq) (fun e=>g1 e.symm)).2 t hd ht with h2|h2
     · exact g2 h2
     · rw[Qai hL (hoo q hq) hLq h2]at hLi;cases hLi
   · exact h ⟨q,h1,hd⟩
   · rw[h1]at hLq;cases hLq
set_option maxHeartbeats 2000000 in
theorem Qf4 {N0:Nat}(hΓ:GamOk P w0 S Γ) (hV:OldOk V w0 S) (hT:TabOk P T) (hT2:TysOk P T) (hlen:M0.length=N0) (hM0:MemAv (sc N0) M0) (henv:Xc (sc N0) env0=true)
 (hd0:a0.defers=[]) (hs0:a0.tmps.size=nt) (hE0:∀ρ,(∀i,i<N0->ρ i=ρ0 i)->EnvOk ρ nt env0 a0)
 (hnext:∀env M ρ a w,(∀i,i<N0->ρ i=ρ0 i)->N0<=M.length->MemAv (sc M.length) M->Xc (sc M.length) env=true->next env M->EnvOk ρ nt env a->Mem w0 S (denM ρ 0 M) w->Q .normal a w):
 ∀(fuel:Nat) (listed:Array Bool) (hs:List Hop) (env:Env) (M:List SB) (a:Act) (w:World) (ρ:Nat->Nat),listed.size=all.length->unl listed all.length=fuel->Qba all (fun j=>listed.getD j false) ->
  DP V T Γ nt all env0 M0 hs env M->Front V T Γ nt next fn id all N0 hs env M->(∀i,listed.getD i false=true->∃k∈hs,k.h.i=i)->(∀k∈hs,k.h.bar=true->listed.getD k.h.i false=true) ->
  PA ρ a0 (fun j=>listed.getD j false) hs nt a->(∀i,i<N0->ρ i=ρ0 i)->Mem w0 S (denM ρ 0 (Qw (fun j=>listed.getD j false) M0 hs)) w->wpAny P .any all.toArray Q fuel listed a w:=by
 have hend:∀(listed:Array Bool) (hs:List Hop) (env:Env) (M:List SB) (a:Act) (w:World) (ρ:Nat->Nat),listed.size=all.length->(∀j,j<all.length->listed.getD j false=true)->Qba all (fun j=>listed.getD j false) ->
  DP V T Γ nt all env0 M0 hs env M->Front V T Γ nt next fn id all N0 hs env M->(∀i,listed.getD i false=true->∃k∈hs,k.h.i=i) ->
  PA ρ a0 (fun j=>listed.getD j false) hs nt a->(∀i,i<N0->ρ i=ρ0 i)->Mem w0 S (denM ρ 0 (Qw (fun j=>listed.getD j false) M0 hs)) w->Q .normal a w:=by
  intro listed hs env M a w ρ hsz hall hL hd hF hin hpa hag HM
  have hok:=hd.allOk
  obtain⟨H,hH,bs,rfl⟩:=hF.chk
  have hc:=XS hH
  have hLk:∀k∈hs,listed.getD k.h.i false=true:=fun k hk=>hall _ (hc.lt k.h (List.mem_append_right _ (List.mem_map_of_mem hk)))
  cases hF with
  |bar i o l ho hdo hw hcc hk=>
   exfalso
   have hi:=(List.getElem?_eq_some_iff.1 ho).1
   obtain⟨k,hk,e⟩:=hin i (hall i hi)
   have:=(Qp (post:=[]) (XS hcc).pr).1 k.h (List.mem_map_of_mem hk)
   exact this.1 e
  |fin hl hcc hn=>
   have hm:=hd.mem
   have hpt:=QbX (ρ:=ρ) hd0 hs0 (hs:=hs) (fun k hk=>(hok k hk).2.1) (QbO hc.st (QQ hc.pr) (fun k hk=>(hok k hk).1))
   have hE:=hd.env (hE0 ρ hag)
   have hlt:∀k∈hs,∀b∈k.h.W,b<M.length:=fun k hk b hb=>by rw[hm];exact QbI hk b (by rw[(hok k hk).2.2.1];exact hb)
   have hge:N0<=M.length:=by rw[hm,<- hlen];exact QcC hs
   have hpm:∀b,pres N0 (fun j=>listed.getD j false) hs b=true->sc M.length b=true:=fun b hb=>by
    rcases pres_iff.1 hb with h|⟨k,hk,-,hb⟩
    · exact QU (by omega)
    · exact QU (hlt k hk b hb)
   have hrefs:=fun (k:Hop) (hk:k∈hs)=>QaB hL hc (fun k hk=>(hok k hk).1) hin hk (hLk k hk)
   have hfe:∀b,getB (Qw (fun j=>listed.getD j false) M0 hs) b=getB M b:=fun b=>by
    rw[hm];exact QbJ (fun k hk=>(hok k hk).2.2.2.1) (fun k hk h=>by rw[hLk k hk]at h;cases h)
   have hav:MemAv (sc M.length) M:=by
    have:=QcD (L:=fun j=>listed.getD j false) (p:=sc M.length) hM0 (fun b hb=>QU (by omega)) (hs:=hs) (fun k hk hLk'=>⟨(hok k hk).2.2.2.1,fun b hb=>QU (hlt k hk b (by rw[<- (hok k hk).2.2.1];exact hb)),fun b hb=>hpm b (hrefs k hk b ((hok k hk).2.2.2.2 b (List.mem_append_right _ hb)))⟩)
    intro b
    rw[<- hfe b];exact this b
   have henv':Xc (sc M.length) env=true:=by
    have key:∀ {hs' env' M'},DP V T Γ nt all env0 M0 hs' env' M'->(∀k∈hs',k∈hs)->Xc (sc M.length) env'=true:=by
     intro hs' env' M' hd'
     induction hd' with
     |nil=>intro _;exact Xt (fun i hi=>QU (by have:=Qt hi;omega)) henv
     |same hd' hx ih=>intro hsub;simp only[Xc,Bool.and_eq_true];exact⟨QgM (ih hsub) hx,ih hsub⟩
     | @op hs' env' M' k hd' ho ih=>
       intro hsub
       have h1:=ih (fun q hq=>hsub q (List.mem_cons_of_mem _ hq))
       unfold putS
       split
       · simp only[Xc,Bool.and_eq_true]
         exact⟨SV.av_refs (fun b hb=>hpm b (hrefs k (hsub k List.mem_cons_self) b (ho.2.2.2.2.1 b (List.mem_append_left _ hb)))),h1⟩
       · exact h1
    exact key hd (fun k hk=>hk)
   have hEa:EnvOk ρ nt env a:=by
    refine⟨hpa.defers,hpa.size,fun t x hx=>?_⟩
    have:=hE.get t x hx
    rw[<- this]
    by_cases h:∃q∈hs,q.o.dst=some t
    · obtain⟨q,hq,hdq⟩:=h
      rw[hpa.got q hq (hLk q hq) t hdq,hpt.got q hq rfl t hdq]
    · rw[hpa.old t (fun q hq _ hdq=>h ⟨q,hq,hdq⟩),hpt.old t (fun q hq _ hdq=>h ⟨q,hq,hdq⟩)]
   rw[Qa8 hfe]at HM
   exact hnext env M ρ a w hag hge hav henv' hn hEa HM
 intro fuel
 induction fuel with
 |zero=>
  intro listed hs env M a w ρ hsz hun hL hd hF hin hbar hpa hag HM
  have hall:∀j,j<all.length->listed.getD j false=true:=fun j hj=>by
   unfold unl at hun
   rw[List.countP_eq_zero]at hun
   have:=hun j (List.mem_range.2 hj)
   simpa using this
  refine⟨?_,hend listed hs env M a w ρ hsz hall hL hd hF hin hpa hag HM⟩
  cases hr:Region.ready .any all.toArray listed with
  |nil=>rfl
  |cons i r=>
   exfalso
   obtain⟨o,ho,hl,-⟩:=Qc0 (all:=all) (listed:=listed) (i:=i) (by rw[hr];exact List.mem_cons_self)
   have hi:=(List.getElem?_eq_some_iff.1 ho).1
   have:=hall i hi
   rw[Array.getD_eq_getD_getElem?,Array.getElem?_eq_getElem (by omega)]at this hl
   simp only[Option.getD_some]at this hl
   rw[this]at hl;cases hl
 |succ fuel ih=>
  intro listed hs env M a w ρ hsz hun hL hd hF hin hbar hpa hag HM
  have hok:=hd.allOk
  obtain⟨H,hH,bs,rfl⟩:=hF.chk
  have hc:=XS hH
  have hpr:=QQ hc.pr
  refine⟨fun hr=>hend listed hs env M a w ρ hsz (QeS hc.st hsz hr) hL hd hF hin hpa hag HM,fun i hi=>?_⟩
  obtain⟨o,ho,hli,he⟩:=Qc0 hi
  have hilt:=(List.getElem?_eq_some_iff.1 ho).1
  have hli':listed.getD i false=false:=by
   rw[Array.getD_eq_getD_getElem?,Array.getElem?_eq_getElem (by omega)]at hli ⊢
   exact hli
  have hun':unl (listed.setIfInBounds i true) all.length=fuel:=by have:=Qgw hsz hilt hli';omega
  have hsz':(listed.setIfInBounds i true).size=all.length:=by rw[Array.size_setIfInBounds];exact hsz
  have hL':∀j,(listed.setIfInBounds i true).getD j false=(if j=i then true else listed.getD j false):=fun j=>QcB _ _ _ (by omega)
  have hLn:∀j,j≠i->(listed.setIfInBounds i true).getD j false=listed.getD j false:=fun j hj=>by rw[hL',if_neg hj]
  have hcl':Qba all (fun j=>(listed.setIfInBounds i true).getD j false):=by
   intro j p hp hj e hee hb
   by_cases hji:j=i
   · subst hji
     rw[ho]at hp;cases hp
     have:=he e hee hb
     simp only[hL'];split<;>simp_all
   · simp only[hLn j hji]at hj
     have:=hL j p hp hj e hee hb
     simp only[hL'];split<;>simp_all
  have hst:=(QcU hc.st ho).1
  have hoo:∀k∈hs,all[k.h.i]?=some k.o:=fun k hk=>(hok k hk).1
  have hpav:MemAv (pres N0 (fun j=>listed.getD j false) hs) (Qw (fun j=>listed.getD j false) M0 hs):=
   QcD hM0 (fun b hb=>pres_iff.2 (.inl hb)) (fun k hk hLk=>⟨(hok k hk).2.2.2.1,fun b hb=>pres_iff.2 (.inr ⟨k,hk,hLk,by rw[<- (hok k hk).2.2.1];exact hb⟩),fun b hb=>QaB hL hc hoo hin hk hLk b ((hok k hk).2.2.2.2 b (List.mem_append_right _ hb))⟩)
  have exec:∀(post pre hs1:List Hop) (env':Env) (M':List SB) (R W:List Nat),hs=post++hs1->(hs1=pre\/∃k,hs1=k::pre/\listed.getD k.h.i false=false)->DP V T Γ nt all env0 M0 pre env' M' ->
   (∀q∈post,q.h.i≠i/\q.h.i∉bef all i/\(listed.getD q.h.i false=true->(∀b∈R,b∉q.h.W)/\∀b∈W,b∉q.h.W))->(∀q∈pre,q.h.i≠i/\i∉bef all q.h.i/\(listed.getD q.h.i false=false->(∀b∈R,b∉q.h.W)/\∀b∈W,b∉q.h.W)) ->
   (∀t∈o.looksAt all.toArray,a.tmps[t]?=(actT ρ a0 pre).tmps[t]?)/\EnvOk ρ nt env' (actT ρ a0 pre)/\(∀b,b∈R\/b∈W->getB (Qw (fun j=>listed.getD j false) M0 hs) b=getB M' b) /\
   (∀b∈W,M'.length<=b->pres N0 (fun j=>listed.getD j false) hs b=false):=by
   intro post pre hs1 env' M' R W ehs e0 hdp hpost hpre
   have hsub:∀q∈pre,q∈hs:=fun q hq=>by
    rw[ehs]
    rcases e0 with rfl|⟨k,rfl,-⟩
    · exact List.mem_append_right _ hq
    · exact List.mem_append_right _ (List.mem_cons_of_mem _ hq)
   have hm:=hdp.mem
   have hpt:=QbX (ρ:=ρ) hd0 hs0 (hs:=pre) (fun k hk=>(hok k (hsub k hk)).2.1) (QbO hc.st (by
    rw[ehs,List.map_append]at hpr
    have:=QQ hpr
    rcases e0 with rfl|⟨k,rfl,-⟩
    · exact this
    · exact QQ (bs:=[k.h]) this) (fun k hk=>hoo k (hsub k hk)))
   have hfold:∀b,b∈R\/b∈W->getB (Qw (fun j=>listed.getD j false) M0 hs) b=getB M' b:=by
    intro b hb
    rw[ehs,Qcg (fun q hq hLq=>by
     rw[(hok q (by rw[ehs];exact List.mem_append_left _ hq)).2.2.1]
     rcases hb with hb|hb
     · exact ((hpost q hq).2.2 hLq).1 b hb
     · exact ((hpost q hq).2.2 hLq).2 b hb)]
    have:Qw (fun j=>listed.getD j false) M0 hs1=Qw (fun j=>listed.getD j false) M0 pre:=by
     rcases e0 with rfl|⟨k,rfl,hk⟩
     · rfl
     · simp only[Qw,hk,cond_false]
    rw[this,hm]
    refine QbJ (fun q hq=>(hok q (hsub q hq)).2.2.2.1) (fun q hq hLq=>?_)
    rw[(hok q (hsub q hq)).2.2.1]
    rcases hb with hb|hb
    · exact ((hpre q hq).2.2 hLq).1 b hb
    · exact ((hpre q hq).2.2 hLq).2 b hb
   refine⟨QfJ (post:=post) (hs:=hs) hc hL ho (fun e hee hb=>he e hee hb) hoo hsub (fun q hq=>?_) (fun q hq=>⟨(hpost q hq).1,(hpost q hq).2.1⟩) (fun q hq=>⟨(hpre q hq).1,(hpre q hq).2.1⟩) hli' hpa hpt,hdp.env (hE0 ρ hag),hfold,fun b hb hge=>?_⟩
   · rw[ehs]at hq
     rcases List.mem_append.1 hq with hq|hq
     · exact .inl hq
     · rcases e0 with rfl|⟨k,rfl,hk⟩
       · exact .inr (.inl hq)
       · rcases List.mem_cons.1 hq with rfl|hq
         · exact .inr (.inr hk)
         · exact .inr (.inl hq)
   · cases hp:pres N0 (fun j=>listed.getD j false) hs b with
     |false=>rfl
     |true=>
      exfalso
      have hM'ge:N0<=M'.length:=by rw[hm,<- hlen];exact QcC pre
      rcases pres_iff.1 hp with h|⟨q,hq,hLq,hbq⟩
      · omega
      · rw[ehs]at hq
        rcases List.mem_append.1 hq with hq|hq
        · exact ((hpost q hq).2.2 hLq).2 b hb hbq
        · have hqpre:q∈pre:=by
           rcases e0 with rfl|⟨k,rfl,hk⟩
           · exact hq
           · rcases List.mem_cons.1 hq with rfl|hq
             · rw[hk]at hLq;cases hLq
             · exact hq
          have:b<M'.length:=by rw[hm];exact QbI hqpre b (by rw[(hok q (hsub q hqpre)).2.2.1];exact hbq)
          omega
  unfold wpOp
  rw[List.getElem?_toArray,ho]
  dsimp only
  by_cases hex:∃k∈hs,k.h.i=i
  · -- an operation that the run has behind it
    obtain⟨k,hk,rfl⟩:=hex
    obtain⟨post,pre,ehs⟩:=List.append_of_mem hk
    obtain⟨env',M',hdp,hop⟩:=hd.split post k pre ehs
    have hko:o=k.o:=by have:=hop.1;rw[ho]at this;exact Option.some.inj this
    subst hko
    have hpr':=hpr
    rw[ehs,List.map_append,List.map_cons]at hpr'
    obtain⟨p1,p2⟩:=Qp hpr'
    have hbefL:∀j,j∈bef all k.h.i->listed.getD j false=true:=fun j hj=>QaN hL ho (fun e hee hb=>he e hee hb) j hj
    obtain⟨x1,x2,x3,x4⟩:=exec post pre (k::pre) env' M' k.h.R k.h.W ehs (.inr ⟨k,rfl,hli'⟩) hdp (fun q hq=>by
     obtain⟨g1,g2,g3⟩:=p2 q.h (List.mem_map_of_mem hq)
     refine⟨fun e=>g1 e.symm,g2,fun hLq=>?_⟩
     rcases g3 with g3|g3
     · have:=Qai hL (hoo q (by rw[ehs];exact List.mem_append_left _ hq)) hLq g3
       rw[hli']at this;cases this
     · have:=XG g3
       exact⟨fun b hb hbq=>(this.2 b hbq).1 hb,fun b hb hbq=>(this.2 b hbq).2 hb⟩) (fun q hq=>by
     obtain⟨g1,g2,g3⟩:=p1 q.h (List.mem_map_of_mem hq)
     refine⟨g1,g2,fun hLq=>?_⟩
     rcases g3 with g3|g3
     · have:=hbefL _ g3
       rw[hLq]at this;cases this
     · have:=XG g3
       exact⟨fun b hb hbq=>(this.1 b hbq).1 hb,fun b hb hbq=>(this.1 b hbq).2 hb⟩)
    have hexec:execOp a.eval k.o=execOp (actT ρ a0 pre).eval k.o:=execOp_congr k.o hst (fun x hx=>Qdg (fun t hxt=>x1 t (by
     unfold Oper.looksAt
     refine List.mem_append_left _ (List.mem_filterMap.2 ⟨x,by simpa using hx,by rw[hxt]⟩))))
    have hwt:=Qbr (ops:=all.toArray) (o:=k.o) x1
    have hkhs:k∈hs:=hk
    have hnext2:∀(w':World) (ρ':Nat->Nat),(∀b,pres N0 (fun j=>listed.getD j false) hs b=true->ρ' b=ρ b)->Mem w0 S (denM ρ' 0 (Qk (Qw (fun j=>listed.getD j false) M0 hs) k.us)) w' ->
     wpAny P .any all.toArray Q fuel (listed.setIfInBounds k.h.i true) (a.put k.o.dst (k.x.den ρ')) w':=by
     intro w' ρ' hρ' HM'
     have hag':∀i,i<N0->ρ' i=ρ0 i:=fun i hi=>(hρ' i (pres_iff.2 (.inl hi))).trans (hag i hi)
     refine ih _ hs env M _ w' ρ' hsz' hun' hcl' hd hF (fun j hj=>?_) (fun q hq hb=>?_) ?_ hag' ?_
     · by_cases e:j=k.h.i
       · exact⟨k,hk,e.symm⟩
       · rw[hLn j e]at hj;exact hin j hj
     · have:=hbar q hq hb
       rw[hL'];split<;>simp_all
     · refine PA.put hpa hop.2.1 (fun q hq hLq hne=>?_) (fun q hq e=>?_) (fun q hq hLq=>⟨hq,by simp only[hL'];split<;>simp_all⟩) ⟨k,hk,rfl,by simp only[hL',if_true]⟩
       · simp only[hLn _ hne]at hLq
         refine⟨hq,hLq,?_,fun t ht hd=>?_⟩
         · refine SV.av_den (p:=pres N0 (fun j=>listed.getD j false) hs) hρ' (SV.av_refs (fun b hb=>QaB hL hc hoo hin hq hLq b ((hok q hq).2.2.2.2 b (List.mem_append_left _ hb))))
         · exact (statB_spec hc.st ho (hoo q hq) (fun e=>hne e.symm)).1 t hd ht
       · have:=hop.1
         have e2:=Qce hpr hq hk e
         subst e2;exact⟨rfl,rfl⟩
     · have hpt:∀b,getB (Qw (fun j=>(listed.setIfInBounds k.h.i true).getD j false) M0 hs) b=getB (Qk (Qw (fun j=>listed.getD j false) M0 hs) k.us) b:=by
        intro b
        rw[ehs]
        refine Qdc hli' (by simp only[hL',if_true]) (hok k hk).2.2.2.1 (fun q hq=>hLn _ (fun e=>(p2 q.h (List.mem_map_of_mem hq)).1 e.symm)) (fun q hq=>hLn _ (p1 q.h (List.mem_map_of_mem hq)).1) (fun q hq hLq c hc2=>?_) (fun q hq=>(hok q (by rw[ehs];exact List.mem_append_left _ hq)).2.2.2.1)
        have hqhs:q∈hs:=by rw[ehs];exact List.mem_append_left _ hq
        rw[(hok q hqhs).2.2.1]
        rw[(hok k hk).2.2.1]at hc2
        obtain⟨g1,g2,g3⟩:=p2 q.h (List.mem_map_of_mem hq)
        rcases g3 with g3|g3
        · have:=Qai hL (hoo q hqhs) hLq g3
          rw[hli']at this;cases this
        · exact fun hcq=>((XG g3).2 c hcq).2 hc2
       rw[Qa8 hpt];exact HM'
    rcases hop.2.2.2.2.2 with⟨hx0,hu0,hskip⟩|⟨hwant,hR,hW,hb|hst2⟩
    · rw[if_neg (by rw[hwt,hskip ρ _ x2];simp)]
      have:=hnext2 w ρ (fun _ _=>rfl) (by rw[hu0];exact HM)
      rw[hx0]at this
      exact this
    · exact absurd (hbar k hk hb) (by rw[hli'];simp)
    · rw[if_pos (by rw[hwt];exact hwant ρ _ x2)]
      left
      refine QaP ?_
      rw[hexec]
      have hE:=QcG (P:=P) (V:=V) (ρ:=ρ) (M:=M') (nx:=M'.length) (env:=env') (T:=T) (hV.v HM.kept) hT hT2 x2 k.o
      rw[hR,hW]at x3
      have hWn:(rwE Γ M' (Qx V T env' M' M'.length k.o.op)).2.1.Nodup:=by rw[<- hW,<- hop.2.2.1];exact hop.2.2.2.1
      have hleft:=Qco (o:=k.o) hΓ HM.kept hE (fun b hb x hx=>by
       rw[<- x3 b (.inl hb)]at hx;exact HM.at b x hx) (by
       have:=HM.some _ hWn
       rw[Qae _ (fun b hb=>x3 b (.inr hb))]at this
       exact this) hst2
      refine Does.mono hleft ?_
      rintro v w' ⟨x,us,ρ',⟨rfl,rfl⟩,h1,h2,h3,rfl,h4⟩
      have hρ':∀b,pres N0 (fun j=>listed.getD j false) hs b=true->ρ' b=ρ b:=fun b hb=>by
       refine h3 b ?_
       by_cases hbW:b∈(rwE Γ M' (Qx V T env' M' M'.length k.o.op)).2.1
       · left
         rcases Nat.lt_or_ge b M'.length with h|h
         · exact h
         · have:=x4 b (by rw[hW];exact hbW) h
           rw[this]at hb;cases hb
       · exact .inr hbW
      refine hnext2 w' ρ' hρ' (HM.ups hpav hρ' k.us hop.2.2.2.1 ?_)
      rw[h1,Qae _ (fun b hb=>x3 b (.inr hb))]
      exact h4
  · -- the one at which the run stands
    cases hF with
    |fin hl hcc hn=>
     exfalso
     have hnd:(hs.map (fun k=>k.h.i)).Nodup:=by
      have:∀(l:List Hop),Xf (XU [] all) (l.map (·.h))=true->(l.map (fun k=>k.h.i)).Nodup:=by
       intro l
       induction l with
       |nil=>intro _;exact List.nodup_nil
       |cons q r ih=>
        intro h
        rw[List.map_cons]at h
        have h1:=(Qp (post:=[]) h).1
        simp only[Xf,Bool.and_eq_true]at h
        refine List.nodup_cons.2 ⟨fun hm=>?_,ih h.2⟩
        obtain⟨z,hz,e⟩:=List.mem_map.1 hm
        exact (h1 z.h (List.mem_map_of_mem hz)).1 e
      exact this hs hpr
     have:=Qcs all.length (i::hs.map (fun k=>k.h.i)) (List.nodup_cons.2 ⟨fun h=>by obtain⟨z,hz,e⟩:=List.mem_map.1 h;exact hex ⟨z,hz,e⟩,hnd⟩) (fun j hj=>by
      rcases List.mem_cons.1 hj with rfl|hj
      · exact hilt
      · obtain⟨z,hz,rfl⟩:=List.mem_map.1 hj
        exact hc.lt z.h (List.mem_append_right _ (List.mem_map_of_mem hz)))
     simp only[List.length_cons,List.length_map]at this
     omega
    |bar ib ob l hob hdo hw hcc hkk=>
     have hcb:=XS hcc
     have hiib:i=ib:=by
      by_cases e:i=ib
      · exact e
      · exfalso
        have hbr:=hcb.br
        simp only[Qgj,Bool.and_eq_true,cond_true,List.all_eq_true]at hbr
        have:=hbr.1 i (List.mem_range.2 hilt)
        simp only[Bool.or_eq_true,Qv,List.mem_cons,List.map_map,List.mem_map,Function.comp]at this
        rcases this with (h|⟨q,hq,h⟩)|h
        · exact e h
        · exact hex ⟨q,hq,h⟩
        · have hLb:=QaN hL ho (fun e hee hb=>he e hee hb) ib h
          obtain⟨q,hq,e2⟩:=hin ib hLb
          exact ((Qp (post:=[]) hcb.pr).1 q.h (List.mem_map_of_mem hq)).1 e2
     subst hiib
     rw[ho]at hob
     have hob:=Option.some.inj hob
     subst hob
     have p1:=(Qp (post:=[]) hcb.pr).1
     have hbefL:∀j,j∈bef all i->listed.getD j false=true:=fun j hj=>QaN hL ho (fun e hee hb=>he e hee hb) j hj
     obtain⟨x1,x2,x3,x4⟩:=exec [] hs hs env M (rwE Γ M (Qx V T env M M.length o.op)).1 (rwE Γ M (Qx V T env M M.length o.op)).2.1 rfl (.inl rfl) hd (by simp) (fun q hq=>by
      obtain⟨g1,g2,g3⟩:=p1 q.h (List.mem_map_of_mem hq)
      refine⟨g1,g2,fun hLq=>?_⟩
      rcases g3 with g3|g3
      · have:=hbefL _ g3
        rw[hLq]at this;cases this
      · have:=XG g3
        exact⟨fun b hb hbq=>(this.1 b hbq).1 hb,fun b hb hbq=>(this.1 b hbq).2 hb⟩)
     have hexec:execOp a.eval o=execOp (actT ρ a0 hs).eval o:=execOp_congr o hst (fun x hx=>Qdg (fun t hxt=>x1 t (by
      unfold Oper.looksAt
      refine List.mem_append_left _ (List.mem_filterMap.2 ⟨x,by simpa using hx,by rw[hxt]⟩))))
     have hwt:=Qbr (ops:=all.toArray) (o:=o) x1
     rw[if_pos (by rw[hwt];exact hw ρ _ x2)]
     left
     refine QaP ?_
     rw[hexec]
     have hE:=QcG (P:=P) (V:=V) (ρ:=ρ) (M:=M) (nx:=M.length) (env:=env) (T:=T) (hV.v HM.kept) hT hT2 x2 o
     have hWn:(rwE Γ M (Qx V T env M M.length o.op)).2.1.Nodup:=Qbu hkk
     have hleft:=Qco (o:=o) hΓ HM.kept hE (fun b hb x hx=>by
      rw[<- x3 b (.inl hb)]at hx;exact HM.at b x hx) (by
      have:=HM.some _ hWn
      rw[Qae _ (fun b hb=>x3 b (.inr hb))]at this
      exact this) hkk
     refine Does.mono hleft ?_
     rintro v w' ⟨x,us,ρ',hK,h1,h2,h3,rfl,h4⟩
     have hρ':∀b,pres N0 (fun j=>listed.getD j false) hs b=true->ρ' b=ρ b:=fun b hb=>by
      refine h3 b ?_
      by_cases hbW:b∈(rwE Γ M (Qx V T env M M.length o.op)).2.1
      · left
        rcases Nat.lt_or_ge b M.length with h|h
        · exact h
        · have:=x4 b hbW h
          rw[this]at hb;cases hb
      · exact .inr hbW
     have HM':=HM.ups hpav hρ' us (by rw[h1];exact h2) (by
      rw[h1,Qae _ (fun b hb=>x3 b (.inr hb))]
      exact h4)
     let k:Hop:=⟨⟨i,(rwE Γ M (Qx V T env M M.length o.op)).1,(rwE Γ M (Qx V T env M M.length o.op)).2.1,x.refs++QM us,true⟩,o,x,us⟩
     have hdk:DP V T Γ nt all env0 M0 (k::hs) (putS o.dst x env) (Qk M us):=.op hd ⟨ho,hdo,h1,by rw[h1];exact h2,fun b hb=>hb,.inr ⟨hw,rfl,rfl,.inl rfl⟩⟩
     obtain⟨hs2,env2,M2,d2,F2,nb2⟩:=Qad (hs:=k::hs) hΓ l _ _ hdk hK
     have hag':∀i,i<N0->ρ' i=ρ0 i:=fun i hi=>(hρ' i (pres_iff.2 (.inl hi))).trans (hag i hi)
     obtain⟨H2,hH2,bs2,rfl⟩:=F2.chk
     have hc2:=XS hH2
     have hpr2:=QQ hc2.pr
     have hpr3:=hpr2
     rw[List.map_append]at hpr3
     have hnot2:∀q∈hs2,(∀z∈k::hs,z.h.i≠q.h.i):=fun q hq z hz=>by
      obtain⟨post,pre,e⟩:=List.append_of_mem hz
      rw[e,List.map_append,List.map_cons,<- List.append_assoc]at hpr3
      exact ((Qp hpr3).2 q.h (List.mem_append_left _ (List.mem_map_of_mem hq))).1
     have hL2off:∀q∈hs2,(listed.setIfInBounds i true).getD q.h.i false=false:=fun q hq=>by
      have hne:q.h.i≠i:=fun e=>hnot2 q hq k List.mem_cons_self e.symm
      rw[hLn _ hne]
      cases hLq:listed.getD q.h.i false with
      |false=>rfl
      |true=>
       obtain⟨z,hz,e⟩:=hin _ hLq
       exact absurd e (hnot2 q hq z (List.mem_cons_of_mem _ hz))
     refine ih _ (hs2++k::hs) env2 M2 _ w' ρ' hsz' hun' hcl' d2 F2 (fun j hj=>?_) (fun q hq hb=>?_) ?_ hag' ?_
     · by_cases e:j=i
       · exact⟨k,by simp,e.symm⟩
       · rw[hLn j e]at hj
         obtain⟨q,hq,e⟩:=hin j hj
         exact⟨q,List.mem_append_right _ (List.mem_cons_of_mem _ hq),e⟩
     · rcases List.mem_append.1 hq with hq|hq
       · rw[nb2 q hq]at hb;cases hb
       · rcases List.mem_cons.1 hq with rfl|hq
         · rw[hL',if_pos rfl]
         · have:=hbar q hq hb
           rw[hL'];split<;>simp_all
     · refine PA.put hpa hdo (fun q hq hLq hne=>?_) (fun q hq e=>?_) (fun q hq hLq=>⟨List.mem_append_right _ (List.mem_cons_of_mem _ hq),by simp only[hL'];split<;>simp_all⟩) ⟨k,by simp,rfl,by simp only[hL'];exact if_pos rfl⟩
       · rcases List.mem_append.1 hq with hq2|hq2
         · simp only[hL2off q hq2]at hLq;cases hLq
         · rcases List.mem_cons.1 hq2 with rfl|hq
           · exact absurd rfl hne
           · simp only[hLn _ hne]at hLq
             refine⟨hq,hLq,?_,fun t ht hd=>?_⟩
             · refine SV.av_den (p:=pres N0 (fun j=>listed.getD j false) hs) hρ' (SV.av_refs (fun b hb=>QaB hL hc hoo hin hq hLq b ((hok q hq).2.2.2.2 b (List.mem_append_left _ hb))))
             · exact (statB_spec hc.st ho (hoo q hq) (fun e=>hne e.symm)).1 t hd ht
       · have e2:=Qce hpr2 hq (List.mem_append_right _ List.mem_cons_self:k∈hs2++k::hs) e
         subst e2;exact⟨rfl,rfl⟩
     · rw[QbK hL2off]
       have:Qw (fun j=>(listed.setIfInBounds i true).getD j false) M0 (k::hs)=Qk (Qw (fun j=>listed.getD j false) M0 hs) us:=by
        simp only[Qw]
        rw[show (listed.setIfInBounds i true).getD k.h.i false=true by rw[hL'];exact if_pos rfl,cond_true,Qay (L:=fun j=>listed.getD j false) (L':=fun j=>(listed.setIfInBounds i true).getD j false) (fun q hq=>hLn _ (fun e=>hex ⟨q,hq,e⟩))]
       rw[this];exact HM'
end
end
section
open Go.RowKit
def Qb4 (id:Nat):List Item->Option (List Item)
 |.inBlock i::k=>bif i.beq id then some k else Qb4 id k
 |_::k=>Qb4 id k
 |[]=>none
abbrev OS:=List (Code × List Item × (Env->List SB->Prop))
def flat:OS->List Item
 |[]=>[]
 |(b,k,_)::r=>.inLoop b::(k++flat r)
inductive NZ where
 |tmp (t e sz:Nat) (ks:List CK)
 |cell (t o e sz:Nat) (ks:List CK)
 |blk (b o e sz:Nat) (ks:List CK)
def nrmB (env:Env) (M:List SB) (b o e sz:Nat) (ks:List CK):Env × List SB:=match getB M b with
 |.cells l t=>match segGet l o with
  |some (.v (.slice none n m))=>match QJ l o (.so M.length 0 sz 0 0 false)with
   |some l'=>bif b.blt M.length&&(n.beq 0&&m.beq 0)then (env,Qk M [(b,.cells l' t),(M.length,.rows e ks sz 0 0 (fun _ _=>0))])else (env,M)
   |none=>(env,M)
  |_=>(env,M)
 |_=>(env,M)
def nrm1 (env:Env) (M:List SB):NZ->Env × List SB
 |.tmp t e sz ks=>match lk env t with
  |some (.o (.c (.v (.slice none n m))))=>bif n.beq 0&&m.beq 0 then ((t,.o (.c (.so M.length 0 sz 0 0 false)))::env,Qk M [(M.length,.rows e ks sz 0 0 (fun _ _=>0))])else (env,M)
  |_=>(env,M)
 |.cell t o e sz ks=>match lk env t with
  |some (.o (.c (.p b off)))=>nrmB env M b (off+o) e sz ks
  |_=>(env,M)
 |.blk b o e sz ks=>nrmB env M b o e sz ks
def nrmS:List NZ->Env->List SB->Env × List SB
 |[],env,M=>(env,M)
 |z::r,env,M=>match nrm1 env M z with
  |(env',M')=>nrmS r env' M'
structure Ann where
 σ:Type
 I:σ->Env × List SB
 dec:σ->Nat
 pi:Env->List SB->List Nat
 nz:List NZ
 rel:Option (σ->σ->Prop):=none
abbrev Anns:=List (Nat × Ann)
def lkA:Anns->Nat->Option Ann
 |[],_=>none
 |(t,i)::r,u=>bif t.beq u then some i else lkA r u
def lkAG:List (Nat × Anns)->Nat->Anns
 |[],_=>[]
 |(t,i)::r,u=>bif t.beq u then i else lkAG r u
def annAt (An:Anns):List Item->Option Ann
 |.inBlock id::_=>lkA An id
 |_=>none
def Qfd (f:Nat->Nat) (env:Env):Env->Prop
 |[]=>True
 |(t,x)::r=>lk env t=some (x.ren f)/\Qfd f env r
def idB:Nat->Nat->List Nat->Bool
 |_,0,_=>true
 |i,n+1,j::r=>i.beq j&&idB (i+1) n r
 |_,_+1,[]=>false
def Qfc (k0:Nat) (π:List Nat) (G:Env × List SB) (env:Env) (M:List SB):Prop:=
 bif nodB π&&Qbe M.length π&&idB 0 k0 π&&QX (sc G.2.length) G.2&&Xc (sc G.2.length) G.1&&k0.ble G.2.length then Qfd (ofL π) env G.1/\π.map (getB M)=G.2.map (SB.ren (ofL π))else False
def QbG (k0:Nat) (A:Ann) (s:A.σ) (env:Env) (M:List SB):Prop:=match nrmS A.nz env M with
 |(env',M')=>Qfc k0 (A.pi env' M') (A.I s) env' M'
def Qes (id:Nat):List Item->OS->Option (List Item × OS)
 |k,os=>match Qb4 id k with
  |some k'=>some (k',os)
  |none=>match os with
   |[]=>none
   |(_,k',_)::r=>Qes id k' r
def Qz:Nat->List SA->Env
 |_,[]=>[]
 |i,x::r=>(i,.o x)::Qz (i+1) r
def resS (V:World) (T:Tab) (env:Env) (M:List SB):ResultVar->Option (Option Prop × SA)
 |.tmp t=>match lk env t with
  |some (.o x)=>some (none,x)
  |_=>none
 |.cell b t=>match lk env b with
  |some (.o (.c (.p c off)))=>match Qfe V T M t (some (.o (.c (.p c off))))with
   |.eff _ vc (.o x) []=>some (vc,x)
   |_=>none
  |_=>none
def QeE:Option Prop->Option Prop->Option Prop
 |none,q=>q
 |some p,none=>some p
 |some p,some q=>some (p/\q)
theorem Qeh {p q:Option Prop}:vcP (QeE p q)↔vcP p/\vcP q:=by cases p<;>cases q<;>simp[QeE,vcP]
def resL (V:World) (T:Tab) (env:Env) (M:List SB):List ResultVar->Option (Option Prop × List SA)
 |[]=>some (none,[])
 |r::l=>match resS V T env M r,resL V T env M l with
  |some (p,x),some (q,y)=>some (QeE p q,x::y)
  |_,_=>none
def svOf:List SA->SV
 |[x]=>.o x
 |l=>.t l
def finS (V:World) (T:Tab) (res:List ResultVar) (R:SV->List SB->Prop) (env:Env) (M:List SB):Prop:=match resL V T env M res with
 |some (vc,l)=>QeF vc (R (svOf l) M)
 |none=>False
structure Fx where
 fn:Func
 nt:Nat
 an:Anns
 k0:Nat
 fin:Env->List SB->Prop
def isInl:Option Con->Option (Func × Code)
 |some (.inl fn c)=>some (fn,c)
 |_=>none
def Qf0 (Γ:Gam):Eff->Option (Nat × Func × Code × List SA)
 |.call f args=>match isInl (lkGA Γ f args)with
  |some (fn,c)=>some (f,fn,c,args)
  |none=>none
 |_=>none
def Qbb (p:Nat->Bool):List SA->Bool
 |[]=>true
 |x::r=>x.av p&&Qbb p r
def QaQ (p:Nat->Bool):Ups->Bool
 |[]=>true
 |(_,x)::r=>x.av p&&QaQ p r
section
variable (V:World) (T:Tab) (Γ:Gam) (AG:List (Nat × Anns))
def run:Nat->Fx->Option (List Oper × List Oper)->OS->List Item->Env->List SB->Prop
 |0,_,_,_,_,_,_=>False
 |_+1,fx,none,os,[],env,M=>match os with
  |[]=>fx.fin env M
  |(_,_,hook)::_=>hook env M
 |n+1,fx,none,os,.inBlock _::k,env,M=>run n fx none os k env M
 |n+1,fx,none,os,.inLoop b::k,env,M=>run n fx none os (.code b::.inLoop b::k) env M
 |n+1,fx,none,os,.code c::k,env,M=>match c with
  |.skip=>run n fx none os k env M
  |.label _=>run n fx none os k env M
  |.seq x y=>run n fx none os (.code x::.code y::k) env M
  |.block id b=>run n fx none os (.code b::.inBlock id::k) env M
  |.loop b=>match annAt fx.an k with
   |none=>run n fx none os (.code b::.inLoop b::k) env M
   |some A=>match A.rel with
    |none=>(∃s0:A.σ,QbG fx.k0 A s0 env M)/\∀s:A.σ,run n fx none ((b,k,fun env M=>∃s':A.σ,QbG fx.k0 A s' env M/\A.dec s'<A.dec s)::os) [.code b] (A.I s).1 (A.I s).2
    |some rl=>∃s0:A.σ,QbG fx.k0 A s0 env M/\rl s0 s0/\∀s:A.σ,rl s0 s->run n fx none ((b,k,fun env M=>∃s':A.σ,QbG fx.k0 A s' env M/\rl s0 s'/\A.dec s'<A.dec s)::os) [.code b] (A.I s).1 (A.I s).2
  |.exit id=>match Qes id k os with
   |some (k',os')=>run n fx none os' k' env M
   |none=>False
  |.ret=>fx.fin env M
  |.cond c x y=>match Qf env c with
   |some (.o (.c (.v (.bool b))))=>bif b then run n fx none os (.code x::k) env M else run n fx none os (.code y::k) env M
   |_=>False
  |.region _ ops false=>run n fx (some (ops.toList,ops.toList)) os k env M
  |.region id ops true=>drun V T Γ fx.nt (fun env M=>run n fx none os k env M) fx.fn id ops.toList M.length (Qgp Γ ops.toList) [] env M
  |_=>False
 |_+1,_,none,_,_::_,_,_=>False
 |n+1,fx,some (_,[]),os,k,env,M=>run n fx none os k env M
 |n+1,fx,some (all,o::l),os,k,env,M=>
  bif Qb5 fx.nt o.dst then match Qcf all o.guard with
   |some g=>
    let go:Env->Prop:=fun env=>
     let e:=Qx V T env M M.length o.op
     match Qf0 Γ e with
     |some (f,fn,c,args)=>bif args.length.ble fn.ntmps&&Qbb (sc M.length) args then
      run n ⟨fn,fn.ntmps,lkAG AG f,M.length,fun env' M'=>finS V T fn.results.toList (fun x M''=>bif x.av (sc M''.length)then run n fx (some (all,l)) os k (putS o.dst x env) M'' else False) env' M'⟩ none [] [.code c] (Qz 0 args) M else False
     |none=>Xy Γ M o (fun x us=>bif x.av (sc (Qk M us).length)&&QaQ (sc (Qk M us).length) us then run n fx (some (all,l)) os k (putS o.dst x env) (Qk M us)else False) e
    match g with
    |none=>go env
    |some (t,want)=>match lk env t with
     |some (.o (.c (.v (.bool b))))=>
      bif b then (bif want then go ((t,sv (.bool true))::env)else run n fx (some (all,l)) os k (putS o.dst (sv undef) ((t,sv (.bool true))::env)) M)
      else (bif want then run n fx (some (all,l)) os k (putS o.dst (sv undef) ((t,sv (.bool false))::env)) M else go ((t,sv (.bool false))::env))
     |some (.o (.c (.v (.tuple _))))=>run n fx (some (all,l)) os k (putS o.dst (sv undef) env) M
     |_=>False
   |none=>False
  else False
end
def Goes (P:Program) (f:FuncId) (fn:Func) (k:List Item) (a:Act) (w:World) (R:Ending->World->Prop):Prop:=
 ∀(b:Frame) (cs:List Frame),b.fn=f->b.kind=.normal->∃e w' fr,R e w'/\Comes P (lone (b.at a k) cs w) (lone fr cs w') e/\fr.fn=f/\fr.leaving P w' e
def QfG (P:Program) (f:FuncId) (fn:Func) (k:List Item) (R:Ending->World->Prop):Exit->Act->World->Prop
 |.normal,a,w=>Goes P f fn k a w R
 |.exit id,a,w=>∃k',exitTo id k=some k'/\Goes P f fn k' a w R
 |.ret,a,w=>a.defers=[]/\∃v,(results fn a.tmps).run P w=.ok v w/\R (.returned v) w
 |.panic chain,a,w=>a.defers=[]/\R (.panicked chain) w
 |.outgrown,_,w=>R .outgrown w
 |.goto _,_,_=>False
section
variable {P:Program}{f:FuncId}{fn:Func}{R:Ending->World->Prop}
theorem QaJ (hf:P.funcs[f]?=some fn) {c:Code}{k:List Item}{a:Act}{w:World}(h:c.wp P (QfG P f fn k R) a w):Goes P f fn (.code c::k) a w R:=by
 intro b cs hb hk
 obtain⟨e,a',w',hq,harr⟩:=h b k cs
 cases e with
 |normal=>
  obtain⟨e,w2,fr,h1,h2,h3,h4⟩:=hq b cs hb hk
  exact⟨e,w2,fr,h1,Comes.of_steps harr h2,h3,h4⟩
 |exit id=>
  obtain⟨k',hx,hg⟩:=hq
  obtain⟨e,w2,fr,h1,h2,h3,h4⟩:=hg b cs hb hk
  exact⟨e,w2,fr,h1,Comes.of_steps (harr k' hx) h2,h3,h4⟩
 |goto l=>exact hq.elim
 |ret=>
  obtain⟨hd,v,hr,hR⟩:=hq
  obtain⟨todo,hs⟩:=harr
  exact⟨.returned v,w',_,hR,hs,hb,rfl,hd,hk,fn,by rw[<- hb]at hf;exact hf,hr⟩
 |panic chain=>
  obtain⟨hd,hR⟩:=hq
  obtain⟨todo,hs⟩:=harr
  exact⟨.panicked chain,w',_,hR,hs,hb,rfl,hd,fn,by rw[<- hb]at hf;exact hf⟩
 |outgrown=>exact⟨.outgrown,w',b,hq,harr.resolve_left (by rw[hk];simp),hb,trivial⟩
theorem Qf2 (hf:P.funcs[f]?=some fn) {a:Act}{w:World}(hd:a.defers=[]) {v:Value}(hr:(results fn a.tmps).run P w=.ok v w) (hR:R (.returned v) w):Goes P f fn [] a w R:=by
 intro b cs hb hk
 exact⟨.returned v,w,_,hR,.one step_end,hb,rfl,hd,hk,fn,by rw[<- hb]at hf;exact hf,hr⟩
theorem Qr {k k':List Item}{a:Act}{w:World}(hs:∀(b:Frame) cs,step P (lone (b.at a k) cs w)=.next (lone (b.at a k') cs w)) (h:Goes P f fn k' a w R):Goes P f fn k a w R:=by
 intro b cs hb hk
 obtain⟨e,w2,fr,h1,h2,h3,h4⟩:=h b cs hb hk
 exact⟨e,w2,fr,h1,Comes.of_steps (.one (hs b cs)) h2,h3,h4⟩
end
end
section
open Go.RowKit
def resF (tmps:Array Value):ResultVar->Sem Value
 |.tmp t=>pure (tmps.getD t undef)
 |.cell b t=>do loadVar t (<- asAddr (tmps.getD b undef))
theorem Qek (fn:Func) (tmps:Array Value):results fn tmps=(do let vs <- fn.results.mapM (resF tmps);pure (if h:vs.size=1 then vs[0]else .tuple vs)):=by
 unfold results
 congr 2
section
variable {P:Program}{w0 w:World}{S:Nat->Prop}{ρ:Nat->Nat}{M:List SB}{nt:Nat}{env:Env}{a:Act}{T:Tab}{fn:Func}
theorem QgD {V:World}(hV:OldOk V w0 S) (hT:TabOk P T) (hE:EnvOk ρ nt env a) (HM:Mem w0 S (denM ρ 0 M) w) {r:ResultVar}{vc:Option Prop}{x:SA}(h:resS V T env M r=some (vc,x)) (hv:vcP vc):
 (resF a.tmps r).run P w=.ok (x.den ρ) w:=by
 cases r with
 |tmp t=>
  simp only[resS]at h
  split at h
  · rename_i y hl
    simp only[Option.some.injEq,Prod.mk.injEq]at h
    obtain⟨-,rfl⟩:=h
    have:=hE.eval (x:=.tmp t) hl
    simp only[Act.eval]at this
    simp only[resF,this,Sem.run_pure];rfl
  · cases h
 |cell b t=>
  simp only[resS]at h
  split at h
  · rename_i c off hl
    have hp:=hE.eval (x:=.tmp b) hl
    simp only[Act.eval]at hp
    have e:(SV.o (.c (.p c off))).den ρ=.pointer (some ⟨ρ c,off,none⟩):=rfl
    rw[e]at hp
    have hk:=Qd3 (V:=V) (M:=M) (w:=w) hT (hV.v HM.kept) t (x:=some (.o (.c (.p c off)))) (v:=.pointer (some ⟨ρ c,off,none⟩)) (fun y hy=>by simp only[Option.some.injEq]at hy;subst hy;rfl)
    split at h
    · rename_i TT vc' y hld
      simp only[Option.some.injEq,Prod.mk.injEq]at h
      obtain⟨rfl,rfl⟩:=h
      rw[hld]at hk
      have:=hk.2 (fun b _=>HM.at b) hv
      simp only[Instr.loadAt,Instr.sureAddr,Sem.run_bind,Sem.run_pure,Result.andThen_ok]at this
      simp only[resF,hp,asAddr,Sem.run_bind,Sem.run_pure,Result.andThen_ok]
      cases hr:(loadVar t ⟨ρ c,off,none⟩).run P w with
      |ok v w'=>
       rw[hr]at this
       simp only[Result.andThen_ok,Result.ok.injEq,Next.value.injEq]at this
       obtain⟨rfl,rfl⟩:=this;rfl
      |halt hh w'=>rw[hr]at this;cases this
    · cases h
  · cases h
theorem QeR {V:World}(hV:OldOk V w0 S) (hT:TabOk P T) (hE:EnvOk ρ nt env a) (HM:Mem w0 S (denM ρ 0 M) w):∀(l:List ResultVar) {vc:Option Prop}{x:List SA},resL V T env M l=some (vc,x)->vcP vc ->
 (l.mapM (resF a.tmps)).run P w=.ok (x.map (SA.den ρ)) w
 |[],vc,x,h,hv=>by
  simp only[resL,Option.some.injEq,Prod.mk.injEq]at h
  obtain⟨-,rfl⟩:=h;rfl
 |r::l,vc,x,h,hv=>by
  simp only[resL]at h
  split at h
  · rename_i p y q z h1 h2
    simp only[Option.some.injEq,Prod.mk.injEq]at h
    obtain⟨rfl,rfl⟩:=h
    obtain⟨v1,v2⟩:=Qeh.1 hv
    have e1:=QgD hV hT hE HM h1 v1
    have e2:=QeR hV hT hE HM l h2 v2
    simp only[List.mapM_cons,Sem.run_bind]
    rw[e1]
    simp only[Result.andThen_ok,e2,Sem.run_pure,List.map_cons]
  · cases h
theorem Qb7 {V:World}(hV:OldOk V w0 S) (hT:TabOk P T) (hE:EnvOk ρ nt env a) (HM:Mem w0 S (denM ρ 0 M) w) {R:SV->List SB->Prop}(h:finS V T fn.results.toList R env M):
 ∃x,R x M/\(results fn a.tmps).run P w=.ok (x.den ρ) w:=by
 unfold finS at h
 split at h
 · rename_i vc l hl
   obtain⟨h1,h2⟩:=Q1.1 h
   refine⟨svOf l,h2,?_⟩
   have e:=QeR hV hT hE HM _ hl h1
   rw[Qek,Array.mapM_eq_mapM_toList]
   simp only[Sem.run_bind,map_eq_pure_bind]
   rw[e]
   simp only[Result.andThen_ok,Sem.run_pure]
   congr 1
   by_cases h1:l.length=1
   · obtain⟨y,rfl⟩:=List.length_eq_one_iff.1 h1
     simp[svOf,SV.den]
   · rw[dif_neg (by simpa using h1)]
     unfold svOf
     split
     · exact absurd rfl h1
     · rfl
 · exact h.elim
end
structure Inv (ρ0:Nat->Nat) (k0 nt:Nat) (w0:World) (S:Nat->Prop) (env:Env) (M:List SB) (ρ:Nat->Nat) (a:Act) (w:World):Prop where
 av:MemAv (sc M.length) M
 eav:Xc (sc M.length) env=true
 env:EnvOk ρ nt env a
 mem:Mem w0 S (denM ρ 0 M) w
 ag:∀i,i<k0->ρ i=ρ0 i
 le:k0<=M.length
def QbY (P:Program) (f:FuncId) (fn:Func) (w0:World) (S:Nat->Prop) (ρ0:Nat->Nat) (k0 nt:Nat) (R:Ending->World->Prop):OS->Prop
 |[]=>True
 |(b,k,hook)::r=>(∀env M ρ a w,hook env M->Inv ρ0 k0 nt w0 S env M ρ a w->Goes P f fn (.inLoop b::(k++flat r)) a w R)/\QbY P f fn w0 S ρ0 k0 nt R r
section
variable {P:Program}{f:FuncId}{fn:Func}{R:Ending->World->Prop}{w0:World}{S:Nat->Prop}
theorem Xj (id:Nat) (K:List Item):∀(k:List Item),(∀k',Qb4 id k=some k'->exitTo id (k++K)=some (k'++K))/\(Qb4 id k=none->exitTo id (k++K)=exitTo id K)
 |[]=>⟨fun k' h=>by simp[Qb4]at h,fun _=>rfl⟩
 |x::r=>by
  have ih:=Xj id K r
  cases x
  case inBlock i=>
   simp only[Qb4,List.cons_append,exitTo]
   by_cases h:i=id
   · subst h;simp
   · have hb:i.beq id=false:=by
      cases hb:i.beq id
      · rfl
      · exact absurd (Nat.eq_of_beq_eq_true hb) h
     have:(i==id)=false:=by simp[h]
     simp only[hb,this,cond_false,Bool.false_eq_true,if_false]
     exact ih
  all_goals (simp only[Qb4,List.cons_append,exitTo];exact ih)
theorem Qch {ρ0:Nat->Nat}{k0 nt:Nat}(id:Nat):∀(os:OS) (k k2:List Item) (os2:OS),Qes id k os=some (k2,os2)->QbY P f fn w0 S ρ0 k0 nt R os ->
 exitTo id (k++flat os)=some (k2++flat os2)/\QbY P f fn w0 S ρ0 k0 nt R os2
 |[],k,k2,os2,h,hh=>by
  unfold Qes at h
  cases hx:Qb4 id k with
  |none=>rw[hx]at h;cases h
  |some k'=>
   rw[hx]at h
   simp only[Option.some.injEq,Prod.mk.injEq]at h
   obtain⟨rfl,rfl⟩:=h
   exact⟨(Xj id _ k).1 _ hx,hh⟩
 |(b,k',hook)::r,k,k2,os2,h,hh=>by
  unfold Qes at h
  cases hx:Qb4 id k with
  |none=>
   rw[hx]at h
   obtain⟨g1,g2⟩:=Qch id r k' k2 os2 h hh.2
   exact⟨by rw[(Xj id _ k).2 hx];simp only[flat,exitTo];exact g1,g2⟩
  |some k3=>
   rw[hx]at h
   simp only[Option.some.injEq,Prod.mk.injEq]at h
   obtain⟨rfl,rfl⟩:=h
   exact⟨(Xj id _ k).1 _ hx,hh⟩
theorem QcW {p:Nat->Bool}:∀ {M:List SB},QX p M=true->∀b,(getB M b).av p=true
 |[],_,b=>rfl
 |x::r,h,0=>by simp only[QX,Bool.and_eq_true]at h;exact h.1
 |x::r,h,b+1=>by simp only[QX,Bool.and_eq_true]at h;exact QcW h.2 b
theorem Qd2 {M:List SB}(h:QX (sc M.length) M=true):MemAv (sc M.length) M:=fun b=>by
 rcases Nat.lt_or_ge b M.length with hb|hb
 · exact .inr ⟨QU hb,QcW h b⟩
 · exact .inl (QaK M b hb)
theorem Qd8:∀(k i:Nat) (π:List Nat),idB i k π=true->∀j,j<k->π[j]?=some (i+j)
 |0,_,_,_,j,h=>by omega
 |k+1,i,[],h,_,_=>by cases h
 |k+1,i,q::r,h,j,hj=>by
  simp only[idB,Bool.and_eq_true]at h
  obtain rfl:=Nat.eq_of_beq_eq_true h.1
  cases j with
  |zero=>rfl
  |succ j=>rw[List.getElem?_cons_succ,Qd8 k (i+1) r h.2 j (by omega)];congr 1;omega
theorem Qcb {f:Nat->Nat}{env:Env}:∀ {E:Env},Qfd f env E->∀t x,lk E t=some x->lk env t=some (x.ren f)
 |[],_,t,x,h=>by simp[lk]at h
 |(u,y)::r,hm,t,x,h=>by
  unfold lk at h
  cases hb:u.beq t
  · rw[hb]at h;exact Qcb hm.2 t x h
  · rw[hb]at h
    have:=Nat.eq_of_beq_eq_true hb
    subst this
    simp only[cond_true,Option.some.injEq]at h;subst h
    exact hm.1
theorem Qfb {ρ0:Nat->Nat}{k0 nt:Nat}{π:List Nat}{G:Env × List SB}{env:Env}{M:List SB}{ρ:Nat->Nat}{a:Act}{w:World}(h:Qfc k0 π G env M) (hi:Inv ρ0 k0 nt w0 S env M ρ a w):
 Inv ρ0 k0 nt w0 S G.1 G.2 (fun i=>ρ (ofL π i)) a w:=by
 unfold Qfc at h
 cases hc:(nodB π&&Qbe M.length π&&idB 0 k0 π&&QX (sc G.2.length) G.2&&Xc (sc G.2.length) G.1&&k0.ble G.2.length)
 · rw[hc]at h;exact h.elim
 · rw[hc]at h
   simp only[cond_true]at h
   simp only[Bool.and_eq_true]at hc
   obtain⟨⟨⟨⟨⟨c1,c2⟩,c3⟩,c4⟩,c5⟩,c6⟩:=hc
   refine⟨Qd2 c4,c5,⟨hi.env.defers,hi.env.size,fun t x hx=>?_⟩,?_,fun i hik=>?_,QL c6⟩
   · rw[hi.env.get t _ (Qcb h.1 t x hx),SV.ren_den]
   · have hd:=Qbm (ρ:=ρ) (M:=M) π G.2 (ofL π) 0 (fun i hi=>by rw[Nat.zero_add,List.getElem?_eq_getElem hi];simp[ofL,List.getD_eq_getElem?_getD,hi]) h.2
     rw[<- hd]
     have hlt:=Xv c2
     exact (hi.mem.perm (Qag ρ M π M.length (Nat.le_refl _) (QY c1) hlt)).sub (List.sublist_append_left _ _)
   · have:=Qd8 k0 0 π c3 i hik
     show ρ (ofL π i)=_
     unfold ofL
     rw[List.getD_eq_getElem?_getD,this,Option.getD_some,Nat.zero_add]
     exact hi.ag i hik
theorem Qfo {ρ:Nat->Nat}(args:List SA) (n:Nat) (h:args.length<=n):EnvOk ρ n (Qz 0 args) { tmps:=(args.map (SA.den ρ)).toArray++Array.replicate (n-args.length) undef,defers:=[] }:=by
 have key:∀(l:List SA) (i t:Nat) (x:SV),lk (Qz i l) t=some x->∃j y,t=i+j/\l[j]?=some y/\x=.o y:=by
  intro l
  induction l with
  |nil=>intro i t x h;simp[Qz,lk]at h
  |cons y r ih=>
   intro i t x h
   simp only[Qz,lk]at h
   cases hb:i.beq t
   · rw[hb]at h
     obtain⟨j,z,h1,h2,h3⟩:=ih (i+1) t x h
     exact⟨j+1,z,by omega,h2,h3⟩
   · rw[hb]at h
     have:=Nat.eq_of_beq_eq_true hb
     subst this
     simp only[cond_true,Option.some.injEq]at h;subst h
     exact⟨0,y,rfl,rfl,rfl⟩
 refine⟨rfl,by simp;omega,fun t x hx=>?_⟩
 obtain⟨j,y,rfl,hj,rfl⟩:=key args 0 t x hx
 rw[Nat.zero_add]
 have hlt:j<args.length:=(List.getElem?_eq_some_iff.1 hj).1
 rw[Array.getElem?_append_left (by simpa using hlt),List.getElem?_toArray,List.getElem?_map,hj];rfl
theorem Qa2 {p:Nat->Bool}:∀(l:List SA) (i:Nat),(∀x∈l,x.av p=true)->Xc p (Qz i l)=true
 |[],_,_=>rfl
 |x::r,i,h=>by simp only[Qz,Xc,Bool.and_eq_true];exact⟨h x List.mem_cons_self,Qa2 r (i+1) (fun y hy=>h y (List.mem_cons_of_mem _ hy))⟩
theorem QcQ {p:Nat->Bool}:∀ {us:Ups},QaQ p us=true->∀q∈us,q.2.av p=true
 |[],_,q,h=>by simp at h
 |(b,x)::r,h,q,hq=>by
  simp only[QaQ,Bool.and_eq_true]at h
  rcases List.mem_cons.1 hq with rfl|hq
  · exact h.1
  · exact QcQ h.2 q hq
theorem Qca {M:List SB}{us:Ups}(h:MemAv (sc M.length) M) (hn:(us.map (·.1)).Nodup) (hu:QaQ (sc (Qk M us).length) us=true):MemAv (sc (Qk M us).length) (Qk M us):=by
 obtain⟨h1,h2⟩:=Xo us M
 intro b
 by_cases hb:b∈us.map (·.1)
 · obtain⟨⟨b',x⟩,hq,rfl⟩:=List.mem_map.1 hb
   right
   rw[Qu us M hn hq]
   exact⟨QU (h2 _ hb),QcQ hu _ hq⟩
 · rw[Qm us M hb]
   exact (h b).imp id (fun hh=>⟨QU (by have:=Qt hh.1;omega),SB.av_mono (fun i hi=>QU (by have:=Qt hi;omega)) hh.2⟩)
theorem Qbw {p:Nat->Bool}:∀(l:List Seg) (o:Nat) (x:SC) (l':List Seg),QJ l o x=some l'->x.av p=true->Qi p l=true->Qi p l'=true
 |[],_,_,_,h,_,_=>by simp[QJ]at h
 |.one y::r,0,x,l',h,hx,hl=>by
  simp only[QJ,Option.some.injEq]at h;subst h
  simp only[Qi,Bool.and_eq_true]at hl ⊢
  exact⟨hx,hl.2⟩
 |.one y::r,o+1,x,l',h,hx,hl=>by
  simp only[QJ]at h
  split at h
  · rename_i r' hr
    simp only[Option.some.injEq]at h;subst h
    simp only[Qi,Bool.and_eq_true]at hl ⊢
    exact⟨hl.1,Qbw r o x r' hr hx hl.2⟩
  · cases h
 |.ints k n f::r,o,x,l',h,hx,hl=>by
  simp only[QJ]at h
  cases hb:o.blt n
  · rw[hb]at h
    simp only[cond_false]at h
    split at h
    · rename_i r' hr
      simp only[Option.some.injEq]at h;subst h
      simp only[Qi]at hl ⊢
      exact Qbw r _ x r' hr hx hl
    · cases h
  · rw[hb]at h
    simp only[cond_true]at h
    split at h
    · split at h
      · simp only[Option.some.injEq]at h;subst h;exact hl
      · cases h
    · cases h
theorem Qe7 {ρ0:Nat->Nat}{k0 nt:Nat}{env:Env}{M:List SB}{ρ:Nat->Nat}{a:Act}{w:World}{w0:World}{S:Nat->Prop}(hi:Inv ρ0 k0 nt w0 S env M ρ a w) (us:Ups) (hn:((us++[(M.length,SB.rows 0 [] 0 0 0 (fun _ _=>0))]).map (·.1)).Nodup)
 (e sz:Nat) (ks:List CK) (hu:QaQ (sc (M.length+1)) us=true) (hl:∀q∈us,q.1<M.length) (hd:denU ρ us=denT ρ M (us.map (·.1))):
 Inv ρ0 k0 nt w0 S env (Qk M (us++[(M.length,.rows e ks sz 0 0 (fun _ _=>0))])) ρ a w/\(Qk M (us++[(M.length,.rows e ks sz 0 0 (fun _ _=>0))])).length=M.length+1:=by
 have hlen:∀(us:Ups) (M:List SB),(∀q∈us,q.1<M.length)->(Qk M us).length=M.length:=by
  intro us
  induction us with
  |nil=>intro M _;rfl
  |cons q r ih=>
   intro M h
   obtain⟨b,x⟩:=q
   have h1:=(Qbh x M b).2.1 (h _ List.mem_cons_self)
   simp only[Qk]
   rw[ih (putB M b x) (fun q hq=>by rw[h1];exact h q (List.mem_cons_of_mem _ hq)),h1]
 have happ:∀(us vs:Ups) (M:List SB),Qk M (us++vs)=Qk (Qk M us) vs:=by
  intro us
  induction us with
  |nil=>intro vs M;rfl
  |cons q r ih=>intro vs M;obtain⟨b,x⟩:=q;simp only[List.cons_append,Qk];exact ih vs _
 have hL:(Qk M (us++[(M.length,.rows e ks sz 0 0 (fun _ _=>0))])).length=M.length+1:=by
  rw[happ]
  simp only[Qk]
  rw[(Qbh _ (Qk M us) M.length).2.2 (hlen us M hl).symm,hlen us M hl]
 have hn':((us++[(M.length,SB.rows e ks sz 0 0 (fun _ _=>0))]).map (·.1)).Nodup:=by simpa using hn
 have huA:∀(us vs:Ups) (p:Nat->Bool),QaQ p us=true->QaQ p vs=true->QaQ p (us++vs)=true:=by
  intro us vs p
  induction us with
  |nil=>intro _ h;exact h
  |cons q r ih=>intro h1 h2;obtain⟨b,x⟩:=q;simp only[List.cons_append,QaQ,Bool.and_eq_true]at h1 ⊢;exact⟨h1.1,ih h1.2 h2⟩
 refine⟨⟨?_,?_,hi.env,?_,hi.ag,by rw[hL];exact Nat.le_succ_of_le hi.le⟩,hL⟩
 · exact Qca hi.av hn' (by rw[hL];exact huA _ _ _ hu rfl)
 · rw[hL];exact Xt (fun i h=>QU (by have:=Qt h;omega)) hi.eav
 · refine hi.mem.ups hi.av (fun _ _=>rfl) _ hn' ?_
   have hU:denU ρ (us++[(M.length,SB.rows e ks sz 0 0 (fun _ _=>0))])=denU ρ us++[.row (ρ M.length) e sz 0 0 []]:=by
    clear hn hn' hu hl hd hL
    induction us with
    |nil=>rfl
    |cons q r ih=>obtain⟨b,x⟩:=q;simp only[List.cons_append,denU,ih,List.append_assoc]
   have hT:denT ρ M ((us++[(M.length,SB.rows e ks sz 0 0 (fun _ _=>0))]).map (·.1))=denT ρ M (us.map (·.1)):=by
    clear hn hn' hu hl hd hL hU
    induction us with
    |nil=>simp[denT,QaK M M.length (Nat.le_refl _),denB]
    |cons q r ih=>obtain⟨b,x⟩:=q;simp only[List.cons_append,List.map_cons,denT,ih]
   rw[hU,hT,hd]
   have hs:=hi.mem.some (us.map (·.1)) (by rw[List.map_append,List.nodup_append]at hn;exact hn.1)
   refine⟨hs.kept,fun x hx=>?_,fun x hx g hg=>?_,?_⟩
   · rcases List.mem_append.1 hx with hx|hx
     · exact hs.holds x hx
     · rw[List.mem_singleton]at hx;subst hx
       exact⟨Nat.le_refl _,by simp,fun h=>absurd h (by omega)⟩
   · rcases List.mem_append.1 hx with hx|hx
     · exact hs.own x hx g hg
     · rw[List.mem_singleton]at hx;subst hx
       exact absurd hg.1 (by omega)
   · refine List.pairwise_append.2 ⟨hs.dist,List.pairwise_singleton _ _,fun x _ y hy g _ hg=>?_⟩
     rw[List.mem_singleton]at hy;subst hy
     exact absurd hg.1 (by omega)
theorem Qe6 (ρ:Nat->Nat) (b sz:Nat):(SC.so b 0 sz 0 0 false).den ρ=.slice none 0 0:=rfl
theorem Qe4 {ρ0:Nat->Nat}{k0 nt:Nat}{env:Env}{M:List SB}{ρ:Nat->Nat}{a:Act}{w:World}{w0:World}{S:Nat->Prop}(hi:Inv ρ0 k0 nt w0 S env M ρ a w) (b o e sz:Nat) (ks:List CK):
 Inv ρ0 k0 nt w0 S (nrmB env M b o e sz ks).1 (nrmB env M b o e sz ks).2 ρ a w:=by
 unfold nrmB
 split
 · rename_i l t hb
   split
   · rename_i n m hg
     split
     · rename_i l' hs
       cases hlt:(b.blt M.length&&(n.beq 0&&m.beq 0))
       · exact hi
       · simp only[Bool.and_eq_true]at hlt
         obtain⟨hlt,hn0,hm0⟩:=hlt
         obtain rfl:=Nat.eq_of_beq_eq_true hn0
         obtain rfl:=Nat.eq_of_beq_eq_true hm0
         have hlt:=Qt hlt
         have h1:=QP ρ l o _ hg
         have h2:=(Xn ρ l o _ l' hs).1
         rw[Qe6]at h2
         have h3:Qa ρ l'=Qa ρ l:=by
          rw[<- h2]
          apply List.ext_getElem?
          intro i
          rw[List.getElem?_set]
          by_cases hio:o=i
          · subst hio
            rw[if_pos rfl]
            have:=(List.getElem?_eq_some_iff.1 h1).1
            rw[if_pos this,h1];rfl
          · rw[if_neg hio]
         have hav:Qi (sc (M.length+1)) l'=true:=by
          have hM:=hi.av b
          rw[hb]at hM
          rcases hM with hM|hM
          · cases hM
          · refine Qbw l o _ l' hs ?_ (QN (fun i h=>QU (by have:=Qt h;omega)) hM.2)
            exact QU (by omega)
         exact (Qe7 hi [(b,.cells l' t)] (by simp;omega) e sz ks (by simp[QaQ,SB.av,hav]) (by simpa using hlt) (by simp only[denU,denT,List.map_cons,List.map_nil,hb,denB,h3])).1
     · exact hi
   · exact hi
 · exact hi
theorem QgJ {ρ0:Nat->Nat}{k0 nt:Nat}{env:Env}{M:List SB}{ρ:Nat->Nat}{a:Act}{w:World}{w0:World}{S:Nat->Prop}(hi:Inv ρ0 k0 nt w0 S env M ρ a w) (z:NZ):
 Inv ρ0 k0 nt w0 S (nrm1 env M z).1 (nrm1 env M z).2 ρ a w:=by
 cases z with
 |tmp t e sz ks=>
  simp only[nrm1]
  split
  · rename_i n m hx
    cases hnm:(n.beq 0&&m.beq 0)
    · exact hi
    simp only[Bool.and_eq_true]at hnm
    obtain rfl:=Nat.eq_of_beq_eq_true hnm.1
    obtain rfl:=Nat.eq_of_beq_eq_true hnm.2
    simp only[cond_true]
    obtain⟨h,hL⟩:=Qe7 hi [] (by simp) e sz ks rfl (by simp) rfl
    refine⟨h.av,?_,⟨h.env.defers,h.env.size,fun u y hy=>?_⟩,h.mem,h.ag,h.le⟩
    · simp only[List.nil_append]at hL h ⊢
      simp only[Xc,Bool.and_eq_true]
      exact⟨by rw[hL];exact QU (by omega),h.eav⟩
    · unfold lk at hy
      cases hb:t.beq u
      · rw[hb]at hy;exact h.env.get u y hy
      · rw[hb]at hy
        have:=Nat.eq_of_beq_eq_true hb
        subst this
        simp only[cond_true,Option.some.injEq]at hy;subst hy
        have:=hi.env.get t _ hx
        exact this
  · exact hi
 |cell t o e sz ks=>
  simp only[nrm1]
  split
  · exact Qe4 hi _ _ _ _ _
  · exact hi
 |blk b o e sz ks=>exact Qe4 hi _ _ _ _ _
theorem Qe3 {ρ0:Nat->Nat}{k0 nt:Nat}{ρ:Nat->Nat}{a:Act}{w:World}{w0:World}{S:Nat->Prop}:∀(l:List NZ) {env:Env}{M:List SB},Inv ρ0 k0 nt w0 S env M ρ a w ->
 Inv ρ0 k0 nt w0 S (nrmS l env M).1 (nrmS l env M).2 ρ a w
 |[],_,_,hi=>hi
 |z::r,_,_,hi=>Qe3 r (QgJ hi z)
theorem QaF {ρ0:Nat->Nat}{k0 nt:Nat}{A:Ann}{s:A.σ}{env:Env}{M:List SB}{ρ:Nat->Nat}{a:Act}{w:World}{w0:World}{S:Nat->Prop}(h:QbG k0 A s env M) (hi:Inv ρ0 k0 nt w0 S env M ρ a w):
 Inv ρ0 k0 nt w0 S (A.I s).1 (A.I s).2 (fun i=>ρ (ofL (A.pi (nrmS A.nz env M).1 (nrmS A.nz env M).2) i)) a w:=Qfb h (Qe3 A.nz hi)
theorem Qa3 {p:Nat->Bool}{env:Env}{d:Option Tmp}{x:SV}(h:Xc p env=true) (hx:x.av p=true):Xc p (putS d x env)=true:=by
 unfold putS
 split
 · simp only[Xc,Bool.and_eq_true];exact⟨hx,h⟩
 · exact h
theorem QfZ {Γ:Gam}{e:Eff}{f:Nat}{fn:Func}{c:Code}{args:List SA}(h:Qf0 Γ e=some (f,fn,c,args)):e=.call f args/\lkGA Γ f args=some (.inl fn c):=by
 unfold Qf0 at h
 split at h
 · rename_i g ys
   split at h
   · rename_i fn' c' hi
     simp only[Option.some.injEq,Prod.mk.injEq]at h
     obtain⟨rfl,rfl,rfl,rfl⟩:=h
     refine⟨rfl,?_⟩
     unfold isInl at hi
     split at hi
     · rename_i e
       simp only[Option.some.injEq,Prod.mk.injEq]at hi
       obtain⟨rfl,rfl⟩:=hi;exact e
     · cases hi
   · cases h
 · cases h
theorem Qbx {p:Nat->Bool}:∀ {l:List SA},Qbb p l=true->∀x∈l,x.av p=true
 |[],_,x,h=>by simp at h
 |y::r,h,x,hx=>by
  simp only[Qbb,Bool.and_eq_true]at h
  rcases List.mem_cons.1 hx with rfl|hx
  · exact h.1
  · exact Qbx h.2 x hx
section
variable {V:World}{T:Tab}{Γ:Gam}{AG:List (Nat × Anns)}
set_option maxHeartbeats 1000000 in
theorem QeQ (hV:OldOk V w0 S) (hT:TabOk P T) (hT2:TysOk P T) (hΓ:GamOk P w0 S Γ):
 ∀n,(∀(f:FuncId) (fn:Func) (fx:Fx) (R:Ending->World->Prop) (ρ0:Nat->Nat) os k env M ρ a w,P.funcs[f]?=some fn ->
  (∀env M ρ a w,fx.fin env M->Inv ρ0 fx.k0 fx.nt w0 S env M ρ a w->∃v,(results fn a.tmps).run P w=.ok v w/\R (.returned v) w) ->
  run V T Γ AG n fx none os k env M->QbY P f fn w0 S ρ0 fx.k0 fx.nt R os->Inv ρ0 fx.k0 fx.nt w0 S env M ρ a w->Goes P f fn (k++flat os) a w R) /\
  (∀(f:FuncId) (fn:Func) (fx:Fx) (R:Ending->World->Prop) (ρ0:Nat->Nat) all l os k env M ρ a w,P.funcs[f]?=some fn ->
   (∀env M ρ a w,fx.fin env M->Inv ρ0 fx.k0 fx.nt w0 S env M ρ a w->∃v,(results fn a.tmps).run P w=.ok v w/\R (.returned v) w) ->
   run V T Γ AG n fx (some (all,l)) os k env M->QbY P f fn w0 S ρ0 fx.k0 fx.nt R os->Inv ρ0 fx.k0 fx.nt w0 S env M ρ a w->wpList P all.toArray (QfG P f fn (k++flat os) R) l a w):=by
 intro n
 induction n with
 |zero=>exact⟨fun f fn fx R ρ0 os k env M ρ a w _ _ h=>h.elim,fun f fn fx R ρ0 all l os k env M ρ a w _ _ h=>h.elim⟩
 |succ n ih=>
  obtain⟨ih1,ih2⟩:=ih
  constructor
  · intro f fn fx R ρ0 os k env M ρ a w hf hfin h hh hi
    have go1:=fun os k env M ρ a w=>ih1 f fn fx R ρ0 os k env M ρ a w hf hfin
    cases k with
    |nil=>
     cases os with
     |nil=>
      obtain⟨v,hr,hR⟩:=hfin env M ρ a w h hi
      exact Qf2 hf hi.env.defers hr hR
     |cons p r=>
      obtain⟨b,k',hook⟩:=p
      exact hh.1 env M ρ a w h hi
    |cons x k=>
     cases x with
     |inBlock id=>exact Qr (fun b cs=>step_inBlock) (go1 os k env M ρ a w h hh hi)
     |inLoop c=>exact Qr (fun b cs=>step_inLoop) (go1 os _ env M ρ a w h hh hi)
     |code c=>
      cases c with
      |skip=>exact Qr (fun b cs=>step_skip) (go1 os k env M ρ a w h hh hi)
      |label l=>exact Qr (fun b cs=>step_label) (go1 os k env M ρ a w h hh hi)
      |seq x y=>exact Qr (fun b cs=>step_seq) (go1 os _ env M ρ a w h hh hi)
      |block id b=>exact Qr (fun b cs=>step_block) (go1 os _ env M ρ a w h hh hi)
      |loop b=>
       simp only[run]at h
       cases hA:annAt fx.an k with
       |none=>rw[hA]at h;exact Qr (fun b cs=>step_loop) (go1 os _ env M ρ a w h hh hi)
       |some A=>
        rw[hA]at h
        dsimp only at h
        cases hR:A.rel with
        |none=>
         rw[hR]at h
         obtain⟨⟨s0,hm⟩,hr⟩:=h
         have key:∀m,∀s:A.σ,A.dec s=m->∀ρ a w,Inv ρ0 fx.k0 fx.nt w0 S (A.I s).1 (A.I s).2 ρ a w->Goes P f fn (.code b::.inLoop b::(k++flat os)) a w R:=by
          intro m
          induction m using Nat.strongRecOn with
          |ind m ihm=>
           intro s hs ρ a w hi
           refine go1 ((b,k,fun env M=>∃s':A.σ,QbG fx.k0 A s' env M/\A.dec s'<A.dec s)::os) [.code b] _ _ ρ a w (hr s) ⟨?_,hh⟩ hi
           rintro env M ρ a w ⟨s',hm',hlt⟩ hi
           exact Qr (fun b cs=>step_inLoop) (ihm (A.dec s') (by omega) s' rfl _ a w (QaF hm' hi))
         exact Qr (fun b cs=>step_loop) (key _ s0 rfl _ a w (QaF hm hi))
        |some rl=>
         rw[hR]at h
         obtain⟨s0,hm,h0,hr⟩:=h
         have key:∀m,∀s:A.σ,rl s0 s->A.dec s=m->∀ρ a w,Inv ρ0 fx.k0 fx.nt w0 S (A.I s).1 (A.I s).2 ρ a w->Goes P f fn (.code b::.inLoop b::(k++flat os)) a w R:=by
          intro m
          induction m using Nat.strongRecOn with
          |ind m ihm=>
           intro s hrl hs ρ a w hi
           refine go1 ((b,k,fun env M=>∃s':A.σ,QbG fx.k0 A s' env M/\rl s0 s'/\A.dec s'<A.dec s)::os) [.code b] _ _ ρ a w (hr s hrl) ⟨?_,hh⟩ hi
           rintro env M ρ a w ⟨s',hm',hl',hlt⟩ hi
           exact Qr (fun b cs=>step_inLoop) (ihm (A.dec s') (by omega) s' hl' rfl _ a w (QaF hm' hi))
         exact Qr (fun b cs=>step_loop) (key _ s0 h0 rfl _ a w (QaF hm hi))
      |exit id=>
       simp only[run]at h
       cases hx:Qes id k os with
       |none=>rw[hx]at h;exact h.elim
       |some p=>
        obtain⟨k',os'⟩:=p
        rw[hx]at h
        obtain⟨g1,g2⟩:=Qch id os k k' os' hx hh
        refine QaJ hf (wp_exit ?_)
        exact⟨_,g1,go1 os' k' env M ρ a w h g2 hi⟩
      |ret=>
       obtain⟨v,hr,hR⟩:=hfin env M ρ a w h hi
       exact QaJ hf (wp_ret ⟨hi.env.defers,v,hr,hR⟩)
      |cond c x y=>
       simp only[run]at h
       split at h
       · rename_i b hc
         have e:a.eval c=.bool b:=hi.env.eval hc
         cases b
         · exact Qr (fun b cs=>step_cond e) (go1 os _ env M ρ a w h hh hi)
         · exact Qr (fun b cs=>step_cond e) (go1 os _ env M ρ a w h hh hi)
       · exact h.elim
      |region id ops draw=>
       cases draw
       · refine QaJ hf (wp_region_list ?_)
         have:=ih2 f fn fx R ρ0 _ _ os k env M ρ a w hf hfin h hh hi
         simpa using this
       · simp only[run]at h
         refine QaJ hf (wp_region_any hT2.1 ?_)
         have hd:DP V T Γ fx.nt ops.toList env M [] env M:=.nil
         obtain⟨hs,env',M',d',F',nb⟩:=Qad (hs:=[]) (next:=fun env M=>run V T Γ AG n fx none os k env M) (fn:=fx.fn) (id:=id) (N0:=M.length) hΓ (Qgp Γ ops.toList) env M hd h
         rw[List.append_nil]at d' F'
         have hoff:∀j,(Array.replicate ops.size false).getD j false=false:=fun j=>by
          rw[Array.getD_eq_getD_getElem?,Array.getElem?_replicate];split<;>rfl
         have hsz:ops.size=ops.toList.length:=by simp
         have:=Qf4 (P:=P) (Q:=QfG P f fn (k++flat os) R) (a0:=a) (ρ0:=ρ) (next:=fun env M=>run V T Γ AG n fx none os k env M) (fn:=fx.fn) (id:=id) hΓ hV hT hT2 rfl hi.av hi.eav hi.env.defers hi.env.size
          (fun ρ' h=>hi.env.over (p:=sc M.length) (fun i hi=>h i (Qt hi)) hi.eav)
          (fun env2 M2 ρ2 a2 w2 hag hge hav henv hn hE HM=>go1 os k env2 M2 ρ2 a2 w2 hn hh ⟨hav,henv,hE,HM,fun i hik=>(hag i (by have:=hi.le;omega)).trans (hi.ag i hik),by have:=hi.le;omega⟩)
          ops.size (Array.replicate ops.size false) hs env' M' a { w with drawn:=w.drawn+1 } ρ (by simp) (by
           unfold unl
           rw[List.countP_eq_length.2 (fun j _=>by rw[hoff];rfl),List.length_range,hsz]) (fun j o ho hj=>by simp only[hoff]at hj;cases hj) d' F' (fun i hi=>by rw[hoff]at hi;cases hi) (fun k hk hb=>by rw[nb k hk]at hb;cases hb)
          ⟨hi.env.defers,hi.env.size,fun h hh hL=>(by simp only[hoff]at hL;cases hL),fun t _=>rfl⟩ (fun _ _=>rfl) (by
           have e:Qw (fun j=>(Array.replicate ops.size false).getD j false) M hs=M:=by
            have:=QbK (M0:=M) (L:=fun j=>(Array.replicate ops.size false).getD j false) (rest:=[]) (hs:=hs) (fun k _=>hoff _)
            rwa [List.append_nil]at this
           rw[e];exact hi.mem.drew)
         simpa using this
      |rangeFunc _ _ _ _=>exact h.elim
      |scope _=>exact h.elim
      |goto _=>exact h.elim
      |refuse _=>exact h.elim
     |inScope _=>exact h.elim
     |inRegion _ _=>exact h.elim
     |inRangeFunc _=>exact h.elim
     |endRangeFunc _=>exact h.elim
     |beginRound=>exact h.elim
     |call _ _ _ _=>exact h.elim
     |extern _ _=>exact h.elim
  · intro f fn fx R ρ0 all l os k env M ρ a w hf hfin h hh hi
    have go2:=fun l env M ρ a w=>ih2 f fn fx R ρ0 all l os k env M ρ a w hf hfin
    cases l with
    |nil=>exact wpList_nil (ih1 f fn fx R ρ0 os k env M ρ a w hf hfin h hh hi)
    |cons o l=>
     simp only[run]at h
     cases hd:Qb5 fx.nt o.dst with
     |false=>rw[hd]at h;exact h.elim
     |true=>
      rw[hd]at h
      simp only[cond_true]at h
      cases hg:Qcf all o.guard with
      |none=>rw[hg]at h;exact h.elim
      |some g=>
       rw[hg]at h
       dsimp only at h
       obtain⟨hw1,hw2,hw3⟩:=Xi hi.env hg
       have hgo:∀env,Inv ρ0 fx.k0 fx.nt w0 S env M ρ a w->Region.wanted o (yielded all.toArray a.tmps)=true ->
        (match Qf0 Γ (Qx V T env M M.length o.op)with
        |some (f,fn,c,args)=>bif args.length.ble fn.ntmps&&Qbb (sc M.length) args then
         run V T Γ AG n ⟨fn,fn.ntmps,lkAG AG f,M.length,fun env' M'=>finS V T fn.results.toList (fun x M''=>bif x.av (sc M''.length)then run V T Γ AG n fx (some (all,l)) os k (Proofs.YthenelknbfjpeaaDoor.putS o.dst x env) M'' else False) env' M'⟩ none [] [.code c] (Qz 0 args) M else False
        |none=>Xy Γ M o (fun x us=>bif x.av (sc (Qk M us).length)&&QaQ (sc (Qk M us).length) us then run V T Γ AG n fx (some (all,l)) os k (Proofs.YthenelknbfjpeaaDoor.putS o.dst x env) (Qk M us)else False) (Qx V T env M M.length o.op)) ->
        wpList P all.toArray (QfG P f fn (k++flat os) R) (o::l) a w:=by
        intro env hi hwant h
        refine wpList_step fun K hK=>?_
        rw[if_pos hwant]
        refine QaP ?_
        have hE:=QcG (P:=P) (V:=V) (ρ:=ρ) (M:=M) (nx:=M.length) (env:=env) (T:=T) (hV.v hi.mem.kept) hT hT2 hi.env o
        split at h
        · -- a call, run in place
          rename_i g fn2 c2 args hin
          obtain⟨he,hl⟩:=QfZ hin
          rw[he]at hE
          obtain⟨hen,hgf,hbody⟩:=hΓ g _ _ hl
          cases hlen:(args.length.ble fn2.ntmps&&Qbb (sc M.length) args)
          · rw[hlen]at h;exact h.elim
          · rw[hlen]at h
            simp only[cond_true]at h
            simp only[Bool.and_eq_true]at hlen
            have hle:=QL hlen.1
            have hr:=hE hen
            rw[hr]
            have hgoes:=ih1 g fn2 ⟨fn2,fn2.ntmps,lkAG AG g,M.length,fun env' M'=>finS V T fn2.results.toList (fun x M''=>bif x.av (sc M''.length)then run V T Γ AG n fx (some (all,l)) os k (Proofs.YthenelknbfjpeaaDoor.putS o.dst x env) M'' else False) env' M'⟩
             (fun e w'=>∃v,e=.returned v/\K (a.put o.dst v) w') ρ [] [.code c2] (Qz 0 args) M ρ { tmps:=(args.map (SA.den ρ)).toArray++Array.replicate (fn2.ntmps-args.length) undef,defers:=[] } w hgf
             (fun env' M' ρ' a' w' hfin' hi'=>by
              obtain⟨x,hx,hres⟩:=Qb7 (fn:=fn2) (R:=fun x M''=>bif x.av (sc M''.length)then run V T Γ AG n fx (some (all,l)) os k (Proofs.YthenelknbfjpeaaDoor.putS o.dst x env) M'' else False) hV hT hi'.env hi'.mem hfin'
              refine⟨_,hres,_,rfl,?_⟩
              cases hxa:x.av (sc M'.length)
              · rw[hxa]at hx;exact hx.elim
              · rw[hxa]at hx
                have hmono:∀i,sc M.length i=true->sc M'.length i=true:=fun i hi=>QU (by have:=Qt hi;have:=hi'.le;simp only at this;omega)
                refine hK _ _ (go2 l _ M' ρ' _ w' hx hh ⟨hi'.av,Qa3 (Xt hmono hi.eav) hxa,(hi.env.over (p:=sc M.length) (fun i hii=>hi'.ag i (Qt hii)) hi.eav).putS hd x,hi'.mem,fun i hik=>(hi'.ag i (by have:=hi.le;simp only;omega)).trans (hi.ag i hik),by have:=hi'.le;have:=hi.le;simp only at *;omega⟩))
             h trivial ⟨hi.av,Qa2 args 0 (Qbx hlen.2),Qfo args fn2.ntmps hle,hi.mem,fun _ _=>rfl,Nat.le_refl _⟩
            show Calls P g _ w _
            intro cs
            let b:Frame:={ (default:Frame)with fn:=g,kind:=.normal }
            have henter:Frame.enter P g (args.map (SA.den ρ)).toArray .normal=b.at { tmps:=(args.map (SA.den ρ)).toArray++Array.replicate (fn2.ntmps-args.length) undef,defers:=[] } [.code c2]:=by
             simp[Frame.enter,Frame.at,hgf,hbody,b]
            rw[henter]
            exact hgoes b cs rfl rfl
        · -- a step
          rename_i hin
          have hWn:=Qbu h
          have hleft:=Qco (o:=o) hΓ hi.mem.kept hE (fun b hb x hx=>hi.mem.at b x hx) (hi.mem.some _ hWn) h
          refine Does.mono hleft ?_
          rintro v w' ⟨x,us,ρ',hx,h1,h2,h3,rfl,h4⟩
          cases hav:(x.av (sc (Qk M us).length)&&QaQ (sc (Qk M us).length) us)
          · rw[hav]at hx;exact hx.elim
          · rw[hav]at hx
            simp only[cond_true]at hx
            simp only[Bool.and_eq_true]at hav
            have hlen:=(Xo us M).1
            have hmono:∀i,sc M.length i=true->sc (Qk M us).length i=true:=fun i hi=>QU (by have:=Qt hi;omega)
            have hρ:∀i,sc M.length i=true->ρ' i=ρ i:=fun i hi=>h3 i (.inl (Qt hi))
            refine hK _ _ (go2 l _ _ ρ' _ w' hx hh ⟨Qca hi.av (by rw[h1];exact h2) hav.2,Qa3 (Xt hmono hi.eav) hav.1,(hi.env.over hρ hi.eav).putS hd x,hi.mem.ups hi.av hρ us (by rw[h1];exact h2) (by rw[h1];exact h4),fun i hik=>(h3 i (.inl (by have:=hi.le;omega))).trans (hi.ag i hik),by have:=hi.le;omega⟩)
       have hskip:∀env,Inv ρ0 fx.k0 fx.nt w0 S env M ρ a w->Region.wanted o (yielded all.toArray a.tmps)=false->run V T Γ AG n fx (some (all,l)) os k (Proofs.YthenelknbfjpeaaDoor.putS o.dst (sv undef) env) M->wpList P all.toArray (QfG P f fn (k++flat os) R) (o::l) a w:=by
        intro env hi hwant h
        refine wpList_step fun K hK=>?_
        rw[if_neg (by rw[hwant];simp)]
        exact hK _ _ (go2 l _ M ρ _ w h hh ⟨hi.av,Qa3 hi.eav rfl,hi.env.putS hd (sv undef),hi.mem,hi.ag,hi.le⟩)
       cases g with
       |none=>exact hgo env hi (hw1 rfl) h
       |some tw=>
        obtain⟨t,want⟩:=tw
        dsimp only at h
        split at h
        · rename_i b hl
          have hwb:=hw2 t want b rfl hl
          have hi':Inv ρ0 fx.k0 fx.nt w0 S ((t,sv (.bool b))::env) M ρ a w:=⟨hi.av,by simp only[Xc,Bool.and_eq_true];exact⟨rfl,hi.eav⟩,hi.env.same hl,hi.mem,hi.ag,hi.le⟩
          cases b<;>cases want<;>simp only[cond_true,cond_false]at h
          · exact hgo _ hi' hwb h
          · exact hskip _ hi' hwb h
          · exact hskip _ hi' hwb h
          · exact hgo _ hi' hwb h
        · rename_i u hl
          exact hskip _ hi (hw3 t want u rfl hl) h
        · exact h.elim
end
end
end
section
open Go.RowKit
theorem TysOk.of {P:Program}{T:Tab}(h:T.all (fun p=>Qat P p.1&&(!QaH p.2||eqTy P p.1)&&QcM P p.1)=true) (hm:P.follows .mixedOrders=true):TysOk P T:=by
 refine⟨hm,fun t i hi=>?_⟩
 induction T with
 |nil=>simp[lkT]at hi
 |cons p r ih=>
  simp only[List.all_cons,Bool.and_eq_true]at h
  unfold lkT at hi
  cases hb:p.1.beq t
  · rw[hb]at hi;exact ih h.2 hi
  · have:=Nat.eq_of_beq_eq_true hb
    rw[hb]at hi
    simp only[cond_true,Option.some.injEq]at hi;subst hi
    rw[<- this];refine⟨h.1.1.1,fun hi=>?_,h.1.2⟩
    have:=h.1.1.2;rw[hi]at this;simpa using this
theorem XJ {b:Bool}{A B:Prop}(h:b=true->A) (k:b=false->B):bif b then A else B:=by
 cases b
 · exact k rfl
 · exact h rfl
theorem svB {b c:Bool}(h:b=c):SV.o (.c (.v (.bool b)))=SV.o (.c (.v (.bool c))):=by rw[h]
theorem QbQ {p q:Prop}(e:p=q) (h:q):p:=e ▸ h
def XQ (id:Nat):Code->Option (Array Oper)
 |.region i ops _=>bif i.beq id then some ops else none
 |.seq a b=>match XQ id a with
  |some x=>some x
  |none=>XQ id b
 |.cond _ a b=>match XQ id a with
  |some x=>some x
  |none=>XQ id b
 |.block _ b=>XQ id b
 |.loop b=>XQ id b
 |.scope b=>XQ id b
 |_=>none
def regOps (fn:Func) (id:Nat):Array Oper:=(fn.body.bind (XQ id)).getD #[]
section
variable {P:Program}{f:FuncId}{fn:Func}{c:Code}{T:Tab}{Γ:Gam}{AG:List (Nat × Anns)}{w0 w:World}{S:Nat->Prop}{ρ:Nat->Nat}{M:List SB}
theorem XT {V:World}(hV:OldOk V w0 S) (hf:P.funcs[f]?=some fn) (hb:fn.body=some c) (hT:TabOk P T) (hT2:TysOk P T) (hΓ:GamOk P w0 S Γ) {R:SV->List SB->Prop}(args:List SA) (k0:Nat) (hk:k0<=M.length)
 (hc:(args.length.ble fn.ntmps&&Qbb (sc M.length) args&&QX (sc M.length) M)=true) (HM:Mem w0 S (denM ρ 0 M) w) (n:Nat)
 (h:run V T Γ AG n ⟨fn,fn.ntmps,lkAG AG f,k0,finS V T fn.results.toList R⟩ none [] [.code c] (Qz 0 args) M):
 Calls P f (args.map (SA.den ρ)).toArray w fun e w'=>∃x M' ρ',R x M'/\(∀i,i<k0->ρ' i=ρ i)/\e=.returned (x.den ρ')/\Mem w0 S (denM ρ' 0 M') w':=by
 simp only[Bool.and_eq_true]at hc
 have ha:=QL hc.1.1
 have hs:=(QeQ (P:=P) (w0:=w0) (S:=S) (AG:=AG) hV hT hT2 hΓ n).1 f fn ⟨fn,fn.ntmps,lkAG AG f,k0,finS V T fn.results.toList R⟩ (fun e w'=>∃x M' ρ',R x M'/\(∀i,i<k0->ρ' i=ρ i)/\e=.returned (x.den ρ')/\Mem w0 S (denM ρ' 0 M') w') ρ
  [] [.code c] (Qz 0 args) M ρ { tmps:=(args.map (SA.den ρ)).toArray++Array.replicate (fn.ntmps-args.length) undef,defers:=[] } w hf
  (fun env M ρ' a w hfin hi=>by
   obtain⟨x,hR,hr⟩:=Qb7 hV hT hi.env hi.mem hfin
   exact⟨_,hr,x,M,ρ',hR,hi.ag,rfl,hi.mem⟩) h trivial ⟨Qd2 hc.2,Qa2 args 0 (Qbx hc.1.2),Qfo args fn.ntmps ha,HM,fun _ _=>rfl,hk⟩
 intro cs
 let b:Frame:={ (default:Frame)with fn:=f,kind:=.normal }
 have henter:Frame.enter P f (args.map (SA.den ρ)).toArray .normal=b.at { tmps:=(args.map (SA.den ρ)).toArray++Array.replicate (fn.ntmps-args.length) undef,defers:=[] } [.code c]:=by
  simp[Frame.enter,Frame.at,hf,hb,b]
 rw[henter]
 exact hs b cs rfl rfl
theorem Qb1 {w0:World}{S:Nat->Prop}(hf:P.funcs[f]?=some fn) (hb:fn.body=some c) (hen:XR P f=true) (hT:TabOk P T) (hT2:TysOk P T) (hΓ:∀w,Kept S w0 w->GamOk P w (fun _=>False) Γ) (C:PCon) (n:Nat)
 (h:∀(w:World) args,C.pre args->(args.length.ble fn.ntmps&&Qbb (sc 0) args)=true/\run w T Γ AG n ⟨fn,fn.ntmps,lkAG AG f,0,finS w T fn.results.toList (fun x _=>x=C.out args/\x.av (sc 0)=true)⟩ none [] [.code c] (Qz 0 args) []):(Con.pure C).holdsAt P w0 S f:=by
 refine⟨hen,fun ρ args w hp hK=>?_⟩
 obtain⟨h1,h2⟩:=h w args hp
 refine (XT (OldOk.self w) (ρ:=ρ) (M:=[]) hf hb hT hT2 (hΓ w hK) args 0 (Nat.le_refl _) (by rw[show QX (sc ([]:List SB).length) []=true from rfl,Bool.and_true];exact h1) (Mem.start w) n h2).mono ?_
 rintro e w' ⟨x,M',ρ',⟨rfl,hx⟩,-,rfl,HM⟩
 exact⟨by rw[SV.av_den (p:=sc 0) (ρ:=ρ) (ρ':=ρ') (fun i hi=>by have:=Qt hi;omega) hx],HM.below⟩
theorem Q9 (hf:P.funcs[f]?=some fn) (hb:fn.body=some c) (hen:XR P f=true) (hT:TabOk P T) (hT2:TysOk P T) (hΓ:∀w,GamOk P w (fun _=>False) Γ) (C:PCon) (n:Nat)
 (h:∀(w:World) args,C.pre args->(args.length.ble fn.ntmps&&Qbb (sc 0) args)=true/\run w T Γ AG n ⟨fn,fn.ntmps,lkAG AG f,0,finS w T fn.results.toList (fun x _=>x=C.out args/\x.av (sc 0)=true)⟩ none [] [.code c] (Qz 0 args) []):(Con.pure C).holds P f:=
 fun _ _=>Qb1 hf hb hen hT hT2 (fun w _=>hΓ w) C n h
def endP (C:PCon) (args:List SA) (x:SV) (M:List SB):Prop:=x.av (sc 0)=true/\∀ρ,x.den ρ=(C.out args).den ρ
theorem Q8 {w0:World}{S:Nat->Prop}(hf:P.funcs[f]?=some fn) (hb:fn.body=some c) (hen:XR P f=true) (hT:TabOk P T) (hT2:TysOk P T) (hΓ:∀w,Kept S w0 w->GamOk P w (fun _=>False) Γ) (C:PCon) (AG:List SA->List (Nat × Anns)) (n:Nat)
 (h:∀(w:World) args,C.pre args->Kept S w0 w->(args.length.ble fn.ntmps&&Qbb (sc 0) args)=true/\run w T Γ (AG args) n ⟨fn,fn.ntmps,lkAG (AG args) f,0,finS w T fn.results.toList (endP C args)⟩ none [] [.code c] (Qz 0 args) []):(Con.pure C).holdsAt P w0 S f:=by
 refine⟨hen,fun ρ args w hp hK=>?_⟩
 obtain⟨h1,h2⟩:=h w args hp hK
 refine (XT (OldOk.self w) (ρ:=ρ) (M:=[]) hf hb hT hT2 (hΓ w hK) args 0 (Nat.le_refl _) (by rw[show QX (sc ([]:List SB).length) []=true from rfl,Bool.and_true];exact h1) (Mem.start w) n h2).mono ?_
 rintro e w' ⟨x,M',ρ',⟨hx,hd⟩,-,rfl,HM⟩
 exact⟨by rw[SV.av_den (p:=sc 0) (ρ:=ρ) (ρ':=ρ') (fun i hi=>by have:=Qt hi;omega) hx,hd ρ],HM.below⟩
theorem Xe (hf:P.funcs[f]?=some fn) (hb:fn.body=some c) (hen:XR P f=true) (hT:TabOk P T) (hT2:TysOk P T) (hΓ:∀w,GamOk P w (fun _=>False) Γ) (C:PCon) (AG:List SA->List (Nat × Anns)) (n:Nat)
 (h:∀(w:World) args,C.pre args->(args.length.ble fn.ntmps&&Qbb (sc 0) args)=true/\run w T Γ (AG args) n ⟨fn,fn.ntmps,lkAG (AG args) f,0,finS w T fn.results.toList (endP C args)⟩ none [] [.code c] (Qz 0 args) []):(Con.pure C).holds P f:=
 fun _ _=>Q8 hf hb hen hT hT2 (fun w _=>hΓ w) C AG n (fun w args hp _=>h w args hp)
theorem QgH (hf:P.funcs[f]?=some fn) (hb:fn.body=some c) (hT:TabOk P T) (hT2:TysOk P T) {w:World}(hΓ:GamOk P w (fun _=>False) Γ) (args:List SA) (v:Value) (n:Nat) (ha:(args.length.ble fn.ntmps&&Qbb (sc 0) args)=true)
 (h:run w T Γ AG n ⟨fn,fn.ntmps,lkAG AG f,0,finS w T fn.results.toList (fun x _=>x=sv v)⟩ none [] [.code c] (Qz 0 args) []) {ar:Array Value}(has:ar=(args.map (SA.den (fun _=>0))).toArray):
 Calls P f ar w fun e w'=>e=.returned v/\Below w.heap.size w w':=by
 subst has
 refine (XT (OldOk.self w) (ρ:=fun _=>0) (M:=[]) hf hb hT hT2 hΓ args 0 (Nat.le_refl _) (by rw[show QX (sc ([]:List SB).length) []=true from rfl,Bool.and_true];exact ha) (Mem.start w) n h).mono ?_
 rintro e w' ⟨x,M',ρ',rfl,-,rfl,HM⟩
 exact⟨rfl,HM.below⟩
def reL (env:Env):Nat->List SA->List SA
 |_,[]=>[]
 |i,x::r=>(match lk env i with
  |some (.o y)=>y
  |_=>x)::reL env (i+1) r
end
abbrev sI (x:Int):Seg:=.one (.v (.int .i64 x))
abbrev sU (x:Int):Seg:=.one (.v (.int .u64 x))
abbrev sB (x:Bool):Seg:=.one (.v (.bool x))
abbrev sP (b o:Nat):Seg:=.one (.p b o)
abbrev sS (b lo sz n c:Nat) (nn:Bool):Seg:=.one (.so b lo sz n c nn)
abbrev aI (x:Int):SA:=.c (.v (.int .i64 x))
abbrev aU (x:Int):SA:=.c (.v (.int .u64 x))
abbrev aB (x:Bool):SA:=.c (.v (.bool x))
abbrev aP (b o:Nat):SA:=.c (.p b o)
abbrev nU (n:Nat) (f:Nat->Int):Seg:=.ints (.int .u64) n f
abbrev nI (n:Nat) (f:Nat->Int):Seg:=.ints (.int .i64) n f
abbrev nB (n:Nat) (f:Nat->Int):Seg:=.ints .bool n f
abbrev xE (i:Nat):HX:=⟨i,[],[],[],false⟩
abbrev xF (i b:Nat):HX:=⟨i,[],[],[b],false⟩
abbrev xR (i b:Nat):HX:=⟨i,[b],[],[],false⟩
abbrev kI5:List CK:=[.int .i64,.int .i64,.int .i64,.int .i64,.int .i64]
abbrev kI6:List CK:=[.int .i64,.int .i64,.int .i64,.int .i64,.int .i64,.int .i64]
abbrev kI9:List CK:=[.int .i64,.int .i64,.int .i64,.int .i64,.int .i64,.int .i64,.int .i64,.int .i64,.int .i64]
abbrev kV7:List CK:=[.int .u64,.int .i64,.int .i64,.int .i64,.int .i64,.int .i64,.int .i64]
abbrev dP (fn:Func) (id n:Nat) (h:List HX):Prop:=QdL fn id (regOps fn id) n h
def blkA:List SA->List Nat
 |[]=>[]
 |.c (.p b _)::r=>b::blkA r
 |.c (.o b _ _)::r=>b::blkA r
 |.c (.so b _ _ _ _ _)::r=>b::blkA r
 |_::r=>blkA r
theorem Qfx {p:Prop}[Decidable p] {A B:Prop}(h:p->A) (k:¬p->B):bif decide p then A else B:=by
 by_cases hp:p
 · rw[decide_eq_true hp];exact h hp
 · rw[decide_eq_false hp];exact k hp
theorem by_beq {a b:Int}{A B:Prop}(h:a=b->A) (k:a≠b->B):bif (a==b)then A else B:=by
 by_cases hp:a=b
 · rw[beq_iff_eq.2 hp];exact h hp
 · rw[show (a==b)=false from beq_eq_false_iff_ne.2 hp];exact k hp
theorem Qex {b:Bool}{A B:Prop}(h:b=false->A) (k:b=true->B):bif (bif b then false else true)then A else B:=by
 cases b
 · exact h rfl
 · exact k rfl
def blkE (env:Env) (t:Nat):Nat:=match lk env t with
 |some (.o (.c (.p b _)))=>b
 |some (.o (.c (.so b _ _ _ _ _)))=>b
 |some (.o (.c (.m b)))=>b
 |_=>0
theorem svI {a b:Int}(h:a=b):some (sv (.int .i64 a))=some (sv (.int .i64 b)):=by rw[h]
theorem sucI {n:Nat}(h:n<=1000000000):IntKind.wrap .i64 ((n:Int)+1)=((n+1:Nat):Int):=by
 simp only[IntKind.wrap,IntKind.bits,IntKind.signed];simp;omega
theorem Qee {x:Int}(h0 : -9223372036854775808<=x) (h1:x<=9223372036854775807):IntKind.wrap .i64 x=x:=by
 simp only[IntKind.wrap,IntKind.bits,IntKind.signed];simp;omega
theorem QeD {x:Int}(h0:0<=x) (h1:x<18446744073709551616):IntKind.wrap .u64 x=x:=by
 simp only[IntKind.wrap,IntKind.bits,IntKind.signed];simp;omega
abbrev eS (a b:SA):Prop:=some (SV.o a)=some (SV.o b)
abbrev iR (i n:Int):Prop:=0<=i/\i<n
abbrev i04:Prop:=(0:Int)<=(0:Int)/\(0:Int)<(4:Int)
abbrev eN:Prop:=([]:List SB)=[]
abbrev zF:Nat->Int:=fun _=>0
abbrev t8 (n:Nat):Nat:=0+Int.toNat (n:Int)+Int.toNat (n:Int)+Int.toNat (n:Int)+Int.toNat (n:Int)+Int.toNat (n:Int)+Int.toNat (n:Int)+Int.toNat (n:Int)+Int.toNat (n:Int)
end
section
def getN (w a n:Nat):Nat:=w/2^a%2^n
theorem XX {x:Nat}(h:x<18446744073709551616):IntKind.wrap .u64 (x:Int)=x:=by
 simp only[IntKind.wrap,IntKind.bits,IntKind.signed];simp;omega
theorem ofI (x:Nat):BitVec.ofInt 64 (x:Int)=BitVec.ofNat 64 x:=by simp
theorem Qgh {x y:Nat}(hx:x<2^64) (hy:y<2^64):bits .and .u64 (x:Int) (y:Int)=((x &&& y:Nat):Int):=by
 show IntKind.wrap .u64 ((BitVec.ofInt 64 (x:Int) &&& BitVec.ofInt 64 (y:Int)).toNat:Int)=_
 rw[ofI,ofI,BitVec.toNat_and,BitVec.toNat_ofNat,BitVec.toNat_ofNat,Nat.mod_eq_of_lt hx,Nat.mod_eq_of_lt hy,XX (Nat.lt_of_le_of_lt Nat.and_le_left hx)]
theorem QdR {x y:Nat}(hx:x<2^64) (hy:y<2^64):bits .or .u64 (x:Int) (y:Int)=((x ||| y:Nat):Int):=by
 show IntKind.wrap .u64 ((BitVec.ofInt 64 (x:Int) ||| BitVec.ofInt 64 (y:Int)).toNat:Int)=_
 rw[ofI,ofI,BitVec.toNat_or,BitVec.toNat_ofNat,BitVec.toNat_ofNat,Nat.mod_eq_of_lt hx,Nat.mod_eq_of_lt hy,XX (Nat.or_lt_two_pow hx hy)]
def Qc4 (n:Int):Int:=bif decide (64<=n)then 18446744073709551615 else 2^n.toNat-1
def Qak (a n:Int):Bool:=decide (0<=a/\1<=n/\a<64/\n<=64-a)
def getZ (w a n:Int):Int:=(getN w.toNat a.toNat n.toNat:Nat)
abbrev U64 (w:Int):Prop:=0<=w/\w<18446744073709551616
theorem U64.nat {w:Int}(h:U64 w):∃n:Nat,w=n/\n<2^64:=⟨w.toNat,by omega,by omega⟩
theorem onesN (n:Nat) (h:n<=64):Qc4 (n:Int)=((2^n-1:Nat):Int):=by
 have h1:=Nat.two_pow_pos n
 have h2:((2^n:Nat):Int)=2^n:=by push_cast;rfl
 unfold Qc4
 by_cases h64:n=64
 · subst h64;rfl
 · rw[decide_eq_false (by omega)]
   simp only[cond_false,Int.toNat_natCast]
   omega
theorem QgF (n:Nat) (h:n<=64):2^n-1<2^64:=by
 have h1:=Nat.two_pow_pos n
 have:=Nat.pow_le_pow_right (show 0<2 by decide) h
 omega
theorem Qgz (x a:Nat) (h:a<=64):Int.fdiv (x:Int) (2^(min (a:Int).toNat 64))=((x/2^a:Nat):Int):=by
 rw[Int.toNat_natCast,Nat.min_eq_left h,Int.fdiv_eq_ediv_of_nonneg _ (Int.pow_nonneg (by decide))]
 push_cast;rfl
theorem QeO (x a:Nat) (h:a<=64) (hx:x*2^a<18446744073709551616):IntKind.wrap .u64 ((x:Int)*2^(min (a:Int).toNat 64))=((x*2^a:Nat):Int):=by
 rw[Int.toNat_natCast,Nat.min_eq_left h,show (x:Int)*2^a=((x*2^a:Nat):Int) by push_cast;rfl,XX hx]
theorem Qf3 {w a n:Int}(hw:U64 w) (h:Qak a n=true):bits .and .u64 (Int.fdiv w (2^(min a.toNat 64))) (Qc4 n)=getZ w a n:=by
 obtain⟨x,rfl,hx⟩:=hw.nat
 have h:=of_decide_eq_true h
 obtain⟨b,rfl⟩:=Int.eq_ofNat_of_zero_le (show 0<=a by omega)
 obtain⟨m,rfl⟩:=Int.eq_ofNat_of_zero_le (show 0<=n by omega)
 rw[Qgz x b (by omega),onesN m (by omega),Qgh (Nat.lt_of_le_of_lt (Nat.div_le_self _ _) hx) (QgF m (by omega)),Nat.and_two_pow_sub_one_eq_mod]
 rfl
end
section
open Go.RowKit
abbrev uA (n:Int):SA:=.c (.v (.int .u64 n))
def nilE:SA:=.c (.v .nilIface)
def tabU:Tab:=[(3,.one (.int .i64 0) (.int .i64)),
(4,.one (.bool false) .bool),
(9,.one (.string ⟨#[]⟩) .str),
(23,.str [.one (.v (.int .i64 0)),.one (.v (.int .i64 0)),.one (.v (.int .i64 0))] [(0,1,false),(1,1,false),(2,1,false)]),
(26,.one (.int .u64 0) (.int .u64)),
(28,.one (.nilIface) .iface),
(39,.str [.one (.v (.int .i64 0)),.one (.v (.int .i64 0))] [(0,1,false),(1,1,false)]),
(46,.one (.int .i64 0) (.int .i64)),
(47,.one (.int .u64 0) (.int .u64)),
(48,.arr [.one (.v (.string ⟨#[]⟩)),.one (.v (.string ⟨#[]⟩)),.one (.v (.string ⟨#[]⟩)),.one (.v (.string ⟨#[]⟩)),.one (.v (.string ⟨#[]⟩)),.one (.v (.string ⟨#[]⟩))] 6 1 false)]
theorem Q2:TabOk Tryd.prog tabU:=.cons ⟨by kernel_rfl,by kernel_rfl,by kernel_rfl,by kernel_rfl,by kernel_rfl⟩ (.cons ⟨by kernel_rfl,by kernel_rfl,by kernel_rfl,by kernel_rfl,by kernel_rfl⟩ (.cons ⟨by kernel_rfl,by kernel_rfl,by kernel_rfl,by kernel_rfl,by kernel_rfl⟩ (.cons ⟨by kernel_rfl,by kernel_rfl,by kernel_rfl,by kernel_rfl⟩ (.cons ⟨by kernel_rfl,by kernel_rfl,by kernel_rfl,by kernel_rfl,by kernel_rfl⟩ (.cons ⟨by kernel_rfl,by kernel_rfl,by kernel_rfl,by kernel_rfl,by kernel_rfl⟩ (.cons ⟨by kernel_rfl,by kernel_rfl,by kernel_rfl,by kernel_rfl⟩ (.cons ⟨by kernel_rfl,by kernel_rfl,by kernel_rfl,by kernel_rfl,by kernel_rfl⟩ (.cons ⟨by kernel_rfl,by kernel_rfl,by kernel_rfl,by kernel_rfl,by kernel_rfl⟩ (.cons ⟨by kernel_rfl,by kernel_rfl,by kernel_rfl,by kernel_rfl⟩ (TabOk.nil _))))))))))
theorem QI:TysOk Tryd.prog tabU:=TysOk.of (by kernel_rfl) (by kernel_rfl)
def QcJ:PCon:=⟨fun args=>match args with
 |[.c (.v (.int .i64 n))]=>0<=n/\n<=64
 |_=>False,fun args=>match args with
 |[.c (.v (.int .i64 n))]=>sv (.int .u64 (Qc4 n))
 |_=>sv undef,fun _=>none⟩
theorem QfR:(Con.pure QcJ).holds Tryd.prog 23:=by
 refine Q9 (AG:=[]) (Γ:=[]) Tryd.func23 rfl (by kernel_rfl) Q2 QI (fun _=>GamOk.nil _ _ _) QcJ 200 ?_
 intro W args hp
 unfold QcJ at hp;dsimp only at hp;split at hp
 case h_2=>exact hp.elim
 rename_i n
 refine⟨rfl,?_⟩
 refine QbQ (q:=bif decide (n>=(64:Int))then SV.o (aU 18446744073709551615)=SV.o (aU (Qc4 n))/\true=true else (0:Int)<=n/\SV.o (aU (IntKind.wrap .u64 (IntKind.wrap .u64 ((1:Int)*(2:Int)^min (Int.toNat n) 64)-(1:Int))))=SV.o (aU (Qc4 n))/\true=true) (by kernel_rfl) ?_
 obtain⟨m,rfl⟩:=Int.eq_ofNat_of_zero_le hp.1
 refine XJ (fun h=>⟨?_,rfl⟩) (fun h=>⟨hp.1,?_,rfl⟩)
 · unfold Qc4;rw[decide_eq_true (of_decide_eq_true h)];rfl
 · have h:=of_decide_eq_false h
   have l:=Nat.pow_lt_pow_right (show 1<2 by decide) (show m<64 by omega)
   have l2:=Nat.two_pow_pos m
   have e1:=QeO 1 m (by omega) (by omega)
   rw[show (1:Int)*2^min (m:Int).toNat 64=((1:Nat):Int)*2^min (m:Int).toNat 64 from rfl,e1,onesN m (by omega)]
   rw[show ((1*2^m:Nat):Int)-1=((2^m-1:Nat):Int) by omega,XX (by omega)]
def QaL:PCon:=⟨fun args=>match args with
 |[.c (.v (.int .i64 a)),.c (.v (.int .i64 n))]=>True
 |_=>False,fun args=>match args with
 |[.c (.v (.int .i64 a)),.c (.v (.int .i64 n))]=>sv (.bool (Qak a n))
 |_=>sv undef,fun _=>none⟩
theorem Qed:(Con.pure QaL).holds Tryd.prog 22:=by
 refine Q9 (AG:=[]) (Γ:=[]) Tryd.func22 rfl (by kernel_rfl) Q2 QI (fun _=>GamOk.nil _ _ _) QaL 200 ?_
 intro W args hp
 unfold QaL at hp;dsimp only at hp;split at hp
 case h_2=>exact hp.elim
 rename_i a n
 refine⟨rfl,?_⟩
 refine QbQ (q:=bif decide (a>=(0:Int))then bif decide (n>=(1:Int))then bif decide (a<(64:Int))then SV.o (aB (decide (n<=IntKind.wrap .i64 ((64:Int)-a))))=SV.o (aB (Qak a n))/\true=true else SV.o (aB false)=SV.o (aB (Qak a n))/\true=true else SV.o (aB false)=SV.o (aB (Qak a n))/\true=true else SV.o (aB false)=SV.o (aB (Qak a n))/\true=true) (by kernel_rfl) ?_
 have hw:decide (a>=0)=true->decide (a<64)=true->IntKind.wrap .i64 (64-a)=64-a:=fun h1 h2=>by
  have:=of_decide_eq_true h1;have:=of_decide_eq_true h2
  simp only[IntKind.wrap,IntKind.bits,IntKind.signed];simp;omega
 refine XJ (fun h1=>XJ (fun h2=>XJ (fun h3=>⟨?_,rfl⟩) (fun h3=>⟨?_,rfl⟩)) (fun h2=>⟨?_,rfl⟩)) (fun h1=>⟨?_,rfl⟩)
 · rw[hw h1 h3];refine svB ?_;unfold Qak;simp only[decide_eq_true_eq,decide_eq_decide]at *;omega
 all_goals (refine svB ?_;unfold Qak;symm;simp only[decide_eq_true_eq,decide_eq_false_iff_not]at *;omega)
def Qdm:PCon:=⟨fun args=>match args with
 |[.c (.v (.int .u64 w)),.c (.v (.int .i64 a)),.c (.v (.int .i64 n))]=>U64 w/\Qak a n=true
 |_=>False,fun args=>match args with
 |[.c (.v (.int .u64 w)),.c (.v (.int .i64 a)),.c (.v (.int .i64 n))]=>.t [uA (getZ w a n),nilE]
 |_=>sv undef,fun _=>none⟩
theorem Qfj:(Con.pure Qdm).holds Tryd.prog 18:=by
 refine Q9 (AG:=[]) (Γ:=[(22,.pure QaL),(23,.pure QcJ)]) Tryd.func18 rfl (by kernel_rfl) Q2 QI
  (fun W=>.cons (Qed W _) (.cons (QfR W _) (.nil _ _ _))) Qdm 200 ?_
 intro W args hp
 unfold Qdm at hp;dsimp only at hp;split at hp
 case h_2=>exact hp.elim
 rename_i w a n
 refine⟨rfl,?_⟩
 refine QbQ (q:=True/\bif bif Qak a n then false else true then SV.t [aU 0,SA.c (.v (.iface 46 (Value.int .i64 (2:Int))))]=SV.t [aU (getZ w a n),SA.c (.v Value.nilIface)]/\true=true else (0:Int)<=a/\((0:Int)<=n/\n<=(64:Int))/\dP Tryd.f18 3 0 [xE 7,xE 6,xE 5,xE 4,xE 3,xE 2,xE 1,xE 0]/\SV.t [aU (bits BinOp.and .u64 (Int.fdiv w ((2:Int)^min (Int.toNat a) 64)) (Qc4 n)),SA.c (.v Value.nilIface)]=SV.t [aU (getZ w a n),SA.c (.v Value.nilIface)]/\true=true) (by kernel_rfl) ?_
 have h:=of_decide_eq_true hp.2
 rw[hp.2]
 exact⟨trivial,by omega,⟨by omega,by omega⟩,QgO (by kernel_rfl),by rw[Qf3 hp.1 hp.2],rfl⟩
end
section
def dst (h j:Nat):Nat:=(j+8-h)%8
def opOk (a b c:Int):Bool:=decide (1<=a/\a<=6/\0<=b/\b<=1000/\0<=c/\c<=4294967295)
def Qg0 (c v:Int):Prop:=1<=c/\c<=5/\0<=v/\v<=4294967295/\(c=1\/v=0)
end
section
def ansW (c v:Int):Int:=c*4294967296+v
section
variable (f:Nat->Int)
end
def Qq (c v:Int):Bool:=decide (1<=c/\c<=5/\0<=v/\v<=4294967295/\(c=1\/v=0))
theorem QeA (c v:Int):Qq c v=true↔Qg0 c v:=by unfold Qq Qg0;exact decide_eq_true_iff
end
section
theorem QgN {w:Int}(h:U64 w):getZ w 32 32=w/4294967296%4294967296:=by
 obtain⟨x,rfl,hx⟩:=h.nat
 show ((x/4294967296%4294967296:Nat):Int)=_
 omega
theorem Qfk {w:Int}(h:U64 w):getZ w 0 32=w%4294967296:=by
 obtain⟨x,rfl,hx⟩:=h.nat
 show ((x/1%4294967296:Nat):Int)=_
 omega
theorem Qgm {c v:Int}(h:Qg0 c v):bits .or .u64 (IntKind.wrap .u64 (IntKind.wrap .u64 c*2^(min (32:Int).toNat 64))) (IntKind.wrap .u64 v)=ansW c v:=by
 obtain⟨h1,h2,h3,h4,-⟩:=h
 obtain⟨x,rfl⟩:=Int.eq_ofNat_of_zero_le (show 0<=c by omega)
 obtain⟨y,rfl⟩:=Int.eq_ofNat_of_zero_le h3
 rw[XX (x:=x) (by omega),XX (x:=y) (by omega)]
 rw[show IntKind.wrap .u64 ((x:Int)*2^(min (32:Int).toNat 64))=((x*2^32:Nat):Int)from QeO x 32 (by decide) (by omega)]
 rw[QdR (by omega) (by omega)]
 unfold ansW
 have:=Nat.two_pow_add_eq_or_of_lt (i:=32) (b:=y) (by omega) x
 rw[Nat.mul_comm,<- this]
 show ((4294967296*x+y:Nat):Int)=_
 omega
def opW (k key x:Int):Int:=k*281474976710656+key*4294967296+x
end
section
open Go.Lib
abbrev Bs:=List UInt8
theorem QfI {n:Nat}(h:n<256):(UInt8.ofNat n).toNat=n:=by
 rw[UInt8.toNat_ofNat'];omega
theorem QeU {c:UInt8}(h1:48<=c.toNat) (h2:c.toNat<=57) {v:Nat}(hv:v<1844674407370955161):∀ {l:Bs}{acc:Nat},parseUint10 acc l=.ok v->parseUint10 acc (l++[c])=.ok (v*10+(c.toNat-48))
 |[],acc,h=>by
  simp only[parseUint10,NumEnd.ok.injEq]at h
  subst h
  show parseUint10 acc [c]=_
  unfold parseUint10
  rw[if_pos ⟨h1,h2⟩,if_neg (by omega),if_neg (by omega)];rfl
 |b::l,acc,h=>by
  show parseUint10 acc (b::(l++[c]))=_
  unfold parseUint10 at h ⊢
  split at h
  · split at h
    · cases h
    · split at h
      · cases h
      · rename_i a1 a2 a3
        rw[if_pos a1,if_neg a2,if_neg a3]
        exact QeU h1 h2 hv h
  · cases h
theorem Qf6 {u:Nat}(h:u<10):decDigits u=[UInt8.ofNat (48+u)]:=by rw[decDigits,dif_pos h]
theorem Qf7 {u:Nat}(h:¬u<10):decDigits u=decDigits (u/10)++[UInt8.ofNat (48+u%10)]:=by rw[decDigits,dif_neg h]
theorem dd_ok:∀(u:Nat),u<1000000000000000000->parseUint10 0 (decDigits u)=.ok u:=by
 intro u
 induction u using Nat.strongRecOn with
 |ind u ih=>
  intro hu
  by_cases h:u<10
  · rw[Qf6 h]
    unfold parseUint10
    have e:=QfI (n:=48+u) (by omega)
    rw[e,if_pos ⟨by omega,by omega⟩,if_neg (by omega),if_neg (by omega)]
    show NumEnd.ok _=_
    congr 1;omega
  · rw[Qf7 h]
    have e:=QfI (n:=48+u%10) (by omega)
    rw[QeU (by rw[e];omega) (by rw[e];omega) (by omega) (ih (u/10) (by omega) (by omega)),e]
    congr 1;omega
theorem Qgt {c:UInt8}:∀(u:Nat),c∈decDigits u->48<=c.toNat/\c.toNat<=57:=by
 intro u
 induction u using Nat.strongRecOn with
 |ind u ih=>
  intro hc
  by_cases h:u<10
  · rw[Qf6 h,List.mem_singleton]at hc
    rw[hc,QfI (by omega)];omega
  · rw[Qf7 h,List.mem_append,List.mem_singleton]at hc
    rcases hc with hc|hc
    · exact ih (u/10) (by omega) hc
    · rw[hc,QfI (by omega)];omega
theorem dd_ne (u:Nat):decDigits u≠[]:=by
 by_cases h:u<10
 · rw[Qf6 h];simp
 · rw[Qf7 h];simp
theorem Qcx {n:Int}(h:0<=n):itoa n=decDigits n.toNat:=by unfold itoa;rw[if_neg (by omega)]
theorem QfX {n:Int}(h:0<=n) {c:UInt8}(hc:c∈itoa n):48<=c.toNat/\c.toNat<=57:=by
 rw[Qcx h]at hc;exact Qgt _ hc
theorem QbU {n:Int}(h0:0<=n) (h1:n<1000000000000000000):atoiAll (itoa n)=.ok n:=by
 obtain⟨m,rfl⟩:=Int.eq_ofNat_of_zero_le h0
 rw[Qcx h0,Int.toNat_natCast]
 have hne:=dd_ne m
 have hm:=dd_ok m (by omega)
 cases hl:decDigits m with
 |nil=>exact absurd hl hne
 |cons c r=>
  have hc:=Qgt (c:=c) m (by rw[hl];exact List.mem_cons_self)
  unfold atoiAll
  dsimp only
  rw[if_neg (by omega)]
  unfold parseMag
  rw[if_neg (by simp),<- hl,hm]
  dsimp only
  rw[if_neg (by omega),if_neg (by omega),if_neg (by omega)]
theorem QfY {a b:Int}(a0:0<=a) (a1:a<1000000000000000000) (b0:0<=b) (b1:b<1000000000000000000) (h:itoa a=itoa b):a=b:=by
 have h1:=QbU a0 a1
 rw[h,QbU b0 b1]at h1
 exact (NumEnd.ok.inj h1).symm
theorem XF {n:Int}(h0:0<=n) (h1:n<10000000000):(itoa n).length<=10:=by
 rw[Qcx h0]
 obtain⟨m,rfl⟩:=Int.eq_ofNat_of_zero_le h0
 rw[Int.toNat_natCast]
 have key:∀(k u:Nat),1<=k->u<10^k->(decDigits u).length<=k:=by
  intro k
  induction k with
  |zero=>intro u h;omega
  |succ k ih=>
   intro u _ hu
   by_cases h:u<10
   · rw[Qf6 h];simp
   · rw[Qf7 h,List.length_append,List.length_singleton]
     have hk:1<=k:=by
      rcases Nat.eq_zero_or_pos k with h0|h0
      · subst h0;omega
      · exact h0
     have:=ih (u/10) hk (by rw[Nat.pow_succ]at hu;omega)
     omega
 exact key 10 m (by decide) (by omega)
theorem QeW (c b:UInt8) (l:Bs):[c].isPrefixOf (b::l)=(c==b):=by simp[List.isPrefixOf]
theorem Qgu (c:UInt8) (l:Bs):cut (c::l) [c]=([],l,true):=by
 have e:index (c::l) [c]=0:=by unfold index;rw[QeW,if_pos (by simp)]
 unfold cut
 rw[e];rfl
theorem QcH {c b:UInt8}(hb:b≠c) (l:Bs):cut (b::l) [c]=if (cut l [c]).2.2=true then (b::(cut l [c]).1,(cut l [c]).2.1,true)else (b::l,[],false):=by
 have e:index (b::l) [c]=if index l [c] == -1 then -1 else index l [c]+1:=by
  rw[index,QeW,if_neg (by simp;exact fun h=>hb h.symm)]
 have hg:=index_ge l [c]
 unfold cut
 rw[e]
 by_cases h:index l [c]=-1
 · rw[h];rfl
 · have h0:0<=index l [c]:=by omega
   rw[show (index l [c] == -1)=false from beq_eq_false_iff_ne.2 h]
   simp only[Bool.false_eq_true,if_false]
   rw[if_pos (by omega),if_pos h0]
   obtain⟨i,hi⟩:=Int.eq_ofNat_of_zero_le h0
   rw[hi,show ((i:Int)+1).toNat=i+1 by omega,Int.toNat_natCast]
   rfl
theorem Qbo {c:UInt8}:∀ {l:Bs},c∉l->cut l [c]=(l,[],false)
 |[],_=>rfl
 |b::l,h=>by
  have hb:b≠c:=fun e=>h (by rw[e];exact List.mem_cons_self)
  rw[QcH hb,Qbo (fun hh=>h (List.mem_cons_of_mem _ hh))]
  rfl
theorem Qbn {c:UInt8}{t:Bs}:∀ {l:Bs},c∉l->cut (l++c::t) [c]=(l,t,true)
 |[],_=>Qgu c t
 |b::l,h=>by
  have hb:b≠c:=fun e=>h (by rw[e];exact List.mem_cons_self)
  show cut (b::(l++c::t)) [c]=_
  rw[QcH hb,Qbn (fun hh=>h (List.mem_cons_of_mem _ hh))]
  rfl
theorem QdP {c:UInt8}:∀ {l:Bs},(cut l [c]).2.2=true->l=(cut l [c]).1++c::(cut l [c]).2.1
 |[],h=>by cases h
 |b::l,h=>by
  by_cases hb:b=c
  · subst hb;rw[Qgu];rfl
  · rw[QcH hb]at h ⊢
    split at h
    · rename_i h1
      rw[if_pos h1]
      show b::l=b::((cut l [c]).1++c::(cut l [c]).2.1)
      rw[<- QdP h1]
    · cases h
theorem QdO (c:UInt8) (l:Bs):(cut l [c]).1.length<=l.length/\(cut l [c]).2.1.length<=l.length:=by
 unfold cut
 split
 · dsimp only
   rw[List.length_take,List.length_drop];omega
 · exact⟨Nat.le_refl _,Nat.zero_le _⟩
def numB (l:Bs):Bool:=match atoiAll l with
 |.ok v=>decide (0<v)&&(itoa v==l)
 |_=>false
def numV (l:Bs):Int:=match atoiAll l with
 |.ok v=>v
 |.range=>atoiSat l
 |_=>0
theorem QdZ {n:Int}(h0:0<n) (h1:n<1000000000000000000):numB (itoa n)=true/\numV (itoa n)=n:=by
 unfold numB numV
 rw[QbU (by omega) h1]
 exact⟨by simp[h0],rfl⟩
theorem Qe2 {l:Bs}(h:numB l=true):0<numV l/\itoa (numV l)=l:=by
 unfold numB at h
 unfold numV
 split at h
 · rename_i v hv
   rw[hv]
   rw[Bool.and_eq_true]at h
   exact⟨of_decide_eq_true h.1,eq_of_beq h.2⟩
 · cases h
def nameL:Nat->Bs
 |0=>[112,117,116]
 |1=>[116,97,107,101]
 |2=>[102,114,111,110,116]
 |3=>[98,97,99,107]
 |4=>[112,101,101,107]
 |_=>[99,111,117,110,116]
def keyL (key:Int):Bs:=if 0<key then 58::itoa key else []
def valL (x:Int):Bs:=if 0<x then 61::itoa x else []
def QF (k key x:Int):Bs:=nameL (k-1).toNat++keyL key++valL x
def Qcl (c:Bs × Bs × Bool):Int:=if c.2.2=true then numV c.2.1 else 0
def okOf (c:Bs × Bs × Bool):Bool:=if c.2.2=true then numB c.2.1 else true
def headOf (s:Bs) (c:Bs × Bs × Bool):Bs:=if c.2.2=true then c.1 else s
def Xm (s:Bs):Int:=(List.range 6).foldl (fun w i=>if nameL i=s then 1+(i:Int)else w) 0
structure Rd where
 ok:Bool
 k:Int
 key:Int
 x:Int
def XM (s:Bs):Rd:=
 let c1:=cut s [61]
 let s1:=headOf s c1
 let c2:=cut s1 [58]
 let h2:=c2.2.2&&okOf c1
 ⟨if h2=true then numB c2.2.1 else okOf c1,Xm (if h2=true then c2.1 else s1),if h2=true then numV c2.2.1 else 0,Qcl c1⟩
def Rd.good (r:Rd):Bool:=r.ok&&opOk r.k r.key r.x
theorem Qe8 {c:UInt8}(h:c=58\/c=61\/c=32) {i:Nat}(hi:i<6):c∉nameL i:=by
 rcases (show i=0\/i=1\/i=2\/i=3\/i=4\/i=5 by omega)with rfl|rfl|rfl|rfl|rfl|rfl<;>rcases h with rfl|rfl|rfl<;>decide
theorem Qdu {i:Nat}(hi:i<6):Xm (nameL i)=1+(i:Int):=by
 rcases (show i=0\/i=1\/i=2\/i=3\/i=4\/i=5 by omega)with rfl|rfl|rfl|rfl|rfl|rfl<;>rfl
theorem fold_what (s:Bs):∀n,n<=6->((List.range n).foldl (fun w i=>if nameL i=s then 1+(i:Int)else w) 0=0)\/∃i,i<n/\nameL i=s/\(List.range n).foldl (fun w i=>if nameL i=s then 1+(i:Int)else w) 0=1+(i:Int)
 |0,_=>.inl rfl
 |n+1,h=>by
  rw[List.range_succ,List.foldl_append]
  simp only[List.foldl_cons,List.foldl_nil]
  by_cases e:nameL n=s
  · rw[if_pos e];exact .inr ⟨n,by omega,e,rfl⟩
  · rw[if_neg e]
    rcases fold_what s n (by omega)with h1|⟨i,h1,h2,h3⟩
    · exact .inl h1
    · exact .inr ⟨i,by omega,h2,h3⟩
theorem Qeg {s:Bs}(h:1<=Xm s):nameL (Xm s-1).toNat=s:=by
 rcases fold_what s 6 (by decide)with h1|⟨i,h1,h2,h3⟩
 · unfold Xm at h;omega
 · have h3:Xm s=1+(i:Int):=h3
   rw[h3,show (1+(i:Int)-1).toNat=i by omega];exact h2
def Qj (s:Bs) (n:Nat):Int:=(List.range n).foldl (fun w i=>if nameL i=s then 1+(i:Int)else w) 0
theorem Qbq (s:Bs) (n:Nat):Qj s (n+1)=if nameL n=s then 1+(n:Int)else Qj s n:=by
 unfold Qj
 rw[List.range_succ,List.foldl_append];rfl
theorem Qef (s:Bs):Qj s 6=Xm s:=rfl
theorem key_no {c:UInt8}(h:c=61\/c=32) {key:Int}:c∉keyL key:=by
 unfold keyL
 split
 · rename_i hk
   intro hc
   rcases List.mem_cons.1 hc with h1|h1
   · subst h1;rcases h with h|h<;>revert h<;>decide
   · have:=QfX (by omega) h1
     rcases h with h|h<;>(rw[h]at this;revert this;decide)
 · simp
theorem Qb8 {k key x:Int}(h:opOk k key x=true):XM (QF k key x)=⟨true,k,key,x⟩:=by
 have h:=of_decide_eq_true h
 have hi:(k-1).toNat<6:=by omega
 have hn1:(61:UInt8)∉nameL (k-1).toNat++keyL key:=fun hm=>by
  rcases List.mem_append.1 hm with hm|hm
  · exact Qe8 (.inr (.inl rfl)) hi hm
  · exact key_no (.inl rfl) hm
 have hn2:=Qe8 (c:=58) (.inl rfl) hi
 have hw:Xm (nameL (k-1).toNat)=k:=by rw[Qdu hi];omega
 have e1:headOf (QF k key x) (cut (QF k key x) [61])=nameL (k-1).toNat++keyL key/\okOf (cut (QF k key x) [61])=true/\Qcl (cut (QF k key x) [61])=x:=by
  unfold QF
  by_cases hx:0<x
  · have hv:=QdZ hx (by omega)
    rw[show valL x=61::itoa x from if_pos hx,Qbn hn1]
    exact⟨rfl,hv.1,hv.2⟩
  · rw[show valL x=[]from if_neg hx,List.append_nil,Qbo hn1]
    exact⟨rfl,rfl,by show (0:Int)=x;omega⟩
 unfold XM
 dsimp only
 rw[e1.1,e1.2.1,e1.2.2]
 by_cases hk:0<key
 · have hv:=QdZ hk (by omega)
   rw[show keyL key=58::itoa key from if_pos hk,Qbn hn2]
   simp only[Bool.and_true,if_true,hv.1,hv.2,hw]
 · rw[show keyL key=[]from if_neg hk,List.append_nil,Qbo hn2]
   simp only[Bool.and_true,Bool.false_eq_true,if_false,hw]
   congr 1;omega
theorem Qg1 {s:Bs}(h:(XM s).good=true):QF (XM s).k (XM s).key (XM s).x=s:=by
 unfold Rd.good at h
 rw[Bool.and_eq_true]at h
 obtain⟨hok,ho⟩:=h
 have ho:=of_decide_eq_true ho
 unfold XM at hok ho ⊢
 dsimp only at hok ho ⊢
 have hk:=ho.1
 generalize hc1:cut s [61]=c1 at *
 have e1:headOf s c1++valL (Qcl c1)=s\/okOf c1=false:=by
  unfold headOf Qcl okOf
  by_cases hb:c1.2.2=true
  · rw[if_pos hb,if_pos hb,if_pos hb]
    cases hn:numB c1.2.1
    · exact .inr rfl
    · have hv:=Qe2 hn
      refine .inl ?_
      rw[show valL (numV c1.2.1)=61::itoa (numV c1.2.1)from if_pos hv.1,hv.2,<- hc1]
      exact (QdP (by rw[hc1];exact hb)).symm
  · rw[if_neg hb,if_neg hb]
    exact .inl (by show s++[]=s;exact List.append_nil s)
 generalize headOf s c1=s1 at *
 generalize hc2:cut s1 [58]=c2 at *
 cases hok1:okOf c1
 · rw[hok1]at hok;simp at hok
 · rw[hok1]at hok hk
   have e1:=e1.resolve_right (by rw[hok1];decide)
   simp only[Bool.and_true]at hok hk ⊢
   unfold QF
   rw[Qeg hk]
   cases hb:c2.2.2
   · rw[hb]at hok
     simp only[Bool.false_eq_true,if_false]at hok ⊢
     rw[show keyL 0=[]from rfl,List.append_nil];exact e1
   · rw[hb]at hok
     simp only[if_true]at hok ⊢
     have hv:=Qe2 hok
     rw[show keyL (numV c2.2.1)=58::itoa (numV c2.2.1)from if_pos hv.1,hv.2]
     have:=QdP (c:=58) (l:=s1) (by rw[hc2];exact hb)
     rw[hc2]at this
     rw[<- this];exact e1
theorem print_inj {k key x k' key' x':Int}(h:opOk k key x=true) (h':opOk k' key' x'=true) (e:QF k key x=QF k' key' x'):k=k'/\key=key'/\x=x':=by
 have h1:=Qb8 h
 rw[e,Qb8 h']at h1
 injection h1 with _ a b c
 exact⟨a.symm,b.symm,c.symm⟩
def codeL:Nat->Bs
 |0=>[100,111,110,101]
 |1=>[101,109,112,116,121]
 |2=>[102,117,108,108]
 |3=>[97,98,115,101,110,116]
 |_=>[119,114,111,110,103]
def sayV (v:Int):Bs:=if 0<v then 32::itoa v else []
def sayL (c v:Int):Bs:=codeL (c-1).toNat++sayV v
theorem QgS {i:Nat}(hi:i<5):(32:UInt8)∉codeL i:=by
 rcases (show i=0\/i=1\/i=2\/i=3\/i=4 by omega)with rfl|rfl|rfl|rfl|rfl<;>decide
theorem Qgb {i j:Nat}(hi:i<5) (hj:j<5) (h:codeL i=codeL j):i=j:=by
 rcases (show i=0\/i=1\/i=2\/i=3\/i=4 by omega)with rfl|rfl|rfl|rfl|rfl<;>rcases (show j=0\/j=1\/j=2\/j=3\/j=4 by omega)with rfl|rfl|rfl|rfl|rfl<;>first|rfl|(revert h;decide)
theorem QeP {c v:Int}(h:Qq c v=true):cut (sayL c v) [32]=(codeL (c-1).toNat,(if 0<v then itoa v else []),decide (0<v)):=by
 have h:=of_decide_eq_true h
 have hn:=QgS (i:=(c-1).toNat) (by omega)
 unfold sayL sayV
 by_cases hv:0<v
 · rw[if_pos hv,if_pos hv,Qbn hn,decide_eq_true hv]
 · rw[if_neg hv,if_neg hv,List.append_nil,Qbo hn,decide_eq_false hv]
theorem say_inj {c v c' v':Int}(h:Qq c v=true) (h':Qq c' v'=true) (e:sayL c v=sayL c' v'):c=c'/\v=v':=by
 have h1:=QeP h
 rw[e,QeP h']at h1
 have g:=of_decide_eq_true h
 have g':=of_decide_eq_true h'
 injection h1 with h2 h3
 injection h3 with h3 h4
 have:=Qgb (by omega) (by omega) h2
 refine⟨by omega,?_⟩
 by_cases hv:0<v
 · have hv':0<v':=by
    rw[decide_eq_true hv]at h4;exact of_decide_eq_true h4
   rw[if_pos hv,if_pos hv']at h3
   exact (QfY (by omega) (by omega) (by omega) (by omega) h3).symm
 · have hv':¬0<v':=by
    rw[decide_eq_false hv]at h4;exact of_decide_eq_false h4
   omega
end
section
open Go.RowKit
abbrev bsV (l:List UInt8):ByteArray:=⟨l.toArray⟩
structure OpLaid (W:World):Prop where
 tab:Lib.TabIs Tryd.prog W "internal/strconv.uint64pow10" .u64 Lib.pow10Tab
 syn:∃tp p,W.var? Tryd.prog "strconv.ErrSyntax" =some #[.iface tp p]
 rng:∃tp p,W.var? Tryd.prog "strconv.ErrRange" =some #[.iface tp p]
 nam:∀i,i<6->W.cell? ⟨0,i,none⟩=some (.string (bsV (nameL i)))
 cod:∀i,i<5->W.cell? ⟨1,i,none⟩=some (.string (bsV (codeL i)))
 max:∃m,W.cell? ⟨2,0,none⟩=some (.int .i64 m)
theorem var_lt {P:Program}{W:World}{n:String}{cs:Array Value}(h:W.var? P n=some cs):∃g,P.globalNamed n=some g/\g<W.heap.size:=by
 unfold World.var? at h
 cases hg:P.globalNamed n with
 |none=>rw[hg]at h;cases h
 |some g=>
  refine⟨g,rfl,?_⟩
  rcases Nat.lt_or_ge g W.heap.size with h1|h1
  · exact h1
  · rw[hg]at h
    simp[Array.getElem?_eq_none h1]at h
theorem Qdv {P:Program}{W w:World}(hK:∀k,k<W.heap.size->w.heap[k]?=W.heap[k]?) {n:String}{cs:Array Value}(h:W.var? P n=some cs):w.var? P n=some cs:=by
 obtain⟨g,hg,hl⟩:=var_lt h
 unfold World.var? at h ⊢
 rw[hg]at h ⊢
 simp only[Option.bind_some]at h ⊢
 rw[hK g hl];exact h
theorem QcL {W w:World}(hK:∀k,k<W.heap.size->w.heap[k]?=W.heap[k]?) {a:Addr}{v:Value}(h:W.cell? a=some v):w.cell? a=some v:=by
 have hl:a.block<W.heap.size:=by
  rcases Nat.lt_or_ge a.block W.heap.size with h1|h1
  · exact h1
  · simp[World.cell?,Array.getElem?_eq_none h1]at h
 unfold World.cell? at h ⊢
 rw[hK a.block hl];exact h
theorem OpLaid.old {W w:World}(h:OpLaid W) (hK:∀k,k<W.heap.size->w.heap[k]?=W.heap[k]?):OpLaid w where
 tab:=Qdv hK h.tab
 syn:=by obtain⟨a,b,c⟩:=h.syn;exact⟨a,b,Qdv hK c⟩
 rng:=by obtain⟨a,b,c⟩:=h.rng;exact⟨a,b,Qdv hK c⟩
 nam i hi:=QcL hK (h.nam i hi)
 cod i hi:=QcL hK (h.cod i hi)
 max:=by obtain⟨m,c⟩:=h.max;exact⟨m,QcL hK c⟩
theorem OpLaid.below {W w:World}(h:OpLaid W) {n:Nat}(hb:Below n W w) (hn:W.heap.size<=n):OpLaid w:=h.old fun k hk=>hb.block k (by omega)
theorem Qac (n:Int) (h0 : -9223372036854775808<=n) (h1:n<=9223372036854775807) {w:World}(hL:OpLaid w):
 Calls Tryd.prog 17 #[.int .i64 n] w fun e w'=>e=.returned (.string (bsV (Lib.itoa n)))/\Below w.heap.size w w':=
 (Tryd.strconv_Itoa n h0 h1 w hL.tab).mono fun e w' ⟨h,k,os,hw⟩=>⟨h,by rw[hw];exact Lib.below_grow _ w (Nat.le_refl _) k os⟩
theorem QbS (B:Nat) (w:World):∀n,Below B w (w.drewN n)
 |0=>Below.refl _ _
 |n+1=>by
  have:=QbS B w n
  exact this.trans (show Below B (w.drewN n) (w.drewN n).drew from (Below.refl _ _).drew)
theorem QgQ (s sep:ByteArray) (hs:s.size<4294967281) {w:World}(hL:OpLaid w):
 Calls Tryd.prog 19 #[.string s,.string sep] w fun e w'=>e=.returned (.tuple #[.string (bsV (Lib.cut s.data.toList sep.data.toList).1),.string (bsV (Lib.cut s.data.toList sep.data.toList).2.1),.bool (Lib.cut s.data.toList sep.data.toList).2.2])/\Below w.heap.size w w':=by
 obtain⟨m,hm⟩:=hL.max
 exact (Tryd.strings_Cut s sep m w hs hm).mono fun e w' ⟨h,n,hw⟩=>⟨h,by rw[hw];exact QbS _ w n⟩
theorem Qey {l:List UInt8}{v:Int}(h:Lib.atoiAll l=.ok v) : -9223372036854775808<=v/\v<=9223372036854775807:=by
 unfold Lib.atoiAll at h
 split at h
 · cases h
 · dsimp only at h
   split at h
   · cases h
   · cases h
   · rename_i u hu
     split at h
     · cases h
     · split at h
       · cases h
       · rename_i h1 h2
         injection h with h
         subst h
         split<;>rename_i h3<;>simp only[h3,not_true,not_false_iff,true_and,false_and]at h1 h2<;>omega
theorem Qgk (s:ByteArray) (hs:s.size<=1000000) {w:World}(hL:OpLaid w):
 Calls Tryd.prog 25 #[.string s] w fun e w'=>(∃err,e=.returned (.tuple #[.int .i64 (numV s.data.toList),err])/\((∃v,Lib.atoiAll s.data.toList=.ok v/\err=.nilIface)\/((∀v,Lib.atoiAll s.data.toList≠ .ok v)/\∃t x,err=.iface t x)))/\Below w.heap.size w w':=by
 cases h:Lib.atoiAll s.data.toList with
 |ok v=>
  refine (Tryd.strconv_Atoi_ok s (by omega) v h w).mono fun e w' ⟨h1,h2⟩=>⟨⟨.nilIface,?_,.inl ⟨v,rfl,rfl⟩⟩,?_⟩
  · rw[h1];unfold numV;rw[h]
  · rcases h2 with rfl|⟨t,rfl⟩
    · exact Below.refl _ _
    · exact Lib.bytesWorld_below _ _ _
 |range=>
  obtain⟨tp,p,hv⟩:=hL.rng
  refine (Tryd.strconv_Atoi_range_var s (by omega) h tp p w hv).mono fun e w' ⟨N,h1,_,_,h2⟩=>⟨⟨.iface 74 (.pointer (some ⟨N,0,none⟩)),?_,.inr ⟨(fun v hv=>by cases hv),_,_,rfl⟩⟩,h2⟩
  rw[h1];unfold numV;rw[h]
 |_=>
  obtain⟨tp,p,hv⟩:=hL.syn
  refine (Tryd.strconv_Atoi_syntax_var s (by omega) h tp p w hv).mono fun e w' ⟨N,h1,_,_,h2⟩=>⟨⟨.iface 74 (.pointer (some ⟨N,0,none⟩)),?_,.inr ⟨(fun v hv=>by cases hv),_,_,rfl⟩⟩,h2⟩
  rw[h1];unfold numV;rw[h]
theorem Qgg (l:List UInt8):(bsV l).toList=l:=by rw[ByteArray.toList_eq]
theorem Qel (s:ByteArray) (hs:s.size<=1000000) {w:World}(hL:OpLaid w):
 Calls Tryd.prog 20 #[.string s] w fun e w'=>e=.returned (.tuple #[.int .i64 (numV s.data.toList),.bool (numB s.data.toList)])/\Below w.heap.size w w':=by
 have ha:=Qgk s hs hL
 go_enter Tryd.func20,Tryd.ntmps20
 go_wp2_with (go_at_call 25;refine ha.mono ?_;rintro e w' ⟨⟨err,rfl,herr⟩,hb⟩;refine Hid.out ?_)
 refine Lib.hid ?_
 rcases herr with⟨v,hv,rfl⟩|⟨hno,t,x,rfl⟩
 · have hr:=Qey hv
   have hn:numV s.data.toList=v:=by unfold numV;rw[hv]
   have hB:numB s.data.toList=(decide (0<v)&&(Lib.itoa v==s.data.toList)):=by unfold numB;rw[hv]
   have HB:=Lib.hid hB
   have HN:=Lib.hid hn
   rw[hn]
   clear hn hB hv ha
   have hi:=Qac v hr.1 hr.2 (hL.below hb (Nat.le_refl _))
   by_cases h0:0<v
   · have hg:(decide (v>0))=true:=decide_eq_true h0
     go_wp2_with (go_at_call 17;refine hi.mono ?_;rintro e w2 ⟨rfl,hb2⟩)
     go_ret2
     refine⟨?_,hb.trans (hb2.mono hb.size)⟩
     rw[HN.out,HB.out,decide_eq_true h0,Bool.true_and]
     simp only[ByteArray.toList_eq]
     rfl
   · have hg:(decide (v>0))=false:=decide_eq_false h0
     go_wp2_with fail
     go_ret2
     refine⟨?_,hb⟩
     rw[HN.out,HB.out,decide_eq_false (show ¬0<v by omega),Bool.false_and]
     rfl
 · have hB:numB s.data.toList=false:=by
    unfold numB
    split
    · exact absurd ‹_› (hno _)
    · rfl
   have HB:=Lib.hid hB
   clear hB hno ha
   go_wp2_with fail
   go_ret2
   refine⟨?_,hb⟩
   rw[HB.out];rfl
theorem QaE (j:Nat):(nameL j).length<=5:=by
 rcases j with _|_|_|_|_|j<;>(show List.length _<=5;simp[nameL])
theorem QfO (k key x:Int) {w:World}(ho:opOk k key x=false) (hr:∀w,Calls Tryd.prog 8 #[.agg #[.int .i64 k,.int .i64 key,.int .i64 x]] w fun e w'=>e=.returned (.bool false)/\Below w.heap.size w w'):
 Calls Tryd.prog 10 #[.agg #[.int .i64 k,.int .i64 key,.int .i64 x]] w fun e w'=>e=.returned (.tuple #[.string (bsV []),.iface 46 (.int .i64 1)])/\Below w.heap.size w w':=by
 go_enter Tryd.func10,Tryd.ntmps10
 go_wp2_with (go_at_call 8;refine (hr _).mono ?_;rintro e w1 ⟨rfl,hb1⟩)
 go_ret2
 exact⟨rfl,((Below.refl _ w).alloc (Nat.le_refl _) _).trans (hb1.mono (by simp))⟩
theorem QfN (k key x:Int) {w:World}(hL:OpLaid w) (ho:opOk k key x=true) (hr:∀w,Calls Tryd.prog 8 #[.agg #[.int .i64 k,.int .i64 key,.int .i64 x]] w fun e w'=>e=.returned (.bool true)/\Below w.heap.size w w'):
 Calls Tryd.prog 10 #[.agg #[.int .i64 k,.int .i64 key,.int .i64 x]] w fun e w'=>e=.returned (.tuple #[.string (bsV (QF k key x)),.nilIface])/\Below w.heap.size w w':=by
 have h:=of_decide_eq_true ho
 clear ho
 go_enter Tryd.func10,Tryd.ntmps10
 go_wp2_with (go_at_call 8;refine (hr _).mono ?_;rintro e w1 ⟨rfl,hb1⟩;refine Hid.out ?_)
 have hL1:OpLaid w1:=(hL.below ((Below.refl _ w).alloc (Nat.le_refl _) (.cells #[.int .i64 k,.int .i64 key,.int .i64 x] 23)) (Nat.le_refl _)).below hb1 (Nat.le_refl _)
 have hc:∀i,i<3->w1.cell? ⟨w.heap.size,i,none⟩= #[Value.int .i64 k,.int .i64 key,.int .i64 x][i]?:=fun i hi=>by
  rw[hb1.cell (by simp)]
  simp
 have hb:Below w.heap.size w w1:=((Below.refl _ w).alloc (Nat.le_refl _) _).trans (hb1.mono (by simp))
 have hlt:w.heap.size<w1.heap.size:=by have:=hb1.size;simp at this;omega
 clear hb1
 have c0:=hc 0 (by decide)
 have c1:=hc 1 (by decide)
 have c2:=hc 2 (by decide)
 simp at c0 c1 c2
 clear hc
 obtain⟨j,hj,hjk,hn⟩:∃j:Nat,k=(j:Int)+1/\j<6/\w1.cell? ⟨0,j,none⟩=some (.string (bsV (nameL j))):=⟨(k-1).toNat,by omega,by omega,hL1.nam _ (by omega)⟩
 subst hj
 refine Lib.hid ?_
 by_cases h1:0<key<;>by_cases h2:0<x
 · have g1:decide (key>0)=true:=decide_eq_true h1
   have g2:decide (x>0)=true:=decide_eq_true h2
   have s2:(nameL j).length<=5:=QaE j
   have skey:(Lib.itoa key).length<=10:=XF (by omega) (by omega)
   have pkey:¬9223372036854775807<1+(Lib.itoa key).length:=by omega
   have qkey:¬9223372036854775807<(nameL j).length+(1+(Lib.itoa key).length):=by omega
   have sx:(Lib.itoa x).length<=10:=XF (by omega) (by omega)
   have px:¬9223372036854775807<1+(Lib.itoa x).length:=by omega
   have qx:¬9223372036854775807<(nameL j).length+(1+(Lib.itoa key).length)+(1+(Lib.itoa x).length):=by omega
   have i1:=Qac key (by omega) (by omega) hL1
   go_wp2_with (go_at_call 17;refine i1.mono ?_;rintro e w2 ⟨rfl,hb2⟩;refine Hid.out ?_)
   have d2:w2.cell? ⟨w.heap.size,2,none⟩=some (.int .i64 x):=(hb2.cell hlt).trans c2
   have hL2:=hL1.below hb2 (Nat.le_refl _)
   have i2:=Qac x (by omega) (by omega) hL2
   refine Lib.hid ?_
   go_wp2_with (go_at_call 17;refine i2.mono ?_;rintro e w3 ⟨rfl,hb3⟩)
   go_ret2
   refine⟨?_,((hb.trans (hb2.mono (by omega))).trans (hb3.mono (by have:=hb2.size;omega)))⟩
   refine congrArg (fun s=>Ending.returned (Value.tuple #[Value.string s,Value.nilIface])) (Go.WideShapes.bytes_inj ?_)
   simp[QF,keyL,valL,h1,h2]
 · have g1:decide (key>0)=true:=decide_eq_true h1
   have g2:decide (x>0)=false:=decide_eq_false h2
   have s2:(nameL j).length<=5:=QaE j
   have skey:(Lib.itoa key).length<=10:=XF (by omega) (by omega)
   have pkey:¬9223372036854775807<1+(Lib.itoa key).length:=by omega
   have qkey:¬9223372036854775807<(nameL j).length+(1+(Lib.itoa key).length):=by omega
   have i1:=Qac key (by omega) (by omega) hL1
   go_wp2_with (go_at_call 17;refine i1.mono ?_;rintro e w2 ⟨rfl,hb2⟩;refine Hid.out ?_)
   have d2:w2.cell? ⟨w.heap.size,2,none⟩=some (.int .i64 x):=(hb2.cell hlt).trans c2
   refine Lib.hid ?_
   go_wp2_with fail
   go_ret2
   refine⟨?_,(hb.trans (hb2.mono (by omega)))⟩
   refine congrArg (fun s=>Ending.returned (Value.tuple #[Value.string s,Value.nilIface])) (Go.WideShapes.bytes_inj ?_)
   simp[QF,keyL,valL,h1,h2]
 · have g1:decide (key>0)=false:=decide_eq_false h1
   have g2:decide (x>0)=true:=decide_eq_true h2
   have s2:(nameL j).length<=5:=QaE j
   have sx:(Lib.itoa x).length<=10:=XF (by omega) (by omega)
   have px:¬9223372036854775807<1+(Lib.itoa x).length:=by omega
   have qx:¬9223372036854775807<(nameL j).length+(1+(Lib.itoa x).length):=by omega
   have i2:=Qac x (by omega) (by omega) hL1
   go_wp2_with (go_at_call 17;refine i2.mono ?_;rintro e w3 ⟨rfl,hb3⟩)
   go_ret2
   refine⟨?_,(hb.trans (hb3.mono (by omega)))⟩
   refine congrArg (fun s=>Ending.returned (Value.tuple #[Value.string s,Value.nilIface])) (Go.WideShapes.bytes_inj ?_)
   simp[QF,keyL,valL,h1,h2]
 · have g1:decide (key>0)=false:=decide_eq_false h1
   have g2:decide (x>0)=false:=decide_eq_false h2
   have s2:(nameL j).length<=5:=QaE j
   go_wp2_with fail
   go_ret2
   refine⟨?_,hb⟩
   refine congrArg (fun s=>Ending.returned (Value.tuple #[Value.string s,Value.nilIface])) (Go.WideShapes.bytes_inj ?_)
   simp[QF,keyL,valL,h1,h2]
theorem Qga (j:Nat):(codeL j).length<=6:=by
 rcases j with _|_|_|_|j<;>(show List.length _<=6;simp[codeL])
theorem say_no (c v:Int) {w:World}(hr:∀w,Calls Tryd.prog 13 #[.agg #[.int .i64 c,.int .i64 v]] w fun e w'=>e=.returned (.bool false)/\Below w.heap.size w w'):
 Calls Tryd.prog 16 #[.agg #[.int .i64 c,.int .i64 v]] w fun e w'=>e=.returned (.string (bsV [63]))/\Below w.heap.size w w':=by
 go_enter Tryd.func16,Tryd.ntmps16
 go_wp2_with (go_at_call 13;refine (hr _).mono ?_;rintro e w1 ⟨rfl,hb1⟩)
 go_ret
 exact⟨rfl,((Below.refl _ w).alloc (Nat.le_refl _) _).trans (hb1.mono (by simp))⟩
theorem say_ok (c v:Int) {w:World}(hL:OpLaid w) (ho:Qq c v=true) (hr:∀w,Calls Tryd.prog 13 #[.agg #[.int .i64 c,.int .i64 v]] w fun e w'=>e=.returned (.bool true)/\Below w.heap.size w w'):
 Calls Tryd.prog 16 #[.agg #[.int .i64 c,.int .i64 v]] w fun e w'=>e=.returned (.string (bsV (sayL c v)))/\Below w.heap.size w w':=by
 have h:=of_decide_eq_true ho
 clear ho
 go_enter Tryd.func16,Tryd.ntmps16
 go_wp2_with (go_at_call 13;refine (hr _).mono ?_;rintro e w1 ⟨rfl,hb1⟩;refine Hid.out ?_)
 have hL1:OpLaid w1:=(hL.below ((Below.refl _ w).alloc (Nat.le_refl _) (.cells #[.int .i64 c,.int .i64 v] 39)) (Nat.le_refl _)).below hb1 (Nat.le_refl _)
 have hc:∀i,i<2->w1.cell? ⟨w.heap.size,i,none⟩= #[Value.int .i64 c,.int .i64 v][i]?:=fun i hi=>by
  rw[hb1.cell (by simp)]
  simp
 have hb:Below w.heap.size w w1:=((Below.refl _ w).alloc (Nat.le_refl _) _).trans (hb1.mono (by simp))
 have hlt:w.heap.size<w1.heap.size:=by have:=hb1.size;simp at this;omega
 clear hb1
 have c0:=hc 0 (by decide)
 have c1:=hc 1 (by decide)
 simp at c0 c1
 clear hc
 obtain⟨j,hj,hjk,hn⟩:∃j:Nat,c=(j:Int)+1/\j<5/\w1.cell? ⟨1,j,none⟩=some (.string (bsV (codeL j))):=⟨(c-1).toNat,by omega,by omega,hL1.cod _ (by omega)⟩
 subst hj
 have s2:(codeL j).length<=6:=Qga j
 refine Lib.hid ?_
 by_cases h1:0<v
 · have g1:decide (v>0)=true:=decide_eq_true h1
   have sv:(Lib.itoa v).length<=10:=XF (by omega) (by omega)
   have pv:¬9223372036854775807<1+(Lib.itoa v).length:=by omega
   have qv:¬9223372036854775807<(codeL j).length+(1+(Lib.itoa v).length):=by omega
   have i1:=Qac v (by omega) (by omega) hL1
   go_wp2_with (go_at_call 17;refine i1.mono ?_;rintro e w2 ⟨rfl,hb2⟩)
   go_ret
   refine⟨?_,hb.trans (hb2.mono (by omega))⟩
   refine congrArg (fun s=>Ending.returned (Value.string s)) (Go.WideShapes.bytes_inj ?_)
   simp[sayL,sayV,h1]
 · have g1:decide (v>0)=false:=decide_eq_false h1
   go_wp2_with fail
   go_ret
   refine⟨?_,hb⟩
   refine congrArg (fun s=>Ending.returned (Value.string s)) (Go.WideShapes.bytes_inj ?_)
   simp[sayL,sayV,h1]
abbrev opV (a b c:Int):SA:=.a [.one (.v (.int .i64 a)),.one (.v (.int .i64 b)),.one (.v (.int .i64 c))]
abbrev anV (a b:Int):SA:=.a [.one (.v (.int .i64 a)),.one (.v (.int .i64 b))]
abbrev erV (n:Int):SA:=.c (.v (.iface 46 (.int .i64 n)))
abbrev txV (l:List UInt8):SA:=.c (.v (.string (bsV l)))
def Qa4:PCon:=⟨fun args=>match args with
 |[.a [.one (.v (.int .i64 a)),.one (.v (.int .i64 b)),.one (.v (.int .i64 c))]]=>True
 |_=>False,fun args=>match args with
 |[.a [.one (.v (.int .i64 a)),.one (.v (.int .i64 b)),.one (.v (.int .i64 c))]]=>sv (.bool (opOk a b c))
 |_=>sv undef,fun _=>none⟩
theorem Qbi:(Con.pure Qa4).holds Tryd.prog 8:=by
 refine Q9 (AG:=[]) (Γ:=[]) Tryd.func8 rfl (by kernel_rfl) Q2 QI (fun _=>GamOk.nil _ _ _) Qa4 400 ?_
 intro W args hp
 unfold Qa4 at hp;dsimp only at hp;split at hp
 case h_2=>exact hp.elim
 rename_i a b c
 refine⟨rfl,?_⟩
 refine QbQ (q:=bif decide (a>=(1:Int))then bif decide (a<=(6:Int))then bif decide (b>=(0:Int))then bif decide (b<=(1000:Int))then bif decide (c>=(0:Int))then SV.o (aB (decide (c<=(4294967295:Int))))=SV.o (aB (opOk a b c))/\true=true else SV.o (aB false)=SV.o (aB (opOk a b c))/\true=true else SV.o (aB false)=SV.o (aB (opOk a b c))/\true=true else SV.o (aB false)=SV.o (aB (opOk a b c))/\true=true else SV.o (aB false)=SV.o (aB (opOk a b c))/\true=true else SV.o (aB false)=SV.o (aB (opOk a b c))/\true=true) (by kernel_rfl) ?_
 repeat' (first|refine Qfx (fun _=>?_) (fun _=>?_)|refine And.intro ?_ ?_)
 all_goals (first|rfl|(refine svB ?_;unfold opOk;first|(rw[decide_eq_decide];omega)|(symm;rw[decide_eq_false_iff_not];omega)))
theorem QdY (k key x:Int) (w:World):Calls Tryd.prog 8 #[.agg #[.int .i64 k,.int .i64 key,.int .i64 x]] w fun e w'=>e=.returned (.bool (opOk k key x))/\Below w.heap.size w w':=
 (Qbi w (fun _=>False)).2 (fun _=>0) [opV k key x] w trivial (Kept.refl _ w)
def QaM:PCon:=⟨fun args=>match args with
 |[.a [.one (.v (.int .i64 a)),.one (.v (.int .i64 b))]]=>True
 |_=>False,fun args=>match args with
 |[.a [.one (.v (.int .i64 a)),.one (.v (.int .i64 b))]]=>sv (.bool (Qq a b))
 |_=>sv undef,fun _=>none⟩
theorem QbW:(Con.pure QaM).holds Tryd.prog 13:=by
 refine Q9 (AG:=[]) (Γ:=[]) Tryd.func13 rfl (by kernel_rfl) Q2 QI (fun _=>GamOk.nil _ _ _) QaM 400 ?_
 intro W args hp
 unfold QaM at hp;dsimp only at hp;split at hp
 case h_2=>exact hp.elim
 rename_i a b
 refine⟨rfl,?_⟩
 refine QbQ (q:=bif decide (a>=(1:Int))then bif decide (a<=(5:Int))then bif decide (b>=(0:Int))then bif decide (b<=(4294967295:Int))then bif a==(1:Int)then SV.o (aB true)=SV.o (aB (Qq a b))/\true=true else SV.o (aB (b==(0:Int)))=SV.o (aB (Qq a b))/\true=true else SV.o (aB false)=SV.o (aB (Qq a b))/\true=true else SV.o (aB false)=SV.o (aB (Qq a b))/\true=true else SV.o (aB false)=SV.o (aB (Qq a b))/\true=true else SV.o (aB false)=SV.o (aB (Qq a b))/\true=true) (by kernel_rfl) ?_
 repeat' (first|refine Qfx (fun _=>?_) (fun _=>?_)|refine by_beq (fun _=>?_) (fun _=>?_)|refine And.intro ?_ ?_)
 all_goals (first|rfl|(refine svB ?_;unfold Qq;first|(symm;rw[decide_eq_false_iff_not];omega)|(symm;rw[decide_eq_true_iff];omega)|(rw[decide_eq_decide];omega)|(rw[Bool.eq_iff_iff,beq_iff_eq,decide_eq_true_iff];omega)))
theorem Qdt (c v:Int) (w:World):Calls Tryd.prog 13 #[.agg #[.int .i64 c,.int .i64 v]] w fun e w'=>e=.returned (.bool (Qq c v))/\Below w.heap.size w w':=
 (QbW w (fun _=>False)).2 (fun _=>0) [anV c v] w trivial (Kept.refl _ w)
theorem OpLaid.kept {W w:World}(h:OpLaid W) (k:Kept (fun _=>False) W w):OpLaid w:=h.old fun b hb=>k.block b hb (fun h=>h)
def QcI:PCon:=⟨fun args=>match args with
 |[.a [.one (.v (.int .i64 a)),.one (.v (.int .i64 b)),.one (.v (.int .i64 c))]]=>True
 |_=>False,fun args=>match args with
 |[.a [.one (.v (.int .i64 a)),.one (.v (.int .i64 b)),.one (.v (.int .i64 c))]]=>.t [txV (QF a b c),nilE]
 |_=>sv undef,fun args=>match args with
 |[.a [.one (.v (.int .i64 a)),.one (.v (.int .i64 b)),.one (.v (.int .i64 c))]]=>some (opOk a b c,.t [txV [],erV 1])
 |_=>none⟩
theorem QeV (W:World) (hL:OpLaid W):(Con.pure QcI).holdsAt Tryd.prog W (fun _=>False) 10:=by
 refine⟨by kernel_rfl,fun ρ args w hp hK=>?_⟩
 unfold QcI at hp;dsimp only at hp;split at hp
 case h_2=>exact hp.elim
 rename_i a b c
 cases ho:opOk a b c
 · refine (QfO a b c ho (fun w=>by have:=QdY a b c w;rwa [ho]at this)).mono fun e w' ⟨h1,h2⟩=>⟨?_,h2⟩
   rw[h1]
   show _=Ending.returned ((bif opOk a b c then SV.t [txV (QF a b c),nilE]else .t [txV [],erV 1]).den ρ)
   rw[ho];rfl
 · refine (QfN a b c (hL.kept hK) ho (fun w=>by have:=QdY a b c w;rwa [ho]at this)).mono fun e w' ⟨h1,h2⟩=>⟨?_,h2⟩
   rw[h1]
   show _=Ending.returned ((bif opOk a b c then SV.t [txV (QF a b c),nilE]else .t [txV [],erV 1]).den ρ)
   rw[ho];rfl
def Qfr:PCon:=⟨fun args=>match args with
 |[.a [.one (.v (.int .i64 a)),.one (.v (.int .i64 b))]]=>True
 |_=>False,fun args=>match args with
 |[.a [.one (.v (.int .i64 a)),.one (.v (.int .i64 b))]]=>.o (txV (sayL a b))
 |_=>sv undef,fun args=>match args with
 |[.a [.one (.v (.int .i64 a)),.one (.v (.int .i64 b))]]=>some (Qq a b,.o (txV [63]))
 |_=>none⟩
theorem QgA (W:World) (hL:OpLaid W):(Con.pure Qfr).holdsAt Tryd.prog W (fun _=>False) 16:=by
 refine⟨by kernel_rfl,fun ρ args w hp hK=>?_⟩
 unfold Qfr at hp;dsimp only at hp;split at hp
 case h_2=>exact hp.elim
 rename_i a b
 cases ho:Qq a b
 · refine (say_no a b (fun w=>by have:=Qdt a b w;rwa [ho]at this)).mono fun e w' ⟨h1,h2⟩=>⟨?_,h2⟩
   rw[h1]
   show _=Ending.returned ((bif Qq a b then SV.o (txV (sayL a b))else .o (txV [63])).den ρ)
   rw[ho];rfl
 · refine (say_ok a b (hL.kept hK) ho (fun w=>by have:=Qdt a b w;rwa [ho]at this)).mono fun e w' ⟨h1,h2⟩=>⟨?_,h2⟩
   rw[h1]
   show _=Ending.returned ((bif Qq a b then SV.o (txV (sayL a b))else .o (txV [63])).den ρ)
   rw[ho];rfl
def Qfs:PCon:=⟨fun args=>match args with
 |[.c (.v (.string s))]=>s.size<=1000000
 |_=>False,fun args=>match args with
 |[.c (.v (.string s))]=>.t [.c (.v (.int .i64 (numV s.data.toList))),.c (.v (.bool (numB s.data.toList)))]
 |_=>sv undef,fun _=>none⟩
theorem QgI (W:World) (hL:OpLaid W):(Con.pure Qfs).holdsAt Tryd.prog W (fun _=>False) 20:=by
 refine⟨by kernel_rfl,fun ρ args w hp hK=>?_⟩
 unfold Qfs at hp;dsimp only at hp;split at hp
 case h_2=>exact hp.elim
 rename_i s
 exact Qel s hp (hL.kept hK)
def Qft:PCon:=⟨fun args=>match args with
 |[.c (.v (.string s)),.c (.v (.string t))]=>s.size<4294967281
 |_=>False,fun args=>match args with
 |[.c (.v (.string s)),.c (.v (.string t))]=>.t [txV (Lib.cut s.data.toList t.data.toList).1,txV (Lib.cut s.data.toList t.data.toList).2.1,.c (.v (.bool (Lib.cut s.data.toList t.data.toList).2.2))]
 |_=>sv undef,fun _=>none⟩
theorem QgP (W:World) (hL:OpLaid W):(Con.pure Qft).holdsAt Tryd.prog W (fun _=>False) 19:=by
 refine⟨by kernel_rfl,fun ρ args w hp hK=>?_⟩
 unfold Qft at hp;dsimp only at hp;split at hp
 case h_2=>exact hp.elim
 rename_i s t
 exact QgQ s t hp (hL.kept hK)
def Qn:PCon:=⟨fun args=>match args with
 |[.c (.v (.string s))]=>s.size<=100000
 |_=>False,fun args=>match args with
 |[.c (.v (.string s))]=>.t [opV (XM s.data.toList).k (XM s.data.toList).key (XM s.data.toList).x,nilE]
 |_=>sv undef,fun args=>match args with
 |[.c (.v (.string s))]=>some ((XM s.data.toList).good,.t [opV 0 0 0,erV 3])
 |_=>none⟩
abbrev opSB (a b c:Int):SB:=.cells [.one (.v (.int .i64 a)),.one (.v (.int .i64 b)),.one (.v (.int .i64 c))] 23
structure PaG (l:List UInt8) where
 V:World
 s:ByteArray
 ok:Bool
 key:Int
 x:Int
 i:Nat
 hi:i<=6
 hn:∀i,i<6->sOld V 0 i=bsV (nameL i)
 hr:XM l=⟨ok,Xm s.data.toList,key,x⟩
def QeB (s:ByteArray):Ann where
 σ:=PaG s.data.toList
 I g:=([(0,sv (.string g.s)),(2,.o (.c (.p 0 0))),(4,.o (.c (.p 1 0))),(5,sv (.bool g.ok)),(45,.o (.a (Qcn g.V 0 0 6))),(46,sv (.int .i64 g.i))],[opSB 0 0 0,opSB (Qj g.s.data.toList g.i) g.key g.x])
 dec g:=6-g.i
 pi env _:=[blkE env 2,blkE env 4]
 nz:=[]
def annPaA:List SA->List (Nat × Anns)
 |[.c (.v (.string s))]=>[(12,[(0,QeB s)])]
 |_=>[]
theorem QcT {V:World}(hn:∀i,i<6->sOld V 0 i=bsV (nameL i)) {i:Nat}(hi:i<6):strG (Qcn V 0 0 6) i=bsV (nameL i):=by
 rcases (show i=0\/i=1\/i=2\/i=3\/i=4\/i=5 by omega)with rfl|rfl|rfl|rfl|rfl|rfl
 · exact hn 0 hi
 · exact hn 1 hi
 · exact hn 2 hi
 · exact hn 3 hi
 · exact hn 4 hi
 · exact hn 5 hi
theorem QbC {s:ByteArray}{g:Rd}(hr:XM s.data.toList=g) (ρ:Nat->Nat):(Qn.out [.c (.v (.string s))]).den ρ=(bif g.good then SV.t [opV g.k g.key g.x,nilE]else .t [opV 0 0 0,erV 3]).den ρ:=by subst hr;rfl
theorem Qe9 {i:Nat}{s2:ByteArray}:((bsV (nameL i)).toList==s2.toList)=decide (nameL i=s2.data.toList):=by
 rw[Qgg,ByteArray.toList_eq,Bool.eq_iff_iff,beq_iff_eq,decide_eq_true_iff]
theorem QcO (l:List UInt8):(bsV l).size=l.length:=List.size_toArray ..
theorem QeY (W:World) (hL:OpLaid W):(Con.pure Qn).holdsAt Tryd.prog W (fun _=>False) 12:=by
 refine Q8 (Γ:=[(19,.pure Qft),(20,.pure Qfs),(8,.pure Qa4)]) Tryd.func12 rfl (by kernel_rfl) Q2 QI
  (fun w hK=>.cons (QgP w (hL.kept hK)) (.cons (QgI w (hL.kept hK)) (.cons (Qbi w _) (.nil _ _ _)))) Qn annPaA 2000 ?_
 intro w args hp hK
 unfold Qn at hp;dsimp only at hp;split at hp
 case h_2=>exact hp.elim
 rename_i s
 refine⟨rfl,?_⟩
 have hL:=hL.kept hK
 refine QbQ (q:=ByteArray.size s<4294967281/\bif (Prod.snd (Lib.cut (Array.toList (ByteArray.data s)) [(61:UInt8)])).2 then ByteArray.size (bsV (Prod.snd (Lib.cut (Array.toList (ByteArray.data s)) [(61:UInt8)])).1)<=1000000/\ByteArray.size (bsV (Lib.cut (Array.toList (ByteArray.data s)) [(61:UInt8)]).1)<4294967281/\bif (Prod.snd (Lib.cut (Lib.cut (Array.toList (ByteArray.data s)) [(61:UInt8)]).1 [(58:UInt8)])).2 then bif numB (List.toArray (Prod.snd (Lib.cut (Array.toList (ByteArray.data s)) [(61:UInt8)])).1).1 then ByteArray.size (bsV (Prod.snd (Lib.cut (Lib.cut (Array.toList (ByteArray.data s)) [(61:UInt8)]).1 [(58:UInt8)])).1)<=1000000/\(true=true/\∀(i:Nat),i<6->World.cell? w (Addr.mk 0 (0+i) none)=some (Value.string (match World.cell? w (Addr.mk 0 (0+i) none)with|some (Value.string s)=>s|x=>ByteArray.mk (Array.mk []))))/\(∃(s0:Ann.σ (QeB s)),(eS (SA.c (.v (.string (bsV (Lib.cut (Lib.cut (Array.toList (ByteArray.data s)) [(61:UInt8)]).1 [(58:UInt8)]).1)))) (SA.c (.v (.string s0.2)))/\eS (aP 0 0) (aP 0 0)/\eS (aP 1 0) (aP 1 0)/\eS (aB (numB (List.toArray (Prod.snd (Lib.cut (Lib.cut (Array.toList (ByteArray.data s)) [(61:UInt8)]).1 [(58:UInt8)])).1).1)) (aB s0.3)/\eS (SA.a [Seg.one (.v (.string (match World.cell? w (Addr.mk 0 0 none)with|some (Value.string s)=>s|x=>ByteArray.mk (Array.mk [])))),Seg.one (.v (.string (match World.cell? w (Addr.mk 0 1 none)with|some (Value.string s)=>s|x=>ByteArray.mk (Array.mk [])))),Seg.one (.v (.string (match World.cell? w (Addr.mk 0 2 none)with|some (Value.string s)=>s|x=>ByteArray.mk (Array.mk [])))),Seg.one (.v (.string (match World.cell? w (Addr.mk 0 3 none)with|some (Value.string s)=>s|x=>ByteArray.mk (Array.mk [])))),Seg.one (.v (.string (match World.cell? w (Addr.mk 0 4 none)with|some (Value.string s)=>s|x=>ByteArray.mk (Array.mk [])))),Seg.one (.v (.string (match World.cell? w (Addr.mk 0 5 none)with|some (Value.string s)=>s|x=>ByteArray.mk (Array.mk []))))]) (SA.a [Seg.one (.v (.string (match World.cell? s0.1 (Addr.mk 0 0 none)with|some (Value.string s)=>s|x=>ByteArray.mk (Array.mk [])))),Seg.one (.v (.string (match World.cell? s0.1 (Addr.mk 0 1 none)with|some (Value.string s)=>s|x=>ByteArray.mk (Array.mk [])))),Seg.one (.v (.string (match World.cell? s0.1 (Addr.mk 0 2 none)with|some (Value.string s)=>s|x=>ByteArray.mk (Array.mk [])))),Seg.one (.v (.string (match World.cell? s0.1 (Addr.mk 0 3 none)with|some (Value.string s)=>s|x=>ByteArray.mk (Array.mk [])))),Seg.one (.v (.string (match World.cell? s0.1 (Addr.mk 0 4 none)with|some (Value.string s)=>s|x=>ByteArray.mk (Array.mk [])))),Seg.one (.v (.string (match World.cell? s0.1 (Addr.mk 0 5 none)with|some (Value.string s)=>s|x=>ByteArray.mk (Array.mk []))))])/\eS (aI 0) (aI ↑s0.6)/\True)/\[SB.cells [sI 0,sI 0,sI 0] 23,SB.cells [sI 0,sI (numV (List.toArray (Prod.snd (Lib.cut (Lib.cut (Array.toList (ByteArray.data s)) [(61:UInt8)]).1 [(58:UInt8)])).1).1),sI (numV (List.toArray (Prod.snd (Lib.cut (Array.toList (ByteArray.data s)) [(61:UInt8)])).1).1)] 23]=[SB.cells [sI 0,sI 0,sI 0] 23,SB.cells [sI (Qj (ByteArray.data (PaG.s s0)).1 s0.6),sI s0.4,sI s0.5] 23])/\∀(s_1:PaG (ByteArray.data s).1),bif decide ((↑s_1.6:Int)<(6:Int))then (iR (↑s_1.6:Int) (6:Int))/\bif ByteArray.toList (strG [Seg.one (.v (.string (match World.cell? s_1.1 (Addr.mk 0 0 none)with|some (Value.string s)=>s|x=>ByteArray.mk (Array.mk [])))),Seg.one (.v (.string (match World.cell? s_1.1 (Addr.mk 0 1 none)with|some (Value.string s)=>s|x=>ByteArray.mk (Array.mk [])))),Seg.one (.v (.string (match World.cell? s_1.1 (Addr.mk 0 2 none)with|some (Value.string s)=>s|x=>ByteArray.mk (Array.mk [])))),Seg.one (.v (.string (match World.cell? s_1.1 (Addr.mk 0 3 none)with|some (Value.string s)=>s|x=>ByteArray.mk (Array.mk [])))),Seg.one (.v (.string (match World.cell? s_1.1 (Addr.mk 0 4 none)with|some (Value.string s)=>s|x=>ByteArray.mk (Array.mk [])))),Seg.one (.v (.string (match World.cell? s_1.1 (Addr.mk 0 5 none)with|some (Value.string s)=>s|x=>ByteArray.mk (Array.mk []))))] (Int.toNat (↑s_1.6:Int)))==ByteArray.toList s_1.2 then ∃(s':PaG (ByteArray.data s).1),((eS (SA.c (.v (.string s_1.2))) (SA.c (.v (.string s'.2)))/\eS (aP 0 0) (aP 0 0)/\eS (aP 1 0) (aP 1 0)/\eS (aB s_1.3) (aB s'.3)/\eS (SA.a [Seg.one (.v (.string (match World.cell? s_1.1 (Addr.mk 0 0 none)with|some (Value.string s)=>s|x=>ByteArray.mk (Array.mk [])))),Seg.one (.v (.string (match World.cell? s_1.1 (Addr.mk 0 1 none)with|some (Value.string s)=>s|x=>ByteArray.mk (Array.mk [])))),Seg.one (.v (.string (match World.cell? s_1.1 (Addr.mk 0 2 none)with|some (Value.string s)=>s|x=>ByteArray.mk (Array.mk [])))),Seg.one (.v (.string (match World.cell? s_1.1 (Addr.mk 0 3 none)with|some (Value.string s)=>s|x=>ByteArray.mk (Array.mk [])))),Seg.one (.v (.string (match World.cell? s_1.1 (Addr.mk 0 4 none)with|some (Value.string s)=>s|x=>ByteArray.mk (Array.mk [])))),Seg.one (.v (.string (match World.cell? s_1.1 (Addr.mk 0 5 none)with|some (Value.string s)=>s|x=>ByteArray.mk (Array.mk []))))]) (SA.a [Seg.one (.v (.string (match World.cell? s'.1 (Addr.mk 0 0 none)with|some (Value.string s)=>s|x=>ByteArray.mk (Array.mk [])))),Seg.one (.v (.string (match World.cell? s'.1 (Addr.mk 0 1 none)with|some (Value.string s)=>s|x=>ByteArray.mk (Array.mk [])))),Seg.one (.v (.string (match World.cell? s'.1 (Addr.mk 0 2 none)with|some (Value.string s)=>s|x=>ByteArray.mk (Array.mk [])))),Seg.one (.v (.string (match World.cell? s'.1 (Addr.mk 0 3 none)with|some (Value.string s)=>s|x=>ByteArray.mk (Array.mk [])))),Seg.one (.v (.string (match World.cell? s'.1 (Addr.mk 0 4 none)with|some (Value.string s)=>s|x=>ByteArray.mk (Array.mk [])))),Seg.one (.v (.string (match World.cell? s'.1 (Addr.mk 0 5 none)with|some (Value.string s)=>s|x=>ByteArray.mk (Array.mk []))))])/\eS (aI (IntKind.wrap .i64 ((↑s_1.6:Int)+(1:Int)))) (aI ↑s'.6)/\True)/\[SB.cells [sI 0,sI 0,sI 0] 23,SB.cells [sI (IntKind.wrap .i64 ((1:Int)+(↑s_1.6:Int))),sI s_1.4,sI s_1.5] 23]=[SB.cells [sI 0,sI 0,sI 0] 23,SB.cells [sI (Qj (ByteArray.data (PaG.s s')).1 s'.6),sI s'.4,sI s'.5] 23])/\6-s'.6<6-s_1.6 else ∃(s':PaG (ByteArray.data s).1),((eS (SA.c (.v (.string s_1.2))) (SA.c (.v (.string s'.2)))/\eS (aP 0 0) (aP 0 0)/\eS (aP 1 0) (aP 1 0)/\eS (aB s_1.3) (aB s'.3)/\eS (SA.a [Seg.one (.v (.string (match World.cell? s_1.1 (Addr.mk 0 0 none)with|some (Value.string s)=>s|x=>ByteArray.mk (Array.mk [])))),Seg.one (.v (.string (match World.cell? s_1.1 (Addr.mk 0 1 none)with|some (Value.string s)=>s|x=>ByteArray.mk (Array.mk [])))),Seg.one (.v (.string (match World.cell? s_1.1 (Addr.mk 0 2 none)with|some (Value.string s)=>s|x=>ByteArray.mk (Array.mk [])))),Seg.one (.v (.string (match World.cell? s_1.1 (Addr.mk 0 3 none)with|some (Value.string s)=>s|x=>ByteArray.mk (Array.mk [])))),Seg.one (.v (.string (match World.cell? s_1.1 (Addr.mk 0 4 none)with|some (Value.string s)=>s|x=>ByteArray.mk (Array.mk [])))),Seg.one (.v (.string (match World.cell? s_1.1 (Addr.mk 0 5 none)with|some (Value.string s)=>s|x=>ByteArray.mk (Array.mk []))))]) (SA.a [Seg.one (.v (.string (match World.cell? s'.1 (Addr.mk 0 0 none)with|some (Value.string s)=>s|x=>ByteArray.mk (Array.mk [])))),Seg.one (.v (.string (match World.cell? s'.1 (Addr.mk 0 1 none)with|some (Value.string s)=>s|x=>ByteArray.mk (Array.mk [])))),Seg.one (.v (.string (match World.cell? s'.1 (Addr.mk 0 2 none)with|some (Value.string s)=>s|x=>ByteArray.mk (Array.mk [])))),Seg.one (.v (.string (match World.cell? s'.1 (Addr.mk 0 3 none)with|some (Value.string s)=>s|x=>ByteArray.mk (Array.mk [])))),Seg.one (.v (.string (match World.cell? s'.1 (Addr.mk 0 4 none)with|some (Value.string s)=>s|x=>ByteArray.mk (Array.mk [])))),Seg.one (.v (.string (match World.cell? s'.1 (Addr.mk 0 5 none)with|some (Value.string s)=>s|x=>ByteArray.mk (Array.mk []))))])/\eS (aI (IntKind.wrap .i64 ((↑s_1.6:Int)+(1:Int)))) (aI ↑s'.6)/\True)/\[SB.cells [sI 0,sI 0,sI 0] 23,SB.cells [sI (Qj (ByteArray.data (PaG.s s_1)).1 s_1.6),sI s_1.4,sI s_1.5] 23]=[SB.cells [sI 0,sI 0,sI 0] 23,SB.cells [sI (Qj (ByteArray.data (PaG.s s')).1 s'.6),sI s'.4,sI s'.5] 23])/\6-s'.6<6-s_1.6 else bif bif s_1.3 then false else true then endP Qn [SA.c (.v (.string s))] (SV.t [SA.a [sI 0,sI 0,sI 0],SA.c (.v (.iface 46 (Value.int .i64 (3:Int))))]) []else True/\bif bif opOk (Qj (ByteArray.data (PaG.s s_1)).1 s_1.6) s_1.4 s_1.5 then false else true then endP Qn [SA.c (.v (.string s))] (SV.t [SA.a [sI 0,sI 0,sI 0],SA.c (.v (.iface 46 (Value.int .i64 (3:Int))))]) []else endP Qn [SA.c (.v (.string s))] (SV.t [SA.a [sI (Qj (ByteArray.data (PaG.s s_1)).1 s_1.6),sI s_1.4,sI s_1.5],SA.c (.v Value.nilIface)]) []else (true=true/\∀(i:Nat),i<6->World.cell? w (Addr.mk 0 (0+i) none)=some (Value.string (match World.cell? w (Addr.mk 0 (0+i) none)with|some (Value.string s)=>s|x=>ByteArray.mk (Array.mk []))))/\(∃(s0:Ann.σ (QeB s)),(eS (SA.c (.v (.string (bsV (Lib.cut (Array.toList (ByteArray.data s)) [(61:UInt8)]).1)))) (SA.c (.v (.string s0.2)))/\eS (aP 0 0) (aP 0 0)/\eS (aP 1 0) (aP 1 0)/\eS (aB (numB (List.toArray (Prod.snd (Lib.cut (Array.toList (ByteArray.data s)) [(61:UInt8)])).1).1)) (aB s0.3)/\eS (SA.a [Seg.one (.v (.string (match World.cell? w (Addr.mk 0 0 none)with|some (Value.string s)=>s|x=>ByteArray.mk (Array.mk [])))),Seg.one (.v (.string (match World.cell? w (Addr.mk 0 1 none)with|some (Value.string s)=>s|x=>ByteArray.mk (Array.mk [])))),Seg.one (.v (.string (match World.cell? w (Addr.mk 0 2 none)with|some (Value.string s)=>s|x=>ByteArray.mk (Array.mk [])))),Seg.one (.v (.string (match World.cell? w (Addr.mk 0 3 none)with|some (Value.string s)=>s|x=>ByteArray.mk (Array.mk [])))),Seg.one (.v (.string (match World.cell? w (Addr.mk 0 4 none)with|some (Value.string s)=>s|x=>ByteArray.mk (Array.mk [])))),Seg.one (.v (.string (match World.cell? w (Addr.mk 0 5 none)with|some (Value.string s)=>s|x=>ByteArray.mk (Array.mk []))))]) (SA.a [Seg.one (.v (.string (match World.cell? s0.1 (Addr.mk 0 0 none)with|some (Value.string s)=>s|x=>ByteArray.mk (Array.mk [])))),Seg.one (.v (.string (match World.cell? s0.1 (Addr.mk 0 1 none)with|some (Value.string s)=>s|x=>ByteArray.mk (Array.mk [])))),Seg.one (.v (.string (match World.cell? s0.1 (Addr.mk 0 2 none)with|some (Value.string s)=>s|x=>ByteArray.mk (Array.mk [])))),Seg.one (.v (.string (match World.cell? s0.1 (Addr.mk 0 3 none)with|some (Value.string s)=>s|x=>ByteArray.mk (Array.mk [])))),Seg.one (.v (.string (match World.cell? s0.1 (Addr.mk 0 4 none)with|some (Value.string s)=>s|x=>ByteArray.mk (Array.mk [])))),Seg.one (.v (.string (match World.cell? s0.1 (Addr.mk 0 5 none)with|some (Value.string s)=>s|x=>ByteArray.mk (Array.mk []))))])/\eS (aI 0) (aI ↑s0.6)/\True)/\[SB.cells [sI 0,sI 0,sI 0] 23,SB.cells [sI 0,sI 0,sI (numV (List.toArray (Prod.snd (Lib.cut (Array.toList (ByteArray.data s)) [(61:UInt8)])).1).1)] 23]=[SB.cells [sI 0,sI 0,sI 0] 23,SB.cells [sI (Qj (ByteArray.data (PaG.s s0)).1 s0.6),sI s0.4,sI s0.5] 23])/\∀(s_1:PaG (ByteArray.data s).1),bif decide ((↑s_1.6:Int)<(6:Int))then (iR (↑s_1.6:Int) (6:Int))/\bif ByteArray.toList (strG [Seg.one (.v (.string (match World.cell? s_1.1 (Addr.mk 0 0 none)with|some (Value.string s)=>s|x=>ByteArray.mk (Array.mk [])))),Seg.one (.v (.string (match World.cell? s_1.1 (Addr.mk 0 1 none)with|some (Value.string s)=>s|x=>ByteArray.mk (Array.mk [])))),Seg.one (.v (.string (match World.cell? s_1.1 (Addr.mk 0 2 none)with|some (Value.string s)=>s|x=>ByteArray.mk (Array.mk [])))),Seg.one (.v (.string (match World.cell? s_1.1 (Addr.mk 0 3 none)with|some (Value.string s)=>s|x=>ByteArray.mk (Array.mk [])))),Seg.one (.v (.string (match World.cell? s_1.1 (Addr.mk 0 4 none)with|some (Value.string s)=>s|x=>ByteArray.mk (Array.mk [])))),Seg.one (.v (.string (match World.cell? s_1.1 (Addr.mk 0 5 none)with|some (Value.string s)=>s|x=>ByteArray.mk (Array.mk []))))] (Int.toNat (↑s_1.6:Int)))==ByteArray.toList s_1.2 then ∃(s':PaG (ByteArray.data s).1),((eS (SA.c (.v (.string s_1.2))) (SA.c (.v (.string s'.2)))/\eS (aP 0 0) (aP 0 0)/\eS (aP 1 0) (aP 1 0)/\eS (aB s_1.3) (aB s'.3)/\eS (SA.a [Seg.one (.v (.string (match World.cell? s_1.1 (Addr.mk 0 0 none)with|some (Value.string s)=>s|x=>ByteArray.mk (Array.mk [])))),Seg.one (.v (.string (match World.cell? s_1.1 (Addr.mk 0 1 none)with|some (Value.string s)=>s|x=>ByteArray.mk (Array.mk [])))),Seg.one (.v (.string (match World.cell? s_1.1 (Addr.mk 0 2 none)with|some (Value.string s)=>s|x=>ByteArray.mk (Array.mk [])))),Seg.one (.v (.string (match World.cell? s_1.1 (Addr.mk 0 3 none)with|some (Value.string s)=>s|x=>ByteArray.mk (Array.mk [])))),Seg.one (.v (.string (match World.cell? s_1.1 (Addr.mk 0 4 none)with|some (Value.string s)=>s|x=>ByteArray.mk (Array.mk [])))),Seg.one (.v (.string (match World.cell? s_1.1 (Addr.mk 0 5 none)with|some (Value.string s)=>s|x=>ByteArray.mk (Array.mk []))))]) (SA.a [Seg.one (.v (.string (match World.cell? s'.1 (Addr.mk 0 0 none)with|some (Value.string s)=>s|x=>ByteArray.mk (Array.mk [])))),Seg.one (.v (.string (match World.cell? s'.1 (Addr.mk 0 1 none)with|some (Value.string s)=>s|x=>ByteArray.mk (Array.mk [])))),Seg.one (.v (.string (match World.cell? s'.1 (Addr.mk 0 2 none)with|some (Value.string s)=>s|x=>ByteArray.mk (Array.mk [])))),Seg.one (.v (.string (match World.cell? s'.1 (Addr.mk 0 3 none)with|some (Value.string s)=>s|x=>ByteArray.mk (Array.mk [])))),Seg.one (.v (.string (match World.cell? s'.1 (Addr.mk 0 4 none)with|some (Value.string s)=>s|x=>ByteArray.mk (Array.mk [])))),Seg.one (.v (.string (match World.cell? s'.1 (Addr.mk 0 5 none)with|some (Value.string s)=>s|x=>ByteArray.mk (Array.mk []))))])/\eS (aI (IntKind.wrap .i64 ((↑s_1.6:Int)+(1:Int)))) (aI ↑s'.6)/\True)/\[SB.cells [sI 0,sI 0,sI 0] 23,SB.cells [sI (IntKind.wrap .i64 ((1:Int)+(↑s_1.6:Int))),sI s_1.4,sI s_1.5] 23]=[SB.cells [sI 0,sI 0,sI 0] 23,SB.cells [sI (Qj (ByteArray.data (PaG.s s')).1 s'.6),sI s'.4,sI s'.5] 23])/\6-s'.6<6-s_1.6 else ∃(s':PaG (ByteArray.data s).1),((eS (SA.c (.v (.string s_1.2))) (SA.c (.v (.string s'.2)))/\eS (aP 0 0) (aP 0 0)/\eS (aP 1 0) (aP 1 0)/\eS (aB s_1.3) (aB s'.3)/\eS (SA.a [Seg.one (.v (.string (match World.cell? s_1.1 (Addr.mk 0 0 none)with|some (Value.string s)=>s|x=>ByteArray.mk (Array.mk [])))),Seg.one (.v (.string (match World.cell? s_1.1 (Addr.mk 0 1 none)with|some (Value.string s)=>s|x=>ByteArray.mk (Array.mk [])))),Seg.one (.v (.string (match World.cell? s_1.1 (Addr.mk 0 2 none)with|some (Value.string s)=>s|x=>ByteArray.mk (Array.mk [])))),Seg.one (.v (.string (match World.cell? s_1.1 (Addr.mk 0 3 none)with|some (Value.string s)=>s|x=>ByteArray.mk (Array.mk [])))),Seg.one (.v (.string (match World.cell? s_1.1 (Addr.mk 0 4 none)with|some (Value.string s)=>s|x=>ByteArray.mk (Array.mk [])))),Seg.one (.v (.string (match World.cell? s_1.1 (Addr.mk 0 5 none)with|some (Value.string s)=>s|x=>ByteArray.mk (Array.mk []))))]) (SA.a [Seg.one (.v (.string (match World.cell? s'.1 (Addr.mk 0 0 none)with|some (Value.string s)=>s|x=>ByteArray.mk (Array.mk [])))),Seg.one (.v (.string (match World.cell? s'.1 (Addr.mk 0 1 none)with|some (Value.string s)=>s|x=>ByteArray.mk (Array.mk [])))),Seg.one (.v (.string (match World.cell? s'.1 (Addr.mk 0 2 none)with|some (Value.string s)=>s|x=>ByteArray.mk (Array.mk [])))),Seg.one (.v (.string (match World.cell? s'.1 (Addr.mk 0 3 none)with|some (Value.string s)=>s|x=>ByteArray.mk (Array.mk [])))),Seg.one (.v (.string (match World.cell? s'.1 (Addr.mk 0 4 none)with|some (Value.string s)=>s|x=>ByteArray.mk (Array.mk [])))),Seg.one (.v (.string (match World.cell? s'.1 (Addr.mk 0 5 none)with|some (Value.string s)=>s|x=>ByteArray.mk (Array.mk []))))])/\eS (aI (IntKind.wrap .i64 ((↑s_1.6:Int)+(1:Int)))) (aI ↑s'.6)/\True)/\[SB.cells [sI 0,sI 0,sI 0] 23,SB.cells [sI (Qj (ByteArray.data (PaG.s s_1)).1 s_1.6),sI s_1.4,sI s_1.5] 23]=[SB.cells [sI 0,sI 0,sI 0] 23,SB.cells [sI (Qj (ByteArray.data (PaG.s s')).1 s'.6),sI s'.4,sI s'.5] 23])/\6-s'.6<6-s_1.6 else bif bif s_1.3 then false else true then endP Qn [SA.c (.v (.string s))] (SV.t [SA.a [sI 0,sI 0,sI 0],SA.c (.v (.iface 46 (Value.int .i64 (3:Int))))]) []else True/\bif bif opOk (Qj (ByteArray.data (PaG.s s_1)).1 s_1.6) s_1.4 s_1.5 then false else true then endP Qn [SA.c (.v (.string s))] (SV.t [SA.a [sI 0,sI 0,sI 0],SA.c (.v (.iface 46 (Value.int .i64 (3:Int))))]) []else endP Qn [SA.c (.v (.string s))] (SV.t [SA.a [sI (Qj (ByteArray.data (PaG.s s_1)).1 s_1.6),sI s_1.4,sI s_1.5],SA.c (.v Value.nilIface)]) []else (true=true/\∀(i:Nat),i<6->World.cell? w (Addr.mk 0 (0+i) none)=some (Value.string (match World.cell? w (Addr.mk 0 (0+i) none)with|some (Value.string s)=>s|x=>ByteArray.mk (Array.mk []))))/\(∃(s0:Ann.σ (QeB s)),(eS (SA.c (.v (.string (bsV (Lib.cut (Array.toList (ByteArray.data s)) [(61:UInt8)]).1)))) (SA.c (.v (.string s0.2)))/\eS (aP 0 0) (aP 0 0)/\eS (aP 1 0) (aP 1 0)/\eS (aB (numB (List.toArray (Prod.snd (Lib.cut (Array.toList (ByteArray.data s)) [(61:UInt8)])).1).1)) (aB s0.3)/\eS (SA.a [Seg.one (.v (.string (match World.cell? w (Addr.mk 0 0 none)with|some (Value.string s)=>s|x=>ByteArray.mk (Array.mk [])))),Seg.one (.v (.string (match World.cell? w (Addr.mk 0 1 none)with|some (Value.string s)=>s|x=>ByteArray.mk (Array.mk [])))),Seg.one (.v (.string (match World.cell? w (Addr.mk 0 2 none)with|some (Value.string s)=>s|x=>ByteArray.mk (Array.mk [])))),Seg.one (.v (.string (match World.cell? w (Addr.mk 0 3 none)with|some (Value.string s)=>s|x=>ByteArray.mk (Array.mk [])))),Seg.one (.v (.string (match World.cell? w (Addr.mk 0 4 none)with|some (Value.string s)=>s|x=>ByteArray.mk (Array.mk [])))),Seg.one (.v (.string (match World.cell? w (Addr.mk 0 5 none)with|some (Value.string s)=>s|x=>ByteArray.mk (Array.mk []))))]) (SA.a [Seg.one (.v (.string (match World.cell? s0.1 (Addr.mk 0 0 none)with|some (Value.string s)=>s|x=>ByteArray.mk (Array.mk [])))),Seg.one (.v (.string (match World.cell? s0.1 (Addr.mk 0 1 none)with|some (Value.string s)=>s|x=>ByteArray.mk (Array.mk [])))),Seg.one (.v (.string (match World.cell? s0.1 (Addr.mk 0 2 none)with|some (Value.string s)=>s|x=>ByteArray.mk (Array.mk [])))),Seg.one (.v (.string (match World.cell? s0.1 (Addr.mk 0 3 none)with|some (Value.string s)=>s|x=>ByteArray.mk (Array.mk [])))),Seg.one (.v (.string (match World.cell? s0.1 (Addr.mk 0 4 none)with|some (Value.string s)=>s|x=>ByteArray.mk (Array.mk [])))),Seg.one (.v (.string (match World.cell? s0.1 (Addr.mk 0 5 none)with|some (Value.string s)=>s|x=>ByteArray.mk (Array.mk []))))])/\eS (aI 0) (aI ↑s0.6)/\True)/\[SB.cells [sI 0,sI 0,sI 0] 23,SB.cells [sI 0,sI 0,sI (numV (List.toArray (Prod.snd (Lib.cut (Array.toList (ByteArray.data s)) [(61:UInt8)])).1).1)] 23]=[SB.cells [sI 0,sI 0,sI 0] 23,SB.cells [sI (Qj (ByteArray.data (PaG.s s0)).1 s0.6),sI s0.4,sI s0.5] 23])/\∀(s_1:PaG (ByteArray.data s).1),bif decide ((↑s_1.6:Int)<(6:Int))then (iR (↑s_1.6:Int) (6:Int))/\bif ByteArray.toList (strG [Seg.one (.v (.string (match World.cell? s_1.1 (Addr.mk 0 0 none)with|some (Value.string s)=>s|x=>ByteArray.mk (Array.mk [])))),Seg.one (.v (.string (match World.cell? s_1.1 (Addr.mk 0 1 none)with|some (Value.string s)=>s|x=>ByteArray.mk (Array.mk [])))),Seg.one (.v (.string (match World.cell? s_1.1 (Addr.mk 0 2 none)with|some (Value.string s)=>s|x=>ByteArray.mk (Array.mk [])))),Seg.one (.v (.string (match World.cell? s_1.1 (Addr.mk 0 3 none)with|some (Value.string s)=>s|x=>ByteArray.mk (Array.mk [])))),Seg.one (.v (.string (match World.cell? s_1.1 (Addr.mk 0 4 none)with|some (Value.string s)=>s|x=>ByteArray.mk (Array.mk [])))),Seg.one (.v (.string (match World.cell? s_1.1 (Addr.mk 0 5 none)with|some (Value.string s)=>s|x=>ByteArray.mk (Array.mk []))))] (Int.toNat (↑s_1.6:Int)))==ByteArray.toList s_1.2 then ∃(s':PaG (ByteArray.data s).1),((eS (SA.c (.v (.string s_1.2))) (SA.c (.v (.string s'.2)))/\eS (aP 0 0) (aP 0 0)/\eS (aP 1 0) (aP 1 0)/\eS (aB s_1.3) (aB s'.3)/\eS (SA.a [Seg.one (.v (.string (match World.cell? s_1.1 (Addr.mk 0 0 none)with|some (Value.string s)=>s|x=>ByteArray.mk (Array.mk [])))),Seg.one (.v (.string (match World.cell? s_1.1 (Addr.mk 0 1 none)with|some (Value.string s)=>s|x=>ByteArray.mk (Array.mk [])))),Seg.one (.v (.string (match World.cell? s_1.1 (Addr.mk 0 2 none)with|some (Value.string s)=>s|x=>ByteArray.mk (Array.mk [])))),Seg.one (.v (.string (match World.cell? s_1.1 (Addr.mk 0 3 none)with|some (Value.string s)=>s|x=>ByteArray.mk (Array.mk [])))),Seg.one (.v (.string (match World.cell? s_1.1 (Addr.mk 0 4 none)with|some (Value.string s)=>s|x=>ByteArray.mk (Array.mk [])))),Seg.one (.v (.string (match World.cell? s_1.1 (Addr.mk 0 5 none)with|some (Value.string s)=>s|x=>ByteArray.mk (Array.mk []))))]) (SA.a [Seg.one (.v (.string (match World.cell? s'.1 (Addr.mk 0 0 none)with|some (Value.string s)=>s|x=>ByteArray.mk (Array.mk [])))),Seg.one (.v (.string (match World.cell? s'.1 (Addr.mk 0 1 none)with|some (Value.string s)=>s|x=>ByteArray.mk (Array.mk [])))),Seg.one (.v (.string (match World.cell? s'.1 (Addr.mk 0 2 none)with|some (Value.string s)=>s|x=>ByteArray.mk (Array.mk [])))),Seg.one (.v (.string (match World.cell? s'.1 (Addr.mk 0 3 none)with|some (Value.string s)=>s|x=>ByteArray.mk (Array.mk [])))),Seg.one (.v (.string (match World.cell? s'.1 (Addr.mk 0 4 none)with|some (Value.string s)=>s|x=>ByteArray.mk (Array.mk [])))),Seg.one (.v (.string (match World.cell? s'.1 (Addr.mk 0 5 none)with|some (Value.string s)=>s|x=>ByteArray.mk (Array.mk []))))])/\eS (aI (IntKind.wrap .i64 ((↑s_1.6:Int)+(1:Int)))) (aI ↑s'.6)/\True)/\[SB.cells [sI 0,sI 0,sI 0] 23,SB.cells [sI (IntKind.wrap .i64 ((1:Int)+(↑s_1.6:Int))),sI s_1.4,sI s_1.5] 23]=[SB.cells [sI 0,sI 0,sI 0] 23,SB.cells [sI (Qj (ByteArray.data (PaG.s s')).1 s'.6),sI s'.4,sI s'.5] 23])/\6-s'.6<6-s_1.6 else ∃(s':PaG (ByteArray.data s).1),((eS (SA.c (.v (.string s_1.2))) (SA.c (.v (.string s'.2)))/\eS (aP 0 0) (aP 0 0)/\eS (aP 1 0) (aP 1 0)/\eS (aB s_1.3) (aB s'.3)/\eS (SA.a [Seg.one (.v (.string (match World.cell? s_1.1 (Addr.mk 0 0 none)with|some (Value.string s)=>s|x=>ByteArray.mk (Array.mk [])))),Seg.one (.v (.string (match World.cell? s_1.1 (Addr.mk 0 1 none)with|some (Value.string s)=>s|x=>ByteArray.mk (Array.mk [])))),Seg.one (.v (.string (match World.cell? s_1.1 (Addr.mk 0 2 none)with|some (Value.string s)=>s|x=>ByteArray.mk (Array.mk [])))),Seg.one (.v (.string (match World.cell? s_1.1 (Addr.mk 0 3 none)with|some (Value.string s)=>s|x=>ByteArray.mk (Array.mk [])))),Seg.one (.v (.string (match World.cell? s_1.1 (Addr.mk 0 4 none)with|some (Value.string s)=>s|x=>ByteArray.mk (Array.mk [])))),Seg.one (.v (.string (match World.cell? s_1.1 (Addr.mk 0 5 none)with|some (Value.string s)=>s|x=>ByteArray.mk (Array.mk []))))]) (SA.a [Seg.one (.v (.string (match World.cell? s'.1 (Addr.mk 0 0 none)with|some (Value.string s)=>s|x=>ByteArray.mk (Array.mk [])))),Seg.one (.v (.string (match World.cell? s'.1 (Addr.mk 0 1 none)with|some (Value.string s)=>s|x=>ByteArray.mk (Array.mk [])))),Seg.one (.v (.string (match World.cell? s'.1 (Addr.mk 0 2 none)with|some (Value.string s)=>s|x=>ByteArray.mk (Array.mk [])))),Seg.one (.v (.string (match World.cell? s'.1 (Addr.mk 0 3 none)with|some (Value.string s)=>s|x=>ByteArray.mk (Array.mk [])))),Seg.one (.v (.string (match World.cell? s'.1 (Addr.mk 0 4 none)with|some (Value.string s)=>s|x=>ByteArray.mk (Array.mk [])))),Seg.one (.v (.string (match World.cell? s'.1 (Addr.mk 0 5 none)with|some (Value.string s)=>s|x=>ByteArray.mk (Array.mk []))))])/\eS (aI (IntKind.wrap .i64 ((↑s_1.6:Int)+(1:Int)))) (aI ↑s'.6)/\True)/\[SB.cells [sI 0,sI 0,sI 0] 23,SB.cells [sI (Qj (ByteArray.data (PaG.s s_1)).1 s_1.6),sI s_1.4,sI s_1.5] 23]=[SB.cells [sI 0,sI 0,sI 0] 23,SB.cells [sI (Qj (ByteArray.data (PaG.s s')).1 s'.6),sI s'.4,sI s'.5] 23])/\6-s'.6<6-s_1.6 else bif bif s_1.3 then false else true then endP Qn [SA.c (.v (.string s))] (SV.t [SA.a [sI 0,sI 0,sI 0],SA.c (.v (.iface 46 (Value.int .i64 (3:Int))))]) []else True/\bif bif opOk (Qj (ByteArray.data (PaG.s s_1)).1 s_1.6) s_1.4 s_1.5 then false else true then endP Qn [SA.c (.v (.string s))] (SV.t [SA.a [sI 0,sI 0,sI 0],SA.c (.v (.iface 46 (Value.int .i64 (3:Int))))]) []else endP Qn [SA.c (.v (.string s))] (SV.t [SA.a [sI (Qj (ByteArray.data (PaG.s s_1)).1 s_1.6),sI s_1.4,sI s_1.5],SA.c (.v Value.nilIface)]) []else ByteArray.size s<4294967281/\bif (Prod.snd (Lib.cut (Array.toList (ByteArray.data s)) [(58:UInt8)])).2 then ByteArray.size (bsV (Prod.snd (Lib.cut (Array.toList (ByteArray.data s)) [(58:UInt8)])).1)<=1000000/\(true=true/\∀(i:Nat),i<6->World.cell? w (Addr.mk 0 (0+i) none)=some (Value.string (match World.cell? w (Addr.mk 0 (0+i) none)with|some (Value.string s)=>s|x=>ByteArray.mk (Array.mk []))))/\(∃(s0:Ann.σ (QeB s)),(eS (SA.c (.v (.string (bsV (Lib.cut (Array.toList (ByteArray.data s)) [(58:UInt8)]).1)))) (SA.c (.v (.string s0.2)))/\eS (aP 0 0) (aP 0 0)/\eS (aP 1 0) (aP 1 0)/\eS (aB (numB (List.toArray (Prod.snd (Lib.cut (Array.toList (ByteArray.data s)) [(58:UInt8)])).1).1)) (aB s0.3)/\eS (SA.a [Seg.one (.v (.string (match World.cell? w (Addr.mk 0 0 none)with|some (Value.string s)=>s|x=>ByteArray.mk (Array.mk [])))),Seg.one (.v (.string (match World.cell? w (Addr.mk 0 1 none)with|some (Value.string s)=>s|x=>ByteArray.mk (Array.mk [])))),Seg.one (.v (.string (match World.cell? w (Addr.mk 0 2 none)with|some (Value.string s)=>s|x=>ByteArray.mk (Array.mk [])))),Seg.one (.v (.string (match World.cell? w (Addr.mk 0 3 none)with|some (Value.string s)=>s|x=>ByteArray.mk (Array.mk [])))),Seg.one (.v (.string (match World.cell? w (Addr.mk 0 4 none)with|some (Value.string s)=>s|x=>ByteArray.mk (Array.mk [])))),Seg.one (.v (.string (match World.cell? w (Addr.mk 0 5 none)with|some (Value.string s)=>s|x=>ByteArray.mk (Array.mk []))))]) (SA.a [Seg.one (.v (.string (match World.cell? s0.1 (Addr.mk 0 0 none)with|some (Value.string s)=>s|x=>ByteArray.mk (Array.mk [])))),Seg.one (.v (.string (match World.cell? s0.1 (Addr.mk 0 1 none)with|some (Value.string s)=>s|x=>ByteArray.mk (Array.mk [])))),Seg.one (.v (.string (match World.cell? s0.1 (Addr.mk 0 2 none)with|some (Value.string s)=>s|x=>ByteArray.mk (Array.mk [])))),Seg.one (.v (.string (match World.cell? s0.1 (Addr.mk 0 3 none)with|some (Value.string s)=>s|x=>ByteArray.mk (Array.mk [])))),Seg.one (.v (.string (match World.cell? s0.1 (Addr.mk 0 4 none)with|some (Value.string s)=>s|x=>ByteArray.mk (Array.mk [])))),Seg.one (.v (.string (match World.cell? s0.1 (Addr.mk 0 5 none)with|some (Value.string s)=>s|x=>ByteArray.mk (Array.mk []))))])/\eS (aI 0) (aI ↑s0.6)/\True)/\[SB.cells [sI 0,sI 0,sI 0] 23,SB.cells [sI 0,sI (numV (List.toArray (Prod.snd (Lib.cut (Array.toList (ByteArray.data s)) [(58:UInt8)])).1).1),sI 0] 23]=[SB.cells [sI 0,sI 0,sI 0] 23,SB.cells [sI (Qj (ByteArray.data (PaG.s s0)).1 s0.6),sI s0.4,sI s0.5] 23])/\∀(s_1:PaG (ByteArray.data s).1),bif decide ((↑s_1.6:Int)<(6:Int))then (iR (↑s_1.6:Int) (6:Int))/\bif ByteArray.toList (strG [Seg.one (.v (.string (match World.cell? s_1.1 (Addr.mk 0 0 none)with|some (Value.string s)=>s|x=>ByteArray.mk (Array.mk [])))),Seg.one (.v (.string (match World.cell? s_1.1 (Addr.mk 0 1 none)with|some (Value.string s)=>s|x=>ByteArray.mk (Array.mk [])))),Seg.one (.v (.string (match World.cell? s_1.1 (Addr.mk 0 2 none)with|some (Value.string s)=>s|x=>ByteArray.mk (Array.mk [])))),Seg.one (.v (.string (match World.cell? s_1.1 (Addr.mk 0 3 none)with|some (Value.string s)=>s|x=>ByteArray.mk (Array.mk [])))),Seg.one (.v (.string (match World.cell? s_1.1 (Addr.mk 0 4 none)with|some (Value.string s)=>s|x=>ByteArray.mk (Array.mk [])))),Seg.one (.v (.string (match World.cell? s_1.1 (Addr.mk 0 5 none)with|some (Value.string s)=>s|x=>ByteArray.mk (Array.mk []))))] (Int.toNat (↑s_1.6:Int)))==ByteArray.toList s_1.2 then ∃(s':PaG (ByteArray.data s).1),((eS (SA.c (.v (.string s_1.2))) (SA.c (.v (.string s'.2)))/\eS (aP 0 0) (aP 0 0)/\eS (aP 1 0) (aP 1 0)/\eS (aB s_1.3) (aB s'.3)/\eS (SA.a [Seg.one (.v (.string (match World.cell? s_1.1 (Addr.mk 0 0 none)with|some (Value.string s)=>s|x=>ByteArray.mk (Array.mk [])))),Seg.one (.v (.string (match World.cell? s_1.1 (Addr.mk 0 1 none)with|some (Value.string s)=>s|x=>ByteArray.mk (Array.mk [])))),Seg.one (.v (.string (match World.cell? s_1.1 (Addr.mk 0 2 none)with|some (Value.string s)=>s|x=>ByteArray.mk (Array.mk [])))),Seg.one (.v (.string (match World.cell? s_1.1 (Addr.mk 0 3 none)with|some (Value.string s)=>s|x=>ByteArray.mk (Array.mk [])))),Seg.one (.v (.string (match World.cell? s_1.1 (Addr.mk 0 4 none)with|some (Value.string s)=>s|x=>ByteArray.mk (Array.mk [])))),Seg.one (.v (.string (match World.cell? s_1.1 (Addr.mk 0 5 none)with|some (Value.string s)=>s|x=>ByteArray.mk (Array.mk []))))]) (SA.a [Seg.one (.v (.string (match World.cell? s'.1 (Addr.mk 0 0 none)with|some (Value.string s)=>s|x=>ByteArray.mk (Array.mk [])))),Seg.one (.v (.string (match World.cell? s'.1 (Addr.mk 0 1 none)with|some (Value.string s)=>s|x=>ByteArray.mk (Array.mk [])))),Seg.one (.v (.string (match World.cell? s'.1 (Addr.mk 0 2 none)with|some (Value.string s)=>s|x=>ByteArray.mk (Array.mk [])))),Seg.one (.v (.string (match World.cell? s'.1 (Addr.mk 0 3 none)with|some (Value.string s)=>s|x=>ByteArray.mk (Array.mk [])))),Seg.one (.v (.string (match World.cell? s'.1 (Addr.mk 0 4 none)with|some (Value.string s)=>s|x=>ByteArray.mk (Array.mk [])))),Seg.one (.v (.string (match World.cell? s'.1 (Addr.mk 0 5 none)with|some (Value.string s)=>s|x=>ByteArray.mk (Array.mk []))))])/\eS (aI (IntKind.wrap .i64 ((↑s_1.6:Int)+(1:Int)))) (aI ↑s'.6)/\True)/\[SB.cells [sI 0,sI 0,sI 0] 23,SB.cells [sI (IntKind.wrap .i64 ((1:Int)+(↑s_1.6:Int))),sI s_1.4,sI s_1.5] 23]=[SB.cells [sI 0,sI 0,sI 0] 23,SB.cells [sI (Qj (ByteArray.data (PaG.s s')).1 s'.6),sI s'.4,sI s'.5] 23])/\6-s'.6<6-s_1.6 else ∃(s':PaG (ByteArray.data s).1),((eS (SA.c (.v (.string s_1.2))) (SA.c (.v (.string s'.2)))/\eS (aP 0 0) (aP 0 0)/\eS (aP 1 0) (aP 1 0)/\eS (aB s_1.3) (aB s'.3)/\eS (SA.a [Seg.one (.v (.string (match World.cell? s_1.1 (Addr.mk 0 0 none)with|some (Value.string s)=>s|x=>ByteArray.mk (Array.mk [])))),Seg.one (.v (.string (match World.cell? s_1.1 (Addr.mk 0 1 none)with|some (Value.string s)=>s|x=>ByteArray.mk (Array.mk [])))),Seg.one (.v (.string (match World.cell? s_1.1 (Addr.mk 0 2 none)with|some (Value.string s)=>s|x=>ByteArray.mk (Array.mk [])))),Seg.one (.v (.string (match World.cell? s_1.1 (Addr.mk 0 3 none)with|some (Value.string s)=>s|x=>ByteArray.mk (Array.mk [])))),Seg.one (.v (.string (match World.cell? s_1.1 (Addr.mk 0 4 none)with|some (Value.string s)=>s|x=>ByteArray.mk (Array.mk [])))),Seg.one (.v (.string (match World.cell? s_1.1 (Addr.mk 0 5 none)with|some (Value.string s)=>s|x=>ByteArray.mk (Array.mk []))))]) (SA.a [Seg.one (.v (.string (match World.cell? s'.1 (Addr.mk 0 0 none)with|some (Value.string s)=>s|x=>ByteArray.mk (Array.mk [])))),Seg.one (.v (.string (match World.cell? s'.1 (Addr.mk 0 1 none)with|some (Value.string s)=>s|x=>ByteArray.mk (Array.mk [])))),Seg.one (.v (.string (match World.cell? s'.1 (Addr.mk 0 2 none)with|some (Value.string s)=>s|x=>ByteArray.mk (Array.mk [])))),Seg.one (.v (.string (match World.cell? s'.1 (Addr.mk 0 3 none)with|some (Value.string s)=>s|x=>ByteArray.mk (Array.mk [])))),Seg.one (.v (.string (match World.cell? s'.1 (Addr.mk 0 4 none)with|some (Value.string s)=>s|x=>ByteArray.mk (Array.mk [])))),Seg.one (.v (.string (match World.cell? s'.1 (Addr.mk 0 5 none)with|some (Value.string s)=>s|x=>ByteArray.mk (Array.mk []))))])/\eS (aI (IntKind.wrap .i64 ((↑s_1.6:Int)+(1:Int)))) (aI ↑s'.6)/\True)/\[SB.cells [sI 0,sI 0,sI 0] 23,SB.cells [sI (Qj (ByteArray.data (PaG.s s_1)).1 s_1.6),sI s_1.4,sI s_1.5] 23]=[SB.cells [sI 0,sI 0,sI 0] 23,SB.cells [sI (Qj (ByteArray.data (PaG.s s')).1 s'.6),sI s'.4,sI s'.5] 23])/\6-s'.6<6-s_1.6 else bif bif s_1.3 then false else true then endP Qn [SA.c (.v (.string s))] (SV.t [SA.a [sI 0,sI 0,sI 0],SA.c (.v (.iface 46 (Value.int .i64 (3:Int))))]) []else True/\bif bif opOk (Qj (ByteArray.data (PaG.s s_1)).1 s_1.6) s_1.4 s_1.5 then false else true then endP Qn [SA.c (.v (.string s))] (SV.t [SA.a [sI 0,sI 0,sI 0],SA.c (.v (.iface 46 (Value.int .i64 (3:Int))))]) []else endP Qn [SA.c (.v (.string s))] (SV.t [SA.a [sI (Qj (ByteArray.data (PaG.s s_1)).1 s_1.6),sI s_1.4,sI s_1.5],SA.c (.v Value.nilIface)]) []else (true=true/\∀(i:Nat),i<6->World.cell? w (Addr.mk 0 (0+i) none)=some (Value.string (match World.cell? w (Addr.mk 0 (0+i) none)with|some (Value.string s)=>s|x=>ByteArray.mk (Array.mk []))))/\(∃(s0:Ann.σ (QeB s)),(eS (SA.c (.v (.string s))) (SA.c (.v (.string s0.2)))/\eS (aP 0 0) (aP 0 0)/\eS (aP 1 0) (aP 1 0)/\eS (aB true) (aB s0.3)/\eS (SA.a [Seg.one (.v (.string (match World.cell? w (Addr.mk 0 0 none)with|some (Value.string s)=>s|x=>ByteArray.mk (Array.mk [])))),Seg.one (.v (.string (match World.cell? w (Addr.mk 0 1 none)with|some (Value.string s)=>s|x=>ByteArray.mk (Array.mk [])))),Seg.one (.v (.string (match World.cell? w (Addr.mk 0 2 none)with|some (Value.string s)=>s|x=>ByteArray.mk (Array.mk [])))),Seg.one (.v (.string (match World.cell? w (Addr.mk 0 3 none)with|some (Value.string s)=>s|x=>ByteArray.mk (Array.mk [])))),Seg.one (.v (.string (match World.cell? w (Addr.mk 0 4 none)with|some (Value.string s)=>s|x=>ByteArray.mk (Array.mk [])))),Seg.one (.v (.string (match World.cell? w (Addr.mk 0 5 none)with|some (Value.string s)=>s|x=>ByteArray.mk (Array.mk []))))]) (SA.a [Seg.one (.v (.string (match World.cell? s0.1 (Addr.mk 0 0 none)with|some (Value.string s)=>s|x=>ByteArray.mk (Array.mk [])))),Seg.one (.v (.string (match World.cell? s0.1 (Addr.mk 0 1 none)with|some (Value.string s)=>s|x=>ByteArray.mk (Array.mk [])))),Seg.one (.v (.string (match World.cell? s0.1 (Addr.mk 0 2 none)with|some (Value.string s)=>s|x=>ByteArray.mk (Array.mk [])))),Seg.one (.v (.string (match World.cell? s0.1 (Addr.mk 0 3 none)with|some (Value.string s)=>s|x=>ByteArray.mk (Array.mk [])))),Seg.one (.v (.string (match World.cell? s0.1 (Addr.mk 0 4 none)with|some (Value.string s)=>s|x=>ByteArray.mk (Array.mk [])))),Seg.one (.v (.string (match World.cell? s0.1 (Addr.mk 0 5 none)with|some (Value.string s)=>s|x=>ByteArray.mk (Array.mk []))))])/\eS (aI 0) (aI ↑s0.6)/\True)/\[SB.cells [sI 0,sI 0,sI 0] 23,SB.cells [sI 0,sI 0,sI 0] 23]=[SB.cells [sI 0,sI 0,sI 0] 23,SB.cells [sI (Qj (ByteArray.data (PaG.s s0)).1 s0.6),sI s0.4,sI s0.5] 23])/\∀(s_1:PaG (ByteArray.data s).1),bif decide ((↑s_1.6:Int)<(6:Int))then (iR (↑s_1.6:Int) (6:Int))/\bif ByteArray.toList (strG [Seg.one (.v (.string (match World.cell? s_1.1 (Addr.mk 0 0 none)with|some (Value.string s)=>s|x=>ByteArray.mk (Array.mk [])))),Seg.one (.v (.string (match World.cell? s_1.1 (Addr.mk 0 1 none)with|some (Value.string s)=>s|x=>ByteArray.mk (Array.mk [])))),Seg.one (.v (.string (match World.cell? s_1.1 (Addr.mk 0 2 none)with|some (Value.string s)=>s|x=>ByteArray.mk (Array.mk [])))),Seg.one (.v (.string (match World.cell? s_1.1 (Addr.mk 0 3 none)with|some (Value.string s)=>s|x=>ByteArray.mk (Array.mk [])))),Seg.one (.v (.string (match World.cell? s_1.1 (Addr.mk 0 4 none)with|some (Value.string s)=>s|x=>ByteArray.mk (Array.mk [])))),Seg.one (.v (.string (match World.cell? s_1.1 (Addr.mk 0 5 none)with|some (Value.string s)=>s|x=>ByteArray.mk (Array.mk []))))] (Int.toNat (↑s_1.6:Int)))==ByteArray.toList s_1.2 then ∃(s':PaG (ByteArray.data s).1),((eS (SA.c (.v (.string s_1.2))) (SA.c (.v (.string s'.2)))/\eS (aP 0 0) (aP 0 0)/\eS (aP 1 0) (aP 1 0)/\eS (aB s_1.3) (aB s'.3)/\eS (SA.a [Seg.one (.v (.string (match World.cell? s_1.1 (Addr.mk 0 0 none)with|some (Value.string s)=>s|x=>ByteArray.mk (Array.mk [])))),Seg.one (.v (.string (match World.cell? s_1.1 (Addr.mk 0 1 none)with|some (Value.string s)=>s|x=>ByteArray.mk (Array.mk [])))),Seg.one (.v (.string (match World.cell? s_1.1 (Addr.mk 0 2 none)with|some (Value.string s)=>s|x=>ByteArray.mk (Array.mk [])))),Seg.one (.v (.string (match World.cell? s_1.1 (Addr.mk 0 3 none)with|some (Value.string s)=>s|x=>ByteArray.mk (Array.mk [])))),Seg.one (.v (.string (match World.cell? s_1.1 (Addr.mk 0 4 none)with|some (Value.string s)=>s|x=>ByteArray.mk (Array.mk [])))),Seg.one (.v (.string (match World.cell? s_1.1 (Addr.mk 0 5 none)with|some (Value.string s)=>s|x=>ByteArray.mk (Array.mk []))))]) (SA.a [Seg.one (.v (.string (match World.cell? s'.1 (Addr.mk 0 0 none)with|some (Value.string s)=>s|x=>ByteArray.mk (Array.mk [])))),Seg.one (.v (.string (match World.cell? s'.1 (Addr.mk 0 1 none)with|some (Value.string s)=>s|x=>ByteArray.mk (Array.mk [])))),Seg.one (.v (.string (match World.cell? s'.1 (Addr.mk 0 2 none)with|some (Value.string s)=>s|x=>ByteArray.mk (Array.mk [])))),Seg.one (.v (.string (match World.cell? s'.1 (Addr.mk 0 3 none)with|some (Value.string s)=>s|x=>ByteArray.mk (Array.mk [])))),Seg.one (.v (.string (match World.cell? s'.1 (Addr.mk 0 4 none)with|some (Value.string s)=>s|x=>ByteArray.mk (Array.mk [])))),Seg.one (.v (.string (match World.cell? s'.1 (Addr.mk 0 5 none)with|some (Value.string s)=>s|x=>ByteArray.mk (Array.mk []))))])/\eS (aI (IntKind.wrap .i64 ((↑s_1.6:Int)+(1:Int)))) (aI ↑s'.6)/\True)/\[SB.cells [sI 0,sI 0,sI 0] 23,SB.cells [sI (IntKind.wrap .i64 ((1:Int)+(↑s_1.6:Int))),sI s_1.4,sI s_1.5] 23]=[SB.cells [sI 0,sI 0,sI 0] 23,SB.cells [sI (Qj (ByteArray.data (PaG.s s')).1 s'.6),sI s'.4,sI s'.5] 23])/\6-s'.6<6-s_1.6 else ∃(s':PaG (ByteArray.data s).1),((eS (SA.c (.v (.string s_1.2))) (SA.c (.v (.string s'.2)))/\eS (aP 0 0) (aP 0 0)/\eS (aP 1 0) (aP 1 0)/\eS (aB s_1.3) (aB s'.3)/\eS (SA.a [Seg.one (.v (.string (match World.cell? s_1.1 (Addr.mk 0 0 none)with|some (Value.string s)=>s|x=>ByteArray.mk (Array.mk [])))),Seg.one (.v (.string (match World.cell? s_1.1 (Addr.mk 0 1 none)with|some (Value.string s)=>s|x=>ByteArray.mk (Array.mk [])))),Seg.one (.v (.string (match World.cell? s_1.1 (Addr.mk 0 2 none)with|some (Value.string s)=>s|x=>ByteArray.mk (Array.mk [])))),Seg.one (.v (.string (match World.cell? s_1.1 (Addr.mk 0 3 none)with|some (Value.string s)=>s|x=>ByteArray.mk (Array.mk [])))),Seg.one (.v (.string (match World.cell? s_1.1 (Addr.mk 0 4 none)with|some (Value.string s)=>s|x=>ByteArray.mk (Array.mk [])))),Seg.one (.v (.string (match World.cell? s_1.1 (Addr.mk 0 5 none)with|some (Value.string s)=>s|x=>ByteArray.mk (Array.mk []))))]) (SA.a [Seg.one (.v (.string (match World.cell? s'.1 (Addr.mk 0 0 none)with|some (Value.string s)=>s|x=>ByteArray.mk (Array.mk [])))),Seg.one (.v (.string (match World.cell? s'.1 (Addr.mk 0 1 none)with|some (Value.string s)=>s|x=>ByteArray.mk (Array.mk [])))),Seg.one (.v (.string (match World.cell? s'.1 (Addr.mk 0 2 none)with|some (Value.string s)=>s|x=>ByteArray.mk (Array.mk [])))),Seg.one (.v (.string (match World.cell? s'.1 (Addr.mk 0 3 none)with|some (Value.string s)=>s|x=>ByteArray.mk (Array.mk [])))),Seg.one (.v (.string (match World.cell? s'.1 (Addr.mk 0 4 none)with|some (Value.string s)=>s|x=>ByteArray.mk (Array.mk [])))),Seg.one (.v (.string (match World.cell? s'.1 (Addr.mk 0 5 none)with|some (Value.string s)=>s|x=>ByteArray.mk (Array.mk []))))])/\eS (aI (IntKind.wrap .i64 ((↑s_1.6:Int)+(1:Int)))) (aI ↑s'.6)/\True)/\[SB.cells [sI 0,sI 0,sI 0] 23,SB.cells [sI (Qj (ByteArray.data (PaG.s s_1)).1 s_1.6),sI s_1.4,sI s_1.5] 23]=[SB.cells [sI 0,sI 0,sI 0] 23,SB.cells [sI (Qj (ByteArray.data (PaG.s s')).1 s'.6),sI s'.4,sI s'.5] 23])/\6-s'.6<6-s_1.6 else bif bif s_1.3 then false else true then endP Qn [SA.c (.v (.string s))] (SV.t [SA.a [sI 0,sI 0,sI 0],SA.c (.v (.iface 46 (Value.int .i64 (3:Int))))]) []else True/\bif bif opOk (Qj (ByteArray.data (PaG.s s_1)).1 s_1.6) s_1.4 s_1.5 then false else true then endP Qn [SA.c (.v (.string s))] (SV.t [SA.a [sI 0,sI 0,sI 0],SA.c (.v (.iface 46 (Value.int .i64 (3:Int))))]) []else endP Qn [SA.c (.v (.string s))] (SV.t [SA.a [sI (Qj (ByteArray.data (PaG.s s_1)).1 s_1.6),sI s_1.4,sI s_1.5],SA.c (.v Value.nilIface)]) []) (by kernel_rfl) ?_
 have hs:s.data.toList.length=s.size:=Array.length_toList
 have l1:=QdO 61 s.data.toList
 have l2:=QdO 58 s.data.toList
 have l3:=QdO 58 (Lib.cut s.data.toList [61]).1
 have hn:∀i,i<6->sOld w 0 i=bsV (nameL i):=fun i hi=>by unfold sOld;rw[hL.nam i hi]
 have nm:∀i,i<6->w.cell? ⟨0,0+i,none⟩=some (.string (sOld w 0 (0+i))):=fun i hi=>by rw[Nat.zero_add,hn i hi];exact hL.nam i hi
 refine⟨by omega,XJ (fun h1=>⟨by rw[QcO];omega,by rw[QcO];omega,XJ (fun h2=>XJ (fun h3=>⟨by rw[QcO];omega,⟨rfl,nm⟩,⟨⟨w,bsV (Lib.cut (Lib.cut s.data.toList [61]).1 [58]).1,numB (Lib.cut (Lib.cut s.data.toList [61]).1 [58]).2.1,numV (Lib.cut (Lib.cut s.data.toList [61]).1 [58]).2.1,numV (Lib.cut s.data.toList [61]).2.1,0,by decide,hn,?r1⟩,⟨rfl,rfl,rfl,rfl,rfl,rfl,trivial⟩,rfl⟩,?b1⟩) (fun h3=>⟨⟨rfl,nm⟩,⟨⟨w,bsV (Lib.cut s.data.toList [61]).1,numB (Lib.cut s.data.toList [61]).2.1,0,numV (Lib.cut s.data.toList [61]).2.1,0,by decide,hn,?r2⟩,⟨rfl,rfl,rfl,rfl,rfl,rfl,trivial⟩,rfl⟩,?b2⟩)) (fun h2=>⟨⟨rfl,nm⟩,⟨⟨w,bsV (Lib.cut s.data.toList [61]).1,numB (Lib.cut s.data.toList [61]).2.1,0,numV (Lib.cut s.data.toList [61]).2.1,0,by decide,hn,?r3⟩,⟨rfl,rfl,rfl,rfl,rfl,rfl,trivial⟩,rfl⟩,?b3⟩)⟩) (fun h1=>⟨by omega,XJ (fun h2=>⟨by rw[QcO];omega,⟨rfl,nm⟩,⟨⟨w,bsV (Lib.cut s.data.toList [58]).1,numB (Lib.cut s.data.toList [58]).2.1,numV (Lib.cut s.data.toList [58]).2.1,0,0,by decide,hn,?r4⟩,⟨rfl,rfl,rfl,rfl,rfl,rfl,trivial⟩,rfl⟩,?b4⟩) (fun h2=>⟨⟨rfl,nm⟩,⟨⟨w,s,true,0,0,0,by decide,hn,?r5⟩,⟨rfl,rfl,rfl,rfl,rfl,rfl,trivial⟩,rfl⟩,?b5⟩)⟩)⟩
 case r1=>unfold XM headOf okOf Qcl;simp only[h1,h2,h3,if_true,Bool.and_self]
 case r2=>unfold XM headOf okOf Qcl;simp only[h1,h2,h3,if_true,Bool.and_false,Bool.false_eq_true,if_false]
 case r3=>unfold XM headOf okOf Qcl;simp only[h1,h2,if_true,Bool.false_and,Bool.false_eq_true,if_false]
 case r4=>unfold XM headOf okOf Qcl;simp only[h1,h2,if_true,Bool.and_self,Bool.false_eq_true,if_false]
 case r5=>unfold XM headOf okOf Qcl;simp only[h1,h2,Bool.false_and,Bool.false_eq_true,if_false]
 all_goals
  rintro⟨V,s2,ok,key,x,i,hi,hn,hr⟩
  dsimp only
  rw[Int.toNat_natCast]
  refine Qfx (fun hlt=>?_) (fun hge=>?_)
  · have hi':i<6:=by omega
    refine⟨⟨by omega,hlt⟩,XJ (fun hb=>?_) (fun hb=>?_)⟩
    · have hb:((strG (Qcn V 0 0 6) i).toList==s2.toList)=true:=hb
      rw[QcT hn hi',Qe9]at hb
      have hw:IntKind.wrap .i64 (1+(i:Int))=Qj s2.data.toList (i+1):=by rw[Qbq,if_pos (of_decide_eq_true hb),Qee (by omega) (by omega)]
      exact⟨⟨V,s2,ok,key,x,i+1,hi',hn,hr⟩,⟨⟨rfl,rfl,rfl,rfl,rfl,svI (sucI (by omega)),trivial⟩,congrArg (fun q=>[opSB 0 0 0,opSB q key x]) hw⟩,by dsimp only;omega⟩
    · have hb:((strG (Qcn V 0 0 6) i).toList==s2.toList)=false:=hb
      rw[QcT hn hi',Qe9]at hb
      have hw:Qj s2.data.toList i=Qj s2.data.toList (i+1):=by rw[Qbq,if_neg (of_decide_eq_false hb)]
      exact⟨⟨V,s2,ok,key,x,i+1,hi',hn,hr⟩,⟨⟨rfl,rfl,rfl,rfl,rfl,svI (sucI (by omega)),trivial⟩,congrArg (fun q=>[opSB 0 0 0,opSB q key x]) hw⟩,by dsimp only;omega⟩
  · obtain rfl:i=6:=by omega
    rw[Qef]
    refine Qex (fun hok=>⟨rfl,fun ρ=>?_⟩) (fun hok=>⟨trivial,Qex (fun ho=>⟨rfl,fun ρ=>?_⟩) (fun ho=>⟨rfl,fun ρ=>?_⟩)⟩)
    · rw[QbC hr ρ];subst hok;rfl
    · rw[QbC hr ρ];subst hok
      show _=(bif (true&&opOk (Xm s2.data.toList) key x)then SV.t [opV (Xm s2.data.toList) key x,nilE]else .t [opV 0 0 0,erV 3]).den ρ
      rw[ho];rfl
    · rw[QbC hr ρ];subst hok
      show _=(bif (true&&opOk (Xm s2.data.toList) key x)then SV.t [opV (Xm s2.data.toList) key x,nilE]else .t [opV 0 0 0,erV 3]).den ρ
      rw[ho];rfl
theorem Qe1 {k key x:Int}(h:opOk k key x=true):bits BinOp.or .u64 (bits BinOp.or .u64 (IntKind.wrap .u64 (IntKind.wrap .u64 k*281474976710656)) (IntKind.wrap .u64 (IntKind.wrap .u64 key*4294967296))) (IntKind.wrap .u64 x)=opW k key x:=by
 simp only[opOk,decide_eq_true_eq]at h
 rw[QeD (x:=k) (by omega) (by omega),QeD (x:=key) (by omega) (by omega),QeD (x:=x) (by omega) (by omega),QeD (x:=k*281474976710656) (by omega) (by omega),QeD (x:=key*4294967296) (by omega) (by omega)]
 obtain⟨a,rfl⟩:=Int.eq_ofNat_of_zero_le (show 0<=k by omega)
 obtain⟨b,rfl⟩:=Int.eq_ofNat_of_zero_le (show 0<=key by omega)
 obtain⟨c,rfl⟩:=Int.eq_ofNat_of_zero_le (show 0<=x by omega)
 have e1:(a:Int)*281474976710656=((a*281474976710656:Nat):Int):=by omega
 have e2:(b:Int)*4294967296=((b*4294967296:Nat):Int):=by omega
 have h1:=Nat.two_pow_add_eq_or_of_lt (i:=48) (b:=b*4294967296) (by omega) a
 have h2:=Nat.two_pow_add_eq_or_of_lt (i:=32) (b:=c) (by omega) (65536*a+b)
 have h3:a*281474976710656 ||| b*4294967296=4294967296*(65536*a+b):=by
  rw[show a*281474976710656=2^48*a by omega,<- h1];omega
 rw[e1,e2,QdR (by omega) (by omega),h3,QdR (by omega) (by omega),show 4294967296*(65536*a+b)=2^32*(65536*a+b) by omega,<- h2]
 unfold opW
 omega
theorem Qer {w:Int}(h:U64 w):getZ w 48 16=w/281474976710656%65536:=by
 obtain⟨x,rfl,hx⟩:=h.nat
 show ((x/281474976710656%65536:Nat):Int)=_
 omega
theorem Qfl {w:Int}(h:U64 w):getZ w 32 16=w/4294967296%65536:=by
 obtain⟨x,rfl,hx⟩:=h.nat
 show ((x/4294967296%65536:Nat):Int)=_
 omega
def Qcj:PCon:=⟨fun args=>match args with
 |[.a [.one (.v (.int .i64 k)),.one (.v (.int .i64 key)),.one (.v (.int .i64 x))]]=>True
 |_=>False,fun args=>match args with
 |[.a [.one (.v (.int .i64 k)),.one (.v (.int .i64 key)),.one (.v (.int .i64 x))]]=>.t [uA (opW k key x),nilE]
 |_=>sv undef,fun args=>match args with
 |[.a [.one (.v (.int .i64 k)),.one (.v (.int .i64 key)),.one (.v (.int .i64 x))]]=>some (opOk k key x,.t [uA 0,erV 1])
 |_=>none⟩
theorem Qgv:(Con.pure Qcj).holds Tryd.prog 9:=by
 refine Xe (Γ:=[(8,.pure Qa4)]) Tryd.func9 rfl (by kernel_rfl) Q2 QI (fun W=>.cons (Qbi W _) (.nil _ _ _)) Qcj (fun _=>[]) 400 ?_
 intro W args hp
 unfold Qcj at hp;dsimp only at hp;split at hp
 case h_2=>exact hp.elim
 rename_i k key x
 refine⟨rfl,?_⟩
 refine QbQ (q:=True/\bif bif opOk k key x then false else true then endP Qcj [SA.a [sI k,sI key,sI x]] (SV.t [aU 0,SA.c (.v (.iface 46 (Value.int .i64 (1:Int))))]) []else (0:Int)<=(48:Int)/\(0:Int)<=(32:Int)/\endP Qcj [SA.a [sI k,sI key,sI x]] (SV.t [aU (bits BinOp.or .u64 (bits BinOp.or .u64 (IntKind.wrap .u64 (IntKind.wrap .u64 k*(281474976710656:Int))) (IntKind.wrap .u64 (IntKind.wrap .u64 key*(4294967296:Int)))) (IntKind.wrap .u64 x)),SA.c (.v Value.nilIface)]) []) (by kernel_rfl) ?_
 refine⟨trivial,Qex (fun h=>⟨rfl,fun ρ=>?_⟩) (fun h=>⟨by decide,by decide,rfl,fun ρ=>?_⟩)⟩
 · show _=(bif opOk k key x then SV.t [uA (opW k key x),nilE]else .t [uA 0,erV 1]).den ρ
   rw[h];rfl
 · show _=(bif opOk k key x then SV.t [uA (opW k key x),nilE]else .t [uA 0,erV 1]).den ρ
   rw[h,Qe1 h];rfl
def Qdl:PCon:=⟨fun args=>match args with
 |[.c (.v (.int .u64 w))]=>U64 w
 |_=>False,fun args=>match args with
 |[.c (.v (.int .u64 w))]=>.t [opV (w/281474976710656%65536) (w/4294967296%65536) (w%4294967296),nilE]
 |_=>sv undef,fun args=>match args with
 |[.c (.v (.int .u64 w))]=>some (opOk (w/281474976710656%65536) (w/4294967296%65536) (w%4294967296),.t [opV 0 0 0,erV 3])
 |_=>none⟩
theorem ofO_con:(Con.pure Qdl).holds Tryd.prog 11:=by
 refine Xe (Γ:=[(8,.pure Qa4),(18,.pure Qdm)]) Tryd.func11 rfl (by kernel_rfl) Q2 QI (fun W=>.cons (Qbi W _) (.cons (Qfj W _) (.nil _ _ _))) Qdl (fun _=>[]) 400 ?_
 intro W args hp
 unfold Qdl at hp;dsimp only at hp;split at hp
 case h_2=>exact hp.elim
 rename_i w
 have hU:U64 w:=hp
 have h0:0<=w:=hp.1
 refine⟨rfl,?_⟩
 refine QbQ (q:=(U64 w/\true=true)/\(U64 w/\true=true)/\(U64 w/\true=true)/\True/\bif bif opOk (IntKind.wrap .i64 (getZ w (48:Int) (16:Int))) (IntKind.wrap .i64 (getZ w (32:Int) (16:Int))) (IntKind.wrap .i64 (getZ w (0:Int) (32:Int)))then false else true then endP Qdl [aU w] (SV.t [SA.a [sI 0,sI 0,sI 0],SA.c (.v (.iface 46 (Value.int .i64 (3:Int))))]) []else endP Qdl [aU w] (SV.t [SA.a [sI (IntKind.wrap .i64 (getZ w (48:Int) (16:Int))),sI (IntKind.wrap .i64 (getZ w (32:Int) (16:Int))),sI (IntKind.wrap .i64 (getZ w (0:Int) (32:Int)))],SA.c (.v Value.nilIface)]) []) (by kernel_rfl) ?_
 rw[Qer hU,Qfl hU,Qfk hU,Qee (x:=w/281474976710656%65536) (by omega) (by omega),Qee (x:=w/4294967296%65536) (by omega) (by omega),Qee (x:=w%4294967296) (by omega) (by omega)]
 refine⟨⟨hU,rfl⟩,⟨hU,rfl⟩,⟨hU,rfl⟩,trivial,Qex (fun h=>⟨rfl,fun ρ=>?_⟩) (fun h=>⟨rfl,fun ρ=>?_⟩)⟩
 · show _=(bif opOk (w/281474976710656%65536) (w/4294967296%65536) (w%4294967296)then SV.t [opV (w/281474976710656%65536) (w/4294967296%65536) (w%4294967296),nilE]else .t [opV 0 0 0,erV 3]).den ρ
   rw[h];rfl
 · show _=(bif opOk (w/281474976710656%65536) (w/4294967296%65536) (w%4294967296)then SV.t [opV (w/281474976710656%65536) (w/4294967296%65536) (w%4294967296),nilE]else .t [opV 0 0 0,erV 3]).den ρ
   rw[h];rfl
def Qdn:PCon:=⟨fun args=>match args with
 |[.a [.one (.v (.int .i64 a)),.one (.v (.int .i64 b))]]=>True
 |_=>False,fun args=>match args with
 |[.a [.one (.v (.int .i64 a)),.one (.v (.int .i64 b))]]=>.t [uA (ansW a b),nilE]
 |_=>sv undef,fun args=>match args with
 |[.a [.one (.v (.int .i64 a)),.one (.v (.int .i64 b))]]=>some (Qq a b,.t [uA 0,erV 1])
 |_=>none⟩
theorem anO_con:(Con.pure Qdn).holds Tryd.prog 14:=by
 refine Xe (Γ:=[(13,.pure QaM)]) Tryd.func14 rfl (by kernel_rfl) Q2 QI (fun W=>.cons (QbW W _) (.nil _ _ _)) Qdn (fun _=>[]) 400 ?_
 intro W args hp
 unfold Qdn at hp;dsimp only at hp;split at hp
 case h_2=>exact hp.elim
 rename_i a b
 refine⟨rfl,?_⟩
 refine QbQ (q:=True/\bif bif Qq a b then false else true then endP Qdn [SA.a [sI a,sI b]] (SV.t [aU 0,SA.c (.v (.iface 46 (Value.int .i64 (1:Int))))]) []else (0:Int)<=(32:Int)/\endP Qdn [SA.a [sI a,sI b]] (SV.t [aU (bits BinOp.or .u64 (IntKind.wrap .u64 (IntKind.wrap .u64 a*(4294967296:Int))) (IntKind.wrap .u64 b)),SA.c (.v Value.nilIface)]) []) (by kernel_rfl) ?_
 refine⟨trivial,Qex (fun h=>⟨rfl,fun ρ=>?_⟩) (fun h=>⟨by decide,rfl,fun ρ=>?_⟩)⟩
 · show _=(bif Qq a b then SV.t [uA (ansW a b),nilE]else .t [uA 0,erV 1]).den ρ
   rw[h];rfl
 · have hw:=Qgm ((QeA a b).1 h)
   rw[show (2:Int)^(min (32:Int).toNat 64)=4294967296 from rfl]at hw
   show _=(bif Qq a b then SV.t [uA (ansW a b),nilE]else .t [uA 0,erV 1]).den ρ
   rw[h,hw];rfl
def Qdk:PCon:=⟨fun args=>match args with
 |[.c (.v (.int .u64 w))]=>U64 w
 |_=>False,fun args=>match args with
 |[.c (.v (.int .u64 w))]=>.t [anV (w/4294967296%4294967296) (w%4294967296),nilE]
 |_=>sv undef,fun args=>match args with
 |[.c (.v (.int .u64 w))]=>some (Qq (w/4294967296%4294967296) (w%4294967296),.t [anV 0 0,erV 3])
 |_=>none⟩
theorem tdO_con:(Con.pure Qdk).holds Tryd.prog 15:=by
 refine Xe (Γ:=[(13,.pure QaM),(18,.pure Qdm)]) Tryd.func15 rfl (by kernel_rfl) Q2 QI (fun W=>.cons (QbW W _) (.cons (Qfj W _) (.nil _ _ _))) Qdk (fun _=>[]) 400 ?_
 intro W args hp
 unfold Qdk at hp;dsimp only at hp;split at hp
 case h_2=>exact hp.elim
 rename_i w
 refine⟨rfl,?_⟩
 refine QbQ (q:=(U64 w/\true=true)/\(U64 w/\true=true)/\True/\bif bif Qq (IntKind.wrap .i64 (getZ w (32:Int) (32:Int))) (IntKind.wrap .i64 (getZ w (0:Int) (32:Int)))then false else true then endP Qdk [aU w] (SV.t [SA.a [sI 0,sI 0],SA.c (.v (.iface 46 (Value.int .i64 (3:Int))))]) []else endP Qdk [aU w] (SV.t [SA.a [sI (IntKind.wrap .i64 (getZ w (32:Int) (32:Int))),sI (IntKind.wrap .i64 (getZ w (0:Int) (32:Int)))],SA.c (.v Value.nilIface)]) []) (by kernel_rfl) ?_
 have e1:=QgN hp
 have e2:=Qfk hp
 rw[e1,e2,Qee (by omega) (by omega),Qee (by omega) (by omega)]
 refine⟨⟨hp,rfl⟩,⟨hp,rfl⟩,trivial,Qex (fun h=>⟨rfl,fun ρ=>?_⟩) (fun h=>⟨rfl,fun ρ=>?_⟩)⟩
 · show _=(bif Qq (w/4294967296%4294967296) (w%4294967296)then SV.t [anV (w/4294967296%4294967296) (w%4294967296),nilE]else .t [anV 0 0,erV 3]).den ρ
   rw[h];rfl
 · show _=(bif Qq (w/4294967296%4294967296) (w%4294967296)then SV.t [anV (w/4294967296%4294967296) (w%4294967296),nilE]else .t [anV 0 0,erV 3]).den ρ
   rw[h];rfl
def Qbp:PCon:=⟨fun args=>match args with
 |[]=>True
 |_=>False,fun _=>sv (.bool true),fun _=>none⟩
theorem spell_con (W:World) (hL:OpLaid W):(Con.pure Qbp).holdsAt Tryd.prog W (fun _=>False) 7:=by
 refine Q8 (Γ:=[(10,.pure QcI),(12,.pure Qn),(9,.pure Qcj),(16,.pure Qfr)]) Tryd.func7 rfl (by kernel_rfl) Q2 QI
  (fun w hK=>.cons (QeV w (hL.kept hK)) (.cons (QeY w (hL.kept hK)) (.cons (Qgv w _) (.cons (QgA w (hL.kept hK)) (.nil _ _ _))))) Qbp (fun _=>[]) 2000 ?_
 intro w args hp hK
 unfold Qbp at hp;dsimp only at hp;split at hp
 case h_2=>exact hp.elim
 refine⟨rfl,?_⟩
 refine QbQ (q:=True/\6<=100000/\True/\True/\endP Qbp [] (SV.o (aB true)) []) (by kernel_rfl) ?_
 exact⟨trivial,by decide,trivial,trivial,rfl,fun ρ=>rfl⟩
theorem wfW {n:Int}(h:(Lit.int .u64 n).wf=true):U64 n:=by
 have:(0<=n/\n<=18446744073709551615):=by simpa [Lit.wf,IntKind.min,IntKind.max,IntKind.bits,IntKind.signed] using h
 exact⟨this.1,by omega⟩
theorem eq3_t (a b c:Int):(bif a==a then bif b==b then bif c==c then true else false else false else false)=true:=by simp
theorem eq3_f {a b c a' b' c':Int}(h:¬(a=a'/\b=b'/\c=c')):(bif a==a' then bif b==b' then bif c==c' then true else false else false else false)=false:=by
 by_cases h1:a=a'<;>by_cases h2:b=b'<;>by_cases h3:c=c'<;>simp_all
theorem eq2_t (a b:Int):(bif a==a then bif b==b then true else false else false)=true:=by simp
theorem eq2_f {a b a' b':Int}(h:¬(a=a'/\b=b')):(bif a==a' then bif b==b' then true else false else false)=false:=by
 by_cases h1:a=a'<;>by_cases h2:b=b'<;>simp_all
theorem Qc3 {k key x:Int}(h:opOk k key x=true):U64 (opW k key x)/\opW k key x/281474976710656%65536=k/\opW k key x/4294967296%65536=key/\opW k key x%4294967296=x:=by
 have h:=of_decide_eq_true h
 unfold opW U64
 omega
theorem opW_inj {k key x k' key' x':Int}(h:opOk k key x=true) (h':opOk k' key' x'=true) (e:opW k key x=opW k' key' x'):k=k'/\key=key'/\x=x':=by
 obtain⟨-,a,b,c⟩:=Qc3 h
 obtain⟨-,a',b',c'⟩:=Qc3 h'
 rw[e]at a b c
 exact⟨a.symm.trans a',b.symm.trans b',c.symm.trans c'⟩
theorem opW_of {w:Int}(h:U64 w):opW (w/281474976710656%65536) (w/4294967296%65536) (w%4294967296)=w:=by
 unfold opW;have h0:=h.1;have h1:=h.2;omega
theorem Qg2 {c v:Int}(h:Qq c v=true):U64 (ansW c v)/\ansW c v/4294967296%4294967296=c/\ansW c v%4294967296=v:=by
 have h:=of_decide_eq_true h
 unfold ansW U64
 omega
theorem ansW_back {w:Int}(h:U64 w):ansW (w/4294967296%4294967296) (w%4294967296)=w:=by
 unfold ansW;have h0:=h.1;have h1:=h.2;omega
theorem print_len {k key x:Int}(h:opOk k key x=true):(QF k key x).length<=40:=by
 have h:=of_decide_eq_true h
 have h1:=QaE (k-1).toNat
 have h2:(keyL key).length<=11:=by
  unfold keyL;split
  · have:=XF (n:=key) (by omega) (by omega);simp;omega
  · simp
 have h3:(valL x).length<=11:=by
  unfold valL;split
  · have:=XF (n:=x) (by omega) (by omega);simp;omega
  · simp
 unfold QF
 rw[List.length_append,List.length_append];omega
end
section
open Go.ChangeShapes Go.WideShapes Go.RowKit Go.Lib
theorem lOwn:ownKnob Tryd.prog.godebug=none:=by kernel_rfl
abbrev laidL:List (String × DataW Unit):=[("math/bits.deBruijn32tab",Rows.laid_math_bits_deBruijn32tab),("math/bits.deBruijn64tab",Rows.laid_math_bits_deBruijn64tab),("internal/strconv.uint64pow10",Rows.laid_internal_strconv_uint64pow10),("strconv.ErrRange",Rows.laid_strconv_ErrRange),("strconv.ErrSyntax",Rows.laid_strconv_ErrSyntax),("gristmill/op.names",Rows.laid_gristmill_op_names),("gristmill/op.codes",Rows.laid_gristmill_op_codes)]
theorem laid_one {P:Program}{l:List (String × DataW Unit)}{w:World}{n:String}{d:DataW Unit}(h:laidMet P l w) (hf:l.filter (fun x=>x.1==n)=[(n,d)]):
 ∃g t cs fuel p,P.globalNamed n=some g/\(P.globals[g]?).map (·.type)=some t/\w.var? P n=some cs/\DataW.trod (fun _=>()) P w 0 (fun _=>true) false fuel t cs.toList=some (d,p):=by
 have:=h.filter (fun x=>x.1==n)
 rw[hf]at this
 obtain⟨ps,⟨g,t,cs,fuel,p,q,h1,h2,h3,h4,-,-⟩,-⟩:=this
 exact⟨g,t,cs,fuel,p,h1,h2,h3,h4⟩
theorem cells_of_strs {H:Type}{enc:TypeId × Value->H}{P:Program}{w:World}{base:Nat}{sp:Nat->Bool}{held:Bool}{fuel:Nat}{t e:TypeId}{n:Nat}{cs:List Value}{zs:List (List UInt8)}{p:List MemPlace}
 (ht:P.underlying t=some (.array n e)) (he:P.underlying e=some .string) (hce:P.cellsOf e=1)
 (h:DataW.trod enc P w base sp held fuel t cs=some (.agg (zs.map fun z=>.lit (.string z)),p)) (i:Nat) (z:List UInt8) (hz:zs[i]?=some z):cs[i]?=some (.string ⟨z.toArray⟩):=by
 cases fuel with
 |zero=>simp[DataW.trod]at h
 |succ fuel=>
  simp only[DataW.trod,ht,hce,Nat.mul_one]at h
  split at h
  · rename_i hl
    obtain⟨xs,hm,hx⟩:=Option.map_eq_some_iff.1 h
    have hxs:xs.map (·.1)=zs.map fun z=>(DataW.lit (.string z):DataW H):=by
     have:=congrArg Prod.fst hx
     simpa using this
    have hxl:xs.length=n:=by simpa using mapM_length hm
    have hzl:zs.length=n:=by
     have:=congrArg List.length hxs
     simp at this
     omega
    have hi:i<n:=by
     have:=(List.getElem?_eq_some_iff.1 hz).1
     omega
    obtain⟨b,hb,hf⟩:=mapM_at hm i i (by simp[hi])
    obtain⟨s,hc,hq,_⟩:=DataW.trod_string he hf
    have h1:cs[i]?=some (.string s):=by
     have:=congrArg (·[0]?) hc
     simpa [List.getElem?_take,List.getElem?_drop] using this
    have h2:(xs.map (·.1))[i]?=some (DataW.lit (.string s.data.toList):DataW H):=by simp[hb,hq]
    rw[hxs,List.getElem?_map,hz]at h2
    have h3:z=s.data.toList:=by simpa using h2
    rw[h1,h3]
  · cases h
theorem opLaid_of {W:World}(h:laidMetH Tryd.prog laidL W) (hsh:W.ShapedOpen Tryd.prog):OpLaid W:=by
 have h1:laidMet Tryd.prog laidL W:=(laidMetH_iff.1 h).1
 refine⟨?_,?_,?_,?_,?_,Tryd.laysM145.s1_3 W hsh⟩
 · have h2:=h1.filter (fun x=>x.1 == "internal/strconv.uint64pow10")
   rw[show laidL.filter (fun x=>x.1 == "internal/strconv.uint64pow10")=[("internal/strconv.uint64pow10",tabData .u64 pow10Tab)] by kernel_rfl]at h2
   exact tabIs_of_head (show Tryd.prog.globalNamed "internal/strconv.uint64pow10" =some 3 by kernel_rfl) (by kernel_rfl) Tryd.underlying78 Tryd.underlying26 (by kernel_rfl) (by kernel_rfl) h2
 · obtain⟨g,t,cs,fuel,p,hg,ht,hv,hd⟩:=laid_one h1 (show laidL.filter (fun x=>x.1 == "strconv.ErrSyntax")=[("strconv.ErrSyntax",Rows.laid_strconv_ErrSyntax)] by kernel_rfl)
   obtain rfl:=Option.some.inj ((show Tryd.prog.globalNamed "strconv.ErrSyntax" =some 4 by kernel_rfl).symm.trans hg)
   obtain rfl:=Option.some.inj ((show (Tryd.prog.globals[4]?).map (·.type)=some 28 by kernel_rfl).symm.trans ht)
   obtain⟨f',u,v,hc,-,-⟩:=iface_of_trod Tryd.underlying28 hd
   refine⟨u,v,?_⟩
   rw[hv,show cs= #[.iface u v] by rw[<- Array.toArray_toList (xs:=cs),hc]]
 · obtain⟨g,t,cs,fuel,p,hg,ht,hv,hd⟩:=laid_one h1 (show laidL.filter (fun x=>x.1 == "strconv.ErrRange")=[("strconv.ErrRange",Rows.laid_strconv_ErrRange)] by kernel_rfl)
   obtain rfl:=Option.some.inj ((show Tryd.prog.globalNamed "strconv.ErrRange" =some 5 by kernel_rfl).symm.trans hg)
   obtain rfl:=Option.some.inj ((show (Tryd.prog.globals[5]?).map (·.type)=some 28 by kernel_rfl).symm.trans ht)
   obtain⟨f',u,v,hc,-,-⟩:=iface_of_trod Tryd.underlying28 hd
   refine⟨u,v,?_⟩
   rw[hv,show cs= #[.iface u v] by rw[<- Array.toArray_toList (xs:=cs),hc]]
 · intro i hi
   obtain⟨g,t,cs,fuel,p,hg,ht,hv,hd⟩:=laid_one h1 (show laidL.filter (fun x=>x.1 == "gristmill/op.names")=[("gristmill/op.names",Rows.laid_gristmill_op_names)] by kernel_rfl)
   obtain rfl:=Option.some.inj ((show Tryd.prog.globalNamed "gristmill/op.names" =some 0 by kernel_rfl).symm.trans hg)
   obtain rfl:=Option.some.inj ((show (Tryd.prog.globals[0]?).map (·.type)=some 48 by kernel_rfl).symm.trans ht)
   have hz:=cells_of_strs (zs:=[nameL 0,nameL 1,nameL 2,nameL 3,nameL 4,nameL 5]) Tryd.underlying48 Tryd.underlying9 (by kernel_rfl) hd i (nameL i) (by
    rcases (show i=0\/i=1\/i=2\/i=3\/i=4\/i=5 by omega)with rfl|rfl|rfl|rfl|rfl|rfl<;>rfl)
   rw[World.var?_cell hg hv i,<- Array.getElem?_toList];exact hz
 · intro i hi
   obtain⟨g,t,cs,fuel,p,hg,ht,hv,hd⟩:=laid_one h1 (show laidL.filter (fun x=>x.1 == "gristmill/op.codes")=[("gristmill/op.codes",Rows.laid_gristmill_op_codes)] by kernel_rfl)
   obtain rfl:=Option.some.inj ((show Tryd.prog.globalNamed "gristmill/op.codes" =some 1 by kernel_rfl).symm.trans hg)
   obtain rfl:=Option.some.inj ((show (Tryd.prog.globals[1]?).map (·.type)=some 55 by kernel_rfl).symm.trans ht)
   have hz:=cells_of_strs (zs:=[codeL 0,codeL 1,codeL 2,codeL 3,codeL 4]) Tryd.underlying55 Tryd.underlying9 (by kernel_rfl) hd i (codeL i) (by
    rcases (show i=0\/i=1\/i=2\/i=3\/i=4 by omega)with rfl|rfl|rfl|rfl|rfl<;>rfl)
   rw[World.var?_cell hg hv i,<- Array.getElem?_toList];exact hz
noncomputable def laidWorld (os:Os):World:=World.laidAll Tryd.prog os laidL
theorem laidWorld_met (os:Os) (args:Array Value):laidMetH Tryd.prog laidL ((laidWorld os).forCall (fun _ _=>0) ⟨#[],args,[]⟩).memory:=
 laidMetH_of_parts (laidMet_laidAll args (by kernel_rfl) (by kernel_rfl)) (by kernel_rfl)
theorem handed_laid {H:Type}{enc:TypeId × Value->H}{a:Assume}{C:Checked}{os:Os}{f:FuncId}{fn:Func}{s:ChangeSpec}{conds:List PathCond}{apart fresh handsOn again:Bool}{X:World->Array Value->Prop}
 (hX:∀(w w':World) (args:Array Value),w.heap=w'.heap->X w args->X w' args)
 (own:ownKnob C.prog.godebug=none) (started:os.Started) (noInit:C.prog.inits.idxOf? f=none) (hfn:C.prog.funcs[f]?=some fn)
 (witness:∃(w:World) (tape:Tape) (i:Input),w.os=os/\(w.forCall tape i).Shaped C.prog/\i.vars=[]/\Input.okWide C.prog (w.forCall tape i) .any w.heap.size f i /\
  ((s.pre enc C.prog fn conds apart (w.forCall tape i).memory i.args/\X (w.forCall tape i).memory i.args)/\sizedMet enc C.prog fn (OpenSpec.ofChange s) apart (w.forCall tape i).memory i.args)/\a.holds C.prog (lone (Frame.enter C.prog f i.args .normal) [] (w.forCall tape i)))
 (contract:∀(W:World) (base:Nat) (args:Array Value) (ds gs:List (DataW H)) (before:List MemPlace),
  (∀(j:Nat) t v,fn.params[j]?=some t->args[j]?=some v->Value.okWide C.prog W .any base t v) ->
  DataW.Whole enc C.prog fn.params.toList s.vars apart W args.toList ds gs before->X W args->W.ShapedOpen C.prog ->
  Calls C.prog f args W fun e W'=>∃v,e=.returned v/\s.post enc C.prog fn apart fresh handsOn again W args v W'):
 ReturnsInHanded a C os f .any (fun w args=>(s.pre enc C.prog fn conds apart w args/\X w args)/\sizedMet enc C.prog fn (OpenSpec.ofChange s) apart w args) (s.post enc C.prog fn apart fresh handsOn again):=by
 refine returnsInHanded_of_calls own started noInit witness ?_
 intro w tape i _ hs _ hok hpre _
 obtain⟨_,_,_,fn',h1,_,_,_,_,hv⟩:=hok
 obtain rfl:fn'=fn:=Option.some.inj (h1.symm.trans hfn)
 obtain⟨⟨⟨ds,gs,before,h2,_⟩,h3⟩,_⟩:=hpre
 refine (contract (w.forCall tape i) w.heap.size i.args ds gs before hv (DataW.Whole.of_heap (w':=w.forCall tape i) (by rfl) h2) (hX _ _ _ (by rfl) h3) hs).mono fun e W' ⟨v,he,hp⟩=>?_
 subst he
 exact ChangeSpec.post_blind hp
end
section
open Go.ChangeShapes Go.WideShapes Go.Deep Go.ChangeAt
theorem one_int {H:Type}{enc:TypeId × Value->H}{w:World}{base:Nat}{spare:Nat->Bool}{held:Bool}{n:Nat}{t:TypeId}{k:IntKind}{v:Value}{y:Option (DataW H × List MemPlace)}(ht:Tryd.prog.underlying t=some (.int k))
 (h:DataW.trod enc Tryd.prog w base spare held n t [v]=y) (hy:y.isSome):∃z,v=.int k z/\(Lit.int k z).wf=true:=by
 obtain⟨x,rfl⟩:=Option.isSome_iff_exists.1 hy
 obtain⟨z,h1,-,h2⟩:=DataW.trod_int ht h
 simp at h1
 exact⟨z,h1,h2⟩
set_option maxRecDepth 20000 in
theorem cellsOp_of {H:Type}{enc:TypeId × Value->H}{w:World}{base:Nat}{spare:Nat->Bool}{held:Bool}{n:Nat}{cs:List Value}{y:Option (DataW H × List MemPlace)}
 (h:DataW.trod enc Tryd.prog w base spare held n 23 cs=y) (hy:y.isSome):
 ∃z0 z1 z2:Int,cs=[.int .i64 z0,.int .i64 z1,.int .i64 z2]/\(Lit.int .i64 z0).wf=true/\(Lit.int .i64 z1).wf=true/\(Lit.int .i64 z2).wf=true:=by
 obtain⟨x,rfl⟩:=Option.isSome_iff_exists.1 hy
 obtain⟨ys,n',-,-,hlen,hyl,hf⟩:=DataW.trod_struct Tryd.underlying23 h
 have hc:Tryd.prog.cellsOf 23=3:=by kernel_rfl
 have hc_int:Tryd.prog.cellsOf 3=1:=by kernel_rfl
 rw[hc]at hlen
 match cs,hlen with
 |[v0,v1,v2],_=>
  have hyl':ys.length=3:=hyl
  have g0:DataW.trod enc Tryd.prog w base spare held n' 3 (([v0,v1,v2].drop 0).take (Tryd.prog.cellsOf 3))=ys[0]?:=hf 0 _ rfl
  rw[hc_int]at g0
  dsimp only[List.drop,List.take]at g0
  have g1:DataW.trod enc Tryd.prog w base spare held n' 3 (([v0,v1,v2].drop 1).take (Tryd.prog.cellsOf 3))=ys[1]?:=hf 1 _ rfl
  rw[hc_int]at g1
  dsimp only[List.drop,List.take]at g1
  have g2:DataW.trod enc Tryd.prog w base spare held n' 3 (([v0,v1,v2].drop 2).take (Tryd.prog.cellsOf 3))=ys[2]?:=hf 2 _ rfl
  rw[hc_int]at g2
  dsimp only[List.drop,List.take]at g2
  obtain⟨z0,rfl,w0⟩:=one_int Tryd.underlying3 g0 (by simp[hyl'])
  obtain⟨z1,rfl,w1⟩:=one_int Tryd.underlying3 g1 (by simp[hyl'])
  obtain⟨z2,rfl,w2⟩:=one_int Tryd.underlying3 g2 (by simp[hyl'])
  exact⟨z0,z1,z2,rfl,w0,w1,w2⟩
set_option maxRecDepth 20000 in
theorem aggOp_of {H:Type}{enc:TypeId × Value->H}{w:World}{base b0:Nat}{spare:Nat->Bool}{held:Bool}{v:Value}{d:DataW H}{p:List MemPlace}
 (hv:Value.okWide Tryd.prog w .any b0 23 v) (h:DataW.Trod enc Tryd.prog w base spare held 23 v d p):
 ∃z0 z1 z2:Int,v=.agg #[.int .i64 z0,.int .i64 z1,.int .i64 z2]/\(Lit.int .i64 z0).wf=true/\(Lit.int .i64 z1).wf=true/\(Lit.int .i64 z2).wf=true:=by
 obtain⟨cs,rfl,hs⟩:=okWide_struct Tryd.underlying23 hv
 obtain⟨fuel,hf⟩:=h
 obtain⟨z0,z1,z2,hc,w0,w1,w2⟩:=cellsOp_of hf (by rfl)
 refine⟨z0,z1,z2,?_,w0,w1,w2⟩
 have:cs.toList=[.int .i64 z0,.int .i64 z1,.int .i64 z2]:=hc
 rw[<- Array.toArray_toList (xs:=cs),this]
section
variable {H:Type}{enc:TypeId × Value->H}{w:World}{base b0:Nat}{spare:Nat->Bool}{held:Bool}{d0 d:DataW H}{p0 p:List MemPlace}
theorem cellsAns_of {n:Nat}{cs:List Value}{y:Option (DataW H × List MemPlace)}(h:DataW.trod enc Tryd.prog w base spare held n 39 cs=y) (hy:y.isSome):
 ∃z0 z1:Int,cs=[.int .i64 z0,.int .i64 z1]/\(Lit.int .i64 z0).wf=true/\(Lit.int .i64 z1).wf=true:=by
 obtain⟨x,rfl⟩:=Option.isSome_iff_exists.1 hy
 obtain⟨ys,n',-,-,hlen,hyl,hf⟩:=DataW.trod_struct Tryd.underlying39 h
 have hc:Tryd.prog.cellsOf 39=2:=by kernel_rfl
 have hc_int:Tryd.prog.cellsOf 3=1:=by kernel_rfl
 rw[hc]at hlen
 match cs,hlen with
 |[v0,v1],_=>
  have hyl':ys.length=2:=hyl
  have g0:DataW.trod enc Tryd.prog w base spare held n' 3 (([v0,v1].drop 0).take (Tryd.prog.cellsOf 3))=ys[0]?:=hf 0 _ rfl
  rw[hc_int]at g0
  dsimp only[List.drop,List.take]at g0
  have g1:DataW.trod enc Tryd.prog w base spare held n' 3 (([v0,v1].drop 1).take (Tryd.prog.cellsOf 3))=ys[1]?:=hf 1 _ rfl
  rw[hc_int]at g1
  dsimp only[List.drop,List.take]at g1
  obtain⟨z0,rfl,w0⟩:=one_int Tryd.underlying3 g0 (by simp[hyl'])
  obtain⟨z1,rfl,w1⟩:=one_int Tryd.underlying3 g1 (by simp[hyl'])
  exact⟨z0,z1,rfl,w0,w1⟩
theorem aggAns_of {v:Value}(hv:Value.okWide Tryd.prog w .any b0 39 v) (h:DataW.Trod enc Tryd.prog w base spare held 39 v d p):
 ∃z0 z1:Int,v=.agg #[.int .i64 z0,.int .i64 z1]/\(Lit.int .i64 z0).wf=true/\(Lit.int .i64 z1).wf=true:=by
 obtain⟨cs,rfl,hs⟩:=okWide_struct Tryd.underlying39 hv
 obtain⟨fuel,hf⟩:=h
 obtain⟨z0,z1,hc,w0,w1⟩:=cellsAns_of hf (by rfl)
 refine⟨z0,z1,?_,w0,w1⟩
 have:cs.toList=[.int .i64 z0,.int .i64 z1]:=hc
 rw[<- Array.toArray_toList (xs:=cs),this]
end
end
end Go.Proofs.YthenelknbfjpeaaDoor
