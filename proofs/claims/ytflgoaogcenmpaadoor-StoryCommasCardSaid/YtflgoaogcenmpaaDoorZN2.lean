/- What the proof leans on, gathered. -/
import Derived.Orders
import Derived.Laws.Entries
import Derived.Test.YtflgoaogcenmpaaDoorProg
import Derived.Lib.IndexMore
import Derived.Lib.AtoiAll
import Derived.Lib.ItoaNum
import Derived.Test.YtflgoaogcenmpaaDoorShl
import Derived.Lib.LaidTab
import Derived.Lib.AppendIntMem
import Derived.Lib.Hide
import Derived.Lib.Join
import Derived.Shelf.Spec.SlicesInsertGrow
import Derived.Shelf.Spec.SlicesGrow
import Derived.Test.YtflgoaogcenmpaaDoorRows
import Derived.ChangeVars
import Derived.RowKit
import Derived.LaidLaws
import Derived.LaidSub
import Derived.LaidHandle
import Derived.Lay
import Derived.HandedShaped
import Derived.Deep.Slices
import Derived.Deep.Fields
import Derived.ChangeSame
import Derived.ProofKit
import Derived.Handed
import Derived.Test.YtflgoaogcenmpaaDoorZN1
namespace Go.Proofs.YtflgoaogcenmpaaDoor
set_option linter.unusedVariables false
set_option maxRecDepth 100000
set_option maxHeartbeats 8000000
section
open Go.RowKit
def SC.ren (f:Nat->Nat):SC->SC
 |.p b off=>.p (f b) off
 |.e b off ix=>.e (f b) off ix
 |.s b off n c=>.s (f b) off n c
 |.i t b off=>.i t (f b) off
 |.o b n c=>.o (f b) n c
 |.er b sz ix g=>.er (f b) sz ix g
 |.so b lo sz n c nn=>.so (f b) lo sz n c nn
 |.fn g cs=>.fn g (cs.map fun q=>(f q.1,q.2))
 |.m b=>.m (f b)
 |x=>x
def Seg.ren (f:Nat->Nat):Seg->Seg
 |.one x=>.one (x.ren f)
 |s=>s
def SA.ren (f:Nat->Nat):SA->SA
 |.c x=>.c (x.ren f)
 |.a l=>.a (l.map (Seg.ren f))
def SV.ren (f:Nat->Nat):SV->SV
 |.o x=>.o (x.ren f)
 |.t l=>.t (l.map (SA.ren f))
def SB.ren (f:Nat->Nat):SB->SB
 |.cells l t=>.cells (l.map (Seg.ren f)) t
 |b=>b
theorem SC.ren_den (ρ:Nat->Nat) (f:Nat->Nat) (x:SC):(x.ren f).den ρ=x.den (fun i=>ρ (f i)):=by
 cases x with
 |fn g cs=>simp only[SC.ren,SC.den,List.map_map];rfl
 |_=>rfl
theorem Qba (ρ:Nat->Nat) (f:Nat->Nat):∀(l:List Seg),Qa ρ (l.map (Seg.ren f))=Qa (fun i=>ρ (f i)) l
 |[]=>rfl
 |.one x::r=>by simp only[List.map_cons,Qa,Seg.ren,Seg.den,SC.ren_den,Qba ρ f r]
 |.ints k n g::r=>by simp only[List.map_cons,Qa,Seg.ren,Seg.den,Qba ρ f r]
theorem SA.ren_den (ρ:Nat->Nat) (f:Nat->Nat) (x:SA):(x.ren f).den ρ=x.den (fun i=>ρ (f i)):=by
 cases x with
 |c x=>exact SC.ren_den ρ f x
 |a l=>simp only[SA.ren,SA.den,Qba]
theorem SV.ren_den (ρ:Nat->Nat) (f:Nat->Nat) (x:SV):(x.ren f).den ρ=x.den (fun i=>ρ (f i)):=by
 cases x with
 |o x=>exact SA.ren_den ρ f x
 |t l=>simp only[SV.ren,SV.den,List.map_map];congr 2;exact List.map_congr_left fun y _=>SA.ren_den ρ f y
theorem SB.ren_den (ρ:Nat->Nat) (f:Nat->Nat) (i:Nat) (x:SB):denB ρ (f i) (x.ren f)=denB (fun i=>ρ (f i)) i x:=by
 cases x with
 |cells l t=>simp only[SB.ren,denB,Qba]
 |_=>rfl
def ofL (π:List Nat):Nat->Nat:=fun i=>π.getD i 0
structure PCon where
 pre:List SA->Prop
 val:List SA->SV
 two:List SA->Option (Bool × SV)
structure MCon where
 σ:Type
 χ:Type
 pre:σ->Prop
 args:σ->List SA
 mem:σ->List SB
 ok:σ->χ->Prop
 val:σ->χ->SV
 mem':σ->χ->List SB
 k:Nat
 len:Nat
 det:Option χ
 find:List SA->List SB->Option (List Nat)
structure RCon where
 σ:Type
 χ:Type
 pre:σ->Prop
 args:σ->List SA
 mem:σ->List SB
 ok:σ->χ->Prop
 val:σ->χ->SV
 new:σ->χ->List SB
 len:Nat
 det:Option χ
 find:List SA->List SB->Option (List Nat)
inductive Con where
 |pure (c:PCon)
 |mem (c:MCon)
 |rd (c:RCon)
 |inl (fn:Func) (c:Code)
def PCon.out (c:PCon) (args:List SA):SV:=match c.two args with
 |none=>c.val args
 |some (b,v)=>bif b then c.val args else v
abbrev Gam:=List (Nat × Con)
def lkG:Gam->Nat->Option Con
 |[],_=>none
 |(t,i)::r,u=>bif t.beq u then some i else lkG r u
def isNo {α:Type}:Option α->Bool
 |none=>true
 |some _=>false
def QfM (args:List SA):Con->Bool
 |.mem c=>!isNo (c.find args [])
 |.rd c=>!isNo (c.find args [])
 |_=>true
def lkG1:Gam->Nat->List SA->Option Con
 |[],_,_=>none
 |(t,i)::r,u,a=>bif t.beq u&&QfM a i then some i else lkG1 r u a
def lkGA (Γ:Gam) (u:Nat) (a:List SA):Option Con:=match lkG1 Γ u a with
 |some c=>some c
 |none=>lkG Γ u
def Con.holdsAt (P:Program) (w0:World) (S:Nat->Prop) (f:FuncId):Con->Prop
 |.pure c=>XK P f=true/\∀(ρ:Nat->Nat) (args:List SA) (w:World),c.pre args->Kept S w0 w ->
  Calls P f (args.map (SA.den ρ)).toArray w fun e w'=>e=.returned ((c.out args).den ρ)/\Below w.heap.size w w'
 |.mem c=>XK P f=true/\(∀x0,c.det=some x0->∀s x,x=x0/\c.ok s x0)/\∀(ρ:Nat->Nat) (s:c.σ) (w:World),c.pre s->Kept S w0 w->Mem w (feet (denM ρ 0 (c.mem s))) (denM ρ 0 (c.mem s)) w ->
  Calls P f ((c.args s).map (SA.den ρ)).toArray w fun e w'=>∃x ρ',c.ok s x/\(∀i,i<c.k->ρ' i=ρ i)/\(c.mem' s x).length=c.len/\e=.returned ((c.val s x).den ρ')/\Mem w (feet (denM ρ 0 (c.mem s))) (denM ρ' 0 (c.mem' s x)) w'
 |.rd c=>XK P f=true/\(∀x0,c.det=some x0->∀s x,x=x0/\c.ok s x0)/\∀(ρ:Nat->Nat) (s:c.σ) (w:World),c.pre s->Kept S w0 w->(∀e∈denM ρ 0 (c.mem s),e.at w) ->
  Calls P f ((c.args s).map (SA.den ρ)).toArray w fun e w'=>∃x ρ',c.ok s x/\(∀i,i<(c.mem s).length->ρ' i=ρ i)/\(c.new s x).length=c.len/\e=.returned ((c.val s x).den ρ')/\Mem w (fun _=>False) (denM ρ' (c.mem s).length (c.new s x)) w'
 |.inl fn c=>XK P f=true/\P.funcs[f]?=some fn/\fn.body=some c
def GamOk (P:Program) (w0:World) (S:Nat->Prop) (Γ:Gam):Prop:=∀f a c,lkGA Γ f a=some c->c.holdsAt P w0 S f
theorem GamOk.nil (P:Program) (w0:World) (S:Nat->Prop):GamOk P w0 S []:=fun _ _ _ h=>by simp[lkGA,lkG1,lkG]at h
theorem GamOk.cons {P:Program}{w0:World}{S:Nat->Prop}{f:Nat}{c:Con}{Γ:Gam}(h:c.holdsAt P w0 S f) (hΓ:GamOk P w0 S Γ):GamOk P w0 S ((f,c)::Γ):=fun u a j hj=>by
 unfold lkGA at hj
 simp only[lkG1,lkG]at hj
 cases hw:(f.beq u&&QfM a c)
 · rw[hw]at hj
   simp only[cond_false]at hj
   cases h1:lkG1 Γ u a with
   |some d=>
    rw[h1]at hj
    exact hΓ u a j (by unfold lkGA;rw[h1];exact hj)
   |none=>
    rw[h1]at hj
    dsimp only at hj
    cases hb:f.beq u
    · rw[hb]at hj
      exact hΓ u a j (by unfold lkGA;rw[h1];exact hj)
    · rw[hb]at hj
      have:=Nat.eq_of_beq_eq_true hb
      subst this
      simp only[cond_true,Option.some.injEq]at hj;subst hj;exact h
 · rw[hw]at hj
   simp only[Bool.and_eq_true]at hw
   have:=Nat.eq_of_beq_eq_true hw.1
   subst this
   simp only[cond_true,Option.some.injEq]at hj;subst hj;exact h
def Con.holds (P:Program) (f:FuncId) (c:Con):Prop:=∀w0 S,c.holdsAt P w0 S f
def Qw (nx:Nat):Nat->List Nat
 |0=>[]
 |n+1=>nx::Qw (nx+1) n
def nodB:List Nat->Bool
 |[]=>true
 |b::r=>r.all (fun c=>!c.beq b)&&nodB r
theorem QO {l:List Nat}(h:nodB l=true):l.Nodup:=by
 induction l with
 |nil=>exact List.nodup_nil
 |cons b r ih=>
  simp only[nodB,Bool.and_eq_true,List.all_eq_true]at h
  refine List.nodup_cons.2 ⟨fun hb=>?_,ih h.2⟩
  have:=h.1 b hb
  simp at this
def Qav (n:Nat):List Nat->Bool
 |[]=>true
 |b::r=>b.blt n&&Qav n r
def Qei {α:Type}:Nat->List α->List α
 |0,_=>[]
 |_,[]=>[]
 |n+1,b::r=>b::Qei n r
def Qfz {α:Type}:Nat->List α->List α
 |0,l=>l
 |_,[]=>[]
 |n+1,_::r=>Qfz n r
def Qdp:Nat->List SB
 |0=>[]
 |n+1=>.gone::Qdp n
def zipB:List Nat->List SB->Ups
 |b::r,x::s=>(b,x)::zipB r s
 |_,_=>[]
def QB (p:Nat->Bool):List SB->Bool
 |[]=>true
 |b::r=>b.av p&&QB p r
def conW (c:MCon) (π:List Nat) (nx:Nat):List Nat:=π++Qw nx (c.len-c.k)
def Qdu (c:MCon) (π:List Nat) (nx:Nat):List Nat:=Qei c.k π++Qw nx (c.len-c.k)
def conB (c:MCon) (π:List Nat) (nx:Nat) (m:List SB):List SB:=
 (Qei c.k m++(Qdp (π.length-c.k)++Qfz c.k m)).map (SB.ren (ofL (Qdu c π nx)))
def rwE (Γ:Gam) (M:List SB):Eff->List Nat × List Nat × Bool
 |.eff T _ _ us=>(T,us.map (·.1),false)
 |.any _ T _ _ _ W _=>(T,W,true)
 |.call f args=>match lkGA Γ f args with
  |some (.mem c)=>match c.find args M with
   |some π=>([],conW c π M.length,isNo c.det)
   |none=>([],[],true)
  |some (.rd c)=>match c.find args M with
   |some π=>(π,Qw M.length c.len,isNo c.det)
   |none=>([],[],true)
  |_=>([],[],false)
 |.no=>([],[],false)
def Qbi (o:Oper):Prop:=False
def Xs (Γ:Gam) (M:List SB) (o:Oper) (K:SV->Ups->Prop):Eff->Prop
 |.eff T vc x us=>Qeh vc (bif nodB (us.map (·.1))then K x us else False)
 |.any χ T vc ok x W bs=>Qeh vc (bif nodB W then ∀c:χ,ok c->K (x c) (zipB W (bs c))else False)
 |.call f args=>match lkGA Γ f args with
  |some (.pure c)=>c.pre args/\match c.two args with
   |none=>K (c.val args) []
   |some (b,v)=>bif b then K (c.val args) []else K v []
  |some (.mem c)=>match c.find args M with
   |some π=>bif nodB π&&Qav M.length π&&c.k.ble π.length&&c.k.ble c.len then
    ∃s:c.σ,args=(c.args s).map (SA.ren (ofL π))/\π.map (getB M)=(c.mem s).map (SB.ren (ofL π))/\c.pre s /\
     ∀x:c.χ,c.ok s x->bif (c.mem' s x).length.beq c.len&&QB (sc c.len) (c.mem' s x)&&(c.val s x).av (sc c.len)then K ((c.val s x).ren (ofL (Qdu c π M.length))) (zipB (conW c π M.length) (conB c π M.length (c.mem' s x)))else False else False
   |none=>Qbi o
  |some (.rd c)=>match c.find args M with
   |some π=>bif Qav M.length π then
    ∃s:c.σ,args=(c.args s).map (SA.ren (ofL π))/\π.map (getB M)=(c.mem s).map (SB.ren (ofL π))/\c.pre s /\
     ∀x:c.χ,c.ok s x->bif (c.new s x).length.beq c.len&&QB (sc (π.length+c.len)) (c.new s x)&&(c.val s x).av (sc (π.length+c.len))then
      K ((c.val s x).ren (ofL (π++Qw M.length c.len))) (zipB (Qw M.length c.len) ((c.new s x).map (SB.ren (ofL (π++Qw M.length c.len)))))else False else False
   |none=>Qbi o
  |some (.inl fn c)=>Qbi o
  |none=>Qbi o
 |.no=>Qbi o
def Does (P:Program) (r:Result Next) (K:Value->World->Prop):Prop:=match r with
 |.ok (.value v) w'=>K v w'
 |.ok .skip w'=>K undef w'
 |.ok (.enter f args) w'=>Calls P f args w' fun e w''=>∃v,e=.returned v/\K v w''
 |_=>False
theorem Does.mono {P:Program}{r:Result Next}{K K':Value->World->Prop}(h:Does P r K) (hk:∀v w,K v w->K' v w):Does P r K':=by
 unfold Does at h ⊢
 split at h
 · exact hk _ _ h
 · exact hk _ _ h
 · exact h.mono fun e w'' ⟨v,he,hv⟩=>⟨v,he,hk _ _ hv⟩
 · exact h.elim
theorem QaL {P:Program}{o:Oper}{a:Act}{w:World}{next:Act->World->Prop}{Q:Exit->Act->World->Prop}(h:Does P ((execOp a.eval o).run P w) (fun v w'=>next (a.put o.dst v) w')):o.wp P a w next Q:=by
 unfold Oper.wp
 generalize (execOp a.eval o).run P w=r at h
 unfold Does at h
 split at h
 · exact h
 · exact h
 · exact h.mono fun e w'' ⟨v,he,hv⟩=>by subst he;exact hv
 · exact h.elim
theorem Does.of_res {P:Program}{w w':World}{r:Sem Next}{v:Value}{K:Value->World->Prop}(h:Res P w r v w') (hk:K v w'):Does P (r.run P w) K:=by
 obtain⟨n,hr,hn⟩:=h
 rw[hr]
 rcases hn with rfl|⟨rfl,rfl⟩
 · exact hk
 · exact hk
theorem XO:∀(W:List Nat) (bs:List SB),bs.length=W.length->(zipB W bs).map (·.1)=W
 |[],_,_=>rfl
 |b::r,[],h=>by simp at h
 |b::r,x::s,h=>by simp only[zipB,List.map_cons];rw[XO r s (by simpa using h)]
theorem XN:∀(W:List Nat) (bs:List SB),zipB W bs=W.zip bs
 |[],_=>by simp[zipB]
 |b::r,[]=>rfl
 |b::r,x::s=>by simp only[zipB,List.zip_cons_cons,XN r s]
theorem Xr {α:Type}:∀(n:Nat) (l:List α),Qei n l=l.take n
 |0,l=>by cases l<;>rfl
 |n+1,[]=>rfl
 |n+1,b::r=>by simp only[Qei,List.take_succ_cons,Xr n r]
theorem Qbf {α:Type}:∀(n:Nat) (l:List α),Qfz n l=l.drop n
 |0,l=>by cases l<;>rfl
 |n+1,[]=>rfl
 |n+1,b::r=>by simp only[Qfz,List.drop_succ_cons,Qbf n r]
theorem Q3:∀(n nx:Nat),(Qw nx n).length=n/\∀i,i<n->(Qw nx n)[i]?=some (nx+i)
 |0,nx=>⟨rfl,fun i h=>by omega⟩
 |n+1,nx=>by
  obtain⟨h1,h2⟩:=Q3 n (nx+1)
  refine⟨by simp[Qw,h1],fun i hi=>?_⟩
  cases i with
  |zero=>rfl
  |succ i=>simp only[Qw,List.getElem?_cons_succ,h2 i (by omega)];congr 1;omega
theorem Xl {n nx b:Nat}(h:b∈Qw nx n):nx<=b/\b<nx+n:=by
 induction n generalizing nx with
 |zero=>simp[Qw]at h
 |succ n ih=>
  simp only[Qw,List.mem_cons]at h
  rcases h with rfl|h
  · omega
  · have:=ih h;omega
theorem QE:∀(n nx:Nat),(Qw nx n).Nodup
 |0,_=>List.nodup_nil
 |n+1,nx=>List.nodup_cons.2 ⟨fun h=>by have:=(Xl h).1;omega,QE n (nx+1)⟩
theorem zip3 (π fr:List Nat) (k:Nat) (A G B:List SB) (hA:A.length=k) (hk:k<=π.length) (hG:G.length=π.length-k):
 (π++fr).zip (A++(G++B))=(π.take k).zip A++((π.drop k).zip G++fr.zip B):=by
 have e:π++fr=π.take k++(π.drop k++fr):=by rw[<- List.append_assoc,List.take_append_drop]
 rw[e,List.zip_append (by simp;omega),List.zip_append (by simp;omega)]
theorem QaD:∀n,(Qdp n).length=n
 |0=>rfl
 |n+1=>by simp[Qdp,QaD n]
theorem Q6 {n:Nat}:∀ {l:List Nat},Qav n l=true->∀b∈l,b<n
 |[],_,b,h=>by simp at h
 |c::r,h,b,hb=>by
  simp only[Qav,Bool.and_eq_true]at h
  rcases List.mem_cons.1 hb with rfl|hb
  · exact Qr h.1
  · exact Q6 h.2 b hb
theorem Qas (ρ:Nat->Nat):∀(us vs:Ups),denU ρ (us++vs)=denU ρ us++denU ρ vs
 |[],_=>rfl
 |(b,x)::r,vs=>by simp only[List.cons_append,denU,Qas ρ r vs,List.append_assoc]
theorem Qc1 (ρ:Nat->Nat) (f:Nat->Nat):∀(W:List Nat) (n:Nat),denU ρ (W.zip ((Qdp n).map (SB.ren f)))=[]
 |[],_=>by simp[denU]
 |b::r,0=>by simp[Qdp,denU]
 |b::r,n+1=>by simp only[Qdp,List.map_cons,List.zip_cons_cons,denU,SB.ren,denB,Qc1 ρ f r n,List.nil_append]
theorem Qbg {ρ ρ':Nat->Nat}{f:Nat->Nat}{n:Nat}(hf:∀i,i<n->ρ (f i)=ρ' i):∀(m:List SB) (W:List Nat) (k:Nat),(∀i,i<m.length->W[i]?=some (f (k+i)))->k+m.length<=n->QB (sc n) m=true ->
 denU ρ (W.zip (m.map (SB.ren f)))=denM ρ' k m
 |[],W,k,_,_,_=>by simp[denU,denM]
 |x::r,[],k,h,_,_=>by have:=h 0 (by simp);simp at this
 |x::r,b::W,k,h,hn,ha=>by
  have h0:=h 0 (by simp)
  simp only[List.getElem?_cons_zero,Option.some.injEq,Nat.add_zero]at h0
  subst h0
  simp only[List.length_cons]at hn
  simp only[QB,Bool.and_eq_true]at ha
  simp only[List.map_cons,List.zip_cons_cons,denU,denM]
  rw[SB.ren_den,SB.av_den (p:=sc n) (ρ:=ρ') (ρ':=fun i=>ρ (f i)) (fun i hi=>hf i (Qr hi)) (show sc n k=true from QR (by omega)) ha.1,
   Qbg hf r W (k+1) (fun i hi=>by have:=h (i+1) (by simpa using hi);rw[List.getElem?_cons_succ]at this;rw[this];congr 2;omega) (by omega) ha.2]
theorem QcF {p:Nat->Bool}:∀ {l m:List SB},QB p (l++m)=(QB p l&&QB p m)
 |[],m=>by simp[QB]
 |b::r,m=>by simp only[List.cons_append,QB,QcF (l:=r),Bool.and_assoc]
theorem QdR (ρ:Nat->Nat):∀(l m:List SB) (k:Nat),denM ρ k (l++m)=denM ρ k l++denM ρ (k+l.length) m
 |[],m,k=>by simp[denM]
 |b::r,m,k=>by simp only[List.cons_append,denM,QdR ρ r m (k+1),List.length_cons,List.append_assoc];congr 3;omega
theorem QaG {ρ:Nat->Nat}{M:List SB}:∀(π:List Nat) (m:List SB) (f:Nat->Nat) (k:Nat),(∀i,i<π.length->π[i]?=some (f (k+i)))->π.map (getB M)=m.map (SB.ren f)->denT ρ M π=denM (fun i=>ρ (f i)) k m
 |[],m,f,k,_,h=>by
  have:m=[]:=by cases m<;>simp_all
  subst this;rfl
 |b::r,[],f,k,_,h=>by simp at h
 |b::r,x::s,f,k,hp,h=>by
  simp only[List.map_cons,List.cons.injEq]at h
  have h0:=hp 0 (by simp)
  simp only[List.getElem?_cons_zero,Option.some.injEq,Nat.add_zero]at h0
  simp only[denT,denM]
  rw[h.1,h0,SB.ren_den,QaG r s f (k+1) (fun i hi=>by have:=hp (i+1) (by simpa using hi);rw[List.getElem?_cons_succ]at this;rw[this];congr 2;omega) h.2]
section
variable {P:Program}{V w0 w:World}{S:Nat->Prop}{ρ:Nat->Nat}{M:List SB}{Γ:Gam}{o:Oper}{K:SV->Ups->Prop}{r:Sem Next}
def Left (P:Program) (ρ:Nat->Nat) (M:List SB) (w:World) (r:Sem Next) (W:List Nat) (K:SV->Ups->Prop):Prop:=
 Does P (r.run P w) fun v w'=>∃x us ρ',K x us/\us.map (·.1)=W/\W.Nodup/\(∀i,(i<M.length\/i∉W)->ρ' i=ρ i)/\v=x.den ρ'/\Mem w (feet (denT ρ M W)) (denU ρ' us) w'
theorem Qb8 (hΓ:GamOk P w0 S Γ) (hK:Kept S w0 w) {e:Eff}(hE:QA P V ρ M M.length w r e) (hR:∀b∈(rwE Γ M e).1,∀x∈denB ρ b (getB M b),x.at w) (hW:Mem w (feet (denT ρ M (rwE Γ M e).2.1)) (denT ρ M (rwE Γ M e).2.1) w)
 (h:Xs Γ M o K e):Left P ρ M w r (rwE Γ M e).2.1 K:=by
 cases e with
 |eff T vc x us=>
  simp only[Xs]at h
  obtain⟨h1,h2⟩:=QW.1 h
  cases hn:nodB (us.map (·.1))
  · rw[hn]at h2;exact h2.elim
  · rw[hn]at h2
    obtain⟨w',ρ',g1,g2,g3⟩:=hE hR hW h1
    exact Does.of_res g2 ⟨x,us,ρ',h2,rfl,QO hn,g1,rfl,g3⟩
 |any χ T vc ok x W bs=>
  simp only[Xs]at h
  obtain⟨h1,h2⟩:=QW.1 h
  cases hn:nodB W
  · rw[hn]at h2;exact h2.elim
  · rw[hn]at h2
    obtain⟨c,hc,hl,w',ρ',g1,g2,g3⟩:=hE hR hW h1
    have hz:=XO W (bs c) hl
    rw[XN]at hz
    rw[hz]at g1 g3
    exact Does.of_res g2 ⟨x c,zipB W (bs c),ρ',h2 c hc,by rw[XN];exact hz,QO hn,g1,rfl,by rw[XN];exact g3⟩
 |call f args=>
  simp only[Xs]at h
  cases hl:lkGA Γ f args with
  |none=>rw[hl]at h;exact h.elim
  |some c=>
   rw[hl]at h
   have hc:=hΓ f args c hl
   cases c with
   |inl fn c=>exact h.elim
   |pure c=>
    obtain⟨hen,hc⟩:=hc
    have hr:=hE hen
    dsimp only at h
    have hw:(rwE Γ M (.call f args)).2.1=[]:=by simp only[rwE,hl]
    rw[hw]
    unfold Left
    rw[hr]
    refine (hc ρ args w h.1 hK).mono ?_
    rintro e w' ⟨rfl,hb⟩
    refine⟨_,rfl,c.out args,[],ρ,?_,rfl,List.nodup_nil,fun _ _=>rfl,rfl,⟨Kept.of_below hb,by simp[denU],by simp[denU],List.Pairwise.nil⟩⟩
    have h2:=h.2
    unfold PCon.out
    cases ht:c.two args with
    |none=>rw[ht]at h2;exact h2
    |some bv=>
     obtain⟨b,v⟩:=bv
     rw[ht]at h2
     cases b<;>exact h2
   |rd c=>
    obtain⟨hen,hdet,hc⟩:=hc
    have hr:=hE hen
    dsimp only at h
    cases hp:c.find args M with
    |none=>rw[hp]at h;exact h.elim
    |some π=>
     rw[hp]at h
     dsimp only at h
     cases hck:Qav M.length π
     · rw[hck]at h;exact h.elim
     · rw[hck]at h
       simp only[cond_true]at h
       have k2:=Q6 hck
       obtain⟨s,ha,hm,hpre,hK2⟩:=h
       have hw:(rwE Γ M (.call f args)).2.1=Qw M.length c.len:=by simp only[rwE,hl,hp]
       have hrd:(rwE Γ M (.call f args)).1=π:=by simp only[rwE,hl,hp]
       rw[hrd]at hR
       rw[hw]at hW ⊢
       have hfr:denT ρ M (Qw M.length c.len)=[]:=by
        rw[Q5]
        exact List.flatMap_eq_nil_iff.2 fun b hb=>by rw[QaF M b (Xl hb).1];rfl
       have hml:(c.mem s).length=π.length:=by have:=congrArg List.length hm;simpa using this.symm
       have hmem:denT ρ M π=denM (fun i=>ρ (ofL π i)) 0 (c.mem s):=QaG π (c.mem s) (ofL π) 0 (fun i hi=>by
        rw[Nat.zero_add,List.getElem?_eq_getElem hi];simp[ofL,List.getD_eq_getElem?_getD,hi]) hm
       have hcall:=hc (fun i=>ρ (ofL π i)) s w hpre hK (fun e he=>by
        rw[<- hmem,Q5,List.mem_flatMap]at he
        obtain⟨b,hb,he⟩:=he
        exact hR b hb e he)
       have hargs:((c.args s).map (SA.den fun i=>ρ (ofL π i)))=args.map (SA.den ρ):=by
        rw[ha,List.map_map];exact List.map_congr_left fun y _=>(SA.ren_den ρ (ofL π) y).symm
       rw[hargs]at hcall
       unfold Left
       rw[hr]
       refine hcall.mono ?_
       rintro e w' ⟨x,ρc,hok,hag,hlen,rfl,HM⟩
       have hK3:=hK2 x hok
       cases hsc:((c.new s x).length.beq c.len&&QB (sc (π.length+c.len)) (c.new s x)&&(c.val s x).av (sc (π.length+c.len)))
       · rw[hsc]at hK3;exact hK3.elim
       · rw[hsc]at hK3
         simp only[cond_true]at hK3
         simp only[Bool.and_eq_true]at hsc
         obtain⟨f1,f2⟩:=Q3 c.len M.length
         let ρ2:Nat->Nat:=fun j=>if M.length<=j/\j<M.length+c.len then ρc (π.length+(j-M.length))else ρ j
         have hold:∀j,j<M.length->ρ2 j=ρ j:=fun j hj=>if_neg (by omega)
         have hpi:∀i,i<π.length+c.len->ρ2 (ofL (π++Qw M.length c.len) i)=ρc i:=by
          intro i hi
          unfold ofL
          rw[List.getD_eq_getElem?_getD]
          by_cases h1:i<π.length
          · rw[List.getElem?_append_left h1,List.getElem?_eq_getElem h1]
            simp only[Option.getD_some]
            rw[hold _ (k2 _ (List.getElem_mem h1)),hag i (by omega)]
            simp[ofL,List.getD_eq_getElem?_getD,h1]
          · rw[List.getElem?_append_right (by omega),f2 _ (by omega)]
            simp only[Option.getD_some]
            show (if M.length<=M.length+(i-π.length)/\M.length+(i-π.length)<M.length+c.len then ρc (π.length+(M.length+(i-π.length)-M.length))else _)=_
            rw[if_pos (by omega)];congr 1;omega
         have hval:((c.val s x).ren (ofL (π++Qw M.length c.len))).den ρ2=(c.val s x).den ρc:=by
          rw[SV.ren_den]
          exact SV.av_den (p:=sc (π.length+c.len)) (fun i hi=>hpi i (Qr hi)) hsc.2
         refine⟨_,rfl,_,_,ρ2,hK3,XO _ _ (by rw[List.length_map,hlen,f1]),QE _ _,?_,hval.symm,?_⟩
         · intro i hi
           rcases hi with hi|hi
           · exact hold i hi
           · refine if_neg (fun hh=>hi ?_)
             refine List.mem_of_getElem? (f2 (i-M.length) (by omega) |>.trans ?_)
             congr 1;omega
         · rw[hfr,XN,Qbg hpi (c.new s x) _ π.length (fun i hi=>by
            rw[f2 i (by omega)]
            unfold ofL
            rw[List.getD_eq_getElem?_getD,List.getElem?_append_right (by omega),show π.length+i-π.length=i by omega,f2 i (by omega)];rfl) (by omega) hsc.1.2,<- hml]
           exact HM.subset (fun _ h=>h.elim)
   |mem c=>
    obtain⟨hen,hdet,hc⟩:=hc
    have hr:=hE hen
    dsimp only at h
    cases hp:c.find args M with
    |none=>rw[hp]at h;exact h.elim
    |some π=>
     rw[hp]at h
     dsimp only at h
     cases hck:(nodB π&&Qav M.length π&&c.k.ble π.length&&c.k.ble c.len)
     · rw[hck]at h;exact h.elim
     · rw[hck]at h
       simp only[cond_true]at h
       simp only[Bool.and_eq_true]at hck
       obtain⟨⟨⟨k1,k2⟩,k3⟩,k4⟩:=hck
       have k3:=QF k3
       have k4:=QF k4
       have k2:=Q6 k2
       have k1:=QO k1
       obtain⟨s,ha,hm,hpre,hK2⟩:=h
       have hw:(rwE Γ M (.call f args)).2.1=conW c π M.length:=by simp only[rwE,hl,hp]
       rw[hw]at hW ⊢
       have hfr:∀b,b∈Qw M.length (c.len-c.k)->denB ρ b (getB M b)=[]:=fun b hb=>by rw[QaF M b (Xl hb).1];rfl
       have hTW:denT ρ M (conW c π M.length)=denT ρ M π:=by
        have:∀(l m:List Nat),(∀b∈m,denB ρ b (getB M b)=[])->denT ρ M (l++m)=denT ρ M l:=by
         intro l m hm
         rw[Q5,Q5,List.flatMap_append]
         have:m.flatMap (fun b=>denB ρ b (getB M b))=[]:=List.flatMap_eq_nil_iff.2 hm
         rw[this,List.append_nil]
        exact this _ _ hfr
       have hmem:denT ρ M π=denM (fun i=>ρ (ofL π i)) 0 (c.mem s):=QaG π (c.mem s) (ofL π) 0 (fun i hi=>by
        rw[Nat.zero_add,List.getElem?_eq_getElem hi];simp[ofL,List.getD_eq_getElem?_getD,hi]) hm
       rw[hTW,hmem]at hW
       have hcall:=hc (fun i=>ρ (ofL π i)) s w hpre hK hW
       have hargs:((c.args s).map (SA.den fun i=>ρ (ofL π i)))=args.map (SA.den ρ):=by
        rw[ha,List.map_map];exact List.map_congr_left fun y _=>(SA.ren_den ρ (ofL π) y).symm
       rw[hargs]at hcall
       unfold Left
       rw[hr]
       refine hcall.mono ?_
       rintro e w' ⟨x,ρc,hok,hag,hlen,rfl,HM⟩
       have hK3:=hK2 x hok
       cases hsc:((c.mem' s x).length.beq c.len&&QB (sc c.len) (c.mem' s x)&&(c.val s x).av (sc c.len))
       · rw[hsc]at hK3;exact hK3.elim
       · rw[hsc]at hK3
         simp only[cond_true]at hK3
         simp only[Bool.and_eq_true]at hsc
         replace hsc:=And.intro hsc.1.2 hsc.2
         obtain⟨f1,f2⟩:=Q3 (c.len-c.k) M.length
         let ρ2:Nat->Nat:=fun j=>if M.length<=j/\j<M.length+(c.len-c.k)then ρc (c.k+(j-M.length))else ρ j
         have hold:∀j,j<M.length->ρ2 j=ρ j:=fun j hj=>if_neg (by omega)
         have hpi:∀i,i<c.len->ρ2 (ofL (Qdu c π M.length) i)=ρc i:=by
          intro i hi
          unfold ofL Qdu
          rw[Xr,List.getD_eq_getElem?_getD]
          by_cases h1:i<c.k
          · rw[List.getElem?_append_left (by rw[List.length_take];omega),List.getElem?_take,if_pos h1]
            have hi2:i<π.length:=by omega
            rw[List.getElem?_eq_getElem hi2]
            simp only[Option.getD_some]
            rw[hold _ (k2 _ (List.getElem_mem hi2)),hag i h1]
            simp[ofL,List.getD_eq_getElem?_getD,hi2]
          · rw[List.getElem?_append_right (by rw[List.length_take];omega),List.length_take,Nat.min_eq_left k3,f2 _ (by omega)]
            simp only[Option.getD_some]
            show (if M.length<=M.length+(i-c.k)/\M.length+(i-c.k)<M.length+(c.len-c.k)then ρc (c.k+(M.length+(i-c.k)-M.length))else _)=_
            rw[if_pos (by omega)];congr 1;omega
         have hbl:(conB c π M.length (c.mem' s x)).length=(conW c π M.length).length:=by
          unfold conB conW
          rw[Xr,Qbf]
          simp only[List.length_map,List.length_append,List.length_take,List.length_drop,QaD,hlen,f1]
          omega
         have hval:((c.val s x).ren (ofL (Qdu c π M.length))).den ρ2=(c.val s x).den ρc:=by
          rw[SV.ren_den]
          exact SV.av_den (p:=sc c.len) (fun i hi=>hpi i (Qr hi)) hsc.2
         refine⟨_,rfl,_,_,ρ2,hK3,XO _ _ hbl,?_,?_,hval.symm,?_⟩
         · unfold conW
           refine List.nodup_append.2 ⟨k1,?_,fun a ha b hb=>?_⟩
           · exact QE _ _
           · have:=k2 a ha;have:=(Xl hb).1;omega
         · intro i hi
           rcases hi with hi|hi
           · exact hold i hi
           · refine if_neg (fun hh=>hi ?_)
             unfold conW
             refine List.mem_append_right _ (List.mem_of_getElem? (f2 (i-M.length) (by omega) |>.trans ?_))
             congr 1;omega
         · have e1:denU ρ2 (zipB (conW c π M.length) (conB c π M.length (c.mem' s x)))=denM ρc 0 (c.mem' s x):=by
            rw[XN]
            unfold conW conB
            rw[Xr,Qbf]
            have hsplit:π=π.take c.k++π.drop c.k:=(List.take_append_drop _ _).symm
            have hm':c.mem' s x=(c.mem' s x).take c.k++(c.mem' s x).drop c.k:=(List.take_append_drop _ _).symm
            have hav:=hsc.1
            rw[hm',QcF,Bool.and_eq_true]at hav
            rw[List.map_append,List.map_append,zip3 π _ c.k _ _ _ (by simp;omega) k3 (by simp[QaD])]
            rw[Qas,Qas,Qc1,List.nil_append]
            rw[Qbg hpi ((c.mem' s x).take c.k) _ 0 (fun i hi=>by
             rw[List.length_take]at hi
             rw[Nat.zero_add,List.getElem?_take,if_pos (by omega)]
             unfold ofL Qdu
             rw[Xr,List.getD_eq_getElem?_getD,List.getElem?_append_left (by rw[List.length_take];omega),List.getElem?_take,if_pos (by omega),List.getElem?_eq_getElem (by omega)];rfl) (by rw[List.length_take];omega) hav.1]
            rw[Qbg hpi ((c.mem' s x).drop c.k) _ c.k (fun i hi=>by
             rw[List.length_drop]at hi
             rw[f2 i (by omega)]
             unfold ofL Qdu
             rw[Xr,List.getD_eq_getElem?_getD,List.getElem?_append_right (by rw[List.length_take];omega),List.length_take,Nat.min_eq_left k3,show c.k+i-c.k=i by omega,f2 i (by omega)];rfl) (by rw[List.length_drop];omega) hav.2]
            conv=>rhs;rw[hm']
            rw[QdR,List.length_take,hlen,Nat.min_eq_left k4,Nat.zero_add]
           rw[e1,hTW,hmem]
           exact HM
 |no=>exact h.elim
theorem Qb6 {c:MCon}{π:List Nat}(k1:π.Nodup) (k2:∀b∈π,b<M.length):(conW c π M.length).Nodup:=
 List.nodup_append.2 ⟨k1,QE _ _,fun a ha b hb=>by have:=k2 a ha;have:=(Xl hb).1;omega⟩
theorem Qen (hΓ:GamOk P w0 S Γ) {e:Eff}(hb:(rwE Γ M e).2.2=false) (h:Xs Γ M o K e):∃x us,K x us/\us.map (·.1)=(rwE Γ M e).2.1/\(us.map (·.1)).Nodup/\Xs Γ M o (fun x' us'=>x'=x/\us'=us) e:=by
 cases e with
 |eff T vc x us=>
  simp only[Xs]at h ⊢
  obtain⟨h1,h2⟩:=QW.1 h
  cases hn:nodB (us.map (·.1))
  · rw[hn]at h2;exact h2.elim
  · rw[hn]at h2
    exact⟨x,us,h2,rfl,QO hn,QW.2 ⟨h1,rfl,rfl⟩⟩
 |any χ T vc ok x W bs=>simp[rwE]at hb
 |call f args=>
  simp only[Xs,rwE]at h hb ⊢
  cases hl:lkGA Γ f args with
  |none=>rw[hl]at h;exact h.elim
  |some c=>
   rw[hl]at h hb
   have hc:=hΓ f args c hl
   cases c with
   |inl fn c=>exact h.elim
   |pure c=>
    dsimp only at h ⊢
    refine⟨c.out args,[],?_,rfl,List.nodup_nil,h.1,?_⟩
    · have h2:=h.2
      unfold PCon.out
      cases ht:c.two args with
      |none=>rw[ht]at h2;exact h2
      |some bv=>
       obtain⟨b,v⟩:=bv
       rw[ht]at h2
       cases b<;>exact h2
    · unfold PCon.out
      cases ht:c.two args with
      |none=>exact⟨rfl,rfl⟩
      |some bv=>
       obtain⟨b,v⟩:=bv
       cases b<;>exact⟨rfl,rfl⟩
   |rd c=>
    obtain⟨-,hdet,-⟩:=hc
    dsimp only at h hb ⊢
    cases hp:c.find args M with
    |none=>rw[hp]at h;exact h.elim
    |some π=>
     rw[hp]at h hb
     dsimp only at h hb ⊢
     cases hd:c.det with
     |none=>rw[hd]at hb;cases hb
     |some x0=>
      cases hck:Qav M.length π
      · rw[hck]at h;exact h.elim
      · rw[hck]at h
        simp only[cond_true]at h ⊢
        obtain⟨s,ha,hm,hpre,hK2⟩:=h
        obtain⟨-,hok⟩:=hdet x0 hd s x0
        have hK3:=hK2 x0 hok
        cases hsc:((c.new s x0).length.beq c.len&&QB (sc (π.length+c.len)) (c.new s x0)&&(c.val s x0).av (sc (π.length+c.len)))
        · rw[hsc]at hK3;exact hK3.elim
        · rw[hsc]at hK3
          have hlen:(c.new s x0).length=c.len:=by
           simp only[Bool.and_eq_true]at hsc
           exact Nat.eq_of_beq_eq_true hsc.1.1
          have hz:(zipB (Qw M.length c.len) ((c.new s x0).map (SB.ren (ofL (π++Qw M.length c.len))))).map (·.1)=Qw M.length c.len:=XO _ _ (by
           rw[List.length_map,hlen,(Q3 _ _).1])
          refine⟨_,_,hK3,hz,by rw[hz];exact QE _ _,s,ha,hm,hpre,fun x hx=>?_⟩
          · obtain⟨rfl,-⟩:=hdet x0 hd s x
            rw[hsc];exact⟨rfl,rfl⟩
   |mem c=>
    obtain⟨-,hdet,-⟩:=hc
    dsimp only at h hb ⊢
    cases hp:c.find args M with
    |none=>rw[hp]at h;exact h.elim
    |some π=>
     rw[hp]at h hb
     dsimp only at h hb ⊢
     cases hd:c.det with
     |none=>rw[hd]at hb;cases hb
     |some x0=>
      cases hck:(nodB π&&Qav M.length π&&c.k.ble π.length&&c.k.ble c.len)
      · rw[hck]at h;exact h.elim
      · rw[hck]at h
        simp only[cond_true]at h ⊢
        obtain⟨s,ha,hm,hpre,hK2⟩:=h
        obtain⟨-,hok⟩:=hdet x0 hd s x0
        have hK3:=hK2 x0 hok
        cases hsc:((c.mem' s x0).length.beq c.len&&QB (sc c.len) (c.mem' s x0)&&(c.val s x0).av (sc c.len))
        · rw[hsc]at hK3;exact hK3.elim
        · rw[hsc]at hK3
          have hlen:(c.mem' s x0).length=c.len:=by
           simp only[Bool.and_eq_true]at hsc
           exact Nat.eq_of_beq_eq_true hsc.1.1
          simp only[Bool.and_eq_true]at hck
          have k3:=QF hck.1.2
          have k4:=QF hck.2
          have hz:(zipB (conW c π M.length) (conB c π M.length (c.mem' s x0))).map (·.1)=conW c π M.length:=XO _ _ (by
           unfold conB conW
           rw[Xr,Qbf]
           simp only[List.length_map,List.length_append,List.length_take,List.length_drop,QaD,hlen,(Q3 _ _).1]
           omega)
          refine⟨_,_,hK3,hz,by rw[hz];exact Qb6 (QO hck.1.1.1) (Q6 hck.1.1.2),s,ha,hm,hpre,fun x hx=>?_⟩
          · obtain⟨rfl,-⟩:=hdet x0 hd s x
            rw[hsc];exact⟨rfl,rfl⟩
 |no=>exact h.elim
theorem Qbk {e:Eff}(h:Xs Γ M o K e):(rwE Γ M e).2.1.Nodup:=by
 cases e with
 |eff T vc x us=>
  simp only[Xs]at h
  obtain⟨h1,h2⟩:=QW.1 h
  cases hn:nodB (us.map (·.1))
  · rw[hn]at h2;exact h2.elim
  · exact QO hn
 |any χ T vc ok x W bs=>
  simp only[Xs]at h
  obtain⟨h1,h2⟩:=QW.1 h
  cases hn:nodB W
  · rw[hn]at h2;exact h2.elim
  · exact QO hn
 |call f args=>
  simp only[Xs,rwE]at h ⊢
  cases hl:lkGA Γ f args with
  |none=>rw[hl]at h;exact h.elim
  |some c=>
   rw[hl]at h
   cases c with
   |inl fn c=>exact h.elim
   |pure c=>exact List.nodup_nil
   |rd c=>
    dsimp only at h ⊢
    cases hp:c.find args M with
    |none=>rw[hp]at h;exact h.elim
    |some π=>exact QE _ _
   |mem c=>
    dsimp only at h ⊢
    cases hp:c.find args M with
    |none=>rw[hp]at h;exact h.elim
    |some π=>
     rw[hp]at h
     dsimp only at h ⊢
     cases hck:(nodB π&&Qav M.length π&&c.k.ble π.length&&c.k.ble c.len)
     · rw[hck]at h;exact h.elim
     · simp only[Bool.and_eq_true]at hck
       exact Qb6 (QO hck.1.1.1) (Q6 hck.1.1.2)
 |no=>exact h.elim
end
end
section
open Go.RowKit
def QcN:List Oper->Nat->Option Oper
 |[],_=>none
 |o::_,0=>some o
 |_::r,n+1=>QcN r n
theorem XS:∀(l:List Oper) (n:Nat),QcN l n=l[n]?
 |[],_=>rfl
 |_::_,0=>rfl
 |_::r,n+1=>XS r n
def Qb1 (all:List Oper):Option (Nat × Bool)->Option (Option (Nat × Bool))
 |none=>some none
 |some (j,want)=>match QcN all j with
  |some p=>match p.dst with
   |some t=>some (some (t,want))
   |none=>none
  |none=>none
def putS (d:Option Tmp) (x:SV) (env:Env):Env:=match d with
 |some d=>(d,x)::env
 |none=>env
def QbR (nt:Nat):Option Tmp->Bool
 |some d=>d.blt nt
 |none=>true
theorem EnvOk.putS {ρ:Nat->Nat}{nt:Nat}{env:Env}{a:Act}(h:EnvOk ρ nt env a) {d:Option Tmp}(hd:QbR nt d=true) (x:SV):EnvOk ρ nt (putS d x env) (a.put d (x.den ρ)):=by
 cases d with
 |none=>exact h
 |some d=>exact h.put (Qr hd) x
theorem Xb {ρ:Nat->Nat}{nt:Nat}{env:Env}{a:Act}(h:EnvOk ρ nt env a) {all:List Oper}{o:Oper}{g:Option (Nat × Bool)}(hg:Qb1 all o.guard=some g):
 (g=none->Region.wanted o (yielded all.toArray a.tmps)=true)/\(∀t want b,g=some (t,want)->lk env t=some (sv (.bool b))->Region.wanted o (yielded all.toArray a.tmps)=(b==want))/\∀t want u,g=some (t,want)->lk env t=some (sv (.tuple u))->Region.wanted o (yielded all.toArray a.tmps)=false:=by
 unfold Qb1 at hg
 unfold Region.wanted
 cases ho:o.guard with
 |none=>
  rw[ho]at hg
  simp only[Option.some.injEq]at hg;subst hg
  exact⟨fun _=>rfl,fun t want b e=>(by cases e),fun t want u e=>(by cases e)⟩
 |some jw=>
  obtain⟨j,want⟩:=jw
  rw[ho]at hg
  dsimp only at hg
  cases hn:QcN all j with
  |none=>rw[hn]at hg;cases hg
  |some p=>
   rw[hn]at hg
   dsimp only at hg
   cases hp:p.dst with
   |none=>rw[hp]at hg;cases hg
   |some t=>
    rw[hp]at hg
    simp only[Option.some.injEq]at hg;subst hg
    have h2:(all.toArray[j]?)=some p:=by rw[List.getElem?_toArray,<- XS];exact hn
    refine⟨fun e=>(by cases e),fun t' want' b e hl=>?_,fun t' want' u e hl=>?_⟩
    · simp only[Option.some.injEq,Prod.mk.injEq]at e
      obtain⟨rfl,rfl⟩:=e
      have h1:=h.get t _ hl
      have:yielded all.toArray a.tmps j=some b:=by
       unfold yielded
       rw[h2]
       simp only[Option.bind_some,hp,h1];rfl
      simp only[this]
      cases b<;>cases want<;>rfl
    · simp only[Option.some.injEq,Prod.mk.injEq]at e
      obtain⟨rfl,rfl⟩:=e
      have h1:=h.get t _ hl
      have:yielded all.toArray a.tmps j=none:=by
       unfold yielded
       rw[h2]
       simp only[Option.bind_some,hp,h1];rfl
      simp only[this]
      rfl
def Xe (e:Edge):Bool:=match e.ground with
 |.textOnly _=>false
 |.gcOnly _=>false
 |_=>true
theorem Qc5 (e:Edge):Region.binds .any e=Xe e:=by
 unfold Region.binds Xe;cases e.ground<;>rfl
def memN (i:Nat):List Nat->Bool
 |[]=>false
 |j::r=>i.beq j||memN i r
theorem Qt {i:Nat}:∀ {l:List Nat},memN i l=true↔i∈l
 |[]=>by simp[memN]
 |j::r=>by simp[memN,Qt (l:=r)]
def uniN:List Nat->List Nat->List Nat
 |[],m=>m
 |i::r,m=>bif memN i m then uniN r m else uniN r (i::m)
theorem Qb7 {i:Nat}:∀ {l m:List Nat},i∈uniN l m↔i∈l\/i∈m
 |[],m=>by simp[uniN]
 |j::r,m=>by
  simp only[uniN]
  cases h:memN j m
  · simp only[cond_false,Qb7 (l:=r),List.mem_cons]
    constructor
    · rintro (h|rfl|h)
      · exact .inl (.inr h)
      · exact .inl (.inl rfl)
      · exact .inr h
    · rintro ((rfl|h)|h)
      · exact .inr (.inl rfl)
      · exact .inl h
      · exact .inr (.inr h)
  · simp only[cond_true,Qb7 (l:=r),List.mem_cons]
    have:=Qt.1 h
    constructor
    · rintro (h|h)
      · exact .inl (.inr h)
      · exact .inr h
    · rintro ((rfl|h)|h)
      · exact .inr this
      · exact .inl h
      · exact .inr h
def nthL:List (List Nat)->Nat->List Nat
 |[],_=>[]
 |l::_,0=>l
 |_::r,n+1=>nthL r n
def befE (acc:List (List Nat)):List Edge->List Nat
 |[]=>[]
 |e::r=>bif Xe e then uniN (e.on::nthL acc e.on) (befE acc r)else befE acc r
def XM:List (List Nat)->List Oper->List (List Nat)
 |acc,[]=>acc
 |acc,o::r=>XM (acc++[befE acc o.after.toList]) r
def bef (all:List Oper) (i:Nat):List Nat:=nthL (XM [] all) i
def Qa6 (all:List Oper) (L:Nat->Bool):Prop:=∀j o,all[j]?=some o->L j=true->∀e∈o.after,Xe e=true->L e.on=true
theorem XT:∀(l:List (List Nat)) (i:Nat),nthL l i=(l[i]?).getD []
 |[],_=>rfl
 |_::_,0=>rfl
 |_::r,i+1=>by simp only[nthL,List.getElem?_cons_succ,XT r i]
theorem Qcy {acc:List (List Nat)}{j:Nat}:∀ {es:List Edge},j∈befE acc es->∃e∈es,Xe e=true/\(j=e.on\/j∈nthL acc e.on)
 |[],h=>by simp[befE]at h
 |e::r,h=>by
  simp only[befE]at h
  cases hb:Xe e
  · rw[hb]at h
    obtain⟨e',h1,h2⟩:=Qcy (es:=r) h
    exact⟨e',List.mem_cons_of_mem _ h1,h2⟩
  · rw[hb]at h
    rw[cond_true,Qb7]at h
    rcases h with h|h
    · exact⟨e,List.mem_cons_self,hb,List.mem_cons.1 h⟩
    · obtain⟨e',h1,h2⟩:=Qcy (es:=r) h
      exact⟨e',List.mem_cons_of_mem _ h1,h2⟩
theorem QbH {all:List Oper}{L:Nat->Bool}(hL:Qa6 all L):∀(l:List Oper) (acc:List (List Nat)),(∀j,l[j]?=all[acc.length+j]?) ->
 (∀k o,k<acc.length->all[k]?=some o->(∀e∈o.after,Xe e=true->L e.on=true)->∀j∈nthL acc k,L j=true) ->
 ∀k o,all[k]?=some o->(∀e∈o.after,Xe e=true->L e.on=true)->∀j∈nthL (XM acc l) k,L j=true
 |[],acc,hl,hacc=>fun k o ho he j hj=>by
  simp only[XM]at hj
  by_cases hk:k<acc.length
  · exact hacc k o hk ho he j hj
  · rw[XT,List.getElem?_eq_none (by omega)]at hj;simp at hj
 |o::r,acc,hl,hacc=>by
  simp only[XM]
  refine QbH hL r _ (fun j=>?_) (fun k p hk hp he j hj=>?_)
  · have:=hl (j+1)
    rw[List.getElem?_cons_succ]at this
    rw[this,List.length_append,List.length_singleton];congr 1;omega
  · rw[List.length_append,List.length_singleton]at hk
    by_cases h:k<acc.length
    · rw[XT,List.getElem?_append_left h,<- XT]at hj
      exact hacc k p h hp he j hj
    · obtain rfl:k=acc.length:=by omega
      have h0:=hl 0
      rw[Nat.add_zero,hp]at h0
      simp only[List.getElem?_cons_zero,Option.some.injEq]at h0
      subst h0
      rw[XT,List.getElem?_append_right (Nat.le_refl _)]at hj
      simp only[Nat.sub_self,List.getElem?_cons_zero,Option.getD_some]at hj
      obtain⟨e,h1,h2,h3⟩:=Qcy hj
      have hLe:=he e (by simpa using h1) h2
      rcases h3 with rfl|h3
      · exact hLe
      · by_cases hlt:e.on<acc.length
        · cases ho:all[e.on]? with
          |none=>
           exfalso
           have h4:all.length<=e.on:=by
            rcases Nat.lt_or_ge e.on all.length with h|h
            · rw[List.getElem?_eq_getElem h]at ho;cases ho
            · exact h
           have:=(List.getElem?_eq_some_iff.1 hp).1
           omega
          |some q=>exact hacc e.on q hlt ho (fun e' he' hb'=>hL e.on q ho hLe e' he' hb') j h3
        · rw[XT,List.getElem?_eq_none (by omega)]at h3;simp at h3
theorem QaJ {all:List Oper}{L:Nat->Bool}(hL:Qa6 all L) {i:Nat}{o:Oper}(ho:all[i]?=some o) (he:∀e∈o.after,Xe e=true->L e.on=true):∀j∈bef all i,L j=true:=
 QbH hL all [] (fun j=>by simp) (fun k o hk=>by simp at hk) i o ho he
theorem Qaa {all:List Oper}{L:Nat->Bool}(hL:Qa6 all L) {i j:Nat}{o:Oper}(ho:all[i]?=some o) (hi:L i=true) (hj:j∈bef all i):L j=true:=
 QaJ hL ho (fun e he hb=>hL i o ho hi e he hb) j hj
structure HX where
 i:Nat
 R:List Nat
 W:List Nat
 f:List Nat
 bar:Bool
def Qc0:List Nat->List Nat->Bool
 |[],_=>true
 |i::r,m=>!memN i m&&Qc0 r m
theorem QN:∀ {l m:List Nat},Qc0 l m=true->∀i∈l,i∉m
 |[],_,_,i,h=>by simp at h
 |j::r,m,h,i,hi=>by
  simp only[Qc0,Bool.and_eq_true,Bool.not_eq_true']at h
  rcases List.mem_cons.1 hi with rfl|hi
  · intro hm;rw[Qt.2 hm]at h;exact absurd h.1 (by simp)
  · exact QN h.2 i hi
def QcS (x y:HX):Bool:=Qc0 x.W y.R&&Qc0 x.W y.W&&Qc0 y.W x.R
def looksL (all:List Oper) (o:Oper):List Nat:=o.looksAt all.toArray
def dstL (o:Oper):List Nat:=match o.dst with
 |some t=>[t]
 |none=>[]
def QcD (all:List Oper) (B:List (List Nat)):Bool:=
 (List.range all.length).all fun i=>match QcN all i with
  |none=>false
  |some o=>(match o.op with | .select _ _=>false|_=>true)&&o.after.toList.all (fun e=>!Xe e||e.on.blt i)&&(List.range all.length).all fun j=>i.beq j||match QcN all j with
   |none=>false
   |some p=>Qc0 (dstL p) (dstL o)&&(Qc0 (dstL p) (looksL all o)||(memN j (nthL B i)||memN i (nthL B j)))
def Q7 (B:List (List Nat)):List HX->Bool
 |[]=>true
 |y::r=>r.all (fun x=>!x.i.beq y.i && !memN y.i (nthL B x.i)&&(memN x.i (nthL B y.i)||QcS x y))&&Q7 B r
def QfK (n:Nat) (B:List (List Nat)):List HX->Bool
 |[]=>true
 |x::r=>(bif x.bar then (List.range n).all (fun j=>memN j (x.i::r.map (·.i))||memN x.i (nthL B j))else true)&&QfK n B r
def refsB (N0:Nat) (B:List (List Nat)) (h:List HX) (x:HX):Bool:=
 x.f.all fun b=>b.blt N0||memN b x.W||h.any (fun y=>memN y.i (nthL B x.i)&&memN b y.W)
def chkB (N0:Nat) (all:List Oper) (h:List HX):Bool:=
 let B:=XM [] all
 QcD all B&&Q7 B h&&QfK all.length B h&&h.all (refsB N0 B h)&&h.all (fun x=>x.i.blt all.length)
def Qdr (fn:Func) (id:Nat) (ops:Array Oper) (N0:Nat) (h:List HX):Prop:=chkB N0 ops.toList h=true
theorem Qcr {fn:Func}{id:Nat}{ops:Array Oper}{N0:Nat}{h:List HX}(e:chkB N0 ops.toList h=true):Qdr fn id ops N0 h:=e
def isBar (Γ:Gam) (o:Oper):Bool:=match o.op with
 |.call c=>match c.callee with
  |.builtin .append=>true
  |.value (.func f)=>match lkG Γ f with
   |some (.mem c)=>isNo c.det
   |some (.rd c)=>isNo c.det
   |_=>false
  |_=>false
 |_=>false
def Qe5 (Γ:Gam):Nat->List Oper->List Nat
 |_,[]=>[]
 |i,o::r=>bif isBar Γ o then i::Qe5 Γ (i+1) r else Qe5 Γ (i+1) r
def QeO:List Nat->List Nat->Nat
 |[],_=>0
 |i::r,m=>bif memN i m then (QeO r m).succ else QeO r m
def levO (B:List (List Nat)) (bars:List Nat) (k:Nat) (wantBar:Bool):List Nat->List Nat
 |[]=>[]
 |i::r=>bif (QeO bars (nthL B i)).beq k&&(bif wantBar then memN i bars else !memN i bars)then i::levO B bars k wantBar r else levO B bars k wantBar r
def levsO (B:List (List Nat)) (bars idx:List Nat):Nat->Nat->List Nat
 |_,0=>[]
 |k,n+1=>levO B bars k false idx++(levO B bars k true idx++levsO B bars idx (k+1) n)
def upN (i:Nat):Nat->List Nat
 |0=>[]
 |n+1=>i::upN (i+1) n
def QfP (Γ:Gam) (all:List Oper):List Nat:=
 let bars:=Qe5 Γ 0 all
 levsO (XM [] all) bars (upN 0 all.length) 0 bars.length.succ
def SC.refs:SC->List Nat
 |.p b _=>[b]
 |.e b _ _=>[b]
 |.s b _ _ _=>[b]
 |.i _ b _=>[b]
 |.o b _ _=>[b]
 |.er b _ _ _=>[b]
 |.so b _ _ _ _ _=>[b]
 |.fn _ cs=>cs.map (·.1)
 |.m b=>[b]
 |_=>[]
def Xt:List Seg->List Nat
 |[]=>[]
 |.one x::r=>x.refs++Xt r
 |_::r=>Xt r
def SA.refs:SA->List Nat
 |.c x=>x.refs
 |.a l=>Xt l
def Qdd:List SA->List Nat
 |[]=>[]
 |x::r=>x.refs++Qdd r
def SV.refs:SV->List Nat
 |.o x=>x.refs
 |.t l=>Qdd l
def SB.refs:SB->List Nat
 |.cells l _=>Xt l
 |_=>[]
def QI:Ups->List Nat
 |[]=>[]
 |(_,x)::r=>x.refs++QI r
section
variable (V:World) (T:Tab) (Γ:Gam) (nt:Nat) (next:Env->List SB->Prop) (fn:Func) (id:Nat) (all:List Oper) (N0:Nat)
def drun:List Nat->List HX->Env->List SB->Prop
 |[],h,env,M=>bif h.length.beq all.length then Qdr fn id all.toArray N0 h/\next env M else False
 |i::l,h,env,M=>match QcN all i with
  |none=>False
  |some o=>bif QbR nt o.dst then (match Qb1 all o.guard with
   |none=>False
   |some g=>
    let go:Env->Prop:=fun env=>
     let e:=Qv V T env M M.length o.op
     let rw:=rwE Γ M e
     let k:Prop:=Xs Γ M o (fun x us=>drun l (⟨i,rw.1,rw.2.1,x.refs++QI us,rw.2.2⟩::h) (putS o.dst x env) (Qj M us)) e
     bif rw.2.2 then Qdr fn id all.toArray N0 (⟨i,rw.1,rw.2.1,[],true⟩::h)/\k else k
    let skip:Env->Prop:=fun env=>drun l (⟨i,[],[],[],false⟩::h) (putS o.dst (sv undef) env) M
    match g with
    |none=>go env
    |some (t,want)=>match lk env t with
     |some (.o (.c (.v (.bool b))))=>
      bif b then (bif want then go ((t,sv (.bool true))::env)else skip ((t,sv (.bool true))::env))
      else (bif want then skip ((t,sv (.bool false))::env)else go ((t,sv (.bool false))::env))
     |some (.o (.c (.v (.tuple _))))=>skip env
     |_=>False)else False
end
end
section
open Go.RowKit
theorem QcY {a b:Act}{x:Operand}(h:∀t,x=.tmp t->a.tmps[t]?=b.tmps[t]?):a.eval x=b.eval x:=by
 cases x with
 |tmp t=>
  have:=h t rfl
  simp only[Act.eval,Array.getD_eq_getD_getElem?,this]
 |_=>rfl
theorem Qbh {ops:Array Oper}{a b:Act}{o:Oper}(h:∀t,t∈o.looksAt ops->a.tmps[t]?=b.tmps[t]?):Region.wanted o (yielded ops a.tmps)=Region.wanted o (yielded ops b.tmps):=by
 unfold Region.wanted
 cases hg:o.guard with
 |none=>rfl
 |some gw=>
  obtain⟨g,want⟩:=gw
  have hy:yielded ops a.tmps g=yielded ops b.tmps g:=by
   unfold yielded
   cases ht:(ops[g]?).bind (·.dst)with
   |none=>rfl
   |some t=>
    have:=h t (by simp[Oper.looksAt,hg,ht])
    simp only[Option.bind_some,this]
  simp only[hy]
theorem SC.av_refs {p:Nat->Bool}{x:SC}(h:∀b∈x.refs,p b=true):x.av p=true:=by
 cases x with
 |fn f cs=>simp only[SC.av,List.all_eq_true];exact fun q hq=>h _ (by simp only[SC.refs,List.mem_map];exact⟨q,hq,rfl⟩)
 |_=>first|rfl|exact h _ (by simp[SC.refs])
theorem Xu {p:Nat->Bool}:∀ {l:List Seg},(∀b∈Xt l,p b=true)->Qi p l=true
 |[],_=>rfl
 |.one x::r,h=>by
  simp only[Xt,List.mem_append]at h
  simp only[Qi,Bool.and_eq_true]
  exact⟨SC.av_refs (fun b hb=>h b (.inl hb)),Xu (fun b hb=>h b (.inr hb))⟩
 |.ints _ _ _::r,h=>by
  simp only[Xt]at h
  simp only[Qi];exact Xu h
theorem SA.av_refs {p:Nat->Bool}{x:SA}(h:∀b∈x.refs,p b=true):x.av p=true:=by
 cases x with
 |c x=>exact SC.av_refs h
 |a l=>exact Xu (l:=l) h
theorem SV.av_refs {p:Nat->Bool}{x:SV}(h:∀b∈x.refs,p b=true):x.av p=true:=by
 cases x with
 |o x=>exact SA.av_refs h
 |t l=>
  simp only[SV.av]
  induction l with
  |nil=>rfl
  |cons y r ih=>
   simp only[SV.refs,Qdd,List.mem_append]at h ih
   simp only[List.all_cons,Bool.and_eq_true]
   exact⟨SA.av_refs (fun b hb=>h b (.inl hb)),ih (fun b hb=>h b (.inr hb))⟩
theorem SB.av_refs {p:Nat->Bool}{x:SB}(h:∀b∈x.refs,p b=true):x.av p=true:=by
 cases x with
 |cells l t=>exact Xu (l:=l) h
 |_=>rfl
theorem Qc9 {us:Ups}{b c:Nat}{x:SB}(h:(b,x)∈us) (hc:c∈x.refs):c∈QI us:=by
 induction us with
 |nil=>simp at h
 |cons q r ih=>
  obtain⟨b',y⟩:=q
  simp only[QI,List.mem_append]
  rcases List.mem_cons.1 h with h|h
  · simp only[Prod.mk.injEq]at h;obtain⟨rfl,rfl⟩:=h;exact .inl hc
  · exact .inr (ih h)
structure Hop where
 h:HX
 o:Oper
 x:SV
 us:Ups
def QbP (M0:List SB):List Hop->List SB
 |[]=>M0
 |h::r=>Qj (QbP M0 r) h.us
def Qu (L:Nat->Bool) (M0:List SB):List Hop->List SB
 |[]=>M0
 |h::r=>bif L h.h.i then Qj (Qu L M0 r) h.us else Qu L M0 r
def actT (ρ:Nat->Nat) (a0:Act):List Hop->Act
 |[]=>a0
 |h::r=>(actT ρ a0 r).put h.o.dst (h.x.den ρ)
theorem Qde (x:SB):∀(M:List SB) (b:Nat),b<(putB M b x).length
 |[],0=>by simp[putB]
 |[],b+1=>by simp only[putB,List.length_cons];have:=Qde x [] b;omega
 |_::r,0=>by simp[putB]
 |_::r,b+1=>by simp only[putB,List.length_cons];have:=Qde x r b;omega
theorem Xh:∀(us:Ups) (M:List SB),M.length<=(Qj M us).length/\∀b∈us.map (·.1),b<(Qj M us).length
 |[],M=>⟨Nat.le_refl _,by simp⟩
 |(b,x)::r,M=>by
  obtain⟨h1,h2⟩:=Xh r (putB M b x)
  have h3:=(Qbb x M b).1
  have h4:=Qde x M b
  refine⟨by simp only[Qj];omega,fun c hc=>?_⟩
  simp only[List.map_cons,List.mem_cons]at hc
  simp only[Qj]
  rcases hc with rfl|hc
  · omega
  · exact h2 c hc
theorem Qaq {us:Ups}{b:Nat}(hb:b∈us.map (·.1)) (hn:(us.map (·.1)).Nodup) (M N:List SB):getB (Qj M us) b=getB (Qj N us) b:=by
 obtain⟨⟨b',x⟩,hq,rfl⟩:=List.mem_map.1 hb
 rw[Qs us M hn hq,Qs us N hn hq]
theorem XX {ρ:Nat->Nat}{M M':List SB}(T:List Nat) (h:∀b∈T,getB M' b=getB M b):denT ρ M' T=denT ρ M T:=QbE T (fun b hb=>by rw[h b hb])
theorem Qa4 {ρ:Nat->Nat}{M N:List SB}(h:∀b,getB M b=getB N b):denM ρ 0 M=denM ρ 0 N:=by
 rw[XY ρ M 0 (max M.length N.length) (by omega),XY ρ N 0 (max M.length N.length) (by omega)]
 simp only[h]
section
variable {P:Program}{V w0:World}{S:Nat->Prop}{ρ0:Nat->Nat}{T:Tab}{Γ:Gam}{nt:Nat}{next:Env->List SB->Prop}{fn:Func}{id:Nat}{all:List Oper}{Q:Exit->Act->World->Prop}{a0:Act}{env0:Env}{M0:List SB}
def HopOk (V:World) (T:Tab) (Γ:Gam) (nt:Nat) (all:List Oper) (env:Env) (M:List SB) (h:Hop):Prop:=
 all[h.h.i]?=some h.o/\QbR nt h.o.dst=true/\h.us.map (·.1)=h.h.W/\(h.us.map (·.1)).Nodup/\(∀b∈h.x.refs++QI h.us,b∈h.h.f) /\
 ((h.x=sv undef/\h.us=[]/\∀ρ a,EnvOk ρ nt env a->Region.wanted h.o (yielded all.toArray a.tmps)=false) \/
  ((∀ρ a,EnvOk ρ nt env a->Region.wanted h.o (yielded all.toArray a.tmps)=true)/\h.h.R=(rwE Γ M (Qv V T env M M.length h.o.op)).1/\h.h.W=(rwE Γ M (Qv V T env M M.length h.o.op)).2.1 /\
   (h.h.bar=true\/Xs Γ M h.o (fun x' us'=>x'=h.x/\us'=h.us) (Qv V T env M M.length h.o.op))))
inductive DP (V:World) (T:Tab) (Γ:Gam) (nt:Nat) (all:List Oper) (env0:Env) (M0:List SB):List Hop->Env->List SB->Prop
 |nil:DP V T Γ nt all env0 M0 [] env0 M0
 |same {hs env M t x}(hd:DP V T Γ nt all env0 M0 hs env M) (hx:lk env t=some x):DP V T Γ nt all env0 M0 hs ((t,x)::env) M
 |op {hs env M h}(hd:DP V T Γ nt all env0 M0 hs env M) (ho:HopOk V T Γ nt all env M h):DP V T Γ nt all env0 M0 (h::hs) (putS h.o.dst h.x env) (Qj M h.us)
theorem DP.env {hs:List Hop}{env:Env}{M:List SB}(h:DP V T Γ nt all env0 M0 hs env M) {ρ:Nat->Nat}(hE:EnvOk ρ nt env0 a0):EnvOk ρ nt env (actT ρ a0 hs):=by
 induction h with
 |nil=>exact hE
 |same hd hx ih=>exact ih.same hx
 |op hd ho ih=>exact ih.putS ho.2.1 _
theorem DP.mem {hs:List Hop}{env:Env}{M:List SB}(h:DP V T Γ nt all env0 M0 hs env M):M=QbP M0 hs:=by
 induction h with
 |nil=>rfl
 |same hd hx ih=>exact ih
 |op hd ho ih=>rw[ih];rfl
theorem DP.split {hs:List Hop}{env:Env}{M:List SB}(h:DP V T Γ nt all env0 M0 hs env M):∀post k pre,hs=post++k::pre->∃env' M',DP V T Γ nt all env0 M0 pre env' M'/\HopOk V T Γ nt all env' M' k:=by
 induction h with
 |nil=>intro post k pre e;cases post<;>simp at e
 |same hd hx ih=>exact ih
 | @op hs env M h hd ho ih=>
   intro post k pre e
   cases post with
   |nil=>
    simp only[List.nil_append,List.cons.injEq]at e
    obtain⟨rfl,rfl⟩:=e
    exact⟨_,_,hd,ho⟩
   |cons q post=>
    simp only[List.cons_append,List.cons.injEq]at e
    exact ih post k pre e.2
theorem DP.allOk {hs:List Hop}{env:Env}{M:List SB}(h:DP V T Γ nt all env0 M0 hs env M):∀k∈hs,all[k.h.i]?=some k.o/\QbR nt k.o.dst=true/\k.us.map (·.1)=k.h.W/\(k.us.map (·.1)).Nodup/\∀b∈k.x.refs++QI k.us,b∈k.h.f:=fun k hk=>by
 obtain⟨post,pre,e⟩:=List.append_of_mem hk
 obtain⟨env',M',-,h1,h2,h3,h4,h5,-⟩:=h.split post k pre e
 exact⟨h1,h2,h3,h4,h5⟩
inductive Front (V:World) (T:Tab) (Γ:Gam) (nt:Nat) (next:Env->List SB->Prop) (fn:Func) (id:Nat) (all:List Oper) (N0:Nat) (hs:List Hop) (env:Env) (M:List SB):Prop
 |fin (hl:hs.length=all.length) (hc:chkB N0 all (hs.map (·.h))=true) (hn:next env M)
 |bar (i:Nat) (o:Oper) (l:List Nat) (ho:all[i]?=some o) (hd:QbR nt o.dst=true) (hw:∀ρ a,EnvOk ρ nt env a->Region.wanted o (yielded all.toArray a.tmps)=true)
  (hc:chkB N0 all (⟨i,(rwE Γ M (Qv V T env M M.length o.op)).1,(rwE Γ M (Qv V T env M M.length o.op)).2.1,[],true⟩::hs.map (·.h))=true)
  (hk:Xs Γ M o (fun x us=>drun V T Γ nt next fn id all N0 l (⟨i,(rwE Γ M (Qv V T env M M.length o.op)).1,(rwE Γ M (Qv V T env M M.length o.op)).2.1,x.refs++QI us,true⟩::hs.map (·.h)) (putS o.dst x env) (Qj M us)) (Qv V T env M M.length o.op))
theorem XW {N0:Nat}(hΓ:GamOk P w0 S Γ):∀(l:List Nat) (hs:List Hop) (env:Env) (M:List SB),DP V T Γ nt all env0 M0 hs env M->drun V T Γ nt next fn id all N0 l (hs.map (·.h)) env M ->
 ∃hs' env' M',DP V T Γ nt all env0 M0 (hs'++hs) env' M'/\Front V T Γ nt next fn id all N0 (hs'++hs) env' M'/\∀h∈hs',h.h.bar=false
 |[],hs,env,M,hd,h=>by
  simp only[drun]at h
  cases hl:(hs.map (·.h)).length.beq all.length
  · rw[hl]at h;exact h.elim
  · rw[hl]at h
    have:=Nat.eq_of_beq_eq_true hl
    rw[List.length_map]at this
    exact⟨[],env,M,hd,.fin this (by have:=h.1;unfold Qdr at this;simpa using this) h.2,by simp⟩
 |i::l,hs,env,M,hd,h=>by
  simp only[drun]at h
  cases ho:QcN all i with
  |none=>rw[ho]at h;exact h.elim
  |some o=>
   rw[ho]at h
   rw[XS]at ho
   dsimp only at h
   cases hdo:QbR nt o.dst with
   |false=>rw[hdo]at h;exact h.elim
   |true=>
    rw[hdo]at h
    simp only[cond_true]at h
    cases hg:Qb1 all o.guard with
    |none=>rw[hg]at h;exact h.elim
    |some g=>
     rw[hg]at h
     dsimp only at h
     have hgo:∀env,DP V T Γ nt all env0 M0 hs env M->(∀ρ a,EnvOk ρ nt env a->Region.wanted o (yielded all.toArray a.tmps)=true) ->
      (bif (rwE Γ M (Qv V T env M M.length o.op)).2.2 then Qdr fn id all.toArray N0 (⟨i,(rwE Γ M (Qv V T env M M.length o.op)).1,(rwE Γ M (Qv V T env M M.length o.op)).2.1,[],true⟩::hs.map (·.h))/\Xs Γ M o (fun x us=>drun V T Γ nt next fn id all N0 l (⟨i,(rwE Γ M (Qv V T env M M.length o.op)).1,(rwE Γ M (Qv V T env M M.length o.op)).2.1,x.refs++QI us,(rwE Γ M (Qv V T env M M.length o.op)).2.2⟩::hs.map (·.h)) (Proofs.YtflgoaogcenmpaaDoor.putS o.dst x env) (Qj M us)) (Qv V T env M M.length o.op)
       else Xs Γ M o (fun x us=>drun V T Γ nt next fn id all N0 l (⟨i,(rwE Γ M (Qv V T env M M.length o.op)).1,(rwE Γ M (Qv V T env M M.length o.op)).2.1,x.refs++QI us,(rwE Γ M (Qv V T env M M.length o.op)).2.2⟩::hs.map (·.h)) (Proofs.YtflgoaogcenmpaaDoor.putS o.dst x env) (Qj M us)) (Qv V T env M M.length o.op)) ->
      ∃hs' env' M',DP V T Γ nt all env0 M0 (hs'++hs) env' M'/\Front V T Γ nt next fn id all N0 (hs'++hs) env' M'/\∀h∈hs',h.h.bar=false:=by
      intro env hd hw h
      cases hb:(rwE Γ M (Qv V T env M M.length o.op)).2.2 with
      |true=>
       rw[hb]at h
       exact⟨[],env,M,hd,.bar i o l ho hdo hw (by have:=h.1;unfold Qdr at this;simpa using this) h.2,by simp⟩
      |false=>
       rw[hb]at h
       obtain⟨x,us,hK,hW,hnd,hst⟩:=Qen hΓ hb h
       obtain⟨hs',env',M',g1,g2,g3⟩:=XW hΓ l (⟨⟨i,(rwE Γ M (Qv V T env M M.length o.op)).1,(rwE Γ M (Qv V T env M M.length o.op)).2.1,x.refs++QI us,false⟩,o,x,us⟩::hs) _ _
        (.op hd ⟨ho,hdo,hW,hnd,fun b hb=>hb,.inr ⟨hw,rfl,rfl,.inr hst⟩⟩) hK
       refine⟨hs'++[_],env',M',by rw[List.append_assoc];exact g1,by rw[List.append_assoc];exact g2,fun h hh=>?_⟩
       rcases List.mem_append.1 hh with hh|hh
       · exact g3 h hh
       · rw[List.mem_singleton]at hh;subst hh;rfl
     have hskip:∀env,DP V T Γ nt all env0 M0 hs env M->(∀ρ a,EnvOk ρ nt env a->Region.wanted o (yielded all.toArray a.tmps)=false)->drun V T Γ nt next fn id all N0 l (⟨i,[],[],[],false⟩::hs.map (·.h)) (Proofs.YtflgoaogcenmpaaDoor.putS o.dst (sv undef) env) M ->
      ∃hs' env' M',DP V T Γ nt all env0 M0 (hs'++hs) env' M'/\Front V T Γ nt next fn id all N0 (hs'++hs) env' M'/\∀h∈hs',h.h.bar=false:=by
      intro env hd hw h
      obtain⟨hs',env',M',g1,g2,g3⟩:=XW hΓ l (⟨⟨i,[],[],[],false⟩,o,sv undef,[]⟩::hs) _ _ (.op hd ⟨ho,hdo,rfl,List.nodup_nil,fun b hb=>by simp[SV.refs,SA.refs,SC.refs,QI]at hb,.inl ⟨rfl,rfl,hw⟩⟩) h
      refine⟨hs'++[_],env',M',by rw[List.append_assoc];exact g1,by rw[List.append_assoc];exact g2,fun h hh=>?_⟩
      rcases List.mem_append.1 hh with hh|hh
      · exact g3 h hh
      · rw[List.mem_singleton]at hh;subst hh;rfl
     cases g with
     |none=>exact hgo env hd (fun ρ a hE=>(Xb hE hg).1 rfl) h
     |some tw=>
      obtain⟨t,want⟩:=tw
      dsimp only at h
      split at h
      · rename_i b hl
        have hwb:∀ρ a,EnvOk ρ nt ((t,sv (.bool b))::env) a->Region.wanted o (yielded all.toArray a.tmps)=(b==want):=fun ρ a hE=>(Xb hE hg).2.1 t want b rfl (by simp[lk])
        have hd':=DP.same hd hl
        cases b<;>cases want<;>simp only[cond_true,cond_false]at h
        · exact hgo _ hd' hwb h
        · exact hskip _ hd' hwb h
        · exact hskip _ hd' hwb h
        · exact hgo _ hd' hwb h
      · rename_i u hl
        exact hskip _ hd (fun ρ a hE=>(Xb hE hg).2.2 t want u rfl hl) h
      · exact h.elim
theorem statB_spec {B:List (List Nat)}(h:QcD all B=true) {i j:Nat}{o p:Oper}(ho:all[i]?=some o) (hp:all[j]?=some p) (hij:i≠j):
 (∀t,p.dst=some t->o.dst≠some t)/\∀t,p.dst=some t->t∈o.looksAt all.toArray->j∈nthL B i\/i∈nthL B j:=by
 unfold QcD at h
 rw[List.all_eq_true]at h
 have h1:=h i (List.mem_range.2 (List.getElem?_eq_some_iff.1 ho).1)
 rw[XS,ho]at h1
 simp only[Bool.and_eq_true,List.all_eq_true]at h1
 have h2:=h1.2 j (List.mem_range.2 (List.getElem?_eq_some_iff.1 hp).1)
 rw[nbeq hij,XS,hp]at h2
 simp only[Bool.false_or,Bool.and_eq_true,Bool.or_eq_true]at h2
 refine⟨fun t ht hd=>QN h2.1 t (by simp[dstL,ht]) (by simp[dstL,hd]),fun t ht hl=>?_⟩
 rcases h2.2 with h3|h3|h3
 · exact absurd hl (QN h3 t (by simp[dstL,ht]))
 · exact .inl (Qt.1 h3)
 · exact .inr (Qt.1 h3)
theorem QcC {B:List (List Nat)}(h:QcD all B=true) {i:Nat}{o:Oper}(ho:all[i]?=some o):(∀cs b,o.op≠ .select cs b)/\∀e∈o.after,Xe e=true->e.on<i:=by
 unfold QcD at h
 rw[List.all_eq_true]at h
 have h1:=h i (List.mem_range.2 (List.getElem?_eq_some_iff.1 ho).1)
 rw[XS,ho]at h1
 simp only[Bool.and_eq_true,List.all_eq_true]at h1
 refine⟨fun cs b e=>?_,fun e he hb=>?_⟩
 · have:=h1.1.1;rw[e]at this;cases this
 · have:=h1.1.2 e (by simpa using he)
   rw[hb]at this
   exact Qr (by simpa using this)
theorem Qn {B:List (List Nat)}:∀ {post:List HX}{y:HX}{pre:List HX},Q7 B (post++y::pre)=true ->
 (∀x∈pre,x.i≠y.i/\y.i∉nthL B x.i/\(x.i∈nthL B y.i\/QcS x y=true))/\(∀z∈post,y.i≠z.i/\z.i∉nthL B y.i/\(y.i∈nthL B z.i\/QcS y z=true))
 |[],y,pre,h=>by
  simp only[List.nil_append,Q7,Bool.and_eq_true,List.all_eq_true]at h
  refine⟨fun x hx=>?_,by simp⟩
  have:=h.1 x hx
  simp only[Bool.not_eq_true',Bool.or_eq_true]at this
  refine⟨fun e=>by rw[e]at this;simp at this,fun e=>?_,this.2.imp Qt.1 id⟩
  rw[Qt.2 e]at this;exact absurd this.1.2 (by simp)
 |z::post,y,pre,h=>by
  simp only[List.cons_append,Q7,Bool.and_eq_true,List.all_eq_true]at h
  obtain⟨g1,g2⟩:=Qn h.2
  refine⟨g1,fun q hq=>?_⟩
  rcases List.mem_cons.1 hq with rfl|hq
  · have:=h.1 y (by simp)
    simp only[Bool.not_eq_true',Bool.or_eq_true]at this
    refine⟨fun e=>by rw[e]at this;simp at this,fun e=>?_,this.2.imp Qt.1 id⟩
    rw[Qt.2 e]at this;exact absurd this.1.2 (by simp)
  · exact g2 q hq
theorem Xz {x y:HX}(h:QcS x y=true):(∀b∈x.W,b∉y.R/\b∉y.W)/\∀b∈y.W,b∉x.R/\b∉x.W:=by
 unfold QcS at h
 simp only[Bool.and_eq_true]at h
 exact⟨fun b hb=>⟨QN h.1.1 b hb,QN h.1.2 b hb⟩,fun b hb=>⟨QN h.2 b hb,fun hx=>QN h.1.2 b hx hb⟩⟩
theorem Qby {L:Nat->Bool}{b:Nat}:∀ {hs:List Hop},(∀k∈hs,(k.us.map (·.1)).Nodup)->(∀k∈hs,L k.h.i=false->b∉k.us.map (·.1))->getB (Qu L M0 hs) b=getB (QbP M0 hs) b
 |[],_,_=>rfl
 |k::r,hn,h=>by
  have ih:=Qby (hs:=r) (fun k hk=>hn k (List.mem_cons_of_mem _ hk)) (fun k hk=>h k (List.mem_cons_of_mem _ hk))
  simp only[Qu,QbP]
  cases hL:L k.h.i
  · rw[cond_false,Ql k.us _ (h k List.mem_cons_self hL)];exact ih
  · rw[cond_true]
    by_cases hb:b∈k.us.map (·.1)
    · exact Qaq hb (hn k List.mem_cons_self) _ _
    · rw[Ql k.us _ hb,Ql k.us _ hb];exact ih
theorem Qb2 {L:Nat->Bool}{b:Nat}{rest:List Hop}:∀ {hs:List Hop},(∀k∈hs,L k.h.i=true->b∉k.us.map (·.1))->getB (Qu L M0 (hs++rest)) b=getB (Qu L M0 rest) b
 |[],_=>rfl
 |k::r,h=>by
  have ih:=Qb2 (hs:=r) (rest:=rest) (fun k hk=>h k (List.mem_cons_of_mem _ hk))
  simp only[List.cons_append,Qu]
  cases hL:L k.h.i
  · exact ih
  · rw[cond_true,Ql k.us _ (h k List.mem_cons_self hL)];exact ih
theorem Qar {L L':Nat->Bool}:∀ {hs:List Hop},(∀k∈hs,L' k.h.i=L k.h.i)->Qu L' M0 hs=Qu L M0 hs
 |[],_=>rfl
 |k::r,h=>by simp only[Qu];rw[h k List.mem_cons_self,Qar (fun k hk=>h k (List.mem_cons_of_mem _ hk))]
theorem Qbz {L:Nat->Bool}{rest:List Hop}:∀ {hs:List Hop},(∀k∈hs,L k.h.i=false)->Qu L M0 (hs++rest)=Qu L M0 rest
 |[],_=>rfl
 |k::r,h=>by simp only[List.cons_append,Qu,h k List.mem_cons_self,cond_false];exact Qbz (fun k hk=>h k (List.mem_cons_of_mem _ hk))
theorem QcU {L L':Nat->Bool}{k:Hop}{b:Nat}(hk:L k.h.i=false) (hk':L' k.h.i=true) (hn:(k.us.map (·.1)).Nodup) {pre:List Hop}:∀ {post:List Hop},(∀q∈post,L' q.h.i=L q.h.i)->(∀q∈pre,L' q.h.i=L q.h.i)->(∀q∈post,L q.h.i=true->∀c∈k.us.map (·.1),c∉q.us.map (·.1))->(∀q∈post,(q.us.map (·.1)).Nodup) ->
 getB (Qu L' M0 (post++k::pre)) b=getB (Qj (Qu L M0 (post++k::pre)) k.us) b
 |[],h1,h2,_,_=>by simp only[List.nil_append,Qu,hk,hk',cond_true,cond_false,Qar h2]
 |q::post,h1,h2,h3,h4=>by
  have ih:=QcU (b:=b) hk hk' hn (post:=post) (pre:=pre) (fun z hz=>h1 z (List.mem_cons_of_mem _ hz)) h2 (fun z hz=>h3 z (List.mem_cons_of_mem _ hz)) (fun z hz=>h4 z (List.mem_cons_of_mem _ hz))
  simp only[List.cons_append,Qu]
  rw[h1 q List.mem_cons_self]
  cases hL:L q.h.i
  · exact ih
  · simp only[cond_true]
    by_cases hb:b∈q.us.map (·.1)
    · rw[Qaq hb (h4 q List.mem_cons_self) _ (Qu L M0 (post++k::pre)),Ql k.us _ (fun hk=>h3 q List.mem_cons_self hL b hk hb)]
    · rw[Ql q.us _ hb,ih]
      by_cases hb2:b∈k.us.map (·.1)
      · exact Qaq hb2 hn _ _
      · rw[Ql k.us _ hb2,Ql k.us _ hb2,Ql q.us _ hb]
structure PA (ρ:Nat->Nat) (a0:Act) (L:Nat->Bool) (hs:List Hop) (nt:Nat) (a:Act):Prop where
 defers:a.defers=[]
 size:a.tmps.size=nt
 got:∀h∈hs,L h.h.i=true->∀t,h.o.dst=some t->a.tmps[t]?=some (h.x.den ρ)
 old:∀t,(∀h∈hs,L h.h.i=true->h.o.dst≠some t)->a.tmps[t]?=a0.tmps[t]?
theorem QbJ {ρ:Nat->Nat}(h0:a0.defers=[]) (hs0:a0.tmps.size=nt):∀ {hs:List Hop},(∀k∈hs,QbR nt k.o.dst=true)->hs.Pairwise (fun k q=>∀t,k.o.dst=some t->q.o.dst≠some t)->PA ρ a0 (fun _=>true) hs nt (actT ρ a0 hs)
 |[],_,_=>⟨h0,hs0,by simp,fun _ _=>rfl⟩
 |k::r,hd,hp=>by
  rw[List.pairwise_cons]at hp
  have ih:=QbJ (ρ:=ρ) h0 hs0 (hs:=r) (fun q hq=>hd q (List.mem_cons_of_mem _ hq)) hp.2
  have hk:=hd k List.mem_cons_self
  cases hdst:k.o.dst with
  |none=>
   have e:actT ρ a0 (k::r)=actT ρ a0 r:=by simp only[actT,hdst];rfl
   rw[e]
   refine⟨ih.defers,ih.size,fun h hh hL t ht=>?_,fun t h=>ih.old t (fun q hq hL=>h q (List.mem_cons_of_mem _ hq) hL)⟩
   rcases List.mem_cons.1 hh with rfl|hh
   · rw[hdst]at ht;cases ht
   · exact ih.got h hh hL t ht
  |some d=>
   rw[hdst]at hk
   have hlt:=Qr hk
   have e:actT ρ a0 (k::r)=(actT ρ a0 r).put (some d) (k.x.den ρ):=by simp only[actT,hdst]
   rw[e]
   refine⟨ih.defers,by simp only[Act.put,Array.size_setIfInBounds];exact ih.size,fun h hh hL t ht=>?_,fun t h=>?_⟩
   · simp only[Act.put]
     rcases List.mem_cons.1 hh with rfl|hh
     · rw[hdst]at ht;cases ht
       rw[Array.getElem?_setIfInBounds_self_of_lt (by rw[ih.size];exact hlt)]
     · have:d≠t:=fun e=>by subst e;exact hp.1 h hh d hdst ht
       rw[Array.getElem?_setIfInBounds_ne this];exact ih.got h hh hL t ht
   · simp only[Act.put]
     have:d≠t:=fun e=>by subst e;exact h k List.mem_cons_self rfl hdst
     rw[Array.getElem?_setIfInBounds_ne this];exact ih.old t (fun q hq hL=>h q (List.mem_cons_of_mem _ hq) hL)
theorem Qcc:∀(n:Nat) (l:List Nat),l.Nodup->(∀x∈l,x<n)->l.length<=n
 |0,[],_,_=>Nat.le_refl _
 |0,x::r,_,h=>absurd (h x List.mem_cons_self) (Nat.not_lt_zero _)
 |n+1,l,hn,h=>by
  by_cases hm:n∈l
  · have:=Qcc n (l.erase n) (hn.erase n) (fun x hx=>by
     rw[hn.mem_erase_iff]at hx
     have:=h x hx.2;omega)
    rw[List.length_erase_of_mem hm]at this
    omega
  · have:=Qcc n l hn (fun x hx=>by
     have:=h x hx
     have:x≠n:=fun e=>hm (e ▸ hx)
     omega)
    omega
def unl (listed:Array Bool) (n:Nat):Nat:=(List.range n).countP (fun j=>!listed.getD j false)
theorem Qb5 {f g:Nat->Bool}{i:Nat}(hf:f i=true) (hg:g i=false):∀ {l:List Nat},l.Nodup->i∈l->(∀j,j≠i->g j=f j)->l.countP f=l.countP g+1
 |[],_,h,_=>by simp at h
 |j::r,hn,h,hh=>by
  rw[List.nodup_cons]at hn
  rw[List.countP_cons,List.countP_cons]
  by_cases e:j=i
  · subst e
    have:r.countP f=r.countP g:=List.countP_congr (fun k hk=>by rw[hh k (fun e=>hn.1 (e ▸ hk))])
    rw[hf,hg,this];simp
  · rcases List.mem_cons.1 h with h|h
    · exact absurd h.symm e
    · rw[Qb5 hf hg hn.2 h hh,hh j e];omega
theorem Qcl (listed:Array Bool) (i j:Nat) (hi:i<listed.size):(listed.setIfInBounds i true).getD j false=(if j=i then true else listed.getD j false):=by
 rw[Array.getD_eq_getD_getElem?,Array.getElem?_setIfInBounds,Array.getD_eq_getD_getElem?]
 by_cases e:i=j
 · subst e;simp[hi]
 · rw[if_neg e,if_neg (fun h=>e h.symm)]
theorem QfU {listed:Array Bool}{n i:Nat}(hs:listed.size=n) (hi:i<n) (hL:listed.getD i false=false):unl listed n=unl (listed.setIfInBounds i true) n+1:=
 Qb5 (by simp[hL]) (by rw[Qcl _ _ _ (by omega)];simp) List.nodup_range (List.mem_range.2 hi) (fun j hj=>by rw[Qcl _ _ _ (by omega),if_neg hj])
theorem QcI {listed:Array Bool}{i:Nat}(h:i∈Region.ready .any all.toArray listed):∃o,all[i]?=some o/\listed.getD i true=false/\∀e∈o.after,Xe e=true->listed.getD e.on false=true:=by
 unfold Region.ready at h
 rw[List.mem_filter]at h
 obtain⟨h1,h2⟩:=h
 have hi:i<all.length:=by simpa using List.mem_range.1 h1
 refine⟨all[i],List.getElem?_eq_getElem hi,?_⟩
 rw[List.getElem?_toArray,List.getElem?_eq_getElem hi]at h2
 simp only[Option.map_some,Option.getD_some,Bool.and_eq_true,Bool.not_eq_true',Array.all_eq_true]at h2
 refine⟨h2.1,fun e he hb=>?_⟩
 obtain⟨k,hk,rfl⟩:=Array.mem_iff_getElem.1 he
 have:=h2.2 k hk
 rw[Qc5,hb]at this
 simpa using this
theorem Qev {B:List (List Nat)}(hst:QcD all B=true) {listed:Array Bool}(hs:listed.size=all.length) (h:Region.ready .any all.toArray listed=[]):∀j,j<all.length->listed.getD j false=true:=by
 intro j
 induction j using Nat.strongRecOn with
 |_ j ih=>
  intro hj
  cases hL:listed.getD j false with
  |true=>rfl
  |false=>
   exfalso
   have hL':listed.getD j true=false:=by
    rw[Array.getD_eq_getD_getElem?,Array.getElem?_eq_getElem (by omega)]at hL ⊢
    exact hL
   have:j∈Region.ready .any all.toArray listed:=by
    unfold Region.ready
    rw[List.mem_filter]
    refine⟨List.mem_range.2 (by simpa using hj),?_⟩
    rw[List.getElem?_toArray,List.getElem?_eq_getElem hj]
    simp only[Option.map_some,Option.getD_some,Bool.and_eq_true,Bool.not_eq_true',Array.all_eq_true]
    refine⟨hL',fun k hk=>?_⟩
    rw[Qc5]
    cases hb:Xe (all[j].after[k])with
    |false=>rfl
    |true=>
     have hlt:=(QcC hst (List.getElem?_eq_getElem hj)).2 _ (Array.getElem_mem hk) hb
     simp only[Bool.not_true,Bool.false_or]
     exact ih _ hlt (by omega)
   rw[h]at this
   simp at this
theorem Front.chk {N0:Nat}{hs:List Hop}{env:Env}{M:List SB}(h:Front V T Γ nt next fn id all N0 hs env M):∃H:List HX,chkB N0 all H=true/\∃bs:List HX,H=bs++hs.map (·.h):=by
 cases h with
 |fin hl hc hn=>exact⟨_,hc,[],rfl⟩
 |bar i o l ho hd hw hc hk=>exact⟨_,hc,[_],rfl⟩
structure Qgm (N0:Nat) (all:List Oper) (H:List HX):Prop where
 st:QcD all (XM [] all)=true
 pr:Q7 (XM [] all) H=true
 br:QfK all.length (XM [] all) H=true
 rf:∀x∈H,∀b∈x.f,b<N0\/b∈x.W\/∃y∈H,y.i∈bef all x.i/\b∈y.W
 lt:∀x∈H,x.i<all.length
theorem XL {N0:Nat}{H:List HX}(h:chkB N0 all H=true):Qgm N0 all H:=by
 unfold chkB at h
 simp only[Bool.and_eq_true,List.all_eq_true]at h
 obtain⟨⟨⟨⟨h1,h2⟩,h3⟩,h4⟩,h5⟩:=h
 refine⟨h1,h2,h3,fun x hx b hb=>?_,fun x hx=>Qr (h5 x hx)⟩
 have:=h4 x hx
 unfold refsB at this
 rw[List.all_eq_true]at this
 have:=this b hb
 simp only[Bool.or_eq_true,List.any_eq_true,Bool.and_eq_true]at this
 rcases this with (h|h)|⟨y,h1,h2,h3⟩
 · exact .inl (Qr h)
 · exact .inr (.inl (Qt.1 h))
 · exact .inr (.inr ⟨y,h1,Qt.1 h2,Qt.1 h3⟩)
theorem QM {B:List (List Nat)}:∀ {bs hs:List HX},Q7 B (bs++hs)=true->Q7 B hs=true
 |[],_,h=>h
 |b::r,hs,h=>by
  simp only[List.cons_append,Q7,Bool.and_eq_true]at h
  exact QM h.2
theorem Qb0 {B:List (List Nat)}{hs:List Hop}(hp:Q7 B (hs.map (·.h))=true) {h k:Hop}(hh:h∈hs) (hk:k∈hs) (e:h.h.i=k.h.i):h=k:=by
 obtain⟨post,pre,rfl⟩:=List.append_of_mem hh
 rw[List.map_append,List.map_cons]at hp
 obtain⟨g1,g2⟩:=Qn hp
 rcases List.mem_append.1 hk with hk|hk
 · exact absurd e (g2 k.h (List.mem_map_of_mem hk)).1
 · rcases List.mem_cons.1 hk with rfl|hk
   · rfl
   · exact absurd e.symm (g1 k.h (List.mem_map_of_mem hk)).1
theorem QbD {B:List (List Nat)}(hst:QcD all B=true):∀ {hs:List Hop},Q7 B (hs.map (·.h))=true->(∀k∈hs,all[k.h.i]?=some k.o)->hs.Pairwise (fun k q=>∀t,k.o.dst=some t->q.o.dst≠some t)
 |[],_,_=>List.Pairwise.nil
 |k::r,hp,ho=>by
  rw[List.map_cons]at hp
  have hp2:=hp
  simp only[Q7,Bool.and_eq_true]at hp2
  refine List.pairwise_cons.2 ⟨fun q hq t ht=>?_,QbD hst hp2.2 (fun q hq=>ho q (List.mem_cons_of_mem _ hq))⟩
  obtain⟨g1,-⟩:=Qn (post:=[]) hp
  exact (statB_spec hst (ho q (List.mem_cons_of_mem _ hq)) (ho k List.mem_cons_self) (g1 q.h (List.mem_map_of_mem hq)).1).1 t ht
def pres (N0:Nat) (L:Nat->Bool) (hs:List Hop):Nat->Bool:=fun b=>b.blt N0||hs.any (fun k=>L k.h.i&&memN b k.h.W)
theorem pres_iff {N0:Nat}{L:Nat->Bool}{hs:List Hop}{b:Nat}:pres N0 L hs b=true↔b<N0\/∃k∈hs,L k.h.i=true/\b∈k.h.W:=by
 unfold pres
 simp only[Bool.or_eq_true,List.any_eq_true,Bool.and_eq_true,Qt,Nat.blt_eq]
theorem Qax {N0:Nat}{L:Nat->Bool}{hs:List Hop}{bs:List HX}(hL:Qa6 all L) (hc:Qgm N0 all (bs++hs.map (·.h))) (ho:∀k∈hs,all[k.h.i]?=some k.o) (hin:∀i,L i=true->∃k∈hs,k.h.i=i)
 {k:Hop}(hk:k∈hs) (hLk:L k.h.i=true):∀b∈k.h.f,pres N0 L hs b=true:=by
 intro b hb
 rw[pres_iff]
 rcases hc.rf k.h (List.mem_append_right _ (List.mem_map_of_mem hk)) b hb with h|h|⟨y,hy,h1,h2⟩
 · exact .inl h
 · exact .inr ⟨k,hk,hLk,h⟩
 · have hLy:=Qaa hL (ho k hk) hLk h1
   obtain⟨q,hq,he⟩:=hin _ hLy
   obtain⟨post,pre,e⟩:=List.append_of_mem hy
   have hp:=hc.pr
   have:q.h=y:=by
    have hqm:q.h∈bs++hs.map (·.h):=List.mem_append_right _ (List.mem_map_of_mem hq)
    rw[e]at hp hqm
    obtain⟨g1,g2⟩:=Qn hp
    rcases List.mem_append.1 hqm with h|h
    · exact absurd he.symm (g2 _ h).1
    · rcases List.mem_cons.1 h with h|h
      · exact h
      · exact absurd he (g1 _ h).1
   exact .inr ⟨q,hq,by rw[he];exact hLy,by rw[this];exact h2⟩
theorem Qcn {N0:Nat}{L:Nat->Bool}{p:Nat->Bool}(hM0:MemAv (sc N0) M0) (hp0:∀b,b<N0->p b=true):∀ {hs:List Hop},(∀k∈hs,L k.h.i=true->(k.us.map (·.1)).Nodup/\(∀b∈k.us.map (·.1),p b=true)/\∀b∈QI k.us,p b=true)->MemAv p (Qu L M0 hs)
 |[],_=>fun b=>(hM0 b).imp id (fun h=>⟨hp0 b (Qr h.1),SB.av_mono (fun i hi=>hp0 i (Qr hi)) h.2⟩)
 |k::r,h=>by
  have ih:=Qcn hM0 hp0 (hs:=r) (L:=L) (fun q hq=>h q (List.mem_cons_of_mem _ hq))
  simp only[Qu]
  cases hL:L k.h.i
  · exact ih
  · rw[cond_true]
    obtain⟨h1,h2,h3⟩:=h k List.mem_cons_self hL
    intro b
    by_cases hb:b∈k.us.map (·.1)
    · obtain⟨⟨b',x⟩,hq,rfl⟩:=List.mem_map.1 hb
      right
      rw[Qs k.us _ h1 hq]
      exact⟨h2 _ hb,SB.av_refs (fun c hc=>h3 c (Qc9 hq hc))⟩
    · rw[Ql k.us _ hb];exact ih b
theorem Qbx:∀ {hs:List Hop}{k:Hop},k∈hs->∀b∈k.us.map (·.1),b<(QbP M0 hs).length
 |[],k,h,_,_=>by simp at h
 |q::r,k,h,b,hb=>by
  simp only[QbP]
  rcases List.mem_cons.1 h with rfl|h
  · exact (Xh k.us _).2 b hb
  · have:=Qbx h b hb
    have:=(Xh q.us (QbP M0 r)).1
    omega
theorem Qcm:∀(hs:List Hop),M0.length<=(QbP M0 hs).length
 |[]=>Nat.le_refl _
 |q::r=>by
  have:=Qcm r
  have:=(Xh q.us (QbP M0 r)).1
  simp only[QbP];omega
theorem PA.put {ρ ρ':Nat->Nat}{L L':Nat->Bool}{hs hs':List Hop}{a:Act}(h:PA ρ a0 L hs nt a) {o:Oper}{i:Nat}{x:SV}(hd:QbR nt o.dst=true)
 (hold:∀k∈hs',L' k.h.i=true->k.h.i≠i->k∈hs/\L k.h.i=true/\k.x.den ρ'=k.x.den ρ/\∀t,o.dst=some t->k.o.dst≠some t) (hnew:∀k∈hs',k.h.i=i->k.o=o/\k.x=x) (hold2:∀k∈hs,L k.h.i=true->k∈hs'/\L' k.h.i=true) (hi:∃k∈hs',k.h.i=i/\L' k.h.i=true):
 PA ρ' a0 L' hs' nt (a.put o.dst (x.den ρ')):=by
 obtain⟨k0,hk0,hk0i,hk0L⟩:=hi
 obtain⟨hk0o,hk0x⟩:=hnew k0 hk0 hk0i
 cases hdst:o.dst with
 |none=>
  show PA ρ' a0 L' hs' nt a
  refine⟨h.defers,h.size,fun k hk hL t ht=>?_,fun t hh=>h.old t (fun k hk hL=>hh k (hold2 k hk hL).1 (hold2 k hk hL).2)⟩
  by_cases e:k.h.i=i
  · rw[(hnew k hk e).1,hdst]at ht;cases ht
  · obtain⟨g1,g2,g3,-⟩:=hold k hk hL e
    rw[g3];exact h.got k g1 g2 t ht
 |some d=>
  rw[hdst]at hd
  have hlt:=Qr hd
  refine⟨h.defers,by simp only[Act.put,Array.size_setIfInBounds];exact h.size,fun k hk hL t ht=>?_,fun t hh=>?_⟩
  · simp only[Act.put]
    by_cases e:k.h.i=i
    · obtain⟨g1,g2⟩:=hnew k hk e
      rw[g1,hdst]at ht;cases ht
      rw[Array.getElem?_setIfInBounds_self_of_lt (by rw[h.size];exact hlt),g2]
    · obtain⟨g1,g2,g3,g4⟩:=hold k hk hL e
      have:d≠t:=fun e=>by subst e;exact g4 d hdst ht
      rw[Array.getElem?_setIfInBounds_ne this,g3];exact h.got k g1 g2 t ht
  · simp only[Act.put]
    have:d≠t:=fun e=>by subst e;exact hh k0 hk0 hk0L (by rw[hk0o];exact hdst)
    rw[Array.getElem?_setIfInBounds_ne this]
    exact h.old t (fun k hk hL=>hh k (hold2 k hk hL).1 (hold2 k hk hL).2)
theorem Qfe {ρ:Nat->Nat}{N0:Nat}{L:Nat->Bool}{H:List HX}{post pre:List Hop}{i:Nat}{o:Oper}{a:Act}(hc:Qgm N0 all H) (hL:Qa6 all L) (ho:all[i]?=some o) (he:∀e∈o.after,Xe e=true->L e.on=true)
 {hs:List Hop}(hoo:∀k∈hs,all[k.h.i]?=some k.o) (hsub:∀k∈pre,k∈hs) (hin:∀k∈hs,k∈post\/k∈pre\/L k.h.i=false) (hpost:∀k∈post,k.h.i≠i/\k.h.i∉bef all i) (hpre:∀k∈pre,k.h.i≠i/\i∉bef all k.h.i) (hLi:L i=false)
 (hpa:PA ρ a0 L hs nt a) (hpt:PA ρ a0 (fun _=>true) pre nt (actT ρ a0 pre)):∀t∈o.looksAt all.toArray,a.tmps[t]?=(actT ρ a0 pre).tmps[t]?:=by
 intro t ht
 by_cases h:∃q∈pre,q.o.dst=some t
 · obtain⟨q,hq,hd⟩:=h
   have hb:=((statB_spec hc.st ho (hoo q (hsub q hq)) (fun e=>(hpre q hq).1 e.symm)).2 t hd ht).resolve_right (hpre q hq).2
   have hLq:=QaJ hL ho he _ hb
   rw[hpa.got q (hsub q hq) hLq t hd,hpt.got q hq rfl t hd]
 · rw[hpt.old t (fun q hq _ hd=>h ⟨q,hq,hd⟩)]
   refine hpa.old t (fun q hq hLq hd=>?_)
   rcases hin q hq with h1|h1|h1
   · obtain⟨g1,g2⟩:=hpost q h1
     rcases (statB_spec hc.st ho (hoo q hq) (fun e=>g1 e.symm)).2 t hd ht with h2|h2
     · exact g2 h2
     · rw[Qaa hL (hoo q hq) hLq h2]at hLi;cases hLi
   · exact h ⟨q,h1,hd⟩
   · rw[h1]at hLq;cases hLq
set_option maxHeartbeats 2000000 in
theorem Qfy {N0:Nat}(hΓ:GamOk P w0 S Γ) (hV:OldOk V w0 S) (hT:TabOk P T) (hT2:TysOk P T) (hlen:M0.length=N0) (hM0:MemAv (sc N0) M0) (henv:Q4 (sc N0) env0=true)
 (hd0:a0.defers=[]) (hs0:a0.tmps.size=nt) (hE0:∀ρ,(∀i,i<N0->ρ i=ρ0 i)->EnvOk ρ nt env0 a0)
 (hnext:∀env M ρ a w,(∀i,i<N0->ρ i=ρ0 i)->N0<=M.length->MemAv (sc M.length) M->Q4 (sc M.length) env=true->next env M->EnvOk ρ nt env a->Mem w0 S (denM ρ 0 M) w->Q .normal a w):
 ∀(fuel:Nat) (listed:Array Bool) (hs:List Hop) (env:Env) (M:List SB) (a:Act) (w:World) (ρ:Nat->Nat),listed.size=all.length->unl listed all.length=fuel->Qa6 all (fun j=>listed.getD j false) ->
  DP V T Γ nt all env0 M0 hs env M->Front V T Γ nt next fn id all N0 hs env M->(∀i,listed.getD i false=true->∃k∈hs,k.h.i=i)->(∀k∈hs,k.h.bar=true->listed.getD k.h.i false=true) ->
  PA ρ a0 (fun j=>listed.getD j false) hs nt a->(∀i,i<N0->ρ i=ρ0 i)->Mem w0 S (denM ρ 0 (Qu (fun j=>listed.getD j false) M0 hs)) w->wpAny P .any all.toArray Q fuel listed a w:=by
 have hend:∀(listed:Array Bool) (hs:List Hop) (env:Env) (M:List SB) (a:Act) (w:World) (ρ:Nat->Nat),listed.size=all.length->(∀j,j<all.length->listed.getD j false=true)->Qa6 all (fun j=>listed.getD j false) ->
  DP V T Γ nt all env0 M0 hs env M->Front V T Γ nt next fn id all N0 hs env M->(∀i,listed.getD i false=true->∃k∈hs,k.h.i=i) ->
  PA ρ a0 (fun j=>listed.getD j false) hs nt a->(∀i,i<N0->ρ i=ρ0 i)->Mem w0 S (denM ρ 0 (Qu (fun j=>listed.getD j false) M0 hs)) w->Q .normal a w:=by
  intro listed hs env M a w ρ hsz hall hL hd hF hin hpa hag HM
  have hok:=hd.allOk
  obtain⟨H,hH,bs,rfl⟩:=hF.chk
  have hc:=XL hH
  have hLk:∀k∈hs,listed.getD k.h.i false=true:=fun k hk=>hall _ (hc.lt k.h (List.mem_append_right _ (List.mem_map_of_mem hk)))
  cases hF with
  |bar i o l ho hdo hw hcc hk=>
   exfalso
   have hi:=(List.getElem?_eq_some_iff.1 ho).1
   obtain⟨k,hk,e⟩:=hin i (hall i hi)
   have:=(Qn (post:=[]) (XL hcc).pr).1 k.h (List.mem_map_of_mem hk)
   exact this.1 e
  |fin hl hcc hn=>
   have hm:=hd.mem
   have hpt:=QbJ (ρ:=ρ) hd0 hs0 (hs:=hs) (fun k hk=>(hok k hk).2.1) (QbD hc.st (QM hc.pr) (fun k hk=>(hok k hk).1))
   have hE:=hd.env (hE0 ρ hag)
   have hlt:∀k∈hs,∀b∈k.h.W,b<M.length:=fun k hk b hb=>by rw[hm];exact Qbx hk b (by rw[(hok k hk).2.2.1];exact hb)
   have hge:N0<=M.length:=by rw[hm,<- hlen];exact Qcm hs
   have hpm:∀b,pres N0 (fun j=>listed.getD j false) hs b=true->sc M.length b=true:=fun b hb=>by
    rcases pres_iff.1 hb with h|⟨k,hk,-,hb⟩
    · exact QR (by omega)
    · exact QR (hlt k hk b hb)
   have hrefs:=fun (k:Hop) (hk:k∈hs)=>Qax hL hc (fun k hk=>(hok k hk).1) hin hk (hLk k hk)
   have hfe:∀b,getB (Qu (fun j=>listed.getD j false) M0 hs) b=getB M b:=fun b=>by
    rw[hm];exact Qby (fun k hk=>(hok k hk).2.2.2.1) (fun k hk h=>by rw[hLk k hk]at h;cases h)
   have hav:MemAv (sc M.length) M:=by
    have:=Qcn (L:=fun j=>listed.getD j false) (p:=sc M.length) hM0 (fun b hb=>QR (by omega)) (hs:=hs) (fun k hk hLk'=>⟨(hok k hk).2.2.2.1,fun b hb=>QR (hlt k hk b (by rw[<- (hok k hk).2.2.1];exact hb)),fun b hb=>hpm b (hrefs k hk b ((hok k hk).2.2.2.2 b (List.mem_append_right _ hb)))⟩)
    intro b
    rw[<- hfe b];exact this b
   have henv':Q4 (sc M.length) env=true:=by
    have key:∀ {hs' env' M'},DP V T Γ nt all env0 M0 hs' env' M'->(∀k∈hs',k∈hs)->Q4 (sc M.length) env'=true:=by
     intro hs' env' M' hd'
     induction hd' with
     |nil=>intro _;exact Xm (fun i hi=>QR (by have:=Qr hi;omega)) henv
     |same hd' hx ih=>intro hsub;simp only[Q4,Bool.and_eq_true];exact⟨Qga (ih hsub) hx,ih hsub⟩
     | @op hs' env' M' k hd' ho ih=>
       intro hsub
       have h1:=ih (fun q hq=>hsub q (List.mem_cons_of_mem _ hq))
       unfold putS
       split
       · simp only[Q4,Bool.and_eq_true]
         exact⟨SV.av_refs (fun b hb=>hpm b (hrefs k (hsub k List.mem_cons_self) b (ho.2.2.2.2.1 b (List.mem_append_left _ hb)))),h1⟩
       · exact h1
    exact key hd (fun k hk=>hk)
   have hEa:EnvOk ρ nt env a:=by
    refine⟨hpa.defers,hpa.size,fun t x hx=>?_⟩
    have:=hE.get t x hx
    rw[<- this]
    by_cases h:∃q∈hs,q.o.dst=some t
    · obtain⟨q,hq,hdq⟩:=h
      rw[hpa.got q hq (hLk q hq) t hdq,hpt.got q hq rfl t hdq]
    · rw[hpa.old t (fun q hq _ hdq=>h ⟨q,hq,hdq⟩),hpt.old t (fun q hq _ hdq=>h ⟨q,hq,hdq⟩)]
   rw[Qa4 hfe]at HM
   exact hnext env M ρ a w hag hge hav henv' hn hEa HM
 intro fuel
 induction fuel with
 |zero=>
  intro listed hs env M a w ρ hsz hun hL hd hF hin hbar hpa hag HM
  have hall:∀j,j<all.length->listed.getD j false=true:=fun j hj=>by
   unfold unl at hun
   rw[List.countP_eq_zero]at hun
   have:=hun j (List.mem_range.2 hj)
   simpa using this
  refine⟨?_,hend listed hs env M a w ρ hsz hall hL hd hF hin hpa hag HM⟩
  cases hr:Region.ready .any all.toArray listed with
  |nil=>rfl
  |cons i r=>
   exfalso
   obtain⟨o,ho,hl,-⟩:=QcI (all:=all) (listed:=listed) (i:=i) (by rw[hr];exact List.mem_cons_self)
   have hi:=(List.getElem?_eq_some_iff.1 ho).1
   have:=hall i hi
   rw[Array.getD_eq_getD_getElem?,Array.getElem?_eq_getElem (by omega)]at this hl
   simp only[Option.getD_some]at this hl
   rw[this]at hl;cases hl
 |succ fuel ih=>
  intro listed hs env M a w ρ hsz hun hL hd hF hin hbar hpa hag HM
  have hok:=hd.allOk
  obtain⟨H,hH,bs,rfl⟩:=hF.chk
  have hc:=XL hH
  have hpr:=QM hc.pr
  refine⟨fun hr=>hend listed hs env M a w ρ hsz (Qev hc.st hsz hr) hL hd hF hin hpa hag HM,fun i hi=>?_⟩
  obtain⟨o,ho,hli,he⟩:=QcI hi
  have hilt:=(List.getElem?_eq_some_iff.1 ho).1
  have hli':listed.getD i false=false:=by
   rw[Array.getD_eq_getD_getElem?,Array.getElem?_eq_getElem (by omega)]at hli ⊢
   exact hli
  have hun':unl (listed.setIfInBounds i true) all.length=fuel:=by have:=QfU hsz hilt hli';omega
  have hsz':(listed.setIfInBounds i true).size=all.length:=by rw[Array.size_setIfInBounds];exact hsz
  have hL':∀j,(listed.setIfInBounds i true).getD j false=(if j=i then true else listed.getD j false):=fun j=>Qcl _ _ _ (by omega)
  have hLn:∀j,j≠i->(listed.setIfInBounds i true).getD j false=listed.getD j false:=fun j hj=>by rw[hL',if_neg hj]
  have hcl':Qa6 all (fun j=>(listed.setIfInBounds i true).getD j false):=by
   intro j p hp hj e hee hb
   by_cases hji:j=i
   · subst hji
     rw[ho]at hp;cases hp
     have:=he e hee hb
     simp only[hL'];split<;>simp_all
   · simp only[hLn j hji]at hj
     have:=hL j p hp hj e hee hb
     simp only[hL'];split<;>simp_all
  have hst:=(QcC hc.st ho).1
  have hoo:∀k∈hs,all[k.h.i]?=some k.o:=fun k hk=>(hok k hk).1
  have hpav:MemAv (pres N0 (fun j=>listed.getD j false) hs) (Qu (fun j=>listed.getD j false) M0 hs):=
   Qcn hM0 (fun b hb=>pres_iff.2 (.inl hb)) (fun k hk hLk=>⟨(hok k hk).2.2.2.1,fun b hb=>pres_iff.2 (.inr ⟨k,hk,hLk,by rw[<- (hok k hk).2.2.1];exact hb⟩),fun b hb=>Qax hL hc hoo hin hk hLk b ((hok k hk).2.2.2.2 b (List.mem_append_right _ hb))⟩)
  have exec:∀(post pre hs1:List Hop) (env':Env) (M':List SB) (R W:List Nat),hs=post++hs1->(hs1=pre\/∃k,hs1=k::pre/\listed.getD k.h.i false=false)->DP V T Γ nt all env0 M0 pre env' M' ->
   (∀q∈post,q.h.i≠i/\q.h.i∉bef all i/\(listed.getD q.h.i false=true->(∀b∈R,b∉q.h.W)/\∀b∈W,b∉q.h.W))->(∀q∈pre,q.h.i≠i/\i∉bef all q.h.i/\(listed.getD q.h.i false=false->(∀b∈R,b∉q.h.W)/\∀b∈W,b∉q.h.W)) ->
   (∀t∈o.looksAt all.toArray,a.tmps[t]?=(actT ρ a0 pre).tmps[t]?)/\EnvOk ρ nt env' (actT ρ a0 pre)/\(∀b,b∈R\/b∈W->getB (Qu (fun j=>listed.getD j false) M0 hs) b=getB M' b) /\
   (∀b∈W,M'.length<=b->pres N0 (fun j=>listed.getD j false) hs b=false):=by
   intro post pre hs1 env' M' R W ehs e0 hdp hpost hpre
   have hsub:∀q∈pre,q∈hs:=fun q hq=>by
    rw[ehs]
    rcases e0 with rfl|⟨k,rfl,-⟩
    · exact List.mem_append_right _ hq
    · exact List.mem_append_right _ (List.mem_cons_of_mem _ hq)
   have hm:=hdp.mem
   have hpt:=QbJ (ρ:=ρ) hd0 hs0 (hs:=pre) (fun k hk=>(hok k (hsub k hk)).2.1) (QbD hc.st (by
    rw[ehs,List.map_append]at hpr
    have:=QM hpr
    rcases e0 with rfl|⟨k,rfl,-⟩
    · exact this
    · exact QM (bs:=[k.h]) this) (fun k hk=>hoo k (hsub k hk)))
   have hfold:∀b,b∈R\/b∈W->getB (Qu (fun j=>listed.getD j false) M0 hs) b=getB M' b:=by
    intro b hb
    rw[ehs,Qb2 (fun q hq hLq=>by
     rw[(hok q (by rw[ehs];exact List.mem_append_left _ hq)).2.2.1]
     rcases hb with hb|hb
     · exact ((hpost q hq).2.2 hLq).1 b hb
     · exact ((hpost q hq).2.2 hLq).2 b hb)]
    have:Qu (fun j=>listed.getD j false) M0 hs1=Qu (fun j=>listed.getD j false) M0 pre:=by
     rcases e0 with rfl|⟨k,rfl,hk⟩
     · rfl
     · simp only[Qu,hk,cond_false]
    rw[this,hm]
    refine Qby (fun q hq=>(hok q (hsub q hq)).2.2.2.1) (fun q hq hLq=>?_)
    rw[(hok q (hsub q hq)).2.2.1]
    rcases hb with hb|hb
    · exact ((hpre q hq).2.2 hLq).1 b hb
    · exact ((hpre q hq).2.2 hLq).2 b hb
   refine⟨Qfe (post:=post) (hs:=hs) hc hL ho (fun e hee hb=>he e hee hb) hoo hsub (fun q hq=>?_) (fun q hq=>⟨(hpost q hq).1,(hpost q hq).2.1⟩) (fun q hq=>⟨(hpre q hq).1,(hpre q hq).2.1⟩) hli' hpa hpt,hdp.env (hE0 ρ hag),hfold,fun b hb hge=>?_⟩
   · rw[ehs]at hq
     rcases List.mem_append.1 hq with hq|hq
     · exact .inl hq
     · rcases e0 with rfl|⟨k,rfl,hk⟩
       · exact .inr (.inl hq)
       · rcases List.mem_cons.1 hq with rfl|hq
         · exact .inr (.inr hk)
         · exact .inr (.inl hq)
   · cases hp:pres N0 (fun j=>listed.getD j false) hs b with
     |false=>rfl
     |true=>
      exfalso
      have hM'ge:N0<=M'.length:=by rw[hm,<- hlen];exact Qcm pre
      rcases pres_iff.1 hp with h|⟨q,hq,hLq,hbq⟩
      · omega
      · rw[ehs]at hq
        rcases List.mem_append.1 hq with hq|hq
        · exact ((hpost q hq).2.2 hLq).2 b hb hbq
        · have hqpre:q∈pre:=by
           rcases e0 with rfl|⟨k,rfl,hk⟩
           · exact hq
           · rcases List.mem_cons.1 hq with rfl|hq
             · rw[hk]at hLq;cases hLq
             · exact hq
          have:b<M'.length:=by rw[hm];exact Qbx hqpre b (by rw[(hok q (hsub q hqpre)).2.2.1];exact hbq)
          omega
  unfold wpOp
  rw[List.getElem?_toArray,ho]
  dsimp only
  by_cases hex:∃k∈hs,k.h.i=i
  · -- an operation that the run has behind it
    obtain⟨k,hk,rfl⟩:=hex
    obtain⟨post,pre,ehs⟩:=List.append_of_mem hk
    obtain⟨env',M',hdp,hop⟩:=hd.split post k pre ehs
    have hko:o=k.o:=by have:=hop.1;rw[ho]at this;exact Option.some.inj this
    subst hko
    have hpr':=hpr
    rw[ehs,List.map_append,List.map_cons]at hpr'
    obtain⟨p1,p2⟩:=Qn hpr'
    have hbefL:∀j,j∈bef all k.h.i->listed.getD j false=true:=fun j hj=>QaJ hL ho (fun e hee hb=>he e hee hb) j hj
    obtain⟨x1,x2,x3,x4⟩:=exec post pre (k::pre) env' M' k.h.R k.h.W ehs (.inr ⟨k,rfl,hli'⟩) hdp (fun q hq=>by
     obtain⟨g1,g2,g3⟩:=p2 q.h (List.mem_map_of_mem hq)
     refine⟨fun e=>g1 e.symm,g2,fun hLq=>?_⟩
     rcases g3 with g3|g3
     · have:=Qaa hL (hoo q (by rw[ehs];exact List.mem_append_left _ hq)) hLq g3
       rw[hli']at this;cases this
     · have:=Xz g3
       exact⟨fun b hb hbq=>(this.2 b hbq).1 hb,fun b hb hbq=>(this.2 b hbq).2 hb⟩) (fun q hq=>by
     obtain⟨g1,g2,g3⟩:=p1 q.h (List.mem_map_of_mem hq)
     refine⟨g1,g2,fun hLq=>?_⟩
     rcases g3 with g3|g3
     · have:=hbefL _ g3
       rw[hLq]at this;cases this
     · have:=Xz g3
       exact⟨fun b hb hbq=>(this.1 b hbq).1 hb,fun b hb hbq=>(this.1 b hbq).2 hb⟩)
    have hexec:execOp a.eval k.o=execOp (actT ρ a0 pre).eval k.o:=execOp_congr k.o hst (fun x hx=>QcY (fun t hxt=>x1 t (by
     unfold Oper.looksAt
     refine List.mem_append_left _ (List.mem_filterMap.2 ⟨x,by simpa using hx,by rw[hxt]⟩))))
    have hwt:=Qbh (ops:=all.toArray) (o:=k.o) x1
    have hkhs:k∈hs:=hk
    have hnext2:∀(w':World) (ρ':Nat->Nat),(∀b,pres N0 (fun j=>listed.getD j false) hs b=true->ρ' b=ρ b)->Mem w0 S (denM ρ' 0 (Qj (Qu (fun j=>listed.getD j false) M0 hs) k.us)) w' ->
     wpAny P .any all.toArray Q fuel (listed.setIfInBounds k.h.i true) (a.put k.o.dst (k.x.den ρ')) w':=by
     intro w' ρ' hρ' HM'
     have hag':∀i,i<N0->ρ' i=ρ0 i:=fun i hi=>(hρ' i (pres_iff.2 (.inl hi))).trans (hag i hi)
     refine ih _ hs env M _ w' ρ' hsz' hun' hcl' hd hF (fun j hj=>?_) (fun q hq hb=>?_) ?_ hag' ?_
     · by_cases e:j=k.h.i
       · exact⟨k,hk,e.symm⟩
       · rw[hLn j e]at hj;exact hin j hj
     · have:=hbar q hq hb
       rw[hL'];split<;>simp_all
     · refine PA.put hpa hop.2.1 (fun q hq hLq hne=>?_) (fun q hq e=>?_) (fun q hq hLq=>⟨hq,by simp only[hL'];split<;>simp_all⟩) ⟨k,hk,rfl,by simp only[hL',if_true]⟩
       · simp only[hLn _ hne]at hLq
         refine⟨hq,hLq,?_,fun t ht hd=>?_⟩
         · refine SV.av_den (p:=pres N0 (fun j=>listed.getD j false) hs) hρ' (SV.av_refs (fun b hb=>Qax hL hc hoo hin hq hLq b ((hok q hq).2.2.2.2 b (List.mem_append_left _ hb))))
         · exact (statB_spec hc.st ho (hoo q hq) (fun e=>hne e.symm)).1 t hd ht
       · have:=hop.1
         have e2:=Qb0 hpr hq hk e
         subst e2;exact⟨rfl,rfl⟩
     · have hpt:∀b,getB (Qu (fun j=>(listed.setIfInBounds k.h.i true).getD j false) M0 hs) b=getB (Qj (Qu (fun j=>listed.getD j false) M0 hs) k.us) b:=by
        intro b
        rw[ehs]
        refine QcU hli' (by simp only[hL',if_true]) (hok k hk).2.2.2.1 (fun q hq=>hLn _ (fun e=>(p2 q.h (List.mem_map_of_mem hq)).1 e.symm)) (fun q hq=>hLn _ (p1 q.h (List.mem_map_of_mem hq)).1) (fun q hq hLq c hc2=>?_) (fun q hq=>(hok q (by rw[ehs];exact List.mem_append_left _ hq)).2.2.2.1)
        have hqhs:q∈hs:=by rw[ehs];exact List.mem_append_left _ hq
        rw[(hok q hqhs).2.2.1]
        rw[(hok k hk).2.2.1]at hc2
        obtain⟨g1,g2,g3⟩:=p2 q.h (List.mem_map_of_mem hq)
        rcases g3 with g3|g3
        · have:=Qaa hL (hoo q hqhs) hLq g3
          rw[hli']at this;cases this
        · exact fun hcq=>((Xz g3).2 c hcq).2 hc2
       rw[Qa4 hpt];exact HM'
    rcases hop.2.2.2.2.2 with⟨hx0,hu0,hskip⟩|⟨hwant,hR,hW,hb|hst2⟩
    · rw[if_neg (by rw[hwt,hskip ρ _ x2];simp)]
      have:=hnext2 w ρ (fun _ _=>rfl) (by rw[hu0];exact HM)
      rw[hx0]at this
      exact this
    · exact absurd (hbar k hk hb) (by rw[hli'];simp)
    · rw[if_pos (by rw[hwt];exact hwant ρ _ x2)]
      left
      refine QaL ?_
      rw[hexec]
      have hE:=Qcq (P:=P) (V:=V) (ρ:=ρ) (M:=M') (nx:=M'.length) (env:=env') (T:=T) (hV.v HM.kept) hT hT2 x2 k.o
      rw[hR,hW]at x3
      have hWn:(rwE Γ M' (Qv V T env' M' M'.length k.o.op)).2.1.Nodup:=by rw[<- hW,<- hop.2.2.1];exact hop.2.2.2.1
      have hleft:=Qb8 (o:=k.o) hΓ HM.kept hE (fun b hb x hx=>by
       rw[<- x3 b (.inl hb)]at hx;exact HM.at b x hx) (by
       have:=HM.some _ hWn
       rw[XX _ (fun b hb=>x3 b (.inr hb))]at this
       exact this) hst2
      refine Does.mono hleft ?_
      rintro v w' ⟨x,us,ρ',⟨rfl,rfl⟩,h1,h2,h3,rfl,h4⟩
      have hρ':∀b,pres N0 (fun j=>listed.getD j false) hs b=true->ρ' b=ρ b:=fun b hb=>by
       refine h3 b ?_
       by_cases hbW:b∈(rwE Γ M' (Qv V T env' M' M'.length k.o.op)).2.1
       · left
         rcases Nat.lt_or_ge b M'.length with h|h
         · exact h
         · have:=x4 b (by rw[hW];exact hbW) h
           rw[this]at hb;cases hb
       · exact .inr hbW
      refine hnext2 w' ρ' hρ' (HM.ups hpav hρ' k.us hop.2.2.2.1 ?_)
      rw[h1,XX _ (fun b hb=>x3 b (.inr hb))]
      exact h4
  · -- the one at which the run stands
    cases hF with
    |fin hl hcc hn=>
     exfalso
     have hnd:(hs.map (fun k=>k.h.i)).Nodup:=by
      have:∀(l:List Hop),Q7 (XM [] all) (l.map (·.h))=true->(l.map (fun k=>k.h.i)).Nodup:=by
       intro l
       induction l with
       |nil=>intro _;exact List.nodup_nil
       |cons q r ih=>
        intro h
        rw[List.map_cons]at h
        have h1:=(Qn (post:=[]) h).1
        simp only[Q7,Bool.and_eq_true]at h
        refine List.nodup_cons.2 ⟨fun hm=>?_,ih h.2⟩
        obtain⟨z,hz,e⟩:=List.mem_map.1 hm
        exact (h1 z.h (List.mem_map_of_mem hz)).1 e
      exact this hs hpr
     have:=Qcc all.length (i::hs.map (fun k=>k.h.i)) (List.nodup_cons.2 ⟨fun h=>by obtain⟨z,hz,e⟩:=List.mem_map.1 h;exact hex ⟨z,hz,e⟩,hnd⟩) (fun j hj=>by
      rcases List.mem_cons.1 hj with rfl|hj
      · exact hilt
      · obtain⟨z,hz,rfl⟩:=List.mem_map.1 hj
        exact hc.lt z.h (List.mem_append_right _ (List.mem_map_of_mem hz)))
     simp only[List.length_cons,List.length_map]at this
     omega
    |bar ib ob l hob hdo hw hcc hkk=>
     have hcb:=XL hcc
     have hiib:i=ib:=by
      by_cases e:i=ib
      · exact e
      · exfalso
        have hbr:=hcb.br
        simp only[QfK,Bool.and_eq_true,cond_true,List.all_eq_true]at hbr
        have:=hbr.1 i (List.mem_range.2 hilt)
        simp only[Bool.or_eq_true,Qt,List.mem_cons,List.map_map,List.mem_map,Function.comp]at this
        rcases this with (h|⟨q,hq,h⟩)|h
        · exact e h
        · exact hex ⟨q,hq,h⟩
        · have hLb:=QaJ hL ho (fun e hee hb=>he e hee hb) ib h
          obtain⟨q,hq,e2⟩:=hin ib hLb
          exact ((Qn (post:=[]) hcb.pr).1 q.h (List.mem_map_of_mem hq)).1 e2
     subst hiib
     rw[ho]at hob
     have hob:=Option.some.inj hob
     subst hob
     have p1:=(Qn (post:=[]) hcb.pr).1
     have hbefL:∀j,j∈bef all i->listed.getD j false=true:=fun j hj=>QaJ hL ho (fun e hee hb=>he e hee hb) j hj
     obtain⟨x1,x2,x3,x4⟩:=exec [] hs hs env M (rwE Γ M (Qv V T env M M.length o.op)).1 (rwE Γ M (Qv V T env M M.length o.op)).2.1 rfl (.inl rfl) hd (by simp) (fun q hq=>by
      obtain⟨g1,g2,g3⟩:=p1 q.h (List.mem_map_of_mem hq)
      refine⟨g1,g2,fun hLq=>?_⟩
      rcases g3 with g3|g3
      · have:=hbefL _ g3
        rw[hLq]at this;cases this
      · have:=Xz g3
        exact⟨fun b hb hbq=>(this.1 b hbq).1 hb,fun b hb hbq=>(this.1 b hbq).2 hb⟩)
     have hexec:execOp a.eval o=execOp (actT ρ a0 hs).eval o:=execOp_congr o hst (fun x hx=>QcY (fun t hxt=>x1 t (by
      unfold Oper.looksAt
      refine List.mem_append_left _ (List.mem_filterMap.2 ⟨x,by simpa using hx,by rw[hxt]⟩))))
     have hwt:=Qbh (ops:=all.toArray) (o:=o) x1
     rw[if_pos (by rw[hwt];exact hw ρ _ x2)]
     left
     refine QaL ?_
     rw[hexec]
     have hE:=Qcq (P:=P) (V:=V) (ρ:=ρ) (M:=M) (nx:=M.length) (env:=env) (T:=T) (hV.v HM.kept) hT hT2 x2 o
     have hWn:(rwE Γ M (Qv V T env M M.length o.op)).2.1.Nodup:=Qbk hkk
     have hleft:=Qb8 (o:=o) hΓ HM.kept hE (fun b hb x hx=>by
      rw[<- x3 b (.inl hb)]at hx;exact HM.at b x hx) (by
      have:=HM.some _ hWn
      rw[XX _ (fun b hb=>x3 b (.inr hb))]at this
      exact this) hkk
     refine Does.mono hleft ?_
     rintro v w' ⟨x,us,ρ',hK,h1,h2,h3,rfl,h4⟩
     have hρ':∀b,pres N0 (fun j=>listed.getD j false) hs b=true->ρ' b=ρ b:=fun b hb=>by
      refine h3 b ?_
      by_cases hbW:b∈(rwE Γ M (Qv V T env M M.length o.op)).2.1
      · left
        rcases Nat.lt_or_ge b M.length with h|h
        · exact h
        · have:=x4 b hbW h
          rw[this]at hb;cases hb
      · exact .inr hbW
     have HM':=HM.ups hpav hρ' us (by rw[h1];exact h2) (by
      rw[h1,XX _ (fun b hb=>x3 b (.inr hb))]
      exact h4)
     let k:Hop:=⟨⟨i,(rwE Γ M (Qv V T env M M.length o.op)).1,(rwE Γ M (Qv V T env M M.length o.op)).2.1,x.refs++QI us,true⟩,o,x,us⟩
     have hdk:DP V T Γ nt all env0 M0 (k::hs) (putS o.dst x env) (Qj M us):=.op hd ⟨ho,hdo,h1,by rw[h1];exact h2,fun b hb=>hb,.inr ⟨hw,rfl,rfl,.inl rfl⟩⟩
     obtain⟨hs2,env2,M2,d2,F2,nb2⟩:=XW (hs:=k::hs) hΓ l _ _ hdk hK
     have hag':∀i,i<N0->ρ' i=ρ0 i:=fun i hi=>(hρ' i (pres_iff.2 (.inl hi))).trans (hag i hi)
     obtain⟨H2,hH2,bs2,rfl⟩:=F2.chk
     have hc2:=XL hH2
     have hpr2:=QM hc2.pr
     have hpr3:=hpr2
     rw[List.map_append]at hpr3
     have hnot2:∀q∈hs2,(∀z∈k::hs,z.h.i≠q.h.i):=fun q hq z hz=>by
      obtain⟨post,pre,e⟩:=List.append_of_mem hz
      rw[e,List.map_append,List.map_cons,<- List.append_assoc]at hpr3
      exact ((Qn hpr3).2 q.h (List.mem_append_left _ (List.mem_map_of_mem hq))).1
     have hL2off:∀q∈hs2,(listed.setIfInBounds i true).getD q.h.i false=false:=fun q hq=>by
      have hne:q.h.i≠i:=fun e=>hnot2 q hq k List.mem_cons_self e.symm
      rw[hLn _ hne]
      cases hLq:listed.getD q.h.i false with
      |false=>rfl
      |true=>
       obtain⟨z,hz,e⟩:=hin _ hLq
       exact absurd e (hnot2 q hq z (List.mem_cons_of_mem _ hz))
     refine ih _ (hs2++k::hs) env2 M2 _ w' ρ' hsz' hun' hcl' d2 F2 (fun j hj=>?_) (fun q hq hb=>?_) ?_ hag' ?_
     · by_cases e:j=i
       · exact⟨k,by simp,e.symm⟩
       · rw[hLn j e]at hj
         obtain⟨q,hq,e⟩:=hin j hj
         exact⟨q,List.mem_append_right _ (List.mem_cons_of_mem _ hq),e⟩
     · rcases List.mem_append.1 hq with hq|hq
       · rw[nb2 q hq]at hb;cases hb
       · rcases List.mem_cons.1 hq with rfl|hq
         · rw[hL',if_pos rfl]
         · have:=hbar q hq hb
           rw[hL'];split<;>simp_all
     · refine PA.put hpa hdo (fun q hq hLq hne=>?_) (fun q hq e=>?_) (fun q hq hLq=>⟨List.mem_append_right _ (List.mem_cons_of_mem _ hq),by simp only[hL'];split<;>simp_all⟩) ⟨k,by simp,rfl,by simp only[hL'];exact if_pos rfl⟩
       · rcases List.mem_append.1 hq with hq2|hq2
         · simp only[hL2off q hq2]at hLq;cases hLq
         · rcases List.mem_cons.1 hq2 with rfl|hq
           · exact absurd rfl hne
           · simp only[hLn _ hne]at hLq
             refine⟨hq,hLq,?_,fun t ht hd=>?_⟩
             · refine SV.av_den (p:=pres N0 (fun j=>listed.getD j false) hs) hρ' (SV.av_refs (fun b hb=>Qax hL hc hoo hin hq hLq b ((hok q hq).2.2.2.2 b (List.mem_append_left _ hb))))
             · exact (statB_spec hc.st ho (hoo q hq) (fun e=>hne e.symm)).1 t hd ht
       · have e2:=Qb0 hpr2 hq (List.mem_append_right _ List.mem_cons_self:k∈hs2++k::hs) e
         subst e2;exact⟨rfl,rfl⟩
     · rw[Qbz hL2off]
       have:Qu (fun j=>(listed.setIfInBounds i true).getD j false) M0 (k::hs)=Qj (Qu (fun j=>listed.getD j false) M0 hs) us:=by
        simp only[Qu]
        rw[show (listed.setIfInBounds i true).getD k.h.i false=true by rw[hL'];exact if_pos rfl,cond_true,Qar (L:=fun j=>listed.getD j false) (L':=fun j=>(listed.setIfInBounds i true).getD j false) (fun q hq=>hLn _ (fun e=>hex ⟨q,hq,e⟩))]
       rw[this];exact HM'
end
end
section
open Go.RowKit
def QbQ (id:Nat):List Item->Option (List Item)
 |.inBlock i::k=>bif i.beq id then some k else QbQ id k
 |_::k=>QbQ id k
 |[]=>none
abbrev OS:=List (Code × List Item × (Env->List SB->Prop))
def flat:OS->List Item
 |[]=>[]
 |(b,k,_)::r=>.inLoop b::(k++flat r)
inductive NZ where
 |tmp (t e sz:Nat) (ks:List CK)
 |cell (t o e sz:Nat) (ks:List CK)
 |blk (b o e sz:Nat) (ks:List CK)
def nrmB (env:Env) (M:List SB) (b o e sz:Nat) (ks:List CK):Env × List SB:=match getB M b with
 |.cells l t=>match segGet l o with
  |some (.v (.slice none n m))=>match QG l o (.so M.length 0 sz 0 0 false)with
   |some l'=>bif b.blt M.length&&(n.beq 0&&m.beq 0)then (env,Qj M [(b,.cells l' t),(M.length,.rows e ks sz 0 0 (fun _ _=>0))])else (env,M)
   |none=>(env,M)
  |_=>(env,M)
 |_=>(env,M)
def nrm1 (env:Env) (M:List SB):NZ->Env × List SB
 |.tmp t e sz ks=>match lk env t with
  |some (.o (.c (.v (.slice none n m))))=>bif n.beq 0&&m.beq 0 then ((t,.o (.c (.so M.length 0 sz 0 0 false)))::env,Qj M [(M.length,.rows e ks sz 0 0 (fun _ _=>0))])else (env,M)
  |_=>(env,M)
 |.cell t o e sz ks=>match lk env t with
  |some (.o (.c (.p b off)))=>nrmB env M b (off+o) e sz ks
  |_=>(env,M)
 |.blk b o e sz ks=>nrmB env M b o e sz ks
def nrmS:List NZ->Env->List SB->Env × List SB
 |[],env,M=>(env,M)
 |z::r,env,M=>match nrm1 env M z with
  |(env',M')=>nrmS r env' M'
structure Ann where
 σ:Type
 I:σ->Env × List SB
 dec:σ->Nat
 pi:Env->List SB->List Nat
 nz:List NZ
 rel:Option (σ->σ->Prop):=none
abbrev Anns:=List (Nat × Ann)
def lkA:Anns->Nat->Option Ann
 |[],_=>none
 |(t,i)::r,u=>bif t.beq u then some i else lkA r u
def lkAG:List (Nat × Anns)->Nat->Anns
 |[],_=>[]
 |(t,i)::r,u=>bif t.beq u then i else lkAG r u
def annAt (An:Anns):List Item->Option Ann
 |.inBlock id::_=>lkA An id
 |_=>none
def QeK (f:Nat->Nat) (env:Env):Env->Prop
 |[]=>True
 |(t,x)::r=>lk env t=some (x.ren f)/\QeK f env r
def idB:Nat->Nat->List Nat->Bool
 |_,0,_=>true
 |i,n+1,j::r=>i.beq j&&idB (i+1) n r
 |_,_+1,[]=>false
def QeJ (k0:Nat) (π:List Nat) (G:Env × List SB) (env:Env) (M:List SB):Prop:=
 bif nodB π&&Qav M.length π&&idB 0 k0 π&&QB (sc G.2.length) G.2&&Q4 (sc G.2.length) G.1&&k0.ble G.2.length then QeK (ofL π) env G.1/\π.map (getB M)=G.2.map (SB.ren (ofL π))else False
def Qbu (k0:Nat) (A:Ann) (s:A.σ) (env:Env) (M:List SB):Prop:=match nrmS A.nz env M with
 |(env',M')=>QeJ k0 (A.pi env' M') (A.I s) env' M'
def Qd8 (id:Nat):List Item->OS->Option (List Item × OS)
 |k,os=>match QbQ id k with
  |some k'=>some (k',os)
  |none=>match os with
   |[]=>none
   |(_,k',_)::r=>Qd8 id k' r
def Qq:Nat->List SA->Env
 |_,[]=>[]
 |i,x::r=>(i,.o x)::Qq (i+1) r
def resS (V:World) (T:Tab) (env:Env) (M:List SB):ResultVar->Option (Option Prop × SA)
 |.tmp t=>match lk env t with
  |some (.o x)=>some (none,x)
  |_=>none
 |.cell b t=>match lk env b with
  |some (.o (.c (.p c off)))=>match QeL V T M t (some (.o (.c (.p c off))))with
   |.eff _ vc (.o x) []=>some (vc,x)
   |_=>none
  |_=>none
def Qeg:Option Prop->Option Prop->Option Prop
 |none,q=>q
 |some p,none=>some p
 |some p,some q=>some (p/\q)
theorem QdY {p q:Option Prop}:vcP (Qeg p q)↔vcP p/\vcP q:=by cases p<;>cases q<;>simp[Qeg,vcP]
def resL (V:World) (T:Tab) (env:Env) (M:List SB):List ResultVar->Option (Option Prop × List SA)
 |[]=>some (none,[])
 |r::l=>match resS V T env M r,resL V T env M l with
  |some (p,x),some (q,y)=>some (Qeg p q,x::y)
  |_,_=>none
def svOf:List SA->SV
 |[x]=>.o x
 |l=>.t l
def finS (V:World) (T:Tab) (res:List ResultVar) (R:SV->List SB->Prop) (env:Env) (M:List SB):Prop:=match resL V T env M res with
 |some (vc,l)=>Qeh vc (R (svOf l) M)
 |none=>False
structure Fx where
 fn:Func
 nt:Nat
 an:Anns
 k0:Nat
 fin:Env->List SB->Prop
def isInl:Option Con->Option (Func × Code)
 |some (.inl fn c)=>some (fn,c)
 |_=>none
def Qfv (Γ:Gam):Eff->Option (Nat × Func × Code × List SA)
 |.call f args=>match isInl (lkGA Γ f args)with
  |some (fn,c)=>some (f,fn,c,args)
  |none=>none
 |_=>none
def Qak (p:Nat->Bool):List SA->Bool
 |[]=>true
 |x::r=>x.av p&&Qak p r
def QaM (p:Nat->Bool):Ups->Bool
 |[]=>true
 |(_,x)::r=>x.av p&&QaM p r
section
variable (V:World) (T:Tab) (Γ:Gam) (AG:List (Nat × Anns))
def run:Nat->Fx->Option (List Oper × List Oper)->OS->List Item->Env->List SB->Prop
 |0,_,_,_,_,_,_=>False
 |_+1,fx,none,os,[],env,M=>match os with
  |[]=>fx.fin env M
  |(_,_,hook)::_=>hook env M
 |n+1,fx,none,os,.inBlock _::k,env,M=>run n fx none os k env M
 |n+1,fx,none,os,.inLoop b::k,env,M=>run n fx none os (.code b::.inLoop b::k) env M
 |n+1,fx,none,os,.code c::k,env,M=>match c with
  |.skip=>run n fx none os k env M
  |.label _=>run n fx none os k env M
  |.seq x y=>run n fx none os (.code x::.code y::k) env M
  |.block id b=>run n fx none os (.code b::.inBlock id::k) env M
  |.loop b=>match annAt fx.an k with
   |none=>run n fx none os (.code b::.inLoop b::k) env M
   |some A=>match A.rel with
    |none=>(∃s0:A.σ,Qbu fx.k0 A s0 env M)/\∀s:A.σ,run n fx none ((b,k,fun env M=>∃s':A.σ,Qbu fx.k0 A s' env M/\A.dec s'<A.dec s)::os) [.code b] (A.I s).1 (A.I s).2
    |some rl=>∃s0:A.σ,Qbu fx.k0 A s0 env M/\rl s0 s0/\∀s:A.σ,rl s0 s->run n fx none ((b,k,fun env M=>∃s':A.σ,Qbu fx.k0 A s' env M/\rl s0 s'/\A.dec s'<A.dec s)::os) [.code b] (A.I s).1 (A.I s).2
  |.exit id=>match Qd8 id k os with
   |some (k',os')=>run n fx none os' k' env M
   |none=>False
  |.ret=>fx.fin env M
  |.cond c x y=>match Qf env c with
   |some (.o (.c (.v (.bool b))))=>bif b then run n fx none os (.code x::k) env M else run n fx none os (.code y::k) env M
   |_=>False
  |.region _ ops false=>run n fx (some (ops.toList,ops.toList)) os k env M
  |.region id ops true=>drun V T Γ fx.nt (fun env M=>run n fx none os k env M) fx.fn id ops.toList M.length (QfP Γ ops.toList) [] env M
  |_=>False
 |_+1,_,none,_,_::_,_,_=>False
 |n+1,fx,some (_,[]),os,k,env,M=>run n fx none os k env M
 |n+1,fx,some (all,o::l),os,k,env,M=>
  bif QbR fx.nt o.dst then match Qb1 all o.guard with
   |some g=>
    let go:Env->Prop:=fun env=>
     let e:=Qv V T env M M.length o.op
     match Qfv Γ e with
     |some (f,fn,c,args)=>bif args.length.ble fn.ntmps&&Qak (sc M.length) args then
      run n ⟨fn,fn.ntmps,lkAG AG f,M.length,fun env' M'=>finS V T fn.results.toList (fun x M''=>bif x.av (sc M''.length)then run n fx (some (all,l)) os k (putS o.dst x env) M'' else False) env' M'⟩ none [] [.code c] (Qq 0 args) M else False
     |none=>Xs Γ M o (fun x us=>bif x.av (sc (Qj M us).length)&&QaM (sc (Qj M us).length) us then run n fx (some (all,l)) os k (putS o.dst x env) (Qj M us)else False) e
    match g with
    |none=>go env
    |some (t,want)=>match lk env t with
     |some (.o (.c (.v (.bool b))))=>
      bif b then (bif want then go ((t,sv (.bool true))::env)else run n fx (some (all,l)) os k (putS o.dst (sv undef) ((t,sv (.bool true))::env)) M)
      else (bif want then run n fx (some (all,l)) os k (putS o.dst (sv undef) ((t,sv (.bool false))::env)) M else go ((t,sv (.bool false))::env))
     |some (.o (.c (.v (.tuple _))))=>run n fx (some (all,l)) os k (putS o.dst (sv undef) env) M
     |_=>False
   |none=>False
  else False
end
def Goes (P:Program) (f:FuncId) (fn:Func) (k:List Item) (a:Act) (w:World) (R:Ending->World->Prop):Prop:=
 ∀(b:Frame) (cs:List Frame),b.fn=f->b.kind=.normal->∃e w' fr,R e w'/\Comes P (lone (b.at a k) cs w) (lone fr cs w') e/\fr.fn=f/\fr.leaving P w' e
def Qfb (P:Program) (f:FuncId) (fn:Func) (k:List Item) (R:Ending->World->Prop):Exit->Act->World->Prop
 |.normal,a,w=>Goes P f fn k a w R
 |.exit id,a,w=>∃k',exitTo id k=some k'/\Goes P f fn k' a w R
 |.ret,a,w=>a.defers=[]/\∃v,(results fn a.tmps).run P w=.ok v w/\R (.returned v) w
 |.panic chain,a,w=>a.defers=[]/\R (.panicked chain) w
 |.outgrown,_,w=>R .outgrown w
 |.goto _,_,_=>False
section
variable {P:Program}{f:FuncId}{fn:Func}{R:Ending->World->Prop}
theorem QaE (hf:P.funcs[f]?=some fn) {c:Code}{k:List Item}{a:Act}{w:World}(h:c.wp P (Qfb P f fn k R) a w):Goes P f fn (.code c::k) a w R:=by
 intro b cs hb hk
 obtain⟨e,a',w',hq,harr⟩:=h b k cs
 cases e with
 |normal=>
  obtain⟨e,w2,fr,h1,h2,h3,h4⟩:=hq b cs hb hk
  exact⟨e,w2,fr,h1,Comes.of_steps harr h2,h3,h4⟩
 |exit id=>
  obtain⟨k',hx,hg⟩:=hq
  obtain⟨e,w2,fr,h1,h2,h3,h4⟩:=hg b cs hb hk
  exact⟨e,w2,fr,h1,Comes.of_steps (harr k' hx) h2,h3,h4⟩
 |goto l=>exact hq.elim
 |ret=>
  obtain⟨hd,v,hr,hR⟩:=hq
  obtain⟨todo,hs⟩:=harr
  exact⟨.returned v,w',_,hR,hs,hb,rfl,hd,hk,fn,by rw[<- hb]at hf;exact hf,hr⟩
 |panic chain=>
  obtain⟨hd,hR⟩:=hq
  obtain⟨todo,hs⟩:=harr
  exact⟨.panicked chain,w',_,hR,hs,hb,rfl,hd,fn,by rw[<- hb]at hf;exact hf⟩
 |outgrown=>exact⟨.outgrown,w',b,hq,harr.resolve_left (by rw[hk];simp),hb,trivial⟩
theorem Qfx (hf:P.funcs[f]?=some fn) {a:Act}{w:World}(hd:a.defers=[]) {v:Value}(hr:(results fn a.tmps).run P w=.ok v w) (hR:R (.returned v) w):Goes P f fn [] a w R:=by
 intro b cs hb hk
 exact⟨.returned v,w,_,hR,.one step_end,hb,rfl,hd,hk,fn,by rw[<- hb]at hf;exact hf,hr⟩
theorem Qp {k k':List Item}{a:Act}{w:World}(hs:∀(b:Frame) cs,step P (lone (b.at a k) cs w)=.next (lone (b.at a k') cs w)) (h:Goes P f fn k' a w R):Goes P f fn k a w R:=by
 intro b cs hb hk
 obtain⟨e,w2,fr,h1,h2,h3,h4⟩:=h b cs hb hk
 exact⟨e,w2,fr,h1,Comes.of_steps (.one (hs b cs)) h2,h3,h4⟩
end
end
section
open Go.RowKit
def resF (tmps:Array Value):ResultVar->Sem Value
 |.tmp t=>pure (tmps.getD t undef)
 |.cell b t=>do loadVar t (<- asAddr (tmps.getD b undef))
theorem Qd1 (fn:Func) (tmps:Array Value):results fn tmps=(do let vs <- fn.results.mapM (resF tmps);pure (if h:vs.size=1 then vs[0]else .tuple vs)):=by
 unfold results
 congr 2
section
variable {P:Program}{w0 w:World}{S:Nat->Prop}{ρ:Nat->Nat}{M:List SB}{nt:Nat}{env:Env}{a:Act}{T:Tab}{fn:Func}
theorem Qf3 {V:World}(hV:OldOk V w0 S) (hT:TabOk P T) (hE:EnvOk ρ nt env a) (HM:Mem w0 S (denM ρ 0 M) w) {r:ResultVar}{vc:Option Prop}{x:SA}(h:resS V T env M r=some (vc,x)) (hv:vcP vc):
 (resF a.tmps r).run P w=.ok (x.den ρ) w:=by
 cases r with
 |tmp t=>
  simp only[resS]at h
  split at h
  · rename_i y hl
    simp only[Option.some.injEq,Prod.mk.injEq]at h
    obtain⟨-,rfl⟩:=h
    have:=hE.eval (x:=.tmp t) hl
    simp only[Act.eval]at this
    simp only[resF,this,Sem.run_pure];rfl
  · cases h
 |cell b t=>
  simp only[resS]at h
  split at h
  · rename_i c off hl
    have hp:=hE.eval (x:=.tmp b) hl
    simp only[Act.eval]at hp
    have e:(SV.o (.c (.p c off))).den ρ=.pointer (some ⟨ρ c,off,none⟩):=rfl
    rw[e]at hp
    have hk:=QdH (V:=V) (M:=M) (w:=w) hT (hV.v HM.kept) t (x:=some (.o (.c (.p c off)))) (v:=.pointer (some ⟨ρ c,off,none⟩)) (fun y hy=>by simp only[Option.some.injEq]at hy;subst hy;rfl)
    split at h
    · rename_i TT vc' y hld
      simp only[Option.some.injEq,Prod.mk.injEq]at h
      obtain⟨rfl,rfl⟩:=h
      rw[hld]at hk
      have:=hk.2 (fun b _=>HM.at b) hv
      simp only[Instr.loadAt,Instr.sureAddr,Sem.run_bind,Sem.run_pure,Result.andThen_ok]at this
      simp only[resF,hp,asAddr,Sem.run_bind,Sem.run_pure,Result.andThen_ok]
      cases hr:(loadVar t ⟨ρ c,off,none⟩).run P w with
      |ok v w'=>
       rw[hr]at this
       simp only[Result.andThen_ok,Result.ok.injEq,Next.value.injEq]at this
       obtain⟨rfl,rfl⟩:=this;rfl
      |halt hh w'=>rw[hr]at this;cases this
    · cases h
  · cases h
theorem Qeu {V:World}(hV:OldOk V w0 S) (hT:TabOk P T) (hE:EnvOk ρ nt env a) (HM:Mem w0 S (denM ρ 0 M) w):∀(l:List ResultVar) {vc:Option Prop}{x:List SA},resL V T env M l=some (vc,x)->vcP vc ->
 (l.mapM (resF a.tmps)).run P w=.ok (x.map (SA.den ρ)) w
 |[],vc,x,h,hv=>by
  simp only[resL,Option.some.injEq,Prod.mk.injEq]at h
  obtain⟨-,rfl⟩:=h;rfl
 |r::l,vc,x,h,hv=>by
  simp only[resL]at h
  split at h
  · rename_i p y q z h1 h2
    simp only[Option.some.injEq,Prod.mk.injEq]at h
    obtain⟨rfl,rfl⟩:=h
    obtain⟨v1,v2⟩:=QdY.1 hv
    have e1:=Qf3 hV hT hE HM h1 v1
    have e2:=Qeu hV hT hE HM l h2 v2
    simp only[List.mapM_cons,Sem.run_bind]
    rw[e1]
    simp only[Result.andThen_ok,e2,Sem.run_pure,List.map_cons]
  · cases h
theorem QbU {V:World}(hV:OldOk V w0 S) (hT:TabOk P T) (hE:EnvOk ρ nt env a) (HM:Mem w0 S (denM ρ 0 M) w) {R:SV->List SB->Prop}(h:finS V T fn.results.toList R env M):
 ∃x,R x M/\(results fn a.tmps).run P w=.ok (x.den ρ) w:=by
 unfold finS at h
 split at h
 · rename_i vc l hl
   obtain⟨h1,h2⟩:=QW.1 h
   refine⟨svOf l,h2,?_⟩
   have e:=Qeu hV hT hE HM _ hl h1
   rw[Qd1,Array.mapM_eq_mapM_toList]
   simp only[Sem.run_bind,map_eq_pure_bind]
   rw[e]
   simp only[Result.andThen_ok,Sem.run_pure]
   congr 1
   by_cases h1:l.length=1
   · obtain⟨y,rfl⟩:=List.length_eq_one_iff.1 h1
     simp[svOf,SV.den]
   · rw[dif_neg (by simpa using h1)]
     unfold svOf
     split
     · exact absurd rfl h1
     · rfl
 · exact h.elim
end
structure Inv (ρ0:Nat->Nat) (k0 nt:Nat) (w0:World) (S:Nat->Prop) (env:Env) (M:List SB) (ρ:Nat->Nat) (a:Act) (w:World):Prop where
 av:MemAv (sc M.length) M
 eav:Q4 (sc M.length) env=true
 env:EnvOk ρ nt env a
 mem:Mem w0 S (denM ρ 0 M) w
 ag:∀i,i<k0->ρ i=ρ0 i
 le:k0<=M.length
def QbK (P:Program) (f:FuncId) (fn:Func) (w0:World) (S:Nat->Prop) (ρ0:Nat->Nat) (k0 nt:Nat) (R:Ending->World->Prop):OS->Prop
 |[]=>True
 |(b,k,hook)::r=>(∀env M ρ a w,hook env M->Inv ρ0 k0 nt w0 S env M ρ a w->Goes P f fn (.inLoop b::(k++flat r)) a w R)/\QbK P f fn w0 S ρ0 k0 nt R r
section
variable {P:Program}{f:FuncId}{fn:Func}{R:Ending->World->Prop}{w0:World}{S:Nat->Prop}
theorem Xc (id:Nat) (K:List Item):∀(k:List Item),(∀k',QbQ id k=some k'->exitTo id (k++K)=some (k'++K))/\(QbQ id k=none->exitTo id (k++K)=exitTo id K)
 |[]=>⟨fun k' h=>by simp[QbQ]at h,fun _=>rfl⟩
 |x::r=>by
  have ih:=Xc id K r
  cases x
  case inBlock i=>
   simp only[QbQ,List.cons_append,exitTo]
   by_cases h:i=id
   · subst h;simp
   · have hb:i.beq id=false:=by
      cases hb:i.beq id
      · rfl
      · exact absurd (Nat.eq_of_beq_eq_true hb) h
     have:(i==id)=false:=by simp[h]
     simp only[hb,this,cond_false,Bool.false_eq_true,if_false]
     exact ih
  all_goals (simp only[QbQ,List.cons_append,exitTo];exact ih)
theorem Qb3 {ρ0:Nat->Nat}{k0 nt:Nat}(id:Nat):∀(os:OS) (k k2:List Item) (os2:OS),Qd8 id k os=some (k2,os2)->QbK P f fn w0 S ρ0 k0 nt R os ->
 exitTo id (k++flat os)=some (k2++flat os2)/\QbK P f fn w0 S ρ0 k0 nt R os2
 |[],k,k2,os2,h,hh=>by
  unfold Qd8 at h
  cases hx:QbQ id k with
  |none=>rw[hx]at h;cases h
  |some k'=>
   rw[hx]at h
   simp only[Option.some.injEq,Prod.mk.injEq]at h
   obtain⟨rfl,rfl⟩:=h
   exact⟨(Xc id _ k).1 _ hx,hh⟩
 |(b,k',hook)::r,k,k2,os2,h,hh=>by
  unfold Qd8 at h
  cases hx:QbQ id k with
  |none=>
   rw[hx]at h
   obtain⟨g1,g2⟩:=Qb3 id r k' k2 os2 h hh.2
   exact⟨by rw[(Xc id _ k).2 hx];simp only[flat,exitTo];exact g1,g2⟩
  |some k3=>
   rw[hx]at h
   simp only[Option.some.injEq,Prod.mk.injEq]at h
   obtain⟨rfl,rfl⟩:=h
   exact⟨(Xc id _ k).1 _ hx,hh⟩
theorem QcE {p:Nat->Bool}:∀ {M:List SB},QB p M=true->∀b,(getB M b).av p=true
 |[],_,b=>rfl
 |x::r,h,0=>by simp only[QB,Bool.and_eq_true]at h;exact h.1
 |x::r,h,b+1=>by simp only[QB,Bool.and_eq_true]at h;exact QcE h.2 b
theorem Qcd {M:List SB}(h:QB (sc M.length) M=true):MemAv (sc M.length) M:=fun b=>by
 rcases Nat.lt_or_ge b M.length with hb|hb
 · exact .inr ⟨QR hb,QcE h b⟩
 · exact .inl (QaF M b hb)
theorem QdP:∀(k i:Nat) (π:List Nat),idB i k π=true->∀j,j<k->π[j]?=some (i+j)
 |0,_,_,_,j,h=>by omega
 |k+1,i,[],h,_,_=>by cases h
 |k+1,i,q::r,h,j,hj=>by
  simp only[idB,Bool.and_eq_true]at h
  obtain rfl:=Nat.eq_of_beq_eq_true h.1
  cases j with
  |zero=>rfl
  |succ j=>rw[List.getElem?_cons_succ,QdP k (i+1) r h.2 j (by omega)];congr 1;omega
theorem QbX {f:Nat->Nat}{env:Env}:∀ {E:Env},QeK f env E->∀t x,lk E t=some x->lk env t=some (x.ren f)
 |[],_,t,x,h=>by simp[lk]at h
 |(u,y)::r,hm,t,x,h=>by
  unfold lk at h
  cases hb:u.beq t
  · rw[hb]at h;exact QbX hm.2 t x h
  · rw[hb]at h
    have:=Nat.eq_of_beq_eq_true hb
    subst this
    simp only[cond_true,Option.some.injEq]at h;subst h
    exact hm.1
theorem QeI {ρ0:Nat->Nat}{k0 nt:Nat}{π:List Nat}{G:Env × List SB}{env:Env}{M:List SB}{ρ:Nat->Nat}{a:Act}{w:World}(h:QeJ k0 π G env M) (hi:Inv ρ0 k0 nt w0 S env M ρ a w):
 Inv ρ0 k0 nt w0 S G.1 G.2 (fun i=>ρ (ofL π i)) a w:=by
 unfold QeJ at h
 cases hc:(nodB π&&Qav M.length π&&idB 0 k0 π&&QB (sc G.2.length) G.2&&Q4 (sc G.2.length) G.1&&k0.ble G.2.length)
 · rw[hc]at h;exact h.elim
 · rw[hc]at h
   simp only[cond_true]at h
   simp only[Bool.and_eq_true]at hc
   obtain⟨⟨⟨⟨⟨c1,c2⟩,c3⟩,c4⟩,c5⟩,c6⟩:=hc
   refine⟨Qcd c4,c5,⟨hi.env.defers,hi.env.size,fun t x hx=>?_⟩,?_,fun i hik=>?_,QF c6⟩
   · rw[hi.env.get t _ (QbX h.1 t x hx),SV.ren_den]
   · have hd:=QaG (ρ:=ρ) (M:=M) π G.2 (ofL π) 0 (fun i hi=>by rw[Nat.zero_add,List.getElem?_eq_getElem hi];simp[ofL,List.getD_eq_getElem?_getD,hi]) h.2
     rw[<- hd]
     have hlt:=Q6 c2
     exact (hi.mem.perm (Xn ρ M π M.length (Nat.le_refl _) (QO c1) hlt)).sub (List.sublist_append_left _ _)
   · have:=QdP k0 0 π c3 i hik
     show ρ (ofL π i)=_
     unfold ofL
     rw[List.getD_eq_getElem?_getD,this,Option.getD_some,Nat.zero_add]
     exact hi.ag i hik
theorem Qdq {ρ:Nat->Nat}(args:List SA) (n:Nat) (h:args.length<=n):EnvOk ρ n (Qq 0 args) { tmps:=(args.map (SA.den ρ)).toArray++Array.replicate (n-args.length) undef,defers:=[] }:=by
 have key:∀(l:List SA) (i t:Nat) (x:SV),lk (Qq i l) t=some x->∃j y,t=i+j/\l[j]?=some y/\x=.o y:=by
  intro l
  induction l with
  |nil=>intro i t x h;simp[Qq,lk]at h
  |cons y r ih=>
   intro i t x h
   simp only[Qq,lk]at h
   cases hb:i.beq t
   · rw[hb]at h
     obtain⟨j,z,h1,h2,h3⟩:=ih (i+1) t x h
     exact⟨j+1,z,by omega,h2,h3⟩
   · rw[hb]at h
     have:=Nat.eq_of_beq_eq_true hb
     subst this
     simp only[cond_true,Option.some.injEq]at h;subst h
     exact⟨0,y,rfl,rfl,rfl⟩
 refine⟨rfl,by simp;omega,fun t x hx=>?_⟩
 obtain⟨j,y,rfl,hj,rfl⟩:=key args 0 t x hx
 rw[Nat.zero_add]
 have hlt:j<args.length:=(List.getElem?_eq_some_iff.1 hj).1
 rw[Array.getElem?_append_left (by simpa using hlt),List.getElem?_toArray,List.getElem?_map,hj];rfl
theorem XV {p:Nat->Bool}:∀(l:List SA) (i:Nat),(∀x∈l,x.av p=true)->Q4 p (Qq i l)=true
 |[],_,_=>rfl
 |x::r,i,h=>by simp only[Qq,Q4,Bool.and_eq_true];exact⟨h x List.mem_cons_self,XV r (i+1) (fun y hy=>h y (List.mem_cons_of_mem _ hy))⟩
theorem Qcz {p:Nat->Bool}:∀ {us:Ups},QaM p us=true->∀q∈us,q.2.av p=true
 |[],_,q,h=>by simp at h
 |(b,x)::r,h,q,hq=>by
  simp only[QaM,Bool.and_eq_true]at h
  rcases List.mem_cons.1 hq with rfl|hq
  · exact h.1
  · exact Qcz h.2 q hq
theorem QbW {M:List SB}{us:Ups}(h:MemAv (sc M.length) M) (hn:(us.map (·.1)).Nodup) (hu:QaM (sc (Qj M us).length) us=true):MemAv (sc (Qj M us).length) (Qj M us):=by
 obtain⟨h1,h2⟩:=Xh us M
 intro b
 by_cases hb:b∈us.map (·.1)
 · obtain⟨⟨b',x⟩,hq,rfl⟩:=List.mem_map.1 hb
   right
   rw[Qs us M hn hq]
   exact⟨QR (h2 _ hb),Qcz hu _ hq⟩
 · rw[Ql us M hb]
   exact (h b).imp id (fun hh=>⟨QR (by have:=Qr hh.1;omega),SB.av_mono (fun i hi=>QR (by have:=Qr hi;omega)) hh.2⟩)
theorem Qbm {p:Nat->Bool}:∀(l:List Seg) (o:Nat) (x:SC) (l':List Seg),QG l o x=some l'->x.av p=true->Qi p l=true->Qi p l'=true
 |[],_,_,_,h,_,_=>by simp[QG]at h
 |.one y::r,0,x,l',h,hx,hl=>by
  simp only[QG,Option.some.injEq]at h;subst h
  simp only[Qi,Bool.and_eq_true]at hl ⊢
  exact⟨hx,hl.2⟩
 |.one y::r,o+1,x,l',h,hx,hl=>by
  simp only[QG]at h
  split at h
  · rename_i r' hr
    simp only[Option.some.injEq]at h;subst h
    simp only[Qi,Bool.and_eq_true]at hl ⊢
    exact⟨hl.1,Qbm r o x r' hr hx hl.2⟩
  · cases h
 |.ints k n f::r,o,x,l',h,hx,hl=>by
  simp only[QG]at h
  cases hb:o.blt n
  · rw[hb]at h
    simp only[cond_false]at h
    split at h
    · rename_i r' hr
      simp only[Option.some.injEq]at h;subst h
      simp only[Qi]at hl ⊢
      exact Qbm r _ x r' hr hx hl
    · cases h
  · rw[hb]at h
    simp only[cond_true]at h
    split at h
    · split at h
      · simp only[Option.some.injEq]at h;subst h;exact hl
      · cases h
    · cases h
theorem QeG {ρ0:Nat->Nat}{k0 nt:Nat}{env:Env}{M:List SB}{ρ:Nat->Nat}{a:Act}{w:World}{w0:World}{S:Nat->Prop}(hi:Inv ρ0 k0 nt w0 S env M ρ a w) (us:Ups) (hn:((us++[(M.length,SB.rows 0 [] 0 0 0 (fun _ _=>0))]).map (·.1)).Nodup)
 (e sz:Nat) (ks:List CK) (hu:QaM (sc (M.length+1)) us=true) (hl:∀q∈us,q.1<M.length) (hd:denU ρ us=denT ρ M (us.map (·.1))):
 Inv ρ0 k0 nt w0 S env (Qj M (us++[(M.length,.rows e ks sz 0 0 (fun _ _=>0))])) ρ a w/\(Qj M (us++[(M.length,.rows e ks sz 0 0 (fun _ _=>0))])).length=M.length+1:=by
 have hlen:∀(us:Ups) (M:List SB),(∀q∈us,q.1<M.length)->(Qj M us).length=M.length:=by
  intro us
  induction us with
  |nil=>intro M _;rfl
  |cons q r ih=>
   intro M h
   obtain⟨b,x⟩:=q
   have h1:=(Qbb x M b).2.1 (h _ List.mem_cons_self)
   simp only[Qj]
   rw[ih (putB M b x) (fun q hq=>by rw[h1];exact h q (List.mem_cons_of_mem _ hq)),h1]
 have happ:∀(us vs:Ups) (M:List SB),Qj M (us++vs)=Qj (Qj M us) vs:=by
  intro us
  induction us with
  |nil=>intro vs M;rfl
  |cons q r ih=>intro vs M;obtain⟨b,x⟩:=q;simp only[List.cons_append,Qj];exact ih vs _
 have hL:(Qj M (us++[(M.length,.rows e ks sz 0 0 (fun _ _=>0))])).length=M.length+1:=by
  rw[happ]
  simp only[Qj]
  rw[(Qbb _ (Qj M us) M.length).2.2 (hlen us M hl).symm,hlen us M hl]
 have hn':((us++[(M.length,SB.rows e ks sz 0 0 (fun _ _=>0))]).map (·.1)).Nodup:=by simpa using hn
 have huA:∀(us vs:Ups) (p:Nat->Bool),QaM p us=true->QaM p vs=true->QaM p (us++vs)=true:=by
  intro us vs p
  induction us with
  |nil=>intro _ h;exact h
  |cons q r ih=>intro h1 h2;obtain⟨b,x⟩:=q;simp only[List.cons_append,QaM,Bool.and_eq_true]at h1 ⊢;exact⟨h1.1,ih h1.2 h2⟩
 refine⟨⟨?_,?_,hi.env,?_,hi.ag,by rw[hL];exact Nat.le_succ_of_le hi.le⟩,hL⟩
 · exact QbW hi.av hn' (by rw[hL];exact huA _ _ _ hu rfl)
 · rw[hL];exact Xm (fun i h=>QR (by have:=Qr h;omega)) hi.eav
 · refine hi.mem.ups hi.av (fun _ _=>rfl) _ hn' ?_
   have hU:denU ρ (us++[(M.length,SB.rows e ks sz 0 0 (fun _ _=>0))])=denU ρ us++[.row (ρ M.length) e sz 0 0 []]:=by
    clear hn hn' hu hl hd hL
    induction us with
    |nil=>rfl
    |cons q r ih=>obtain⟨b,x⟩:=q;simp only[List.cons_append,denU,ih,List.append_assoc]
   have hT:denT ρ M ((us++[(M.length,SB.rows e ks sz 0 0 (fun _ _=>0))]).map (·.1))=denT ρ M (us.map (·.1)):=by
    clear hn hn' hu hl hd hL hU
    induction us with
    |nil=>simp[denT,QaF M M.length (Nat.le_refl _),denB]
    |cons q r ih=>obtain⟨b,x⟩:=q;simp only[List.cons_append,List.map_cons,denT,ih]
   rw[hU,hT,hd]
   have hs:=hi.mem.some (us.map (·.1)) (by rw[List.map_append,List.nodup_append]at hn;exact hn.1)
   refine⟨hs.kept,fun x hx=>?_,fun x hx g hg=>?_,?_⟩
   · rcases List.mem_append.1 hx with hx|hx
     · exact hs.holds x hx
     · rw[List.mem_singleton]at hx;subst hx
       exact⟨Nat.le_refl _,by simp,fun h=>absurd h (by omega)⟩
   · rcases List.mem_append.1 hx with hx|hx
     · exact hs.own x hx g hg
     · rw[List.mem_singleton]at hx;subst hx
       exact absurd hg.1 (by omega)
   · refine List.pairwise_append.2 ⟨hs.dist,List.pairwise_singleton _ _,fun x _ y hy g _ hg=>?_⟩
     rw[List.mem_singleton]at hy;subst hy
     exact absurd hg.1 (by omega)
theorem QeF (ρ:Nat->Nat) (b sz:Nat):(SC.so b 0 sz 0 0 false).den ρ=.slice none 0 0:=rfl
theorem QeC {ρ0:Nat->Nat}{k0 nt:Nat}{env:Env}{M:List SB}{ρ:Nat->Nat}{a:Act}{w:World}{w0:World}{S:Nat->Prop}(hi:Inv ρ0 k0 nt w0 S env M ρ a w) (b o e sz:Nat) (ks:List CK):
 Inv ρ0 k0 nt w0 S (nrmB env M b o e sz ks).1 (nrmB env M b o e sz ks).2 ρ a w:=by
 unfold nrmB
 split
 · rename_i l t hb
   split
   · rename_i n m hg
     split
     · rename_i l' hs
       cases hlt:(b.blt M.length&&(n.beq 0&&m.beq 0))
       · exact hi
       · simp only[Bool.and_eq_true]at hlt
         obtain⟨hlt,hn0,hm0⟩:=hlt
         obtain rfl:=Nat.eq_of_beq_eq_true hn0
         obtain rfl:=Nat.eq_of_beq_eq_true hm0
         have hlt:=Qr hlt
         have h1:=QL ρ l o _ hg
         have h2:=(Xg ρ l o _ l' hs).1
         rw[QeF]at h2
         have h3:Qa ρ l'=Qa ρ l:=by
          rw[<- h2]
          apply List.ext_getElem?
          intro i
          rw[List.getElem?_set]
          by_cases hio:o=i
          · subst hio
            rw[if_pos rfl]
            have:=(List.getElem?_eq_some_iff.1 h1).1
            rw[if_pos this,h1];rfl
          · rw[if_neg hio]
         have hav:Qi (sc (M.length+1)) l'=true:=by
          have hM:=hi.av b
          rw[hb]at hM
          rcases hM with hM|hM
          · cases hM
          · refine Qbm l o _ l' hs ?_ (QJ (fun i h=>QR (by have:=Qr h;omega)) hM.2)
            exact QR (by omega)
         exact (QeG hi [(b,.cells l' t)] (by simp;omega) e sz ks (by simp[QaM,SB.av,hav]) (by simpa using hlt) (by simp only[denU,denT,List.map_cons,List.map_nil,hb,denB,h3])).1
     · exact hi
   · exact hi
 · exact hi
theorem Qf7 {ρ0:Nat->Nat}{k0 nt:Nat}{env:Env}{M:List SB}{ρ:Nat->Nat}{a:Act}{w:World}{w0:World}{S:Nat->Prop}(hi:Inv ρ0 k0 nt w0 S env M ρ a w) (z:NZ):
 Inv ρ0 k0 nt w0 S (nrm1 env M z).1 (nrm1 env M z).2 ρ a w:=by
 cases z with
 |tmp t e sz ks=>
  simp only[nrm1]
  split
  · rename_i n m hx
    cases hnm:(n.beq 0&&m.beq 0)
    · exact hi
    simp only[Bool.and_eq_true]at hnm
    obtain rfl:=Nat.eq_of_beq_eq_true hnm.1
    obtain rfl:=Nat.eq_of_beq_eq_true hnm.2
    simp only[cond_true]
    obtain⟨h,hL⟩:=QeG hi [] (by simp) e sz ks rfl (by simp) rfl
    refine⟨h.av,?_,⟨h.env.defers,h.env.size,fun u y hy=>?_⟩,h.mem,h.ag,h.le⟩
    · simp only[List.nil_append]at hL h ⊢
      simp only[Q4,Bool.and_eq_true]
      exact⟨by rw[hL];exact QR (by omega),h.eav⟩
    · unfold lk at hy
      cases hb:t.beq u
      · rw[hb]at hy;exact h.env.get u y hy
      · rw[hb]at hy
        have:=Nat.eq_of_beq_eq_true hb
        subst this
        simp only[cond_true,Option.some.injEq]at hy;subst hy
        have:=hi.env.get t _ hx
        exact this
  · exact hi
 |cell t o e sz ks=>
  simp only[nrm1]
  split
  · exact QeC hi _ _ _ _ _
  · exact hi
 |blk b o e sz ks=>exact QeC hi _ _ _ _ _
theorem Qdi {ρ0:Nat->Nat}{k0 nt:Nat}{ρ:Nat->Nat}{a:Act}{w:World}{w0:World}{S:Nat->Prop}:∀(l:List NZ) {env:Env}{M:List SB},Inv ρ0 k0 nt w0 S env M ρ a w ->
 Inv ρ0 k0 nt w0 S (nrmS l env M).1 (nrmS l env M).2 ρ a w
 |[],_,_,hi=>hi
 |z::r,_,_,hi=>Qdi r (Qf7 hi z)
theorem QaA {ρ0:Nat->Nat}{k0 nt:Nat}{A:Ann}{s:A.σ}{env:Env}{M:List SB}{ρ:Nat->Nat}{a:Act}{w:World}{w0:World}{S:Nat->Prop}(h:Qbu k0 A s env M) (hi:Inv ρ0 k0 nt w0 S env M ρ a w):
 Inv ρ0 k0 nt w0 S (A.I s).1 (A.I s).2 (fun i=>ρ (ofL (A.pi (nrmS A.nz env M).1 (nrmS A.nz env M).2) i)) a w:=QeI h (Qdi A.nz hi)
theorem Qa0 {p:Nat->Bool}{env:Env}{d:Option Tmp}{x:SV}(h:Q4 p env=true) (hx:x.av p=true):Q4 p (putS d x env)=true:=by
 unfold putS
 split
 · simp only[Q4,Bool.and_eq_true];exact⟨hx,h⟩
 · exact h
theorem Qfu {Γ:Gam}{e:Eff}{f:Nat}{fn:Func}{c:Code}{args:List SA}(h:Qfv Γ e=some (f,fn,c,args)):e=.call f args/\lkGA Γ f args=some (.inl fn c):=by
 unfold Qfv at h
 split at h
 · rename_i g ys
   split at h
   · rename_i fn' c' hi
     simp only[Option.some.injEq,Prod.mk.injEq]at h
     obtain⟨rfl,rfl,rfl,rfl⟩:=h
     refine⟨rfl,?_⟩
     unfold isInl at hi
     split at hi
     · rename_i e
       simp only[Option.some.injEq,Prod.mk.injEq]at hi
       obtain⟨rfl,rfl⟩:=hi;exact e
     · cases hi
   · cases h
 · cases h
theorem Qaw {p:Nat->Bool}:∀ {l:List SA},Qak p l=true->∀x∈l,x.av p=true
 |[],_,x,h=>by simp at h
 |y::r,h,x,hx=>by
  simp only[Qak,Bool.and_eq_true]at h
  rcases List.mem_cons.1 hx with rfl|hx
  · exact h.1
  · exact Qaw h.2 x hx
section
variable {V:World}{T:Tab}{Γ:Gam}{AG:List (Nat × Anns)}
set_option maxHeartbeats 1000000 in
theorem Qet (hV:OldOk V w0 S) (hT:TabOk P T) (hT2:TysOk P T) (hΓ:GamOk P w0 S Γ):
 ∀n,(∀(f:FuncId) (fn:Func) (fx:Fx) (R:Ending->World->Prop) (ρ0:Nat->Nat) os k env M ρ a w,P.funcs[f]?=some fn ->
  (∀env M ρ a w,fx.fin env M->Inv ρ0 fx.k0 fx.nt w0 S env M ρ a w->∃v,(results fn a.tmps).run P w=.ok v w/\R (.returned v) w) ->
  run V T Γ AG n fx none os k env M->QbK P f fn w0 S ρ0 fx.k0 fx.nt R os->Inv ρ0 fx.k0 fx.nt w0 S env M ρ a w->Goes P f fn (k++flat os) a w R) /\
  (∀(f:FuncId) (fn:Func) (fx:Fx) (R:Ending->World->Prop) (ρ0:Nat->Nat) all l os k env M ρ a w,P.funcs[f]?=some fn ->
   (∀env M ρ a w,fx.fin env M->Inv ρ0 fx.k0 fx.nt w0 S env M ρ a w->∃v,(results fn a.tmps).run P w=.ok v w/\R (.returned v) w) ->
   run V T Γ AG n fx (some (all,l)) os k env M->QbK P f fn w0 S ρ0 fx.k0 fx.nt R os->Inv ρ0 fx.k0 fx.nt w0 S env M ρ a w->wpList P all.toArray (Qfb P f fn (k++flat os) R) l a w):=by
 intro n
 induction n with
 |zero=>exact⟨fun f fn fx R ρ0 os k env M ρ a w _ _ h=>h.elim,fun f fn fx R ρ0 all l os k env M ρ a w _ _ h=>h.elim⟩
 |succ n ih=>
  obtain⟨ih1,ih2⟩:=ih
  constructor
  · intro f fn fx R ρ0 os k env M ρ a w hf hfin h hh hi
    have go1:=fun os k env M ρ a w=>ih1 f fn fx R ρ0 os k env M ρ a w hf hfin
    cases k with
    |nil=>
     cases os with
     |nil=>
      obtain⟨v,hr,hR⟩:=hfin env M ρ a w h hi
      exact Qfx hf hi.env.defers hr hR
     |cons p r=>
      obtain⟨b,k',hook⟩:=p
      exact hh.1 env M ρ a w h hi
    |cons x k=>
     cases x with
     |inBlock id=>exact Qp (fun b cs=>step_inBlock) (go1 os k env M ρ a w h hh hi)
     |inLoop c=>exact Qp (fun b cs=>step_inLoop) (go1 os _ env M ρ a w h hh hi)
     |code c=>
      cases c with
      |skip=>exact Qp (fun b cs=>step_skip) (go1 os k env M ρ a w h hh hi)
      |label l=>exact Qp (fun b cs=>step_label) (go1 os k env M ρ a w h hh hi)
      |seq x y=>exact Qp (fun b cs=>step_seq) (go1 os _ env M ρ a w h hh hi)
      |block id b=>exact Qp (fun b cs=>step_block) (go1 os _ env M ρ a w h hh hi)
      |loop b=>
       simp only[run]at h
       cases hA:annAt fx.an k with
       |none=>rw[hA]at h;exact Qp (fun b cs=>step_loop) (go1 os _ env M ρ a w h hh hi)
       |some A=>
        rw[hA]at h
        dsimp only at h
        cases hR:A.rel with
        |none=>
         rw[hR]at h
         obtain⟨⟨s0,hm⟩,hr⟩:=h
         have key:∀m,∀s:A.σ,A.dec s=m->∀ρ a w,Inv ρ0 fx.k0 fx.nt w0 S (A.I s).1 (A.I s).2 ρ a w->Goes P f fn (.code b::.inLoop b::(k++flat os)) a w R:=by
          intro m
          induction m using Nat.strongRecOn with
          |ind m ihm=>
           intro s hs ρ a w hi
           refine go1 ((b,k,fun env M=>∃s':A.σ,Qbu fx.k0 A s' env M/\A.dec s'<A.dec s)::os) [.code b] _ _ ρ a w (hr s) ⟨?_,hh⟩ hi
           rintro env M ρ a w ⟨s',hm',hlt⟩ hi
           exact Qp (fun b cs=>step_inLoop) (ihm (A.dec s') (by omega) s' rfl _ a w (QaA hm' hi))
         exact Qp (fun b cs=>step_loop) (key _ s0 rfl _ a w (QaA hm hi))
        |some rl=>
         rw[hR]at h
         obtain⟨s0,hm,h0,hr⟩:=h
         have key:∀m,∀s:A.σ,rl s0 s->A.dec s=m->∀ρ a w,Inv ρ0 fx.k0 fx.nt w0 S (A.I s).1 (A.I s).2 ρ a w->Goes P f fn (.code b::.inLoop b::(k++flat os)) a w R:=by
          intro m
          induction m using Nat.strongRecOn with
          |ind m ihm=>
           intro s hrl hs ρ a w hi
           refine go1 ((b,k,fun env M=>∃s':A.σ,Qbu fx.k0 A s' env M/\rl s0 s'/\A.dec s'<A.dec s)::os) [.code b] _ _ ρ a w (hr s hrl) ⟨?_,hh⟩ hi
           rintro env M ρ a w ⟨s',hm',hl',hlt⟩ hi
           exact Qp (fun b cs=>step_inLoop) (ihm (A.dec s') (by omega) s' hl' rfl _ a w (QaA hm' hi))
         exact Qp (fun b cs=>step_loop) (key _ s0 h0 rfl _ a w (QaA hm hi))
      |exit id=>
       simp only[run]at h
       cases hx:Qd8 id k os with
       |none=>rw[hx]at h;exact h.elim
       |some p=>
        obtain⟨k',os'⟩:=p
        rw[hx]at h
        obtain⟨g1,g2⟩:=Qb3 id os k k' os' hx hh
        refine QaE hf (wp_exit ?_)
        exact⟨_,g1,go1 os' k' env M ρ a w h g2 hi⟩
      |ret=>
       obtain⟨v,hr,hR⟩:=hfin env M ρ a w h hi
       exact QaE hf (wp_ret ⟨hi.env.defers,v,hr,hR⟩)
      |cond c x y=>
       simp only[run]at h
       split at h
       · rename_i b hc
         have e:a.eval c=.bool b:=hi.env.eval hc
         cases b
         · exact Qp (fun b cs=>step_cond e) (go1 os _ env M ρ a w h hh hi)
         · exact Qp (fun b cs=>step_cond e) (go1 os _ env M ρ a w h hh hi)
       · exact h.elim
      |region id ops draw=>
       cases draw
       · refine QaE hf (wp_region_list ?_)
         have:=ih2 f fn fx R ρ0 _ _ os k env M ρ a w hf hfin h hh hi
         simpa using this
       · simp only[run]at h
         refine QaE hf (wp_region_any hT2.1 ?_)
         have hd:DP V T Γ fx.nt ops.toList env M [] env M:=.nil
         obtain⟨hs,env',M',d',F',nb⟩:=XW (hs:=[]) (next:=fun env M=>run V T Γ AG n fx none os k env M) (fn:=fx.fn) (id:=id) (N0:=M.length) hΓ (QfP Γ ops.toList) env M hd h
         rw[List.append_nil]at d' F'
         have hoff:∀j,(Array.replicate ops.size false).getD j false=false:=fun j=>by
          rw[Array.getD_eq_getD_getElem?,Array.getElem?_replicate];split<;>rfl
         have hsz:ops.size=ops.toList.length:=by simp
         have:=Qfy (P:=P) (Q:=Qfb P f fn (k++flat os) R) (a0:=a) (ρ0:=ρ) (next:=fun env M=>run V T Γ AG n fx none os k env M) (fn:=fx.fn) (id:=id) hΓ hV hT hT2 rfl hi.av hi.eav hi.env.defers hi.env.size
          (fun ρ' h=>hi.env.over (p:=sc M.length) (fun i hi=>h i (Qr hi)) hi.eav)
          (fun env2 M2 ρ2 a2 w2 hag hge hav henv hn hE HM=>go1 os k env2 M2 ρ2 a2 w2 hn hh ⟨hav,henv,hE,HM,fun i hik=>(hag i (by have:=hi.le;omega)).trans (hi.ag i hik),by have:=hi.le;omega⟩)
          ops.size (Array.replicate ops.size false) hs env' M' a { w with drawn:=w.drawn+1 } ρ (by simp) (by
           unfold unl
           rw[List.countP_eq_length.2 (fun j _=>by rw[hoff];rfl),List.length_range,hsz]) (fun j o ho hj=>by simp only[hoff]at hj;cases hj) d' F' (fun i hi=>by rw[hoff]at hi;cases hi) (fun k hk hb=>by rw[nb k hk]at hb;cases hb)
          ⟨hi.env.defers,hi.env.size,fun h hh hL=>(by simp only[hoff]at hL;cases hL),fun t _=>rfl⟩ (fun _ _=>rfl) (by
           have e:Qu (fun j=>(Array.replicate ops.size false).getD j false) M hs=M:=by
            have:=Qbz (M0:=M) (L:=fun j=>(Array.replicate ops.size false).getD j false) (rest:=[]) (hs:=hs) (fun k _=>hoff _)
            rwa [List.append_nil]at this
           rw[e];exact hi.mem.drew)
         simpa using this
      |rangeFunc _ _ _ _=>exact h.elim
      |scope _=>exact h.elim
      |goto _=>exact h.elim
      |refuse _=>exact h.elim
     |inScope _=>exact h.elim
     |inRegion _ _=>exact h.elim
     |inRangeFunc _=>exact h.elim
     |endRangeFunc _=>exact h.elim
     |beginRound=>exact h.elim
     |call _ _ _ _=>exact h.elim
     |extern _ _=>exact h.elim
  · intro f fn fx R ρ0 all l os k env M ρ a w hf hfin h hh hi
    have go2:=fun l env M ρ a w=>ih2 f fn fx R ρ0 all l os k env M ρ a w hf hfin
    cases l with
    |nil=>exact wpList_nil (ih1 f fn fx R ρ0 os k env M ρ a w hf hfin h hh hi)
    |cons o l=>
     simp only[run]at h
     cases hd:QbR fx.nt o.dst with
     |false=>rw[hd]at h;exact h.elim
     |true=>
      rw[hd]at h
      simp only[cond_true]at h
      cases hg:Qb1 all o.guard with
      |none=>rw[hg]at h;exact h.elim
      |some g=>
       rw[hg]at h
       dsimp only at h
       obtain⟨hw1,hw2,hw3⟩:=Xb hi.env hg
       have hgo:∀env,Inv ρ0 fx.k0 fx.nt w0 S env M ρ a w->Region.wanted o (yielded all.toArray a.tmps)=true ->
        (match Qfv Γ (Qv V T env M M.length o.op)with
        |some (f,fn,c,args)=>bif args.length.ble fn.ntmps&&Qak (sc M.length) args then
         run V T Γ AG n ⟨fn,fn.ntmps,lkAG AG f,M.length,fun env' M'=>finS V T fn.results.toList (fun x M''=>bif x.av (sc M''.length)then run V T Γ AG n fx (some (all,l)) os k (Proofs.YtflgoaogcenmpaaDoor.putS o.dst x env) M'' else False) env' M'⟩ none [] [.code c] (Qq 0 args) M else False
        |none=>Xs Γ M o (fun x us=>bif x.av (sc (Qj M us).length)&&QaM (sc (Qj M us).length) us then run V T Γ AG n fx (some (all,l)) os k (Proofs.YtflgoaogcenmpaaDoor.putS o.dst x env) (Qj M us)else False) (Qv V T env M M.length o.op)) ->
        wpList P all.toArray (Qfb P f fn (k++flat os) R) (o::l) a w:=by
        intro env hi hwant h
        refine wpList_step fun K hK=>?_
        rw[if_pos hwant]
        refine QaL ?_
        have hE:=Qcq (P:=P) (V:=V) (ρ:=ρ) (M:=M) (nx:=M.length) (env:=env) (T:=T) (hV.v hi.mem.kept) hT hT2 hi.env o
        split at h
        · -- a call, run in place
          rename_i g fn2 c2 args hin
          obtain⟨he,hl⟩:=Qfu hin
          rw[he]at hE
          obtain⟨hen,hgf,hbody⟩:=hΓ g _ _ hl
          cases hlen:(args.length.ble fn2.ntmps&&Qak (sc M.length) args)
          · rw[hlen]at h;exact h.elim
          · rw[hlen]at h
            simp only[cond_true]at h
            simp only[Bool.and_eq_true]at hlen
            have hle:=QF hlen.1
            have hr:=hE hen
            rw[hr]
            have hgoes:=ih1 g fn2 ⟨fn2,fn2.ntmps,lkAG AG g,M.length,fun env' M'=>finS V T fn2.results.toList (fun x M''=>bif x.av (sc M''.length)then run V T Γ AG n fx (some (all,l)) os k (Proofs.YtflgoaogcenmpaaDoor.putS o.dst x env) M'' else False) env' M'⟩
             (fun e w'=>∃v,e=.returned v/\K (a.put o.dst v) w') ρ [] [.code c2] (Qq 0 args) M ρ { tmps:=(args.map (SA.den ρ)).toArray++Array.replicate (fn2.ntmps-args.length) undef,defers:=[] } w hgf
             (fun env' M' ρ' a' w' hfin' hi'=>by
              obtain⟨x,hx,hres⟩:=QbU (fn:=fn2) (R:=fun x M''=>bif x.av (sc M''.length)then run V T Γ AG n fx (some (all,l)) os k (Proofs.YtflgoaogcenmpaaDoor.putS o.dst x env) M'' else False) hV hT hi'.env hi'.mem hfin'
              refine⟨_,hres,_,rfl,?_⟩
              cases hxa:x.av (sc M'.length)
              · rw[hxa]at hx;exact hx.elim
              · rw[hxa]at hx
                have hmono:∀i,sc M.length i=true->sc M'.length i=true:=fun i hi=>QR (by have:=Qr hi;have:=hi'.le;simp only at this;omega)
                refine hK _ _ (go2 l _ M' ρ' _ w' hx hh ⟨hi'.av,Qa0 (Xm hmono hi.eav) hxa,(hi.env.over (p:=sc M.length) (fun i hii=>hi'.ag i (Qr hii)) hi.eav).putS hd x,hi'.mem,fun i hik=>(hi'.ag i (by have:=hi.le;simp only;omega)).trans (hi.ag i hik),by have:=hi'.le;have:=hi.le;simp only at *;omega⟩))
             h trivial ⟨hi.av,XV args 0 (Qaw hlen.2),Qdq args fn2.ntmps hle,hi.mem,fun _ _=>rfl,Nat.le_refl _⟩
            show Calls P g _ w _
            intro cs
            let b:Frame:={ (default:Frame)with fn:=g,kind:=.normal }
            have henter:Frame.enter P g (args.map (SA.den ρ)).toArray .normal=b.at { tmps:=(args.map (SA.den ρ)).toArray++Array.replicate (fn2.ntmps-args.length) undef,defers:=[] } [.code c2]:=by
             simp[Frame.enter,Frame.at,hgf,hbody,b]
            rw[henter]
            exact hgoes b cs rfl rfl
        · -- a step
          rename_i hin
          have hWn:=Qbk h
          have hleft:=Qb8 (o:=o) hΓ hi.mem.kept hE (fun b hb x hx=>hi.mem.at b x hx) (hi.mem.some _ hWn) h
          refine Does.mono hleft ?_
          rintro v w' ⟨x,us,ρ',hx,h1,h2,h3,rfl,h4⟩
          cases hav:(x.av (sc (Qj M us).length)&&QaM (sc (Qj M us).length) us)
          · rw[hav]at hx;exact hx.elim
          · rw[hav]at hx
            simp only[cond_true]at hx
            simp only[Bool.and_eq_true]at hav
            have hlen:=(Xh us M).1
            have hmono:∀i,sc M.length i=true->sc (Qj M us).length i=true:=fun i hi=>QR (by have:=Qr hi;omega)
            have hρ:∀i,sc M.length i=true->ρ' i=ρ i:=fun i hi=>h3 i (.inl (Qr hi))
            refine hK _ _ (go2 l _ _ ρ' _ w' hx hh ⟨QbW hi.av (by rw[h1];exact h2) hav.2,Qa0 (Xm hmono hi.eav) hav.1,(hi.env.over hρ hi.eav).putS hd x,hi.mem.ups hi.av hρ us (by rw[h1];exact h2) (by rw[h1];exact h4),fun i hik=>(h3 i (.inl (by have:=hi.le;omega))).trans (hi.ag i hik),by have:=hi.le;omega⟩)
       have hskip:∀env,Inv ρ0 fx.k0 fx.nt w0 S env M ρ a w->Region.wanted o (yielded all.toArray a.tmps)=false->run V T Γ AG n fx (some (all,l)) os k (Proofs.YtflgoaogcenmpaaDoor.putS o.dst (sv undef) env) M->wpList P all.toArray (Qfb P f fn (k++flat os) R) (o::l) a w:=by
        intro env hi hwant h
        refine wpList_step fun K hK=>?_
        rw[if_neg (by rw[hwant];simp)]
        exact hK _ _ (go2 l _ M ρ _ w h hh ⟨hi.av,Qa0 hi.eav rfl,hi.env.putS hd (sv undef),hi.mem,hi.ag,hi.le⟩)
       cases g with
       |none=>exact hgo env hi (hw1 rfl) h
       |some tw=>
        obtain⟨t,want⟩:=tw
        dsimp only at h
        split at h
        · rename_i b hl
          have hwb:=hw2 t want b rfl hl
          have hi':Inv ρ0 fx.k0 fx.nt w0 S ((t,sv (.bool b))::env) M ρ a w:=⟨hi.av,by simp only[Q4,Bool.and_eq_true];exact⟨rfl,hi.eav⟩,hi.env.same hl,hi.mem,hi.ag,hi.le⟩
          cases b<;>cases want<;>simp only[cond_true,cond_false]at h
          · exact hgo _ hi' hwb h
          · exact hskip _ hi' hwb h
          · exact hskip _ hi' hwb h
          · exact hgo _ hi' hwb h
        · rename_i u hl
          exact hskip _ hi (hw3 t want u rfl hl) h
        · exact h.elim
end
end
end
section
open Go.RowKit
theorem TysOk.of {P:Program}{T:Tab}(h:T.all (fun p=>Qam P p.1&&(!QaC p.2||eqTy P p.1)&&Qcw P p.1)=true) (hm:P.follows .mixedOrders=true):TysOk P T:=by
 refine⟨hm,fun t i hi=>?_⟩
 induction T with
 |nil=>simp[lkT]at hi
 |cons p r ih=>
  simp only[List.all_cons,Bool.and_eq_true]at h
  unfold lkT at hi
  cases hb:p.1.beq t
  · rw[hb]at hi;exact ih h.2 hi
  · have:=Nat.eq_of_beq_eq_true hb
    rw[hb]at hi
    simp only[cond_true,Option.some.injEq]at hi;subst hi
    rw[<- this];refine⟨h.1.1.1,fun hi=>?_,h.1.2⟩
    have:=h.1.1.2;rw[hi]at this;simpa using this
theorem Qgh {b:Bool}{A B:Prop}(h:b=true->A) (k:b=false->B):bif b then A else B:=by
 cases b
 · exact k rfl
 · exact h rfl
theorem svB {b c:Bool}(h:b=c):SV.o (.c (.v (.bool b)))=SV.o (.c (.v (.bool c))):=by rw[h]
theorem Qed {p q:Prop}(e:p=q) (h:q):p:=e ▸ h
def XJ (id:Nat):Code->Option (Array Oper)
 |.region i ops _=>bif i.beq id then some ops else none
 |.seq a b=>match XJ id a with
  |some x=>some x
  |none=>XJ id b
 |.cond _ a b=>match XJ id a with
  |some x=>some x
  |none=>XJ id b
 |.block _ b=>XJ id b
 |.loop b=>XJ id b
 |.scope b=>XJ id b
 |_=>none
def regOps (fn:Func) (id:Nat):Array Oper:=(fn.body.bind (XJ id)).getD #[]
section
variable {P:Program}{f:FuncId}{fn:Func}{c:Code}{T:Tab}{Γ:Gam}{AG:List (Nat × Anns)}{w0 w:World}{S:Nat->Prop}{ρ:Nat->Nat}{M:List SB}
theorem Xd {V:World}(hV:OldOk V w0 S) (hf:P.funcs[f]?=some fn) (hb:fn.body=some c) (hT:TabOk P T) (hT2:TysOk P T) (hΓ:GamOk P w0 S Γ) {R:SV->List SB->Prop}(args:List SA) (k0:Nat) (hk:k0<=M.length)
 (hc:(args.length.ble fn.ntmps&&Qak (sc M.length) args&&QB (sc M.length) M)=true) (HM:Mem w0 S (denM ρ 0 M) w) (n:Nat)
 (h:run V T Γ AG n ⟨fn,fn.ntmps,lkAG AG f,k0,finS V T fn.results.toList R⟩ none [] [.code c] (Qq 0 args) M):
 Calls P f (args.map (SA.den ρ)).toArray w fun e w'=>∃x M' ρ',R x M'/\(∀i,i<k0->ρ' i=ρ i)/\e=.returned (x.den ρ')/\Mem w0 S (denM ρ' 0 M') w':=by
 simp only[Bool.and_eq_true]at hc
 have ha:=QF hc.1.1
 have hs:=(Qet (P:=P) (w0:=w0) (S:=S) (AG:=AG) hV hT hT2 hΓ n).1 f fn ⟨fn,fn.ntmps,lkAG AG f,k0,finS V T fn.results.toList R⟩ (fun e w'=>∃x M' ρ',R x M'/\(∀i,i<k0->ρ' i=ρ i)/\e=.returned (x.den ρ')/\Mem w0 S (denM ρ' 0 M') w') ρ
  [] [.code c] (Qq 0 args) M ρ { tmps:=(args.map (SA.den ρ)).toArray++Array.replicate (fn.ntmps-args.length) undef,defers:=[] } w hf
  (fun env M ρ' a w hfin hi=>by
   obtain⟨x,hR,hr⟩:=QbU hV hT hi.env hi.mem hfin
   exact⟨_,hr,x,M,ρ',hR,hi.ag,rfl,hi.mem⟩) h trivial ⟨Qcd hc.2,XV args 0 (Qaw hc.1.2),Qdq args fn.ntmps ha,HM,fun _ _=>rfl,hk⟩
 intro cs
 let b:Frame:={ (default:Frame)with fn:=f,kind:=.normal }
 have henter:Frame.enter P f (args.map (SA.den ρ)).toArray .normal=b.at { tmps:=(args.map (SA.den ρ)).toArray++Array.replicate (fn.ntmps-args.length) undef,defers:=[] } [.code c]:=by
  simp[Frame.enter,Frame.at,hf,hb,b]
 rw[henter]
 exact hs b cs rfl rfl
theorem QbN {w0:World}{S:Nat->Prop}(hf:P.funcs[f]?=some fn) (hb:fn.body=some c) (hen:XK P f=true) (hT:TabOk P T) (hT2:TysOk P T) (hΓ:∀w,Kept S w0 w->GamOk P w (fun _=>False) Γ) (C:PCon) (n:Nat)
 (h:∀(w:World) args,C.pre args->(args.length.ble fn.ntmps&&Qak (sc 0) args)=true/\run w T Γ AG n ⟨fn,fn.ntmps,lkAG AG f,0,finS w T fn.results.toList (fun x _=>x=C.out args/\x.av (sc 0)=true)⟩ none [] [.code c] (Qq 0 args) []):(Con.pure C).holdsAt P w0 S f:=by
 refine⟨hen,fun ρ args w hp hK=>?_⟩
 obtain⟨h1,h2⟩:=h w args hp
 refine (Xd (OldOk.self w) (ρ:=ρ) (M:=[]) hf hb hT hT2 (hΓ w hK) args 0 (Nat.le_refl _) (by rw[show QB (sc ([]:List SB).length) []=true from rfl,Bool.and_true];exact h1) (Mem.start w) n h2).mono ?_
 rintro e w' ⟨x,M',ρ',⟨rfl,hx⟩,-,rfl,HM⟩
 exact⟨by rw[SV.av_den (p:=sc 0) (ρ:=ρ) (ρ':=ρ') (fun i hi=>by have:=Qr hi;omega) hx],HM.below⟩
theorem Qal (hf:P.funcs[f]?=some fn) (hb:fn.body=some c) (hen:XK P f=true) (hT:TabOk P T) (hT2:TysOk P T) (hΓ:∀w,GamOk P w (fun _=>False) Γ) (C:PCon) (n:Nat)
 (h:∀(w:World) args,C.pre args->(args.length.ble fn.ntmps&&Qak (sc 0) args)=true/\run w T Γ AG n ⟨fn,fn.ntmps,lkAG AG f,0,finS w T fn.results.toList (fun x _=>x=C.out args/\x.av (sc 0)=true)⟩ none [] [.code c] (Qq 0 args) []):(Con.pure C).holds P f:=
 fun _ _=>QbN hf hb hen hT hT2 (fun w _=>hΓ w) C n h
def endP (C:PCon) (args:List SA) (x:SV) (M:List SB):Prop:=x.av (sc 0)=true/\∀ρ,x.den ρ=(C.out args).den ρ
theorem XG {w0:World}{S:Nat->Prop}(hf:P.funcs[f]?=some fn) (hb:fn.body=some c) (hen:XK P f=true) (hT:TabOk P T) (hT2:TysOk P T) (hΓ:∀w,Kept S w0 w->GamOk P w (fun _=>False) Γ) (C:PCon) (AG:List SA->List (Nat × Anns)) (n:Nat)
 (h:∀(w:World) args,C.pre args->Kept S w0 w->(args.length.ble fn.ntmps&&Qak (sc 0) args)=true/\run w T Γ (AG args) n ⟨fn,fn.ntmps,lkAG (AG args) f,0,finS w T fn.results.toList (endP C args)⟩ none [] [.code c] (Qq 0 args) []):(Con.pure C).holdsAt P w0 S f:=by
 refine⟨hen,fun ρ args w hp hK=>?_⟩
 obtain⟨h1,h2⟩:=h w args hp hK
 refine (Xd (OldOk.self w) (ρ:=ρ) (M:=[]) hf hb hT hT2 (hΓ w hK) args 0 (Nat.le_refl _) (by rw[show QB (sc ([]:List SB).length) []=true from rfl,Bool.and_true];exact h1) (Mem.start w) n h2).mono ?_
 rintro e w' ⟨x,M',ρ',⟨hx,hd⟩,-,rfl,HM⟩
 exact⟨by rw[SV.av_den (p:=sc 0) (ρ:=ρ) (ρ':=ρ') (fun i hi=>by have:=Qr hi;omega) hx,hd ρ],HM.below⟩
theorem Qf6 (hf:P.funcs[f]?=some fn) (hb:fn.body=some c) (hT:TabOk P T) (hT2:TysOk P T) {w:World}(hΓ:GamOk P w (fun _=>False) Γ) (args:List SA) (v:Value) (n:Nat) (ha:(args.length.ble fn.ntmps&&Qak (sc 0) args)=true)
 (h:run w T Γ AG n ⟨fn,fn.ntmps,lkAG AG f,0,finS w T fn.results.toList (fun x _=>x=sv v)⟩ none [] [.code c] (Qq 0 args) []) {ar:Array Value}(has:ar=(args.map (SA.den (fun _=>0))).toArray):
 Calls P f ar w fun e w'=>e=.returned v/\Below w.heap.size w w':=by
 subst has
 refine (Xd (OldOk.self w) (ρ:=fun _=>0) (M:=[]) hf hb hT hT2 hΓ args 0 (Nat.le_refl _) (by rw[show QB (sc ([]:List SB).length) []=true from rfl,Bool.and_true];exact ha) (Mem.start w) n h).mono ?_
 rintro e w' ⟨x,M',ρ',rfl,-,rfl,HM⟩
 exact⟨rfl,HM.below⟩
def endR (C:MCon) (rp:SV->List SB->List Nat) (s:C.σ) (x:SV) (M:List SB):Prop:=
 ∃y:C.χ,C.ok s y/\bif nodB (rp x M)&&Qav M.length (rp x M)&&idB 0 C.k (rp x M)&&(C.mem' s y).length.beq C.len&&QB (sc C.len) (C.mem' s y)&&(C.val s y).av (sc C.len)then
  x=(C.val s y).ren (ofL (rp x M))/\(rp x M).map (getB M)=(C.mem' s y).map (SB.ren (ofL (rp x M)))else False
def svL:SV->List SA
 |.o x=>[x]
 |.t l=>l
def reL (env:Env):Nat->List SA->List SA
 |_,[]=>[]
 |i,x::r=>(match lk env i with
  |some (.o y)=>y
  |_=>x)::reL env (i+1) r
def reSV (env:Env):SV->SV
 |.o x=>.o (match lk env 0 with
  |some (.o y)=>y
  |_=>x)
 |.t l=>.t (reL env 0 l)
def endN (C:MCon) (nz:List NZ) (rp:SV->List SB->List Nat) (s:C.σ) (x:SV) (M:List SB):Prop:=match nz with
 |[]=>endR C rp s x M
 |nz=>bif QB (sc M.length) M&&Qak (sc M.length) (svL x)then (match nrmS nz (Qq 0 (svL x)) M with
  |(env',M')=>endR C rp s (reSV env' x) M')else False
theorem Qew {ρ:Nat->Nat}{env:Env}:∀(l:List SA) (i:Nat) (xs:Array Value),(∀j,j<l.length->xs[i+j]?=(l[j]?).map (SA.den ρ))->(∀t x,lk env t=some x->xs[t]?=some (x.den ρ))->(reL env i l).map (SA.den ρ)=l.map (SA.den ρ)
 |[],_,_,_,_=>rfl
 |x::r,i,xs,h,he=>by
  simp only[reL,List.map_cons]
  rw[Qew r (i+1) xs (fun j hj=>by have:=h (j+1) (by simp;omega);rw[show i+1+j=i+(j+1) by omega];simpa using this) he]
  congr 1
  have h0:=h 0 (by simp)
  split
  · rename_i y hy
    have h1:=he i _ hy
    simp only[Nat.add_zero,List.getElem?_cons_zero,Option.map_some]at h0
    rw[h0]at h1
    simp only[SV.den,Option.some.injEq]at h1
    exact h1.symm
  · rfl
theorem Qfh {ρ:Nat->Nat}{env:Env}(x:SV) (h:∀t y,lk env t=some y->((svL x).map (SA.den ρ))[t]?=some (y.den ρ)):(reSV env x).den ρ=x.den ρ:=by
 have key:=Qew (ρ:=ρ) (env:=env) (svL x) 0 ((svL x).map (SA.den ρ)).toArray (fun j hj=>by simp) (fun t y hy=>by simpa using h t y hy)
 cases x with
 |t l=>simp only[reSV,SV.den];rw[show reL env 0 l=reL env 0 (svL (.t l))from rfl,key];rfl
 |o x=>
  simp only[svL,reL,List.map_cons,List.map_nil,List.cons.injEq,and_true]at key
  simp only[reSV,SV.den]
  exact key
def endDR (C:RCon) (rp:SV->List SB->List Nat) (s:C.σ) (x:SV) (M:List SB):Prop:=
 ∃y:C.χ,C.ok s y/\bif nodB (rp x M)&&Qav M.length (rp x M)&&(rp x M).length.beq C.len&&(C.new s y).length.beq C.len&&QB (fun i=>(C.mem s).length.ble i) (C.new s y)&&(C.val s y).av (fun i=>(C.mem s).length.ble i)then
  x=(C.val s y).ren (fun i=>ofL (rp x M) (i-(C.mem s).length))/\(rp x M).map (getB M)=(C.new s y).map (SB.ren (fun i=>ofL (rp x M) (i-(C.mem s).length)))else False
def endZ (nz:List NZ) (R:SV->List SB->Prop) (x:SV) (M:List SB):Prop:=match nz with
 |[]=>R x M
 |nz=>bif QB (sc M.length) M&&Qak (sc M.length) (svL x)then (match nrmS nz (Qq 0 (svL x)) M with
  |(env',M')=>R (reSV env' x) M')else False
def endD (C:RCon) (nz:List NZ) (rp:SV->List SB->List Nat) (s:C.σ) (x:SV) (M:List SB):Prop:=endZ nz (endDR C rp s) x M
theorem Qgb {nz:List NZ}{R:SV->List SB->Prop}{x0:SV}{M0:List SB}{ρ':Nat->Nat}{w w':World}{S':Nat->Prop}(h:endZ nz R x0 M0) (HM0:Mem w S' (denM ρ' 0 M0) w'):
 ∃x M',R x M'/\x0.den ρ'=x.den ρ'/\Mem w S' (denM ρ' 0 M') w':=by
 cases nz with
 |nil=>exact⟨x0,M0,h,rfl,HM0⟩
 |cons z r=>
  simp only[endZ]at h
  cases hc:(QB (sc M0.length) M0&&Qak (sc M0.length) (svL x0))
  · rw[hc]at h;exact h.elim
  · rw[hc]at h
    simp only[cond_true]at h
    simp only[Bool.and_eq_true]at hc
    have hi:Inv ρ' 0 (svL x0).length w S' (Qq 0 (svL x0)) M0 ρ' { tmps:=((svL x0).map (SA.den ρ')).toArray++Array.replicate ((svL x0).length-(svL x0).length) undef,defers:=[] } w':=
     ⟨Qcd hc.1,XV _ 0 (Qaw hc.2),Qdq (svL x0) _ (Nat.le_refl _),HM0,fun _ _=>rfl,Nat.zero_le _⟩
    have hi2:=Qdi (z::r) hi
    refine⟨_,_,h,(Qfh x0 fun t y hy=>?_).symm,hi2.mem⟩
    have:=hi2.env.get t y hy
    simpa using this
theorem QbT {ρ ρ':Nat->Nat}{p:Nat->Bool}(h:∀i,p i=true->ρ' i=ρ i):∀ {m:List SB}{k:Nat},(∀i,k<=i->i<k+m.length->p i=true)->QB p m=true->denM ρ' k m=denM ρ k m
 |[],_,_,_=>rfl
 |b::r,k,hk,ha=>by
  simp only[QB,Bool.and_eq_true]at ha
  simp only[denM]
  rw[SB.av_den h (hk k (Nat.le_refl _) (by simp)) ha.1,QbT h (fun i h1 h2=>hk i (by omega) (by simp;omega)) ha.2]
end
theorem QfX {w:World}{ρ:Nat->Nat}{b lo sz n m c:Nat}{nn:Bool}{t:TypeId}{ks:List CK}{kf:Nat->IntKind}{z:Nat->Nat->Int}(h:RowAt w (ρ b) t sz m c (Qg (ckAt ks) sz z m)) (hk:kOk ks kf 0=true) (hl:ks.length=sz) (hlo:lo+n<=m):
 ∃a c',(SC.so b lo sz n c nn).den ρ=.slice a n c'/\Rws sz kf w a n c' (fun i=>z (lo+i))/\a.isNone=(c.beq 0 && !nn)/\n<=c':=by
 have hmc:=h.1
 simp only[SC.den]
 cases hc:(c.beq 0 && !nn)
 · refine⟨some ⟨ρ b,bif (c-lo).beq 0 then 0 else lo*sz,none⟩,c-lo,rfl,⟨by omega,?_,?_⟩,rfl,by omega⟩
   · rcases Nat.eq_zero_or_pos c with h0|h0
     · subst h0;simp
     · obtain⟨C,-,-,-,hmx⟩:=h.2.2 h0
       unfold maxLen at hmx;omega
   · rcases Nat.eq_zero_or_pos n with h0|h0
     · exact .inl h0
     · obtain⟨C,hB,hlC,ht,-⟩:=h.2.2 (by omega)
       have hz:(c-lo).beq 0=false:=by cases hq:(c-lo).beq 0;rfl;exact absurd (Nat.eq_of_beq_eq_true hq) (by omega)
       refine .inr ⟨ρ b,lo*sz,by rw[hz];rfl,Blk.lt hB,fun j hj i hi=>⟨?_,trivial⟩⟩
       rw[hB.cell]
       have h4:=Qo (ckAt ks) sz z m (lo+j) i (by omega) hi
       rw[<- ht,List.getElem?_take]at h4
       split at h4
       · rw[show lo*sz+j*sz+i=(lo+j)*sz+i by rw[Nat.add_mul],h4,QeN hk (by omega),Nat.zero_add]
       · cases h4
 · simp only[Bool.and_eq_true]at hc
   have h0:=Nat.eq_of_beq_eq_true hc.1
   obtain rfl:n=0:=by omega
   exact⟨none,0,rfl,⟨Nat.le_refl _,by decide,.inl rfl⟩,rfl,Nat.le_refl _⟩
abbrev sI (x:Int):Seg:=.one (.v (.int .i64 x))
abbrev sU (x:Int):Seg:=.one (.v (.int .u64 x))
abbrev sB (x:Bool):Seg:=.one (.v (.bool x))
abbrev sP (b o:Nat):Seg:=.one (.p b o)
abbrev sS (b lo sz n c:Nat) (nn:Bool):Seg:=.one (.so b lo sz n c nn)
abbrev aI (x:Int):SA:=.c (.v (.int .i64 x))
abbrev aU (x:Int):SA:=.c (.v (.int .u64 x))
abbrev aB (x:Bool):SA:=.c (.v (.bool x))
abbrev aP (b o:Nat):SA:=.c (.p b o)
abbrev nU (n:Nat) (f:Nat->Int):Seg:=.ints (.int .u64) n f
abbrev nI (n:Nat) (f:Nat->Int):Seg:=.ints (.int .i64) n f
abbrev nB (n:Nat) (f:Nat->Int):Seg:=.ints .bool n f
abbrev xE (i:Nat):HX:=⟨i,[],[],[],false⟩
abbrev xF (i b:Nat):HX:=⟨i,[],[],[b],false⟩
abbrev xR (i b:Nat):HX:=⟨i,[b],[],[],false⟩
abbrev kI5:List CK:=[.int .i64,.int .i64,.int .i64,.int .i64,.int .i64]
abbrev kI6:List CK:=[.int .i64,.int .i64,.int .i64,.int .i64,.int .i64,.int .i64]
abbrev kI9:List CK:=[.int .i64,.int .i64,.int .i64,.int .i64,.int .i64,.int .i64,.int .i64,.int .i64,.int .i64]
abbrev kV7:List CK:=[.int .u64,.int .i64,.int .i64,.int .i64,.int .i64,.int .i64,.int .i64]
abbrev dP (fn:Func) (id n:Nat) (h:List HX):Prop:=Qdr fn id (regOps fn id) n h
def blkA:List SA->List Nat
 |[]=>[]
 |.c (.p b _)::r=>b::blkA r
 |.c (.o b _ _)::r=>b::blkA r
 |.c (.so b _ _ _ _ _)::r=>b::blkA r
 |_::r=>blkA r
theorem QdT {p:Prop}[Decidable p] {A B:Prop}(h:p->A) (k:¬p->B):bif decide p then A else B:=by
 by_cases hp:p
 · rw[decide_eq_true hp];exact h hp
 · rw[decide_eq_false hp];exact k hp
theorem by_beq {a b:Int}{A B:Prop}(h:a=b->A) (k:a≠b->B):bif (a==b)then A else B:=by
 by_cases hp:a=b
 · rw[beq_iff_eq.2 hp];exact h hp
 · rw[show (a==b)=false from beq_eq_false_iff_ne.2 hp];exact k hp
def blkE (env:Env) (t:Nat):Nat:=match lk env t with
 |some (.o (.c (.p b _)))=>b
 |some (.o (.c (.so b _ _ _ _ _)))=>b
 |some (.o (.c (.m b)))=>b
 |_=>0
theorem svI {a b:Int}(h:a=b):some (sv (.int .i64 a))=some (sv (.int .i64 b)):=by rw[h]
theorem sucI {n:Nat}(h:n<=1000000000):IntKind.wrap .i64 ((n:Int)+1)=((n+1:Nat):Int):=by
 simp only[IntKind.wrap,IntKind.bits,IntKind.signed];simp;omega
theorem wrapI {x:Int}(h0 : -9223372036854775808<=x) (h1:x<=9223372036854775807):IntKind.wrap .i64 x=x:=by
 simp only[IntKind.wrap,IntKind.bits,IntKind.signed];simp;omega
abbrev eS (a b:SA):Prop:=some (SV.o a)=some (SV.o b)
abbrev iR (i n:Int):Prop:=0<=i/\i<n
abbrev i04:Prop:=(0:Int)<=(0:Int)/\(0:Int)<(4:Int)
abbrev eN:Prop:=([]:List SB)=[]
abbrev zF:Nat->Int:=fun _=>0
abbrev t8 (n:Nat):Nat:=0+Int.toNat (n:Int)+Int.toNat (n:Int)+Int.toNat (n:Int)+Int.toNat (n:Int)+Int.toNat (n:Int)+Int.toNat (n:Int)+Int.toNat (n:Int)+Int.toNat (n:Int)
end
section
open Go.RowKit
def nilE:SA:=.c (.v .nilIface)
end
section
def dst (h j:Nat):Nat:=(j+8-h)%8
def opOk (a b c:Int):Bool:=decide (1<=a/\a<=6/\0<=b/\b<=1000/\0<=c/\c<=4294967295)
end
section
def ansOkB (c v:Int):Bool:=decide (1<=c/\c<=5/\0<=v/\v<=4294967295/\(c=1\/v=0))
end
section
def pickZ (a n:Int):Int:=(a%18446744073709551616)%n
end
section
open Go.Lib
abbrev Bs:=List UInt8
theorem Qgc {u:Nat}(h:u<10):decDigits u=[UInt8.ofNat (48+u)]:=by rw[decDigits,dif_pos h]
theorem dd_ge {u:Nat}(h:¬u<10):decDigits u=decDigits (u/10)++[UInt8.ofNat (48+u%10)]:=by rw[decDigits,dif_neg h]
theorem Qft {n:Int}(h:0<=n):itoa n=decDigits n.toNat:=by unfold itoa;rw[if_neg (by omega)]
theorem Q9 {n:Int}(h0:0<=n) (h1:n<10000000000):(itoa n).length<=10:=by
 rw[Qft h0]
 obtain⟨m,rfl⟩:=Int.eq_ofNat_of_zero_le h0
 rw[Int.toNat_natCast]
 have key:∀(k u:Nat),1<=k->u<10^k->(decDigits u).length<=k:=by
  intro k
  induction k with
  |zero=>intro u h;omega
  |succ k ih=>
   intro u _ hu
   by_cases h:u<10
   · rw[Qgc h];simp
   · rw[dd_ge h,List.length_append,List.length_singleton]
     have hk:1<=k:=by
      rcases Nat.eq_zero_or_pos k with h0|h0
      · subst h0;omega
      · exact h0
     have:=ih (u/10) hk (by rw[Nat.pow_succ]at hu;omega)
     omega
 exact key 10 m (by decide) (by omega)
def nameL:Nat->Bs
 |0=>[112,117,116]
 |1=>[116,97,107,101]
 |2=>[102,114,111,110,116]
 |3=>[98,97,99,107]
 |4=>[112,101,101,107]
 |_=>[99,111,117,110,116]
def keyL (key:Int):Bs:=if 0<key then 58::itoa key else []
def valL (x:Int):Bs:=if 0<x then 61::itoa x else []
def XD (k key x:Int):Bs:=nameL (k-1).toNat++keyL key++valL x
def codeL:Nat->Bs
 |0=>[100,111,110,101]
 |1=>[101,109,112,116,121]
 |2=>[102,117,108,108]
 |3=>[97,98,115,101,110,116]
 |_=>[119,114,111,110,103]
def sayV (v:Int):Bs:=if 0<v then 32::itoa v else []
def sayL (c v:Int):Bs:=codeL (c-1).toNat++sayV v
end
section
open Go.RowKit
abbrev bsV (l:List UInt8):ByteArray:=⟨l.toArray⟩
structure TxLaid (W:World):Prop where
 tab:Lib.TabIs Tryd.prog W "internal/strconv.uint64pow10" .u64 Lib.pow10Tab
 nam:∀i,i<6->W.cell? ⟨2,i,none⟩=some (.string (bsV (nameL i)))
 cod:∀i,i<5->W.cell? ⟨0,i,none⟩=some (.string (bsV (codeL i)))
theorem var_lt {P:Program}{W:World}{n:String}{cs:Array Value}(h:W.var? P n=some cs):∃g,P.globalNamed n=some g/\g<W.heap.size:=by
 unfold World.var? at h
 cases hg:P.globalNamed n with
 |none=>rw[hg]at h;cases h
 |some g=>
  refine⟨g,rfl,?_⟩
  rcases Nat.lt_or_ge g W.heap.size with h1|h1
  · exact h1
  · rw[hg]at h
    simp[Array.getElem?_eq_none h1]at h
theorem QfT {P:Program}{W w:World}(hK:∀k,k<W.heap.size->w.heap[k]?=W.heap[k]?) {n:String}{cs:Array Value}(h:W.var? P n=some cs):w.var? P n=some cs:=by
 obtain⟨g,hg,hl⟩:=var_lt h
 unfold World.var? at h ⊢
 rw[hg]at h ⊢
 simp only[Option.bind_some]at h ⊢
 rw[hK g hl];exact h
theorem QdS {W w:World}(hK:∀k,k<W.heap.size->w.heap[k]?=W.heap[k]?) {a:Addr}{v:Value}(h:W.cell? a=some v):w.cell? a=some v:=by
 have hl:a.block<W.heap.size:=by
  rcases Nat.lt_or_ge a.block W.heap.size with h1|h1
  · exact h1
  · simp[World.cell?,Array.getElem?_eq_none h1]at h
 unfold World.cell? at h ⊢
 rw[hK a.block hl];exact h
theorem TxLaid.old {W w:World}(h:TxLaid W) (hK:∀k,k<W.heap.size->w.heap[k]?=W.heap[k]?):TxLaid w where
 tab:=QfT hK h.tab
 nam i hi:=QdS hK (h.nam i hi)
 cod i hi:=QdS hK (h.cod i hi)
theorem TxLaid.below {W w:World}(h:TxLaid W) {n:Nat}(hb:Below n W w) (hn:W.heap.size<=n):TxLaid w:=h.old fun k hk=>hb.block k (by omega)
theorem XU (n:Int) (h0 : -9223372036854775808<=n) (h1:n<=9223372036854775807) {w:World}(hL:TxLaid w):
 Calls Tryd.prog 34 #[.int .i64 n] w fun e w'=>e=.returned (.string (bsV (Lib.itoa n)))/\Below w.heap.size w w':=
 (Tryd.strconv_Itoa n h0 h1 w hL.tab).mono fun e w' ⟨h,k,os,hw⟩=>⟨h,by rw[hw];exact Lib.below_grow _ w (Nat.le_refl _) k os⟩
theorem Qbc (j:Nat):(nameL j).length<=5:=by
 rcases j with _|_|_|_|_|j<;>(show List.length _<=5;simp[nameL])
theorem Qfk (k key x:Int) {w:World}(ho:opOk k key x=false) (hr:∀w,Calls Tryd.prog 7 #[.agg #[.int .i64 k,.int .i64 key,.int .i64 x]] w fun e w'=>e=.returned (.bool false)/\Below w.heap.size w w'):
 Calls Tryd.prog 50 #[.agg #[.int .i64 k,.int .i64 key,.int .i64 x]] w fun e w'=>e=.returned (.tuple #[.string (bsV []),.iface 64 (.int .i64 1)])/\Below w.heap.size w w':=by
 go_enter Tryd.func50,Tryd.ntmps50
 go_wp2_with (go_at_call 7;refine (hr _).mono ?_;rintro e w1 ⟨rfl,hb1⟩)
 go_ret2
 exact⟨rfl,((Below.refl _ w).alloc (Nat.le_refl _) _).trans (hb1.mono (by simp))⟩
theorem Qfj (k key x:Int) {w:World}(hL:TxLaid w) (ho:opOk k key x=true) (hr:∀w,Calls Tryd.prog 7 #[.agg #[.int .i64 k,.int .i64 key,.int .i64 x]] w fun e w'=>e=.returned (.bool true)/\Below w.heap.size w w'):
 Calls Tryd.prog 50 #[.agg #[.int .i64 k,.int .i64 key,.int .i64 x]] w fun e w'=>e=.returned (.tuple #[.string (bsV (XD k key x)),.nilIface])/\Below w.heap.size w w':=by
 have h:=of_decide_eq_true ho
 clear ho
 go_enter Tryd.func50,Tryd.ntmps50
 go_wp2_with (go_at_call 7;refine (hr _).mono ?_;rintro e w1 ⟨rfl,hb1⟩;refine Hid.out ?_)
 have hL1:TxLaid w1:=(hL.below ((Below.refl _ w).alloc (Nat.le_refl _) (.cells #[.int .i64 k,.int .i64 key,.int .i64 x] 24)) (Nat.le_refl _)).below hb1 (Nat.le_refl _)
 have hc:∀i,i<3->w1.cell? ⟨w.heap.size,i,none⟩= #[Value.int .i64 k,.int .i64 key,.int .i64 x][i]?:=fun i hi=>by
  rw[hb1.cell (by simp)]
  simp
 have hb:Below w.heap.size w w1:=((Below.refl _ w).alloc (Nat.le_refl _) _).trans (hb1.mono (by simp))
 have hlt:w.heap.size<w1.heap.size:=by have:=hb1.size;simp at this;omega
 clear hb1
 have c0:=hc 0 (by decide)
 have c1:=hc 1 (by decide)
 have c2:=hc 2 (by decide)
 simp at c0 c1 c2
 clear hc
 obtain⟨j,hj,hjk,hn⟩:∃j:Nat,k=(j:Int)+1/\j<6/\w1.cell? ⟨2,j,none⟩=some (.string (bsV (nameL j))):=⟨(k-1).toNat,by omega,by omega,hL1.nam _ (by omega)⟩
 subst hj
 refine Lib.hid ?_
 by_cases h1:0<key<;>by_cases h2:0<x
 · have g1:decide (key>0)=true:=decide_eq_true h1
   have g2:decide (x>0)=true:=decide_eq_true h2
   have s2:(nameL j).length<=5:=Qbc j
   have skey:(Lib.itoa key).length<=10:=Q9 (by omega) (by omega)
   have pkey:¬9223372036854775807<1+(Lib.itoa key).length:=by omega
   have qkey:¬9223372036854775807<(nameL j).length+(1+(Lib.itoa key).length):=by omega
   have sx:(Lib.itoa x).length<=10:=Q9 (by omega) (by omega)
   have px:¬9223372036854775807<1+(Lib.itoa x).length:=by omega
   have qx:¬9223372036854775807<(nameL j).length+(1+(Lib.itoa key).length)+(1+(Lib.itoa x).length):=by omega
   have i1:=XU key (by omega) (by omega) hL1
   go_wp2_with (go_at_call 34;refine i1.mono ?_;rintro e w2 ⟨rfl,hb2⟩;refine Hid.out ?_)
   have d2:w2.cell? ⟨w.heap.size,2,none⟩=some (.int .i64 x):=(hb2.cell hlt).trans c2
   have hL2:=hL1.below hb2 (Nat.le_refl _)
   have i2:=XU x (by omega) (by omega) hL2
   refine Lib.hid ?_
   go_wp2_with (go_at_call 34;refine i2.mono ?_;rintro e w3 ⟨rfl,hb3⟩)
   go_ret2
   refine⟨?_,((hb.trans (hb2.mono (by omega))).trans (hb3.mono (by have:=hb2.size;omega)))⟩
   refine congrArg (fun s=>Ending.returned (Value.tuple #[Value.string s,Value.nilIface])) (Go.WideShapes.bytes_inj ?_)
   simp[XD,keyL,valL,h1,h2]
 · have g1:decide (key>0)=true:=decide_eq_true h1
   have g2:decide (x>0)=false:=decide_eq_false h2
   have s2:(nameL j).length<=5:=Qbc j
   have skey:(Lib.itoa key).length<=10:=Q9 (by omega) (by omega)
   have pkey:¬9223372036854775807<1+(Lib.itoa key).length:=by omega
   have qkey:¬9223372036854775807<(nameL j).length+(1+(Lib.itoa key).length):=by omega
   have i1:=XU key (by omega) (by omega) hL1
   go_wp2_with (go_at_call 34;refine i1.mono ?_;rintro e w2 ⟨rfl,hb2⟩;refine Hid.out ?_)
   have d2:w2.cell? ⟨w.heap.size,2,none⟩=some (.int .i64 x):=(hb2.cell hlt).trans c2
   refine Lib.hid ?_
   go_wp2_with fail
   go_ret2
   refine⟨?_,(hb.trans (hb2.mono (by omega)))⟩
   refine congrArg (fun s=>Ending.returned (Value.tuple #[Value.string s,Value.nilIface])) (Go.WideShapes.bytes_inj ?_)
   simp[XD,keyL,valL,h1,h2]
 · have g1:decide (key>0)=false:=decide_eq_false h1
   have g2:decide (x>0)=true:=decide_eq_true h2
   have s2:(nameL j).length<=5:=Qbc j
   have sx:(Lib.itoa x).length<=10:=Q9 (by omega) (by omega)
   have px:¬9223372036854775807<1+(Lib.itoa x).length:=by omega
   have qx:¬9223372036854775807<(nameL j).length+(1+(Lib.itoa x).length):=by omega
   have i2:=XU x (by omega) (by omega) hL1
   go_wp2_with (go_at_call 34;refine i2.mono ?_;rintro e w3 ⟨rfl,hb3⟩)
   go_ret2
   refine⟨?_,(hb.trans (hb3.mono (by omega)))⟩
   refine congrArg (fun s=>Ending.returned (Value.tuple #[Value.string s,Value.nilIface])) (Go.WideShapes.bytes_inj ?_)
   simp[XD,keyL,valL,h1,h2]
 · have g1:decide (key>0)=false:=decide_eq_false h1
   have g2:decide (x>0)=false:=decide_eq_false h2
   have s2:(nameL j).length<=5:=Qbc j
   go_wp2_with fail
   go_ret2
   refine⟨?_,hb⟩
   refine congrArg (fun s=>Ending.returned (Value.tuple #[Value.string s,Value.nilIface])) (Go.WideShapes.bytes_inj ?_)
   simp[XD,keyL,valL,h1,h2]
theorem QfE (j:Nat):(codeL j).length<=6:=by
 rcases j with _|_|_|_|j<;>(show List.length _<=6;simp[codeL])
theorem say_no (c v:Int) {w:World}(hr:∀w,Calls Tryd.prog 51 #[.agg #[.int .i64 c,.int .i64 v]] w fun e w'=>e=.returned (.bool false)/\Below w.heap.size w w'):
 Calls Tryd.prog 36 #[.agg #[.int .i64 c,.int .i64 v]] w fun e w'=>e=.returned (.string (bsV [63]))/\Below w.heap.size w w':=by
 go_enter Tryd.func36,Tryd.ntmps36
 go_wp2_with (go_at_call 51;refine (hr _).mono ?_;rintro e w1 ⟨rfl,hb1⟩)
 go_ret
 exact⟨rfl,((Below.refl _ w).alloc (Nat.le_refl _) _).trans (hb1.mono (by simp))⟩
theorem say_ok (c v:Int) {w:World}(hL:TxLaid w) (ho:ansOkB c v=true) (hr:∀w,Calls Tryd.prog 51 #[.agg #[.int .i64 c,.int .i64 v]] w fun e w'=>e=.returned (.bool true)/\Below w.heap.size w w'):
 Calls Tryd.prog 36 #[.agg #[.int .i64 c,.int .i64 v]] w fun e w'=>e=.returned (.string (bsV (sayL c v)))/\Below w.heap.size w w':=by
 have h:=of_decide_eq_true ho
 clear ho
 go_enter Tryd.func36,Tryd.ntmps36
 go_wp2_with (go_at_call 51;refine (hr _).mono ?_;rintro e w1 ⟨rfl,hb1⟩;refine Hid.out ?_)
 have hL1:TxLaid w1:=(hL.below ((Below.refl _ w).alloc (Nat.le_refl _) (.cells #[.int .i64 c,.int .i64 v] 47)) (Nat.le_refl _)).below hb1 (Nat.le_refl _)
 have hc:∀i,i<2->w1.cell? ⟨w.heap.size,i,none⟩= #[Value.int .i64 c,.int .i64 v][i]?:=fun i hi=>by
  rw[hb1.cell (by simp)]
  simp
 have hb:Below w.heap.size w w1:=((Below.refl _ w).alloc (Nat.le_refl _) _).trans (hb1.mono (by simp))
 have hlt:w.heap.size<w1.heap.size:=by have:=hb1.size;simp at this;omega
 clear hb1
 have c0:=hc 0 (by decide)
 have c1:=hc 1 (by decide)
 simp at c0 c1
 clear hc
 obtain⟨j,hj,hjk,hn⟩:∃j:Nat,c=(j:Int)+1/\j<5/\w1.cell? ⟨0,j,none⟩=some (.string (bsV (codeL j))):=⟨(c-1).toNat,by omega,by omega,hL1.cod _ (by omega)⟩
 subst hj
 have s2:(codeL j).length<=6:=QfE j
 refine Lib.hid ?_
 by_cases h1:0<v
 · have g1:decide (v>0)=true:=decide_eq_true h1
   have sv:(Lib.itoa v).length<=10:=Q9 (by omega) (by omega)
   have pv:¬9223372036854775807<1+(Lib.itoa v).length:=by omega
   have qv:¬9223372036854775807<(codeL j).length+(1+(Lib.itoa v).length):=by omega
   have i1:=XU v (by omega) (by omega) hL1
   go_wp2_with (go_at_call 34;refine i1.mono ?_;rintro e w2 ⟨rfl,hb2⟩)
   go_ret
   refine⟨?_,hb.trans (hb2.mono (by omega))⟩
   refine congrArg (fun s=>Ending.returned (Value.string s)) (Go.WideShapes.bytes_inj ?_)
   simp[sayL,sayV,h1]
 · have g1:decide (v>0)=false:=decide_eq_false h1
   go_wp2_with fail
   go_ret
   refine⟨?_,hb⟩
   refine congrArg (fun s=>Ending.returned (Value.string s)) (Go.WideShapes.bytes_inj ?_)
   simp[sayL,sayV,h1]
def tabU:Tab:=[(3,.one (.int .i64 0) (.int .i64)),
(4,.one (.bool false) .bool),
(9,.one (.string ⟨#[]⟩) .str),
(22,.one (.slice none 0 0) (.slice 49)),
(24,.str [.one (.v (.int .i64 0)),.one (.v (.int .i64 0)),.one (.v (.int .i64 0))] [(0,1,false),(1,1,false),(2,1,false)]),
(27,.one (.int .u64 0) (.int .u64)),
(29,.arr [.ints (.int .u64) 32 (fun _=>0)] 32 1 false),
(42,.one (.nilIface) .iface),
(47,.str [.one (.v (.int .i64 0)),.one (.v (.int .i64 0))] [(0,1,false),(1,1,false)]),
(49,.str [.one (.v (.int .i64 0)),.one (.v (.int .i64 0)),.one (.v (.int .i64 0)),.one (.v (.int .i64 0)),.one (.v (.int .i64 0)),.one (.v (.int .i64 0))] [(0,1,false),(1,3,true),(4,2,true)]),
(59,.one (.int .u64 0) (.int .u64)),
(64,.one (.int .i64 0) (.int .i64)),
(74,.one (.slice none 0 0) (.slice 9)),
(83,.arr [.ints (.int .u64) 17 (fun _=>0)] 17 1 false),
(142,.arr [.one (.v (.string ⟨#[]⟩)),.one (.v (.string ⟨#[]⟩)),.one (.v (.string ⟨#[]⟩)),.one (.v (.string ⟨#[]⟩)),.one (.v (.string ⟨#[]⟩)),.one (.v (.string ⟨#[]⟩))] 6 1 false)]
theorem QaN:TabOk Tryd.prog tabU:=.cons ⟨by kernel_rfl,by kernel_rfl,by kernel_rfl,by kernel_rfl,by kernel_rfl⟩ (.cons ⟨by kernel_rfl,by kernel_rfl,by kernel_rfl,by kernel_rfl,by kernel_rfl⟩ (.cons ⟨by kernel_rfl,by kernel_rfl,by kernel_rfl,by kernel_rfl,by kernel_rfl⟩ (.cons ⟨by kernel_rfl,by kernel_rfl,by kernel_rfl,by kernel_rfl,by kernel_rfl⟩ (.cons ⟨by kernel_rfl,by kernel_rfl,by kernel_rfl,by kernel_rfl⟩ (.cons ⟨by kernel_rfl,by kernel_rfl,by kernel_rfl,by kernel_rfl,by kernel_rfl⟩ (.cons ⟨by kernel_rfl,by kernel_rfl,by kernel_rfl,by kernel_rfl⟩ (.cons ⟨by kernel_rfl,by kernel_rfl,by kernel_rfl,by kernel_rfl,by kernel_rfl⟩ (.cons ⟨by kernel_rfl,by kernel_rfl,by kernel_rfl,by kernel_rfl⟩ (.cons ⟨by kernel_rfl,by kernel_rfl,by kernel_rfl,by kernel_rfl⟩ (.cons ⟨by kernel_rfl,by kernel_rfl,by kernel_rfl,by kernel_rfl,by kernel_rfl⟩ (.cons ⟨by kernel_rfl,by kernel_rfl,by kernel_rfl,by kernel_rfl,by kernel_rfl⟩ (.cons ⟨by kernel_rfl,by kernel_rfl,by kernel_rfl,by kernel_rfl,by kernel_rfl⟩ (.cons ⟨by kernel_rfl,by kernel_rfl,by kernel_rfl,by kernel_rfl⟩ (.cons ⟨by kernel_rfl,by kernel_rfl,by kernel_rfl,by kernel_rfl⟩ (TabOk.nil _)))))))))))))))
theorem XP:TysOk Tryd.prog tabU:=TysOk.of (by kernel_rfl) (by kernel_rfl)
abbrev opV (a b c:Int):SA:=.a [.one (.v (.int .i64 a)),.one (.v (.int .i64 b)),.one (.v (.int .i64 c))]
abbrev anV (a b:Int):SA:=.a [.one (.v (.int .i64 a)),.one (.v (.int .i64 b))]
abbrev erV (n:Int):SA:=.c (.v (.iface 64 (.int .i64 n)))
abbrev txV (l:List UInt8):SA:=.c (.v (.string (bsV l)))
def Qdv:PCon:=⟨fun args=>match args with
 |[.a [.one (.v (.int .i64 a)),.one (.v (.int .i64 b)),.one (.v (.int .i64 c))]]=>True
 |_=>False,fun args=>match args with
 |[.a [.one (.v (.int .i64 a)),.one (.v (.int .i64 b)),.one (.v (.int .i64 c))]]=>sv (.bool (opOk a b c))
 |_=>sv undef,fun _=>none⟩
theorem Qfn:(Con.pure Qdv).holds Tryd.prog 7:=by
 refine Qal (AG:=[]) (Γ:=[]) Tryd.func7 rfl (by kernel_rfl) QaN XP (fun _=>GamOk.nil _ _ _) Qdv 400 ?_
 intro W args hp
 unfold Qdv at hp;dsimp only at hp;split at hp
 case h_2=>exact hp.elim
 rename_i a b c
 refine⟨rfl,?_⟩
 refine Qed (q:=bif decide (a>=(1:Int))then bif decide (a<=(6:Int))then bif decide (b>=(0:Int))then bif decide (b<=(1000:Int))then bif decide (c>=(0:Int))then SV.o (aB (decide (c<=(4294967295:Int))))=SV.o (aB (opOk a b c))/\true=true else SV.o (aB false)=SV.o (aB (opOk a b c))/\true=true else SV.o (aB false)=SV.o (aB (opOk a b c))/\true=true else SV.o (aB false)=SV.o (aB (opOk a b c))/\true=true else SV.o (aB false)=SV.o (aB (opOk a b c))/\true=true else SV.o (aB false)=SV.o (aB (opOk a b c))/\true=true) (by kernel_rfl) ?_
 repeat' (first|refine QdT (fun _=>?_) (fun _=>?_)|refine And.intro ?_ ?_)
 all_goals (first|rfl|(refine svB ?_;unfold opOk;first|(rw[decide_eq_decide];omega)|(symm;rw[decide_eq_false_iff_not];omega)))
theorem QdD (k key x:Int) (w:World):Calls Tryd.prog 7 #[.agg #[.int .i64 k,.int .i64 key,.int .i64 x]] w fun e w'=>e=.returned (.bool (opOk k key x))/\Below w.heap.size w w':=
 (Qfn w (fun _=>False)).2 (fun _=>0) [opV k key x] w trivial (Kept.refl _ w)
def Qcu:PCon:=⟨fun args=>match args with
 |[.a [.one (.v (.int .i64 a)),.one (.v (.int .i64 b))]]=>True
 |_=>False,fun args=>match args with
 |[.a [.one (.v (.int .i64 a)),.one (.v (.int .i64 b))]]=>sv (.bool (ansOkB a b))
 |_=>sv undef,fun _=>none⟩
theorem Qe8:(Con.pure Qcu).holds Tryd.prog 51:=by
 refine Qal (AG:=[]) (Γ:=[]) Tryd.func51 rfl (by kernel_rfl) QaN XP (fun _=>GamOk.nil _ _ _) Qcu 400 ?_
 intro W args hp
 unfold Qcu at hp;dsimp only at hp;split at hp
 case h_2=>exact hp.elim
 rename_i a b
 refine⟨rfl,?_⟩
 refine Qed (q:=bif decide (a>=(1:Int))then bif decide (a<=(5:Int))then bif decide (b>=(0:Int))then bif decide (b<=(4294967295:Int))then bif a==(1:Int)then SV.o (aB true)=SV.o (aB (ansOkB a b))/\true=true else SV.o (aB (b==(0:Int)))=SV.o (aB (ansOkB a b))/\true=true else SV.o (aB false)=SV.o (aB (ansOkB a b))/\true=true else SV.o (aB false)=SV.o (aB (ansOkB a b))/\true=true else SV.o (aB false)=SV.o (aB (ansOkB a b))/\true=true else SV.o (aB false)=SV.o (aB (ansOkB a b))/\true=true) (by kernel_rfl) ?_
 repeat' (first|refine QdT (fun _=>?_) (fun _=>?_)|refine by_beq (fun _=>?_) (fun _=>?_)|refine And.intro ?_ ?_)
 all_goals (first|rfl|(refine svB ?_;unfold ansOkB;first|(symm;rw[decide_eq_false_iff_not];omega)|(symm;rw[decide_eq_true_iff];omega)|(rw[decide_eq_decide];omega)|(rw[Bool.eq_iff_iff,beq_iff_eq,decide_eq_true_iff];omega)))
theorem Qc8 (c v:Int) (w:World):Calls Tryd.prog 51 #[.agg #[.int .i64 c,.int .i64 v]] w fun e w'=>e=.returned (.bool (ansOkB c v))/\Below w.heap.size w w':=
 (Qe8 w (fun _=>False)).2 (fun _=>0) [anV c v] w trivial (Kept.refl _ w)
theorem TxLaid.kept {W w:World}(h:TxLaid W) (k:Kept (fun _=>False) W w):TxLaid w:=h.old fun b hb=>k.block b hb (fun h=>h)
def Qcs:PCon:=⟨fun args=>match args with
 |[.a [.one (.v (.int .i64 a)),.one (.v (.int .i64 b)),.one (.v (.int .i64 c))]]=>True
 |_=>False,fun args=>match args with
 |[.a [.one (.v (.int .i64 a)),.one (.v (.int .i64 b)),.one (.v (.int .i64 c))]]=>.t [txV (XD a b c),nilE]
 |_=>sv undef,fun args=>match args with
 |[.a [.one (.v (.int .i64 a)),.one (.v (.int .i64 b)),.one (.v (.int .i64 c))]]=>some (opOk a b c,.t [txV [],erV 1])
 |_=>none⟩
theorem Qey (W:World) (hL:TxLaid W):(Con.pure Qcs).holdsAt Tryd.prog W (fun _=>False) 50:=by
 refine⟨by kernel_rfl,fun ρ args w hp hK=>?_⟩
 unfold Qcs at hp;dsimp only at hp;split at hp
 case h_2=>exact hp.elim
 rename_i a b c
 cases ho:opOk a b c
 · refine (Qfk a b c ho (fun w=>by have:=QdD a b c w;rwa [ho]at this)).mono fun e w' ⟨h1,h2⟩=>⟨?_,h2⟩
   rw[h1]
   show _=Ending.returned ((bif opOk a b c then SV.t [txV (XD a b c),nilE]else .t [txV [],erV 1]).den ρ)
   rw[ho];rfl
 · refine (Qfj a b c (hL.kept hK) ho (fun w=>by have:=QdD a b c w;rwa [ho]at this)).mono fun e w' ⟨h1,h2⟩=>⟨?_,h2⟩
   rw[h1]
   show _=Ending.returned ((bif opOk a b c then SV.t [txV (XD a b c),nilE]else .t [txV [],erV 1]).den ρ)
   rw[ho];rfl
def QfS:PCon:=⟨fun args=>match args with
 |[.a [.one (.v (.int .i64 a)),.one (.v (.int .i64 b))]]=>True
 |_=>False,fun args=>match args with
 |[.a [.one (.v (.int .i64 a)),.one (.v (.int .i64 b))]]=>.o (txV (sayL a b))
 |_=>sv undef,fun args=>match args with
 |[.a [.one (.v (.int .i64 a)),.one (.v (.int .i64 b))]]=>some (ansOkB a b,.o (txV [63]))
 |_=>none⟩
theorem QfY (W:World) (hL:TxLaid W):(Con.pure QfS).holdsAt Tryd.prog W (fun _=>False) 36:=by
 refine⟨by kernel_rfl,fun ρ args w hp hK=>?_⟩
 unfold QfS at hp;dsimp only at hp;split at hp
 case h_2=>exact hp.elim
 rename_i a b
 cases ho:ansOkB a b
 · refine (say_no a b (fun w=>by have:=Qc8 a b w;rwa [ho]at this)).mono fun e w' ⟨h1,h2⟩=>⟨?_,h2⟩
   rw[h1]
   show _=Ending.returned ((bif ansOkB a b then SV.o (txV (sayL a b))else .o (txV [63])).den ρ)
   rw[ho];rfl
 · refine (say_ok a b (hL.kept hK) ho (fun w=>by have:=Qc8 a b w;rwa [ho]at this)).mono fun e w' ⟨h1,h2⟩=>⟨?_,h2⟩
   rw[h1]
   show _=Ending.returned ((bif ansOkB a b then SV.o (txV (sayL a b))else .o (txV [63])).den ρ)
   rw[ho];rfl
end
section
open Go.Lib
def nmL (k key x:Int):Bs:=bif opOk k key x then XD k key x else [63]
def syL (c v:Int):Bs:=bif ansOkB c v then sayL c v else [63]
def QaH (z:Nat->Int):Bs:=itoa (z 0)++[32]++nmL (z 1) (z 2) (z 3)++[58,32]++syL (z 4) (z 5)
theorem QeV:∀(k u:Nat),1<=k->u<10^k->(decDigits u).length<=k
 |0,u,h,_=>absurd h (by decide)
 |1,u,_,h=>by rw[Qgc (by omega)];exact Nat.le_refl _
 |k+2,u,_,h=>by
  by_cases h1:u<10
  · rw[Qgc h1];simp
  · rw[dd_ge h1,List.length_append,List.length_singleton]
    have:=QeV (k+1) (u/10) (by omega) (by rw[Nat.div_lt_iff_lt_mul (by decide)];rw[Nat.pow_succ]at h;exact h)
    omega
theorem QaW {n:Int}(h0 : -9223372036854775808<=n) (h1:n<=9223372036854775807):(itoa n).length<=20:=by
 unfold itoa
 split
 · have:=QeV 19 n.natAbs (by decide) (by omega)
   simp only[List.length_cons]
   omega
 · have:=QeV 19 n.toNat (by decide) (by omega)
   omega
theorem QeE (k key x:Int):(nmL k key x).length<=27:=by
 unfold nmL
 cases h:opOk k key x
 · show ([63]:Bs).length<=27;decide
 · have h:=of_decide_eq_true h
   have h1:(nameL (k-1).toNat).length<=5:=by
    generalize (k-1).toNat=j
    rcases j with _|_|_|_|_|j<;>(show List.length _<=5;simp[nameL])
   have h2:(keyL key).length<=11:=by
    unfold keyL
    split
    · have:=Q9 (n:=key) (by omega) (by omega)
      simp only[List.length_cons];omega
    · simp
   have h3:(valL x).length<=11:=by
    unfold valL
    split
    · have:=Q9 (n:=x) (by omega) (by omega)
      simp only[List.length_cons];omega
    · simp
   show (XD k key x).length<=27
   unfold XD
   simp only[List.length_append];omega
theorem Qej (c v:Int):(syL c v).length<=17:=by
 unfold syL
 cases h:ansOkB c v
 · show ([63]:Bs).length<=17;decide
 · have h:=of_decide_eq_true h
   have h1:(codeL (c-1).toNat).length<=6:=by
    generalize (c-1).toNat=j
    rcases j with _|_|_|_|j<;>(show List.length _<=6;simp[codeL])
   have h2:(sayV v).length<=11:=by
    unfold sayV
    split
    · have:=Q9 (n:=v) (by omega) (by omega)
      simp only[List.length_cons];omega
    · simp
   show (sayL c v).length<=17
   unfold sayL
   simp only[List.length_append];omega
theorem QfA {z:Nat->Int}(h0 : -9223372036854775808<=z 0) (h1:z 0<=9223372036854775807):(QaH z).length<=70:=by
 have a:=QaW h0 h1
 have b:=QeE (z 1) (z 2) (z 3)
 have c:=Qej (z 4) (z 5)
 unfold QaH
 simp only[List.length_append,List.length_cons,List.length_nil]
 omega
theorem QdI (x sep:Bs):join [x] sep=x:=by simp[join,List.intercalate]
theorem Qbd (x y:Bs) (r:List Bs) (sep:Bs):join (x::y::r) sep=x++sep++join (y::r) sep:=by simp[join,List.intercalate]
theorem Qbv (sep:Bs):∀(xs ys:List Bs),xs≠[]->ys≠[]->join (xs++ys) sep=join xs sep++sep++join ys sep
 |[],_,h,_=>absurd rfl h
 |[x],[],_,h=>absurd rfl h
 |[x],y::r,_,_=>by rw[QdI];exact Qbd x y r sep
 |x::x2::r,ys,_,h=>by
  have ih:=Qbv sep (x2::r) ys (by simp) h
  show join (x::x2::(r++ys)) sep=_
  rw[Qbd,Qbd,show x2::(r++ys)=(x2::r)++ys from rfl,ih]
  simp only[List.append_assoc]
theorem QdJ (sep:Bs) (hs:sep.length<=10):∀(xs:List Bs),(∀x∈xs,x.length<=100)->(join xs sep).length<=110*xs.length
 |[],_=>by simp[join,List.intercalate]
 |[x],h=>by rw[QdI];have:=h x List.mem_cons_self;simp only[List.length_singleton];omega
 |x::y::r,h=>by
  have ih:=QdJ sep hs (y::r) (fun a ha=>h a (List.mem_cons_of_mem _ ha))
  have:=h x List.mem_cons_self
  rw[Qbd]
  simp only[List.length_append,List.length_cons]at ih ⊢
  omega
def Xo (z:Nat->Nat->Int) (n:Nat):Bs:=join ((List.range n).map fun i=>QaH (z i)) [44,32]
def catY (n:Nat) (y z:Nat->Nat->Int):Nat->Nat->Int:=fun i j=>bif Nat.ble (i+1) n then y i j else z (i-n) j
theorem Qgp (y z:Nat->Nat->Int) {n k:Nat}(hn:0<n) (hk:0<k):Xo (catY n y z) (n+k)=Xo y n++[44,32]++Xo z k:=by
 unfold Xo
 rw[List.range_add,List.map_append,List.map_map]
 have e1:(List.range n).map (fun i=>QaH (catY n y z i))=(List.range n).map (fun i=>QaH (y i)):=List.map_congr_left fun i hi=>by
  have hi:i+1<=n:=List.mem_range.1 hi
  have:catY n y z i=y i:=funext fun j=>by unfold catY;rw[Nat.ble_eq_true_of_le hi];rfl
  rw[this]
 have e2:(List.range k).map ((fun i=>QaH (catY n y z i)) ∘ fun i=>n+i)=(List.range k).map (fun i=>QaH (z i)):=List.map_congr_left fun i hi=>by
  have hb:Nat.ble (n+i+1) n=false:=by
   cases h:Nat.ble (n+i+1) n
   · rfl
   · exact absurd (Nat.le_of_ble_eq_true h) (by omega)
  have:catY n y z (n+i)=z i:=funext fun j=>by unfold catY;rw[hb,Nat.add_sub_cancel_left];rfl
  show QaH (catY n y z (n+i))=_
  rw[this]
 rw[e1,e2]
 refine Qbv _ _ _ (fun h=>?_) (fun h=>?_)
 · have:=congrArg List.length h
   simp at this;omega
 · have:=congrArg List.length h
   simp at this;omega
theorem Qb4 {z:Nat->Nat->Int}{n:Nat}(h:∀i,i<n->-9223372036854775808<=z i 0/\z i 0<=9223372036854775807):(Xo z n).length<=110*n:=by
 have:=QdJ [44,32] (by decide) ((List.range n).map fun i=>QaH (z i)) (fun x hx=>by
  obtain⟨i,hi,rfl⟩:=List.mem_map.1 hx
  have hi:=h i (List.mem_range.1 hi)
  have:=QfA hi.1 hi.2
  omega)
 rw[List.length_map,List.length_range]at this
 exact this
structure JnS where
 n:Nat
 m:Nat
 c:Nat
 nn:Bool
 z:Nat->Nat->Int
 sep:ByteArray
def JnS.out (s:JnS):List UInt8:=Lib.join ((List.range s.n).map fun i=>(sD (s.z i 0)).data.toList) s.sep.data.toList
abbrev bsQ (l:List UInt8):ByteArray:=⟨l.toArray⟩
theorem Qc7 (a b:List UInt8):ByteArray.instAppend.1 (bsQ a) (bsQ b)=bsQ (a++b):=by
 show bsQ a++bsQ b=_
 apply ByteArray.ext
 simp
theorem QdU (a b:List UInt8):ByteArray.instAppend.1 (bsQ a) (ByteArray.mk (Array.mk b))=bsQ (a++b):=Qc7 a b
theorem Qda (l:List UInt8):ByteArray.size (bsQ l)=l.length:=rfl
theorem szle {l:List UInt8}{k:Nat}(h:l.length+k<=1000):ByteArray.size (bsQ l)+k<=1099511627776:=by rw[Qda];omega
theorem Qfd {l m:List UInt8}(h:l.length+m.length<=1000):ByteArray.size (bsQ l)+ByteArray.size (bsQ m)<=1099511627776:=by rw[Qda,Qda];omega
theorem QcL {n m c:Nat}{nn:Bool}{y z:Nat->Nat->Int}(hy:∀k,k<n->sD (y k 0)=bsQ (QaH (z k))):(JnS.mk n m c nn y (bsQ [44,32])).out=Xo z n:=by
 unfold JnS.out Xo
 have e:(List.range n).map (fun i=>(sD (y i 0)).data.toList)=(List.range n).map (fun i=>QaH (z i)):=List.map_congr_left fun k hk=>by
  rw[hy k (List.mem_range.1 hk)]
 show join ((List.range n).map (fun i=>(sD (y i 0)).data.toList)) [44,32]=_
 rw[e]
def isI64 (ks:Nat->Go.IntKind):Prop:=ks=fun _=>.i64
end
section
open Go.RowKit
abbrev rowsT (m c:Nat) (z:Nat->Nat->Int):SB:=.rows 9 [.str] 1 m c z
def Qdw:RCon where
 σ:=JnS
 χ:=Unit
 pre s:=s.n<=s.m/\s.n<=1000000/\s.out.length<=1000000000
 args s:=[.c (.so 0 0 1 s.n s.c s.nn),.c (.v (.string s.sep))]
 mem s:=[rowsT s.m s.c s.z]
 ok _ _:=True
 val s _:=.o (txV s.out)
 new _ _:=[]
 len:=0
 det:=some ()
 find args _:=some (blkA args)
theorem QdK:(Con.rd Qdw).holds Tryd.prog 37:=by
 intro w0 S
 refine⟨by kernel_rfl,fun x0 h s x=>⟨rfl,trivial⟩,fun ρ s w hp _ hM=>?_⟩
 obtain⟨n,m,c,nn,z,sep⟩:=s
 obtain⟨h1,h2,h3⟩:=hp
 have h1:n<=m:=h1
 have h2:n<=1000000:=h2
 have hrow:RowAt w (ρ 0) 9 1 m c (Qg (ckAt [.str]) 1 z m):=hM _ (List.mem_singleton.2 rfl)
 have hmc:m<=c:=hrow.1
 show Calls Tryd.prog 37 #[bif (c.beq 0 && !nn)then .slice none 0 0 else .slice (some ⟨ρ 0,bif (c-0).beq 0 then 0 else 0*1,none⟩) n (c-0),.string sep] w _
 have e0:(bif (c-0).beq 0 then (0:Nat)else 0*1)=0:=by cases (c-0).beq 0<;>rfl
 rw[e0,Nat.sub_zero]
 rcases Nat.eq_zero_or_pos n with h0|h0
 · subst h0
   have none (a:Option Addr) (c':Nat):Calls Tryd.prog 37 #[.slice a 0 c',.string sep] w fun e w'=>∃(x:Unit) (ρ':Nat->Nat),True/\(∀i,i<1->ρ' i=ρ i)/\0=0/\e=.returned ((SV.o (txV (JnS.mk 0 m c nn z sep).out)).den ρ')/\Mem w (fun _=>False) [] w':=
    (Tryd.strings_Join_none a c' sep w).mono fun e w' ⟨he,hw⟩=>⟨(),ρ,trivial,fun _ _=>rfl,rfl,he,by rw[hw];exact Mem.start w⟩
   cases (c.beq 0 && !nn)
   · exact none _ _
   · exact none _ _
 · have hc:(c.beq 0 && !nn)=false:=by rw[nbeq (show c≠0 by omega)];rfl
   rw[hc]
   obtain⟨C,hB,-⟩:=hrow.blk (by omega)
   have hl:((List.range n).map fun i=>sD (z i 0)).length=n:=by rw[List.length_map,List.length_range]
   have ho:((List.range n).map fun i=>sD (z i 0)).map (·.data.toList)=(List.range n).map fun i=>(sD (z i 0)).data.toList:=by rw[List.map_map];rfl
   have key:=Tryd.strings_Join (ρ 0) 0 c ((List.range n).map fun i=>sD (z i 0)) sep w (fun j x hx=>by
    have hj:j<n:=by
     have:=(List.getElem?_eq_some_iff.1 hx).1
     rw[hl]at this;exact this
    rw[List.getElem?_map,List.getElem?_range hj]at hx
    simp only[Option.map_some,Option.some.injEq]at hx
    subst hx
    have:=hrow.cell (i:=j) (j:=0) (by omega) (by decide)
    rw[Nat.mul_one,Nat.add_zero]at this
    rw[Nat.zero_add];exact this) hB.lt (by rw[hl];omega) (by rw[hl];omega) (by rw[ho];exact Nat.le_trans h3 (by decide))
   rw[hl,ho]at key
   exact key.mono fun e w' ⟨he,hw⟩=>⟨(),ρ,trivial,fun _ _=>rfl,rfl,he,⟨.of_below hw,fun f hf=>(by cases hf),fun f hf=>(by cases hf),List.Pairwise.nil⟩⟩
abbrev opA (a b c:Int):SA:=.a [.one (.v (.int .i64 a)),.one (.v (.int .i64 b)),.one (.v (.int .i64 c))]
theorem catT {i n:Nat}{a b:Int}(h:i<n):(bif Nat.ble (i+1) n then a else b)=a:=by
 rw[show Nat.ble (i+1) n=true from Nat.ble_eq_true_of_le h];rfl
theorem catF {n:Nat}{a b:Int}:(bif Nat.ble (n+1) n then a else b)=b:=by
 cases h:Nat.ble (n+1) n
 · rfl
 · exact absurd (Nat.le_of_ble_eq_true h) (by omega)
end
section
open Go.RowKit Go.Lib
theorem Blk.newA (w:World) (A:Array Value) (t:TypeId):Blk (w.alloc (.cells A t)) w.heap.size A.toList t:=by
 have:=Blk.new w A.toList t
 simpa using this
end
section
open Go.RowKit
def conPick:PCon:=⟨fun args=>match args with
 |[.c (.v (.int .i64 a)),.c (.v (.int .i64 n))]=>0<n/\n<=9223372036854775807
 |_=>False,fun args=>match args with
 |[.c (.v (.int .i64 a)),.c (.v (.int .i64 n))]=>sv (.int .i64 (pickZ a n))
 |_=>sv undef,fun _=>none⟩
def conKindOf:PCon:=⟨fun args=>match args with
 |[.c (.v (.int .i64 a))]=>True
 |_=>False,fun args=>match args with
 |[.c (.v (.int .i64 a))]=>sv (.int .i64 (1+pickZ a 6))
 |_=>sv undef,fun _=>none⟩
def QeX:PCon:=⟨fun args=>match args with
 |[.c (.v (.int .i64 a))]=>True
 |_=>False,fun args=>match args with
 |[.c (.v (.int .i64 a))]=>.o (opA 1 0 a)
 |_=>sv undef,fun _=>none⟩
theorem put_con:(Con.pure QeX).holds Tryd.prog 23:=by
 refine Qal (AG:=[]) (Γ:=[]) Tryd.func23 rfl (by kernel_rfl) QaN XP (fun _=>GamOk.nil _ _ _) QeX 400 ?_
 intro W args hp
 unfold QeX at hp;dsimp only at hp;split at hp
 case h_2=>exact hp.elim
 rename_i a
 refine⟨rfl,?_⟩
 refine Qed (q:=SV.o (SA.a [sI 1,sI 0,sI a])=SV.o (SA.a [sI 1,sI 0,sI a])/\true=true) (by kernel_rfl) ?_
 exact⟨rfl,rfl⟩
abbrev rowsD (m c:Nat) (z:Nat->Nat->Int):SB:=.rows 49 [.int .i64,.int .i64,.int .i64,.int .i64,.int .i64,.int .i64] 6 m c z
end
section
open Go.RowKit
section
variable {P:Program}{f:FuncId}{fn:Func}{c:Code}{T:Tab}{Γ:Gam}{AG:List (Nat × Anns)}{w0 w:World}{S:Nat->Prop}{ρ:Nat->Nat}{M:List SB}
theorem Qd2 {w0:World}{S:Nat->Prop}(hf:P.funcs[f]?=some fn) (hb:fn.body=some c) (hen:XK P f=true) (hT:TabOk P T) (hT2:TysOk P T) (hΓ:∀w,Kept S w0 w->GamOk P w (fun _=>False) Γ) (C:RCon) (hdet:∀x0,C.det=some x0->∀s x,x=x0/\C.ok s x0)
 (AG:List SA->List (Nat × Anns)) (nz:List NZ) (rp:SV->List SB->List Nat) (n:Nat)
 (h:∀(s:C.σ) (ρ:Nat->Nat) (w:World),C.pre s->Kept S w0 w->(∀e∈denM ρ 0 (C.mem s),e.at w)->∃args:List SA,(C.args s).map (SA.den ρ)=args.map (SA.den ρ)/\(args.length.ble fn.ntmps&&Qak (sc 0) args)=true /\
  run w T Γ (AG args) n ⟨fn,fn.ntmps,lkAG (AG args) f,0,finS w T fn.results.toList (endD C nz rp s)⟩ none [] [.code c] (Qq 0 args) []):(Con.rd C).holdsAt P w0 S f:=by
 refine⟨hen,hdet,fun ρ s w hp hK hM=>?_⟩
 obtain⟨args,ha,h1,h2⟩:=h s ρ w hp hK hM
 rw[ha]
 refine (Xd (OldOk.self w) (ρ:=ρ) (M:=[]) hf hb hT hT2 (hΓ w hK) args 0 (Nat.le_refl _) (by rw[show QB (sc ([]:List SB).length) []=true from rfl,Bool.and_true];exact h1) (Mem.start w) n h2).mono ?_
 rintro e w' ⟨x0,M0,ρ',hend,-,rfl,HM0⟩
 obtain⟨x,M',⟨y,hy,hx⟩,hxd,HM'⟩:=Qgb hend HM0
 rw[hxd]
 cases hc:(nodB (rp x M')&&Qav M'.length (rp x M')&&(rp x M').length.beq C.len&&(C.new s y).length.beq C.len&&QB (fun i=>(C.mem s).length.ble i) (C.new s y)&&(C.val s y).av (fun i=>(C.mem s).length.ble i))
 · rw[hc]at hx;exact hx.elim
 · rw[hc]at hx
   simp only[cond_true]at hx
   simp only[Bool.and_eq_true]at hc
   obtain⟨⟨⟨⟨⟨c1,c2⟩,c3⟩,c4⟩,c5⟩,c6⟩:=hc
   have hge:∀i,(C.mem s).length.ble i=true->(fun i=>if i<(C.mem s).length then ρ i else ρ' (ofL (rp x M') (i-(C.mem s).length))) i=(fun i=>ρ' (ofL (rp x M') (i-(C.mem s).length))) i:=fun i hi=>if_neg (by have:=QF hi;omega)
   refine⟨y,fun i=>if i<(C.mem s).length then ρ i else ρ' (ofL (rp x M') (i-(C.mem s).length)),hy,fun i hi=>if_pos hi,Nat.eq_of_beq_eq_true c4,?_,?_⟩
   · rw[hx.1];congr 1;rw[SV.ren_den,<- hx.1]
     exact (SV.av_den hge c6).symm
   · rw[QbT (p:=fun i=>(C.mem s).length.ble i) hge (fun i h1 _=>Nat.ble_eq_true_of_le h1) c5]
     have hd:=QaG (ρ:=ρ') (M:=M') (rp x M') (C.new s y) (fun i=>ofL (rp x M') (i-(C.mem s).length)) (C.mem s).length (fun i hi=>by rw[List.getElem?_eq_getElem hi];simp[ofL,List.getD_eq_getElem?_getD,hi]) hx.2
     rw[<- hd]
     exact (HM'.perm (Xn ρ' M' (rp x M') M'.length (Nat.le_refl _) (QO c1) (Q6 c2))).sub (List.sublist_append_left _ _)
end
end
section
open Go.RowKit
def Qct:PCon:=⟨fun args=>match args with
 |[.c (.v (.int .i64 n))]=>-9223372036854775808<=n/\n<=9223372036854775807
 |_=>False,fun args=>match args with
 |[.c (.v (.int .i64 n))]=>.o (txV (Lib.itoa n))
 |_=>sv undef,fun _=>none⟩
theorem QdL (W:World) (hL:TxLaid W):(Con.pure Qct).holdsAt Tryd.prog W (fun _=>False) 34:=by
 refine⟨by kernel_rfl,fun ρ args w hp hK=>?_⟩
 unfold Qct at hp;dsimp only at hp;split at hp
 case h_2=>exact hp.elim
 rename_i n
 exact XU n hp.1 hp.2 (hL.kept hK)
def Qat:PCon:=⟨fun args=>match args with
 |[.a [.one (.v (.int .i64 a)),.one (.v (.int .i64 b)),.one (.v (.int .i64 c))]]=>True
 |_=>False,fun args=>match args with
 |[.a [.one (.v (.int .i64 a)),.one (.v (.int .i64 b)),.one (.v (.int .i64 c))]]=>.o (txV (nmL a b c))
 |_=>sv undef,fun _=>none⟩
theorem QdF (W:World) (hL:TxLaid W):(Con.pure Qat).holdsAt Tryd.prog W (fun _=>False) 35:=by
 refine XG (Γ:=[(50,.pure Qcs)]) Tryd.func35 rfl (by kernel_rfl) QaN XP (fun w hK=>.cons (Qey w (hL.kept hK)) (.nil _ _ _)) Qat (fun _=>[]) 400 ?_
 intro w args hp hK
 unfold Qat at hp;dsimp only at hp;split at hp
 case h_2=>exact hp.elim
 rename_i a b c
 refine⟨rfl,?_⟩
 refine Qed (q:=True/\bif opOk a b c then endP Qat [SA.a [sI a,sI b,sI c]] (SV.o (SA.c (.v (.string (bsV (XD a b c)))))) []else endP Qat [SA.a [sI a,sI b,sI c]] (SV.o (SA.c (.v (.string (ByteArray.mk (Array.mk [(63:UInt8)])))))) []) (by kernel_rfl) ?_
 refine⟨trivial,Qgh (fun h=>⟨rfl,fun ρ=>?_⟩) (fun h=>⟨rfl,fun ρ=>?_⟩)⟩<;>(show _=(SV.o (txV (nmL a b c))).den ρ;unfold nmL;rw[h];rfl)
def QfD:PCon:=⟨fun args=>match args with
 |[.a [.one (.v (.int .i64 a)),.one (.v (.int .i64 b))]]=>True
 |_=>False,fun args=>match args with
 |[.a [.one (.v (.int .i64 a)),.one (.v (.int .i64 b))]]=>.o (txV (syL a b))
 |_=>sv undef,fun _=>none⟩
theorem QfN (W:World) (hL:TxLaid W):(Con.pure QfD).holdsAt Tryd.prog W (fun _=>False) 36:=by
 refine⟨by kernel_rfl,fun ρ args w hp hK=>?_⟩
 unfold QfD at hp;dsimp only at hp;split at hp
 case h_2=>exact hp.elim
 rename_i a b
 refine ((QfY W hL).2 ρ [anV a b] w trivial hK).mono fun e w' ⟨he,hw⟩=>⟨?_,hw⟩
 rw[he]
 show Ending.returned ((bif ansOkB a b then SV.o (txV (sayL a b))else .o (txV [63])).den ρ)=.returned ((SV.o (txV (syL a b))).den ρ)
 unfold syL
 cases ansOkB a b<;>rfl
theorem Rws.kept0 {n:Nat}{ks:Nat->IntKind}{w w':World}{a:Option Addr}{len cap:Nat}{f:Nat->Nat->Int}(h:Rws n ks w a len cap f) (hK:Kept (fun _=>False) w w'):Rws n ks w' a len cap f:=h.below (hK.below (Nat.le_refl _) (fun _ h=>h.elim))
structure DsG (n:Nat) (z:Nat->Nat->Int) where
 i:Nat
 m:Nat
 c:Nat
 nn:Bool
 y:Nat->Nat->Int
 hi:i<=n
 hm:i<=m/\m<=c
 hy:∀k,k<i->sD (y k 0)=bsV (QaH (z k))
def Qgl (a:Option Addr) (n c:Nat) (z:Nat->Nat->Int):Ann where
 σ:=DsG n z
 I g:=([(3,.o (.c (.so 0 0 1 g.i g.c g.nn))),(6,.o (.c (.r a n c n 6 (fun _=>.i64) z))),(7,sv (.int .i64 n)),(8,sv (.int .i64 g.i))],[rowsT g.m g.c g.y])
 dec g:=n-g.i
 pi env _:=[blkE env 3]
 nz:=[.tmp 3 9 1 [.str]]
def agDs (args:List SA):List (Nat × Anns):=match args with
 |[.c (.r a n c m sz ks z)]=>[(20,[(0,Qgl a n c z)])]
 |_=>[]
def ThIn (n:Nat) (z:Nat->Nat->Int):Prop:=∀i,i<n->-9223372036854775808<=z i 0/\z i 0<=9223372036854775807
def QaI (W:World):PCon:=⟨fun args=>match args with
 |[.c (.r a n c m sz ks z)]=>n=m/\sz=6/\isI64 ks/\n<=40/\Rws 6 (fun _=>.i64) W a n c z/\ThIn n z
 |_=>False,fun args=>match args with
 |[.c (.r a n c m sz ks z)]=>.o (txV (Xo z n))
 |_=>sv undef,fun _=>none⟩
theorem Qgn (W:World) (hL:TxLaid W):(Con.pure (QaI W)).holdsAt Tryd.prog W (fun _=>False) 20:=by
 refine XG (Γ:=[(34,.pure Qct),(35,.pure Qat),(36,.pure QfD),(37,.rd Qdw)]) Tryd.func20 rfl (by kernel_rfl) QaN XP (fun w hK=>.cons (QdL w (hL.kept hK)) (.cons (QdF w (hL.kept hK)) (.cons (QfN w (hL.kept hK)) (.cons (QdK w _) (.nil _ _ _))))) (QaI W) agDs 600 ?_
 intro w args hp hK
 unfold QaI at hp;dsimp only at hp;split at hp
 case h_2=>exact hp.elim
 rename_i a n c m sz ks z
 obtain⟨rfl,rfl,hk,hn,hr,hu⟩:=hp
 have hk:ks=fun _=>.i64:=hk
 subst hk
 have hr:=Rws.kept0 hr hK
 refine⟨rfl,?_⟩
 refine Qed (q:=(∃(s0:Ann.σ (Qgl a n c z)),(eS (SA.c (.so 0 0 1 0 0 false)) (SA.c (.so 0 0 1 s0.1 s0.3 s0.4))/\eS (SA.c (.r a n c n 6 (fun (x:Nat)=>.i64) z)) (SA.c (.r a n c n 6 (fun (x:Nat)=>.i64) z))/\eS (aI ↑n) (aI ↑n)/\eS (aI 0) (aI ↑s0.1)/\True)/\[SB.rows 9 [CK.str] 1 0 0 fun (x x_1:Nat)=>(0:Int)]=[SB.rows 9 [CK.str] 1 s0.2 s0.3 s0.5])/\∀(s:DsG n z),bif decide ((↑s.1:Int)<(↑n:Int))then (Rws 6 (fun (x:Nat)=>.i64) w a n c z/\(0:Int)<=(↑s.1:Int)/\(↑s.1:Int)<(↑n:Int)/\Int.toNat (↑s.1:Int)<n)/\(Rws 6 (fun (x:Nat)=>.i64) w a n c z/\Int.toNat (↑s.1:Int)<n)/\((-9223372036854775808:Int)<=z (Int.toNat (↑s.1:Int)) 0/\z (Int.toNat (↑s.1:Int)) 0<=(9223372036854775807:Int))/\ByteArray.size (bsV (Lib.itoa (z (Int.toNat (↑s.1:Int)) 0)))+1<=1099511627776/\True/\ByteArray.size (ByteArray.instAppend.1 (bsV (Lib.itoa (z (Int.toNat (↑s.1:Int)) 0))) (ByteArray.mk (Array.mk [(32:UInt8)])))+ByteArray.size (bsV (nmL (z (Int.toNat (↑s.1:Int)) 1) (z (Int.toNat (↑s.1:Int)) 2) (z (Int.toNat (↑s.1:Int)) 3)))<=1099511627776/\ByteArray.size (ByteArray.instAppend.1 (ByteArray.instAppend.1 (bsV (Lib.itoa (z (Int.toNat (↑s.1:Int)) 0))) (ByteArray.mk (Array.mk [(32:UInt8)]))) (bsV (nmL (z (Int.toNat (↑s.1:Int)) 1) (z (Int.toNat (↑s.1:Int)) 2) (z (Int.toNat (↑s.1:Int)) 3))))+2<=1099511627776/\True/\ByteArray.size (ByteArray.instAppend.1 (ByteArray.instAppend.1 (ByteArray.instAppend.1 (bsV (Lib.itoa (z (Int.toNat (↑s.1:Int)) 0))) (ByteArray.mk (Array.mk [(32:UInt8)]))) (bsV (nmL (z (Int.toNat (↑s.1:Int)) 1) (z (Int.toNat (↑s.1:Int)) 2) (z (Int.toNat (↑s.1:Int)) 3)))) (ByteArray.mk (Array.mk [(58:UInt8),(32:UInt8)])))+ByteArray.size (bsV (syL (z (Int.toNat (↑s.1:Int)) 4) (z (Int.toNat (↑s.1:Int)) 5)))<=1099511627776/\dP Tryd.f20 5 2 [⟨15,[2],[0,3],[],true⟩,⟨14,[],[2],[2],false⟩,xE 13,xE 12,xR 11 1,xF 10 1,xE 9,xE 8,xE 7,xR 6 1,xF 5 1,xE 4,xE 3,xR 2 1,xF 1 1,xF 0 0]/\((s.1<=s.2/\s.3=s.3)/\(1<=1/\1=1)/\s.1+1<=68719476736)/\∀(c_1:Nat),s.1+1<=c_1->dP Tryd.f20 5 2 [xF 16 3,⟨15,[2],[0,3],[3],true⟩,⟨14,[],[2],[2],false⟩,xE 13,xE 12,xR 11 1,xF 10 1,xE 9,xE 8,xE 7,xR 6 1,xF 5 1,xE 4,xE 3,xR 2 1,xF 1 1,xF 0 0]/\∃(s':DsG n z),((eS (SA.c (.so 3 0 1 (s.1+1) c_1 s.4)) (SA.c (.so 3 0 1 s'.1 s'.3 s'.4))/\eS (SA.c (.r a n c n 6 (fun (x:Nat)=>.i64) z)) (SA.c (.r a n c n 6 (fun (x:Nat)=>.i64) z))/\eS (aI ↑n) (aI ↑n)/\eS (aI (IntKind.wrap .i64 ((↑s.1:Int)+(1:Int)))) (aI ↑s'.1)/\True)/\[SB.rows 9 [CK.str] 1 (s.1+1) c_1 fun (i j:Nat)=>bif Nat.ble (i+1) s.1 then s.5 i j else match List.get?Internal (match List.get?Internal [[sE (ByteArray.instAppend.1 (ByteArray.instAppend.1 (ByteArray.instAppend.1 (ByteArray.instAppend.1 (bsV (Lib.itoa (z (Int.toNat (↑s.1:Int)) 0))) (ByteArray.mk (Array.mk [(32:UInt8)]))) (bsV (nmL (z (Int.toNat (↑s.1:Int)) 1) (z (Int.toNat (↑s.1:Int)) 2) (z (Int.toNat (↑s.1:Int)) 3)))) (ByteArray.mk (Array.mk [(58:UInt8),(32:UInt8)]))) (bsV (syL (z (Int.toNat (↑s.1:Int)) 4) (z (Int.toNat (↑s.1:Int)) 5))))]] (0+(i-s.1))with|some x=>x|none=>[]) j with|some x=>x|none=>(0:Int)]=[SB.rows 9 [CK.str] 1 s'.2 s'.3 s'.5])/\n-s'.1<n-s.1 else ∃(s_1:JnS),[SA.c (.so 0 0 1 s.1 s.3 s.4),SA.c (.v (.string (ByteArray.mk (Array.mk [(44:UInt8),(32:UInt8)]))))]=[SA.c (.so 0 0 1 s_1.1 s_1.3 s_1.4),SA.c (.v (.string s_1.6))]/\[SB.rows 9 [CK.str] 1 s.2 s.3 s.5]=[SB.rows 9 [CK.str] 1 s_1.2 s_1.3 s_1.5]/\(s_1.1<=s_1.2/\s_1.1<=1000000/\List.length (JnS.out s_1)<=1000000000)/\∀(x:Unit),True->endP (QaI W) [SA.c (.r a n c n 6 (fun (x:Nat)=>.i64) z)] (SV.o (SA.c (.v (.string (bsV (JnS.out s_1)))))) []) (by kernel_rfl) ?_
 refine⟨⟨⟨0,0,0,false,fun _ _=>0,Nat.zero_le _,⟨Nat.le_refl _,Nat.le_refl _⟩,fun k hk=>absurd hk (Nat.not_lt_zero _)⟩,⟨rfl,rfl,rfl,rfl,trivial⟩,rfl⟩,?_⟩
 rintro⟨i,m1,c1,nn1,y,hi,hm1,hy⟩
 dsimp only
 rw[Int.toNat_natCast]
 refine QdT (fun hlt0=>?_) (fun hge=>?_)
 · have hlt:i<n:=by omega
   have h0:=hu i hlt
   have l1:=QaW h0.1 h0.2
   have l2:=QeE (z i 1) (z i 2) (z i 3)
   have l3:=Qej (z i 4) (z i 5)
   rw[QdU,Qc7,QdU,Qc7]
   refine' ⟨⟨hr,by omega,hlt0,hlt⟩,⟨hr,hlt⟩,h0,szle (by omega),trivial,Qfd (by simp only[List.length_append,List.length_cons,List.length_nil];omega),szle (by simp only[List.length_append,List.length_cons,List.length_nil];omega),trivial,Qfd (by simp only[List.length_append,List.length_cons,List.length_nil];omega),Qcr (by kernel_rfl),⟨⟨hm1.1,rfl⟩,⟨Nat.le_refl _,rfl⟩,by omega⟩,fun c2 hc2=>⟨Qcr (by kernel_rfl),⟨i+1,i+1,c2,nn1,_,hlt,⟨Nat.le_refl _,hc2⟩,?hy⟩,⟨⟨rfl,rfl,rfl,svI (sucI (by omega)),trivial⟩,rfl⟩,by dsimp only;omega⟩⟩
   case hy=>
    intro k hk
    by_cases hki:k<i
    · rw[<- hy k hki];exact congrArg sD (catT hki)
    · obtain rfl:k=i:=by omega
      refine (congrArg sD (catF.trans ?_)).trans (Qf0 (bsV (QaH (z k))))
      rw[Nat.sub_self];rfl
 · obtain rfl:i=n:=by omega
   have eo:(JnS.mk i m1 c1 nn1 y (bsV [44,32])).out=Xo z i:=QcL hy
   refine⟨⟨i,m1,c1,nn1,y,bsV [44,32]⟩,rfl,rfl,⟨hm1.1,by show i<=1000000;omega,?_⟩,fun _ _=>?_⟩
   · show (JnS.mk i m1 c1 nn1 y (bsV [44,32])).out.length<=1000000000
     rw[eo]
     have:=Qb4 (z:=z) (n:=i) hu
     omega
   · refine⟨rfl,fun ρ=>?_⟩
     show (SV.o (txV (JnS.mk i m1 c1 nn1 y (bsV [44,32])).out)).den ρ=(SV.o (txV (Xo z i))).den ρ
     rw[eo]
structure DsO where
 n:Nat
 m:Nat
 c:Nat
 nn:Bool
 z:Nat->Nat->Int
def QbF:RCon where
 σ:=DsO
 χ:=Unit
 pre s:=s.n<=40/\s.n<=s.m/\ThIn s.n s.z
 args s:=[.c (.so 0 0 6 s.n s.c s.nn)]
 mem s:=[rowsD s.m s.c s.z]
 ok _ _:=True
 val s _:=.o (txV (Xo s.z s.n))
 new _ _:=[]
 len:=0
 det:=some ()
 find args _:=match args with
  |[.c (.so b _ _ _ _ _)]=>some [b]
  |_=>none
theorem Qgo (W:World) (hL:TxLaid W):(Con.rd QbF).holdsAt Tryd.prog W (fun _=>False) 20:=by
 refine Qd2 (Γ:=[(34,.pure Qct),(35,.pure Qat),(36,.pure QfD),(37,.rd Qdw)]) Tryd.func20 rfl (by kernel_rfl) QaN XP (fun w hK=>.cons (QdL w (hL.kept hK)) (.cons (QdF w (hL.kept hK)) (.cons (QfN w (hL.kept hK)) (.cons (QdK w _) (.nil _ _ _))))) QbF (fun x0 h s x=>⟨rfl,trivial⟩) agDs [] (fun _ _=>[]) 600 ?_
 rintro⟨n,m,c,nn,z⟩ ρ w ⟨hn,hm,hu⟩-hM
 have hn:n<=40:=hn
 have hm:n<=m:=hm
 have hu:ThIn n z:=hu
 have hrow:RowAt w (ρ 0) 49 6 m c (Qg (ckAt [.int .i64,.int .i64,.int .i64,.int .i64,.int .i64,.int .i64]) 6 z m):=hM _ (List.mem_singleton.2 rfl)
 obtain⟨a,c',e1,hr,-,hc⟩:=QfX (kf:=fun _=>.i64) (lo:=0) (n:=n) (nn:=nn) hrow rfl rfl (by rw[Nat.zero_add];exact hm)
 have ez:(fun i=>z (0+i))=z:=funext fun i=>by rw[Nat.zero_add]
 rw[ez]at hr
 refine⟨[.c (.r a n c' n 6 (fun _=>.i64) z)],by show [(SC.so 0 0 6 n c nn).den ρ]=_;rw[e1];rfl,rfl,?_⟩
 refine Qed (q:=(∃(s0:Ann.σ (Qgl a n c' z)),(eS (SA.c (.so 0 0 1 0 0 false)) (SA.c (.so 0 0 1 s0.1 s0.3 s0.4))/\eS (SA.c (.r a n c' n 6 (fun (x:Nat)=>.i64) z)) (SA.c (.r a n c' n 6 (fun (x:Nat)=>.i64) z))/\eS (aI ↑n) (aI ↑n)/\eS (aI 0) (aI ↑s0.1)/\True)/\[SB.rows 9 [CK.str] 1 0 0 fun (x x_1:Nat)=>(0:Int)]=[SB.rows 9 [CK.str] 1 s0.2 s0.3 s0.5])/\∀(s:DsG n z),bif decide ((↑s.1:Int)<(↑n:Int))then (Rws 6 (fun (x:Nat)=>.i64) w a n c' z/\(0:Int)<=(↑s.1:Int)/\(↑s.1:Int)<(↑n:Int)/\Int.toNat (↑s.1:Int)<n)/\(Rws 6 (fun (x:Nat)=>.i64) w a n c' z/\Int.toNat (↑s.1:Int)<n)/\((-9223372036854775808:Int)<=z (Int.toNat (↑s.1:Int)) 0/\z (Int.toNat (↑s.1:Int)) 0<=(9223372036854775807:Int))/\ByteArray.size (bsV (Lib.itoa (z (Int.toNat (↑s.1:Int)) 0)))+1<=1099511627776/\True/\ByteArray.size (ByteArray.instAppend.1 (bsV (Lib.itoa (z (Int.toNat (↑s.1:Int)) 0))) (ByteArray.mk (Array.mk [(32:UInt8)])))+ByteArray.size (bsV (nmL (z (Int.toNat (↑s.1:Int)) 1) (z (Int.toNat (↑s.1:Int)) 2) (z (Int.toNat (↑s.1:Int)) 3)))<=1099511627776/\ByteArray.size (ByteArray.instAppend.1 (ByteArray.instAppend.1 (bsV (Lib.itoa (z (Int.toNat (↑s.1:Int)) 0))) (ByteArray.mk (Array.mk [(32:UInt8)]))) (bsV (nmL (z (Int.toNat (↑s.1:Int)) 1) (z (Int.toNat (↑s.1:Int)) 2) (z (Int.toNat (↑s.1:Int)) 3))))+2<=1099511627776/\True/\ByteArray.size (ByteArray.instAppend.1 (ByteArray.instAppend.1 (ByteArray.instAppend.1 (bsV (Lib.itoa (z (Int.toNat (↑s.1:Int)) 0))) (ByteArray.mk (Array.mk [(32:UInt8)]))) (bsV (nmL (z (Int.toNat (↑s.1:Int)) 1) (z (Int.toNat (↑s.1:Int)) 2) (z (Int.toNat (↑s.1:Int)) 3)))) (ByteArray.mk (Array.mk [(58:UInt8),(32:UInt8)])))+ByteArray.size (bsV (syL (z (Int.toNat (↑s.1:Int)) 4) (z (Int.toNat (↑s.1:Int)) 5)))<=1099511627776/\dP Tryd.f20 5 2 [⟨15,[2],[0,3],[],true⟩,⟨14,[],[2],[2],false⟩,xE 13,xE 12,xR 11 1,xF 10 1,xE 9,xE 8,xE 7,xR 6 1,xF 5 1,xE 4,xE 3,xR 2 1,xF 1 1,xF 0 0]/\((s.1<=s.2/\s.3=s.3)/\(1<=1/\1=1)/\s.1+1<=68719476736)/\∀(c:Nat),s.1+1<=c->dP Tryd.f20 5 2 [xF 16 3,⟨15,[2],[0,3],[3],true⟩,⟨14,[],[2],[2],false⟩,xE 13,xE 12,xR 11 1,xF 10 1,xE 9,xE 8,xE 7,xR 6 1,xF 5 1,xE 4,xE 3,xR 2 1,xF 1 1,xF 0 0]/\∃(s':DsG n z),((eS (SA.c (.so 3 0 1 (s.1+1) c s.4)) (SA.c (.so 3 0 1 s'.1 s'.3 s'.4))/\eS (SA.c (.r a n c' n 6 (fun (x:Nat)=>.i64) z)) (SA.c (.r a n c' n 6 (fun (x:Nat)=>.i64) z))/\eS (aI ↑n) (aI ↑n)/\eS (aI (IntKind.wrap .i64 ((↑s.1:Int)+(1:Int)))) (aI ↑s'.1)/\True)/\[SB.rows 9 [CK.str] 1 (s.1+1) c fun (i j:Nat)=>bif Nat.ble (i+1) s.1 then s.5 i j else match List.get?Internal (match List.get?Internal [[sE (ByteArray.instAppend.1 (ByteArray.instAppend.1 (ByteArray.instAppend.1 (ByteArray.instAppend.1 (bsV (Lib.itoa (z (Int.toNat (↑s.1:Int)) 0))) (ByteArray.mk (Array.mk [(32:UInt8)]))) (bsV (nmL (z (Int.toNat (↑s.1:Int)) 1) (z (Int.toNat (↑s.1:Int)) 2) (z (Int.toNat (↑s.1:Int)) 3)))) (ByteArray.mk (Array.mk [(58:UInt8),(32:UInt8)]))) (bsV (syL (z (Int.toNat (↑s.1:Int)) 4) (z (Int.toNat (↑s.1:Int)) 5))))]] (0+(i-s.1))with|some x=>x|none=>[]) j with|some x=>x|none=>(0:Int)]=[SB.rows 9 [CK.str] 1 s'.2 s'.3 s'.5])/\n-s'.1<n-s.1 else ∃(s_1:JnS),[SA.c (.so 0 0 1 s.1 s.3 s.4),SA.c (.v (.string (ByteArray.mk (Array.mk [(44:UInt8),(32:UInt8)]))))]=[SA.c (.so 0 0 1 s_1.1 s_1.3 s_1.4),SA.c (.v (.string s_1.6))]/\[SB.rows 9 [CK.str] 1 s.2 s.3 s.5]=[SB.rows 9 [CK.str] 1 s_1.2 s_1.3 s_1.5]/\(s_1.1<=s_1.2/\s_1.1<=1000000/\List.length (JnS.out s_1)<=1000000000)/\∀(x:Unit),True->endD QbF [] (fun (x:SV) (x_1:List SB)=>[]) (DsO.mk n m c nn z) (SV.o (SA.c (.v (.string (bsV (JnS.out s_1)))))) [SB.rows 9 [CK.str] 1 s.2 s.3 s.5]) (by kernel_rfl) ?_
 refine⟨⟨⟨0,0,0,false,fun _ _=>0,Nat.zero_le _,⟨Nat.le_refl _,Nat.le_refl _⟩,fun k hk=>absurd hk (Nat.not_lt_zero _)⟩,⟨rfl,rfl,rfl,rfl,trivial⟩,rfl⟩,?_⟩
 rintro⟨i,m1,c1,nn1,y,hi,hm1,hy⟩
 dsimp only
 rw[Int.toNat_natCast]
 refine QdT (fun hlt0=>?_) (fun hge=>?_)
 · have hlt:i<n:=by omega
   have h0:=hu i hlt
   have l1:=QaW h0.1 h0.2
   have l2:=QeE (z i 1) (z i 2) (z i 3)
   have l3:=Qej (z i 4) (z i 5)
   rw[QdU,Qc7,QdU,Qc7]
   refine' ⟨⟨hr,by omega,hlt0,hlt⟩,⟨hr,hlt⟩,h0,szle (by omega),trivial,Qfd (by simp only[List.length_append,List.length_cons,List.length_nil];omega),szle (by simp only[List.length_append,List.length_cons,List.length_nil];omega),trivial,Qfd (by simp only[List.length_append,List.length_cons,List.length_nil];omega),Qcr (by kernel_rfl),⟨⟨hm1.1,rfl⟩,⟨Nat.le_refl _,rfl⟩,by omega⟩,fun c2 hc2=>⟨Qcr (by kernel_rfl),⟨i+1,i+1,c2,nn1,_,hlt,⟨Nat.le_refl _,hc2⟩,?hy⟩,⟨⟨rfl,rfl,rfl,svI (sucI (by omega)),trivial⟩,rfl⟩,by dsimp only;omega⟩⟩
   case hy=>
    intro k hk
    by_cases hki:k<i
    · rw[<- hy k hki];exact congrArg sD (catT hki)
    · obtain rfl:k=i:=by omega
      refine (congrArg sD (catF.trans ?_)).trans (Qf0 (bsV (QaH (z k))))
      rw[Nat.sub_self];rfl
 · obtain rfl:i=n:=by omega
   have eo:(JnS.mk i m1 c1 nn1 y (bsV [44,32])).out=Xo z i:=QcL hy
   refine⟨⟨i,m1,c1,nn1,y,bsV [44,32]⟩,rfl,rfl,⟨hm1.1,by show i<=1000000;omega,?_⟩,fun _ _=>?_⟩
   · show (JnS.mk i m1 c1 nn1 y (bsV [44,32])).out.length<=1000000000
     rw[eo]
     have:=Qb4 (z:=z) (n:=i) hu
     omega
   · refine⟨(),trivial,?_,rfl⟩
     show SV.o (txV (JnS.mk i m1 c1 nn1 y (bsV [44,32])).out)=SV.o (txV (Xo z i))
     rw[eo]
end
section
open Go.RowKit Go.Lib
def QdQ:Go.Shelf.Ren:=⟨fun|4=>38|n=>n,fun|22=>22|25=>49|3=>3|4=>4|9=>9|20=>20|0=>0|n=>n,fun|n=>n⟩
theorem QeR:Go.Proofs.Lays8.n4 Tryd.prog QdQ:={
 mixed:=by kernel_rfl
 f4:=⟨ "slices.Grow[[]gristmill/api.Deed,gristmill/api.Deed]",by decide,Tryd.func38.trans (congrArg some (by kernel_rfl))⟩
 t0:=Tryd.underlying0
 a0:=Tryd.isAgg0
 z0:=Tryd.sizeOf0
 v0:=Tryd.zeroValue0
 t3:=Tryd.underlying3
 a3:=Tryd.isAgg3
 z3:=Tryd.sizeOf3
 v3:=Tryd.zeroValue3
 t4:=Tryd.underlying4
 a4:=Tryd.isAgg4
 z4:=Tryd.sizeOf4
 v4:=Tryd.zeroValue4
 t9:=Tryd.underlying9
 a9:=Tryd.isAgg9
 z9:=Tryd.sizeOf9
 v9:=Tryd.zeroValue9
 t20:=Tryd.underlying20
 a20:=Tryd.isAgg20
 z20:=Tryd.sizeOf20
 v20:=Tryd.zeroValue20
 t22:=Tryd.underlying22
 a22:=Tryd.isAgg22
 z22:=Tryd.sizeOf22
 v22:=Tryd.zeroValue22 }
structure GrR where
 c:Nat
 nn:Bool
def QeY:RCon where
 σ:=Nat
 χ:=GrR
 pre n:=n<=1000
 args n:=[.c (.v (.slice none 0 0)),.c (.v (.int .i64 (n:Int)))]
 mem _:=[]
 ok _ _:=True
 val _ x:=.o (.c (.so 0 0 6 0 x.c x.nn))
 new _ x:=[rowsD 0 x.c (fun _ _=>0)]
 len:=1
 det:=none
 find _ _:=some []
theorem grow_con:(Con.rd QeY).holds Tryd.prog 38:=by
 intro w0 S
 refine⟨by kernel_rfl,(fun x0 h=>by cases h),fun ρ (n:Nat) w hp _ _=>?_⟩
 have hn:n<=1000:=hp
 rcases Nat.eq_zero_or_pos n with h0|h0
 · subst h0
   refine (Any8.slices_Grow_room QeR none 0 0 0 w (Nat.le_refl _) (by decide) (by decide) (Nat.le_refl _)).mono fun e w' ⟨he,hw⟩=>?_
   subst hw
   exact⟨⟨0,false⟩,ρ,trivial,fun i hi=>absurd hi (Nat.not_lt_zero _),rfl,he,⟨Kept.refl _ _,fun f hf=>by
    obtain rfl:=List.mem_singleton.1 hf
    exact⟨Nat.le_refl _,rfl,fun h=>absurd h (Nat.lt_irrefl _)⟩,fun f hf g hg=>by
    obtain rfl:=List.mem_singleton.1 hf
    exact absurd hg.1 (Nat.lt_irrefl _),List.pairwise_singleton _ _⟩⟩
 · have hs:(Tryd.prog.info? 49).map (·.size)=some 6:=by kernel_rfl
   have hz:(Tryd.prog.info? 49).bind (·.zero)=some (.agg #[.int .i64 0,.int .i64 0,.int .i64 0,.int .i64 0,.int .i64 0,.int .i64 0]):=by kernel_rfl
   have hb:(Tryd.prog.info? 49).map (·.bytes)=some 48:=by kernel_rfl
   cases hq:Tryd.prog.info? 49 with
   |none=>rw[hq]at hs;cases hs
   |some i0=>
    rw[hq]at hs hz hb
    simp only[Option.map_some,Option.some.injEq,Option.bind_some]at hs hz hb
    refine (Any8.slices_Grow_grow QeR i0 _ hq hz (by omega) none 0 0 n [] w (Nat.le_refl _) (by omega) (by rw[hb];omega) (by omega) (by simp) (fun _=>rfl) (fun a h=>by cases h)).mono fun e w' ⟨he,hw⟩=>?_
    have hG1:=grownCap_ge w (0+n) 0 (QdQ.t 25)
    have hG2:=grownCap_le_maxLen w (0+n) 0 (QdQ.t 25) (by unfold maxLen;omega)
    rw[hw]
    generalize grownCap w (0+n) 0 (QdQ.t 25)=G at *
    refine⟨⟨G,true⟩,fun _=>w.heap.size,trivial,fun i hi=>absurd hi (Nat.not_lt_zero _),rfl,?_,⟨.of_below (((Below.refl _ _).drew).alloc (Nat.le_refl _) _),fun f hf=>?_,fun f hf g hg=>?_,List.pairwise_singleton _ _⟩⟩
    · rw[he]
      have e0:(bif (G-0).beq 0 then (0:Nat)else 0*6)=0:=by cases (G-0).beq 0<;>rfl
      simp only[QeY,SV.den,SA.den,SC.den,Bool.not_true,Bool.and_false,cond_false,e0]
      rfl
    · obtain rfl:=List.mem_singleton.1 hf
      exact⟨Nat.zero_le _,rfl,fun _=>⟨_,Blk.newA w.drew _ _,by simp[size_zeroCells,Value.cells];omega,rfl,hG2⟩⟩
    · obtain rfl:=List.mem_singleton.1 hf
      obtain⟨-,rfl⟩:=hg
      exact .inr (Nat.le_refl _)
end
section
open Go.RowKit
def RowIn (sz:Nat) (ks:Nat->IntKind) (W:World) (a:Option Addr) (n c:Nat) (z:Nat->Nat->Int):Prop:=Rws sz ks W a n c z/\∀i,i<n->∀j,j<sz->(Lit.int (ks j) (z i j)).wf=true
end
section
open Go.ChangeShapes Go.WideShapes Go.RowKit Go.Lib
theorem lOwn:ownKnob Tryd.prog.godebug=none:=by kernel_rfl
abbrev laidL:List (String × DataW Unit):=[("math/bits.deBruijn32tab",Rows.laid_math_bits_deBruijn32tab),("math/bits.deBruijn64tab",Rows.laid_math_bits_deBruijn64tab),("internal/strconv.uint64pow10",Rows.laid_internal_strconv_uint64pow10),("gristmill/op.names",Rows.laid_gristmill_op_names),("gristmill/op.codes",Rows.laid_gristmill_op_codes)]
theorem laid_one {P:Program}{l:List (String × DataW Unit)}{w:World}{n:String}{d:DataW Unit}(h:laidMet P l w) (hf:l.filter (fun x=>x.1==n)=[(n,d)]):
 ∃g t cs fuel p,P.globalNamed n=some g/\(P.globals[g]?).map (·.type)=some t/\w.var? P n=some cs/\DataW.trod (fun _=>()) P w 0 (fun _=>true) false fuel t cs.toList=some (d,p):=by
 have:=h.filter (fun x=>x.1==n)
 rw[hf]at this
 obtain⟨ps,⟨g,t,cs,fuel,p,q,h1,h2,h3,h4,-,-⟩,-⟩:=this
 exact⟨g,t,cs,fuel,p,h1,h2,h3,h4⟩
theorem cells_of_strs {H:Type}{enc:TypeId × Value->H}{P:Program}{w:World}{base:Nat}{sp:Nat->Bool}{held:Bool}{fuel:Nat}{t e:TypeId}{n:Nat}{cs:List Value}{zs:List (List UInt8)}{p:List MemPlace}
 (ht:P.underlying t=some (.array n e)) (he:P.underlying e=some .string) (hce:P.cellsOf e=1)
 (h:DataW.trod enc P w base sp held fuel t cs=some (.agg (zs.map fun z=>.lit (.string z)),p)) (i:Nat) (z:List UInt8) (hz:zs[i]?=some z):cs[i]?=some (.string ⟨z.toArray⟩):=by
 cases fuel with
 |zero=>simp[DataW.trod]at h
 |succ fuel=>
  simp only[DataW.trod,ht,hce,Nat.mul_one]at h
  split at h
  · rename_i hl
    obtain⟨xs,hm,hx⟩:=Option.map_eq_some_iff.1 h
    have hxs:xs.map (·.1)=zs.map fun z=>(DataW.lit (.string z):DataW H):=by
     have:=congrArg Prod.fst hx
     simpa using this
    have hxl:xs.length=n:=by simpa using mapM_length hm
    have hzl:zs.length=n:=by
     have:=congrArg List.length hxs
     simp at this
     omega
    have hi:i<n:=by
     have:=(List.getElem?_eq_some_iff.1 hz).1
     omega
    obtain⟨b,hb,hf⟩:=mapM_at hm i i (by simp[hi])
    obtain⟨s,hc,hq,_⟩:=DataW.trod_string he hf
    have h1:cs[i]?=some (.string s):=by
     have:=congrArg (·[0]?) hc
     simpa [List.getElem?_take,List.getElem?_drop] using this
    have h2:(xs.map (·.1))[i]?=some (DataW.lit (.string s.data.toList):DataW H):=by simp[hb,hq]
    rw[hxs,List.getElem?_map,hz]at h2
    have h3:z=s.data.toList:=by simpa using h2
    rw[h1,h3]
  · cases h
theorem txLaid_of {W:World}(h:laidMetH Tryd.prog laidL W):TxLaid W:=by
 have h1:laidMet Tryd.prog laidL W:=(laidMetH_iff.1 h).1
 refine⟨?_,?_,?_⟩
 · have h2:=h1.filter (fun x=>x.1 == "internal/strconv.uint64pow10")
   rw[show laidL.filter (fun x=>x.1 == "internal/strconv.uint64pow10")=[("internal/strconv.uint64pow10",tabData .u64 pow10Tab)] by kernel_rfl]at h2
   exact tabIs_of_head (show Tryd.prog.globalNamed "internal/strconv.uint64pow10" =some 3 by kernel_rfl) (by kernel_rfl) Tryd.underlying178 Tryd.underlying27 (by kernel_rfl) (by kernel_rfl) h2
 · intro i hi
   obtain⟨g,t,cs,fuel,p,hg,ht,hv,hd⟩:=laid_one h1 (show laidL.filter (fun x=>x.1 == "gristmill/op.names")=[("gristmill/op.names",Rows.laid_gristmill_op_names)] by kernel_rfl)
   obtain rfl:=Option.some.inj ((show Tryd.prog.globalNamed "gristmill/op.names" =some 2 by kernel_rfl).symm.trans hg)
   obtain rfl:=Option.some.inj ((show (Tryd.prog.globals[2]?).map (·.type)=some 142 by kernel_rfl).symm.trans ht)
   have hz:=cells_of_strs (zs:=[nameL 0,nameL 1,nameL 2,nameL 3,nameL 4,nameL 5]) Tryd.underlying142 Tryd.underlying9 (by kernel_rfl) hd i (nameL i) (by
    rcases (show i=0\/i=1\/i=2\/i=3\/i=4\/i=5 by omega)with rfl|rfl|rfl|rfl|rfl|rfl<;>rfl)
   rw[World.var?_cell hg hv i,<- Array.getElem?_toList];exact hz
 · intro i hi
   obtain⟨g,t,cs,fuel,p,hg,ht,hv,hd⟩:=laid_one h1 (show laidL.filter (fun x=>x.1 == "gristmill/op.codes")=[("gristmill/op.codes",Rows.laid_gristmill_op_codes)] by kernel_rfl)
   obtain rfl:=Option.some.inj ((show Tryd.prog.globalNamed "gristmill/op.codes" =some 0 by kernel_rfl).symm.trans hg)
   obtain rfl:=Option.some.inj ((show (Tryd.prog.globals[0]?).map (·.type)=some 100 by kernel_rfl).symm.trans ht)
   have hz:=cells_of_strs (zs:=[codeL 0,codeL 1,codeL 2,codeL 3,codeL 4]) Tryd.underlying100 Tryd.underlying9 (by kernel_rfl) hd i (codeL i) (by
    rcases (show i=0\/i=1\/i=2\/i=3\/i=4 by omega)with rfl|rfl|rfl|rfl|rfl<;>rfl)
   rw[World.var?_cell hg hv i,<- Array.getElem?_toList];exact hz
noncomputable def laidWorld (os:Os):World:=World.laidAll Tryd.prog os laidL
theorem laidWorld_met (os:Os) (args:Array Value):laidMetH Tryd.prog laidL ((laidWorld os).forCall (fun _ _=>0) ⟨#[],args,[]⟩).memory:=
 laidMetH_of_parts (laidMet_laidAll args (by kernel_rfl) (by kernel_rfl)) (by kernel_rfl)
end
section
open Go.ChangeShapes Go.WideShapes Go.Deep Go.ChangeAt
theorem blk_lt {w:World}{b o:Nat}{v:Value}(h:w.cell? ⟨b,o,none⟩=some v):b<w.heap.size:=by
 unfold World.cell? at h
 by_cases hb:b<w.heap.size
 · exact hb
 · simp[Array.getElem?_eq_none (Nat.le_of_not_lt hb)]at h
theorem one_int {H:Type}{enc:TypeId × Value->H}{w:World}{base:Nat}{spare:Nat->Bool}{held:Bool}{n:Nat}{t:TypeId}{k:IntKind}{v:Value}{y:Option (DataW H × List MemPlace)}(ht:Tryd.prog.underlying t=some (.int k))
 (h:DataW.trod enc Tryd.prog w base spare held n t [v]=y) (hy:y.isSome):∃z,v=.int k z/\(Lit.int k z).wf=true:=by
 obtain⟨x,rfl⟩:=Option.isSome_iff_exists.1 hy
 obtain⟨z,h1,-,h2⟩:=DataW.trod_int ht h
 simp at h1
 exact⟨z,h1,h2⟩
theorem cellsOp_of {H:Type}{enc:TypeId × Value->H}{w:World}{base:Nat}{spare:Nat->Bool}{held:Bool}{n:Nat}{cs:List Value}{y:Option (DataW H × List MemPlace)}
 (h:DataW.trod enc Tryd.prog w base spare held n 24 cs=y) (hy:y.isSome):
 ∃z0 z1 z2:Int,cs=[.int .i64 z0,.int .i64 z1,.int .i64 z2]/\(Lit.int .i64 z0).wf=true/\(Lit.int .i64 z1).wf=true/\(Lit.int .i64 z2).wf=true:=by
 obtain⟨x,rfl⟩:=Option.isSome_iff_exists.1 hy
 obtain⟨ys,n',-,-,hlen,hyl,hf⟩:=DataW.trod_struct Tryd.underlying24 h
 have hc:Tryd.prog.cellsOf 24=3:=by kernel_rfl
 have hc_int:Tryd.prog.cellsOf 3=1:=by kernel_rfl
 rw[hc]at hlen
 match cs,hlen with
 |[v0,v1,v2],_=>
  have hyl':ys.length=3:=hyl
  have g0:DataW.trod enc Tryd.prog w base spare held n' 3 (([v0,v1,v2].drop 0).take (Tryd.prog.cellsOf 3))=ys[0]?:=hf 0 _ rfl
  rw[hc_int]at g0
  dsimp only[List.drop,List.take]at g0
  have g1:DataW.trod enc Tryd.prog w base spare held n' 3 (([v0,v1,v2].drop 1).take (Tryd.prog.cellsOf 3))=ys[1]?:=hf 1 _ rfl
  rw[hc_int]at g1
  dsimp only[List.drop,List.take]at g1
  have g2:DataW.trod enc Tryd.prog w base spare held n' 3 (([v0,v1,v2].drop 2).take (Tryd.prog.cellsOf 3))=ys[2]?:=hf 2 _ rfl
  rw[hc_int]at g2
  dsimp only[List.drop,List.take]at g2
  obtain⟨z0,rfl,w0⟩:=one_int Tryd.underlying3 g0 (by simp[hyl'])
  obtain⟨z1,rfl,w1⟩:=one_int Tryd.underlying3 g1 (by simp[hyl'])
  obtain⟨z2,rfl,w2⟩:=one_int Tryd.underlying3 g2 (by simp[hyl'])
  exact⟨z0,z1,z2,rfl,w0,w1,w2⟩
theorem cellsAnswer_of {H:Type}{enc:TypeId × Value->H}{w:World}{base:Nat}{spare:Nat->Bool}{held:Bool}{n:Nat}{cs:List Value}{y:Option (DataW H × List MemPlace)}
 (h:DataW.trod enc Tryd.prog w base spare held n 47 cs=y) (hy:y.isSome):
 ∃z0 z1:Int,cs=[.int .i64 z0,.int .i64 z1]/\(Lit.int .i64 z0).wf=true/\(Lit.int .i64 z1).wf=true:=by
 obtain⟨x,rfl⟩:=Option.isSome_iff_exists.1 hy
 obtain⟨ys,n',-,-,hlen,hyl,hf⟩:=DataW.trod_struct Tryd.underlying47 h
 have hc:Tryd.prog.cellsOf 47=2:=by kernel_rfl
 have hc_int:Tryd.prog.cellsOf 3=1:=by kernel_rfl
 rw[hc]at hlen
 match cs,hlen with
 |[v0,v1],_=>
  have hyl':ys.length=2:=hyl
  have g0:DataW.trod enc Tryd.prog w base spare held n' 3 (([v0,v1].drop 0).take (Tryd.prog.cellsOf 3))=ys[0]?:=hf 0 _ rfl
  rw[hc_int]at g0
  dsimp only[List.drop,List.take]at g0
  have g1:DataW.trod enc Tryd.prog w base spare held n' 3 (([v0,v1].drop 1).take (Tryd.prog.cellsOf 3))=ys[1]?:=hf 1 _ rfl
  rw[hc_int]at g1
  dsimp only[List.drop,List.take]at g1
  obtain⟨z0,rfl,w0⟩:=one_int Tryd.underlying3 g0 (by simp[hyl'])
  obtain⟨z1,rfl,w1⟩:=one_int Tryd.underlying3 g1 (by simp[hyl'])
  exact⟨z0,z1,rfl,w0,w1⟩
theorem cellsDeed_of {H:Type}{enc:TypeId × Value->H}{w:World}{base:Nat}{spare:Nat->Bool}{held:Bool}{n:Nat}{cs:List Value}{y:Option (DataW H × List MemPlace)}
 (h:DataW.trod enc Tryd.prog w base spare held n 49 cs=y) (hy:y.isSome):
 ∃z0 z1 z2 z3 z4 z5:Int,cs=[.int .i64 z0,.int .i64 z1,.int .i64 z2,.int .i64 z3,.int .i64 z4,.int .i64 z5]/\(Lit.int .i64 z0).wf=true/\(Lit.int .i64 z1).wf=true/\(Lit.int .i64 z2).wf=true/\(Lit.int .i64 z3).wf=true/\(Lit.int .i64 z4).wf=true/\(Lit.int .i64 z5).wf=true:=by
 obtain⟨x,rfl⟩:=Option.isSome_iff_exists.1 hy
 obtain⟨ys,n',-,-,hlen,hyl,hf⟩:=DataW.trod_struct Tryd.underlying49 h
 have hc:Tryd.prog.cellsOf 49=6:=by kernel_rfl
 have hc_int:Tryd.prog.cellsOf 3=1:=by kernel_rfl
 have hc_Op:Tryd.prog.cellsOf 24=3:=by kernel_rfl
 have hc_Answer:Tryd.prog.cellsOf 47=2:=by kernel_rfl
 rw[hc]at hlen
 match cs,hlen with
 |[v0,v1,v2,v3,v4,v5],_=>
  have hyl':ys.length=3:=hyl
  have g0:DataW.trod enc Tryd.prog w base spare held n' 3 (([v0,v1,v2,v3,v4,v5].drop 0).take (Tryd.prog.cellsOf 3))=ys[0]?:=hf 0 _ rfl
  rw[hc_int]at g0
  dsimp only[List.drop,List.take]at g0
  have g1:DataW.trod enc Tryd.prog w base spare held n' 24 (([v0,v1,v2,v3,v4,v5].drop 1).take (Tryd.prog.cellsOf 24))=ys[1]?:=hf 1 _ rfl
  rw[hc_Op]at g1
  dsimp only[List.drop,List.take]at g1
  have g2:DataW.trod enc Tryd.prog w base spare held n' 47 (([v0,v1,v2,v3,v4,v5].drop 4).take (Tryd.prog.cellsOf 47))=ys[2]?:=hf 2 _ rfl
  rw[hc_Answer]at g2
  dsimp only[List.drop,List.take]at g2
  obtain⟨z0,rfl,w0⟩:=one_int Tryd.underlying3 g0 (by simp[hyl'])
  obtain⟨z1,z2,z3,he1,w1,w2,w3⟩:=cellsOp_of g1 (by simp[hyl'])
  simp only[List.cons.injEq,and_true]at he1
  obtain⟨rfl,rfl,rfl⟩:=he1
  obtain⟨z4,z5,he2,w4,w5⟩:=cellsAnswer_of g2 (by simp[hyl'])
  simp only[List.cons.injEq,and_true]at he2
  obtain⟨rfl,rfl⟩:=he2
  exact⟨z0,z1,z2,z3,z4,z5,rfl,w0,w1,w2,w3,w4,w5⟩
theorem rowsDeed_of {H:Type}{enc:TypeId × Value->H}{w:World}{base:Nat}{spare:Nat->Bool}{held:Bool}{a0:Option Addr}{len0 cap0:Nat}{d0:DataW H}{p0:List MemPlace}
 (h:DataW.Trod enc Tryd.prog w base spare held 22 (.slice a0 len0 cap0) d0 p0):∃f,Rws 6 (fun _=>.i64) w a0 len0 cap0 f:=by
 obtain⟨fuel,hf⟩:=h
 have hc:Tryd.prog.cellsOf 49=6:=by kernel_rfl
 rcases open_slice Tryd.underlying22 hf with⟨hcs,-⟩|⟨a,len,cap,m,n,D,Pl,hcs,hb,hl,hm,hmm,hx,hi⟩
 · simp[Value.cells]at hcs
   obtain⟨rfl,rfl,rfl⟩:=hcs
   exact⟨fun _ _=>0,Nat.le_refl _,by omega,.inl rfl⟩
 · simp[Value.cells]at hcs
   obtain⟨rfl,rfl,rfl⟩:=hcs
   unfold maxLen at hm
   rw[hc]at hi
   have hi':∀i,i<len0->∃z:Nat->Int,∀j,j<6->w.cell? (a.add (i*6+j))=some (.int ((fun _=>.i64) j) (z j))/\(Lit.int ((fun _=>.i64) j) (z j)).wf=true:=by
    intro i hil
    obtain⟨cs,h1,h2⟩:=hi i (by rw[hmm];split<;>omega)
    obtain⟨z0,z1,z2,z3,z4,z5,rfl,w0,w1,w2,w3,w4,w5⟩:=cellsDeed_of h2 (by rfl)
    obtain⟨-,-,hat⟩:=World.cells?_some h1
    refine⟨fun j=>[z0,z1,z2,z3,z4,z5].getD j 0,fun j hj=>?_⟩
    rw[<- Go.Deep.add_add,hat j (by simpa using hj)]
    match j,hj with
    |0,_=>exact⟨rfl,w0⟩
    |1,_=>exact⟨rfl,w1⟩
    |2,_=>exact⟨rfl,w2⟩
    |3,_=>exact⟨rfl,w3⟩
    |4,_=>exact⟨rfl,w4⟩
    |5,_=>exact⟨rfl,w5⟩
   by_cases h0:len0=0
   · subst h0;exact⟨fun _ _=>0,Nat.zero_le _,by omega,.inl rfl⟩
   · obtain⟨z,hz⟩:=hi' 0 (by omega)
     obtain⟨b,off,spot⟩:=a
     have hspot:spot=none:=by simpa [Addr.add] using World.cell?_spot (hz 0 (by omega)).1
     subst hspot
     have hadd:∀i,(⟨b,off,none⟩:Addr).add i=⟨b,off+i,none⟩:=fun i=>by
      unfold Addr.add;split
      · subst i;rfl
      · rfl
     classical
     let F:Nat->Nat->Int:=fun i=>if h:i<len0 then Classical.choose (hi' i h)else fun _=>0
     refine⟨F,hl,by omega,.inr ⟨b,off,rfl,?_,fun j hj i hi0=>?_⟩⟩
     · have:=(hz 0 (by omega)).1;rw[hadd]at this;exact blk_lt this
     · have hF:F j=Classical.choose (hi' j hj):=by simp only[F,dif_pos hj]
       obtain⟨c1,c2⟩:=Classical.choose_spec (hi' j hj) i hi0
       rw[<- hF]at c1 c2
       rw[hadd,<- Nat.add_assoc]at c1
       exact⟨c1,trivial⟩
theorem aggOp_of {H:Type}{enc:TypeId × Value->H}{w:World}{base b0:Nat}{spare:Nat->Bool}{held:Bool}{v:Value}{d:DataW H}{p:List MemPlace}
 (hv:Value.okWide Tryd.prog w .any b0 24 v) (h:DataW.Trod enc Tryd.prog w base spare held 24 v d p):
 ∃z0 z1 z2:Int,v=.agg #[.int .i64 z0,.int .i64 z1,.int .i64 z2]/\(Lit.int .i64 z0).wf=true/\(Lit.int .i64 z1).wf=true/\(Lit.int .i64 z2).wf=true:=by
 obtain⟨cs,rfl,hs⟩:=okWide_struct Tryd.underlying24 hv
 obtain⟨fuel,hf⟩:=h
 obtain⟨z0,z1,z2,hc,w0,w1,w2⟩:=cellsOp_of hf (by rfl)
 refine⟨z0,z1,z2,?_,w0,w1,w2⟩
 have:cs.toList=[.int .i64 z0,.int .i64 z1,.int .i64 z2]:=hc
 rw[<- Array.toArray_toList (xs:=cs),this]
end
section
open Go.ChangeShapes Go.WideShapes Go.Deep Go.ChangeAt
section
variable {H:Type}{enc:TypeId × Value->H}{w:World}{base b0:Nat}{spare:Nat->Bool}{held:Bool}{a0:Option Addr}{len0 cap0:Nat}{d0 d:DataW H}{p0 p:List MemPlace}
theorem rows_of {sz:Nat}(h0:0<sz) {ks:Nat->IntKind}{tS tE:TypeId}(hS:Tryd.prog.underlying tS=some (.slice tE)) (hc:Tryd.prog.cellsOf tE=sz)
 (hE:∀n cs,(DataW.trod enc Tryd.prog w base spare held n tE cs).isSome->∃z:Nat->Int,∀j,j<sz->cs[j]?=some (.int (ks j) (z j))/\(Lit.int (ks j) (z j)).wf=true)
 (h:DataW.Trod enc Tryd.prog w base spare held tS (.slice a0 len0 cap0) d0 p0):∃f,RowIn sz ks w a0 len0 cap0 f:=by
 obtain⟨fuel,hf⟩:=h
 rcases open_slice hS hf with⟨hcs,-⟩|⟨a,len,cap,m,n,D,Pl,hcs,hb,hl,hm,hmm,hx,hi⟩
 · simp[Value.cells]at hcs
   obtain⟨rfl,rfl,rfl⟩:=hcs
   exact⟨fun _ _=>0,⟨Nat.le_refl _,by omega,.inl rfl⟩,fun i hi=>absurd hi (Nat.not_lt_zero _)⟩
 · simp[Value.cells]at hcs
   obtain⟨rfl,rfl,rfl⟩:=hcs
   unfold maxLen at hm
   rw[hc]at hi
   have hi':∀i,i<len0->∃z:Nat->Int,∀j,j<sz->w.cell? (a.add (i*sz+j))=some (.int (ks j) (z j))/\(Lit.int (ks j) (z j)).wf=true:=by
    intro i hil
    obtain⟨cs,h1,h2⟩:=hi i (by rw[hmm];split<;>omega)
    obtain⟨z,hz⟩:=hE n cs (by rw[h2];rfl)
    obtain⟨-,-,hat⟩:=World.cells?_some h1
    refine⟨z,fun j hj=>?_⟩
    rw[<- Go.Deep.add_add,hat j hj]
    exact hz j hj
   by_cases h1:len0=0
   · subst h1;exact⟨fun _ _=>0,⟨Nat.zero_le _,by omega,.inl rfl⟩,fun i hi=>absurd hi (Nat.not_lt_zero _)⟩
   · obtain⟨z,hz⟩:=hi' 0 (by omega)
     obtain⟨b,off,spot⟩:=a
     have hspot:spot=none:=by simpa [Addr.add] using World.cell?_spot (hz 0 h0).1
     subst hspot
     have hadd:∀i,(⟨b,off,none⟩:Addr).add i=⟨b,off+i,none⟩:=fun i=>by
      unfold Addr.add;split
      · subst i;rfl
      · rfl
     classical
     let F:Nat->Nat->Int:=fun i=>if h:i<len0 then Classical.choose (hi' i h)else fun _=>0
     have hF (j:Nat) (hj:j<len0):F j=Classical.choose (hi' j hj):=by simp only[F,dif_pos hj]
     refine⟨F,⟨hl,by omega,.inr ⟨b,off,rfl,?_,fun j hj i hi0=>?_⟩⟩,fun j hj i hi0=>?_⟩
     · have:=(hz 0 h0).1;rw[hadd]at this;exact blk_lt this
     · obtain⟨c1,c2⟩:=Classical.choose_spec (hi' j hj) i hi0
       rw[<- hF j hj]at c1
       rw[hadd,<- Nat.add_assoc]at c1
       exact⟨c1,trivial⟩
     · have c2:=(Classical.choose_spec (hi' j hj) i hi0).2
       rw[<- hF j hj]at c2
       exact c2
theorem rowsDd_of (h:DataW.Trod enc Tryd.prog w base spare held 22 (.slice a0 len0 cap0) d0 p0):∃f,RowIn 6 (fun _=>.i64) w a0 len0 cap0 f:=
 rows_of (by decide) Tryd.underlying22 (by kernel_rfl) (fun n cs hs=>by
  obtain⟨z0,z1,z2,z3,z4,z5,rfl,w0,w1,w2,w3,w4,w5⟩:=cellsDeed_of rfl hs
  refine⟨fun j=>[z0,z1,z2,z3,z4,z5].getD j 0,fun j hj=>?_⟩
  match j,hj with
  |0,_=>exact⟨rfl,w0⟩
  |1,_=>exact⟨rfl,w1⟩
  |2,_=>exact⟨rfl,w2⟩
  |3,_=>exact⟨rfl,w3⟩
  |4,_=>exact⟨rfl,w4⟩
  |5,_=>exact⟨rfl,w5⟩) h
theorem sz_dd (h:DataW.Trod enc Tryd.prog w base spare held 22 (.slice a0 len0 cap0) d0 p0) (hw:(DataW.weights Tryd.prog 22 d0).all (· <=reachBytes)=true):len0<=reachBytes:=by
 have hb:Tryd.prog.bytesOf 49=48:=by kernel_rfl
 obtain⟨fuel,hf⟩:=h
 rcases open_slice Tryd.underlying22 hf with⟨hcs,-⟩|⟨a,len,cap,m,n,D,Pl,hcs,-,hl,hm,hmm,hx,-⟩
 · simp[Value.cells]at hcs
   obtain⟨rfl,rfl,rfl⟩:=hcs
   exact Nat.zero_le _
 · simp[Value.cells]at hcs
   obtain⟨rfl,rfl,rfl⟩:=hcs
   have e:d0=_:=congrArg Prod.fst hx
   subst e
   simp only[DataW.weights,Tryd.underlying22,List.all_cons,Bool.and_eq_true,decide_eq_true_eq,List.length_map,List.length_range,hb]at hw
   have:=hw.1
   omega
theorem sz_dds {a1:Option Addr}{len1 cap1:Nat}{d1:DataW H}{p1:List MemPlace}{r:List TypeId}{l:List (DataW H)}(h0:DataW.Trod enc Tryd.prog w base spare held 22 (.slice a0 len0 cap0) d0 p0) (h1:DataW.Trod enc Tryd.prog w base spare held 22 (.slice a1 len1 cap1) d1 p1)
 (h:(DataW.weightsEach Tryd.prog (22::22::r) (d0::d1::l)).all (· <=reachBytes)=true):len0<=reachBytes/\len1<=reachBytes:=by
 simp only[DataW.weightsEach,List.all_append,Bool.and_eq_true]at h
 exact⟨sz_dd h0 h.1,sz_dd h1 h.2.1⟩
end
end
end Go.Proofs.YtflgoaogcenmpaaDoor
