/- What the proof leans on, gathered. -/
import Derived.KernelRfl
import Derived.Test.YtppkmghcagocbaaGreatDoorProg
import Derived.WalkKit
import Derived.LaidEql
import Derived.Stop.Asserts
import Derived.RowKitTokens
import Derived.Test.YtppkmghcagocbaaGreatDoorRows
import Derived.ChangeVars
import Derived.JoinedOf
import Derived.RowKit
import Derived.LaidLaws
import Derived.LaidHandle
import Derived.Stop.Joined
import Derived.Deep.Slices
import Derived.Deep.Fields
import Derived.ChangeSame
import Derived.ProofKit
import Derived.Test.YtppkmghcagocbaaGreatDoorZM4
namespace Go.Proofs.YtppkmghcagocbaaGreatDoor
set_option linter.unusedVariables false
set_option maxRecDepth 100000
set_option maxHeartbeats 8000000
section
def lk4 (m:Nat->Int) (s:Sto) (t:Nat) (k key x tog:Int):Wk:=
 { Wk.call t k key x tog true with v:=m 1,does:=21,seen:=putF (putF (putF (fun _=>0) 0 (s.now (Qn (m 1)+26))) 1 (s.now (Qn (m 1)+18+t))) 2 (s.now (Qn (m 1)+22+t)) }
theorem look4 (m:Nat->Int) (s:Sto) (t:Nat) (k key x tog:Int):itP 4 ⟨Wk.call t k key x tog true,m,s⟩=⟨lk4 m s t k key x tog,m,s⟩/\∀j,j<4->(Qe (itP j ⟨Wk.call t k key x tog true,m,s⟩)).2=false:=by
 refine⟨rfl,fun j hj=>?_⟩
 rcases (show j=0\/j=1\/j=2\/j=3 by omega)with rfl|rfl|rfl|rfl<;>rfl
theorem again5 {B:Int}{R:Rec}(hR:RecOK B R) {V:Int}{t:Nat}(ht:t<4) {w0:Wk}(T:Told R t w0) {k key x:Int}{m:Nat->Int}{s:Sto}(hm:m 1=V) (hr:HasRec s.now V R):
 (∀j,j<4->(Qe (itP j ⟨Wk.call t k key x w0.tog true,m,s⟩)).2=false)/\(Qe (itP 4 ⟨Wk.call t k key x w0.tog true,m,s⟩)).2=true /\
 ∃w:Wk,itP 5 ⟨Wk.call t k key x w0.tog true,m,s⟩=⟨w,m,s⟩/\w.oc=w0.oc/\w.ov=w0.ov/\w.whn=w0.whn/\w.does=0:=by
 obtain⟨h4,hno⟩:=look4 m s t k key x w0.tog
 have e0:s.now (Qn (m 1)+26)=R.tog:=by rw[hm,hr 26 (by decide),Qa5 hR]
 have e1:s.now (Qn (m 1)+18+t)=ansW w0.oc w0.ov:=by
  rw[hm,Nat.add_assoc,hr (18+t) (by omega)]
  exact (Qeu hR t ht).trans T.ans
 have e2:s.now (Qn (m 1)+22+t)=w0.whn:=by
  rw[hm,Nat.add_assoc,hr (22+t) (by omega)]
  exact (Qfv hR t ht).trans T.whn
 have hs:Qe ⟨lk4 m s t k key x w0.tog,m,s⟩=QP ⟨lk4 m s t k key x w0.tog,m,s⟩:=rfl
 have hl:=Qfe ⟨lk4 m s t k key x w0.tog,m,s⟩ rfl
 have hc:m 1=(lk4 m s t k key x w0.tog).v/\Qh ((lk4 m s t k key x w0.tog).seen 0) (lk4 m s t k key x w0.tog).th=(lk4 m s t k key x w0.tog).tog:=by
  refine⟨rfl,?_⟩
  show Qh (s.now (Qn (m 1)+26)) t=w0.tog
  rw[e0];exact T.bit
 rw[if_pos hc]at hl
 have c:=Qcx T.ok
 refine⟨hno,by rw[h4,hs,hl],{ lk4 m s t k key x w0.tog with oc:=(lk4 m s t k key x w0.tog).seen 1/4294967296%4294967296,ov:=(lk4 m s t k key x w0.tog).seen 1%4294967296,whn:=(lk4 m s t k key x w0.tog).seen 2,does:=0 },by rw[Qbo 4,h4,hs,hl],?_,?_,e2,rfl⟩
 · show s.now (Qn (m 1)+18+t)/4294967296%4294967296=_
   rw[e1];exact c.1
 · show s.now (Qn (m 1)+18+t)%4294967296=_
   rw[e1];exact c.2.1
theorem Qjw {z:Sh}{t u:Nat}(h:u≠t):(z.step t).w u=z.w u:=by
 unfold Sh.step
 split
 · rfl
 · unfold Sh.stepped
   dsimp only
   split<;>split<;>exact QR _ _ h
theorem Qhc {t u:Nat}(h:u≠t):∀(n:Nat) (z:Sh),(z.run t n).w u=z.w u
 |0,z=>rfl
 |n+1,z=>(Qhc h n (z.step t)).trans (Qjw h)
section
variable {K:Int}{g:Gh}{t:Nat}
theorem Qo5 {Z:Sh}{M N:Nat}(hM:M=N+1) (hr:Z.ran t M=M) (hz:((Z.run t M).w t).does=0) (F:Fin2 K Z g) (ht:t<4) (hs:Z.steps+N<100000000) (ho:∀u,u<4->u≠t->(Z.w u).does=0):
 ∃R,Sum K R (Z.run t M).deeds/\HasRec (Z.run t M).s.now ((Z.run t M).m 1) R/\Told R t ((Z.run t M).w t):=by
 obtain⟨-,hb,-⟩:=Qij hM hr hz
 subst hM
 have hn:=Qdp t (N+1) Z hr N (Nat.lt_succ_self _)
 have hw:=Qgb t N Z (fun j hj=>Qdp t (N+1) Z hr j (by omega))
 rw[<- hw]at hb
 obtain⟨g2,F2⟩:=Qmr ht N F hs
 have e:Z.run t (N+1)=(Z.run t N).step t:=Qgi t N 1 Z
 have oth:∀u,u<4->u≠t->((Z.run t N).w u).does=0:=fun u hu hne=>by rw[Qhc hne];exact ho u hu hne
 rw[e]
 generalize Z.run t N=Y at hb hn F2 oth ⊢
 have I:ShInv K Y g2:=F2.f.1
 obtain⟨T,d0,em,es,d16⟩:=Qdj I ht hn hb
 have hV:g2.V=g2.dv:=by
  rcases I.gl.vd with h|h
  · exact h
  · obtain⟨h1,h2,h3,h4⟩:=I.mid h
    by_cases ht2:h1=t
    · subst ht2;omega
    · have:=oth h1 h2 ht2;omega
 obtain⟨eR,en⟩:=I.gl.same hV
 have ew:=QiA hn
 have h11:(Y.w t).does≠11:=by omega
 have ed:(Y.step t).deeds=Y.deeds:=by rw[Qnk hn h11 hb];rfl
 have e1:(Y.step t).w t=(Qe (Y.wst t)).1.w:=congrArg WSt.w ew
 have e2:(Y.step t).m=Y.m:=(congrArg WSt.m ew).trans em
 have e3:(Y.step t).s=Y.s:=(congrArg WSt.s ew).trans es
 refine⟨g2.Q,?_,?_,?_⟩
 · rw[ed,<- eR];exact I.gl.sumR
 · rw[e2,e3,I.gl.done];exact I.gl.nowQ
 · rw[e1];exact T
end
theorem QlR {K:Int}{R:Rec}{D:List Vd}{t:Nat}{w:Wk}(S:Sum K R D) (ht:t<4) (T:Told R t w) (hall:∀i,i<D.length->(D.getD i Vd.nil).d.t=t) (hne:D≠[]):
 w.whn=(D.length:Int)/\(D.getD (D.length-1) Vd.nil).d.c=w.oc/\(D.getD (D.length-1) Vd.nil).d.v=w.ov:=by
 have hp:0<D.length:=List.length_pos_iff.2 hne
 rcases S.each t ht with⟨h0,-,-⟩|⟨i,hn,hi,hti,hok,ha,hlast⟩
 · exfalso
   have hm:D[0]∈D:=List.getElem_mem hp
   have e:(D.getD 0 Vd.nil)=D[0]:=by rw[List.getD_eq_getElem?_getD,List.getElem?_eq_getElem hp];rfl
   have h1:(D[0].d.t==(t:Int))=true:=by rw[<- e];exact beq_iff_eq.2 (hall 0 hp)
   have:=List.countP_eq_zero.1 h0 _ hm
   exact this h1
 · have ei:i=D.length-1:=by
    by_cases h:i=D.length-1
    · exact h
    · exact absurd (hall (D.length-1) (by omega)) (hlast (D.length-1) (by omega) (by omega))
   subst ei
   have hinj:=Qjk hok T.ok (ha.symm.trans T.ans)
   refine⟨?_,hinj.1,hinj.2⟩
   rw[<- T.whn,hn];omega
end
section
structure Lw (K:Int) (t n:Nat) (z:Sh):Prop where
 f:∃g,Fin2 K z g
 idle:∀u,u<4->(z.w u).does=0
 st:z.steps<=100*(n:Int)
 th:∀i,i<z.deeds.length->(z.deeds.getD i Vd.nil).d.t=t
theorem Lw.new {K:Int}(h1:1<=K) (h6:K<=6) (t:Nat):Lw K t 0 (Sh.new K):=
 ⟨⟨_,Qpy h1 h6⟩,fun _ _=>rfl,Int.le_refl 0,fun i hi=>absurd hi (Nat.not_lt_zero _)⟩
theorem Qb2:∀(n:Nat) (z:WSt),(itP n z).w.th=z.w.th/\(itP n z).w.tog=z.w.tog
 |0,z=>⟨rfl,rfl⟩
 |n+1,z=>by
  have h:=Qb2 n (Qe z).1
  have h2:=QfL z
  exact⟨h.1.trans h2.1,h.2.trans h2.2.1⟩
section
variable {K:Int}{t n:Nat}{z z':Sh}{k key x:Int}
theorem Lw.more (L:Lw K t n z) {m:Nat}(h:n<=m):Lw K t m z:=⟨L.f,L.idle,by have:=L.st;omega,L.th⟩
theorem Lw.tog (L:Lw K t n z) (ht:t<4):(z.tog t=0\/z.tog t=1)/\(z.w t).th=t:=by
 obtain⟨g,F⟩:=L.f
 have T:=F.f.1.th t ht
 exact⟨T.tg01,T.th⟩
theorem Lw.len (L:Lw K t n z):(z.deeds.length:Int)<=400*(n:Int):=by
 obtain⟨g,F⟩:=L.f
 have h1:=F.f.1.gl.cb
 have h2:=L.st
 omega
structure Lend (K:Int) (t n:Nat) (z z':Sh) (k key x:Int):Prop where
 l:Lw K t (n+1) z'
 no:∀j,j<83->(Qe (itP j ⟨Wk.call t k key x (1-z.tog t) false,z.m,z.s⟩)).2=false
 yes:(Qe (itP 83 ⟨Wk.call t k key x (1-z.tog t) false,z.m,z.s⟩)).2=true
 last:itP 84 ⟨Wk.call t k key x (1-z.tog t) false,z.m,z.s⟩=z'.wst t
 run:∀j,j<84->∃(Y:Sh) (g:Gh),Fin2 K Y g/\Y.wst t=itP j ⟨Wk.call t k key x (1-z.tog t) false,z.m,z.s⟩/\(Y.w t).does≠0/\Y.steps<100000000
 tog:z'.tog t=1-z.tog t
 wtog:(z'.w t).tog=1-z.tog t
 deeds:z'.deeds.map Vd.d=z.deeds.map Vd.d++[⟨t,k,key,x,(z'.w t).oc,(z'.w t).ov⟩]
 whn:(z'.w t).whn=((z.deeds.length+1:Nat):Int)
 told:∃(B:Int) (R:Rec),RecOK B R/\HasRec z'.s.now (z'.m 1) R/\Told R t (z'.w t)
theorem Lw.call (L:Lw K t n z) (ht:t<4) (hn:n<=1000) (ho:opOk k key x=true):Lend K t n z ((z.call t k key x).run t 84) k key x:=by
 obtain⟨g,F⟩:=L.f
 have hst:=L.st
 obtain⟨g',A,h⟩:=alone F ht L.idle ho (by omega)
 have T:=F.f.1.th t ht
 have hth:=T.th
 have h2:=T.tg01
 obtain⟨hb1,-,-⟩:=T.idle (L.idle t ht)
 have FZ:=Qi9 F ht k key x
 have ec:z.call t k key x=z.called t k key x:=if_pos ⟨L.idle t ht,ho⟩
 have ew:(z.call t k key x).wst t=⟨Wk.call t k key x (1-z.tog t) false,z.m,z.s⟩:=by
  rw[ec];show (⟨setF z.w t (Wk.call (z.w t).th k key x (1-z.tog t) false) t,z.m,z.s⟩:WSt)=_;rw[Qf,hth]
 have cs:=(Qf7 z t k key x).2
 have hr:=(h 84 (Nat.le_refl _)).2
 have oth:∀u,u<4->u≠t->((z.call t k key x).w u).does=0:=fun u hu hne=>by
  rw[ec];show (setF z.w t (Wk.call (z.w t).th k key x (1-z.tog t) false) u).does=0;rw[QR _ _ hne];exact L.idle u hu
 clear h
 generalize z.call t k key x=Z at *
 obtain⟨a,b,c⟩:=Qij (M:=84) (N:=83) rfl hr A.idle
 obtain⟨R,S,hR,hT⟩:=Qo5 (M:=84) (N:=83) rfl hr A.idle FZ ht (by omega) oth
 have hfull:=Qdp t 84 Z hr
 have hw:∀j,j<=84->(Z.run t j).wst t=itP j (Z.wst t):=fun j hj=>Qgb t j Z (fun i hi=>hfull i (by omega))
 have hrs:=Qhb t
 have hop:bOpen g.R ⟨t,1-z.tog t,k,key,x⟩=true:=bne_iff_ne.2 (by show Qh g.R.tog t≠1-z.tog t;rw[hb1];omega)
 have ed:bD g.R [⟨t,1-z.tog t,k,key,x⟩]=[Qbk g.R ⟨t,1-z.tog t,k,key,x⟩]:=by
  show bDs g.R ⟨t,1-z.tog t,k,key,x⟩++[]=_
  unfold bDs;rw[hop];rfl
 have eD:=A.deeds
 rw[ed]at eD
 have aok:(⟨t,1-z.tog t,k,key,x⟩:Ask).ok:=⟨ht,by show 1-z.tog t=0\/1-z.tog t=1;omega,ho⟩
 have hbit:=QbO F.f.1.gl.sumR.ok aok t ht
 rw[if_pos rfl]at hbit
 have T':=A.fin.f.1.th t ht
 obtain⟨hb2,-,-⟩:=T'.idle A.idle
 have et:(Z.run t 84).tog t=1-z.tog t:=by
  rw[<- hb2,A.R];exact hbit
 have ewt:((Z.run t 84).w t).tog=1-z.tog t:=by
  have:=(Qb2 84 (Z.wst t)).2
  have e:∀Y:Sh,(Y.wst t).w.tog=(Y.w t).tog:=fun _=>rfl
  rw[<- hw 84 (Nat.le_refl _),ew,e]at this
  exact this.trans rfl
 have hidle:∀u,u<4->((Z.run t 84).w u).does=0:=fun u hu=>by
  by_cases e:u=t
  · subst e;exact A.idle
  · rw[A.W u e];exact L.idle u hu
 have hAi:=A.idle
 have hAf:=A.fin
 have h84:=(hrs 84 Z).2
 clear A
 have hrun:∀j,j<84->∃(Y:Sh) (g:Gh),Fin2 K Y g/\Y.wst t=itP j (Z.wst t)/\(Y.w t).does≠0/\Y.steps<100000000:=fun j hj=>by
  obtain⟨g2,F2⟩:=Qmr ht j FZ (by omega)
  have:=(hrs j Z).2
  exact⟨Z.run t j,g2,F2,hw j (by omega),hfull j hj,by omega⟩
 rw[ew]at a b c hrun
 generalize Z.run t 84=Y at *
 have hall:∀i,i<Y.deeds.length->(Y.deeds.getD i Vd.nil).d.t=t:=fun i hi=>by
  rw[eD]at hi ⊢
  rcases getD_snoc (d:=Vd.nil) hi with⟨h1,h2⟩|⟨h1,h2⟩
  · rw[show (List.map (Vd.mk (g.V+1)) [Qbk g.R ⟨t,1-z.tog t,k,key,x⟩])=[⟨g.V+1,Qbk g.R ⟨t,1-z.tog t,k,key,x⟩⟩]from rfl,h2];exact L.th i h1
  · rw[show (List.map (Vd.mk (g.V+1)) [Qbk g.R ⟨t,1-z.tog t,k,key,x⟩])=[⟨g.V+1,Qbk g.R ⟨t,1-z.tog t,k,key,x⟩⟩]from rfl,h2];rfl
 have hlen:Y.deeds.length=z.deeds.length+1:=by rw[eD,List.length_append];rfl
 have hne:Y.deeds≠[]:=fun e=>by rw[e]at hlen;exact absurd hlen (by simp)
 obtain⟨l1,l2,l3⟩:=QlR S ht hT hall hne
 have eg:Y.deeds.getD (Y.deeds.length-1) Vd.nil=⟨g.V+1,Qbk g.R ⟨t,1-z.tog t,k,key,x⟩⟩:=by
  rw[hlen,Nat.add_sub_cancel,eD]
  have:=Qa0 (l:=z.deeds) (m:=[(⟨g.V+1,Qbk g.R ⟨t,1-z.tog t,k,key,x⟩⟩:Vd)]) (d:=Vd.nil) (i:=0);rw[Nat.add_zero]at this;exact this
 rw[eg]at l2 l3
 refine⟨⟨⟨g',hAf⟩,hidle,by omega,hall⟩,a,b,c,hrun,et,ewt,?_,by rw[l1,hlen],⟨_,R,S.ok,hR,hT⟩⟩
 rw[eD,List.map_append,<- l2,<- l3];rfl
theorem Lend.again (E:Lend K t n z z' k key x) (ht:t<4) {s:Sto}(hs:s.now=z'.s.now):
 (∀j,j<4->(Qe (itP j ⟨Wk.call t k key x (1-z.tog t) true,z'.m,s⟩)).2=false)/\(Qe (itP 4 ⟨Wk.call t k key x (1-z.tog t) true,z'.m,s⟩)).2=true /\
 ∃w:Wk,itP 5 ⟨Wk.call t k key x (1-z.tog t) true,z'.m,s⟩=⟨w,z'.m,s⟩/\w.oc=(z'.w t).oc/\w.ov=(z'.w t).ov/\w.whn=(z'.w t).whn/\w.does=0/\w.th=t:=by
 obtain⟨B,R,h1,h2,h3⟩:=E.told
 obtain⟨a,b,w,e,c⟩:=again5 h1 ht h3 (k:=k) (key:=key) (x:=x) (m:=z'.m) (s:=s) rfl (by rw[hs];exact h2)
 rw[E.wtog]at a b e
 refine⟨a,b,w,e,c.1,c.2.1,c.2.2.1,c.2.2.2,?_⟩
 have:=(Qb2 5 ⟨Wk.call t k key x (1-z.tog t) true,z'.m,s⟩).1
 rw[e]at this;exact this
theorem QiZ:∀(j:Nat) (z:WSt) (g:Nat->Int),∃g',itP j { z with s:=z.s.wg g }={ itP j z with s:=(itP j z).s.wg g' }
 |0,z,g=>⟨g,rfl⟩
 |j+1,z,g=>by
  obtain⟨g1,h1⟩:=QiH z g
  obtain⟨g2,h2⟩:=QiZ j (Qe z).1 g1
  refine⟨g2,?_⟩
  show itP j (Qe { z with s:=z.s.wg g }).1=_
  rw[h1];exact h2
theorem Lend.goW (E:Lend K t n z z' k key x) (g:Nat->Int):
 (∀j,j<83->(Qe (itP j ⟨Wk.call t k key x (1-z.tog t) false,z.m,z.s.wg g⟩)).2=false)/\(Qe (itP 83 ⟨Wk.call t k key x (1-z.tog t) false,z.m,z.s.wg g⟩)).2=true /\
 ∃g',itP 84 ⟨Wk.call t k key x (1-z.tog t) false,z.m,z.s.wg g⟩=⟨z'.w t,z'.m,z'.s.wg g'⟩:=by
 have key1 (j:Nat):(Qe (itP j ⟨Wk.call t k key x (1-z.tog t) false,z.m,z.s.wg g⟩)).2=(Qe (itP j ⟨Wk.call t k key x (1-z.tog t) false,z.m,z.s⟩)).2:=by
  obtain⟨g1,h1⟩:=QiZ j ⟨Wk.call t k key x (1-z.tog t) false,z.m,z.s⟩ g
  obtain⟨g2,h2⟩:=QiH (itP j ⟨Wk.call t k key x (1-z.tog t) false,z.m,z.s⟩) g1
  have h1:itP j ⟨Wk.call t k key x (1-z.tog t) false,z.m,z.s.wg g⟩=_:=h1
  rw[h1,h2]
 refine⟨fun j hj=>by rw[key1];exact E.no j hj,by rw[key1];exact E.yes,?_⟩
 obtain⟨g1,h1⟩:=QiZ 84 ⟨Wk.call t k key x (1-z.tog t) false,z.m,z.s⟩ g
 refine⟨g1,?_⟩
 have h1:itP 84 ⟨Wk.call t k key x (1-z.tog t) false,z.m,z.s.wg g⟩=_:=h1
 rw[h1,E.last];rfl
end
def lzN (t:Nat) (z:Sh) (g f:Nat->Int) (j:Nat):WSt:=itP j ⟨Wk.call t (f 0) (f 1) (f 2) (1-z.tog t) false,z.m,z.s.wg g⟩
def lzE (t:Nat) (z:Sh) (f:Nat->Int):Sh:=(z.call t (f 0) (f 1) (f 2)).run t 84
def lzA (t:Nat) (z z':Sh) (g f:Nat->Int) (j:Nat):WSt:=itP j ⟨Wk.call t (f 0) (f 1) (f 2) (1-z.tog t) true,z'.m,z'.s.wg g⟩
theorem QoK (s:Sto) (g:Nat->Int):(s.wg g).now=s.now:=rfl
theorem lzN_zero (t:Nat) (z:Sh) (g f:Nat->Int):lzN t z g f 0=⟨Wk.call t (f 0) (f 1) (f 2) (1-z.tog t) false,z.m,z.s.wg g⟩:=rfl
theorem QnK (t:Nat) (z:Sh) (g f:Nat->Int) (j:Nat):lzN t z g f (j+1)=(Qe (lzN t z g f j)).1:=Qbo j _
theorem lzN_th (t:Nat) (z:Sh) (g f:Nat->Int) (j:Nat):(lzN t z g f j).w.th=t:=(Qb2 j _).1
theorem lzA_zero (t:Nat) (z z':Sh) (g f:Nat->Int):lzA t z z' g f 0=⟨Wk.call t (f 0) (f 1) (f 2) (1-z.tog t) true,z'.m,z'.s.wg g⟩:=rfl
theorem QnL (t:Nat) (z z':Sh) (g f:Nat->Int) (j:Nat):lzA t z z' g f (j+1)=(Qe (lzA t z z' g f j)).1:=Qbo j _
theorem lzA_th (t:Nat) (z z':Sh) (g f:Nat->Int) (j:Nat):(lzA t z z' g f j).w.th=t:=(Qb2 j _).1
section
variable {K:Int}{t n:Nat}{z:Sh}{f:Nat->Int}
theorem Lw.lend (L:Lw K t n z) (ht:t<4) (hn:n<=1000) (ho:opOk (f 0) (f 1) (f 2)=true):Lend K t n z (lzE t z f) (f 0) (f 1) (f 2):=by
 unfold lzE;exact L.call ht hn ho
theorem Lw.goN (L:Lw K t n z) (ht:t<4) (hn:n<=1000) (ho:opOk (f 0) (f 1) (f 2)=true) (g:Nat->Int):
 (∀j,j<83->(Qe (lzN t z g f j)).2=false)/\(Qe (lzN t z g f 83)).2=true/\∃g',(Qe (lzN t z g f 83)).1=⟨(lzE t z f).w t,(lzE t z f).m,(lzE t z f).s.wg g'⟩:=by
 obtain⟨a,b,g',e⟩:=(L.lend ht hn ho).goW g
 exact⟨a,b,g',(QnK t z g f 83).symm.trans e⟩
theorem Lw.goA (L:Lw K t n z) (ht:t<4) (hn:n<=1000) (ho:opOk (f 0) (f 1) (f 2)=true) (g:Nat->Int):
 (∀j,j<4->(Qe (lzA t z (lzE t z f) g f j)).2=false)/\(Qe (lzA t z (lzE t z f) g f 4)).2=true/\∃w,(Qe (lzA t z (lzE t z f) g f 4)).1=⟨w,(lzE t z f).m,(lzE t z f).s.wg g⟩/\w.oc=((lzE t z f).w t).oc/\w.ov=((lzE t z f).w t).ov/\w.whn=((lzE t z f).w t).whn/\w.th=t:=by
 obtain⟨a,b,w,e,h1,h2,h3,h4,h5⟩:=(L.lend ht hn ho).again ht (s:=(lzE t z f).s.wg g) (QoK _ _)
 exact⟨a,b,w,(QnL t z (lzE t z f) g f 4).symm.trans e,h1,h2,h3,h5⟩
end
def lqS (K:Int):Sto:={ Sto.new with now:=Qas K 32 }
def lqN (K:Int) (t:Nat) (tog:Int) (j:Nat):WSt:=itP j ⟨Wk.call t 1 0 1 tog true,fun _=>0,lqS K⟩
theorem QnP (K:Int) (t:Nat) (tog:Int) (j:Nat):lqN K t tog (j+1)=(Qe (lqN K t tog j)).1:=Qbo j _
theorem lqN_th (K:Int) (t:Nat) (tog:Int) (j:Nat):(lqN K t tog j).w.th=t:=(Qb2 j _).1
theorem lqN_mem (K:Int) (t:Nat) (tog:Int) {j:Nat}(hj:j<=5):(lqN K t tog j).m=(fun _=>0)/\(lqN K t tog j).s=lqS K:=by
 by_cases h5:j=5
 · subst h5
   obtain⟨h4,-⟩:=look4 (fun _=>0) (lqS K) t 1 0 1 tog
   have e:lqN K t tog 5=(Qe ⟨lk4 (fun _=>0) (lqS K) t 1 0 1 tog,fun _=>0,lqS K⟩).1:=by rw[<- h4];exact QnP K t tog 4
   have hs:Qe ⟨lk4 (fun _=>0) (lqS K) t 1 0 1 tog,fun _=>0,lqS K⟩=QP ⟨lk4 (fun _=>0) (lqS K) t 1 0 1 tog,fun _=>0,lqS K⟩:=rfl
   have hl:=Qfe ⟨lk4 (fun _=>0) (lqS K) t 1 0 1 tog,fun _=>0,lqS K⟩ rfl
   rw[e,hs,hl]
   split<;>exact⟨rfl,rfl⟩
 · rcases (show j=0\/j=1\/j=2\/j=3\/j=4 by omega)with rfl|rfl|rfl|rfl|rfl<;>exact⟨rfl,rfl⟩
theorem Qik (K:Int) {i:Nat}(h0:0<i) (h:i<32):Qas K 32 (8+i)=0:=by
 rw[Qdx K i h]
 obtain⟨j,rfl⟩:∃j,i=j+1:=⟨i-1,by omega⟩
 rw[show (Rec.new K).words=K::List.replicate 31 0 from rfl,XF,QcH]
def wd0:WSt:=⟨Wk.call 1 1 0 4 1 false,fun _=>0,{ Sto.new with now:=Qas 2 32 }⟩
theorem wd_end:(itP 84 wd0).w.oc=1/\(itP 84 wd0).w.ov=0/\(itP 84 wd0).w.whn=1/\(itP 84 wd0).w.does=0/\(itP 84 wd0).w.deeds.length=1:=by
 have h:((itP 84 wd0).w.oc,(itP 84 wd0).w.ov,(itP 84 wd0).w.whn,(itP 84 wd0).w.does,(itP 84 wd0).w.deeds.length)=((1:Int),(0:Int),(1:Int),(0:Int),1):=by kernel_rfl
 simp only[Prod.mk.injEq]at h
 exact h
end
section
theorem Qjx {z:WSt}(g:Nat->Int) (h:XO z):XO { z with s:=z.s.wg g }:=h
section
variable {K:Int}{t n:Nat}{z z':Sh}{k key x:Int}
theorem Lend.pre (E:Lend K t n z z' k key x) (ht:t<4) {j:Nat}(hj:j<84) (g:Nat->Int):
 XO { itP j ⟨Wk.call t k key x (1-z.tog t) false,z.m,z.s⟩with s:=(itP j ⟨Wk.call t k key x (1-z.tog t) false,z.m,z.s⟩).s.wg g }:=by
 obtain⟨Y,g',F,e,h0,hs⟩:=E.run j hj
 rw[<- e];exact Qjx g (Qjy F.f.1 ht hs h0)
theorem Lend.preW (E:Lend K t n z z' k key x) (ht:t<4) (g:Nat->Int) {j:Nat}(hj:j<84):XO (itP j ⟨Wk.call t k key x (1-z.tog t) false,z.m,z.s.wg g⟩):=by
 obtain⟨g1,h1⟩:=QiZ j ⟨Wk.call t k key x (1-z.tog t) false,z.m,z.s⟩ g
 have h1:itP j ⟨Wk.call t k key x (1-z.tog t) false,z.m,z.s.wg g⟩=_:=h1
 rw[h1];exact E.pre ht hj g1
theorem Qdr {w:Wk}{m:Nat->Int}{s:Sto}{d:Int}(e:w.does=d) (d0:17<=d/\d<=21) (hv:0<=w.v/\w.v<18446744073709551616) (h0:0<=w.seen 0/\w.seen 0<16) (h2:0<=w.seen 2/\w.seen 2<=9223372036854775807) (h1:U64 (w.seen 1)) (ha:Q2 (w.seen 1/4294967296%4294967296) (w.seen 1%4294967296)=true\/w.seen 1=0):XO ⟨w,m,s⟩:=by
 subst e
 exact⟨⟨by show 0<=w.does;omega,d0.2⟩,fun h=>absurd (show w.does<=3 from h) (by omega),fun h=>absurd (show w.does<=7 from h.2) (by omega),fun h=>absurd (show w.does<=13 from h.2) (by omega),fun h=>absurd (show w.does<=16 from h.2) (by omega),fun _=>⟨hv,h0,h2,h1,fun _ _=>ha⟩⟩
theorem Qhj {m:Nat->Int}{s:Sto}{tog:Int}(h1:0<=m 1/\m 1<18446744073709551616) (ha:0<=s.now (Qn (m 1)+26)/\s.now (Qn (m 1)+26)<16) (hb:U64 (s.now (Qn (m 1)+18+t))) (hc:0<=s.now (Qn (m 1)+22+t)/\s.now (Qn (m 1)+22+t)<=9223372036854775807)
 (hd:Q2 (s.now (Qn (m 1)+18+t)/4294967296%4294967296) (s.now (Qn (m 1)+18+t)%4294967296)=true\/s.now (Qn (m 1)+18+t)=0):∀j,j<5->XO (itP j ⟨Wk.call t k key x tog true,m,s⟩):=fun j hj=>by
 have z16:(0:Int)<=0/\(0:Int)<16:=by decide
 have zv:(0:Int)<=0/\(0:Int)<18446744073709551616:=by decide
 have zi:(0:Int)<=0/\(0:Int)<=9223372036854775807:=by decide
 have zu:U64 0:=by unfold U64;decide
 rcases (show j=0\/j=1\/j=2\/j=3\/j=4 by omega)with rfl|rfl|rfl|rfl|rfl
 · exact Qdr (d:=17) rfl (by decide) zv z16 zi zu (.inr rfl)
 · exact Qdr (d:=18) rfl (by decide) h1 z16 zi zu (.inr rfl)
 · exact Qdr (d:=19) rfl (by decide) h1 ha zi zu (.inr rfl)
 · exact Qdr (d:=20) rfl (by decide) h1 ha zi hb hd
 · exact Qdr (d:=21) rfl (by decide) h1 ha hc hb hd
theorem Lend.preA (E:Lend K t n z z' k key x) (ht:t<4) (hn:n<=1000) {s:Sto}(hs:s.now=z'.s.now):∀j,j<5->XO (itP j ⟨Wk.call t k key x (1-z.tog t) true,z'.m,s⟩):=by
 obtain⟨g,F⟩:=E.l.f
 have hst:=E.l.st
 obtain⟨B,R,h1,h2,h3⟩:=E.told
 have G:=F.f.1.gl
 have hdv:=G.done
 have hv0:=G.v0
 have hvb:=G.vb
 have hvd:=G.vd
 obtain⟨s0,s1⟩:=G.rNow.at (z'.m 1)
 have e1:z'.s.now (Qn (z'.m 1)+18+t)=ansW (z'.w t).oc (z'.w t).ov:=by
  rw[Nat.add_assoc,h2 (18+t) (by omega)]
  exact (Qeu h1 t ht).trans h3.ans
 have c:=Qcx h3.ok
 have hst2:=s1 t ht
 refine Qhj ⟨by omega,by omega⟩ (by rw[hs];exact s0) (by rw[hs];exact hst2.1) (by rw[hs];exact hst2.2) (.inl ?_)
 rw[hs,e1,c.1,c.2.1]
 exact (Qa4 _ _).2 h3.ok
end
section
variable {K:Int}{t n:Nat}{z:Sh}{f:Nat->Int}
theorem Lw.preN (L:Lw K t n z) (ht:t<4) (hn:n<=1000) (ho:opOk (f 0) (f 1) (f 2)=true) (g:Nat->Int) {j:Nat}(hj:j<84):XO (lzN t z g f j):=(L.lend ht hn ho).preW ht g hj
theorem Lw.preA (L:Lw K t n z) (ht:t<4) (hn:n<=1000) (ho:opOk (f 0) (f 1) (f 2)=true) (g:Nat->Int) {j:Nat}(hj:j<5):XO (lzA t z (lzE t z f) g f j):=(L.lend ht hn ho).preA ht hn (s:=(lzE t z f).s.wg g) (QoK _ _) j hj
end
theorem lqN_pre (K:Int) {t:Nat}(ht:t<4) (tog:Int) {j:Nat}(hj:j<5):XO (lqN K t tog j):=by
 have e26:(lqS K).now (Qn 0+26)=0:=Qik K (i:=26) (by decide) (by decide)
 have e18:(lqS K).now (Qn 0+18+t)=0:=by
  have:=Qik K (i:=18+t) (by omega) (by omega)
  rw[<- Nat.add_assoc]at this;exact this
 have e22:(lqS K).now (Qn 0+22+t)=0:=by
  have:=Qik K (i:=22+t) (by omega) (by omega)
  rw[<- Nat.add_assoc]at this;exact this
 exact Qhj (m:=fun _=>0) (s:=lqS K) (by decide) (by show 0<=(lqS K).now (Qn 0+26)/\(lqS K).now (Qn 0+26)<16;rw[e26];decide) (by show U64 ((lqS K).now (Qn 0+18+t));rw[e18];unfold U64;decide) (by show 0<=(lqS K).now (Qn 0+22+t)/\(lqS K).now (Qn 0+22+t)<=9223372036854775807;rw[e22];decide) (.inr e18) j hj
theorem QhW:Lend 2 1 0 (Sh.new 2) (((Sh.new 2).call 1 1 0 4).run 1 84) 1 0 4:=(Lw.new (by decide) (by decide) 1).call (by decide) (by decide) (by decide)
theorem wd_pre {j:Nat}(hj:j<84):XO (itP j wd0):=QhW.preW (by decide) (fun _=>0) hj
theorem wd_no {j:Nat}(hj:j<83):(Qe (itP j wd0)).2=false:=(QhW.goW (fun _=>0)).1 j hj
theorem wd_yes:(Qe (itP 83 wd0)).2=true:=(QhW.goW (fun _=>0)).2.1
end
section
open Go.RowKit
abbrev wkS (w:Wk) (r:WkR):WkS:=⟨w,r.ma,r.ca,r.na,r.za,r.md,r.cd,r.nd,r.zd⟩
def adB (M:List SB) (b:Nat):List Nat:=match getB M b with
 |.cells l _=>match segGet l 41,segGet l 42 with
  |some (.so x _ _ _ _ _),some (.so y _ _ _ _ _)=>[x,y]
  |_,_=>[]
 |_=>[]
theorem Qpa {ρ:Nat->Nat}{i x y:Nat}{a b:Wk}(h:a.sim b) {ca cd:Nat}{na nd:Bool}:denB ρ i (wkC x y a ca na cd nd)=denB ρ i (wkC x y b ca na cd nd):=by
 obtain⟨h1,h2⟩:=h
 rw[<- h1]
 have hr:(List.range 32).map (fun i=>mkV (.int .u64) (a.r i))=(List.range 32).map (fun i=>mkV (.int .u64) (b.r i)):=by
  refine List.map_congr_left fun j hj=>?_
  have hj:=List.mem_range.1 hj
  rw[<- Q6 (f:=a.r) hj,<- Q6 (f:=b.r) hj,h2]
 simp only[denB,Qa,Seg.den]
 rw[hr]
theorem Qnp {a b:Wk}(h:a.sim b):a.asks=b.asks/\a.deeds=b.deeds:=by
 obtain⟨h1,-⟩:=h
 rw[<- h1];exact⟨rfl,rfl⟩
structure Qo1 (s:WlS):Prop where
 th:s.s.w.th<4
 good:s.s.good
 pre:XO s.z
structure RepOK (w:Wk) (x:WkR):Prop where
 good:(wkS w x).good
def Qjd:MCon where
 σ:=WlS
 χ:=WkR
 pre s:=Qo1 s
 args s:=[.c (.p 0 0),.c (.p 1 0),.c (.p 2 0)]
 mem s:=wkM 3 4 s.s s.z
 ok s x:=RepOK (Qe s.z).1.w x
 val s x:=sv (.bool (Qe s.z).2)
 mem' s x:=wkM 3 4 (wkS (Qe s.z).1.w x) (Qe s.z).1
 k:=3
 len:=5
 det:=none
 find:=Qb9
theorem Qk1:(Con.mem Qjd).holds Tryz.prog 12:=by
 intro w0 S
 have h:=Qnl w0 S
 refine⟨h.1,fun x0 h=>(by cases h),fun ρ s w hp hk hm=>(h.2.2 ρ s w ⟨hp.th,hp.good,hp.pre⟩ hk hm).mono ?_⟩
 rintro e w' ⟨x,ρ',⟨hs,hg⟩,h1,h2,h3,h4⟩
 obtain⟨w2,ma,ca,na,za,md,cd,nd,zd⟩:=x
 have hs:w2.sim (Qe s.z).1.w:=hs
 refine⟨⟨ma,ca,na,za,md,cd,nd,zd⟩,ρ',⟨?_⟩,h1,rfl,h3,?_⟩
 · have:=Qnp hs
   unfold WkS.good at hg
   show WkS.good _
   unfold WkS.good
   dsimp only at hg ⊢
   rw[<- this.1,<- this.2];exact hg
 · have e:denM ρ' 0 (wkM 3 4 ⟨w2,ma,ca,na,za,md,cd,nd,zd⟩ ⟨w2,(Qe s.z).1.m,(Qe s.z).1.s⟩)=denM ρ' 0 (wkM 3 4 (wkS (Qe s.z).1.w ⟨ma,ca,na,za,md,cd,nd,zd⟩) (Qe s.z).1):=by
    unfold wkM
    simp only[denM]
    rw[Qpa hs]
   show Mem w _ (denM ρ' 0 (wkM 3 4 (wkS (Qe s.z).1.w ⟨ma,ca,na,za,md,cd,nd,zd⟩) (Qe s.z).1)) w'
   rw[<- e];exact h4
structure QgX where
 th:Nat
 k:Int
 key:Int
 x:Int
 tog:Int
abbrev wkZ (th:Nat):SB:=.cells [.one (.v (.int .i64 th)),.one (.v (.int .i64 0)),.one (.v (.int .i64 0)),.one (.v (.int .i64 0)),.one (.v (.int .i64 0)),.one (.v (.int .i64 0)),.one (.v (.bool false)),.one (.v (.int .i64 0)),.one (.v (.int .u64 0)),.ints (.int .u64) 32 (fun _=>0),.one (.v (.slice none 0 0)),.one (.v (.slice none 0 0)),.ints (.int .u64) 3 (fun _=>0),.one (.v (.int .i64 0)),.one (.v (.int .i64 0)),.one (.v (.int .i64 0))] 42
def Qb8 (b:Bool):MCon where
 σ:=QgX
 χ:=Unit
 pre s:=True
 args s:=[.c (.p 0 0),.a [.one (.v (.int .i64 s.k)),.one (.v (.int .i64 s.key)),.one (.v (.int .i64 s.x))],.c (.v (.int .i64 s.tog)),.c (.v (.bool b))]
 mem s:=[wkZ s.th]
 ok s x:=True
 val _ _:=.t []
 mem' s x:=[wkC 1 2 (Wk.call s.th s.k s.key s.x s.tog b) 0 false 0 false,wkA 0 0 (fun _ _=>0),wkD 0 0 (fun _ _=>0)]
 k:=1
 len:=3
 det:=some ()
 find:=fun args _=>some (blkA args)
theorem QkI:(Con.mem (Qb8 false)).holds Tryz.prog 11:=by
 intro w0 S
 refine Qc (Γ:=[]) (fun _=>noW) Tryz.func11 rfl (by kernel_rfl) Qd Qb (fun w S' _ _=>.nil _ _ _) (Qb8 false) (fun _=>[]) (fun x0 h s x=>⟨rfl,trivial⟩) (fun s ρ w _ _ _=>Qm w _) [nzW,nzV] (rpW 1) 400 ?_
 rintro⟨th,k1,key1,x1,tog1⟩ W - -
 refine⟨rfl,?_⟩
 refine Qj (q:=dP Tryz.f11 1 2 [⟨9,[],[0],[],false⟩,xF 8 0,xE 7,xE 6,xR 5 1,xR 4 0,xF 3 0,xF 2 0,xF 1 0,xF 0 0]/\endN (Qb8 false) [nzW,nzV] (rpW 1) (QgX.mk th k1 key1 x1 tog1) (SV.t []) [SB.cells [sI ↑th,sI 1,sI k1,sI key1,sI x1,sI tog1,sB false,sI 0,sU 0,nU 32 zF,Seg.one (.v (.slice none 0 0)),Seg.one (.v (.slice none 0 0)),nU 3 zF,sI 0,sI 0,sI 0] 42,SB.cells [sI k1,sI key1,sI x1] 32]) (by kernel_rfl) ?_
 exact⟨Qk (by kernel_rfl),Qu rfl () trivial rfl rfl rfl⟩
theorem QpW:(Con.mem (Qb8 true)).holds Tryz.prog 11:=by
 intro w0 S
 refine Qc (Γ:=[]) (fun _=>noW) Tryz.func11 rfl (by kernel_rfl) Qd Qb (fun w S' _ _=>.nil _ _ _) (Qb8 true) (fun _=>[]) (fun x0 h s x=>⟨rfl,trivial⟩) (fun s ρ w _ _ _=>Qm w _) [nzW,nzV] (rpW 1) 400 ?_
 rintro⟨th,k1,key1,x1,tog1⟩ W - -
 refine⟨rfl,?_⟩
 refine Qj (q:=dP Tryz.f11 1 2 [⟨9,[],[0],[],false⟩,xF 8 0,xE 7,xE 6,xR 5 1,xR 4 0,xF 3 0,xF 2 0,xF 1 0,xF 0 0]/\endN (Qb8 true) [nzW,nzV] (rpW 1) (QgX.mk th k1 key1 x1 tog1) (SV.t []) [SB.cells [sI ↑th,sI 17,sI k1,sI key1,sI x1,sI tog1,sB false,sI 0,sU 0,nU 32 zF,Seg.one (.v (.slice none 0 0)),Seg.one (.v (.slice none 0 0)),nU 3 zF,sI 0,sI 0,sI 0] 42,SB.cells [sI k1,sI key1,sI x1] 32]) (by kernel_rfl) ?_
 exact⟨Qk (by kernel_rfl),Qu rfl () trivial rfl rfl rfl⟩
def boolAt (b:Bool):List SA->Bool
 |[_,_,_,.c (.v (.bool c))]=>bif b then c else !c
 |_=>false
def Qje (b:Bool):MCon:={ Qdh b with find:=fun args M=>bif boolAt b args then (match M with
 |[]=>some []
 |_=>Qb9 args M)else none }
theorem QpX:(Con.mem (Qje false)).holds Tryz.prog 11:=QmH
theorem QpY:(Con.mem (Qje true)).holds Tryz.prog 11:=QmI
abbrev lwM (z:WSt) (r:WkR):List SB:=[ramB z.m,stoB z.s,wkC 3 4 z.w r.ca r.na r.cd r.nd,wkA r.ma r.ca r.za,wkD r.md r.cd r.zd]
def wkAd (M:List SB) (b:Nat):List Nat:=b::adB M b
theorem RepOK.call (th:Nat) (k key x tog:Int) (b:Bool):RepOK (Wk.call th k key x tog b) ⟨0,0,false,fun _ _=>0,0,0,false,fun _ _=>0⟩:=
 ⟨⟨Nat.le_refl _,Nat.le_refl _⟩,fun i hi=>absurd hi (Nat.not_lt_zero _),⟨Nat.le_refl _,Nat.le_refl _⟩,fun i hi=>absurd hi (Nat.not_lt_zero _)⟩
theorem RepOK.new (th:Nat):RepOK (Wk.new th) ⟨0,0,false,fun _ _=>0,0,0,false,fun _ _=>0⟩:=
 ⟨⟨Nat.le_refl _,Nat.le_refl _⟩,fun i hi=>absurd hi (Nat.not_lt_zero _),⟨Nat.le_refl _,Nat.le_refl _⟩,fun i hi=>absurd hi (Nat.not_lt_zero _)⟩
structure WdG where
 j:Nat
 r:WkR
 hj:j<=84
 hr:RepOK (itP j wd0).w r
def annWd:Ann where
 σ:=WdG
 I g:=([(1,.o (.c (.p 0 0))),(2,.o (.c (.p 1 0))),(4,.o (.c (.p 2 0))),(5,sv (.int .i64 (g.j+1:Nat)))],lwM (itP g.j wd0) g.r)
 dec g:=84-g.j
 pi env M:=[blkE env 1,blkE env 2]++wkAd M (blkE env 4)
 nz:=[]
def QaF:PCon:=⟨fun args=>match args with
 |[]=>True
 |_=>False,fun _=>sv (.bool true),fun _=>none⟩
theorem QpT:(Con.pure QaF).holds Tryz.prog 6:=by
 refine Qx (Γ:=[(9,.mem QgM),(15,.pure QhF),(11,.mem (Qb8 false)),(12,.mem Qjd),(13,.inl Tryz.f13 (Tryz.f13.body.getD .skip)),(22,.inl Tryz.f22 (Tryz.f22.body.getD .skip))]) Tryz.func6 rfl (by kernel_rfl) Qd Qb
  (fun W=>.cons (QnX W _) (.cons (Qlv W _) (.cons (QkI W _) (.cons (Qk1 W _) (.cons ⟨by kernel_rfl,rfl,rfl⟩ (.cons ⟨by kernel_rfl,rfl,rfl⟩ (.nil _ _ _))))))) QaF (fun _=>[(6,[(0,annWd)])]) 600 ?_
 intro W args hp
 unfold QaF at hp;dsimp only at hp;split at hp
 case h_2=>exact hp.elim
 refine⟨rfl,?_⟩
 refine Qj (q:=∃(s:Int),[aI 2]=[aI s]/\eN/\((1:Int)<=s/\s<=(6:Int))/\∀(x:Unit),True->True/\∃(s_1:QgX),[aP 2 0,SA.a [sI 1,sI 0,sI 4],aI 1,aB false]=[aP 2 0,SA.a [sI s_1.2,sI s_1.3,sI s_1.4],aI s_1.5,aB false]/\[SB.cells [sI 1,sI 0,sI 0,sI 0,sI 0,sI 0,sB false,sI 0,sU 0,nU 32 zF,Seg.one (.v (.slice none 0 0)),Seg.one (.v (.slice none 0 0)),nU 3 zF,sI 0,sI 0,sI 0] 42]=[SB.cells [sI (↑s_1.1:Int),sI 0,sI 0,sI 0,sI 0,sI 0,sB false,sI 0,sU 0,nU 32 zF,Seg.one (.v (.slice none 0 0)),Seg.one (.v (.slice none 0 0)),nU 3 zF,sI 0,sI 0,sI 0] 42]/\True/\∀(x:Unit),True->(∃(s0:Ann.σ annWd),(eS (aP 0 0) (aP 0 0)/\eS (aP 1 0) (aP 1 0)/\eS (aP 2 0) (aP 2 0)/\eS (aI 1) (aI (↑(s0.1+1):Int))/\True)/\[SB.cells [nU 16 zF] 72,SB.cells [nU 72 (Qas s 32),nU 72 Sto.new.2,nB 36 Sto.new.3,sI 0,sI 0] 85,wkC 3 4 (Wk.call (QgX.th s_1) (QgX.k s_1) (QgX.key s_1) (QgX.x s_1) (QgX.tog s_1) false) 0 false 0 false,wkA 0 0 fun (x x_1:Nat)=>(0:Int),wkD 0 0 fun (x x_1:Nat)=>(0:Int)]=[ramB (itP (WdG.j s0) wd0).2,stoB (WSt.s (itP (WdG.j s0) wd0)),wkC 3 4 (WSt.w (itP (WdG.j s0) wd0)) (WdG.r s0).2 (WdG.r s0).3 (WdG.r s0).6 (WdG.r s0).7,wkA (WdG.r s0).1 (WdG.r s0).2 (WdG.r s0).4,wkD (WdG.r s0).5 (WdG.r s0).6 (WdG.r s0).8])/\∀(s:WdG),bif decide ((↑(s.1+1):Int)<=(84:Int))then ∃(s_2:WlS),[aP 2 0,aP 0 0,aP 1 0]=[aP 2 0,aP 0 0,aP 1 0]/\[wkC 3 4 (WSt.w (itP (WdG.j s) wd0)) (WdG.r s).2 (WdG.r s).3 (WdG.r s).6 (WdG.r s).7,ramB (itP (WdG.j s) wd0).2,stoB (WSt.s (itP (WdG.j s) wd0)),wkA (WdG.r s).1 (WdG.r s).2 (WdG.r s).4,wkD (WdG.r s).5 (WdG.r s).6 (WdG.r s).8]=[wkC 3 4 (WkS.w (WlS.s s_2)) (WlS.s s_2).3 (WlS.s s_2).4 (WlS.s s_2).7 (WlS.s s_2).8,ramB s_2.2,stoB (WlS.t s_2),wkA (WlS.s s_2).2 (WlS.s s_2).3 (WlS.s s_2).5,wkD (WlS.s s_2).6 (WlS.s s_2).7 (WlS.s s_2).9]/\Qo1 s_2/\∀(x:WkR),RepOK (Prod.fst (Qe (WlS.z s_2))).1 x->bif bif (Qe (WlS.z s_2)).2==((↑(s.1+1):Int)==(84:Int))then false else true then endP QaF [] (SV.o (aB false)) []else ∃(s':WdG),((eS (aP 0 0) (aP 0 0)/\eS (aP 1 0) (aP 1 0)/\eS (aP 2 0) (aP 2 0)/\eS (aI (IntKind.wrap .i64 ((↑(s.1+1):Int)+(1:Int)))) (aI (↑(s'.1+1):Int))/\True)/\[ramB (Prod.fst (Qe (WlS.z s_2))).2,stoB (WSt.s (Prod.fst (Qe (WlS.z s_2)))),wkC 5 6 (WSt.w (Prod.fst (Qe (WlS.z s_2)))) x.2 x.3 x.6 x.7,wkA x.1 x.2 x.4,wkD x.5 x.6 x.8]=[ramB (itP (WdG.j s') wd0).2,stoB (WSt.s (itP (WdG.j s') wd0)),wkC 5 6 (WSt.w (itP (WdG.j s') wd0)) (WdG.r s').2 (WdG.r s').3 (WdG.r s').6 (WdG.r s').7,wkA (WdG.r s').1 (WdG.r s').2 (WdG.r s').4,wkD (WdG.r s').5 (WdG.r s').6 (WdG.r s').8])/\84-s'.1<84-s.1 else dP Tryz.f13 1 6 [xE 9,⟨8,[],[5],[],false⟩,xR 7 2,xF 6 2,xF 5 2,xF 4 2,xR 3 2,xF 2 2,xF 1 2,xF 0 2]/\bif bif (WSt.w (itP (WdG.j s) wd0)).14==(1:Int)then bif (WSt.w (itP (WdG.j s) wd0)).15==(0:Int)then true else false else false then bif (WSt.w (itP (WdG.j s) wd0)).16==(1:Int)then bif (WSt.w (itP (WdG.j s) wd0)).2==(0:Int)then (True/\(0+List.length (WSt.w (itP (WdG.j s) wd0)).12<=(WdG.r s).5/\(WdG.r s).6=(WdG.r s).6)/\0+List.length (WSt.w (itP (WdG.j s) wd0)).12<=68719476736)/\∀(c:Nat),0+List.length (WSt.w (itP (WdG.j s) wd0)).12<=c->0+List.length (WSt.w (itP (WdG.j s) wd0)).12<=c/\endP QaF [] (SV.o (aB ((↑(0+List.length (WSt.w (itP (WdG.j s) wd0)).12):Int)==(1:Int)))) []else endP QaF [] (SV.o (aB false)) []else endP QaF [] (SV.o (aB false)) []else endP QaF [] (SV.o (aB false)) []) (by kernel_rfl) ?_
 refine⟨(2:Int),rfl,rfl,⟨by decide,by decide⟩,fun _ _=>⟨trivial,⟨1,1,0,4,1⟩,rfl,rfl,trivial,fun _ _=>⟨⟨⟨0,⟨0,0,false,fun _ _=>0,0,0,false,fun _ _=>0⟩,by decide,RepOK.call _ _ _ _ _ _⟩,⟨rfl,rfl,rfl,rfl,trivial⟩,rfl⟩,?_⟩⟩⟩
 rintro⟨j,r,hj,hr⟩
 dsimp only
 refine Qp (fun h=>?_) (fun h=>?_)
 · have hj:j<=83:=by omega
   have hth:(itP j wd0).w.th<4:=by
    have:(itP j wd0).w.th=1:=(Qb2 j wd0).1
    omega
   have hp:XO (itP j wd0):=wd_pre (by omega)
   have hb:(Qe (itP j wd0)).2=(((j+1:Nat):Int)==84):=by
    by_cases h83:j=83
    · subst h83;rw[wd_yes];rfl
    · rw[wd_no (by omega)];exact (beq_eq_false_iff_ne.2 (by omega)).symm
   have hs:=Qbo j wd0
   generalize itP j wd0=z at *
   refine⟨⟨wkS z.w r,z.m,z.s⟩,rfl,rfl,⟨hth,hr.good,hp⟩,fun x hx=>Qab (fun h=>?_) (fun _=>⟨⟨j+1,x,by omega,by rw[hs];exact hx⟩,⟨⟨rfl,rfl,rfl,svI (sucI (by omega)),trivial⟩,?_⟩,by dsimp only;omega⟩)⟩
   · exact absurd (show ((Qe z).2==(((j+1:Nat):Int)==84))=false from h) (by rw[hb,beq_self_eq_true];decide)
   · show _=[ramB (itP (j+1) wd0).m,stoB (itP (j+1) wd0).s,wkC 5 6 (itP (j+1) wd0).w x.ca x.na x.cd x.nd,wkA x.ma x.ca x.za,wkD x.md x.cd x.zd]
     rw[hs]
 · obtain rfl:j=84:=by omega
   obtain⟨e1,e2,e3,e4,e5⟩:=wd_end
   clear h hj
   generalize itP 84 wd0=z at *
   have hl:0+z.w.deeds.length<=r.md:=by
    have:=hr.good.2.2.1.1
    show 0+z.w.deeds.length<=r.md
    have:z.w.deeds.length<=r.md:=this
    omega
   refine⟨Qk (by kernel_rfl),?_⟩
   rw[e1,e2,e3,e4,e5]
   refine⟨⟨trivial,⟨by rw[e5]at hl;exact hl,rfl⟩,by decide⟩,fun c hc=>⟨hc,rfl,fun ρ=>rfl⟩⟩
structure Qr where
 s:Sto
 l:Nat
def QcO:MCon:=dcon Qr (fun s=>s.l<9) (fun s=>[.c (.p 0 0),.c (.v (.int .i64 s.l))]) (fun s=>[stoB s.s]) (fun s=>.t [.a [.ints (.int .u64) 8 (fun j=>s.s.good (8*s.l+j))],.c (.v .nilIface)]) (fun s=>[stoB s.s]) 1 (fun args _=>some (blkA args))
theorem Qmb:(Con.mem QcO).holds Tryz.prog 32:=by
 intro w0 S
 refine Qc (Γ:=[]) (fun _=>noW) Tryz.func32 rfl (by kernel_rfl) Qd Qb (fun w S' _ _=>.nil _ _ _) QcO (fun _=>[]) (fun x0 h s x=>⟨rfl,trivial⟩) (fun s ρ w _ _ _=>Qm w _) [] (Qi 1) 400 ?_
 rintro⟨s,l⟩ W h -
 refine⟨rfl,?_⟩
 have h:l<9:=h
 refine Qj (q:=bif decide ((↑l:Int)<(0:Int))then endN QcO [] (Qi 1) (Qr.mk s l) (SV.t [SA.a [nU 8 zF],SA.c (.v (.iface 78 (Value.int .i64 (2:Int))))]) [SB.cells [nU 72 s.1,nU 72 s.2,nB 36 s.3,sI s.4,sI s.5] 85,SB.cells [nU 8 zF] 80]else bif decide ((↑l:Int)>=(9:Int))then endN QcO [] (Qi 1) (Qr.mk s l) (SV.t [SA.a [nU 8 zF],SA.c (.v (.iface 78 (Value.int .i64 (2:Int))))]) [SB.cells [nU 72 s.1,nU 72 s.2,nB 36 s.3,sI s.4,sI s.5] 85,SB.cells [nU 8 zF] 80]else (iR (↑l:Int) (9:Int))/\0+Int.toNat (↑l:Int)+Int.toNat (↑l:Int)+Int.toNat (↑l:Int)+Int.toNat (↑l:Int)+Int.toNat (↑l:Int)+Int.toNat (↑l:Int)+Int.toNat (↑l:Int)+Int.toNat (↑l:Int)+1+1+1+1+1+1+1+1<=72/\endN QcO [] (Qi 1) (Qr.mk s l) (SV.t [SA.a [nU 8 fun (j:Nat)=>s.2 (0+Int.toNat (↑l:Int)+Int.toNat (↑l:Int)+Int.toNat (↑l:Int)+Int.toNat (↑l:Int)+Int.toNat (↑l:Int)+Int.toNat (↑l:Int)+Int.toNat (↑l:Int)+Int.toNat (↑l:Int)+j)],SA.c (.v Value.nilIface)]) [SB.cells [nU 72 s.1,nU 72 s.2,nB 36 s.3,sI s.4,sI s.5] 85,SB.cells [nU 8 fun (j:Nat)=>s.2 (0+Int.toNat (↑l:Int)+Int.toNat (↑l:Int)+Int.toNat (↑l:Int)+Int.toNat (↑l:Int)+Int.toNat (↑l:Int)+Int.toNat (↑l:Int)+Int.toNat (↑l:Int)+Int.toNat (↑l:Int)+j)] 80]) (by kernel_rfl) ?_
 refine Qp (fun h=>absurd h (by omega)) (fun _=>Qp (fun h=>absurd h (by omega)) (fun _=>?_))
 rw[Int.toNat_natCast,show 0+l+l+l+l+l+l+l+l=8*l by omega]
 exact⟨⟨by omega,by omega⟩,by omega,Qu rfl () trivial rfl rfl rfl⟩
structure LnG where
 i:Nat
 hi:i<=8
def lnF (g:Nat->Int) (l i:Nat):Nat->Int:=fun j=>bif decide (j<i)then g (8*l+j)else 0
theorem QnR (g:Nat->Int) (l:Nat):lnF g l 0=fun _=>0:=funext fun j=>by
 unfold lnF;rw[decide_eq_false (Nat.not_lt_zero j)];rfl
theorem QnS (g:Nat->Int) (l i:Nat):(fun j=>bif Nat.beq j i then g (8*l+i)else bif decide (j<i)then g (8*l+j)else 0)=lnF g l (i+1):=funext fun j=>by
 unfold lnF
 by_cases e:j=i
 · subst e;rw[Nat.beq_refl,decide_eq_true (Nat.lt_succ_self j)];rfl
 · rw[nbeq e,cond_false]
   by_cases h:j<i
   · rw[decide_eq_true h,decide_eq_true (show j<i+1 by omega)]
   · rw[decide_eq_false h,decide_eq_false (show ¬j<i+1 by omega)]
def annLn (s:Qr):Ann where
 σ:=LnG
 I g:=([(0,.o (.c (.p 0 0))),(1,sv (.int .i64 s.l)),(4,.o (.c (.p 1 0))),(5,.o (.c (.p 2 0))),(6,sv (.int .i64 g.i))],[stoB s.s,.cells [.ints (.int .u64) 8 (fun _=>0)] 80,.cells [.ints (.int .u64) 8 (lnF s.s.now s.l g.i)] 80])
 dec g:=8-g.i
 pi env _:=[0,blkE env 4,blkE env 5]
 nz:=[]
def QeN:MCon:=dcon Qr (fun s=>s.l<9) (fun s=>[.c (.p 0 0),.c (.v (.int .i64 s.l))]) (fun s=>[stoB s.s]) (fun s=>.o (.a [.ints (.int .u64) 8 (lnF s.s.now s.l 8)])) (fun s=>[stoB s.s]) 1 (fun args _=>some (blkA args))
theorem QlQ:(Con.mem QeN).holds Tryz.prog 33:=by
 intro w0 S
 refine Qc (Γ:=[(14,.mem Q0)]) (fun _=>noW) Tryz.func33 rfl (by kernel_rfl) Qd Qb (fun w S' _ _=>.cons (Xd w S') (.nil _ _ _)) QeN (fun s=>[(33,[(0,annLn s)])]) (fun x0 h s x=>⟨rfl,trivial⟩) (fun s ρ w _ _ _=>Qm w _) [] (Qi 1) 400 ?_
 rintro⟨s,l⟩ W h -
 refine⟨rfl,?_⟩
 have h:l<9:=h
 refine Qj (q:=(∃(s0:Ann.σ (annLn (Qr.mk s l))),(eS (aP 0 0) (aP 0 0)/\eS (aI ↑l) (aI ↑l)/\eS (aP 1 0) (aP 1 0)/\eS (aP 2 0) (aP 2 0)/\eS (aI 0) (aI ↑s0.1)/\True)/\[SB.cells [nU 72 s.1,nU 72 s.2,nB 36 s.3,sI s.4,sI s.5] 85,SB.cells [nU 8 zF] 80,SB.cells [nU 8 zF] 80]=[SB.cells [nU 72 s.1,nU 72 s.2,nB 36 s.3,sI s.4,sI s.5] 85,SB.cells [nU 8 zF] 80,SB.cells [nU 8 fun (j:Nat)=>bif decide (j<s0.1)then s.1 (8*l+j)else (0:Int)] 80])/\∀(s_1:LnG),bif decide ((↑s_1.1:Int)<(8:Int))then ∃(s_2:QB),[aP 0 0,aI (IntKind.wrap .i64 (IntKind.wrap .i64 ((↑l:Int)*(8:Int))+(↑s_1.1:Int)))]=[aP 0 0,aI s_2.2]/\[SB.cells [nU 72 s.1,nU 72 s.2,nB 36 s.3,sI s.4,sI s.5] 85]=[SB.cells [nU 72 (QB.s s_2).1,nU 72 (QB.s s_2).2,nB 36 (QB.s s_2).3,sI (QB.s s_2).4,sI (QB.s s_2).5] 85]/\(iR s_2.2 (72:Int))/\∀(x:Unit),True->(iR (↑s_1.1:Int) (8:Int))/\Int.toNat (↑s_1.1:Int)<8/\∃(s':LnG),((eS (aP 0 0) (aP 0 0)/\eS (aI ↑l) (aI ↑l)/\eS (aP 1 0) (aP 1 0)/\eS (aP 2 0) (aP 2 0)/\eS (aI (IntKind.wrap .i64 ((↑s_1.1:Int)+(1:Int)))) (aI ↑s'.1)/\True)/\[SB.cells [nU 72 (QB.s s_2).1,nU 72 (QB.s s_2).2,nB 36 (QB.s s_2).3,sI (QB.s s_2).4,sI (QB.s s_2).5] 85,SB.cells [nU 8 zF] 80,SB.cells [nU 8 fun (i:Nat)=>bif Nat.beq i (Int.toNat (↑s_1.1:Int))then (QB.s s_2).1 (Int.toNat s_2.2)else bif decide (i<s_1.1)then s.1 (8*l+i)else (0:Int)] 80]=[SB.cells [nU 72 s.1,nU 72 s.2,nB 36 s.3,sI s.4,sI s.5] 85,SB.cells [nU 8 zF] 80,SB.cells [nU 8 fun (j:Nat)=>bif decide (j<s'.1)then s.1 (8*l+j)else (0:Int)] 80])/\8-s'.1<8-s_1.1 else endN QeN [] (Qi 1) (Qr.mk s l) (SV.o (SA.a [nU 8 fun (j:Nat)=>bif decide (j<s_1.1)then s.1 (8*l+j)else (0:Int)])) [SB.cells [nU 72 s.1,nU 72 s.2,nB 36 s.3,sI s.4,sI s.5] 85,SB.cells [nU 8 fun (j:Nat)=>bif decide (j<s_1.1)then s.1 (8*l+j)else (0:Int)] 80,SB.cells [nU 8 fun (j:Nat)=>bif decide (j<s_1.1)then s.1 (8*l+j)else (0:Int)] 80]) (by kernel_rfl) ?_
 refine⟨⟨⟨0,by decide⟩,⟨rfl,rfl,rfl,rfl,rfl,trivial⟩,?_⟩,?_⟩
 · show _=[_,_,SB.cells [.ints (.int .u64) 8 (lnF s.now l 0)] _]
   rw[QnR]
 rintro⟨i,hi⟩
 dsimp only
 refine Qp (fun hlt=>?_) (fun hge=>?_)
 · have hlt:i<8:=by omega
   have e:IntKind.wrap .i64 (IntKind.wrap .i64 ((l:Int)*8)+(i:Int))=((8*l+i:Nat):Int):=by rw[QI (x:=(l:Int)*8) (by omega) (by omega),QI (by omega) (by omega)];omega
   rw[e,Int.toNat_natCast]
   refine⟨⟨s,((8*l+i:Nat):Int)⟩,rfl,rfl,⟨(by omega:(0:Int)<=((8*l+i:Nat):Int)),(by omega:((8*l+i:Nat):Int)<72)⟩,fun _ _=>⟨⟨by omega,by omega⟩,hlt,⟨i+1,by omega⟩,⟨⟨rfl,rfl,rfl,rfl,svI (sucI (by omega)),trivial⟩,?_⟩,by dsimp only;omega⟩⟩
   dsimp only
   rw[Int.toNat_natCast,QnS];rfl
 · obtain rfl:i=8:=by omega
   exact Qu rfl () trivial rfl rfl rfl
theorem QmC {α:Type}[DecidableEq α] (a:α):(bif decide (a=a)then true else false)=true:=by rw[decide_eq_true rfl];rfl
structure AkG where
 i:Nat
 hi:i<=9
def annAk (s:Sto):Ann where
 σ:=AkG
 I g:=([(0,.o (.c (.p 0 0))),(1,.o (.c (.p 1 0))),(5,sv (.int .i64 g.i))],[stoB s,stoB s])
 dec g:=9-g.i
 pi env _:=[0,1]
 nz:=[]
def QdM:MCon:=dcon Sto (fun s=>True) (fun s=>[.c (.p 0 0),.c (.p 1 0)]) (fun s=>[stoB s,stoB s]) (fun s=>sv (.bool true)) (fun s=>[stoB s,stoB s]) 2 (fun args _=>some (blkA args))
theorem alike_con:(Con.mem QdM).holds Tryz.prog 19:=by
 intro w0 S
 refine Qc (Γ:=[(32,.mem QcO),(33,.mem QeN)]) (fun _=>noW) Tryz.func19 rfl (by kernel_rfl) Qd Qb (fun w S' _ _=>.cons (Qmb w S') (.cons (QlQ w S') (.nil _ _ _))) QdM (fun s=>[(19,[(0,annAk s)])]) (fun x0 h s x=>⟨rfl,trivial⟩) (fun s ρ w _ _ _=>Qm w _) [] (Qi 2) 400 ?_
 rintro s W - -
 refine⟨rfl,?_⟩
 refine Qj (q:=(∃(s0:Ann.σ (annAk s)),(eS (aP 0 0) (aP 0 0)/\eS (aP 1 0) (aP 1 0)/\eS (aI 0) (aI ↑s0.1)/\True)/\[SB.cells [nU 72 s.1,nU 72 s.2,nB 36 s.3,sI s.4,sI s.5] 85,SB.cells [nU 72 s.1,nU 72 s.2,nB 36 s.3,sI s.4,sI s.5] 85]=[SB.cells [nU 72 s.1,nU 72 s.2,nB 36 s.3,sI s.4,sI s.5] 85,SB.cells [nU 72 s.1,nU 72 s.2,nB 36 s.3,sI s.4,sI s.5] 85])/\∀(s_1:AkG),bif decide ((↑s_1.1:Int)<(9:Int))then ∃(s_2:Qr),[aP 0 0,aI ↑s_1.1]=[aP 0 0,aI ↑s_2.2]/\[SB.cells [nU 72 s.1,nU 72 s.2,nB 36 s.3,sI s.4,sI s.5] 85]=[SB.cells [nU 72 (Qr.s s_2).1,nU 72 (Qr.s s_2).2,nB 36 (Qr.s s_2).3,sI (Qr.s s_2).4,sI (Qr.s s_2).5] 85]/\s_2.2<9/\∀(x:Unit),True->∃(s_3:Qr),[aP 1 0,aI ↑s_1.1]=[aP 1 0,aI ↑s_3.2]/\[SB.cells [nU 72 s.1,nU 72 s.2,nB 36 s.3,sI s.4,sI s.5] 85]=[SB.cells [nU 72 (Qr.s s_3).1,nU 72 (Qr.s s_3).2,nB 36 (Qr.s s_3).3,sI (Qr.s s_3).4,sI (Qr.s s_3).5] 85]/\s_3.2<9/\∀(x:Unit),True->bif bif bif decide ([(Qr.s s_2).2 (8*s_2.2),(Qr.s s_2).2 (8*s_2.2+1),(Qr.s s_2).2 (8*s_2.2+1+1),(Qr.s s_2).2 (8*s_2.2+1+1+1),(Qr.s s_2).2 (8*s_2.2+1+1+1+1),(Qr.s s_2).2 (8*s_2.2+1+1+1+1+1),(Qr.s s_2).2 (8*s_2.2+1+1+1+1+1+1),(Qr.s s_2).2 (8*s_2.2+1+1+1+1+1+1+1)]=[(Qr.s s_3).2 (8*s_3.2),(Qr.s s_3).2 (8*s_3.2+1),(Qr.s s_3).2 (8*s_3.2+1+1),(Qr.s s_3).2 (8*s_3.2+1+1+1),(Qr.s s_3).2 (8*s_3.2+1+1+1+1),(Qr.s s_3).2 (8*s_3.2+1+1+1+1+1),(Qr.s s_3).2 (8*s_3.2+1+1+1+1+1+1),(Qr.s s_3).2 (8*s_3.2+1+1+1+1+1+1+1)])then true else false then false else true then endN QdM [] (Qi 2) s (SV.o (aB false)) [SB.cells [nU 72 (Qr.s s_2).1,nU 72 (Qr.s s_2).2,nB 36 (Qr.s s_2).3,sI (Qr.s s_2).4,sI (Qr.s s_2).5] 85,SB.cells [nU 72 (Qr.s s_3).1,nU 72 (Qr.s s_3).2,nB 36 (Qr.s s_3).3,sI (Qr.s s_3).4,sI (Qr.s s_3).5] 85,SB.cells [nU 8 fun (j:Nat)=>(Qr.s s_2).2 (8*s_2.2+j)] 80,SB.cells [nU 8 fun (j:Nat)=>(Qr.s s_3).2 (8*s_3.2+j)] 80]else ∃(s_4:Qr),[aP 0 0,aI ↑s_1.1]=[aP 0 0,aI ↑s_4.2]/\[SB.cells [nU 72 (Qr.s s_2).1,nU 72 (Qr.s s_2).2,nB 36 (Qr.s s_2).3,sI (Qr.s s_2).4,sI (Qr.s s_2).5] 85]=[SB.cells [nU 72 (Qr.s s_4).1,nU 72 (Qr.s s_4).2,nB 36 (Qr.s s_4).3,sI (Qr.s s_4).4,sI (Qr.s s_4).5] 85]/\s_4.2<9/\∀(x:Unit),True->∃(s_5:Qr),[aP 1 0,aI ↑s_1.1]=[aP 1 0,aI ↑s_5.2]/\[SB.cells [nU 72 (Qr.s s_3).1,nU 72 (Qr.s s_3).2,nB 36 (Qr.s s_3).3,sI (Qr.s s_3).4,sI (Qr.s s_3).5] 85]=[SB.cells [nU 72 (Qr.s s_5).1,nU 72 (Qr.s s_5).2,nB 36 (Qr.s s_5).3,sI (Qr.s s_5).4,sI (Qr.s s_5).5] 85]/\s_5.2<9/\∀(x:Unit),True->bif bif bif decide ([(Qr.s s_4).1 (8*s_4.2),(Qr.s s_4).1 (8*s_4.2+1),(Qr.s s_4).1 (8*s_4.2+1+1),(Qr.s s_4).1 (8*s_4.2+1+1+1),(Qr.s s_4).1 (8*s_4.2+1+1+1+1),(Qr.s s_4).1 (8*s_4.2+1+1+1+1+1),(Qr.s s_4).1 (8*s_4.2+1+1+1+1+1+1),(Qr.s s_4).1 (8*s_4.2+1+1+1+1+1+1+1)]=[(Qr.s s_5).1 (8*s_5.2),(Qr.s s_5).1 (8*s_5.2+1),(Qr.s s_5).1 (8*s_5.2+1+1),(Qr.s s_5).1 (8*s_5.2+1+1+1),(Qr.s s_5).1 (8*s_5.2+1+1+1+1),(Qr.s s_5).1 (8*s_5.2+1+1+1+1+1),(Qr.s s_5).1 (8*s_5.2+1+1+1+1+1+1),(Qr.s s_5).1 (8*s_5.2+1+1+1+1+1+1+1)])then true else false then false else true then endN QdM [] (Qi 2) s (SV.o (aB false)) [SB.cells [nU 72 (Qr.s s_4).1,nU 72 (Qr.s s_4).2,nB 36 (Qr.s s_4).3,sI (Qr.s s_4).4,sI (Qr.s s_4).5] 85,SB.cells [nU 72 (Qr.s s_5).1,nU 72 (Qr.s s_5).2,nB 36 (Qr.s s_5).3,sI (Qr.s s_5).4,sI (Qr.s s_5).5] 85,SB.cells [nU 8 fun (j:Nat)=>(Qr.s s_2).2 (8*s_2.2+j)] 80,SB.cells [nU 8 fun (j:Nat)=>(Qr.s s_3).2 (8*s_3.2+j)] 80]else ∃(s':AkG),((eS (aP 0 0) (aP 0 0)/\eS (aP 1 0) (aP 1 0)/\eS (aI (IntKind.wrap .i64 ((↑s_1.1:Int)+(1:Int)))) (aI ↑s'.1)/\True)/\[SB.cells [nU 72 (Qr.s s_4).1,nU 72 (Qr.s s_4).2,nB 36 (Qr.s s_4).3,sI (Qr.s s_4).4,sI (Qr.s s_4).5] 85,SB.cells [nU 72 (Qr.s s_5).1,nU 72 (Qr.s s_5).2,nB 36 (Qr.s s_5).3,sI (Qr.s s_5).4,sI (Qr.s s_5).5] 85]=[SB.cells [nU 72 s.1,nU 72 s.2,nB 36 s.3,sI s.4,sI s.5] 85,SB.cells [nU 72 s.1,nU 72 s.2,nB 36 s.3,sI s.4,sI s.5] 85])/\9-s'.1<9-s_1.1 else endN QdM [] (Qi 2) s (SV.o (aB true)) [SB.cells [nU 72 s.1,nU 72 s.2,nB 36 s.3,sI s.4,sI s.5] 85,SB.cells [nU 72 s.1,nU 72 s.2,nB 36 s.3,sI s.4,sI s.5] 85]) (by kernel_rfl) ?_
 refine⟨⟨⟨0,by decide⟩,⟨rfl,rfl,rfl,trivial⟩,rfl⟩,?_⟩
 rintro⟨i,hi⟩
 dsimp only
 refine Qp (fun hlt=>?_) (fun hge=>Qu rfl () trivial rfl rfl rfl)
 have hl:i<9:=by omega
 exact⟨⟨s,i⟩,rfl,rfl,hl,fun _ _=>⟨⟨s,i⟩,rfl,rfl,hl,fun _ _=>Qab (fun hb=>absurd ((QmC _).symm.trans hb) (by decide)) (fun _=>⟨⟨s,i⟩,rfl,rfl,hl,fun _ _=>⟨⟨s,i⟩,rfl,rfl,hl,fun _ _=>Qab (fun hb=>absurd ((QmC _).symm.trans hb) (by decide)) (fun _=>⟨⟨i+1,by omega⟩,⟨⟨rfl,rfl,svI (sucI (by omega)),trivial⟩,rfl⟩,by dsimp only;omega⟩)⟩⟩)⟩⟩
structure LgS where
 k:Int
 l:List Dd
 lo:Nat
 m:Nat
 c:Nat
 nn:Bool
 z:Nat->Nat->Int
def QcN:MCon:=dcon LgS (fun s=>(1<=s.k/\s.k<=6)/\Legal s.k s.l/\s.l.length<=1000000000/\(s.lo+s.l.length<=s.m/\s.m<=s.c)/\IsD (fun i=>s.z (s.lo+i)) s.l)
 (fun s=>[.c (.v (.int .i64 s.k)),.c (.so 0 s.lo 6 s.l.length s.c s.nn)]) (fun s=>[Qln s.m s.c s.z]) (fun s=>.t [Qcv (fL (lgC s.k s.l s.l.length)),nilE]) (fun s=>[Qln s.m s.c s.z]) 1 (fun args _=>some (blkA args))
structure LgG (s:LgS) where
 i:Nat
 hi:i<=s.l.length
def Qjn (s:LgS):Ann where
 σ:=LgG s
 I g:=([(0,sv (.int .i64 s.k)),(4,.o (.c (.p 1 0))),(6,.o (.c (.p 2 0))),(17,.o (.c (.so 0 s.lo 6 s.l.length s.c s.nn))),(18,sv (.int .i64 s.l.length)),(19,sv (.int .i64 g.i))],[Qln s.m s.c s.z,QdO (fun _=>0),QdO (fL (lgC s.k s.l g.i))])
 dec g:=s.l.length-g.i
 pi env _:=[0,blkE env 4,blkE env 6]
 nz:=[]
theorem legal_con:(Con.mem QcN).holds Tryz.prog 21:=by
 intro w0 S
 refine Qc (Γ:=[(37,.pure QkF),(38,.pure Qai)]) (fun _=>noW) Tryz.func21 rfl (by kernel_rfl) Qd Qb (fun w S' _ _=>.cons (QlX w S') (.cons (Qmy w S') (.nil _ _ _))) QcN (fun s=>[(21,[(0,Qjn s)])]) (fun x0 h s x=>⟨rfl,trivial⟩) (fun s ρ w _ _ _=>Qm w _) [] (Qi 1) 400 ?_
 rintro⟨k,l,lo,m,c,nn,z⟩ w ⟨⟨h1,h6⟩,h2,h3,⟨h4,h5⟩,h7⟩ -
 refine⟨rfl,?_⟩
 dsimp only at h1 h6 h2 h3 h4 h5 h7
 refine Qj (q:=True/\bif bif decide ((1:Int)<=k/\k<=(6:Int))then false else true then endN QcN [] (Qi 1) (LgS.mk k l lo m c nn z) (SV.t [SA.a [nU 17 zF],SA.c (.v (.iface 78 (Value.int .i64 (1:Int))))]) [SB.rows 60 kI6 6 m c z,SB.cells [nU 17 zF] 62,SB.cells [nU 17 zF] 62]else List.length l<=c/\(∃(s0:Ann.σ (Qjn (LgS.mk k l lo m c nn z))),(eS (aI k) (aI k)/\eS (aP 1 0) (aP 1 0)/\eS (aP 2 0) (aP 2 0)/\eS (SA.c (.so 0 lo 6 (List.length l) c nn)) (SA.c (.so 0 lo 6 (List.length l) c nn))/\eS (aI (↑(List.length l):Int)) (aI (↑(List.length l):Int))/\eS (aI 0) (aI ↑s0.1)/\True)/\[SB.rows 60 kI6 6 m c z,SB.cells [nU 17 zF] 62,SB.cells [nU 17 zF] 62]=[SB.rows 60 kI6 6 m c z,SB.cells [nU 17 zF] 62,SB.cells [nU 17 (fL (lgC k l s0.1))] 62])/\∀(s:LgG (LgS.mk k l lo m c nn z)),bif decide ((↑s.1:Int)<(↑(List.length l):Int))then ((0:Int)<=(↑s.1:Int)/\(↑s.1:Int)<(↑(List.length l):Int)/\lo+List.length l<=c)/\lo+Int.toNat (↑s.1:Int)<m/\(17=17/\Qbl k (toN 17 (fL (lgC k l s.1))))/\bif opOk (z (lo+Int.toNat (↑s.1:Int)) 1) (z (lo+Int.toNat (↑s.1:Int)) 2) (z (lo+Int.toNat (↑s.1:Int)) 3)then bif bif bif (Prod.snd (objR k (toN 17 (fL (lgC k l s.1))) (z (lo+Int.toNat (↑s.1:Int)) 1) (z (lo+Int.toNat (↑s.1:Int)) 2) (z (lo+Int.toNat (↑s.1:Int)) 3))).1==z (lo+Int.toNat (↑s.1:Int)) 4 then bif (Prod.snd (objR k (toN 17 (fL (lgC k l s.1))) (z (lo+Int.toNat (↑s.1:Int)) 1) (z (lo+Int.toNat (↑s.1:Int)) 2) (z (lo+Int.toNat (↑s.1:Int)) 3))).2==z (lo+Int.toNat (↑s.1:Int)) 5 then true else false else false then false else true then endN QcN [] (Qi 1) (LgS.mk k l lo m c nn z) (SV.t [SA.a [nU 17 zF],SA.c (.i 97 6 0)]) [SB.rows 60 kI6 6 m c z,SB.cells [nU 17 zF] 62,SB.cells [nU 17 (fL (lgC k l s.1))] 62,SB.cells [sI (z (lo+Int.toNat (↑s.1:Int)) 0),sI (z (lo+Int.toNat (↑s.1:Int)) 1),sI (z (lo+Int.toNat (↑s.1:Int)) 2),sI (z (lo+Int.toNat (↑s.1:Int)) 3),sI (z (lo+Int.toNat (↑s.1:Int)) 4),sI (z (lo+Int.toNat (↑s.1:Int)) 5)] 60,SB.cells [nU 17 (fL (objR k (toN 17 (fL (lgC k l s.1))) (z (lo+Int.toNat (↑s.1:Int)) 1) (z (lo+Int.toNat (↑s.1:Int)) 2) (z (lo+Int.toNat (↑s.1:Int)) 3)).1)] 62,SB.cells [sI (Prod.snd (objR k (toN 17 (fL (lgC k l s.1))) (z (lo+Int.toNat (↑s.1:Int)) 1) (z (lo+Int.toNat (↑s.1:Int)) 2) (z (lo+Int.toNat (↑s.1:Int)) 3))).1,sI (Prod.snd (objR k (toN 17 (fL (lgC k l s.1))) (z (lo+Int.toNat (↑s.1:Int)) 1) (z (lo+Int.toNat (↑s.1:Int)) 2) (z (lo+Int.toNat (↑s.1:Int)) 3))).2] 40,SB.cells [sI 13,sI (↑s.1:Int)] 99]else ∃(s':LgG (LgS.mk k l lo m c nn z)),((eS (aI k) (aI k)/\eS (aP 1 0) (aP 1 0)/\eS (aP 2 0) (aP 2 0)/\eS (SA.c (.so 0 lo 6 (List.length l) c nn)) (SA.c (.so 0 lo 6 (List.length l) c nn))/\eS (aI (↑(List.length l):Int)) (aI (↑(List.length l):Int))/\eS (aI (IntKind.wrap .i64 ((↑s.1:Int)+(1:Int)))) (aI ↑s'.1)/\True)/\[SB.rows 60 kI6 6 m c z,SB.cells [nU 17 zF] 62,SB.cells [nU 17 (fL (objR k (toN 17 (fL (lgC k l s.1))) (z (lo+Int.toNat (↑s.1:Int)) 1) (z (lo+Int.toNat (↑s.1:Int)) 2) (z (lo+Int.toNat (↑s.1:Int)) 3)).1)] 62]=[SB.rows 60 kI6 6 m c z,SB.cells [nU 17 zF] 62,SB.cells [nU 17 (fL (lgC k l s'.1))] 62])/\List.length l-s'.1<List.length l-s.1 else endN QcN [] (Qi 1) (LgS.mk k l lo m c nn z) (SV.t [SA.a [nU 17 zF],SA.c (.i 97 6 0)]) [SB.rows 60 kI6 6 m c z,SB.cells [nU 17 zF] 62,SB.cells [nU 17 (fL (lgC k l s.1))] 62,SB.cells [sI (z (lo+Int.toNat (↑s.1:Int)) 0),sI (z (lo+Int.toNat (↑s.1:Int)) 1),sI (z (lo+Int.toNat (↑s.1:Int)) 2),sI (z (lo+Int.toNat (↑s.1:Int)) 3),sI (z (lo+Int.toNat (↑s.1:Int)) 4),sI (z (lo+Int.toNat (↑s.1:Int)) 5)] 60,SB.cells [nU 17 zF] 62,SB.cells [sI 0,sI 0] 40,SB.cells [sI 13,sI (↑s.1:Int)] 99]else endN QcN [] (Qi 1) (LgS.mk k l lo m c nn z) (SV.t [SA.a [nU 17 (fL (lgC k l s.1))],SA.c (.v Value.nilIface)]) [SB.rows 60 kI6 6 m c z,SB.cells [nU 17 (fL (lgC k l s.1))] 62,SB.cells [nU 17 (fL (lgC k l s.1))] 62]) (by kernel_rfl) ?_
 refine⟨trivial,Qiu (fun h=>absurd ⟨h1,h6⟩ h) (fun _=>⟨by omega,⟨⟨0,Nat.zero_le _⟩,⟨rfl,rfl,rfl,rfl,rfl,rfl,trivial⟩,?_⟩,?_⟩)⟩
 · rw[show (fL (lgC k l 0))=fun _=>0 from funext fun i=>QcH 17 i]
 rintro⟨i,hi⟩
 dsimp only at hi ⊢
 refine Qp (fun hlt=>?_) (fun hge=>?_)
 · have hi':i<l.length:=by omega
   have hok:=QoQ h1 h6 h2 i hi
   have e:toN 17 (fL (lgC k l i))=lgC k l i:=QaP (Xs hok)
   obtain⟨-,z1,z2,z3,z4,z5⟩:=h7 i hi'
   have hb:=h2 i hi'
   dsimp only at z1 z2 z3 z4 z5
   rw[Int.toNat_natCast,e,z1,z2,z3,z4,z5,hb.c,hb.v]
   exact⟨⟨by omega,by omega,by omega⟩,by omega,⟨rfl,hok⟩,QV (fun _=>Qab (fun h=>absurd h (by simp)) (fun _=>⟨⟨i+1,hi'⟩,⟨⟨rfl,rfl,rfl,rfl,rfl,svI (sucI (by omega)),trivial⟩,rfl⟩,by dsimp only;omega⟩)) (fun h=>absurd (hb.op.symm.trans h) (by decide))⟩
 · obtain rfl:i=l.length:=by omega
   exact⟨(),trivial,rfl,rfl⟩
end
section
open Go.RowKit Go.Extern.Stop Go.Stop Go.Extern
theorem Qf9 (t:Addr) (w:World):(ReflectliteValue.unpack (.iface 114 (.pointer (some t)))).run Tryz.prog w
 = .ok (.agg #[.pointer (some ⟨1,114,none⟩),.pointer (some ⟨w.heap.size,0,none⟩),.int .u64 150]) (w.alloc (.cells #[.pointer (some t)] 114)):=by kernel_rfl
theorem QmV (a:Addr) (w:World):(ReflectliteValue.methodAny (ReflectliteValue.valueError "reflectlite.Value.Type" 0) (fun t _ _ _=>ReflectliteType.toType t) #[.agg #[.pointer (some ⟨1,114,none⟩),.pointer (some a),.int .u64 150]]).run Tryz.prog w
 = .ok (.iface 178 (.agg #[.pointer (some ⟨1,114,none⟩)])) w:=by kernel_rfl
theorem Qev (h:Value) (w:World):(Go.method 328 178 (.agg #[h]) "Kind").run Tryz.prog w=.ok (117,h) w:=by kernel_rfl
theorem QmY (w:World):((ReflectliteType.abiMethod fun t=>(fun a:Nat=>Value.int IntKind.u8 (a:Int)) <$> Rtype.kind t) #[.pointer (some ⟨1,114,none⟩)]).run Tryz.prog w=.ok (.int .u8 22) w:=by kernel_rfl
theorem QmZ (w:World):((ReflectliteType.abiMethod fun t=>(fun a:Nat=>Value.int IntKind.u8 (a:Int)) <$> Rtype.kind t) #[.pointer (some ⟨1,78,none⟩)]).run Tryz.prog w=.ok (.int .u8 2) w:=by kernel_rfl
theorem rlm (z:Sem Value) (f:TypeId->Addr->Nat->Nat->Sem Value) (v:Value):
 ReflectliteValue.method z f #[v]=(do match <- ReflectliteValue.parts v with|none=>z|some (t,a,fl)=>f t a fl (fl%32)):=rfl
theorem Qji (a:Addr) (w:World):(ReflectliteValue.parts (.agg #[.pointer (some ⟨1,114,none⟩),.pointer (some a),.int .u64 150])).run Tryz.prog w=.ok (some (114,a,150)) w:=by kernel_rfl
theorem Qjj (a p:Addr) (W:World) (ha:W.cell? a=some (.pointer (some p))):
 (ReflectliteValue.method (ReflectliteValue.valueError "reflectlite.Value.IsNil" 0) ReflectliteValue.isNil #[.agg #[.pointer (some ⟨1,114,none⟩),.pointer (some a),.int .u64 150]]).run Tryz.prog W=.ok (.bool false) W:=by
 rw[rlm]
 simp only[Sem.run_bind,Qji,Result.andThen]
 simp[ReflectliteValue.isNil,loadVar,isAgg,underlying,Tryz.underlying114,ha,Result.andThen]
theorem Qew (h:Value) (w:World):(Go.method 328 178 (.agg #[h]) "Elem").run Tryz.prog w=.ok (131,.agg #[h]) w:=by kernel_rfl
theorem Qbu (h:Value) (w:World):(Go.method 328 178 (.agg #[h]) "Implements").run Tryz.prog w=.ok (132,.agg #[h]) w:=by kernel_rfl
theorem QaT (h:Value) (w:World):(Go.method 328 178 (.agg #[h]) "AssignableTo").run Tryz.prog w=.ok (129,.agg #[h]) w:=by kernel_rfl
theorem Qm1 (w:World):(ReflectliteType.method ReflectliteType.elem #[.agg #[.pointer (some ⟨1,114,none⟩)]]).run Tryz.prog w=.ok (.iface 178 (.agg #[.pointer (some ⟨1,78,none⟩)])) w:=by kernel_rfl
theorem QdQ (w:World):(ReflectliteType.relation "Implements" ReflectliteType.implements_ #[.agg #[.pointer (some ⟨1,78,none⟩)],.iface 178 (.agg #[.pointer (some ⟨1,49,none⟩)])]).run Tryz.prog w=.ok (.bool true) w:=by kernel_rfl
theorem QhR (v:Value) (w:World):(ReflectliteType.typeOf #[.iface 78 v]).run Tryz.prog w=.ok (.iface 178 (.agg #[.pointer (some ⟨1,78,none⟩)])) w:=by kernel_rfl
theorem QmW (v:Value) (w:World):(ReflectliteType.typeOf #[.iface 97 v]).run Tryz.prog w=.ok (.iface 178 (.agg #[.pointer (some ⟨1,97,none⟩)])) w:=by kernel_rfl
theorem QdR (w:World):(ReflectliteType.relation "AssignableTo" ReflectliteType.assignableTo #[.agg #[.pointer (some ⟨1,78,none⟩)],.iface 178 (.agg #[.pointer (some ⟨1,78,none⟩)])]).run Tryz.prog w=.ok (.bool true) w:=by kernel_rfl
theorem QgV (w:World):(ReflectliteType.relation "AssignableTo" ReflectliteType.assignableTo #[.agg #[.pointer (some ⟨1,97,none⟩)],.iface 178 (.agg #[.pointer (some ⟨1,78,none⟩)])]).run Tryz.prog w=.ok (.bool false) w:=by kernel_rfl
theorem Qga (e:Int) (w:World):(ReflectliteValue.unpack (.iface 78 (.int .i64 e))).run Tryz.prog w
 = .ok (.agg #[.pointer (some ⟨1,78,none⟩),.pointer (some ⟨w.heap.size,0,none⟩),.int .u64 130]) (w.alloc (.cells #[.int .i64 e] 78)):=by kernel_rfl
theorem Qm2 (w:World):(Rtype.elem? 114).run Tryz.prog w=.ok (some 78) w:=by kernel_rfl
theorem asMkE (p:Addr) (w:World):(ReflectliteValue.mk 78 p ReflectliteValue.flagAddr).run Tryz.prog w=.ok (.agg #[.pointer (some ⟨1,78,none⟩),.pointer (some p),.int .u64 386]) w:=by kernel_rfl
theorem Qm0 (a p:Addr) (W:World) (ha:W.cell? a=some (.pointer (some p))):
 (ReflectliteValue.method (ReflectliteValue.valueError "reflectlite.Value.Elem" 0) ReflectliteValue.elem #[.agg #[.pointer (some ⟨1,114,none⟩),.pointer (some a),.int .u64 150]]).run Tryz.prog W
  = .ok (.agg #[.pointer (some ⟨1,78,none⟩),.pointer (some p),.int .u64 386]) W:=by
 rw[rlm]
 simp only[Sem.run_bind,Qji,Result.andThen]
 simp[ReflectliteValue.elem,loadVar,isAgg,underlying,Tryz.underlying114,ha,Result.andThen,Qm2,asMkE]
theorem rls (v x:Value):ReflectliteValue.set #[v,x]=(do
 let (some (dst,a,fl),some (src,b,_)):=(<- ReflectliteValue.parts v,<- ReflectliteValue.parts x)
  |unsupported (.noEntry "extern/(internal/reflectlite.Value).Set.zeroValue")
 if fl/ReflectliteValue.flagAddr%2==0 then unsupported (.noEntry "extern/(internal/reflectlite.Value).Set.unaddressable")
 let val <- loadVar src b
 if <- Rtype.directlyAssignable dst src then storeVar dst a val
 else if <- Rtype.implements dst src then
  if (<- Rtype.kind src)==20 then
   match val with
   |.nilIface=>unsupported (.noEntry "extern/reflectlite: a nil value of one interface type handed on as a value of another")
   |_=>storeVar dst a val
  else storeVar dst a (.iface src val)
 else panicString ("reflectlite.Set: value of type " ++(<- Rtype.spelt src)++ " is not assignable to type " ++(<- Rtype.spelt dst))
 pure (.tuple #[])):=rfl
theorem QmX (a:Addr) (w:World):(ReflectliteValue.parts (.agg #[.pointer (some ⟨1,78,none⟩),.pointer (some a),.int .u64 386])).run Tryz.prog w=.ok (some (78,a,386)) w:=by kernel_rfl
theorem QoF (a:Addr) (w:World):(ReflectliteValue.parts (.agg #[.pointer (some ⟨1,78,none⟩),.pointer (some a),.int .u64 130])).run Tryz.prog w=.ok (some (78,a,130)) w:=by kernel_rfl
theorem Qm3 (w:World):(Rtype.directlyAssignable 78 78).run Tryz.prog w=.ok true w:=by kernel_rfl
theorem QoW (ta b:Addr) (e:Int) (old:Value) (W:World) (hb:W.cell? b=some (.int .i64 e)) (ht:W.cell? ta=some old) (hf:W.frozen? ta=false):
 (ReflectliteValue.set #[.agg #[.pointer (some ⟨1,78,none⟩),.pointer (some ta),.int .u64 386],.agg #[.pointer (some ⟨1,78,none⟩),.pointer (some b),.int .u64 130]]).run Tryz.prog W
  = .ok (.tuple #[]) (W.setCell ta (.int .i64 e)):=by
 rw[rls]
 simp only[Sem.run_bind,QmX,QoF,Result.andThen]
 simp[ReflectliteValue.flagAddr,loadVar,isAgg,underlying,Tryz.underlying78,hb,Result.andThen,Qm3,storeVar,Value.cells,storeCells,Addr.add]
 rw[run_store Tryz.prog W ta _ _ (by rfl)]
 simp[ht,hf]
def asW (w:World) (t:Addr):World:=((w.alloc (.cells #[.pointer (some t)] 114)).alloc (.cells #[.pointer (some ⟨1,114,none⟩),.pointer (some ⟨w.heap.size,0,none⟩),.int .u64 150] 151)).alloc (.cells #[.pointer (some ⟨1,114,none⟩),.pointer (some ⟨w.heap.size,0,none⟩),.int .u64 150] 151)
set_option maxHeartbeats 4000000 in
theorem QoE (e:Int) (t:Addr) (old:Value) (w:World) (hg:w.cell? ⟨0,0,none⟩=some (.iface 178 (.agg #[.pointer (some ⟨1,49,none⟩)]))) (ht0:w.cell? t=some old) (hf0:w.frozen? t=false):
 Calls Tryz.prog 50 #[.iface 78 (.int .i64 e),.iface 114 (.pointer (some t))] w fun ev w'=>ev=.returned (.bool true)/\w'=((asW w t).alloc (.cells #[.int .i64 e] 78)).setCell t (.int .i64 e):=by
 have h6:=@run_callFunc_extern Tryz.prog 71 _ (fun args=>ReflectliteValue.unpack (args.getD 0 (.tuple #[]))) Tryz.func71 (by kernel_rfl) (by kernel_rfl) (by kernel_rfl) (by kernel_rfl)
 have h7:=@run_callFunc_extern Tryz.prog 72 _ (ReflectliteValue.methodAny (ReflectliteValue.valueError "reflectlite.Value.Type" 0) (fun t _ _ _=>ReflectliteType.toType t)) Tryz.func72 (by kernel_rfl) (by kernel_rfl) (by kernel_rfl) (by kernel_rfl)
 have h8:=@run_callFunc_extern Tryz.prog 73 _ (ReflectliteValue.method (ReflectliteValue.valueError "reflectlite.Value.IsNil" 0) ReflectliteValue.isNil) Tryz.func73 (by kernel_rfl) (by kernel_rfl) (by kernel_rfl) (by kernel_rfl)
 have h27:=@run_callFunc_extern Tryz.prog 117 _ (ReflectliteType.abiMethod fun t=>do pure (.int .u8 (<- Rtype.kind t))) Tryz.func117 (by kernel_rfl) (by kernel_rfl) (by kernel_rfl) (by kernel_rfl)
 have h37:=@run_callFunc_extern Tryz.prog 131 _ (ReflectliteType.method ReflectliteType.elem) Tryz.func131 (by kernel_rfl) (by kernel_rfl) (by kernel_rfl) (by kernel_rfl)
 have h38:=@run_callFunc_extern Tryz.prog 132 _ (ReflectliteType.relation "Implements" ReflectliteType.implements_) Tryz.func132 (by kernel_rfl) (by kernel_rfl) (by kernel_rfl) (by kernel_rfl)
 have h10:=@run_callFunc_extern Tryz.prog 91 _ ReflectliteType.typeOf Tryz.func91 (by kernel_rfl) (by kernel_rfl) (by kernel_rfl) (by kernel_rfl)
 have h35:=@run_callFunc_extern Tryz.prog 129 _ (ReflectliteType.relation "AssignableTo" ReflectliteType.assignableTo) Tryz.func129 (by kernel_rfl) (by kernel_rfl) (by kernel_rfl) (by kernel_rfl)
 have h11:=@run_callFunc_extern Tryz.prog 92 _ (ReflectliteValue.method (ReflectliteValue.valueError "reflectlite.Value.Elem" 0) ReflectliteValue.elem) Tryz.func92 (by kernel_rfl) (by kernel_rfl) (by kernel_rfl) (by kernel_rfl)
 have h12:=@run_callFunc_extern Tryz.prog 93 _ ReflectliteValue.set Tryz.func93 (by kernel_rfl) (by kernel_rfl) (by kernel_rfl) (by kernel_rfl)
 have tO:=QhR
 have mA:=QaT
 have a25:=QdR
 have v25:=Qga
 have f6:=Qf9
 have f7:=QmV
 have mK:=Qev
 have mE:=Qew
 have mI:=Qbu
 have k27:=QmY
 have k25:=QmZ
 have e27:=Qm1
 have i25:=QdQ
 have n8:=Qjj ⟨w.heap.size,0,none⟩ t ((w.alloc (.cells #[.pointer (some t)] 114)).alloc (.cells #[.pointer (some ⟨1,114,none⟩),.pointer (some ⟨w.heap.size,0,none⟩),.int .u64 150] 151)) (by simp)
 have hlt:0<w.heap.size:=by
  rcases Nat.eq_zero_or_pos w.heap.size with h0|h
  · simp[World.cell?,h0]at hg
  · exact h
 have hg2:((w.alloc (.cells #[.pointer (some t)] 114)).alloc (.cells #[.pointer (some ⟨1,114,none⟩),.pointer (some ⟨w.heap.size,0,none⟩),.int .u64 150] 151)).cell? ⟨0,0,none⟩=some (.iface 178 (.agg #[.pointer (some ⟨1,49,none⟩)])):=by
  rw[World.cell?_alloc_lt _ _ ⟨0,0,none⟩ (by simp),World.cell?_alloc_lt _ _ ⟨0,0,none⟩ hlt];exact hg
 have htl:t.block<w.heap.size:=by
  rcases Nat.lt_or_ge t.block w.heap.size with h|h
  · exact h
  · simp[World.cell?,Array.getElem?_eq_none h]at ht0
 have el:=Qm0 ⟨w.heap.size,0,none⟩ t (asW w t) (by unfold asW;rw[World.cell?_alloc_lt _ _ ⟨w.heap.size,0,none⟩ (by simp;omega)];simp)
 have st:=QoW t ⟨w.heap.size+1+1+1,0,none⟩ e old ((asW w t).alloc (.cells #[.int .i64 e] 78))
  (by rw[World.cell?_alloc_at _ _ _ _ (by simp[asW])];rfl)
  (by unfold asW;rw[World.cell?_alloc_lt _ _ t (by simp;omega),World.cell?_alloc_lt _ _ t (by simp;omega),World.cell?_alloc_lt _ _ t (by simp;omega),World.cell?_alloc_lt _ _ t htl];exact ht0)
  (by unfold asW;rw[World.frozen?_alloc_old _ _ t (by simp;omega),World.frozen?_alloc_old _ _ t (by simp;omega),World.frozen?_alloc_old _ _ t (by simp;omega),World.frozen?_alloc_old _ _ t (Nat.ne_of_lt htl)];exact hf0)
 unfold asW at el st ⊢
 go_enter Tryz.func50,Tryz.ntmps50
 go_wp2
 refine wp_loop_rounds 1 ?_
 rw[rounds_succ]
 go_wp2
 go_ret
 exact⟨rfl,rfl⟩
theorem asNoAs (v:Value) (xT:TypeId) (w:World):(Instr.typeAssert (.iface 97 v) xT 183 true).run Tryz.prog w=.ok (.tuple #[.nilIface,.bool false]) w:=run_typeAssert_lacksB Tryz.underlying183 (by kernel_rfl) (by kernel_rfl) v xT w
theorem Qiy (v:Value) (xT:TypeId) (w:World):(Instr.typeAssert (.iface 97 v) xT 186 true).run Tryz.prog w=.ok (.tuple #[.iface 97 v,.bool true]) w:=run_typeAssert_hasB Tryz.underlying186 (by kernel_rfl) v xT w
theorem QfJ (h:Value) (w:World):(Go.method 328 97 h "Unwrap").run Tryz.prog w=.ok (124,h) w:=by kernel_rfl
set_option maxHeartbeats 4000000 in
theorem as_at (e:Int) (pb po:Nat) (t:Addr) (old:Value) (w:World) (hg:w.cell? ⟨0,0,none⟩=some (.iface 178 (.agg #[.pointer (some ⟨1,49,none⟩)]))) (ht0:w.cell? t=some old) (hf0:w.frozen? t=false) (hp:w.cell? ⟨pb,po,none⟩=some (.int .i64 e)):
 Calls Tryz.prog 50 #[.iface 97 (.pointer (some ⟨pb,po,none⟩)),.iface 114 (.pointer (some t))] w fun ev w'=>ev=.returned (.bool true)/\w'=((asW w t).alloc (.cells #[.int .i64 e] 78)).setCell t (.int .i64 e):=by
 have h6:=@run_callFunc_extern Tryz.prog 71 _ (fun args=>ReflectliteValue.unpack (args.getD 0 (.tuple #[]))) Tryz.func71 (by kernel_rfl) (by kernel_rfl) (by kernel_rfl) (by kernel_rfl)
 have h7:=@run_callFunc_extern Tryz.prog 72 _ (ReflectliteValue.methodAny (ReflectliteValue.valueError "reflectlite.Value.Type" 0) (fun t _ _ _=>ReflectliteType.toType t)) Tryz.func72 (by kernel_rfl) (by kernel_rfl) (by kernel_rfl) (by kernel_rfl)
 have h8:=@run_callFunc_extern Tryz.prog 73 _ (ReflectliteValue.method (ReflectliteValue.valueError "reflectlite.Value.IsNil" 0) ReflectliteValue.isNil) Tryz.func73 (by kernel_rfl) (by kernel_rfl) (by kernel_rfl) (by kernel_rfl)
 have h27:=@run_callFunc_extern Tryz.prog 117 _ (ReflectliteType.abiMethod fun t=>do pure (.int .u8 (<- Rtype.kind t))) Tryz.func117 (by kernel_rfl) (by kernel_rfl) (by kernel_rfl) (by kernel_rfl)
 have h37:=@run_callFunc_extern Tryz.prog 131 _ (ReflectliteType.method ReflectliteType.elem) Tryz.func131 (by kernel_rfl) (by kernel_rfl) (by kernel_rfl) (by kernel_rfl)
 have h38:=@run_callFunc_extern Tryz.prog 132 _ (ReflectliteType.relation "Implements" ReflectliteType.implements_) Tryz.func132 (by kernel_rfl) (by kernel_rfl) (by kernel_rfl) (by kernel_rfl)
 have h10:=@run_callFunc_extern Tryz.prog 91 _ ReflectliteType.typeOf Tryz.func91 (by kernel_rfl) (by kernel_rfl) (by kernel_rfl) (by kernel_rfl)
 have h35:=@run_callFunc_extern Tryz.prog 129 _ (ReflectliteType.relation "AssignableTo" ReflectliteType.assignableTo) Tryz.func129 (by kernel_rfl) (by kernel_rfl) (by kernel_rfl) (by kernel_rfl)
 have h11:=@run_callFunc_extern Tryz.prog 92 _ (ReflectliteValue.method (ReflectliteValue.valueError "reflectlite.Value.Elem" 0) ReflectliteValue.elem) Tryz.func92 (by kernel_rfl) (by kernel_rfl) (by kernel_rfl) (by kernel_rfl)
 have h12:=@run_callFunc_extern Tryz.prog 93 _ ReflectliteValue.set Tryz.func93 (by kernel_rfl) (by kernel_rfl) (by kernel_rfl) (by kernel_rfl)
 have tO:=QhR
 have tA:=QmW
 have a26:=QgV
 have nA:=asNoAs
 have hU:=Qiy
 have mU:=QfJ
 have mA:=QaT
 have a25:=QdR
 have v25:=Qga
 have f6:=Qf9
 have f7:=QmV
 have mK:=Qev
 have mE:=Qew
 have mI:=Qbu
 have k27:=QmY
 have k25:=QmZ
 have e27:=Qm1
 have i25:=QdQ
 have n8:=Qjj ⟨w.heap.size,0,none⟩ t ((w.alloc (.cells #[.pointer (some t)] 114)).alloc (.cells #[.pointer (some ⟨1,114,none⟩),.pointer (some ⟨w.heap.size,0,none⟩),.int .u64 150] 151)) (by simp)
 have hlt:0<w.heap.size:=by
  rcases Nat.eq_zero_or_pos w.heap.size with h0|h
  · simp[World.cell?,h0]at hg
  · exact h
 have hg2:((w.alloc (.cells #[.pointer (some t)] 114)).alloc (.cells #[.pointer (some ⟨1,114,none⟩),.pointer (some ⟨w.heap.size,0,none⟩),.int .u64 150] 151)).cell? ⟨0,0,none⟩=some (.iface 178 (.agg #[.pointer (some ⟨1,49,none⟩)])):=by
  rw[World.cell?_alloc_lt _ _ ⟨0,0,none⟩ (by simp),World.cell?_alloc_lt _ _ ⟨0,0,none⟩ hlt];exact hg
 have htl:t.block<w.heap.size:=by
  rcases Nat.lt_or_ge t.block w.heap.size with h|h
  · exact h
  · simp[World.cell?,Array.getElem?_eq_none h]at ht0
 have el:=Qm0 ⟨w.heap.size,0,none⟩ t (asW w t) (by unfold asW;rw[World.cell?_alloc_lt _ _ ⟨w.heap.size,0,none⟩ (by simp;omega)];simp)
 have st:=QoW t ⟨w.heap.size+1+1+1,0,none⟩ e old ((asW w t).alloc (.cells #[.int .i64 e] 78))
  (by rw[World.cell?_alloc_at _ _ _ _ (by simp[asW])];rfl)
  (by unfold asW;rw[World.cell?_alloc_lt _ _ t (by simp;omega),World.cell?_alloc_lt _ _ t (by simp;omega),World.cell?_alloc_lt _ _ t (by simp;omega),World.cell?_alloc_lt _ _ t htl];exact ht0)
  (by unfold asW;rw[World.frozen?_alloc_old _ _ t (by simp;omega),World.frozen?_alloc_old _ _ t (by simp;omega),World.frozen?_alloc_old _ _ t (by simp;omega),World.frozen?_alloc_old _ _ t (Nat.ne_of_lt htl)];exact hf0)
 have hpl:pb<w.heap.size:=by
  rcases Nat.lt_or_ge pb w.heap.size with h|h
  · exact h
  · simp[World.cell?,Array.getElem?_eq_none h]at hp
 have hp2:(asW w t).cell? ⟨pb,po,none⟩=some (.int .i64 e):=by
  unfold asW;rw[World.cell?_alloc_lt _ _ ⟨pb,po,none⟩ (by simp;omega),World.cell?_alloc_lt _ _ ⟨pb,po,none⟩ (by simp;omega),World.cell?_alloc_lt _ _ ⟨pb,po,none⟩ hpl];exact hp
 unfold asW at el st hp2 ⊢
 go_enter Tryz.func50,Tryz.ntmps50
 go_wp2
 refine wp_loop_rounds 2 ?_
 rw[rounds_succ]
 go_wp2
 rw[rounds_succ]
 go_wp2
 go_ret
 exact⟨rfl,rfl⟩
end
section
open Go.ChangeShapes Go.WideShapes Go.RowKit
theorem lOwn:ownKnob Tryz.prog.godebug=none:=by kernel_rfl
theorem lEt:Tryz.prog.globalNamed "errors.errorType" =some 0:=by kernel_rfl
theorem lRt:(Tryz.prog.cutTypes.find? (·.1 == "internal/reflectlite.rtype")).map (·.2)=some 178:=by kernel_rfl
theorem lSize:Tryz.prog.types.size=228:=by kernel_rfl
theorem lRow:((List.range 228).filter fun t=>Tryz.prog.rowNamed t [101,114,114,111,114])=[49]:=by kernel_rfl
abbrev laidL:List (String × DataW Unit):=[("errors.errorType",Rows.laid_errors_errorType)]
abbrev ErrType (W:World):Prop:=W.cell? ⟨0,0,none⟩=some (.iface 178 (.agg #[.pointer (some ⟨1,49,none⟩)]))
theorem handle_of_laid {W:World}(h:laidMetH Tryz.prog laidL W):ErrType W:=by
 have h':laidMet Tryz.prog [] W/\handlesMet Tryz.prog laidL W:=h
 obtain⟨name,u,ty,e1,e2,e3,e4,e5⟩:=h'.2 _ (List.mem_singleton.2 rfl)
 have en:name=[101,114,114,111,114]:=(Option.some.inj e1).symm
 subst en
 obtain rfl:=Option.some.inj (lRt.symm.trans e2)
 have hm:ty∈(List.range 228).filter fun t=>Tryz.prog.rowNamed t [101,114,114,111,114]:=List.mem_filter.2 ⟨List.mem_range.2 (by rw[<- lSize];exact e3),e4⟩
 rw[lRow]at hm
 obtain rfl:=List.mem_singleton.1 hm
 have hh:typeHandle Tryz.prog 49=.pointer (some ⟨1,49,none⟩):=by kernel_rfl
 rw[hh]at e5
 simpa using World.var?_cell lEt e5 0
noncomputable def laidWorld (os:Os):World:=
 let w0:=World.holding Tryz.prog os ⟨#[],#[],[]⟩
 { w0 with heap:=w0.heap.modify 0 fun
  |.cells _ t frozen=>.cells #[.iface 178 (.agg #[.pointer (some ⟨1,49,none⟩)])] t frozen
  |o=>o }
theorem laidWorld_met (os:Os) (args:Array Value):laidMetH Tryz.prog laidL ((laidWorld os).forCall (fun _ _=>0) ⟨#[],args,[]⟩).memory:=
 laidMetH_of_parts (laidMet_nil _ _) (by kernel_rfl)
end
section
open Go.RowKit
theorem QmU (w:World) (t:Addr):Below w.heap.size w (asW w t):=(((Below.refl _ _).alloc (Nat.le_refl _) _).alloc (by simp) _).alloc (by simp;omega) _
theorem Qo6 (v:Value) (e:Int) (w:World) (hg:ErrType w) (hv:v=.iface 78 (.int .i64 e)\/∃pb po,v=.iface 97 (.pointer (some ⟨pb,po,none⟩))/\w.cell? ⟨pb,po,none⟩=some (.int .i64 e)):
 Calls Tryz.prog 35 #[v] w fun ev w'=>ev=.returned (.int .i64 e)/\Below w.heap.size w w':=by
 have hlt:0<w.heap.size:=by
  rcases Nat.eq_zero_or_pos w.heap.size with h0|h
  · simp[ErrType,World.cell?,h0]at hg
  · exact h
 have hg1:(w.alloc (.cells #[.int .i64 0] 78)).cell? ⟨0,0,none⟩=some (.iface 178 (.agg #[.pointer (some ⟨1,49,none⟩)])):=by
  rw[World.cell?_alloc_lt _ _ ⟨0,0,none⟩ hlt];exact hg
 have ht1:(w.alloc (.cells #[.int .i64 0] 78)).cell? ⟨w.heap.size,0,none⟩=some (.int .i64 0):=by simp
 have hf1:(w.alloc (.cells #[.int .i64 0] 78)).frozen? ⟨w.heap.size,0,none⟩=false:=by simp
 have hc:Calls Tryz.prog 50 #[v,.iface 114 (.pointer (some ⟨w.heap.size,0,none⟩))] (w.alloc (.cells #[.int .i64 0] 78)) fun ev w'=>ev=.returned (.bool true)/\w'.cell? ⟨w.heap.size,0,none⟩=some (.int .i64 e)/\Below w.heap.size w w':=by
  have fin:∀w',w'=((asW (w.alloc (.cells #[.int .i64 0] 78)) ⟨w.heap.size,0,none⟩).alloc (.cells #[.int .i64 e] 78)).setCell ⟨w.heap.size,0,none⟩ (.int .i64 e)->w'.cell? ⟨w.heap.size,0,none⟩=some (.int .i64 e)/\Below w.heap.size w w':=by
   rintro w' rfl
   refine⟨World.cell?_setCell_same _ _ _ (u:=.int .i64 0) ?_,?_⟩
   · unfold asW
     rw[World.cell?_alloc_lt _ _ ⟨w.heap.size,0,none⟩ (by simp;omega),World.cell?_alloc_lt _ _ ⟨w.heap.size,0,none⟩ (by simp;omega),World.cell?_alloc_lt _ _ ⟨w.heap.size,0,none⟩ (by simp;omega),World.cell?_alloc_lt _ _ ⟨w.heap.size,0,none⟩ (by simp)]
     exact ht1
   · have b1:Below w.heap.size w (asW (w.alloc (.cells #[.int .i64 0] 78)) ⟨w.heap.size,0,none⟩):=((Below.refl _ _).alloc (Nat.le_refl _) _).trans ((QmU _ _).mono (by simp))
     exact Below.setCell (b1.alloc (by simp[asW];omega) _) (p:=⟨w.heap.size,0,none⟩) (Nat.le_refl w.heap.size) _
  rcases hv with rfl|⟨pb,po,rfl,hp⟩
  · exact (QoE e _ _ _ hg1 ht1 hf1).mono fun ev w' ⟨h1,h2⟩=>⟨h1,fin w' h2⟩
  · refine (as_at e pb po _ _ _ hg1 ht1 hf1 ?_).mono fun ev w' ⟨h1,h2⟩=>⟨h1,fin w' h2⟩
    rw[World.cell?_alloc_lt _ _ ⟨pb,po,none⟩ (by
     show pb<w.heap.size
     rcases Nat.lt_or_ge pb w.heap.size with h|h
     · exact h
     · simp[World.cell?,Array.getElem?_eq_none h]at hp)]
    exact hp
 have hn:∃t u,v=.iface t u:=by
  rcases hv with rfl|⟨pb,po,rfl,-⟩
  · exact⟨_,_,rfl⟩
  · exact⟨_,_,rfl⟩
 clear hv
 obtain⟨ty,u,rfl⟩:=hn
 go_enter Tryz.func35,Tryz.ntmps35
 go_wp2_with (go_at_call 50;refine hc.mono ?_;rintro e w' ⟨rfl,hcell,hbel⟩)
 go_ret
 exact⟨rfl,hbel⟩
inductive TellS where
 |no (e:Int)
 |at (e p:Int)
def TellS.e:TellS->Int
 |.no e=>e
 |.at e _=>e
def QgI:RCon where
 σ:=TellS
 χ:=Unit
 pre _:=True
 args s:=match s with
  |.no e=>[.c (.v (.iface 78 (.int .i64 e)))]
  |.at _ _=>[.c (.i 97 0 0)]
 mem s:=match s with
  |.no _=>[]
  |.at e p=>[.cells [.one (.v (.int .i64 e)),.one (.v (.int .i64 p))] 99]
 ok _ _:=True
 val s _:=sv (.int .i64 s.e)
 new _ _:=[]
 len:=0
 det:=some ()
 find args M:=match args with
  |[.c (.i _ b _)]=>some [b]
  |_=>some []
theorem Qni (W:World) (hE:ErrType W):(Con.rd QgI).holdsAt Tryz.prog W (fun _=>False) 35:=by
 refine⟨by kernel_rfl,fun x0 h s x=>⟨rfl,trivial⟩,fun ρ s w _ hK hM=>?_⟩
 have hlt:0<W.heap.size:=by
  rcases Nat.eq_zero_or_pos W.heap.size with h0|h
  · simp[ErrType,World.cell?,h0]at hE
  · exact h
 have hg:ErrType w:=(hK.cell hlt (fun h=>h)).trans hE
 have key:∀v:Value,(v=.iface 78 (.int .i64 s.e)\/∃pb po,v=.iface 97 (.pointer (some ⟨pb,po,none⟩))/\w.cell? ⟨pb,po,none⟩=some (.int .i64 s.e))->Calls Tryz.prog 35 #[v] w fun e w'=>∃(x:Unit) (ρ':Nat->Nat),True/\(∀i,i<(QgI.mem s).length->ρ' i=ρ i)/\0=0/\e=.returned ((QgI.val s x).den ρ')/\Mem w (fun _=>False) [] w':=fun v hv=>by
  refine (Qo6 v s.e w hg hv).mono fun e w' ⟨h1,h2⟩=>⟨(),ρ,trivial,fun _ _=>rfl,rfl,h1,⟨(Kept.refl _ w).trans (Kept.of_below h2),by simp,by simp,List.Pairwise.nil⟩⟩
 cases s with
 |no e=>exact key _ (.inl rfl)
 | «at» e p=>
   have h0:(En.blk (ρ 0) [.int .i64 e,.int .i64 p] 99).at w:=hM _ (List.mem_singleton.2 rfl)
   exact key _ (.inr ⟨ρ 0,0,rfl,Blk.cell h0 0⟩)
abbrev rowsE (m c:Nat) (z:Nat->Nat->Int):SB:=.rows 90 [.int .i64,.int .i64,.int .i64,.int .i64,.int .i64,.int .i64,.int .i64,.int .i64,.int .i64] 9 m c z
abbrev rowsJ (m c:Nat) (z:Nat->Nat->Int):SB:=.rows 60 [.int .i64,.int .i64,.int .i64,.int .i64,.int .i64,.int .i64] 6 m c z
def evL:List (List Int):=[[1,0,1,0,3,0,0,0,0],[2,0,1,0,3,1,0,1,0]]
def deL:List (List Int):=[[0,1,0,3,1,0],[1,2,0,0,1,3]]
def QdJ:RCon where
 σ:=Unit
 χ:=Unit
 pre _:=True
 args _:=[.c (.so 0 0 9 2 2 true),.c (.so 1 0 6 1 2 true)]
 mem _:=[rowsE 2 2 (zOf evL),rowsJ 2 2 (zOf deL)]
 ok _ _:=True
 val _ _:=.o (.c (.v .nilIface))
 new _ _:=[]
 len:=0
 det:=some ()
 find args M:=match args with
  |[.c (.so b _ _ _ _ _),.c (.so d _ _ _ _ _)]=>some [b,d]
  |_=>none
def QdI:RCon where
 σ:=Unit
 χ:=Unit
 pre _:=True
 args _:=[.c (.so 0 0 9 2 2 true),.c (.v (.slice none 0 0))]
 mem _:=[rowsE 2 2 (zOf evL)]
 ok _ _:=True
 val _ _:=.o (.c (.v (.iface 78 (.int .i64 7))))
 new _ _:=[]
 len:=0
 det:=some ()
 find args M:=match args with
  |[.c (.so b _ _ _ _ _),.c (.v _)]=>some [b]
  |_=>none
theorem Qmm:(Con.rd QdI).holds Tryz.prog 36:=by
 intro w0 S
 refine Qdo (AG:=[]) (Γ:=[(51,.inl Tryz.f51 (Tryz.f51.body.getD .skip))]) Tryz.func36 rfl (by kernel_rfl) Qd Qb (fun _ _=>.cons ⟨by kernel_rfl,Tryz.func51,rfl⟩ (.nil _ _ _)) QdI (fun x0 h s x=>⟨rfl,trivial⟩) [] (fun _ _=>[]) 2000 ?_
 rintro⟨⟩ ρ w - - hM
 have hE:RowAt w (ρ 0) 90 9 2 2 (QE (ckAt [.int .i64,.int .i64,.int .i64,.int .i64,.int .i64,.int .i64,.int .i64,.int .i64,.int .i64]) 9 (zOf evL) 2):=hM _ (List.mem_singleton.2 rfl)
 obtain⟨a,c',e1,hr,ha,hnc⟩:=Qgf (b:=0) (lo:=0) (n:=2) (nn:=true) (kf:=fun _=>.i64) hE rfl rfl (Nat.le_refl _)
 refine⟨[.c (.r a 2 c' 2 9 (fun _=>.i64) (fun i=>zOf evL (0+i))),.c (.v (.slice none 0 0))],by simp only[QdI,List.map_cons,List.map_nil,SA.den,e1];rfl,rfl,?_⟩
 refine Qj (q:=((Rws 9 (fun (x:Nat)=>.i64) w a 2 c' fun (i j:Nat)=>match List.get?Internal (match List.get?Internal [[(1:Int),(0:Int),(1:Int),(0:Int),(3:Int),(0:Int),(0:Int),(0:Int),(0:Int)],[(2:Int),(0:Int),(1:Int),(0:Int),(3:Int),(1:Int),(0:Int),(1:Int),(0:Int)]] (0+i)with|some x=>x|none=>[]) j with|some x=>x|none=>(0:Int))/\(0:Int)<=(0:Int)/\(0:Int)<(2:Int)/\0<2)/\((Rws 9 (fun (x:Nat)=>.i64) w a 2 c' fun (i j:Nat)=>match List.get?Internal (match List.get?Internal [[(1:Int),(0:Int),(1:Int),(0:Int),(3:Int),(0:Int),(0:Int),(0:Int),(0:Int)],[(2:Int),(0:Int),(1:Int),(0:Int),(3:Int),(1:Int),(0:Int),(1:Int),(0:Int)]] (0+i)with|some x=>x|none=>[]) j with|some x=>x|none=>(0:Int))/\0<2)/\false=false/\(True/\(1<=1/\1=1)/\1<=68719476736)/\∀(c:Nat),1<=c->((Rws 9 (fun (x:Nat)=>.i64) w a 2 c' fun (i j:Nat)=>match List.get?Internal (match List.get?Internal [[(1:Int),(0:Int),(1:Int),(0:Int),(3:Int),(0:Int),(0:Int),(0:Int),(0:Int)],[(2:Int),(0:Int),(1:Int),(0:Int),(3:Int),(1:Int),(0:Int),(1:Int),(0:Int)]] (0+i)with|some x=>x|none=>[]) j with|some x=>x|none=>(0:Int))/\(0:Int)<=(1:Int)/\(1:Int)<(2:Int)/\1<2)/\((Rws 9 (fun (x:Nat)=>.i64) w a 2 c' fun (i j:Nat)=>match List.get?Internal (match List.get?Internal [[(1:Int),(0:Int),(1:Int),(0:Int),(3:Int),(0:Int),(0:Int),(0:Int),(0:Int)],[(2:Int),(0:Int),(1:Int),(0:Int),(3:Int),(1:Int),(0:Int),(1:Int),(0:Int)]] (0+i)with|some x=>x|none=>[]) j with|some x=>x|none=>(0:Int))/\1<2)/\((0:Int)<=(0:Int)/\(0:Int)<(1:Int)/\1<=c)/\0<1/\dP Tryz.f51 16 7 [xE 11,xE 10,xR 9 5,xF 8 5,xR 7 4,xF 6 4,xF 5 4,xE 4,xF 3 4,xE 2,xE 1,xE 0]/\((0:Int)<=(0:Int)/\(0:Int)<(1:Int)/\1<=c)/\0<1/\((0:Int)<=(0:Int)/\(0:Int)<(1:Int)/\1<=c)/\0<1/\((0:Int)<=(0:Int)/\(0:Int)<(1:Int)/\1<=c)/\0<1/\dP Tryz.f51 18 7 [⟨20,[],[4],[],false⟩,xF 19 4,xF 18 4,⟨17,[],[4],[],false⟩,xF 16 4,xF 15 4,⟨14,[],[4],[],false⟩,xF 13 4,xF 12 4,xR 11 5,xF 10 5,xR 9 5,xF 8 5,xE 7,xE 6,xE 5,xF 4 4,xE 3,xF 2 4,xE 1,xF 0 4]/\true=true/\((0:Int)<=(0:Int)/\(0:Int)=(0:Int)/\(0:Int)<=(68719476736:Int))/\1<=c/\((0:Int)<=(0:Int)/\(0:Int)<(1:Int)/\1<=c)/\0<1/\endD QdI [] (fun (x:SV) (x_1:List SB)=>[]) PUnit.unit (SV.o (SA.c (.v (.iface 78 (Value.int .i64 (7:Int)))))) [SB.mf (fun (x:Int)=>bif x==(0:Int)then false else bif x==(0:Int)then true else false) fun (x:Int)=>bif x==(0:Int)then (0:Int)else (0:Int),SB.cells [sI 1,sI 0,sI 1,sI 0,sI 3,sI 0,sI 0,sI 0,sI 0] 90,SB.cells [sI 10,sI 0] 99,SB.rows 120 kI9 9 1 1 fun (i j:Nat)=>match List.get?Internal (match List.get?Internal [[(0:Int),(1:Int),(0:Int),(3:Int),(1:Int),(0:Int),(0:Int),(0:Int),(0:Int)]] i with|some x=>x|none=>[]) j with|some x=>x|none=>(0:Int),SB.rows 120 kI9 9 1 c fun (i j:Nat)=>bif match Nat.beq i 0 with|false=>false|true=>match Nat.ble 7 j with|false=>false|true=>Nat.ble j 8 then match List.get?Internal [(1:Int),(0:Int)] (match match match match match match match j with|0=>0|Nat.succ a=>a with|0=>0|Nat.succ a=>a with|0=>0|Nat.succ a=>a with|0=>0|Nat.succ a=>a with|0=>0|Nat.succ a=>a with|0=>0|Nat.succ a=>a with|0=>0|Nat.succ a=>a)with|some x=>x|none=>(0:Int)else bif match Nat.beq i 0 with|false=>false|true=>match Nat.ble 6 j with|false=>false|true=>Nat.ble j 6 then match List.get?Internal [(1:Int)] (match match match match match match j with|0=>0|Nat.succ a=>a with|0=>0|Nat.succ a=>a with|0=>0|Nat.succ a=>a with|0=>0|Nat.succ a=>a with|0=>0|Nat.succ a=>a with|0=>0|Nat.succ a=>a)with|some x=>x|none=>(0:Int)else bif match Nat.beq i 0 with|false=>false|true=>match Nat.ble 5 j with|false=>false|true=>Nat.ble j 5 then match List.get?Internal [(2:Int)] (match match match match match j with|0=>0|Nat.succ a=>a with|0=>0|Nat.succ a=>a with|0=>0|Nat.succ a=>a with|0=>0|Nat.succ a=>a with|0=>0|Nat.succ a=>a)with|some x=>x|none=>(0:Int)else match List.get?Internal (match List.get?Internal [[(0:Int),(1:Int),(0:Int),(3:Int),(1:Int),(0:Int),(0:Int),(0:Int),(0:Int)]] (0+i)with|some x=>x|none=>[]) j with|some x=>x|none=>(0:Int),SB.cells [sI 2,sI 0,sI 1,sI 0,sI 3,sI 1,sI 0,sI 1,sI 0] 90,SB.cells [sI 10,sI 1] 99,SB.rows 3 [.int .i64] 1 0 0 fun (x x_1:Nat)=>(0:Int),SB.cells [sI 0,sI 1,sI 0,sI 3,sI 1,sI 2,sI 1,sI 1,sI 0] 120]) (by kernel_rfl) ?_
 refine⟨⟨Qj (q:=Rws 9 (fun _=>.i64) w a 2 c' (fun i=>zOf evL (0+i))) (by kernel_rfl) hr,by decide,by decide,by decide⟩,⟨Qj (q:=Rws 9 (fun _=>.i64) w a 2 c' (fun i=>zOf evL (0+i))) (by kernel_rfl) hr,by decide⟩,?_⟩
 first
  |refine⟨⟨trivial,⟨Nat.le_refl _,rfl⟩,by decide⟩,fun c hc=>?_⟩
  |refine⟨rfl,⟨trivial,⟨Nat.le_refl _,rfl⟩,by decide⟩,fun c hc=>?_⟩
 repeat' (first|(show Rws 9 (fun _=>.i64) w a 2 c' _;exact Qj (q:=Rws 9 (fun _=>.i64) w a 2 c' (fun i=>zOf evL (0+i))) (by kernel_rfl) hr)|exact (rfl:false=false)|exact Qk (by kernel_rfl)|exact hc|omega|refine And.intro ?_ ?_)
 all_goals first|exact⟨(),trivial,rfl,rfl⟩|kernel_rfl
theorem Qmn:(Con.rd QdJ).holds Tryz.prog 36:=by
 intro w0 S
 refine Qdo (AG:=[]) (Γ:=[(51,.inl Tryz.f51 (Tryz.f51.body.getD .skip))]) Tryz.func36 rfl (by kernel_rfl) Qd Qb (fun _ _=>.cons ⟨by kernel_rfl,Tryz.func51,rfl⟩ (.nil _ _ _)) QdJ (fun x0 h s x=>⟨rfl,trivial⟩) [] (fun _ _=>[]) 2000 ?_
 rintro⟨⟩ ρ w - - hM
 have hE:RowAt w (ρ 0) 90 9 2 2 (QE (ckAt [.int .i64,.int .i64,.int .i64,.int .i64,.int .i64,.int .i64,.int .i64,.int .i64,.int .i64]) 9 (zOf evL) 2):=hM _ List.mem_cons_self
 have hD:RowAt w (ρ 1) 60 6 2 2 (QE (ckAt [.int .i64,.int .i64,.int .i64,.int .i64,.int .i64,.int .i64]) 6 (zOf deL) 2):=hM _ (List.mem_cons_of_mem _ List.mem_cons_self)
 obtain⟨a2,c2,e2,hr2,ha2,hnc2⟩:=Qgf (b:=1) (lo:=0) (n:=1) (nn:=true) (kf:=fun _=>.i64) hD rfl rfl (by decide)
 obtain⟨a,c',e1,hr,ha,hnc⟩:=Qgf (b:=0) (lo:=0) (n:=2) (nn:=true) (kf:=fun _=>.i64) hE rfl rfl (Nat.le_refl _)
 refine⟨[.c (.r a 2 c' 2 9 (fun _=>.i64) (fun i=>zOf evL (0+i))),.c (.r a2 1 c2 1 6 (fun _=>.i64) (fun i=>zOf deL (0+i)))],by simp only[QdJ,List.map_cons,List.map_nil,SA.den,e1,e2];rfl,rfl,?_⟩
 refine Qj (q:=((Rws 9 (fun (x:Nat)=>.i64) w a 2 c' fun (i j:Nat)=>match List.get?Internal (match List.get?Internal [[(1:Int),(0:Int),(1:Int),(0:Int),(3:Int),(0:Int),(0:Int),(0:Int),(0:Int)],[(2:Int),(0:Int),(1:Int),(0:Int),(3:Int),(1:Int),(0:Int),(1:Int),(0:Int)]] (0+i)with|some x=>x|none=>[]) j with|some x=>x|none=>(0:Int))/\(0:Int)<=(0:Int)/\(0:Int)<(2:Int)/\0<2)/\((Rws 9 (fun (x:Nat)=>.i64) w a 2 c' fun (i j:Nat)=>match List.get?Internal (match List.get?Internal [[(1:Int),(0:Int),(1:Int),(0:Int),(3:Int),(0:Int),(0:Int),(0:Int),(0:Int)],[(2:Int),(0:Int),(1:Int),(0:Int),(3:Int),(1:Int),(0:Int),(1:Int),(0:Int)]] (0+i)with|some x=>x|none=>[]) j with|some x=>x|none=>(0:Int))/\0<2)/\false=false/\(True/\(1<=1/\1=1)/\1<=68719476736)/\∀(c:Nat),1<=c->((Rws 9 (fun (x:Nat)=>.i64) w a 2 c' fun (i j:Nat)=>match List.get?Internal (match List.get?Internal [[(1:Int),(0:Int),(1:Int),(0:Int),(3:Int),(0:Int),(0:Int),(0:Int),(0:Int)],[(2:Int),(0:Int),(1:Int),(0:Int),(3:Int),(1:Int),(0:Int),(1:Int),(0:Int)]] (0+i)with|some x=>x|none=>[]) j with|some x=>x|none=>(0:Int))/\(0:Int)<=(1:Int)/\(1:Int)<(2:Int)/\1<2)/\((Rws 9 (fun (x:Nat)=>.i64) w a 2 c' fun (i j:Nat)=>match List.get?Internal (match List.get?Internal [[(1:Int),(0:Int),(1:Int),(0:Int),(3:Int),(0:Int),(0:Int),(0:Int),(0:Int)],[(2:Int),(0:Int),(1:Int),(0:Int),(3:Int),(1:Int),(0:Int),(1:Int),(0:Int)]] (0+i)with|some x=>x|none=>[]) j with|some x=>x|none=>(0:Int))/\1<2)/\((0:Int)<=(0:Int)/\(0:Int)<(1:Int)/\1<=c)/\0<1/\dP Tryz.f51 16 7 [xE 11,xE 10,xR 9 5,xF 8 5,xR 7 4,xF 6 4,xF 5 4,xE 4,xF 3 4,xE 2,xE 1,xE 0]/\((0:Int)<=(0:Int)/\(0:Int)<(1:Int)/\1<=c)/\0<1/\((0:Int)<=(0:Int)/\(0:Int)<(1:Int)/\1<=c)/\0<1/\((0:Int)<=(0:Int)/\(0:Int)<(1:Int)/\1<=c)/\0<1/\dP Tryz.f51 18 7 [⟨20,[],[4],[],false⟩,xF 19 4,xF 18 4,⟨17,[],[4],[],false⟩,xF 16 4,xF 15 4,⟨14,[],[4],[],false⟩,xF 13 4,xF 12 4,xR 11 5,xF 10 5,xR 9 5,xF 8 5,xE 7,xE 6,xE 5,xF 4 4,xE 3,xF 2 4,xE 1,xF 0 4]/\true=true/\((0:Int)<=(1:Int)/\(1:Int)=(1:Int)/\(1:Int)<=(68719476736:Int))/\1<=c/\((0:Int)<=(0:Int)/\(0:Int)<(1:Int)/\1<=c)/\0<1/\((Rws 6 (fun (x:Nat)=>.i64) w a2 1 c2 fun (i j:Nat)=>match List.get?Internal (match List.get?Internal [[(0:Int),(1:Int),(0:Int),(3:Int),(1:Int),(0:Int)],[(1:Int),(2:Int),(0:Int),(0:Int),(1:Int),(3:Int)]] (0+i)with|some x=>x|none=>[]) j with|some x=>x|none=>(0:Int))/\(0:Int)<=(0:Int)/\(0:Int)<(1:Int)/\0<1)/\((Rws 6 (fun (x:Nat)=>.i64) w a2 1 c2 fun (i j:Nat)=>match List.get?Internal (match List.get?Internal [[(0:Int),(1:Int),(0:Int),(3:Int),(1:Int),(0:Int)],[(1:Int),(2:Int),(0:Int),(0:Int),(1:Int),(3:Int)]] (0+i)with|some x=>x|none=>[]) j with|some x=>x|none=>(0:Int))/\0<1)/\((0:Int)<=(0:Int)/\(0:Int)<(1:Int)/\1<=1)/\0<1/\((0:Int)<=(0:Int)/\(0:Int)<(1:Int)/\1<=1)/\0<1/\((Rws 6 (fun (x:Nat)=>.i64) w a2 1 c2 fun (i j:Nat)=>match List.get?Internal (match List.get?Internal [[(0:Int),(1:Int),(0:Int),(3:Int),(1:Int),(0:Int)],[(1:Int),(2:Int),(0:Int),(0:Int),(1:Int),(3:Int)]] (0+i)with|some x=>x|none=>[]) j with|some x=>x|none=>(0:Int))/\(0:Int)<=(0:Int)/\(0:Int)<(1:Int)/\0<1)/\((Rws 6 (fun (x:Nat)=>.i64) w a2 1 c2 fun (i j:Nat)=>match List.get?Internal (match List.get?Internal [[(0:Int),(1:Int),(0:Int),(3:Int),(1:Int),(0:Int)],[(1:Int),(2:Int),(0:Int),(0:Int),(1:Int),(3:Int)]] (0+i)with|some x=>x|none=>[]) j with|some x=>x|none=>(0:Int))/\0<1)/\((0:Int)<=(0:Int)/\(0:Int)<(1:Int)/\1<=1)/\0<1/\1<=1/\endD QdJ [] (fun (x:SV) (x_1:List SB)=>[]) PUnit.unit (SV.o (SA.c (.v Value.nilIface))) [SB.mf (fun (x:Int)=>bif x==(0:Int)then false else bif x==(0:Int)then true else false) fun (x:Int)=>bif x==(0:Int)then (0:Int)else (0:Int),SB.cells [sI 1,sI 0,sI 1,sI 0,sI 3,sI 0,sI 0,sI 0,sI 0] 90,SB.cells [sI 10,sI 0] 99,SB.rows 120 kI9 9 1 1 fun (i j:Nat)=>match List.get?Internal (match List.get?Internal [[(0:Int),(1:Int),(0:Int),(3:Int),(1:Int),(0:Int),(0:Int),(0:Int),(0:Int)]] i with|some x=>x|none=>[]) j with|some x=>x|none=>(0:Int),SB.rows 120 kI9 9 1 c fun (i j:Nat)=>bif match Nat.beq i 0 with|false=>false|true=>match Nat.ble 7 j with|false=>false|true=>Nat.ble j 8 then match List.get?Internal [(1:Int),(0:Int)] (match match match match match match match j with|0=>0|Nat.succ a=>a with|0=>0|Nat.succ a=>a with|0=>0|Nat.succ a=>a with|0=>0|Nat.succ a=>a with|0=>0|Nat.succ a=>a with|0=>0|Nat.succ a=>a with|0=>0|Nat.succ a=>a)with|some x=>x|none=>(0:Int)else bif match Nat.beq i 0 with|false=>false|true=>match Nat.ble 6 j with|false=>false|true=>Nat.ble j 6 then match List.get?Internal [(1:Int)] (match match match match match match j with|0=>0|Nat.succ a=>a with|0=>0|Nat.succ a=>a with|0=>0|Nat.succ a=>a with|0=>0|Nat.succ a=>a with|0=>0|Nat.succ a=>a with|0=>0|Nat.succ a=>a)with|some x=>x|none=>(0:Int)else bif match Nat.beq i 0 with|false=>false|true=>match Nat.ble 5 j with|false=>false|true=>Nat.ble j 5 then match List.get?Internal [(2:Int)] (match match match match match j with|0=>0|Nat.succ a=>a with|0=>0|Nat.succ a=>a with|0=>0|Nat.succ a=>a with|0=>0|Nat.succ a=>a with|0=>0|Nat.succ a=>a)with|some x=>x|none=>(0:Int)else match List.get?Internal (match List.get?Internal [[(0:Int),(1:Int),(0:Int),(3:Int),(1:Int),(0:Int),(0:Int),(0:Int),(0:Int)]] (0+i)with|some x=>x|none=>[]) j with|some x=>x|none=>(0:Int),SB.cells [sI 2,sI 0,sI 1,sI 0,sI 3,sI 1,sI 0,sI 1,sI 0] 90,SB.cells [sI 10,sI 1] 99,SB.rows 3 [.int .i64] 1 1 1 fun (i j:Nat)=>bif match Nat.beq i 0 with|false=>false|true=>Nat.ble j 0 then match List.get?Internal [(1:Int)] j with|some x=>x|none=>(0:Int)else (0:Int),SB.cells [sI 0,sI 1,sI 0,sI 3,sI 1,sI 2,sI 1,sI 1,sI 0] 120,SB.cells [sI 0,sI 1,sI 0,sI 3,sI 1,sI 0] 60,SB.cells [sI 0,sI 1,sI 0,sI 3,sI 1,sI 0] 60]) (by kernel_rfl) ?_
 refine⟨⟨Qj (q:=Rws 9 (fun _=>.i64) w a 2 c' (fun i=>zOf evL (0+i))) (by kernel_rfl) hr,by decide,by decide,by decide⟩,⟨Qj (q:=Rws 9 (fun _=>.i64) w a 2 c' (fun i=>zOf evL (0+i))) (by kernel_rfl) hr,by decide⟩,?_⟩
 first
  |refine⟨⟨trivial,⟨Nat.le_refl _,rfl⟩,by decide⟩,fun c hc=>?_⟩
  |refine⟨rfl,⟨trivial,⟨Nat.le_refl _,rfl⟩,by decide⟩,fun c hc=>?_⟩
 repeat' (first|(show Rws 9 (fun _=>.i64) w a 2 c' _;exact Qj (q:=Rws 9 (fun _=>.i64) w a 2 c' (fun i=>zOf evL (0+i))) (by kernel_rfl) hr)|(show Rws 6 (fun _=>.i64) w a2 1 c2 _;exact Qj (q:=Rws 6 (fun _=>.i64) w a2 1 c2 (fun i=>zOf deL (0+i))) (by kernel_rfl) hr2)|exact (rfl:false=false)|exact Qk (by kernel_rfl)|exact hc|omega|refine And.intro ?_ ?_)
 all_goals first|exact⟨(),trivial,rfl,rfl⟩|kernel_rfl
def QeM:RCon where
 σ:=Int
 χ:=Unit
 pre _:=True
 args k:=[.c (.v (.int .i64 k)),.c (.v (.slice none 0 0))]
 mem _:=[]
 ok _ _:=True
 val _ _:=.o (Qcv (fun _=>0))
 new _ _:=[]
 len:=0
 det:=some ()
 find _ _:=some []
theorem QlL:(Con.rd QeM).holds Tryz.prog 34:=by
 intro w0 S
 refine Qdo (AG:=[]) (Γ:=[]) Tryz.func34 rfl (by kernel_rfl) Qd Qb (fun _ _=>.nil _ _ _) QeM (fun x0 h s x=>⟨rfl,trivial⟩) [] (fun _ _=>[]) 400 ?_
 rintro k ρ w - - -
 refine⟨[.c (.v (.int .i64 k)),.c (.r none 0 0 0 3 (fun _=>.i64) (fun _ _=>0))],rfl,rfl,?_⟩
 refine Qj (q:=((0:Int)<=(0:Int)/\(0:Int)<=(0:Int))/\endD QeM [] (fun (x:SV) (x_1:List SB)=>[]) k (SV.o (SA.a [nU 17 zF])) [SB.cells [nU 17 zF] 62,SB.cells [nU 17 zF] 62]) (by kernel_rfl) ?_
 exact⟨⟨by decide,by decide⟩,(),trivial,rfl,rfl⟩
def Qcs:PCon:=⟨fun args=>match args with
 |[]=>True
 |_=>False,fun _=>sv (.bool true),fun _=>none⟩
theorem QpV (W:World) (hE:ErrType W):(Con.pure Qcs).holdsAt Tryz.prog W (fun _=>False) 20:=by
 have hlt:0<W.heap.size:=by
  rcases Nat.eq_zero_or_pos W.heap.size with h0|h
  · simp[ErrType,World.cell?,h0]at hE
  · exact h
 refine Qci (Γ:=[(15,.pure QhF),(34,.rd QeM),(37,.pure QkF),(38,.pure Qai),(21,.inl Tryz.f21 (Tryz.f21.body.getD .skip)),(35,.rd QgI),(36,.rd QdJ),(36,.rd QdI)]) Tryz.func20 rfl (by kernel_rfl) Qd Qb
  (fun w hK=>.cons (Qlv w _) (.cons (QlL w _) (.cons (QlX w _) (.cons (Qmy w _) (.cons ⟨by kernel_rfl,Tryz.func21,rfl⟩ (.cons (Qni w ((hK.cell hlt (fun h=>h)).trans hE)) (.cons (Qmn w _) (.cons (Qmm w _) (.nil _ _ _))))))))) Qcs (fun _=>[]) 2000 ?_
 intro w args hp hK
 unfold Qcs at hp;dsimp only at hp;split at hp
 case h_2=>exact hp.elim
 refine⟨rfl,?_⟩
 refine Qj (q:=True/\True/\2<=2/\((0:Int)<=(0:Int)/\(0:Int)<(2:Int)/\2<=2)/\0<2/\(17=17/\Qbl (1:Int) (toN 17 zF))/\((0:Int)<=(1:Int)/\(1:Int)<(2:Int)/\2<=2)/\1<2/\(17=17/\Qbl (1:Int) (toN 17 (fL (objR (1:Int) (toN 17 zF) (1:Int) (0:Int) (3:Int)).1)))/\((0:Int)<=(1:Int)/\(1:Int)<=(2:Int)/\(2:Int)<=(2:Int)/\(0=0\/(1:Int)<(2:Int)))/\True/\1<=2/\((0:Int)<=(0:Int)/\(0:Int)<(1:Int)/\2<=2)/\1<2/\(17=17/\Qbl (1:Int) (toN 17 zF))/\True/\True/\∃(s:Int),[aI 1,SA.c (.v (.slice none 0 0))]=[aI s,SA.c (.v (.slice none 0 0))]/\eN/\True/\∀(x:Unit),True->∃(s:TellS),[SA.c (.i 97 15 0)]=List.map (fun (x:SA)=>match x with|SA.c x=>SA.c (match x with|SC.p b off=>SC.p (match List.get?Internal [15] b with|some x=>x|none=>0) off|SC.e b off ix=>SC.e (match List.get?Internal [15] b with|some x=>x|none=>0) off ix|SC.s b off n c=>SC.s (match List.get?Internal [15] b with|some x=>x|none=>0) off n c|SC.i t b off=>SC.i t (match List.get?Internal [15] b with|some x=>x|none=>0) off|SC.o b n c=>SC.o (match List.get?Internal [15] b with|some x=>x|none=>0) n c|SC.er b sz ix g=>SC.er (match List.get?Internal [15] b with|some x=>x|none=>0) sz ix g|SC.so b lo sz n c nn=>SC.so (match List.get?Internal [15] b with|some x=>x|none=>0) lo sz n c nn|SC.fn g cs=>SC.fn g (List.map (fun (q:Nat × Nat)=>(match List.get?Internal [15] q.1 with|some x=>x|none=>0,q.2)) cs)|SC.m b=>SC.m (match List.get?Internal [15] b with|some x=>x|none=>0)|x=>x)|SA.a l=>SA.a (List.map (fun (x:Seg)=>match x with|Seg.one x=>Seg.one (match x with|SC.p b off=>SC.p (match List.get?Internal [15] b with|some x=>x|none=>0) off|SC.e b off ix=>SC.e (match List.get?Internal [15] b with|some x=>x|none=>0) off ix|SC.s b off n c=>SC.s (match List.get?Internal [15] b with|some x=>x|none=>0) off n c|SC.i t b off=>SC.i t (match List.get?Internal [15] b with|some x=>x|none=>0) off|SC.o b n c=>SC.o (match List.get?Internal [15] b with|some x=>x|none=>0) n c|SC.er b sz ix g=>SC.er (match List.get?Internal [15] b with|some x=>x|none=>0) sz ix g|SC.so b lo sz n c nn=>SC.so (match List.get?Internal [15] b with|some x=>x|none=>0) lo sz n c nn|SC.fn g cs=>SC.fn g (List.map (fun (q:Nat × Nat)=>(match List.get?Internal [15] q.1 with|some x=>x|none=>0,q.2)) cs)|SC.m b=>SC.m (match List.get?Internal [15] b with|some x=>x|none=>0)|x=>x)|s=>s) l)) (match s with|TellS.no e=>[SA.c (.v (.iface 78 (Value.int .i64 e)))]|TellS.at e p=>[SA.c (.i 97 0 0)])/\[SB.cells [sI 13,sI 0] 99]=List.map (fun (x:SB)=>match x with|SB.cells l t=>SB.cells (List.map (fun (x:Seg)=>match x with|Seg.one x=>Seg.one (match x with|SC.p b off=>SC.p (match List.get?Internal [15] b with|some x=>x|none=>0) off|SC.e b off ix=>SC.e (match List.get?Internal [15] b with|some x=>x|none=>0) off ix|SC.s b off n c=>SC.s (match List.get?Internal [15] b with|some x=>x|none=>0) off n c|SC.i t b off=>SC.i t (match List.get?Internal [15] b with|some x=>x|none=>0) off|SC.o b n c=>SC.o (match List.get?Internal [15] b with|some x=>x|none=>0) n c|SC.er b sz ix g=>SC.er (match List.get?Internal [15] b with|some x=>x|none=>0) sz ix g|SC.so b lo sz n c nn=>SC.so (match List.get?Internal [15] b with|some x=>x|none=>0) lo sz n c nn|SC.fn g cs=>SC.fn g (List.map (fun (q:Nat × Nat)=>(match List.get?Internal [15] q.1 with|some x=>x|none=>0,q.2)) cs)|SC.m b=>SC.m (match List.get?Internal [15] b with|some x=>x|none=>0)|x=>x)|s=>s) l) t|b=>b) (match s with|TellS.no e=>[]|TellS.at e p=>[SB.cells [sI e,sI p] 99])/\True/\∀(x:Unit),True->bif (match s with|TellS.no e=>e|TellS.at e p=>e)==(13:Int)then ((0:Int)<=(1:Int)/\(1:Int)<=(2:Int))/\∃(s:Unit),[SA.c (.so 17 0 9 2 2 true),SA.c (.so 0 0 6 1 2 true)]=[SA.c (.so 17 0 9 2 2 true),SA.c (.so 0 0 6 1 2 true)]/\[SB.rows 90 kI9 9 2 2 fun (i j:Nat)=>match List.get?Internal (match List.get?Internal [[(1:Int),(0:Int),(1:Int),(0:Int),(3:Int),(0:Int),(0:Int),(0:Int),(0:Int)],[(2:Int),(0:Int),(1:Int),(0:Int),(3:Int),(1:Int),(0:Int),(1:Int),(0:Int)]] i with|some x=>x|none=>[]) j with|some x=>x|none=>(0:Int),SB.rows 60 kI6 6 2 2 fun (i j:Nat)=>match List.get?Internal (match List.get?Internal [[(0:Int),(1:Int),(0:Int),(3:Int),(1:Int),(0:Int)],[(1:Int),(2:Int),(0:Int),(0:Int),(1:Int),(3:Int)]] i with|some x=>x|none=>[]) j with|some x=>x|none=>(0:Int)]=[SB.rows 90 kI9 9 2 2 fun (i j:Nat)=>match List.get?Internal (match List.get?Internal [[(1:Int),(0:Int),(1:Int),(0:Int),(3:Int),(0:Int),(0:Int),(0:Int),(0:Int)],[(2:Int),(0:Int),(1:Int),(0:Int),(3:Int),(1:Int),(0:Int),(1:Int),(0:Int)]] i with|some x=>x|none=>[]) j with|some x=>x|none=>(0:Int),SB.rows 60 kI6 6 2 2 fun (i j:Nat)=>match List.get?Internal (match List.get?Internal [[(0:Int),(1:Int),(0:Int),(3:Int),(1:Int),(0:Int)],[(1:Int),(2:Int),(0:Int),(0:Int),(1:Int),(3:Int)]] i with|some x=>x|none=>[]) j with|some x=>x|none=>(0:Int)]/\True/\∀(x:Unit),True->∃(s:Unit),[SA.c (.so 17 0 9 2 2 true),SA.c (.v (.slice none 0 0))]=[SA.c (.so 17 0 9 2 2 true),SA.c (.v (.slice none 0 0))]/\[SB.rows 90 kI9 9 2 2 fun (i j:Nat)=>match List.get?Internal (match List.get?Internal [[(1:Int),(0:Int),(1:Int),(0:Int),(3:Int),(0:Int),(0:Int),(0:Int),(0:Int)],[(2:Int),(0:Int),(1:Int),(0:Int),(3:Int),(1:Int),(0:Int),(1:Int),(0:Int)]] i with|some x=>x|none=>[]) j with|some x=>x|none=>(0:Int)]=[SB.rows 90 kI9 9 2 2 fun (i j:Nat)=>match List.get?Internal (match List.get?Internal [[(1:Int),(0:Int),(1:Int),(0:Int),(3:Int),(0:Int),(0:Int),(0:Int),(0:Int)],[(2:Int),(0:Int),(1:Int),(0:Int),(3:Int),(1:Int),(0:Int),(1:Int),(0:Int)]] i with|some x=>x|none=>[]) j with|some x=>x|none=>(0:Int)]/\True/\∀(x:Unit),True->∃(s:TellS),[SA.c (.v (.iface 78 (Value.int .i64 (7:Int))))]=List.map (fun (x:SA)=>match x with|SA.c x=>SA.c (match x with|SC.p b off=>SC.p 0 off|SC.e b off ix=>SC.e 0 off ix|SC.s b off n c=>SC.s 0 off n c|SC.i t b off=>SC.i t 0 off|SC.o b n c=>SC.o 0 n c|SC.er b sz ix g=>SC.er 0 sz ix g|SC.so b lo sz n c nn=>SC.so 0 lo sz n c nn|SC.fn g cs=>SC.fn g (List.map (fun (q:Nat × Nat)=>(0,q.2)) cs)|SC.m b=>SC.m 0|x=>x)|SA.a l=>SA.a (List.map (fun (x:Seg)=>match x with|Seg.one x=>Seg.one (match x with|SC.p b off=>SC.p 0 off|SC.e b off ix=>SC.e 0 off ix|SC.s b off n c=>SC.s 0 off n c|SC.i t b off=>SC.i t 0 off|SC.o b n c=>SC.o 0 n c|SC.er b sz ix g=>SC.er 0 sz ix g|SC.so b lo sz n c nn=>SC.so 0 lo sz n c nn|SC.fn g cs=>SC.fn g (List.map (fun (q:Nat × Nat)=>(0,q.2)) cs)|SC.m b=>SC.m 0|x=>x)|s=>s) l)) (match s with|TellS.no e=>[SA.c (.v (.iface 78 (Value.int .i64 e)))]|TellS.at e p=>[SA.c (.i 97 0 0)])/\[]=List.map (fun (x:SB)=>match x with|SB.cells l t=>SB.cells (List.map (fun (x:Seg)=>match x with|Seg.one x=>Seg.one (match x with|SC.p b off=>SC.p 0 off|SC.e b off ix=>SC.e 0 off ix|SC.s b off n c=>SC.s 0 off n c|SC.i t b off=>SC.i t 0 off|SC.o b n c=>SC.o 0 n c|SC.er b sz ix g=>SC.er 0 sz ix g|SC.so b lo sz n c nn=>SC.so 0 lo sz n c nn|SC.fn g cs=>SC.fn g (List.map (fun (q:Nat × Nat)=>(0,q.2)) cs)|SC.m b=>SC.m 0|x=>x)|s=>s) l) t|b=>b) (match s with|TellS.no e=>[]|TellS.at e p=>[SB.cells [sI e,sI p] 99])/\True/\∀(x:Unit),True->dP Tryz.f20 5 18 [xE 25,xE 24,xE 23,xE 22,xR 21 17,xF 20 17,xE 19,xE 18,xE 17,⟨16,[17,0],[],[],false⟩,xF 15 0,xF 14 0,xF 13 17,xE 12,xE 11,xE 10,xR 9 15,xF 8 15,xE 7,xE 6,xE 5,xE 4,xR 3 9,xE 2,xE 1,xE 0]/\endP Qcs [] (SV.o (aB ((match s with|TellS.no e=>e|TellS.at e p=>e)==(7:Int)))) []else dP Tryz.f20 5 18 [xE 25,xE 24,xE 23,xE 22,xE 21,xE 20,xE 19,xE 18,xE 17,xE 16,xE 15,xE 14,xE 13,xE 12,xE 11,xE 10,xR 9 15,xF 8 15,xE 7,xE 6,xE 5,xE 4,xR 3 9,xE 2,xE 1,xE 0]/\endP Qcs [] (SV.o (aB false)) []) (by kernel_rfl) ?_
 have ok0:Qbl 1 (toN 17 fun _=>0):=Qd7 1 (by decide) (by decide)
 have ok1:Qbl 1 (toN 17 (fL (objR 1 (toN 17 fun _=>0) 1 0 3).1)):=by
  have:=Qid ok0 1 0 3 rfl
  rw[QaP (Xs this)];exact this
 refine⟨trivial,trivial,by decide,⟨by decide,by decide,by decide⟩,by decide,⟨rfl,ok0⟩,⟨by decide,by decide,by decide⟩,by decide,⟨rfl,ok1⟩,⟨by decide,by decide,by decide,.inl rfl⟩,trivial,by decide,⟨by decide,by decide,by decide⟩,by decide,⟨rfl,ok0⟩,trivial,trivial,(1:Int),rfl,rfl,trivial,fun _ _=>⟨TellS.at 13 0,rfl,rfl,trivial,fun _ _=>?_⟩⟩
 refine QaR (fun _=>?_) (fun h=>absurd rfl h)
 exact⟨⟨by decide,by decide⟩,(),rfl,rfl,trivial,fun _ _=>⟨(),rfl,rfl,trivial,fun _ _=>⟨TellS.no 7,rfl,rfl,trivial,fun _ _=>⟨Qk (by kernel_rfl),rfl,fun ρ=>rfl⟩⟩⟩⟩
end
section
open Go.ChangeShapes Go.WideShapes Go.Deep Go.ChangeAt
theorem blk_lt {w:World}{b o:Nat}{v:Value}(h:w.cell? ⟨b,o,none⟩=some v):b<w.heap.size:=by
 unfold World.cell? at h
 by_cases hb:b<w.heap.size
 · exact hb
 · simp[Array.getElem?_eq_none (Nat.le_of_not_lt hb)]at h
theorem one_int {H:Type}{enc:TypeId × Value->H}{w:World}{base:Nat}{spare:Nat->Bool}{held:Bool}{n:Nat}{t:TypeId}{k:IntKind}{v:Value}{y:Option (DataW H × List MemPlace)}(ht:Tryz.prog.underlying t=some (.int k))
 (h:DataW.trod enc Tryz.prog w base spare held n t [v]=y) (hy:y.isSome):∃z,v=.int k z/\(Lit.int k z).wf=true:=by
 obtain⟨x,rfl⟩:=Option.isSome_iff_exists.1 hy
 obtain⟨z,h1,-,h2⟩:=DataW.trod_int ht h
 simp at h1
 exact⟨z,h1,h2⟩
theorem cellsOp_of {H:Type}{enc:TypeId × Value->H}{w:World}{base:Nat}{spare:Nat->Bool}{held:Bool}{n:Nat}{cs:List Value}{y:Option (DataW H × List MemPlace)}
 (h:DataW.trod enc Tryz.prog w base spare held n 32 cs=y) (hy:y.isSome):
 ∃z0 z1 z2:Int,cs=[.int .i64 z0,.int .i64 z1,.int .i64 z2]/\(Lit.int .i64 z0).wf=true/\(Lit.int .i64 z1).wf=true/\(Lit.int .i64 z2).wf=true:=by
 obtain⟨x,rfl⟩:=Option.isSome_iff_exists.1 hy
 obtain⟨ys,n',-,-,hlen,hyl,hf⟩:=DataW.trod_struct Tryz.underlying32 h
 have hc:Tryz.prog.cellsOf 32=3:=by kernel_rfl
 have hc_int:Tryz.prog.cellsOf 3=1:=by kernel_rfl
 rw[hc]at hlen
 match cs,hlen with
 |[v0,v1,v2],_=>
  have hyl':ys.length=3:=hyl
  have g0:DataW.trod enc Tryz.prog w base spare held n' 3 (([v0,v1,v2].drop 0).take (Tryz.prog.cellsOf 3))=ys[0]?:=hf 0 _ rfl
  rw[hc_int]at g0
  dsimp only[List.drop,List.take]at g0
  have g1:DataW.trod enc Tryz.prog w base spare held n' 3 (([v0,v1,v2].drop 1).take (Tryz.prog.cellsOf 3))=ys[1]?:=hf 1 _ rfl
  rw[hc_int]at g1
  dsimp only[List.drop,List.take]at g1
  have g2:DataW.trod enc Tryz.prog w base spare held n' 3 (([v0,v1,v2].drop 2).take (Tryz.prog.cellsOf 3))=ys[2]?:=hf 2 _ rfl
  rw[hc_int]at g2
  dsimp only[List.drop,List.take]at g2
  obtain⟨z0,rfl,w0⟩:=one_int Tryz.underlying3 g0 (by simp[hyl'])
  obtain⟨z1,rfl,w1⟩:=one_int Tryz.underlying3 g1 (by simp[hyl'])
  obtain⟨z2,rfl,w2⟩:=one_int Tryz.underlying3 g2 (by simp[hyl'])
  exact⟨z0,z1,z2,rfl,w0,w1,w2⟩
theorem rowsOp_of {H:Type}{enc:TypeId × Value->H}{w:World}{base:Nat}{spare:Nat->Bool}{held:Bool}{a0:Option Addr}{len0 cap0:Nat}{d0:DataW H}{p0:List MemPlace}
 (h:DataW.Trod enc Tryz.prog w base spare held 22 (.slice a0 len0 cap0) d0 p0):∃f,Rws 3 (fun _=>.i64) w a0 len0 cap0 f:=by
 obtain⟨fuel,hf⟩:=h
 have hc:Tryz.prog.cellsOf 32=3:=by kernel_rfl
 rcases open_slice Tryz.underlying22 hf with⟨hcs,-⟩|⟨a,len,cap,m,n,D,Pl,hcs,hb,hl,hm,hmm,hx,hi⟩
 · simp[Value.cells]at hcs
   obtain⟨rfl,rfl,rfl⟩:=hcs
   exact⟨fun _ _=>0,Nat.le_refl _,by omega,.inl rfl⟩
 · simp[Value.cells]at hcs
   obtain⟨rfl,rfl,rfl⟩:=hcs
   unfold maxLen at hm
   rw[hc]at hi
   have hi':∀i,i<len0->∃z:Nat->Int,∀j,j<3->w.cell? (a.add (i*3+j))=some (.int ((fun _=>.i64) j) (z j))/\(Lit.int ((fun _=>.i64) j) (z j)).wf=true:=by
    intro i hil
    obtain⟨cs,h1,h2⟩:=hi i (by rw[hmm];split<;>omega)
    obtain⟨z0,z1,z2,rfl,w0,w1,w2⟩:=cellsOp_of h2 (by rfl)
    obtain⟨-,-,hat⟩:=World.cells?_some h1
    refine⟨fun j=>[z0,z1,z2].getD j 0,fun j hj=>?_⟩
    rw[<- Go.Deep.add_add,hat j (by simpa using hj)]
    match j,hj with
    |0,_=>exact⟨rfl,w0⟩
    |1,_=>exact⟨rfl,w1⟩
    |2,_=>exact⟨rfl,w2⟩
   by_cases h0:len0=0
   · subst h0;exact⟨fun _ _=>0,Nat.zero_le _,by omega,.inl rfl⟩
   · obtain⟨z,hz⟩:=hi' 0 (by omega)
     obtain⟨b,off,spot⟩:=a
     have hspot:spot=none:=by simpa [Addr.add] using World.cell?_spot (hz 0 (by omega)).1
     subst hspot
     have hadd:∀i,(⟨b,off,none⟩:Addr).add i=⟨b,off+i,none⟩:=fun i=>by
      unfold Addr.add;split
      · subst i;rfl
      · rfl
     classical
     let F:Nat->Nat->Int:=fun i=>if h:i<len0 then Classical.choose (hi' i h)else fun _=>0
     refine⟨F,hl,by omega,.inr ⟨b,off,rfl,?_,fun j hj i hi0=>?_⟩⟩
     · have:=(hz 0 (by omega)).1;rw[hadd]at this;exact blk_lt this
     · have hF:F j=Classical.choose (hi' j hj):=by simp only[F,dif_pos hj]
       obtain⟨c1,c2⟩:=Classical.choose_spec (hi' j hj) i hi0
       rw[<- hF]at c1 c2
       rw[hadd,<- Nat.add_assoc]at c1
       exact⟨c1,trivial⟩
end
end Go.Proofs.YtppkmghcagocbaaGreatDoor
