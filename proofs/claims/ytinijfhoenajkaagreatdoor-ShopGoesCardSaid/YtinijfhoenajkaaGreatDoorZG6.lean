/- What the proof leans on, gathered. -/
import Derived.Test.YtinijfhoenajkaaGreatDoorZG5
namespace Go.Proofs.YtinijfhoenajkaaGreatDoor
set_option linter.unusedVariables false
set_option maxRecDepth 100000
set_option maxHeartbeats 8000000
section
open Go.RowKit
def Qfk:RCon where
 σ:=Int
 χ:=Unit
 pre _:=True
 args k:=[.c (.v (.int .i64 k)),.c (.v (.slice none 0 0))]
 mem _:=[]
 ok _ _:=True
 val _ _:=.o (Qdh (fun _=>0))
 new _ _:=[]
 len:=0
 det:=some ()
 find _ _:=some []
theorem Qmy:(Con.rd Qfk).holds Tryz.prog 55:=by
 intro w0 S
 refine QdH (AG:=[]) (Γ:=[]) Tryz.func55 rfl (by kernel_rfl) Qg Qd (fun _ _=>.nil _ _ _) Qfk (fun x0 h s x=>⟨rfl,trivial⟩) [] (fun _ _=>[]) 400 ?_
 rintro k ρ w - - -
 refine⟨[.c (.v (.int .i64 k)),.c (.r none 0 0 0 3 (fun _=>.i64) (fun _ _=>0))],rfl,rfl,?_⟩
 refine Qj (q:=((0:Int)<=(0:Int)/\(0:Int)<=(0:Int))/\endD Qfk [] (fun (x:SV) (x_1:List SB)=>[]) k (SV.o (SA.a [nU 17 zF])) [SB.cells [nU 17 zF] 71,SB.cells [nU 17 zF] 71]) (by kernel_rfl) ?_
 exact⟨⟨by decide,by decide⟩,(),trivial,rfl,rfl⟩
def QcG:PCon:=⟨fun args=>match args with
 |[]=>True
 |_=>False,fun _=>sv (.bool true),fun _=>none⟩
theorem Qro (W:World) (hE:ErrType W):(Con.pure QcG).holdsAt Tryz.prog W (fun _=>False) 39:=by
 have hlt:0<W.heap.size:=by
  rcases Nat.eq_zero_or_pos W.heap.size with h0|h
  · simp[ErrType,World.cell?,h0]at hE
  · exact h
 refine Qcw (Γ:=[(44,.pure Qiq),(55,.rd Qfk),(58,.pure Qnz),(59,.pure QaG),(40,.inl Tryz.f40 (Tryz.f40.body.getD .skip)),(56,.rd Qhm),(57,.rd Qd5),(57,.rd Qd4)]) Tryz.func39 rfl (by kernel_rfl) Qg Qd
  (fun w hK=>.cons (Qmh w _) (.cons (Qmy w _) (.cons (Qp1 w _) (.cons (Qp4 w _) (.cons ⟨by kernel_rfl,Tryz.func40,rfl⟩ (.cons (Qof w ((hK.cell hlt (fun h=>h)).trans hE)) (.cons (Qm8 w _) (.cons (Qm7 w _) (.nil _ _ _))))))))) QcG (fun _=>[]) 2000 ?_
 intro w args hp hK
 unfold QcG at hp;dsimp only at hp;split at hp
 case h_2=>exact hp.elim
 refine⟨rfl,?_⟩
 refine Qj (q:=True/\True/\2<=2/\((0:Int)<=(0:Int)/\(0:Int)<(2:Int)/\2<=2)/\0<2/\(17=17/\QbN (1:Int) (toN 17 zF))/\((0:Int)<=(1:Int)/\(1:Int)<(2:Int)/\2<=2)/\1<2/\(17=17/\QbN (1:Int) (toN 17 (fL (objR (1:Int) (toN 17 zF) (1:Int) (0:Int) (3:Int)).1)))/\((0:Int)<=(1:Int)/\(1:Int)<=(2:Int)/\(2:Int)<=(2:Int)/\(0=0\/(1:Int)<(2:Int)))/\True/\1<=2/\((0:Int)<=(0:Int)/\(0:Int)<(1:Int)/\2<=2)/\1<2/\(17=17/\QbN (1:Int) (toN 17 zF))/\True/\True/\∃(s:Int),[aI 1,SA.c (.v (.slice none 0 0))]=[aI s,SA.c (.v (.slice none 0 0))]/\eN/\True/\∀(x:Unit),True->∃(s:TellS),[SA.c (.i 115 15 0)]=List.map (fun (x:SA)=>match x with|SA.c x=>SA.c (match x with|SC.p b off=>SC.p (match List.get?Internal [15] b with|some x=>x|none=>0) off|SC.e b off ix=>SC.e (match List.get?Internal [15] b with|some x=>x|none=>0) off ix|SC.s b off n c=>SC.s (match List.get?Internal [15] b with|some x=>x|none=>0) off n c|SC.i t b off=>SC.i t (match List.get?Internal [15] b with|some x=>x|none=>0) off|SC.o b n c=>SC.o (match List.get?Internal [15] b with|some x=>x|none=>0) n c|SC.er b sz ix g=>SC.er (match List.get?Internal [15] b with|some x=>x|none=>0) sz ix g|SC.so b lo sz n c nn=>SC.so (match List.get?Internal [15] b with|some x=>x|none=>0) lo sz n c nn|SC.fn g cs=>SC.fn g (List.map (fun (q:Nat × Nat)=>(match List.get?Internal [15] q.1 with|some x=>x|none=>0,q.2)) cs)|SC.m b=>SC.m (match List.get?Internal [15] b with|some x=>x|none=>0)|x=>x)|SA.a l=>SA.a (List.map (fun (x:Seg)=>match x with|Seg.one x=>Seg.one (match x with|SC.p b off=>SC.p (match List.get?Internal [15] b with|some x=>x|none=>0) off|SC.e b off ix=>SC.e (match List.get?Internal [15] b with|some x=>x|none=>0) off ix|SC.s b off n c=>SC.s (match List.get?Internal [15] b with|some x=>x|none=>0) off n c|SC.i t b off=>SC.i t (match List.get?Internal [15] b with|some x=>x|none=>0) off|SC.o b n c=>SC.o (match List.get?Internal [15] b with|some x=>x|none=>0) n c|SC.er b sz ix g=>SC.er (match List.get?Internal [15] b with|some x=>x|none=>0) sz ix g|SC.so b lo sz n c nn=>SC.so (match List.get?Internal [15] b with|some x=>x|none=>0) lo sz n c nn|SC.fn g cs=>SC.fn g (List.map (fun (q:Nat × Nat)=>(match List.get?Internal [15] q.1 with|some x=>x|none=>0,q.2)) cs)|SC.m b=>SC.m (match List.get?Internal [15] b with|some x=>x|none=>0)|x=>x)|s=>s) l)) (match s with|TellS.no e=>[SA.c (.v (.iface 97 (Value.int .i64 e)))]|TellS.at e p=>[SA.c (.i 115 0 0)])/\[SB.cells [sI 13,sI 0] 117]=List.map (fun (x:SB)=>match x with|SB.cells l t=>SB.cells (List.map (fun (x:Seg)=>match x with|Seg.one x=>Seg.one (match x with|SC.p b off=>SC.p (match List.get?Internal [15] b with|some x=>x|none=>0) off|SC.e b off ix=>SC.e (match List.get?Internal [15] b with|some x=>x|none=>0) off ix|SC.s b off n c=>SC.s (match List.get?Internal [15] b with|some x=>x|none=>0) off n c|SC.i t b off=>SC.i t (match List.get?Internal [15] b with|some x=>x|none=>0) off|SC.o b n c=>SC.o (match List.get?Internal [15] b with|some x=>x|none=>0) n c|SC.er b sz ix g=>SC.er (match List.get?Internal [15] b with|some x=>x|none=>0) sz ix g|SC.so b lo sz n c nn=>SC.so (match List.get?Internal [15] b with|some x=>x|none=>0) lo sz n c nn|SC.fn g cs=>SC.fn g (List.map (fun (q:Nat × Nat)=>(match List.get?Internal [15] q.1 with|some x=>x|none=>0,q.2)) cs)|SC.m b=>SC.m (match List.get?Internal [15] b with|some x=>x|none=>0)|x=>x)|s=>s) l) t|b=>b) (match s with|TellS.no e=>[]|TellS.at e p=>[SB.cells [sI e,sI p] 117])/\True/\∀(x:Unit),True->bif (match s with|TellS.no e=>e|TellS.at e p=>e)==(13:Int)then ((0:Int)<=(1:Int)/\(1:Int)<=(2:Int))/\∃(s:Unit),[SA.c (.so 17 0 9 2 2 true),SA.c (.so 0 0 6 1 2 true)]=[SA.c (.so 17 0 9 2 2 true),SA.c (.so 0 0 6 1 2 true)]/\[SB.rows 35 kI9 9 2 2 fun (i j:Nat)=>match List.get?Internal (match List.get?Internal [[(1:Int),(0:Int),(1:Int),(0:Int),(3:Int),(0:Int),(0:Int),(0:Int),(0:Int)],[(2:Int),(0:Int),(1:Int),(0:Int),(3:Int),(1:Int),(0:Int),(1:Int),(0:Int)]] i with|some x=>x|none=>[]) j with|some x=>x|none=>(0:Int),SB.rows 65 kI6 6 2 2 fun (i j:Nat)=>match List.get?Internal (match List.get?Internal [[(0:Int),(1:Int),(0:Int),(3:Int),(1:Int),(0:Int)],[(1:Int),(2:Int),(0:Int),(0:Int),(1:Int),(3:Int)]] i with|some x=>x|none=>[]) j with|some x=>x|none=>(0:Int)]=[SB.rows 35 kI9 9 2 2 fun (i j:Nat)=>match List.get?Internal (match List.get?Internal [[(1:Int),(0:Int),(1:Int),(0:Int),(3:Int),(0:Int),(0:Int),(0:Int),(0:Int)],[(2:Int),(0:Int),(1:Int),(0:Int),(3:Int),(1:Int),(0:Int),(1:Int),(0:Int)]] i with|some x=>x|none=>[]) j with|some x=>x|none=>(0:Int),SB.rows 65 kI6 6 2 2 fun (i j:Nat)=>match List.get?Internal (match List.get?Internal [[(0:Int),(1:Int),(0:Int),(3:Int),(1:Int),(0:Int)],[(1:Int),(2:Int),(0:Int),(0:Int),(1:Int),(3:Int)]] i with|some x=>x|none=>[]) j with|some x=>x|none=>(0:Int)]/\True/\∀(x:Unit),True->∃(s:Unit),[SA.c (.so 17 0 9 2 2 true),SA.c (.v (.slice none 0 0))]=[SA.c (.so 17 0 9 2 2 true),SA.c (.v (.slice none 0 0))]/\[SB.rows 35 kI9 9 2 2 fun (i j:Nat)=>match List.get?Internal (match List.get?Internal [[(1:Int),(0:Int),(1:Int),(0:Int),(3:Int),(0:Int),(0:Int),(0:Int),(0:Int)],[(2:Int),(0:Int),(1:Int),(0:Int),(3:Int),(1:Int),(0:Int),(1:Int),(0:Int)]] i with|some x=>x|none=>[]) j with|some x=>x|none=>(0:Int)]=[SB.rows 35 kI9 9 2 2 fun (i j:Nat)=>match List.get?Internal (match List.get?Internal [[(1:Int),(0:Int),(1:Int),(0:Int),(3:Int),(0:Int),(0:Int),(0:Int),(0:Int)],[(2:Int),(0:Int),(1:Int),(0:Int),(3:Int),(1:Int),(0:Int),(1:Int),(0:Int)]] i with|some x=>x|none=>[]) j with|some x=>x|none=>(0:Int)]/\True/\∀(x:Unit),True->∃(s:TellS),[SA.c (.v (.iface 97 (Value.int .i64 (7:Int))))]=List.map (fun (x:SA)=>match x with|SA.c x=>SA.c (match x with|SC.p b off=>SC.p 0 off|SC.e b off ix=>SC.e 0 off ix|SC.s b off n c=>SC.s 0 off n c|SC.i t b off=>SC.i t 0 off|SC.o b n c=>SC.o 0 n c|SC.er b sz ix g=>SC.er 0 sz ix g|SC.so b lo sz n c nn=>SC.so 0 lo sz n c nn|SC.fn g cs=>SC.fn g (List.map (fun (q:Nat × Nat)=>(0,q.2)) cs)|SC.m b=>SC.m 0|x=>x)|SA.a l=>SA.a (List.map (fun (x:Seg)=>match x with|Seg.one x=>Seg.one (match x with|SC.p b off=>SC.p 0 off|SC.e b off ix=>SC.e 0 off ix|SC.s b off n c=>SC.s 0 off n c|SC.i t b off=>SC.i t 0 off|SC.o b n c=>SC.o 0 n c|SC.er b sz ix g=>SC.er 0 sz ix g|SC.so b lo sz n c nn=>SC.so 0 lo sz n c nn|SC.fn g cs=>SC.fn g (List.map (fun (q:Nat × Nat)=>(0,q.2)) cs)|SC.m b=>SC.m 0|x=>x)|s=>s) l)) (match s with|TellS.no e=>[SA.c (.v (.iface 97 (Value.int .i64 e)))]|TellS.at e p=>[SA.c (.i 115 0 0)])/\[]=List.map (fun (x:SB)=>match x with|SB.cells l t=>SB.cells (List.map (fun (x:Seg)=>match x with|Seg.one x=>Seg.one (match x with|SC.p b off=>SC.p 0 off|SC.e b off ix=>SC.e 0 off ix|SC.s b off n c=>SC.s 0 off n c|SC.i t b off=>SC.i t 0 off|SC.o b n c=>SC.o 0 n c|SC.er b sz ix g=>SC.er 0 sz ix g|SC.so b lo sz n c nn=>SC.so 0 lo sz n c nn|SC.fn g cs=>SC.fn g (List.map (fun (q:Nat × Nat)=>(0,q.2)) cs)|SC.m b=>SC.m 0|x=>x)|s=>s) l) t|b=>b) (match s with|TellS.no e=>[]|TellS.at e p=>[SB.cells [sI e,sI p] 117])/\True/\∀(x:Unit),True->dP Tryz.f39 5 18 [xE 25,xE 24,xE 23,xE 22,xR 21 17,xF 20 17,xE 19,xE 18,xE 17,⟨16,[17,0],[],[],false⟩,xF 15 0,xF 14 0,xF 13 17,xE 12,xE 11,xE 10,xR 9 15,xF 8 15,xE 7,xE 6,xE 5,xE 4,xR 3 9,xE 2,xE 1,xE 0]/\endP QcG [] (SV.o (aB ((match s with|TellS.no e=>e|TellS.at e p=>e)==(7:Int)))) []else dP Tryz.f39 5 18 [xE 25,xE 24,xE 23,xE 22,xE 21,xE 20,xE 19,xE 18,xE 17,xE 16,xE 15,xE 14,xE 13,xE 12,xE 11,xE 10,xR 9 15,xF 8 15,xE 7,xE 6,xE 5,xE 4,xR 3 9,xE 2,xE 1,xE 0]/\endP QcG [] (SV.o (aB false)) []) (by kernel_rfl) ?_
 have ok0:QbN 1 (toN 17 fun _=>0):=Qew 1 (by decide) (by decide)
 have ok1:QbN 1 (toN 17 (fL (objR 1 (toN 17 fun _=>0) 1 0 3).1)):=by
  have:=QiZ ok0 1 0 3 rfl
  rw[Qbi (XM this)];exact this
 refine⟨trivial,trivial,by decide,⟨by decide,by decide,by decide⟩,by decide,⟨rfl,ok0⟩,⟨by decide,by decide,by decide⟩,by decide,⟨rfl,ok1⟩,⟨by decide,by decide,by decide,.inl rfl⟩,trivial,by decide,⟨by decide,by decide,by decide⟩,by decide,⟨rfl,ok0⟩,trivial,trivial,(1:Int),rfl,rfl,trivial,fun _ _=>⟨TellS.at 13 0,rfl,rfl,trivial,fun _ _=>?_⟩⟩
 refine Q7 (fun _=>?_) (fun h=>absurd rfl h)
 exact⟨⟨by decide,by decide⟩,(),rfl,rfl,trivial,fun _ _=>⟨(),rfl,rfl,trivial,fun _ _=>⟨TellS.no 7,rfl,rfl,trivial,fun _ _=>⟨Qe (by kernel_rfl),rfl,fun ρ=>rfl⟩⟩⟩⟩
end
section
section
variable {K:Int}{z:Sh}{g:Gh}{t:Nat}
def NoH (z:Sh):Prop:=∀u,u<4->¬Xr (z.w u)
theorem ShInv.free (I:ShInv K z g) (h:NoH z):z.m 0=0:=by
 rcases I.lk with h1|⟨u,h1,-,h2,-⟩
 · exact h1.1
 · exact absurd h2 (h u h1)
theorem noh_crash (z:Sh) (l:Int):NoH (z.crash l):=fun u hu hh=>by
 have h1:4<=((z.w u).again).does:=hh.1
 have h2:((z.w u).again).does<=15:=hh.2
 unfold Wk.again at h1 h2
 by_cases e:(z.w u).does=0
 · rw[if_pos e]at h1;omega
 · rw[if_neg e]at h2;exact absurd h2 (by show ¬(17:Int)<=15;decide)
structure Rest (K:Int) (i:Nat) (z:Sh) (g:Gh):Prop where
 f:Fin2 K z g
 n:NoH z
 i:∀u,u<i->(z.w u).does=0
theorem Rest.next {i:Nat}(R:Rest K i z g) (hi:i<4) (hs:z.steps<90000000) {n:Nat}(hn:92<=n):∃g',Rest K (i+1) (z.run i n) g'/\z.ran i n<=92/\∀u,u≠i->(z.run i n).w u=z.w u:=by
 obtain⟨g',Q,hr⟩:=quit hi R.f (.inl (R.f.f.1.free R.n)) hs hn
 refine⟨g',⟨Q.fin,fun u hu=>?_,fun u hu=>?_⟩,hr,Q.W⟩
 · by_cases e:u=i
   · subst e;intro hh;have:=hh.1;rw[Q.idle]at this;omega
   · rw[Q.W u e];exact R.n u hu
 · by_cases e:u=i
   · subst e;exact Q.idle
   · rw[Q.W u e];exact R.i u (by omega)
structure One (K:Int) (n:Nat) (o:List Int) (z:Sh) (g:Gh):Prop where
 f:Fin2 K z g
 i:∀u,u<4->(z.w u).does=0
 l:z.deeds.length=n
 o:g.R.obj=o
 s:z.steps<=101*(n:Int)
theorem One.new {K:Int}(h1:1<=K) (h6:K<=6):One K 0 (List.replicate 17 0) (Sh.new K) (Gh.new K):=⟨Qnh h1 h6,fun _ _=>rfl,rfl,rfl,Int.le_refl 0⟩
theorem One.next {n:Nat}{o:List Int}(O:One K n o z g) (hn:n<800000) {k key x:Int}(ho:opOk k key x=true):∃g',One K (n+1) (objR K o k key x).1 ((z.call 0 k key x).run 0 100) g':=by
 have hs:=O.s
 obtain⟨g',A,hr⟩:=alone O.f (t:=0) (by decide) O.i ho (by omega)
 obtain⟨e1,-⟩:=hr 100 (by decide)
 rw[e1]
 have hb:bOpen g.R ⟨0,1-z.tog 0,k,key,x⟩=true:=by
  have T:=O.f.f.1.th 0 (by decide)
  have h1:=(T.idle (O.i 0 (by decide))).1
  have h2:Qm g.R.tog 0≠1-z.tog 0:=by rw[h1];rcases T.tg01 with h|h<;>rw[h]<;>decide
  simpa [bOpen] using h2
 have hk:g.R.kind=K:=O.f.f.1.gl.sumR.kind
 refine⟨g',A.fin,fun u hu=>?_,?_,?_,?_⟩
 · by_cases e:u=0
   · subst e;exact A.idle
   · rw[A.W u e];exact O.i u hu
 · rw[A.deeds,List.length_append,List.length_map,O.l]
   show n+(bDs g.R _++bD (Xp g.R _) []).length=n+1
   unfold bDs
   rw[hb];rfl
 · rw[A.R]
   show (Xp g.R ⟨0,1-z.tog 0,k,key,x⟩).obj=_
   unfold Xp
   rw[hb]
   show (objR g.R.kind g.R.obj k key x).1=_
   rw[hk,O.o]
 · have h1:=(QbQ 0 84 (z.call 0 k key x)).2
   have h2:=(Qc5 z 0 k key x).2
   omega
end
end
end Go.Proofs.YtinijfhoenajkaaGreatDoor
