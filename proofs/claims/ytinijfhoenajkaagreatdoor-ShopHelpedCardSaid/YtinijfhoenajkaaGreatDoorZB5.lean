/- What the proof leans on, gathered. -/
import Derived.Test.YtinijfhoenajkaaGreatDoorRows
import Derived.WalkKit
import Derived.Test.YtinijfhoenajkaaGreatDoorProg
import Derived.ChangeVars
import Derived.JoinedOf
import Derived.RowKit
import Derived.LaidLaws
import Derived.LaidHandle
import Derived.Stop.Joined
import Derived.Deep.Slices
import Derived.Deep.Fields
import Derived.ChangeSame
import Derived.ProofKit
import Derived.Test.YtinijfhoenajkaaGreatDoorZB4
namespace Go.Proofs.YtinijfhoenajkaaGreatDoor
set_option linter.unusedVariables false
set_option maxRecDepth 100000
set_option maxHeartbeats 8000000
section
open Go.RowKit
def oneC (t:Nat):TCon Sh Unit Unit where
 pre z _:=True
 args _:=[.c (.v (.int .i64 t))]
 ok _ _ _:=True
 next z _ _:=z
 val n z _ _:=.t [.c (.p (bif n.beq 17 then 3+t else 0) 0),.c (.v .nilIface)]
 new _ _ _ _:=[]
 len:=0
abbrev QdU (t:Nat):MCon:=(oneC t).low shM ShS.z ShS.good 17 7 Qco
def QeA (n0:Nat) (n1:Nat) (z:Sh) (r:Nat->WkR) (mh:Nat) (ch:Nat) (nh:Bool) (zh:Nat->Nat->Int) (mv:Nat) (cv:Nat) (nv:Bool) (zv:Nat->Nat->Int):Prop:=(iR (n0:Int) (4:Int))/\endN (QdU n0) [] (fun (x:SV) (M:List SB)=>shAt M 0) (ShS.mk z r mh ch nh zh mv cv nv zv,PUnit.unit) (SV.t [aP n1 0,SA.c (.v Value.nilIface)]) (shI (shD z.4 z.5 15 (List.length z.6) ch nh 16 (List.length z.7) cv nv) z.1 (Sh.s z) (stX (Sh.w z) r) (stA r) (stD r) (evB mh ch zh) (vdB mv cv zv) [])
theorem Qjn:(Con.mem (QdU 0)).holds Tryz.prog 46:=by
 intro w0 S
 refine Qb (Γ:=[]) (fun _=>noW) Tryz.func46 rfl (by kernel_rfl) Qg Qd (fun w S' _ _=>.nil _ _ _) (QdU 0) (fun _=>[]) (fun x0 h=>by cases h) (fun s ρ w _ _ _=>Qi w _) [] (fun _ M=>shAt M 0) 600 ?_
 rintro⟨⟨z,r,mh,ch,nh,zh,mv,cv,nv,zv⟩,⟨⟩⟩ W ⟨h0,-⟩ -
 refine⟨rfl,?_⟩
 refine Qk (q:=QeA 0 3 z r mh ch nh zh mv cv nv zv) (by kernel_rfl) ?_
 unfold QeA
 have h0:(⟨z,r,mh,ch,nh,zh,mv,cv,nv,zv⟩:ShS).good:=h0
 exact⟨⟨by decide,by decide⟩,Qj rfl ⟨⟨z,r,mh,ch,nh,zh,mv,cv,nv,zv⟩,()⟩ ⟨h0,rfl,trivial⟩ rfl rfl rfl⟩
theorem Qoj:(Con.mem (QdU 1)).holds Tryz.prog 46:=by
 intro w0 S
 refine Qb (Γ:=[]) (fun _=>noW) Tryz.func46 rfl (by kernel_rfl) Qg Qd (fun w S' _ _=>.nil _ _ _) (QdU 1) (fun _=>[]) (fun x0 h=>by cases h) (fun s ρ w _ _ _=>Qi w _) [] (fun _ M=>shAt M 0) 600 ?_
 rintro⟨⟨z,r,mh,ch,nh,zh,mv,cv,nv,zv⟩,⟨⟩⟩ W ⟨h0,-⟩ -
 refine⟨rfl,?_⟩
 refine Qk (q:=QeA 1 4 z r mh ch nh zh mv cv nv zv) (by kernel_rfl) ?_
 unfold QeA
 have h0:(⟨z,r,mh,ch,nh,zh,mv,cv,nv,zv⟩:ShS).good:=h0
 exact⟨⟨by decide,by decide⟩,Qj rfl ⟨⟨z,r,mh,ch,nh,zh,mv,cv,nv,zv⟩,()⟩ ⟨h0,rfl,trivial⟩ rfl rfl rfl⟩
theorem Qoi:(Con.mem (QdU 2)).holds Tryz.prog 46:=by
 intro w0 S
 refine Qb (Γ:=[]) (fun _=>noW) Tryz.func46 rfl (by kernel_rfl) Qg Qd (fun w S' _ _=>.nil _ _ _) (QdU 2) (fun _=>[]) (fun x0 h=>by cases h) (fun s ρ w _ _ _=>Qi w _) [] (fun _ M=>shAt M 0) 600 ?_
 rintro⟨⟨z,r,mh,ch,nh,zh,mv,cv,nv,zv⟩,⟨⟩⟩ W ⟨h0,-⟩ -
 refine⟨rfl,?_⟩
 refine Qk (q:=QeA 2 5 z r mh ch nh zh mv cv nv zv) (by kernel_rfl) ?_
 unfold QeA
 have h0:(⟨z,r,mh,ch,nh,zh,mv,cv,nv,zv⟩:ShS).good:=h0
 exact⟨⟨by decide,by decide⟩,Qj rfl ⟨⟨z,r,mh,ch,nh,zh,mv,cv,nv,zv⟩,()⟩ ⟨h0,rfl,trivial⟩ rfl rfl rfl⟩
theorem Qoh:(Con.mem (QdU 3)).holds Tryz.prog 46:=by
 intro w0 S
 refine Qb (Γ:=[]) (fun _=>noW) Tryz.func46 rfl (by kernel_rfl) Qg Qd (fun w S' _ _=>.nil _ _ _) (QdU 3) (fun _=>[]) (fun x0 h=>by cases h) (fun s ρ w _ _ _=>Qi w _) [] (fun _ M=>shAt M 0) 600 ?_
 rintro⟨⟨z,r,mh,ch,nh,zh,mv,cv,nv,zv⟩,⟨⟩⟩ W ⟨h0,-⟩ -
 refine⟨rfl,?_⟩
 refine Qk (q:=QeA 3 6 z r mh ch nh zh mv cv nv zv) (by kernel_rfl) ?_
 unfold QeA
 have h0:(⟨z,r,mh,ch,nh,zh,mv,cv,nv,zv⟩:ShS).good:=h0
 exact⟨⟨by decide,by decide⟩,Qj rfl ⟨⟨z,r,mh,ch,nh,zh,mv,cv,nv,zv⟩,()⟩ ⟨h0,rfl,trivial⟩ rfl rfl rfl⟩
theorem Qqb (v:Value) (a:Int) (h:a<0\/4<=a) (w:World):Calls Tryz.prog 46 #[v,.int .i64 a] w fun e w'=>e=.returned (.tuple #[.pointer none,.iface 97 (.int .i64 2)])/\w=w':=by
 rcases h with h|h
 · have h1:decide (a<0)=true:=decide_eq_true h
   go_enter Tryz.func46,Tryz.ntmps46
   go_wp2
   go_ret2
   exact⟨rfl,rfl⟩
 · have h1:decide (a<0)=false:=decide_eq_false (by omega)
   have h2:decide (a>=4)=true:=decide_eq_true h
   go_enter Tryz.func46,Tryz.ntmps46
   go_wp2
   go_ret2
   exact⟨rfl,rfl⟩
def Qhb:PCon:=⟨fun args=>match args with
 |[.c _,.c (.v (.int .i64 a))]=>a<0\/4<=a
 |_=>False,fun args=>.t [.c (.v (.pointer none)),.c (.v (.iface 97 (.int .i64 2)))],fun _=>none⟩
theorem Qjm:(Con.pure Qhb).holds Tryz.prog 46:=by
 intro w0 S
 refine⟨by kernel_rfl,fun ρ args w hp hK=>?_⟩
 unfold Qhb at hp;dsimp only at hp;split at hp
 case h_2=>exact hp.elim
 rename_i x a
 refine (Qqb (x.den ρ) a hp w).mono ?_
 rintro e w' ⟨rfl,rfl⟩
 exact⟨rfl,Below.refl _ _⟩
def calX:TCon Sh (Int × OpA) Unit where
 pre z a:=a.1<0\/4<=a.1
 args a:=[.c (.v (.int .i64 a.1)),.a [.one (.v (.int .i64 a.2.k)),.one (.v (.int .i64 a.2.key)),.one (.v (.int .i64 a.2.x))]]
 ok _ _ _:=True
 next z _ _:=z
 val n z _ _:=.o (.c (.v (.iface 97 (.int .i64 2))))
 new _ _ _ _:=[]
 len:=0
abbrev QiX:MCon:=calX.low shM ShS.z ShS.good 17 7 Qco
theorem Qpf:(Con.mem QiX).holds Tryz.prog 23:=by
 intro w0 S
 refine Qb (Γ:=[(46,.pure Qhb)]) (fun _=>noW) Tryz.func23 rfl (by kernel_rfl) Qg Qd (fun w S' _ _=>.cons (Qjm w _) (.nil _ _ _)) QiX (fun _=>[]) (fun x0 h=>by cases h) (fun s ρ w _ _ _=>Qi w _) [] (fun _ M=>shAt M 0) 600 ?_
 rintro⟨⟨z,r,mh,ch,nh,zh,mv,cv,nv,zv⟩,a,k,key,x⟩ W ⟨h0,h1⟩ -
 refine⟨rfl,?_⟩
 refine Qk (q:=(a<(0:Int)\/(4:Int)<=a)/\endN QiX [] (fun (x:SV) (M:List SB)=>shAt M 0) (ShS.mk z r mh ch nh zh mv cv nv zv,a,OpA.mk k key x) (SV.o (SA.c (.v (.iface 97 (Value.int .i64 (2:Int)))))) (shI (shD z.4 z.5 15 (List.length z.6) ch nh 16 (List.length z.7) cv nv) z.1 (Sh.s z) (stX (Sh.w z) r) (stA r) (stD r) (evB mh ch zh) (vdB mv cv zv) [SB.cells [sI k,sI key,sI x] 31])) (by kernel_rfl) ?_
 have h0:(⟨z,r,mh,ch,nh,zh,mv,cv,nv,zv⟩:ShS).good:=h0
 exact⟨h1,Qj rfl ⟨⟨z,r,mh,ch,nh,zh,mv,cv,nv,zv⟩,()⟩ ⟨h0,rfl,trivial⟩ rfl rfl rfl⟩
def TCon.Does {X Y α χ:Type}(c:TCon Y α χ) (L:X->List SB) (y:X->Y) (good:X->Prop) (P:Program) (w0:World) (S:Nat->Prop) (f:FuncId) (a:α):Prop:=
 ∀(ρ:Nat->Nat) (z:Y) (F:List Nat) (w:World),c.pre z a->Kept S w0 w->Mem w (feet (denM ρ 0 [.abs (QB L y good z) F])) (denM ρ 0 [.abs (QB L y good z) F]) w ->
  Calls P f ((SA.c (.p 0 0)::c.args a).map (SA.den ρ)).toArray w fun e w'=>∃(x:List Nat × χ) (ρ':Nat->Nat),c.ok z a x.2/\(∀i,i<1->ρ' i=ρ i)/\(SB.abs (QB L y good (c.next z a x.2)) x.1::c.new 1 z a x.2).length=1+c.len/\e=.returned ((c.val 1 z a x.2).den ρ') /\
   Mem w (feet (denM ρ 0 [.abs (QB L y good z) F])) (denM ρ' 0 (.abs (QB L y good (c.next z a x.2)) x.1::c.new 1 z a x.2)) w'
theorem TCon.high_of {X Y α χ:Type}{c:TCon Y α χ}{L:X->List SB}{y:X->Y}{good:X->Prop}{P:Program}{f:FuncId}{w0:World}{S:Nat->Prop}(he:Qbw P f=true) (h:∀a,c.Does L y good P w0 S f a):(Con.mem (c.high L y good)).holdsAt P w0 S f:=
 ⟨he,fun x0 h=>(by cases h),fun ρ s w hp hK HM=>h s.2.1 ρ s.1 s.2.2 w hp hK HM⟩
theorem TCon.does_of {X Y α χ α' χ':Type}(c:TCon Y α χ) (c':TCon Y α' χ') {L:X->List SB}{y:X->Y}{good:X->Prop}{n k:Nat}{find:List SA->List SB->Option (List Nat)}{P:Program}{f:FuncId}{w0:World}{S:Nat->Prop}
 (h:(Con.mem (c.low L y good n k find)).holdsAt P w0 S f) (hk:0<k) (hn:∀x,good x->(L x).length=n) (a:α) (a':α') (harg:c'.args a'=c.args a) (ha:QaQ (sc 1) (c.args a)=true) (hpre:∀z,c'.pre z a'->c.pre z a)
 (hv:∀z r,c'.pre (y z) a'->c.ok (y z) a r->∀ρ ρ':Nat->Nat,(∀i,ρ' (1+i)=ρ (n+i))->ρ' 0=ρ 0->∃r',c'.ok (y z) a' r'/\c'.next (y z) a' r'=c.next (y z) a r/\(c'.val 1 (y z) a' r').den ρ'=(c.val n (y z) a r).den ρ/\denM ρ' 1 (c'.new 1 (y z) a' r')=denM ρ n (c.new n (y z) a r)/\(c'.new 1 (y z) a' r').length=c'.len):c'.Does L y good P w0 S f a':=by
 intro ρ z F w hp hK HM
 have hA:=HM.holds (.abs (ρ 0) (QB L y good z) F) (List.mem_singleton.2 rfl)
 obtain⟨x,ρ1,rfl,hg,hρ,HM1,hF⟩:=hA
 have harg2:(SA.c (.p 0 0)::c'.args a').map (SA.den ρ)=(SA.c (.p 0 0)::c.args a).map (SA.den ρ1):=by
  rw[harg]
  refine List.map_congr_left fun v hv=>?_
  have hav:v.av (sc 1)=true:=by
   rcases List.mem_cons.1 hv with rfl|hv
   · rfl
   · exact Qbp ha v hv
  exact SA.av_den (fun i hi=>by have:=XB hi;obtain rfl:i=0:=(by omega);exact hρ.symm) hav
 have hfe:∀g,feet (denM ρ 0 [.abs (QB L y good (y x)) F]) g↔feet (denM ρ1 0 (L x)) g:=fun g=>by
  rw[hF g]
  exact⟨fun ⟨e,he,hf⟩=>by obtain rfl:=List.mem_singleton.1 he;exact hf,fun hg=>⟨_,List.mem_singleton.2 rfl,hg⟩⟩
 have:=h.2.2 ρ1 (x,a) w ⟨hg,hpre _ hp⟩ hK HM1
 rw[harg2]
 refine this.mono ?_
 rintro e w' ⟨⟨x',r⟩,ρ',⟨hg',hy',hok⟩,hag,hlen,rfl,HM'⟩
 have HM':Mem w (feet (denM ρ1 0 (L x))) (denM ρ' 0 (L x'++c.new n (y x) a r)) w':=HM'
 have hl':=hn x' hg'
 rw[Qe7,hl',Nat.zero_add]at HM'
 obtain⟨r',hok',hnext,hv1,hv2,hv4⟩:=hv x r hp hok ρ' (fun i=>if i=0 then ρ' 0 else ρ' (n+(i-1))) (fun i=>by rw[if_neg (by omega),show 1+i-1=i by omega]) rfl
 refine⟨(feetL (denM ρ' 0 (L x')),r'),fun i=>if i=0 then ρ' 0 else ρ' (n+(i-1)),hok',fun i hi=>?_,?_,?_,?_⟩
 · obtain rfl:i=0:=by omega
   show (if 0=0 then ρ' 0 else ρ' (n+(0-1)))=ρ 0
   rw[if_pos rfl,hag 0 hk];exact hρ
 · show (c'.new 1 (y x) a' r').length+1=1+c'.len
   omega
 · show Ending.returned ((c.val n (y x) a r).den ρ')=Ending.returned ((c'.val 1 (y x) a' r').den (fun i=>if i=0 then ρ' 0 else ρ' (n+(i-1))))
   rw[hv1]
 · show Mem w _ ([En.abs (if 0=0 then ρ' 0 else ρ' (n+(0-1))) (QB L y good (c'.next (y x) a' r')) (feetL (denM ρ' 0 (L x')))]++denM _ 1 (c'.new 1 (y x) a' r')) w'
   rw[if_pos rfl,hv2,hnext]
   have hd:=List.pairwise_append.1 HM'.dist
   refine (Mem.subset (S:=feet (denM ρ1 0 (L x))) ⟨HM'.kept,fun e he=>?_,fun e he g hg=>?_,List.pairwise_append.2 ⟨List.pairwise_singleton _ _,hd.2.1,fun e he f hf g hg hfg=>?_⟩⟩ (fun g hg=>(hfe g).2 hg))
   · rcases List.mem_append.1 he with he|he
     · obtain rfl:=List.mem_singleton.1 he
       exact⟨x',ρ',hy',hg',rfl,⟨Kept.refl _ _,fun e he=>HM'.holds e (List.mem_append_left _ he),fun e he g hg=>.inl ⟨e,he,hg⟩,hd.1⟩,fun g=>(feetL_iff _ g).symm⟩
     · exact HM'.holds e (List.mem_append_right _ he)
   · rcases List.mem_append.1 he with he|he
     · obtain rfl:=List.mem_singleton.1 he
       obtain⟨e',he',hf'⟩:=(feetL_iff _ g).1 hg
       exact HM'.own e' (List.mem_append_left _ he') g hf'
     · exact HM'.own e (List.mem_append_right _ he) g hg
   · obtain rfl:=List.mem_singleton.1 he
     obtain⟨e',he',hf'⟩:=(feetL_iff _ g).1 hg
     exact hd.2.2 e' he' f hf g hf' hfg
end
section
structure Cl where
 t:Int
 k:Int
 key:Int
 x:Int
 fr:Int
 to:Int
 whn:Int
 c:Int
 v:Int
def Cl.nil:Cl:=⟨0,0,0,0,0,0,0,0,0⟩
def Cl.end (i:Nat) (e:Ev) (c:Cl):Cl:=if c.t=e.t/\c.to=0 then { c with to:=(i:Int)+1,whn:=e.whn,c:=e.c,v:=e.v } else c
def QfS (l:List Cl) (i:Nat) (e:Ev):List Cl:=if e.kind=1 then l++[⟨e.t,e.k,e.key,e.x,(i:Int)+1,0,0,0,0⟩]else if e.kind=2 then l.map (Cl.end i e)else l
def clTo:List Ev->List Cl × Nat:=List.foldl (fun p e=>(QfS p.1 p.2 e,p.2+1)) ([],0)
def QF (h:List Ev):List Cl:=(clTo h).1
theorem Qpd (h:List Ev):(clTo h).2=h.length:=by
 have key:∀(h:List Ev) (p:List Cl × Nat),(h.foldl (fun p e=>(QfS p.1 p.2 e,p.2+1)) p).2=p.2+h.length:=by
  intro h
  induction h with
  |nil=>intro p;rfl
  |cons e h ih=>intro p;rw[List.foldl_cons,ih,List.length_cons];dsimp only;omega
 have:=key h ([],0)
 unfold clTo;rw[this];exact Nat.zero_add _
theorem Qev (h:List Ev) (e:Ev):QF (h++[e])=QfS (QF h) h.length e:=by
 have e1:clTo (h++[e])=(QfS (clTo h).1 (clTo h).2 e,(clTo h).2+1):=by
  unfold clTo;rw[List.foldl_append];rfl
 unfold QF
 rw[e1,Qpd]
theorem Qjr {α:Type}{f:α->α}{l:List α}{d:α}{i:Nat}(h:i<l.length):(l.map f).getD i d=f (l.getD i d):=by
 simp[List.getD_eq_getElem?_getD,h]
structure EvOK (z:Sh) (g:Gh) (e:Ev):Prop where
 kind:e.kind=1\/e.kind=2\/e.kind=3
 t:e.kind≠3->∃t:Nat,t<4/\e.t=t
 op:e.kind≠3->opOk e.k e.key e.x=true
 s0:1<=e.step
 s1:e.step<=z.steps
 ans:e.kind=2->∃j:Nat,e.whn=(j:Int)+1/\j<g.n/\(z.deeds.getD j Vd.nil).d.c=e.c/\(z.deeds.getD j Vd.nil).d.v=e.v
structure Link (R:Rec) (of:List Nat) (t:Nat) (tog:Int) (i:Nat):Prop where
 yes:Ql R.tog t=tog->∃j:Nat,j<of.length/\R.whn.getD t 0=(j:Int)+1/\of.getD j 0=i
 no:Ql R.tog t≠tog->∀j,j<of.length->of.getD j 0≠i
structure HInv (z:Sh) (g:Gh) (of:List Nat):Prop where
 ln:of.length=z.deeds.length
 lt:∀j,j<of.length->of.getD j 0<(QF z.hist).length
 op:∀j,j<of.length->((QF z.hist).getD (of.getD j 0) Cl.nil).t=(z.deeds.getD j Vd.nil).d.t/\((QF z.hist).getD (of.getD j 0) Cl.nil).k=(z.deeds.getD j Vd.nil).d.k/\((QF z.hist).getD (of.getD j 0) Cl.nil).key=(z.deeds.getD j Vd.nil).d.key/\((QF z.hist).getD (of.getD j 0) Cl.nil).x=(z.deeds.getD j Vd.nil).d.x
 inj:∀j k,j<k->k<of.length->of.getD j 0≠of.getD k 0
 ans:∀i,i<(QF z.hist).length->((QF z.hist).getD i Cl.nil).to≠0->∃j:Nat,((QF z.hist).getD i Cl.nil).whn=(j:Int)+1/\j<g.n/\of.getD j 0=i/\(z.deeds.getD j Vd.nil).d.c=((QF z.hist).getD i Cl.nil).c/\(z.deeds.getD j Vd.nil).d.v=((QF z.hist).getD i Cl.nil).v
 opn:∀t,t<4->(z.w t).does≠0->∃i,i<(QF z.hist).length/\((QF z.hist).getD i Cl.nil).t=t/\((QF z.hist).getD i Cl.nil).to=0/\((QF z.hist).getD i Cl.nil).k=(z.w t).k/\((QF z.hist).getD i Cl.nil).key=(z.w t).key/\((QF z.hist).getD i Cl.nil).x=(z.w t).x/\Link g.R of t (z.w t).tog i/\Link g.Q (of.take g.n) t (z.w t).tog i
 uni:∀i i',i<(QF z.hist).length->i'<(QF z.hist).length->((QF z.hist).getD i Cl.nil).to=0->((QF z.hist).getD i' Cl.nil).to=0->((QF z.hist).getD i Cl.nil).t=((QF z.hist).getD i' Cl.nil).t->i=i'
 idl:∀t,t<4->(z.w t).does=0->∀i,i<(QF z.hist).length->((QF z.hist).getD i Cl.nil).t=t->((QF z.hist).getD i Cl.nil).to≠0
 th:∀i,i<(QF z.hist).length->∃t:Nat,t<4/\((QF z.hist).getD i Cl.nil).t=t
 rt:∀j k,j<k->k<of.length->((QF z.hist).getD (of.getD k 0) Cl.nil).to≠0->((QF z.hist).getD (of.getD j 0) Cl.nil).fr<=((QF z.hist).getD (of.getD k 0) Cl.nil).to
 tos:∀i,i<(QF z.hist).length->0<=((QF z.hist).getD i Cl.nil).to/\((QF z.hist).getD i Cl.nil).to<=z.hist.length/\1<=((QF z.hist).getD i Cl.nil).fr/\((QF z.hist).getD i Cl.nil).fr<=z.hist.length
 ev:∀e∈z.hist,EvOK z g e
 clk:z.hist.Pairwise (fun a b=>a.step<b.step)
 sl:(z.hist.length:Int)<=z.steps
theorem QoJ (K:Int):HInv (Sh.new K) (Gh.new K) [] where
 ln:=rfl
 lt:=fun j hj=>absurd hj (Nat.not_lt_zero _)
 op:=fun j hj=>absurd hj (Nat.not_lt_zero _)
 inj:=fun j k _ hk=>absurd hk (Nat.not_lt_zero _)
 ans:=fun i hi=>absurd hi (Nat.not_lt_zero _)
 opn:=fun t _ h=>absurd rfl h
 uni:=fun i _ hi=>absurd hi (Nat.not_lt_zero _)
 idl:=fun _ _ _ i hi=>absurd hi (Nat.not_lt_zero _)
 th:=fun i hi=>absurd hi (Nat.not_lt_zero _)
 rt:=fun j k _ hk=>absurd hk (Nat.not_lt_zero _)
 tos:=fun i hi=>absurd hi (Nat.not_lt_zero _)
 ev:=fun e he=>(by cases he)
 clk:=List.Pairwise.nil
 sl:=Int.le_refl 0
theorem EvOK.mono {z z':Sh}{g g':Gh}{e:Ev}(h:EvOK z g e) (hs:z.steps<=z'.steps) (hn:g.n<=g'.n) (hd:∀j,j<g.n->z'.deeds.getD j Vd.nil=z.deeds.getD j Vd.nil):EvOK z' g' e:=
 ⟨h.kind,h.t,h.op,h.s0,Int.le_trans h.s1 hs,fun hk=>by
  obtain⟨j,h1,h2,h3,h4⟩:=h.ans hk
  exact⟨j,h1,Nat.lt_of_lt_of_le h2 hn,by rw[hd j h2];exact h3,by rw[hd j h2];exact h4⟩⟩
section
variable {z z':Sh}{g:Gh}{of:List Nat}
theorem HInv.same (H:HInv z g of) (hh:z'.hist=z.hist) (hd:z'.deeds=z.deeds) (hs:z.steps<=z'.steps) (hw:∀t,t<4->((z'.w t).does=0↔(z.w t).does=0)/\(z'.w t).tog=(z.w t).tog/\(z'.w t).k=(z.w t).k/\(z'.w t).key=(z.w t).key/\(z'.w t).x=(z.w t).x):HInv z' g of where
 ln:=by rw[hd];exact H.ln
 lt:=by rw[hh];exact H.lt
 op:=by rw[hh,hd];exact H.op
 inj:=H.inj
 ans:=by rw[hh,hd];exact H.ans
 opn:=fun t ht hn=>by
  obtain⟨h0,h1,h2,h3,h4⟩:=hw t ht
  rw[hh,h1,h2,h3,h4]
  exact H.opn t ht (fun h=>hn (h0.2 h))
 uni:=by rw[hh];exact H.uni
 idl:=fun t ht h=>by rw[hh];exact H.idl t ht ((hw t ht).1.1 h)
 th:=by rw[hh];exact H.th
 rt:=by rw[hh];exact H.rt
 tos:=by rw[hh];exact H.tos
 ev:=by rw[hh];exact fun e he=>(H.ev e he).mono hs (Nat.le_refl _) (fun j _=>by rw[hd])
 clk:=by rw[hh];exact H.clk
 sl:=by rw[hh];exact Int.le_trans H.sl hs
theorem HInv.tell (H:HInv z g of) (hn:g.n<=z.deeds.length) {V' dv':Int}:HInv z ⟨V',g.R,dv',g.R,z.deeds.length⟩ of:=
 { H with
   ans:=fun i hi h=>by
    obtain⟨j,a,b,c⟩:=H.ans i hi h
    exact⟨j,a,Nat.lt_of_lt_of_le b hn,c⟩
   opn:=fun t ht h=>by
    obtain⟨i,a,b,c,d,e,f,k,l⟩:=H.opn t ht h
    refine⟨i,a,b,c,d,e,f,k,?_⟩
    show Link g.R (of.take z.deeds.length) t _ i
    rw[<- H.ln,List.take_length];exact k
   ev:=fun e he=>(H.ev e he).mono (Int.le_refl _) hn (fun _ _=>rfl) }
theorem HInv.cut (H:HInv z g of) (hn:g.n<=z.deeds.length) (hw:∀t,t<4->((z'.w t).does=0↔(z.w t).does=0)/\(z'.w t).tog=(z.w t).tog/\(z'.w t).k=(z.w t).k/\(z'.w t).key=(z.w t).key/\(z'.w t).x=(z.w t).x) (hh:z'.hist=z.hist) (hd:z'.deeds=z.deeds.take g.n) (hs:z.steps<=z'.steps) {V':Int}:HInv z' ⟨V',g.Q,V',g.Q,g.n⟩ (of.take g.n):=by
 have hl:(of.take g.n).length=g.n:=by rw[List.length_take,H.ln];omega
 have ho:∀j,j<g.n->(of.take g.n).getD j 0=of.getD j 0:=fun j hj=>by
  simp only[List.getD_eq_getElem?_getD,List.getElem?_take];rw[if_pos hj]
 have hD:∀j,j<g.n->(z.deeds.take g.n).getD j Vd.nil=z.deeds.getD j Vd.nil:=fun j hj=>by
  simp only[List.getD_eq_getElem?_getD,List.getElem?_take];rw[if_pos hj]
 have hlen:g.n<=of.length:=by rw[H.ln];exact hn
 refine⟨by rw[hl,hd,List.length_take];omega,fun j hj=>?_,fun j hj=>?_,fun j k h hk=>?_,fun i hi h=>?_,fun t ht h=>?_,?_,fun t ht h=>?_,?_,fun j k h hk=>?_,?_,?_,?_,?_⟩
 · rw[hl]at hj;rw[ho j hj,hh];exact H.lt j (by omega)
 · rw[hl]at hj;rw[ho j hj,hh,hd,hD j hj];exact H.op j (by omega)
 · rw[hl]at hk;rw[ho j (by omega),ho k hk];exact H.inj j k h (by omega)
 · rw[hh]at hi h
   obtain⟨j,a,b,c,d,e⟩:=H.ans i hi h
   exact⟨j,by rw[hh];exact a,b,by rw[ho j b];exact c,by rw[hd,hD j b,hh];exact d,by rw[hd,hD j b,hh];exact e⟩
 · obtain⟨h0,h1,h2,h3,h4⟩:=hw t ht
   obtain⟨i,a,b,c,d,e,f,k,l⟩:=H.opn t ht (fun h'=>h (h0.2 h'))
   rw[hh,h1,h2,h3,h4]
   refine⟨i,a,b,c,d,e,f,l,?_⟩
   show Link g.Q ((of.take g.n).take g.n) t _ i
   rw[List.take_take,Nat.min_self];exact l
 · rw[hh];exact H.uni
 · rw[hh];exact H.idl t ht ((hw t ht).1.1 h)
 · rw[hh];exact H.th
 · rw[hl]at hk;rw[ho j (by omega),ho k hk,hh];exact H.rt j k h (by omega)
 · rw[hh];exact H.tos
 · rw[hh];exact fun e he=>(H.ev e he).mono hs (Nat.le_refl _) (fun j hj=>by rw[hd,hD j hj])
 · rw[hh];exact H.clk
 · rw[hh];exact Int.le_trans H.sl hs
theorem HInv.crashed (H:HInv z g of) (hh:z'.hist=z.hist++[⟨3,0,0,0,0,0,0,0,z.steps+1⟩]) (hd:z'.deeds=z.deeds) (hs:z'.steps=z.steps+1) (hw:z'.w=z.w):HInv z' g of:=by
 have hc:QF z'.hist=QF z.hist:=by
  rw[hh,Qev];unfold QfS;rw[if_neg (by show ¬(3:Int)=1;decide),if_neg (by show ¬(3:Int)=2;decide)]
 have hl:(z'.hist.length:Int)=z.hist.length+1:=by rw[hh,List.length_append];rfl
 have hsl:=H.sl
 refine⟨by rw[hd];exact H.ln,by rw[hc];exact H.lt,by rw[hc,hd];exact H.op,H.inj,by rw[hc,hd];exact H.ans,by rw[hc,hw];exact H.opn,by rw[hc];exact H.uni,by rw[hc,hw];exact H.idl,by rw[hc];exact H.th,by rw[hc];exact H.rt,fun i hi=>?_,?_,?_,by rw[hl,hs];omega⟩
 · rw[hc]at hi ⊢
   have:=H.tos i hi
   rw[hl];omega
 · rw[hh]
   intro e he
   rcases List.mem_append.1 he with he|he
   · exact (H.ev e he).mono (by omega) (Nat.le_refl _) (fun j _=>by rw[hd])
   · obtain rfl:=List.mem_singleton.1 he
     exact⟨.inr (.inr rfl),fun h=>absurd rfl h,fun h=>absurd rfl h,by show (1:Int)<=z.steps+1;omega,by show z.steps+1<=z'.steps;omega,fun h=>absurd h (by show ¬(3:Int)=2;decide)⟩
 · rw[hh]
   refine List.pairwise_append.2 ⟨H.clk,List.pairwise_singleton _ _,fun a ha b hb=>?_⟩
   obtain rfl:=List.mem_singleton.1 hb
   have:=(H.ev a ha).s1
   show a.step<z.steps+1
   omega
end
end
section
section
variable {K:Int}{z:Sh}{g:Gh}{of:List Nat}{t:Nat}
theorem HInv.called (H:HInv z g of) (I:ShInv K z g) (ht:t<4) (hd:(z.w t).does=0) {k key x:Int}(ho:opOk k key x=true):HInv (z.called t k key x) g of:=by
 have hc:QF (z.called t k key x).hist=QF z.hist++[⟨t,k,key,x,(z.hist.length:Int)+1,0,0,0,0⟩]:=by
  show QF (z.hist++[_])=_
  rw[Qev];unfold QfS;rw[if_pos rfl]
 have hl:(QF (z.called t k key x).hist).length=(QF z.hist).length+1:=by rw[hc,List.length_append];rfl
 have hold:∀i,i<(QF z.hist).length->(QF (z.called t k key x).hist).getD i Cl.nil=(QF z.hist).getD i Cl.nil:=fun i hi=>by rw[hc];exact QaS hi
 have hnew:(QF (z.called t k key x).hist).getD (QF z.hist).length Cl.nil=⟨t,k,key,x,(z.hist.length:Int)+1,0,0,0,0⟩:=by
  rw[hc];have:=QbU (l:=QF z.hist) (m:=[(⟨t,k,key,x,(z.hist.length:Int)+1,0,0,0,0⟩:Cl)]) (d:=Cl.nil) (i:=0);rw[Nat.add_zero]at this;exact this
 have hcase:∀i,i<(QF (z.called t k key x).hist).length->i<(QF z.hist).length\/i=(QF z.hist).length:=fun i hi=>by omega
 have hhl:((z.called t k key x).hist.length:Int)=z.hist.length+1:=by show ((z.hist++[_]).length:Int)=_;rw[List.length_append];rfl
 have T:=I.th t ht
 obtain⟨i1,i2,-⟩:=T.idle hd
 have h01:=T.tg01
 have hsl:=H.sl
 have hw:∀u,u≠t->(z.called t k key x).w u=z.w u:=fun u hu=>Qw _ _ hu
 have hwt:(z.called t k key x).w t=Wk.call (z.w t).th k key x (1-z.tog t) false:=Qh _ _ _
 refine⟨H.ln,fun j hj=>by rw[hl];exact Nat.lt_succ_of_lt (H.lt j hj),fun j hj=>by rw[hold _ (H.lt j hj)];exact H.op j hj,H.inj,fun i hi h=>?_,fun u hu hn=>?_,fun i i' hi hi' h h' e=>?_,fun u hu hn i hi e=>?_,fun i hi=>?_,fun j k' hjk hk h=>?_,fun i hi=>?_,?_,?_,?_⟩
 · rcases hcase i hi with h1|h1
   · rw[hold i h1]at h ⊢;exact H.ans i h1 h
   · rw[h1,hnew]at h;exact absurd rfl h
 · by_cases e:u=t
   · subst e
     refine⟨(QF z.hist).length,by omega,by rw[hnew],by rw[hnew],by rw[hnew,hwt];rfl,by rw[hnew,hwt];rfl,by rw[hnew,hwt];rfl,⟨fun h=>?_,fun _ j hj=>Nat.ne_of_lt (H.lt j hj)⟩,⟨fun h=>?_,fun _ j hj=>?_⟩⟩
     · rw[hwt]at h;exact absurd h (by show ¬Ql g.R.tog u=1-z.tog u;omega)
     · rw[hwt]at h;exact absurd h (by show ¬Ql g.Q.tog u=1-z.tog u;omega)
     · rw[List.length_take]at hj
       have:(of.take g.n).getD j 0=of.getD j 0:=by simp only[List.getD_eq_getElem?_getD,List.getElem?_take];rw[if_pos (by omega)]
       rw[this];exact Nat.ne_of_lt (H.lt j (by omega))
   · rw[hw u e]at hn ⊢
     obtain⟨i,a,b,c,d⟩:=H.opn u hu hn
     exact⟨i,by omega,by rw[hold i a];exact b,by rw[hold i a];exact c,by rw[hold i a];exact d⟩
 · rcases hcase i hi with h1|h1<;>rcases hcase i' hi' with h2|h2
   · rw[hold i h1]at h e;rw[hold i' h2]at h' e;exact H.uni i i' h1 h2 h h' e
   · rw[h2,hnew,hold i h1]at e;rw[hold i h1]at h;exact absurd h (H.idl t ht hd i h1 e)
   · rw[h1,hnew,hold i' h2]at e;rw[hold i' h2]at h';exact absurd h' (H.idl t ht hd i' h2 e.symm)
   · omega
 · by_cases eu:u=t
   · subst eu;rw[hwt]at hn;exact absurd hn (by show ¬(1:Int)=0;decide)
   · rw[hw u eu]at hn
     rcases hcase i hi with h1|h1
     · rw[hold i h1]at e ⊢;exact H.idl u hu hn i h1 e
     · rw[h1,hnew]at e;exact absurd e (by show ¬(t:Int)=u;omega)
 · rcases hcase i hi with h1|h1
   · rw[hold i h1];exact H.th i h1
   · rw[h1,hnew];exact⟨t,ht,rfl⟩
 · have h1:=H.lt j (by omega)
   have h2:=H.lt k' hk
   rw[hold _ h1,hold _ h2];rw[hold _ h2]at h;exact H.rt j k' hjk hk h
 · rcases hcase i hi with h1|h1
   · rw[hold i h1];have:=H.tos i h1;omega
   · rw[h1,hnew];dsimp only;omega
 · intro e he
   rcases List.mem_append.1 (show e∈z.hist++[_]from he)with he|he
   · exact (H.ev e he).mono (by show z.steps<=z.steps+1;omega) (Nat.le_refl _) (fun j _=>rfl)
   · obtain rfl:=List.mem_singleton.1 he
     exact⟨.inl rfl,fun _=>⟨t,ht,rfl⟩,fun _=>ho,by show (1:Int)<=z.steps+1;omega,by show z.steps+1<=z.steps+1;omega,fun h=>absurd h (by show ¬(1:Int)=2;decide)⟩
 · refine List.pairwise_append.2 ⟨H.clk,List.pairwise_singleton _ _,fun a ha b hb=>?_⟩
   obtain rfl:=List.mem_singleton.1 hb
   have:=(H.ev a ha).s1
   show a.step<z.steps+1
   omega
 · rw[hhl];show _<=z.steps+1;omega
theorem Qps {c v c' v':Int}(h:QX c v) (h':QX c' v') (e:ansW c v=ansW c' v'):c=c'/\v=v':=by
 have a:=Qd5 h
 have b:=Qd5 h'
 rw[e]at a
 exact⟨a.1.symm.trans b.1,a.2.1.symm.trans b.2.1⟩
theorem HInv.answered (H:HInv z g of) (I:ShInv K z g) (ht:t<4) (hn:(z.w t).does≠0) {w':Wk}(hT:Told g.Q t w') (e0:w'.does=0) (e1:w'.tog=(z.w t).tog/\w'.k=(z.w t).k/\w'.key=(z.w t).key/\w'.x=(z.w t).x) {m':Nat->Int}{s':Sto}:HInv ((z.moved t ⟨w',m',s'⟩).answered t w') g of:=by
 obtain⟨i0,a0,b0,c0,d1,d2,d3,-,LQ⟩:=H.opn t ht hn
 have hhist:((z.moved t ⟨w',m',s'⟩).answered t w').hist=z.hist++[⟨2,t,w'.k,w'.key,w'.x,w'.oc,w'.ov,w'.whn,z.steps+1⟩]:=rfl
 generalize hz':(z.moved t ⟨w',m',s'⟩).answered t w'=z' at hhist ⊢
 have hdeeds:z'.deeds=z.deeds:=by rw[<- hz'];rfl
 have hsteps:z'.steps=z.steps+1:=by rw[<- hz'];rfl
 have hwt:z'.w t=w':=by rw[<- hz'];exact Qh _ _ _
 have hw:∀u,u≠t->z'.w u=z.w u:=fun u hu=>by rw[<- hz'];exact Qw _ _ hu
 have hc:QF z'.hist=(QF z.hist).map (Cl.end z.hist.length ⟨2,t,w'.k,w'.key,w'.x,w'.oc,w'.ov,w'.whn,z.steps+1⟩):=by
  rw[hhist,Qev];unfold QfS;rw[if_neg (by show ¬(2:Int)=1;decide),if_pos rfl]
 have hl:(QF z'.hist).length=(QF z.hist).length:=by rw[hc,List.length_map]
 have hC:∀i,i<(QF z.hist).length->i≠i0->(QF z'.hist).getD i Cl.nil=(QF z.hist).getD i Cl.nil:=fun i hi hne=>by
  rw[hc,Qjr hi]
  unfold Cl.end
  rw[if_neg]
  rintro⟨h1,h2⟩
  exact hne (H.uni i i0 hi a0 h2 c0 (by rw[b0];exact h1))
 have hC0:(QF z'.hist).getD i0 Cl.nil={ (QF z.hist).getD i0 Cl.nil with to:=(z.hist.length:Int)+1,whn:=w'.whn,c:=w'.oc,v:=w'.ov }:=by
  rw[hc,Qjr a0]
  unfold Cl.end
  rw[if_pos ⟨b0,c0⟩]
 have hfr:∀i,i<(QF z.hist).length->((QF z'.hist).getD i Cl.nil).fr=((QF z.hist).getD i Cl.nil).fr/\((QF z'.hist).getD i Cl.nil).t=((QF z.hist).getD i Cl.nil).t/\((QF z'.hist).getD i Cl.nil).k=((QF z.hist).getD i Cl.nil).k/\((QF z'.hist).getD i Cl.nil).key=((QF z.hist).getD i Cl.nil).key/\((QF z'.hist).getD i Cl.nil).x=((QF z.hist).getD i Cl.nil).x:=fun i hi=>by
  by_cases e:i=i0
  · subst e;rw[hC0];exact⟨rfl,rfl,rfl,rfl,rfl⟩
  · rw[hC i hi e];exact⟨rfl,rfl,rfl,rfl,rfl⟩
 have hhl:(z'.hist.length:Int)=z.hist.length+1:=by rw[hhist,List.length_append];rfl
 have hsl:=H.sl
 obtain⟨j0,f1,f2,f3⟩:=LQ.yes (hT.bit.trans e1.1)
 have f1':j0<g.n/\j0<of.length:=by rw[List.length_take]at f1;omega
 have f3':of.getD j0 0=i0:=by rw[<- f3];simp only[List.getD_eq_getElem?_getD,List.getElem?_take];rw[if_pos f1'.1]
 have hD:(z.deeds.take g.n).getD j0 Vd.nil=z.deeds.getD j0 Vd.nil:=by simp only[List.getD_eq_getElem?_getD,List.getElem?_take];rw[if_pos f1'.1]
 have hcv:(z.deeds.getD j0 Vd.nil).d.c=w'.oc/\(z.deeds.getD j0 Vd.nil).d.v=w'.ov:=by
  rcases I.gl.sumQ.each t ht with⟨h0,h1,h2⟩|⟨i,h1,h2,h3,h4,h5,-⟩
  · omega
  · obtain rfl:i=j0:=by omega
    rw[hD]at h4 h5
    exact Qps h4 hT.ok (h5.symm.trans hT.ans)
 have hwhn:w'.whn=(j0:Int)+1:=by rw[<- hT.whn];exact f2
 refine⟨by rw[hdeeds];exact H.ln,fun j hj=>by rw[hl];exact H.lt j hj,fun j hj=>?_,H.inj,fun i hi h=>?_,fun u hu hn'=>?_,fun i i' hi hi' h h' e=>?_,fun u hu hn' i hi e=>?_,fun i hi=>?_,fun j k' hjk hk h=>?_,fun i hi=>?_,?_,?_,?_⟩
 · have h1:=hfr _ (H.lt j hj)
   rw[h1.2.1,h1.2.2.1,h1.2.2.2.1,h1.2.2.2.2,hdeeds];exact H.op j hj
 · rw[hl]at hi
   by_cases e:i=i0
   · subst e
     rw[hC0,hdeeds]
     exact⟨j0,hwhn,f1'.1,f3',hcv.1,hcv.2⟩
   · rw[hC i hi e]at h ⊢
     rw[hdeeds];exact H.ans i hi h
 · by_cases e:u=t
   · subst e;rw[hwt]at hn';exact absurd e0 hn'
   · rw[hw u e]at hn' ⊢
     obtain⟨i,a,b,c,d⟩:=H.opn u hu hn'
     have hne:i≠i0:=fun h=>by rw[h,b0]at b;omega
     exact⟨i,by rw[hl];exact a,by rw[hC i a hne];exact b,by rw[hC i a hne];exact c,by rw[hC i a hne];exact d⟩
 · rw[hl]at hi hi'
   have n1:i≠i0:=fun h1=>by rw[h1,hC0]at h;exact absurd h (by show ¬(z.hist.length:Int)+1=0;omega)
   have n2:i'≠i0:=fun h1=>by rw[h1,hC0]at h';exact absurd h' (by show ¬(z.hist.length:Int)+1=0;omega)
   rw[hC i hi n1]at h e;rw[hC i' hi' n2]at h' e
   exact H.uni i i' hi hi' h h' e
 · rw[hl]at hi
   by_cases ei:i=i0
   · subst ei;rw[hC0];show ¬(z.hist.length:Int)+1=0;omega
   · rw[hC i hi ei]at e ⊢
     by_cases eu:u=t
     · subst eu
       intro h
       exact ei (H.uni i i0 hi a0 h c0 (by rw[b0];exact e))
     · rw[hw u eu]at hn';exact H.idl u hu hn' i hi e
 · rw[hl]at hi;rw[(hfr i hi).2.1];exact H.th i hi
 · have h1:=H.lt j (by omega)
   have h2:=H.lt k' hk
   rw[(hfr _ h1).1]
   by_cases e:of.getD k' 0=i0
   · rw[e,hC0]
     have:=H.tos _ h1
     show _<=(z.hist.length:Int)+1
     omega
   · rw[hC _ h2 e]at h ⊢;exact H.rt j k' hjk hk h
 · rw[hl]at hi
   rw[(hfr i hi).1,hhl]
   have:=H.tos i hi
   by_cases e:i=i0
   · subst e;rw[hC0];dsimp only;omega
   · rw[hC i hi e];omega
 · rw[hhist]
   intro e he
   rcases List.mem_append.1 he with he|he
   · exact (H.ev e he).mono (by omega) (Nat.le_refl _) (fun j _=>by rw[hdeeds])
   · obtain rfl:=List.mem_singleton.1 he
     refine⟨.inr (.inl rfl),fun _=>⟨t,ht,rfl⟩,fun _=>?_,by show (1:Int)<=z.steps+1;omega,by show z.steps+1<=z'.steps;omega,fun _=>⟨j0,hwhn,f1'.1,by rw[hdeeds];exact hcv.1,by rw[hdeeds];exact hcv.2⟩⟩
     show opOk w'.k w'.key w'.x=true
     rw[e1.2.1,e1.2.2.1,e1.2.2.2];exact (I.th t ht).op hn
 · rw[hhist]
   refine List.pairwise_append.2 ⟨H.clk,List.pairwise_singleton _ _,fun a ha b hb=>?_⟩
   obtain rfl:=List.mem_singleton.1 hb
   have:=(H.ev a ha).s1
   show a.step<z.steps+1
   omega
 · rw[hhl,hsteps];omega
theorem QpF:∀ {l:List Ask}{B:Int}{r:Rec},RecOK B r->AsksOK l->l.Pairwise (fun a b=>a.t≠b.t)->(∀a∈l,bOpen r a=true) ->
 (bD r l).length=l.length/\∀i,i<l.length->((bD r l).getD i Dd.nil).t=(l.getD i Ask.nil).t/\((bD r l).getD i Dd.nil).k=(l.getD i Ask.nil).k/\((bD r l).getD i Dd.nil).key=(l.getD i Ask.nil).key/\((bD r l).getD i Dd.nil).x=(l.getD i Ask.nil).x
 |[],B,r,_,_,_,_=>⟨rfl,fun i hi=>absurd hi (Nat.not_lt_zero _)⟩
 |a::l,B,r,h,ha,hp,ho=>by
  rw[List.pairwise_cons]at hp
  have h1:=ho a List.mem_cons_self
  have ed:bDs r a=[Qdw r a]:=by unfold bDs;rw[h1];rfl
  have e:bD r (a::l)=Qdw r a::bD (Xv r a) l:=by show bDs r a++bD (Xv r a) l=_;rw[ed];rfl
  have ih:=QpF (l:=l) (Qcm h (ha a List.mem_cons_self)) ha.tail hp.2 (fun b hb=>by
   have hb1:=ho b (List.mem_cons_of_mem _ hb)
   have h2:=Qb3 h (ha a List.mem_cons_self) b.t (ha b (List.mem_cons_of_mem _ hb)).1
   rw[if_neg (fun e=>hp.1 b hb e.symm)]at h2
   unfold bOpen at hb1 ⊢
   rw[h2];exact hb1)
  rw[e]
  refine⟨by rw[List.length_cons,List.length_cons,ih.1],fun i hi=>?_⟩
  cases i with
  |zero=>exact⟨rfl,rfl,rfl,rfl⟩
  |succ i=>
   have:=ih.2 i (by rw[List.length_cons]at hi;omega)
   simpa using this
end
end
section
section
variable {K:Int}{z:Sh}{g:Gh}{of:List Nat}{t:Nat}
theorem HInv.indexed (H:HInv z g of) (I:ShInv K z g) (hs:z.steps<100000000) {z':Sh}{l:List Ask}{i4 h0:Nat}(hG:Gath z.w g.R h0 l i4) (hV:g.V=g.dv)
 (hh:z'.hist=z.hist) (hd:z'.deeds=z.deeds++(bD g.R l).map (Vd.mk (g.V+1))) (hst:z.steps<=z'.steps) (hw:∀t,t<4->((z'.w t).does=0↔(z.w t).does=0)/\(z'.w t).tog=(z.w t).tog/\(z'.w t).k=(z.w t).k/\(z'.w t).key=(z.w t).key/\(z'.w t).x=(z.w t).x) {V':Int}:
 ∃of',HInv z' ⟨V',bDo g.R l,g.dv,g.Q,g.n⟩ of':=by
 have hok:=hG.okA I
 have hne:l.Pairwise (fun a b=>a.t≠b.t):=hG.asc.imp (fun h=>Nat.ne_of_lt h)
 have hop:∀a∈l,bOpen g.R a=true:=fun a ha=>by
  have:=(hG.want a ha).opn
  unfold bOpen;simpa using this
 obtain⟨b1,b2⟩:=QpF I.gl.sumR.ok hok hne hop
 have hnn:g.n=z.deeds.length:=(I.gl.same hV).2
 have hN:=(I.gl.next hs hok).1
 have hex:∀t,∃i,t<4->(z.w t).does≠0->i<(QF z.hist).length/\((QF z.hist).getD i Cl.nil).t=t/\((QF z.hist).getD i Cl.nil).to=0/\((QF z.hist).getD i Cl.nil).k=(z.w t).k/\((QF z.hist).getD i Cl.nil).key=(z.w t).key/\((QF z.hist).getD i Cl.nil).x=(z.w t).x/\Link g.R of t (z.w t).tog i/\Link g.Q (of.take g.n) t (z.w t).tog i:=fun t=>by
  by_cases h:t<4/\(z.w t).does≠0
  · obtain⟨i,hi⟩:=H.opn t h.1 h.2
    exact⟨i,fun _ _=>hi⟩
  · exact⟨0,fun h1 h2=>absurd ⟨h1,h2⟩ h⟩
 obtain⟨ix,hix⟩:=Classical.axiomOfChoice hex
 have hW:∀i,i<l.length->Want z.w g.R (l.getD i Ask.nil):=fun i hi=>by
  rw[List.getD_eq_getElem?_getD,List.getElem?_eq_getElem hi];exact hG.want _ (List.getElem_mem hi)
 have hX:∀i,i<l.length->_:=fun i hi=>hix (l.getD i Ask.nil).t (hW i hi).t4 (hW i hi).act
 have hpair:∀i j,i<j->j<l.length->(l.getD i Ask.nil).t≠(l.getD j Ask.nil).t:=fun i j hij hj=>by
  have:=List.pairwise_iff_getElem.1 hne i j (by omega) hj hij
  simpa [List.getD_eq_getElem?_getD,List.getElem?_eq_getElem (show i<l.length by omega),List.getElem?_eq_getElem hj] using this
 have hlm:(l.map fun a=>ix a.t).length=l.length:=List.length_map _
 have oN:∀i,i<l.length->(of++l.map fun a=>ix a.t).getD (of.length+i) 0=ix (l.getD i Ask.nil).t:=fun i hi=>by
  rw[QbU];simp[List.getD_eq_getElem?_getD,hi]
 have oO:∀j,j<of.length->(of++l.map fun a=>ix a.t).getD j 0=of.getD j 0:=fun j hj=>QaS hj
 have dO:∀j,j<z.deeds.length->(z.deeds++(bD g.R l).map (Vd.mk (g.V+1))).getD j Vd.nil=z.deeds.getD j Vd.nil:=fun j hj=>QaS hj
 have dN:∀i,i<l.length->((z.deeds++(bD g.R l).map (Vd.mk (g.V+1))).getD (z.deeds.length+i) Vd.nil).d=(bD g.R l).getD i Dd.nil:=fun i hi=>by
  rw[QbU];simp[List.getD_eq_getElem?_getD,show i<(bD g.R l).length by omega]
 have hlen:(of++l.map fun a=>ix a.t).length=of.length+l.length:=by rw[List.length_append,hlm]
 have hdl:(z.deeds++(bD g.R l).map (Vd.mk (g.V+1))).length=z.deeds.length+l.length:=by rw[List.length_append,List.length_map,b1]
 have split:∀j,j<of.length+l.length->j<of.length\/∃i,i<l.length/\j=of.length+i:=fun j hj=>by
  by_cases h:j<of.length
  · exact .inl h
  · exact .inr ⟨j-of.length,by omega,by omega⟩
 have hol:=H.ln
 refine⟨of++l.map fun a=>ix a.t,by rw[hlen,hd,hdl,hol],fun j hj=>?_,fun j hj=>?_,fun j k hjk hk=>?_,fun i hi h=>?_,fun u hu hn=>?_,by rw[hh];exact H.uni,fun u hu hn=>by rw[hh];exact H.idl u hu ((hw u hu).1.1 hn),by rw[hh];exact H.th,fun j k hjk hk h=>?_,by rw[hh];exact H.tos,?_,by rw[hh];exact H.clk,by rw[hh];exact Int.le_trans H.sl hst⟩
 · rw[hlen]at hj;rw[hh]
   rcases split j hj with h|⟨i,hi,rfl⟩
   · rw[oO j h];exact H.lt j h
   · rw[oN i hi];exact (hX i hi).1
 · rw[hlen]at hj;rw[hh,hd]
   rcases split j hj with h|⟨i,hi,rfl⟩
   · rw[oO j h,dO j (by omega)];exact H.op j h
   · have e:=hX i hi
     have w:=hW i hi
     have b:=b2 i hi
     rw[oN i hi,hol,dN i hi,b.1,b.2.1,b.2.2.1,b.2.2.2]
     exact⟨e.2.1,e.2.2.2.1.trans w.k,e.2.2.2.2.1.trans w.key,e.2.2.2.2.2.1.trans w.x⟩
 · rw[hlen]at hk
   rcases split k hk with h|⟨i,hi,rfl⟩
   · rw[oO j (by omega),oO k h];exact H.inj j k hjk h
   · rw[oN i hi]
     rcases split j (by omega)with h2|⟨i2,hi2,rfl⟩
     · rw[oO j h2]
       exact (hX i hi).2.2.2.2.2.2.1.no (by rw[(hW i hi).tog];exact (hW i hi).opn) j h2
     · rw[oN i2 hi2]
       intro e
       have h1:=(hX i2 hi2).2.1
       rw[e,(hX i hi).2.1]at h1
       exact hpair i2 i (by omega) hi (by omega)
 · rw[hh]at hi h
   obtain⟨j,a,b,c,d,e⟩:=H.ans i hi h
   have b':j<g.n:=b
   exact⟨j,by rw[hh];exact a,b,by rw[oO j (by omega)];exact c,by rw[hd,dO j (by omega),hh];exact d,by rw[hd,dO j (by omega),hh];exact e⟩
 · obtain⟨w0,w1,w2,w3,w4⟩:=hw u hu
   have hn0:(z.w u).does≠0:=fun h=>hn (w0.2 h)
   obtain⟨i1,i2,i3,i4,i5,i6,i7,i8⟩:=hix u hu hn0
   refine⟨ix u,by rw[hh];exact i1,by rw[hh];exact i2,by rw[hh];exact i3,by rw[hh,w2];exact i4,by rw[hh,w3];exact i5,by rw[hh,w4];exact i6,?_,?_⟩
   · rw[w1]
     show Link (bDo g.R l) _ u _ _
     by_cases hx:∃i,i<l.length/\(l.getD i Ask.nil).t=u
     · obtain⟨p,hp,hpu⟩:=hx
       have hmem:l.getD p Ask.nil∈l:=by rw[List.getD_eq_getElem?_getD,List.getElem?_eq_getElem hp];exact List.getElem_mem hp
       have hbit:Ql (bR g.R l).tog u=(z.w u).tog:=by
        have h1:=Qhl I.gl.sumR.ok hok hne _ hmem
        have h2:Ql (bR g.R l).tog (l.getD p Ask.nil).t=(l.getD p Ask.nil).g:=by simpa [bOpen] using h1
        rw[hpu]at h2
        have h3:=(hW p hp).tog
        rw[hpu]at h3
        rw[h2,h3]
       refine⟨fun _=>?_,fun h=>absurd hbit h⟩
       have hdp:((z.deeds++(bD g.R l).map (Vd.mk (g.V+1))).getD (z.deeds.length+p) Vd.nil).d.t=u:=by rw[dN p hp,(b2 p hp).1];exact hpu
       rcases hN.each u hu with⟨h0,-,-⟩|⟨q,q1,q2,q3,q4,q5,q6⟩
       · exfalso
         unfold cntT at h0
         rw[List.countP_eq_zero]at h0
         have hlt:z.deeds.length+p<(z.deeds++(bD g.R l).map (Vd.mk (g.V+1))).length:=by omega
         have h2:=h0 _ (List.getElem_mem hlt)
         rw[List.getD_eq_getElem?_getD,List.getElem?_eq_getElem hlt]at hdp
         exact h2 (by simpa using hdp)
       · rw[hdl]at q2
         have hqp:q=z.deeds.length+p:=by
          rcases Nat.lt_trichotomy q (z.deeds.length+p)with h|h|h
          · exact absurd hdp (q6 _ h (by omega))
          · exact h
          · obtain⟨i',rfl⟩:∃i',q=z.deeds.length+i':=⟨q-z.deeds.length,by omega⟩
            rw[dN i' (by omega),(b2 i' (by omega)).1]at q3
            exact absurd (hpu.trans q3.symm) (hpair p i' (by omega) (by omega))
         exact⟨q,by rw[hlen];omega,q1,by rw[hqp,<- hol,oN p hp,hpu]⟩
     · have hnot:∀a∈l,a.t≠u:=fun a ha e=>by
        obtain⟨p,hp,rfl⟩:=List.mem_iff_getElem.1 ha
        exact hx ⟨p,hp,by rw[List.getD_eq_getElem?_getD,List.getElem?_eq_getElem hp];exact e⟩
       have hk:=Qd4 I.gl.sumR.ok hok u hu hnot
       refine⟨fun h=>?_,fun h j hj=>?_⟩
       · have h':Ql g.R.tog u=(z.w u).tog:=hk.2.2.symm.trans h
         obtain⟨j,c1,c2,c3⟩:=i7.yes h'
         exact⟨j,by rw[hlen];omega,hk.2.1.trans c2,by rw[oO j c1];exact c3⟩
       · have h':Ql g.R.tog u≠(z.w u).tog:=fun e=>h (hk.2.2.trans e)
         rw[hlen]at hj
         rcases split j hj with h2|⟨i',hi',rfl⟩
         · rw[oO j h2];exact i7.no h' j h2
         · rw[oN i' hi']
           intro e
           have h3:=(hX i' hi').2.1
           rw[e,i2]at h3
           exact hx ⟨i',hi',by omega⟩
   · rw[w1]
     show Link g.Q (List.take g.n _) u _ _
     have e1:(of++l.map fun a=>ix a.t).take g.n=of.take g.n:=by
      rw[hnn,<- hol,List.take_left',List.take_length];rfl
     rw[e1];exact i8
 · rw[hlen]at hk
   rw[hh]at h ⊢
   rcases split k hk with h2|⟨i,hi,rfl⟩
   · rw[oO k h2]at h ⊢;rw[oO j (by omega)];exact H.rt j k hjk h2 h
   · rw[oN i hi]at h;exact absurd (hX i hi).2.2.1 h
 · rw[hh]
   intro e he
   refine (H.ev e he).mono hst (Nat.le_refl _) (fun j hj=>?_)
   rw[hd,dO j (by omega)]
theorem Qcy (w:Wk) (n d:Int):(w.next n d).th=w.th/\(w.next n d).tog=w.tog/\(w.next n d).k=w.k/\(w.next n d).key=w.key/\(w.next n d).x=w.x:=by
 unfold Wk.next;split<;>exact⟨rfl,rfl,rfl,rfl,rfl⟩
theorem Qd6 (w:Wk):w.all.th=w.th/\w.all.tog=w.tog/\w.all.k=w.k/\w.all.key=w.key/\w.all.x=w.x/\w.all.does=w.does:=by
 unfold Wk.all;split<;>exact⟨rfl,rfl,rfl,rfl,rfl,rfl⟩
theorem Qj0 (z:WSt):(Qa z).1.w.th=z.w.th/\(Qa z).1.w.tog=z.w.tog/\(Qa z).1.w.k=z.w.k/\(Qa z).1.w.key=z.w.key/\(Qa z).1.w.x=z.w.x:=by
 unfold Qa
 split
 · exact⟨rfl,rfl,rfl,rfl,rfl⟩
 split
 · unfold sayP;repeat' split
   all_goals exact⟨rfl,rfl,rfl,rfl,rfl⟩
 split
 · unfold Xq
   split
   · exact⟨rfl,rfl,rfl,rfl,rfl⟩
   split
   · exact Qcy _ 32 6
   split
   · split
     · exact⟨rfl,rfl,rfl,rfl,rfl⟩
     · have a:=Qd6 (Wk.next z.w 4 8)
       have b:=Qcy z.w 4 8
       exact⟨a.1.trans b.1,a.2.1.trans b.2.1,a.2.2.1.trans b.2.2.1,a.2.2.2.1.trans b.2.2.2.1,a.2.2.2.2.1.trans b.2.2.2.2⟩
   · have a:=Qd6 (Wk.next { z.w with asks:=Xj z.w.asks (z.m (2+2*z.w.i.toNat)/281474976710656%65536) (z.m (2+2*z.w.i.toNat)/4294967296%65536) (z.m (2+2*z.w.i.toNat)%4294967296),does:=6 } 4 8)
     have b:=Qcy { z.w with asks:=Xj z.w.asks (z.m (2+2*z.w.i.toNat)/281474976710656%65536) (z.m (2+2*z.w.i.toNat)/4294967296%65536) (z.m (2+2*z.w.i.toNat)%4294967296),does:=6 } 4 8
     exact⟨a.1.trans b.1,a.2.1.trans b.2.1,a.2.2.1.trans b.2.2.1,a.2.2.2.1.trans b.2.2.2.1,a.2.2.2.2.1.trans b.2.2.2.2⟩
 split
 · unfold Xf
   split
   · exact Qcy z.w 32 9
   split
   · exact Qcy z.w 4 10
   repeat' split
   all_goals exact⟨rfl,rfl,rfl,rfl,rfl⟩
 split
 · unfold Qaf;repeat' split
   all_goals exact⟨rfl,rfl,rfl,rfl,rfl⟩
 · unfold QJ;repeat' split
   all_goals exact⟨rfl,rfl,rfl,rfl,rfl⟩
theorem Qcz {w:Wk}{n d:Int}(h:w.does≠0) (hd:d≠0):(w.next n d).does≠0:=by unfold Wk.next;split<;>assumption
theorem Qj1 (z:WSt) (h:z.w.does≠0) (hb:(Qa z).2=false):(Qa z).1.w.does≠0:=by
 unfold Qa at hb ⊢
 rw[if_neg h]at hb ⊢
 split
 · unfold sayP;repeat' split
   all_goals (first|(show ¬(2:Int)=0;decide)|(show ¬(3:Int)=0;decide)|(show ¬(4:Int)=0;decide)|(show ¬(17:Int)=0;decide))
 rename_i h1
 rw[if_neg h1]at hb
 split
 · unfold Xq
   split
   · show ¬(5:Int)=0;decide
   split
   · exact Qcz h (by decide)
   split
   · split
     · show ¬(7:Int)=0;decide
     · show (Wk.all _).does≠0
       rw[(Qd6 _).2.2.2.2.2];exact Qcz h (by decide)
   · show (Wk.all _).does≠0
     rw[(Qd6 _).2.2.2.2.2];exact Qcz (by show ¬(6:Int)=0;decide) (by decide)
 rename_i h2
 rw[if_neg h2]at hb
 split
 · unfold Xf
   split
   · exact Qcz h (by decide)
   split
   · exact Qcz h (by decide)
   repeat' split
   all_goals (first|(show ¬(11:Int)=0;decide)|(show ¬(12:Int)=0;decide)|(show ¬(13:Int)=0;decide)|(show ¬(14:Int)=0;decide))
 rename_i h3
 rw[if_neg h3]at hb
 split
 · rename_i h4
   rw[if_pos h4]at hb
   unfold Qaf at hb ⊢
   split
   · show ¬(15:Int)=0;decide
   rename_i h5
   rw[if_neg h5]at hb
   split
   · show ¬(16:Int)=0;decide
   rename_i h6
   rw[if_neg h6]at hb;cases hb
 rename_i h4
 rw[if_neg h4]at hb
 unfold QJ at hb ⊢
 split
 · show ¬(18:Int)=0;decide
 rename_i h5
 rw[if_neg h5]at hb
 split
 · show ¬(19:Int)=0;decide
 rename_i h6
 rw[if_neg h6]at hb
 split
 · show ¬(20:Int)=0;decide
 rename_i h7
 rw[if_neg h7]at hb
 split
 · show ¬(21:Int)=0;decide
 rename_i h8
 rw[if_neg h8]at hb
 split
 · rename_i h9
   rw[if_pos h9]at hb;cases hb
 · show ¬(if z.w.said then (3:Int)else 1)=0
   split<;>decide
theorem QfY (I:ShInv K z g) (ht:t<4) (hn:(z.w t).does≠0) (hb:(Qa (z.wst t)).2=true):Told g.Q t (Qa (z.wst t)).1.w/\(Qa (z.wst t)).1.w.does=0/\(Qa (z.wst t)).1.m=z.m/\(Qa (z.wst t)).1.s=z.s/\((z.w t).does=16\/(z.w t).does=21):=by
 have T:=I.th t ht
 have h0:=T.d0
 have h21:=T.d21
 have hn':¬(z.wst t).w.does=0:=hn
 unfold Qa at hb ⊢
 rw[if_neg hn']at hb ⊢
 by_cases c1:(z.wst t).w.does<=3
 · rw[if_pos c1]at hb;cases hb
 rw[if_neg c1]at hb ⊢
 by_cases c2:(z.wst t).w.does<=7
 · rw[if_pos c2]at hb;cases hb
 rw[if_neg c2]at hb ⊢
 by_cases c3:(z.wst t).w.does<=13
 · rw[if_pos c3]at hb;cases hb
 rw[if_neg c3]at hb ⊢
 by_cases c4:(z.wst t).w.does<=16
 · rw[if_pos c4]at hb ⊢
   unfold Qaf at hb ⊢
   by_cases c5:(z.wst t).w.does=14
   · rw[if_pos c5]at hb;cases hb
   rw[if_neg c5]at hb ⊢
   by_cases c6:(z.wst t).w.does=15
   · rw[if_pos c6]at hb;cases hb
   rw[if_neg c6]at hb ⊢
   have h16:(z.w t).does=16:=by
    have a:¬(z.w t).does<=13:=c3
    have b:(z.w t).does<=16:=c4
    have c:¬(z.w t).does=14:=c5
    have d:¬(z.w t).does=15:=c6
    omega
   have:=(T.rep h16).1
   exact⟨⟨this.bit,this.ok,this.ans,this.whn⟩,rfl,rfl,rfl,.inl h16⟩
 · rw[if_neg c4]at hb ⊢
   unfold QJ at hb ⊢
   by_cases c5:(z.wst t).w.does=17
   · rw[if_pos c5]at hb;cases hb
   rw[if_neg c5]at hb ⊢
   by_cases c6:(z.wst t).w.does=18
   · rw[if_pos c6]at hb;cases hb
   rw[if_neg c6]at hb ⊢
   by_cases c7:(z.wst t).w.does=19
   · rw[if_pos c7]at hb;cases hb
   rw[if_neg c7]at hb ⊢
   by_cases c8:(z.wst t).w.does=20
   · rw[if_pos c8]at hb;cases hb
   rw[if_neg c8]at hb ⊢
   by_cases c9:(z.wst t).m 1=(z.wst t).w.v/\Ql ((z.wst t).w.seen 0) (z.wst t).w.th=(z.wst t).w.tog
   · rw[if_pos c9]
     have e21:(z.w t).does=21:=by
      have a:¬(z.w t).does<=16:=c4
      have b:¬(z.w t).does=17:=c5
      have c:¬(z.w t).does=18:=c6
      have d:¬(z.w t).does=19:=c7
      have e:¬(z.w t).does=20:=c8
      omega
     obtain⟨d1,d2⟩:=c9
     have d1:z.m 1=(z.w t).v:=d1
     have d2:Ql ((z.w t).seen 0) (z.w t).th=(z.w t).tog:=d2
     have hv:(z.w t).v=g.dv:=by rw[<- d1];exact I.gl.done
     rw[T.th,T.lk2 (by omega) hv]at d2
     obtain⟨c,v,hA,ha,-⟩:=I.toldQ ht hn d2
     have hc:=Qd5 hA
     have e1:(z.w t).seen 1=ansW c v:=(T.lk3 (by omega) hv).trans ha
     refine⟨⟨d2,?_,?_,?_⟩,rfl,rfl,rfl,.inr e21⟩
     · show QX ((z.w t).seen 1/4294967296%4294967296) ((z.w t).seen 1%4294967296)
       rw[e1,hc.1,hc.2.1];exact hA
     · show _=ansW ((z.w t).seen 1/4294967296%4294967296) ((z.w t).seen 1%4294967296)
       rw[e1,hc.1,hc.2.1];exact ha
     · exact (T.lk4 (by omega) hv).symm
   · rw[if_neg c9]at hb;cases hb
def Fine (K:Int) (z:Sh) (g:Gh):Prop:=ShInv K z g/\∃of,HInv z g of
theorem QoR {K:Int}(h1:1<=K) (h6:K<=6):Fine K (Sh.new K) (Gh.new K):=⟨Qmv h1 h6,[],QoJ K⟩
theorem Qaw (F:Fine K z g) (ht:t<4) (k key x:Int):Fine K (z.call t k key x) g:=by
 obtain⟨I,of,H⟩:=F
 refine⟨Qjx I ht k key x,of,?_⟩
 unfold Sh.call
 split
 · rename_i h;exact H.called I ht h.1 h.2
 · exact H
theorem QkX (F:Fine K z g) (l:Int):Fine K (z.evict l) g:=by
 obtain⟨I,of,H⟩:=F
 refine⟨QhX I l,of,?_⟩
 unfold Sh.evict
 split
 · exact H.same rfl rfl (Int.le_refl _) (fun t _=>⟨Iff.rfl,rfl,rfl,rfl,rfl⟩)
 · exact H
theorem QlQ {α:Type}{f:Nat->α}{t:Nat}{x:α}{p:Nat->α->Prop}(h:p t x) (h2:∀u,u≠t->p u (f u)) (u:Nat):p u (setF f t x u):=by
 by_cases e:u=t
 · subst e;rw[Qh];exact h
 · rw[Qw _ _ e];exact h2 u e
theorem Xd (F:Fine K z g) (ht:t<4) (hs:z.steps<100000000) (hn:(z.w t).does≠0):Fine K (z.stepped t) (g.step z t):=by
 obtain⟨I,of,H⟩:=F
 refine⟨QfB I ht hs hn,?_⟩
 have hsame:=Qj0 (z.wst t)
 have hw (hb:(Qa (z.wst t)).2=false):∀u,u<4->((setF z.w t (Qa (z.wst t)).1.w u).does=0↔(z.w u).does=0)/\(setF z.w t (Qa (z.wst t)).1.w u).tog=(z.w u).tog/\(setF z.w t (Qa (z.wst t)).1.w u).k=(z.w u).k/\(setF z.w t (Qa (z.wst t)).1.w u).key=(z.w u).key/\(setF z.w t (Qa (z.wst t)).1.w u).x=(z.w u).x:=fun u _=>
  QlQ (p:=fun u (w:Wk)=>(w.does=0↔(z.w u).does=0)/\w.tog=(z.w u).tog/\w.k=(z.w u).k/\w.key=(z.w u).key/\w.x=(z.w u).x)
   ⟨⟨fun h=>absurd h (Qj1 _ hn hb),fun h=>absurd h hn⟩,hsame.2.1,hsame.2.2.1,hsame.2.2.2.1,hsame.2.2.2.2⟩ (fun u _=>⟨Iff.rfl,rfl,rfl,rfl,rfl⟩) u
 unfold Gh.step
 by_cases e11:(z.w t).does=11
 · rw[if_pos e11]
   have hb:=QcP e11
   have e:Qa (z.wst t)=((Qa (z.wst t)).1,false):=by rw[<- hb]
   rw[Qa8 e11 e]
   have hho:Xn (z.w t):=⟨by omega,by omega⟩
   have O:=I.ho t ht hho
   have hV:=O.low (.inl (by omega))
   have hv:=O.ver (by omega) (by omega)
   obtain⟨hG,hD,-,-⟩:=O.nx (by omega) (by omega)
   have e2:(Qa (z.wst t)).1=⟨{ z.w t with does:=12 },z.m,z.s.save 0 ((z.w t).v+1)⟩:=by
    have:Qa (z.wst t)=(⟨{ z.w t with does:=12 },z.m,z.s.save 0 ((z.w t).v+1)⟩,false):=by simp[Qa,Xf,Sh.wst,e11]
    rw[this]
   refine H.indexed I hs hG hV (z':=(z.moved t (Qa (z.wst t)).1).counted (Qa (z.wst t)).1.w.deeds) rfl ?_ (by show z.steps<=z.steps+1;omega) (hw hb)
   rw[e2]
   show z.deeds++(z.w t).deeds.map (Vd.mk (putF z.s.now 0 ((z.w t).v+1) 0))=_
   rw[hD,QV,hv,hV]
 · rw[if_neg e11]
   have hnoans:(Qa (z.wst t)).2=false->HInv (z.stepped t) g of:=fun hb=>by
    have e:Qa (z.wst t)=((Qa (z.wst t)).1,false):=by rw[<- hb]
    rw[Qo e11 e]
    exact H.same rfl rfl (by show z.steps<=z.steps+1;omega) (hw hb)
   by_cases e14:(z.w t).does=14
   · rw[if_pos e14]
     have hb:(Qa (z.wst t)).2=false:=by simp[Qa,Qaf,Sh.wst,e14]
     have H2:=hnoans hb
     have e:Qa (z.wst t)=((Qa (z.wst t)).1,false):=by rw[<- hb]
     have hdd:(z.stepped t).deeds=z.deeds:=by rw[Qo e11 e];rfl
     have:=H2.tell (by rw[hdd];exact I.gl.nle) (V':=g.V) (dv':=g.V)
     rw[hdd]at this
     exact⟨of,this⟩
   · rw[if_neg e14]
     cases hb:(Qa (z.wst t)).2
     · exact⟨of,hnoans hb⟩
     · obtain⟨hT,h0,hm,hss,-⟩:=QfY I ht hn hb
       have e:Qa (z.wst t)=((Qa (z.wst t)).1,true):=by rw[<- hb]
       rw[Qbk e11 e]
       exact⟨of,H.answered I ht hn hT h0 ⟨hsame.2.1,hsame.2.2.1,hsame.2.2.2.1,hsame.2.2.2.2⟩⟩
theorem Qh4 (F:Fine K z g) (ht:t<4) (hs:z.steps<100000000):∃g',Fine K (z.step t) g':=by
 unfold Sh.step
 split
 · exact⟨g,F⟩
 · rename_i h;exact⟨_,Xd F ht hs h⟩
def Gh.crash (g:Gh) (z:Sh) (lands:Int):Gh:=if Qt lands z.s 0=g.V then ⟨g.V,g.R,g.V,g.R,z.deeds.length⟩else ⟨g.dv,g.Q,g.dv,g.Q,g.n⟩
theorem QkY (F:Fine K z g) (lands:Int):Fine K (z.crash lands) (g.crash z lands):=by
 obtain⟨I,of,H⟩:=F
 have hw:∀u,u<4->(((z.w u).again).does=0↔(z.w u).does=0)/\((z.w u).again).tog=(z.w u).tog/\((z.w u).again).k=(z.w u).k/\((z.w u).again).key=(z.w u).key/\((z.w u).again).x=(z.w u).x:=fun u _=>by
  unfold Wk.again
  split
  · exact⟨Iff.rfl,rfl,rfl,rfl,rfl⟩
  · rename_i h;exact⟨⟨fun h'=>absurd h' (by show ¬(17:Int)=0;decide),fun h'=>absurd h' h⟩,rfl,rfl,rfl,rfl⟩
 have hc:=H.crashed (z':={ z with hist:=z.hist++[⟨3,0,0,0,0,0,0,0,z.steps+1⟩],steps:=z.steps+1 }) rfl rfl rfl rfl
 unfold Gh.crash
 rcases inv_crash I lands with⟨h1,h2,h3⟩|⟨h1,h2,h3,h4,h5⟩
 · rw[if_pos h1]
   refine⟨h2,of,?_⟩
   have h6:=hc.tell (V':=g.V) (dv':=g.V) I.gl.nle
   exact h6.same (z':=z.crash lands) rfl h3 (Int.le_refl _) hw
 · rw[if_neg (by omega)]
   exact⟨h4,of.take g.n,hc.cut (z':=z.crash lands) I.gl.nle hw rfl h5 (Int.le_refl _)⟩
theorem XP (z:Sh) (t:Nat):z.steps<=(z.step t).steps/\(z.step t).steps<=z.steps+1:=by
 unfold Sh.step
 split
 · omega
 · unfold Sh.stepped
   dsimp only
   split<;>split<;>(show z.steps<=z.steps+1/\z.steps+1<=z.steps+1;omega)
theorem QaR (t:Nat):∀(n:Nat) (z:Sh),z.steps<=(z.run t n).steps/\(z.run t n).steps<=z.steps+n
 |0,z=>by show z.steps<=z.steps/\z.steps<=z.steps+((0:Nat):Int);omega
 |n+1,z=>by
  have h1:=XP z t
  have h2:=QaR t n (z.step t)
  show z.steps<=((z.step t).run t n).steps/\((z.step t).run t n).steps<=z.steps+((n+1:Nat):Int)
  omega
theorem QjE (ht:t<4):∀(n:Nat) {z:Sh}{g:Gh},Fine K z g->z.steps+n<100000000->∃g',Fine K (z.run t n) g'
 |0,z,g,F,_=>⟨g,F⟩
 |n+1,z,g,F,hs=>by
  obtain⟨g1,F1⟩:=Qh4 F ht (by omega)
  have:=XP z t
  exact QjE ht n F1 (by omega)
end
end
section
structure SoC where
 ms:Nat->Int
 mo:Nat->Int
 W:Nat->Wk
 tog:Nat->Int
 hist:List Ev
 deeds:List Vd
 R:Rec
 V:Int
def askB (R:Rec) (ms:Nat->Int) (u:Nat):Bool:=decide (ms u≠0/\ms u-1≠Ql R.tog u)
def Qld (ms mo:Nat->Int) (u:Nat):Ask:=⟨u,ms u-1,mo u/281474976710656%65536,mo u/4294967296%65536,mo u%4294967296⟩
def askL (R:Rec) (ms mo:Nat->Int):Nat->List Ask
 |0=>[]
 |i+1=>askL R ms mo i++(bif askB R ms i then [Qld ms mo i]else [])
def askN (R:Rec) (ms:Nat->Int) (i:Nat):Nat->Nat
 |0=>0
 |n+1=>(bif askB R ms i then 2 else 1)+askN R ms (i+1) n
def left (c:SoC) (w:Wk):Nat:=
 if w.does=3 then 77+askN c.R c.ms 0 4 else if w.does=4 then 76+askN c.R c.ms 0 4
 else if w.does=5 then 43+(32-w.i.toNat)+askN c.R c.ms 0 4 else if w.does=6 then 43+askN c.R c.ms w.i.toNat (4-w.i.toNat)
 else if w.does=7 then 44+askN c.R c.ms (w.i.toNat+1) (3-w.i.toNat)else if w.does=8 then 11+(32-w.i.toNat)
 else if w.does=9 then 7+(4-w.i.toNat)else (17-w.does).toNat
structure Solo (t:Nat) (c:SoC) (z:Sh) (g:Gh):Prop where
 d3:3<=(z.w t).does
 d16:(z.w t).does<=16
 ms:∀u,u<4->z.m (3+2*u)=c.ms u
 mo:∀u,u<4->z.m (2+2*u)=c.mo u
 free:(z.w t).does=3->z.m 0=0
 W:∀u,u≠t->z.w u=c.W u
 tog:z.tog=c.tog
 hist:z.hist=c.hist
 R0:(z.w t).does<=11->g.R=c.R/\g.V=c.V/\z.deeds=c.deeds
 R1:12<=(z.w t).does->g.R=bDo c.R (askL c.R c.ms c.mo 4)/\g.V=c.V+1/\z.deeds=c.deeds++(bD c.R (askL c.R c.ms c.mo 4)).map (Vd.mk (c.V+1))
 a6:(z.w t).does=6->(z.w t).asks=askL c.R c.ms c.mo (z.w t).i.toNat
 a7:(z.w t).does=7->(z.w t).asks=askL c.R c.ms c.mo (z.w t).i.toNat++[⟨(z.w t).i.toNat,c.ms (z.w t).i.toNat-1,0,0,0⟩]/\askB c.R c.ms (z.w t).i.toNat=true
 a8:8<=(z.w t).does->(z.w t).does<=11->(z.w t).asks=askL c.R c.ms c.mo 4
section
variable {K:Int}{z:Sh}{g:Gh}{t:Nat}{c:SoC}
theorem Solo.go (S:Solo t c z g) {w':Wk}{m':Nat->Int}{s':Sto}{g':Gh}{d:Int}(hd:w'.does=d) (k3:3<d) (k16:d<=16) (hm:∀a,2<=a->m' a=z.m a)
 (R0:d<=11->(z.w t).does<=11/\g'=g) (R1:12<=d->12<=(z.w t).does/\g'.R=g.R/\g'.V=g.V)
 (a6:d=6->w'.asks=askL c.R c.ms c.mo w'.i.toNat) (a7:d=7->w'.asks=askL c.R c.ms c.mo w'.i.toNat++[⟨w'.i.toNat,c.ms w'.i.toNat-1,0,0,0⟩]/\askB c.R c.ms w'.i.toNat=true) (a8:8<=d->d<=11->w'.asks=askL c.R c.ms c.mo 4):Solo t c (z.moved t ⟨w',m',s'⟩) g':=by
 subst hd
 have e:(z.moved t ⟨w',m',s'⟩).w t=w':=Qh _ _ _
 refine⟨by rw[e];omega,by rw[e];exact k16,fun u hu=>(hm _ (by omega)).trans (S.ms u hu),fun u hu=>(hm _ (by omega)).trans (S.mo u hu),fun h=>?_,fun u hu=>?_,S.tog,S.hist,fun h=>?_,fun h=>?_,fun h=>?_,fun h=>?_,fun h h2=>?_⟩
 · rw[e]at h;omega
 · exact (Qw _ _ hu).trans (S.W u hu)
 · rw[e]at h
   obtain⟨a,rfl⟩:=R0 h
   exact S.R0 a
 · rw[e]at h
   obtain⟨a,b,c'⟩:=R1 h
   obtain⟨x,y,z'⟩:=S.R1 a
   exact⟨b.trans x,c'.trans y,z'⟩
 · rw[e]at h ⊢;exact a6 h
 · rw[e]at h ⊢;exact a7 h
 · rw[e]at h h2 ⊢;exact a8 h h2
theorem Qae (c:SoC) (w:Wk) {d:Int}(h:w.does=d) (h10:10<=d):left c w=(17-d).toNat:=by
 subst h
 unfold left
 rw[if_neg (by omega),if_neg (by omega),if_neg (by omega),if_neg (by omega),if_neg (by omega),if_neg (by omega),if_neg (by omega)]
theorem Qoz (c:SoC) {w:Wk}(h:w.does=3):left c w=77+askN c.R c.ms 0 4:=by unfold left;rw[if_pos h]
theorem Qqm (c:SoC) {w:Wk}(h:w.does=4):left c w=76+askN c.R c.ms 0 4:=by unfold left;rw[if_neg (by omega),if_pos h]
theorem Qoy (c:SoC) {w:Wk}(h:w.does=5):left c w=43+(32-w.i.toNat)+askN c.R c.ms 0 4:=by unfold left;rw[if_neg (by omega),if_neg (by omega),if_pos h]
theorem Qox (c:SoC) {w:Wk}(h:w.does=6):left c w=43+askN c.R c.ms w.i.toNat (4-w.i.toNat):=by unfold left;rw[if_neg (by omega),if_neg (by omega),if_neg (by omega),if_pos h]
theorem Qql (c:SoC) {w:Wk}(h:w.does=7):left c w=44+askN c.R c.ms (w.i.toNat+1) (3-w.i.toNat):=by unfold left;rw[if_neg (by omega),if_neg (by omega),if_neg (by omega),if_neg (by omega),if_pos h]
theorem Qow (c:SoC) {w:Wk}(h:w.does=8):left c w=11+(32-w.i.toNat):=by unfold left;rw[if_neg (by omega),if_neg (by omega),if_neg (by omega),if_neg (by omega),if_neg (by omega),if_pos h]
theorem Qov (c:SoC) {w:Wk}(h:w.does=9):left c w=7+(4-w.i.toNat):=by unfold left;rw[if_neg (by omega),if_neg (by omega),if_neg (by omega),if_neg (by omega),if_neg (by omega),if_neg (by omega),if_pos h]
theorem QaG (z:Sh) (t:Nat) (r:WSt):(z.moved t r).w t=r.w:=Qh _ _ _
theorem QhC (S:Solo t c z g) (hd:6<=(z.w t).does) (hd2:(z.w t).does<=7) (hi:0<=(z.w t).i) (hi4:(z.w t).i<4) {w0:Wk}{l:List Ask}(h0:w0={ z.w t with asks:=l,does:=6 }) (hl:l=askL c.R c.ms c.mo ((z.w t).i.toNat+1)):
 Solo t c (z.moved t ⟨(Wk.next w0 4 8).all,z.m,z.s⟩) g/\left c ((Wk.next w0 4 8).all)=43+askN c.R c.ms ((z.w t).i.toNat+1) (3-(z.w t).i.toNat):=by
 subst h0
 have hA:∀w:Wk,w.all.asks=w.asks/\w.all.i=w.i:=fun w=>by unfold Wk.all;split<;>exact⟨rfl,rfl⟩
 have hD:∀w:Wk,w.all.does=w.does:=fun w=>(Qd6 w).2.2.2.2.2
 unfold Wk.next
 by_cases e4:(z.w t).i+1=4
 · rw[if_pos (by exact e4)]
   refine⟨S.go (d:=8) (hD _) (by decide) (by decide) (fun _ _=>rfl) (fun _=>⟨by omega,rfl⟩) (fun h=>absurd h (by decide)) (fun h=>absurd h (by decide)) (fun h=>absurd h (by decide)) (fun _ _=>?_),?_⟩
   · rw[(hA _).1];show l=_;rw[hl,show (z.w t).i.toNat+1=4 by omega]
   · rw[Qow c (hD _),(hA _).2]
     rw[show 3-(z.w t).i.toNat=0 by omega];rfl
 · rw[if_neg (by exact e4)]
   have ei:((z.w t).i+1).toNat=(z.w t).i.toNat+1:=by omega
   refine⟨S.go (d:=6) (hD _) (by decide) (by decide) (fun _ _=>rfl) (fun _=>⟨by omega,rfl⟩) (fun h=>absurd h (by decide)) (fun _=>?_) (fun h=>absurd h (by decide)) (fun h=>absurd h (by decide)),?_⟩
   · rw[(hA _).1,(hA _).2];show l=askL _ _ _ ((z.w t).i+1).toNat;rw[hl,ei]
   · rw[Qox c (hD _),(hA _).2]
     show 43+askN c.R c.ms ((z.w t).i+1).toNat (4-((z.w t).i+1).toNat)=_
     rw[ei,show 4-((z.w t).i.toNat+1)=3-(z.w t).i.toNat by omega]
theorem QlK (I:ShInv K z g) (S:Solo t c z g) (ht:t<4) (h15:(z.w t).does≠16):Solo t c (z.stepped t) (g.step z t)/\left c (z.w t)=left c ((z.stepped t).w t)+1:=by
 have T:=I.th t ht
 have hth:=T.th
 have s3:=S.d3
 have s16:=S.d16
 have hcase:(z.w t).does=3\/(z.w t).does=4\/(z.w t).does=5\/(z.w t).does=6\/(z.w t).does=7\/(z.w t).does=8\/(z.w t).does=9\/(z.w t).does=10\/(z.w t).does=11\/(z.w t).does=12\/(z.w t).does=13\/(z.w t).does=14\/(z.w t).does=15:=by omega
 have hg:(z.w t).does≠11->(z.w t).does≠14->g.step z t=g:=fun h1 h2=>by unfold Gh.step;rw[if_neg h1,if_neg h2]
 rcases hcase with hd|hd|hd|hd|hd|hd|hd|hd|hd|hd|hd|hd|hd
 · have e:Qa (z.wst t)=(⟨{ z.w t with does:=4 },putF z.m 0 ((t:Int)+1),z.s⟩,false):=by
    simp[Qa,sayP,Sh.wst,hd,hth,S.free hd]
   rw[Qo (by omega) e,hg (by omega) (by omega),QaG,Qoz c hd,Qqm c rfl]
   exact⟨S.go (d:=4) rfl (by decide) (by decide) (fun a ha=>Qs _ _ (by omega)) (fun _=>⟨by omega,rfl⟩) (fun h=>absurd h (by decide)) (fun h=>absurd h (by decide)) (fun h=>absurd h (by decide)) (fun h=>absurd h (by decide)),by omega⟩
 · have e:Qa (z.wst t)=(⟨{ z.w t with v:=z.m 1,i:=0,does:=5,asks:=[] },z.m,z.s⟩,false):=by
    simp[Qa,Xq,Sh.wst,hd]
   rw[Qo (by omega) e,hg (by omega) (by omega),QaG,Qqm c hd,Qoy c rfl]
   exact⟨S.go (d:=5) rfl (by decide) (by decide) (fun a ha=>rfl) (fun _=>⟨by omega,rfl⟩) (fun h=>absurd h (by decide)) (fun h=>absurd h (by decide)) (fun h=>absurd h (by decide)) (fun h=>absurd h (by decide)),by show 76+_=43+(32-Int.toNat 0)+_+1;rw[show Int.toNat 0=0 from rfl];omega⟩
 all_goals have hho:Xn (z.w t):=⟨by omega,by omega⟩
 all_goals have O:=I.ho t ht hho
 · have hi:=O.i0 (by omega)
   obtain⟨h32,has,hr⟩:=O.i5 hd
   have e:Qa (z.wst t)=(⟨Wk.next { z.w t with r:=putF (z.w t).r (z.w t).i.toNat (z.s.now (Qp (z.w t).v+(z.w t).i.toNat)) } 32 6,z.m,z.s⟩,false):=by
    simp[Qa,Xq,Sh.wst,hd]
   rw[Qo (by omega) e,hg (by omega) (by omega),QaG,Qoy c hd]
   unfold Wk.next
   by_cases e4:(z.w t).i+1=32
   · rw[if_pos (by exact e4),Qox c rfl]
     exact⟨S.go (d:=6) rfl (by decide) (by decide) (fun a ha=>rfl) (fun _=>⟨by omega,rfl⟩) (fun h=>absurd h (by decide)) (fun _=>has) (fun h=>absurd h (by decide)) (fun h=>absurd h (by decide)),by show 43+(32-(z.w t).i.toNat)+askN c.R c.ms 0 4=43+askN c.R c.ms 0 4+1;omega⟩
   · rw[if_neg (by exact e4)]
     exact⟨S.go (d:=5) hd (by decide) (by decide) (fun a ha=>rfl) (fun _=>⟨by omega,rfl⟩) (fun h=>absurd h (by decide)) (fun h=>absurd h (by decide)) (fun h=>absurd h (by decide)) (fun h=>absurd h (by decide)),Eq.trans (by show 43+(32-(z.w t).i.toNat)+askN c.R c.ms 0 4=43+(32-((z.w t).i+1).toNat)+askN c.R c.ms 0 4+1;omega) (congrArg (· +1) (Qoy c (by exact hd))).symm⟩
 · have hi:=O.i0 (by omega)
   obtain⟨h4,hr,hG⟩:=O.i6 hd
   obtain⟨r1,r2,r3⟩:=S.R0 (by omega)
   have h26:(z.w t).r 26=c.R.tog:=by rw[<- r1];exact (hr 26 (by decide)).trans (QbN I.gl.sumR.ok)
   have hu:(z.w t).i.toNat<4:=by omega
   rw[hg (by omega) (by omega),Qox c hd,show 4-(z.w t).i.toNat=(3-(z.w t).i.toNat)+1 by omega]
   by_cases hc:z.m (3+2*(z.w t).i.toNat)≠0/\z.m (3+2*(z.w t).i.toNat)-1≠Ql ((z.w t).r 26) (z.w t).i.toNat
   · have e:Qa (z.wst t)=(⟨{ z.w t with asks:=(z.w t).asks++[⟨(z.w t).i.toNat,z.m (3+2*(z.w t).i.toNat)-1,0,0,0⟩],does:=7 },z.m,z.s⟩,false):=by
      have h2:Qa (z.wst t)=(Xq (z.wst t),false):=by simp[Qa,Sh.wst,hd]
      rw[h2]
      unfold Xq
      rw[if_neg (by show ¬(z.w t).does=4;omega),if_neg (by show ¬(z.w t).does=5;omega),if_pos (by exact hd),if_pos (by exact hc)];rfl
     have hop:askB c.R c.ms (z.w t).i.toNat=true:=by
      unfold askB;rw[<- S.ms _ hu,<- h26];exact decide_eq_true hc
     rw[Qo (by omega) e,QaG,Qql c rfl]
     refine⟨S.go (d:=7) rfl (by decide) (by decide) (fun a ha=>rfl) (fun _=>⟨by omega,rfl⟩) (fun h=>absurd h (by decide)) (fun h=>absurd h (by decide)) (fun _=>⟨?_,hop⟩) (fun h=>absurd h (by decide)),?_⟩
     · show (z.w t).asks++_=_
       rw[S.a6 hd,S.ms _ hu]
     · simp only[askN];rw[hop,cond_true];omega
   · have e:Qa (z.wst t)=(⟨(Wk.next (z.w t) 4 8).all,z.m,z.s⟩,false):=by
      have h2:Qa (z.wst t)=(Xq (z.wst t),false):=by simp[Qa,Sh.wst,hd]
      rw[h2]
      unfold Xq
      rw[if_neg (by show ¬(z.w t).does=4;omega),if_neg (by show ¬(z.w t).does=5;omega),if_pos (by exact hd),if_neg (by exact hc)];rfl
     have hop:askB c.R c.ms (z.w t).i.toNat=false:=by
      unfold askB;rw[<- S.ms _ hu,<- h26];exact decide_eq_false hc
     have h0:z.w t={ z.w t with asks:=(z.w t).asks,does:=6 }:=by rw[<- hd]
     have:=QhC S (by omega) (by omega) hi h4 h0 (by simp only[askL];rw[hop,S.a6 hd];exact (List.append_nil _).symm)
     rw[Qo (by omega) e,QaG]
     refine⟨this.1,?_⟩
     rw[this.2]
     simp only[askN];rw[hop,cond_false];omega
 · have hi:=O.i0 (by omega)
   obtain⟨h4,hr,l,hl,-⟩:=O.i7 hd
   have hu:(z.w t).i.toNat<4:=by omega
   obtain⟨a1,a2⟩:=S.a7 hd
   have e:Qa (z.wst t)=(⟨(Wk.next { z.w t with asks:=askL c.R c.ms c.mo (z.w t).i.toNat++[Qld c.ms c.mo (z.w t).i.toNat],does:=6 } 4 8).all,z.m,z.s⟩,false):=by
    have h2:Qa (z.wst t)=(Xq (z.wst t),false):=by simp[Qa,Sh.wst,hd]
    rw[h2]
    unfold Xq
    rw[if_neg (by show ¬(z.w t).does=4;omega),if_neg (by show ¬(z.w t).does=5;omega),if_neg (by show ¬(z.w t).does=6;omega)]
    show ((⟨(Wk.next { z.w t with asks:=Xj (z.w t).asks (z.m (2+2*(z.w t).i.toNat)/281474976710656%65536) (z.m (2+2*(z.w t).i.toNat)/4294967296%65536) (z.m (2+2*(z.w t).i.toNat)%4294967296),does:=6 } 4 8).all,z.m,z.s⟩:WSt),false)=_
    rw[a1,QaP,S.mo _ hu];rfl
   have:=QhC S (by omega) (by omega) hi h4 (l:=askL c.R c.ms c.mo (z.w t).i.toNat++[Qld c.ms c.mo (z.w t).i.toNat]) rfl (by simp only[askL];rw[a2];rfl)
   rw[Qo (by omega) e,hg (by omega) (by omega),QaG,Qql c hd]
   exact⟨this.1,by rw[this.2];omega⟩
 · have hi:=O.i0 (by omega)
   obtain⟨h32,-⟩:=O.i8 hd
   have e:Qa (z.wst t)=(⟨Wk.next (z.w t) 32 9,z.m,z.s.save (Qp ((z.w t).v+1)+(z.w t).i.toNat) ((z.w t).r (z.w t).i.toNat)⟩,false):=by
    simp[Qa,Xf,Sh.wst,hd]
   rw[Qo (by omega) e,hg (by omega) (by omega),QaG,Qow c hd]
   unfold Wk.next
   by_cases e4:(z.w t).i+1=32
   · rw[if_pos e4,Qov c rfl]
     exact⟨S.go (d:=9) rfl (by decide) (by decide) (fun a ha=>rfl) (fun _=>⟨by omega,rfl⟩) (fun h=>absurd h (by decide)) (fun h=>absurd h (by decide)) (fun h=>absurd h (by decide)) (fun _ _=>S.a8 (by omega) (by omega)),by show _=7+(4-Int.toNat 0)+1;rw[show Int.toNat 0=0 from rfl];omega⟩
   · rw[if_neg e4]
     exact⟨S.go (d:=8) hd (by decide) (by decide) (fun a ha=>rfl) (fun _=>⟨by omega,rfl⟩) (fun h=>absurd h (by decide)) (fun h=>absurd h (by decide)) (fun h=>absurd h (by decide)) (fun _ _=>S.a8 (by omega) (by omega)),Eq.trans (by show 11+(32-(z.w t).i.toNat)=11+(32-((z.w t).i+1).toNat)+1;omega) (congrArg (· +1) (Qow c (by exact hd))).symm⟩
 · have hi:=O.i0 (by omega)
   obtain⟨h32,-⟩:=O.i9 hd
   have e:Qa (z.wst t)=(⟨Wk.next (z.w t) 4 10,z.m,z.s.flush t (Qp ((z.w t).v+1)/8+(z.w t).i.toNat)⟩,false):=by
    simp[Qa,Xf,Sh.wst,hd,hth]
   rw[Qo (by omega) e,hg (by omega) (by omega),QaG,Qov c hd]
   unfold Wk.next
   by_cases e4:(z.w t).i+1=4
   · rw[if_pos e4,Qae c _ (d:=10) rfl (by decide)]
     exact⟨S.go (d:=10) rfl (by decide) (by decide) (fun a ha=>rfl) (fun _=>⟨by omega,rfl⟩) (fun h=>absurd h (by decide)) (fun h=>absurd h (by decide)) (fun h=>absurd h (by decide)) (fun _ _=>S.a8 (by omega) (by omega)),by show _=7+1;omega⟩
   · rw[if_neg e4]
     exact⟨S.go (d:=9) hd (by decide) (by decide) (fun a ha=>rfl) (fun _=>⟨by omega,rfl⟩) (fun h=>absurd h (by decide)) (fun h=>absurd h (by decide)) (fun h=>absurd h (by decide)) (fun _ _=>S.a8 (by omega) (by omega)),Eq.trans (by show 7+(4-(z.w t).i.toNat)=7+(4-((z.w t).i+1).toNat)+1;omega) (congrArg (· +1) (Qov c (by exact hd))).symm⟩
 · have e:Qa (z.wst t)=(⟨{ z.w t with does:=11 },z.m,z.s.fence t⟩,false):=by simp[Qa,Xf,Sh.wst,hd,hth]
   rw[Qo (by omega) e,hg (by omega) (by omega),QaG,Qae c _ hd (by decide),Qae c _ (d:=11) rfl (by decide)]
   exact⟨S.go (d:=11) rfl (by decide) (by decide) (fun a ha=>rfl) (fun _=>⟨by omega,rfl⟩) (fun h=>absurd h (by decide)) (fun h=>absurd h (by decide)) (fun h=>absurd h (by decide)) (fun _ _=>S.a8 (by omega) (by omega)),rfl⟩
 · have e:Qa (z.wst t)=(⟨{ z.w t with does:=12 },z.m,z.s.save 0 ((z.w t).v+1)⟩,false):=by simp[Qa,Xf,Sh.wst,hd]
   have hV:=O.low (.inl (by omega))
   have hv:=O.ver (by omega) (by omega)
   obtain⟨hG,hD,-,-⟩:=O.nx (by omega) (by omega)
   obtain⟨r1,r2,r3⟩:=S.R0 (by omega)
   have ha:=S.a8 (by omega) (by omega)
   have hgg:g.step z t=⟨g.V+1,bDo g.R (z.w t).asks,g.dv,g.Q,g.n⟩:=by unfold Gh.step;rw[if_pos hd]
   have ew:((z.moved t ⟨{ z.w t with does:=12 },z.m,z.s.save 0 ((z.w t).v+1)⟩).counted (z.w t).deeds).w t={ z.w t with does:=12 }:=Qh _ _ _
   rw[Qa8 hd e,hgg,Qae c _ hd (by decide)]
   refine⟨⟨by rw[ew];show (3:Int)<=12;decide,by rw[ew];show (12:Int)<=16;decide,S.ms,S.mo,fun h=>?_,fun u hu=>(Qw _ _ hu).trans (S.W u hu),S.tog,S.hist,fun h=>?_,fun _=>⟨?_,?_,?_⟩,fun h=>?_,fun h=>?_,fun h h2=>?_⟩,by rw[ew,Qae c _ (d:=12) rfl (by decide)];rfl⟩
   · rw[ew]at h;exact absurd h (by show ¬(12:Int)=3;decide)
   · rw[ew]at h;exact absurd h (by show ¬(12:Int)<=11;decide)
   · show bDo g.R (z.w t).asks=_;rw[r1,ha]
   · show g.V+1=_;rw[r2]
   · show z.deeds++(z.w t).deeds.map (Vd.mk (putF z.s.now 0 ((z.w t).v+1) 0))=_
     rw[r3,hD,r1,ha,QV,hv,<- hV,r2]
   · rw[ew]at h;exact absurd h (by show ¬(12:Int)=6;decide)
   · rw[ew]at h;exact absurd h (by show ¬(12:Int)=7;decide)
   · rw[ew]at h2;exact absurd h2 (by show ¬(12:Int)<=11;decide)
 · have e:Qa (z.wst t)=(⟨{ z.w t with does:=13 },z.m,z.s.flush t 0⟩,false):=by simp[Qa,Xf,Sh.wst,hd,hth]
   rw[Qo (by omega) e,hg (by omega) (by omega),QaG,Qae c _ hd (by decide),Qae c _ (d:=13) rfl (by decide)]
   exact⟨S.go (d:=13) rfl (by decide) (by decide) (fun a ha=>rfl) (fun h=>absurd h (by decide)) (fun _=>⟨by omega,rfl,rfl⟩) (fun h=>absurd h (by decide)) (fun h=>absurd h (by decide)) (fun _ h=>absurd h (by decide)),rfl⟩
 · have e:Qa (z.wst t)=(⟨{ z.w t with does:=14 },z.m,z.s.fence t⟩,false):=by simp[Qa,Xf,Sh.wst,hd,hth]
   rw[Qo (by omega) e,hg (by omega) (by omega),QaG,Qae c _ hd (by decide),Qae c _ (d:=14) rfl (by decide)]
   exact⟨S.go (d:=14) rfl (by decide) (by decide) (fun a ha=>rfl) (fun h=>absurd h (by decide)) (fun _=>⟨by omega,rfl,rfl⟩) (fun h=>absurd h (by decide)) (fun h=>absurd h (by decide)) (fun _ h=>absurd h (by decide)),rfl⟩
 · have e:Qa (z.wst t)=(⟨{ z.w t with does:=15 },putF z.m 1 ((z.w t).v+1),z.s⟩,false):=by simp[Qa,Qaf,Sh.wst,hd]
   have hgg:g.step z t=⟨g.V,g.R,g.V,g.R,z.deeds.length⟩:=by unfold Gh.step;rw[if_neg (by omega),if_pos hd]
   rw[Qo (by omega) e,hgg,QaG,Qae c _ hd (by decide),Qae c _ (d:=15) rfl (by decide)]
   exact⟨S.go (d:=15) rfl (by decide) (by decide) (fun a ha=>Qs _ _ (by omega)) (fun h=>absurd h (by decide)) (fun _=>⟨by omega,rfl,rfl⟩) (fun h=>absurd h (by decide)) (fun h=>absurd h (by decide)) (fun _ h=>absurd h (by decide)),rfl⟩
 · have e:Qa (z.wst t)=(⟨{ z.w t with does:=16 },putF z.m 0 0,z.s⟩,false):=by simp[Qa,Qaf,Sh.wst,hd]
   rw[Qo (by omega) e,hg (by omega) (by omega),QaG,Qae c _ hd (by decide),Qae c _ (d:=16) rfl (by decide)]
   exact⟨S.go (d:=16) rfl (by decide) (by decide) (fun a ha=>Qs _ _ (by omega)) (fun h=>absurd h (by decide)) (fun _=>⟨by omega,rfl,rfl⟩) (fun h=>absurd h (by decide)) (fun h=>absurd h (by decide)) (fun _ h=>absurd h (by decide)),rfl⟩
theorem Qce (t:Nat):∀(n:Nat) {z:Sh},(z.w t).does=0->z.run t n=z/\z.ran t n=0
 |0,z,_=>⟨rfl,rfl⟩
 |n+1,z,h=>by
  have e:z.step t=z:=if_pos h
  refine⟨?_,if_pos h⟩
  show (z.step t).run t n=z
  rw[e];exact (Qce t n h).1
theorem Qdk (t:Nat):∀(n k:Nat) (z:Sh),z.run t (n+k)=(z.run t n).run t k
 |0,k,z=>by rw[Nat.zero_add];rfl
 |n+1,k,z=>by rw[Nat.add_right_comm];exact Qdk t n k (z.step t)
structure QqQ (K:Int) (t:Nat) (c:SoC) (z:Sh) (g:Gh):Prop where
 fine:Fine K z g
 idle:(z.w t).does=0
 W:∀u,u≠t->z.w u=c.W u
 R:g.R=bDo c.R (askL c.R c.ms c.mo 4)
 V:g.V=c.V+1
 deeds:z.deeds=c.deeds++(bD c.R (askL c.R c.ms c.mo 4)).map (Vd.mk (c.V+1))
 ms:∀u,u<4->z.m (3+2*u)=c.ms u
 mo:∀u,u<4->z.m (2+2*u)=c.mo u
 hist:∃e:Ev,z.hist=c.hist++[e]/\e.kind=2/\e.t=t
theorem QgE (ht:t<4):∀(n:Nat) {z:Sh}{g:Gh},Fine K z g->Solo t c z g->left c (z.w t)=n->z.steps+n<100000000 ->
 ∃g',QqQ K t c (z.run t n) g'/\∀k,n<=k->z.run t k=z.run t n/\z.ran t k=n
 |0,z,g,F,S,hl,_=>by
  exfalso
  have h3:=S.d3
  have h16:=S.d16
  rcases (show (z.w t).does=3\/(z.w t).does=4\/(z.w t).does=5\/(z.w t).does=6\/(z.w t).does=7\/(z.w t).does=8\/(z.w t).does=9\/10<=(z.w t).does by omega)with h|h|h|h|h|h|h|h
  · rw[Qoz c h]at hl;omega
  · rw[Qqm c h]at hl;omega
  · rw[Qoy c h]at hl;omega
  · rw[Qox c h]at hl;omega
  · rw[Qql c h]at hl;omega
  · rw[Qow c h]at hl;omega
  · rw[Qov c h]at hl;omega
  · rw[Qae c _ rfl h]at hl;omega
 |n+1,z,g,F,S,hl,hs=>by
  have hn:(z.w t).does≠0:=by have:=S.d3;omega
  have est:z.step t=z.stepped t:=if_neg hn
  have hst:=XP z t
  have F1:=Xd F ht (by omega) hn
  have er:∀k,z.run t (k+1)=(z.stepped t).run t k:=fun k=>by show (z.step t).run t k=_;rw[est]
  have ek:∀k,z.ran t (k+1)=(z.stepped t).ran t k+1:=fun k=>by show (if (z.w t).does=0 then 0 else (z.step t).ran t k+1)=_;rw[if_neg hn,est]
  by_cases h16:(z.w t).does=16
  · rw[Qae c _ h16 (by decide)]at hl
    have hn0:n=0:=by have:(17-16:Int).toNat=1:=rfl;omega
    subst hn0
    have hb:(Qa (z.wst t)).2=true:=by simp[Qa,Qaf,Sh.wst,h16]
    obtain⟨-,h0,hm,hss,-⟩:=QfY F.1 ht hn hb
    have e:Qa (z.wst t)=((Qa (z.wst t)).1,true):=by rw[<- hb]
    have e2:=Qbk (by omega:(z.w t).does≠11) e
    have hg:g.step z t=g:=by unfold Gh.step;rw[if_neg (by omega),if_neg (by omega)]
    rw[hg]at F1
    have hidle:((z.stepped t).w t).does=0:=by rw[e2];show (setF z.w t (Qa (z.wst t)).1.w t).does=0;rw[Qh];exact h0
    obtain⟨r1,r2,r3⟩:=S.R1 (by omega)
    refine⟨g,⟨?_,?_,fun u hu=>?_,r1,r2,?_,fun u hu=>?_,fun u hu=>?_,?_⟩,fun k hk=>?_⟩
    · rw[er 0];exact F1
    · rw[er 0];exact hidle
    · rw[er 0]
      show (z.stepped t).w u=_
      rw[e2];exact (Qw _ _ hu).trans (S.W u hu)
    · rw[er 0]
      show (z.stepped t).deeds=_
      rw[e2];exact r3
    · rw[er 0]
      show (z.stepped t).m _=_
      rw[e2];show (Qa (z.wst t)).1.m _=_;rw[hm];exact S.ms u hu
    · rw[er 0]
      show (z.stepped t).m _=_
      rw[e2];show (Qa (z.wst t)).1.m _=_;rw[hm];exact S.mo u hu
    · rw[er 0]
      show ∃e:Ev,(z.stepped t).hist=_/\_
      rw[e2]
      exact⟨_,by show z.hist++[_]=_;rw[S.hist],rfl,rfl⟩
    · obtain⟨k,rfl⟩:∃j,k=j+1:=⟨k-1,by omega⟩
      have:=Qce t k hidle
      rw[er k,ek k,er 0,this.1,this.2]
      exact⟨rfl,rfl⟩
  · obtain⟨S1,hl1⟩:=QlK F.1 S ht h16
    rw[est]at hst
    obtain⟨g',E,hk⟩:=QgE ht n F1 S1 (by omega) (by omega)
    refine⟨g',by rw[er n];exact E,fun k hkk=>?_⟩
    obtain⟨k,rfl⟩:∃j,k=j+1:=⟨k-1,by omega⟩
    have:=hk k (by omega)
    rw[er k,ek k,er n,this.1,this.2]
    exact⟨rfl,rfl⟩
end
end
section
def inT (a:Int):Bool:=decide (0<=a/\a<4)
def runB (n:Int):Bool:=decide (0<=n/\n<=1000)
structure Mv where
 kind:Int
 t:Int
 k:Int
 key:Int
 x:Int
 n:Int
 l:Int
def Sh.runA (z:Sh) (t n:Int):Sh:=bif inT t then z.run t.toNat (bif runB n then n.toNat else 0)else z
def Sh.callA (z:Sh) (t k key x:Int):Sh:=bif inT t then z.call t.toNat k key x else z
def Sh.move (z:Sh) (m:Mv):Sh:=
 if m.kind=1 then z.callA m.t m.k m.key m.x else if m.kind=2 then z.runA m.t m.n else if m.kind=3 then z.evict m.n else if m.kind=4 then z.crash m.l else z
def XW (K:Int) (l:List Mv):Sh:=l.foldl Sh.move (Sh.new K)
theorem QcT (K:Int) (l:List Mv) (m:Mv):XW K (l++[m])=(XW K l).move m:=by unfold XW;rw[List.foldl_append];rfl
theorem QcC {a:Int}(h:inT a=true):0<=a/\a<4/\a.toNat<4:=by
 have:=of_decide_eq_true h
 omega
theorem Qaq (z:Sh) (t:Nat) (k key x:Int):z.steps<=(z.call t k key x).steps/\(z.call t k key x).steps<=z.steps+1:=by
 unfold Sh.call
 split
 · show z.steps<=z.steps+1/\z.steps+1<=z.steps+1;omega
 · omega
theorem Qgj (z:Sh) (m:Mv):z.steps<=(z.move m).steps/\(z.move m).steps<=z.steps+1000:=by
 unfold Sh.move
 split
 · unfold Sh.callA
   cases inT m.t
   · rw[cond_false];omega
   · rw[cond_true];have:=Qaq z m.t.toNat m.k m.key m.x;omega
 split
 · unfold Sh.runA
   cases inT m.t
   · rw[cond_false];omega
   · rw[cond_true]
     have:=QaR m.t.toNat (bif runB m.n then m.n.toNat else 0) z
     cases hb:runB m.n
     · rw[hb]at this
       rw[cond_false]at this ⊢;omega
     · rw[hb]at this
       have h2:=of_decide_eq_true hb
       rw[cond_true]at this ⊢;omega
 split
 · unfold Sh.evict
   split
   · show z.steps<=z.steps/\z.steps<=z.steps+1000;omega
   · omega
 split
 · show z.steps<=z.steps+1/\z.steps+1<=z.steps+1000;omega
 · omega
section
variable {K:Int}{z:Sh}{g:Gh}
theorem QmW (F:Fine K z g) (hs:z.steps<90000000) (t n:Int):∃g',Fine K (z.runA t n) g':=by
 unfold Sh.runA
 cases ht:inT t
 · exact⟨g,F⟩
 · rw[cond_true]
   cases hb:runB n
   · exact⟨g,F⟩
   · have h2:=of_decide_eq_true hb
     exact QjE (QcC ht).2.2 n.toNat F (by omega)
theorem QkZ (F:Fine K z g) (t k key x:Int):Fine K (z.callA t k key x) g:=by
 unfold Sh.callA
 cases ht:inT t
 · exact F
 · exact Qaw F (QcC ht).2.2 k key x
theorem QmX (F:Fine K z g) (hs:z.steps<90000000) (m:Mv):∃g',Fine K (z.move m) g':=by
 unfold Sh.move
 split
 · exact⟨g,QkZ F _ _ _ _⟩
 split
 · exact QmW F hs _ _
 split
 · exact⟨g,QkX F _⟩
 split
 · exact⟨_,QkY F _⟩
 · exact⟨g,F⟩
end
end
section
open Go.RowKit
abbrev TCon.sh {α χ:Type}(c:TCon Sh α χ):MCon:=c.high shM ShS.z ShS.good
theorem Xc (x:ShS):(shM x).length=17:=rfl
theorem verH:(Con.mem verC.sh).holds Tryz.prog 26:=fun w0 S=>verC.lift (QpR w0 S) (by decide) (fun x _=>Xc x) (fun _=>rfl) (fun _ _ _ _ _ _ _ _=>⟨rfl,rfl,rfl,rfl⟩)
theorem cstH:(Con.mem cstC.sh).holds Tryz.prog 25:=fun w0 S=>cstC.lift (Qqv w0 S) (by decide) (fun x _=>Xc x) (fun _=>rfl) (fun _ _ _ _ _ _ _ _=>⟨rfl,rfl,rfl,rfl⟩)
theorem evH:(Con.mem evC.sh).holds Tryz.prog 67:=fun w0 S=>evC.lift (ev_con w0 S) (by decide) (fun x _=>Xc x) (fun _=>rfl) (fun _ _ _ _ _ _ _ _=>⟨rfl,rfl,rfl,rfl⟩)
theorem recH:(Con.mem recC.sh).holds Tryz.prog 32:=fun w0 S=>recC.lift (Qp6 w0 S) (by decide) (fun x _=>Xc x) (fun _=>rfl) (fun _ _ _ _ _ _ _ _=>⟨rfl,rfl,rfl,rfl⟩)
theorem QlL {ρ ρ':Nat->Nat}{sz l c:Nat}{nn:Bool}(h:∀i,ρ' (1+i)=ρ (17+i)):(SV.o (.c (.so 1 0 sz l c nn))).den ρ'=(SV.o (.c (.so 17 0 sz l c nn))).den ρ:=by
 simp only[SV.den,SA.den,SC.den]
 rw[show ρ' 1=ρ 17 from h 0]
theorem QhH {ρ ρ':Nat->Nat}{t:Nat}{ks:List CK}{sz m c:Nat}{z:Nat->Nat->Int}(h:∀i,ρ' (1+i)=ρ (17+i)):denM ρ' 1 [.rows t ks sz m c z]=denM ρ 17 [.rows t ks sz m c z]:=by
 simp only[denM,denB]
 rw[show ρ' 1=ρ 17 from h 0]
theorem ddsH:(Con.mem ddsC.sh).holds Tryz.prog 27:=fun w0 S=>ddsC.lift (Qqu w0 S) (by decide) (fun x _=>Xc x) (fun _=>rfl) (fun _ _ _ _ _ _ h _=>⟨QlL h,QhH h,rfl,rfl⟩)
theorem hisH:(Con.mem hisC.sh).holds Tryz.prog 19:=fun w0 S=>hisC.lift (Qqn w0 S) (by decide) (fun x _=>Xc x) (fun _=>rfl) (fun _ _ _ _ _ _ h _=>⟨QlL h,QhH h,rfl,rfl⟩)
def QiR:TCon Sh Nat Unit where
 pre z t:=t<4
 args t:=[.c (.v (.int .i64 t))]
 ok _ _ _:=True
 next z _ _:=z
 val _ z t _:=sv (.int .i64 (z.w t).does)
 new _ _ _ _:=[]
 len:=0
structure StpOK (z:Sh) (t:Nat):Prop where
 t4:t<4
 ok:stOK z t
 pre:(z.w t).does≠0->Qbl (z.wst t)
def Qj2:TCon Sh Nat Unit where
 pre z t:=StpOK z t
 args t:=[.c (.v (.int .i64 t))]
 ok _ _ _:=True
 next z t _:=z.step t
 val _ z t _:=QM z t
 new _ _ _ _:=[]
 len:=0
def oneA:TCon Sh Nat Value where
 pre z t:=t<4
 args t:=[.c (.v (.int .i64 t))]
 ok _ _ _:=True
 next z _ _:=z
 val _ z t r:=.t [.c (.v r),.c (.v .nilIface)]
 new _ _ _ _:=[]
 len:=0
theorem lt4 {t:Nat}(h:t<4):t=0\/t=1\/t=2\/t=3:=by omega
theorem Qfu {X Y α χ:Type}{c:TCon Y α χ}{L:X->List SB}{y:X->Y}{good:X->Prop}{P:Program}{w0:World}{S:Nat->Prop}{f:FuncId}{a:α}(h:∀z,¬c.pre z a):c.Does L y good P w0 S f a:=fun _ z _ _ hp _ _=>absurd hp (h z)
theorem doesH:(Con.mem QiR.sh).holds Tryz.prog 21:=fun w0 S=>TCon.high_of (Qia w0 S).1 fun t=>by
 by_cases h:t<4
 · rcases lt4 h with rfl|rfl|rfl|rfl
   · exact (Qm5 0).does_of QiR (Qia w0 S) (by decide) (fun x _=>Xc x) () 0 rfl rfl (fun _ _=>trivial) (fun _ _ _ _ _ _ _ _=>⟨(),trivial,rfl,rfl,rfl,rfl⟩)
   · exact (Qm5 1).does_of QiR (Qm8 w0 S) (by decide) (fun x _=>Xc x) () 1 rfl rfl (fun _ _=>trivial) (fun _ _ _ _ _ _ _ _=>⟨(),trivial,rfl,rfl,rfl,rfl⟩)
   · exact (Qm5 2).does_of QiR (Qm7 w0 S) (by decide) (fun x _=>Xc x) () 2 rfl rfl (fun _ _=>trivial) (fun _ _ _ _ _ _ _ _=>⟨(),trivial,rfl,rfl,rfl,rfl⟩)
   · exact (Qm5 3).does_of QiR (Qm6 w0 S) (by decide) (fun x _=>Xc x) () 3 rfl rfl (fun _ _=>trivial) (fun _ _ _ _ _ _ _ _=>⟨(),trivial,rfl,rfl,rfl,rfl⟩)
 · exact Qfu fun _=>h
theorem stepH:(Con.mem Qj2.sh).holds Tryz.prog 30:=fun w0 S=>TCon.high_of (Qi9 w0 S).1 fun t=>by
 by_cases h:t<4
 · rcases lt4 h with rfl|rfl|rfl|rfl
   · exact (stC 0).does_of Qj2 (Qi9 w0 S) (by decide) (fun x _=>Xc x) () 0 rfl rfl (fun _ h=>⟨h.ok,h.pre⟩) (fun _ _ _ _ _ _ _ _=>⟨(),trivial,rfl,rfl,rfl,rfl⟩)
   · exact (stC 1).does_of Qj2 (QnQ w0 S) (by decide) (fun x _=>Xc x) () 1 rfl rfl (fun _ h=>⟨h.ok,h.pre⟩) (fun _ _ _ _ _ _ _ _=>⟨(),trivial,rfl,rfl,rfl,rfl⟩)
   · exact (stC 2).does_of Qj2 (QnP w0 S) (by decide) (fun x _=>Xc x) () 2 rfl rfl (fun _ h=>⟨h.ok,h.pre⟩) (fun _ _ _ _ _ _ _ _=>⟨(),trivial,rfl,rfl,rfl,rfl⟩)
   · exact (stC 3).does_of Qj2 (QnO w0 S) (by decide) (fun x _=>Xc x) () 3 rfl rfl (fun _ h=>⟨h.ok,h.pre⟩) (fun _ _ _ _ _ _ _ _=>⟨(),trivial,rfl,rfl,rfl,rfl⟩)
 · exact Qfu fun _ hp=>h hp.t4
theorem oneH:(Con.mem oneA.sh).holds Tryz.prog 46:=fun w0 S=>TCon.high_of (Qjn w0 S).1 fun t=>by
 by_cases h:t<4
 · rcases lt4 h with rfl|rfl|rfl|rfl
   · exact (oneC 0).does_of oneA (Qjn w0 S) (by decide) (fun x _=>Xc x) () 0 rfl rfl (fun _ _=>trivial) (fun _ _ _ _ ρ _ _ _=>⟨.pointer (some ⟨ρ 3,0,none⟩),trivial,rfl,rfl,rfl,rfl⟩)
   · exact (oneC 1).does_of oneA (Qoj w0 S) (by decide) (fun x _=>Xc x) () 1 rfl rfl (fun _ _=>trivial) (fun _ _ _ _ ρ _ _ _=>⟨.pointer (some ⟨ρ 4,0,none⟩),trivial,rfl,rfl,rfl,rfl⟩)
   · exact (oneC 2).does_of oneA (Qoi w0 S) (by decide) (fun x _=>Xc x) () 2 rfl rfl (fun _ _=>trivial) (fun _ _ _ _ ρ _ _ _=>⟨.pointer (some ⟨ρ 5,0,none⟩),trivial,rfl,rfl,rfl,rfl⟩)
   · exact (oneC 3).does_of oneA (Qoh w0 S) (by decide) (fun x _=>Xc x) () 3 rfl rfl (fun _ _=>trivial) (fun _ _ _ _ ρ _ _ _=>⟨.pointer (some ⟨ρ 6,0,none⟩),trivial,rfl,rfl,rfl,rfl⟩)
 · exact Qfu fun _=>h
structure CallOK (z:Sh):Prop where
 st0:0<=z.steps
 st1:z.steps<100000000
 h:z.hist.length<=1000000000
 tog:∀t,t<4->z.tog t=0\/z.tog t=1
def callA:TCon Sh (Int × OpA) Unit where
 pre z a:=CallOK z
 args a:=[.c (.v (.int .i64 a.1)),.a [.one (.v (.int .i64 a.2.k)),.one (.v (.int .i64 a.2.key)),.one (.v (.int .i64 a.2.x))]]
 ok _ _ _:=True
 next z a _:=bif inT a.1 then z.call a.1.toNat a.2.k a.2.key a.2.x else z
 val _ z a _:=.o (.c (.v (bif inT a.1 then (bif (z.w a.1.toNat).does==0 then (bif opOk a.2.k a.2.key a.2.x then .nilIface else .iface 97 (.int .i64 1))else .iface 97 (.int .i64 6))else .iface 97 (.int .i64 2))))
 new _ _ _ _:=[]
 len:=0
theorem callH:(Con.mem callA.sh).holds Tryz.prog 23:=fun w0 S=>TCon.high_of (QjL w0 S).1 fun ⟨a,o⟩=>by
 by_cases h:0<=a/\a<4
 · obtain⟨t,rfl⟩:=Int.eq_ofNat_of_zero_le h.1
   rcases lt4 (t:=t) (by omega)with rfl|rfl|rfl|rfl
   · exact (clC 0).does_of callA (QjL w0 S) (by decide) (fun x _=>Xc x) o _ rfl rfl (fun _ h=>⟨⟨h.st0,h.st1⟩,h.h,h.tog 0 (by decide)⟩) (fun _ _ _ _ _ _ _ _=>⟨(),trivial,rfl,rfl,rfl,rfl⟩)
   · exact (clC 1).does_of callA (Qpi w0 S) (by decide) (fun x _=>Xc x) o _ rfl rfl (fun _ h=>⟨⟨h.st0,h.st1⟩,h.h,h.tog 1 (by decide)⟩) (fun _ _ _ _ _ _ _ _=>⟨(),trivial,rfl,rfl,rfl,rfl⟩)
   · exact (clC 2).does_of callA (Qph w0 S) (by decide) (fun x _=>Xc x) o _ rfl rfl (fun _ h=>⟨⟨h.st0,h.st1⟩,h.h,h.tog 2 (by decide)⟩) (fun _ _ _ _ _ _ _ _=>⟨(),trivial,rfl,rfl,rfl,rfl⟩)
   · exact (clC 3).does_of callA (Qpg w0 S) (by decide) (fun x _=>Xc x) o _ rfl rfl (fun _ h=>⟨⟨h.st0,h.st1⟩,h.h,h.tog 3 (by decide)⟩) (fun _ _ _ _ _ _ _ _=>⟨(),trivial,rfl,rfl,rfl,rfl⟩)
 · have hb:inT a=false:=decide_eq_false h
   refine calX.does_of callA (Qpf w0 S) (by decide) (fun x _=>Xc x) (a,o) (a,o) rfl rfl (fun _ _=>(by show a<0\/4<=a;omega)) (fun z _ _ _ _ _ _ _=>⟨(),trivial,?_,?_,rfl,rfl⟩)
   · show (bif inT a then _ else _)=z.z
     rw[hb];rfl
   · show (SV.o (.c (.v (bif inT a then _ else _)))).den _=_
     rw[hb];rfl
structure RunOK (z:Sh) (t:Nat) (n:Int):Prop where
 ok:0<=n->n<=1000->∀k:Nat,(k:Int)<n->stOK (z.run t k) t/\(((z.run t k).w t).does≠0->Qbl ((z.run t k).wst t))
def runN:TCon Sh (Nat × Int) Unit where
 pre z a:=a.1<4/\RunOK z a.1 a.2
 args a:=[.c (.v (.int .i64 a.1)),.c (.v (.int .i64 a.2))]
 ok _ _ _:=True
 next z a _:=z.run a.1 (bif runB a.2 then a.2.toNat else 0)
 val _ z a _:=.t [.c (.v (.int .i64 (bif runB a.2 then ((z.ran a.1 a.2.toNat:Nat):Int)else 0))),.c (.v (bif runB a.2 then .nilIface else .iface 97 (.int .i64 1)))]
 new _ _ _ _:=[]
 len:=0
structure RunG (z:Sh) (t:Nat) (n:Int) where
 k:Nat
 F:List Nat
 hk:k<=n.toNat
 hr:z.ran t n.toNat=k+(z.run t k).ran t (n.toNat-k)
def QpG (z:Sh) (t:Nat) (n:Int):Ann where
 σ:=RunG z t n
 I g:=([(0,.o (.c (.p 0 0))),(1,sv (.int .i64 t)),(2,sv (.int .i64 n)),(27,sv (.int .i64 n)),(28,sv (.int .i64 g.k))],[.abs (QB shM ShS.z ShS.good (z.run t g.k)) g.F])
 dec g:=n.toNat-g.k
 pi env M:=[0]
 nz:=[]
theorem Qn3 {z:Sh}{t:Nat}{m:Nat}(h:(z.w t).does≠0):z.ran t (m+1)=(z.step t).ran t m+1:=if_neg h
theorem Qjf (z:Sh) (t k:Nat):z.run t (k+1)=(z.run t k).step t:=by rw[Qdk];rfl
theorem Qjg:(Con.mem runN.sh).holds Tryz.prog 24:=by
 intro w0 S
 refine Qb (Γ:=[(46,.mem oneA.sh),(21,.mem QiR.sh),(30,.mem Qj2.sh)]) (fun _=>noW) Tryz.func24 rfl (by kernel_rfl) Qg Qd (fun w S' _ _=>.cons (oneH w S') (.cons (doesH w S') (.cons (stepH w S') (.nil _ _ _)))) runN.sh (fun s=>[(24,[(0,QpG s.1 s.2.1.1 s.2.1.2)])]) (fun x0 h=>by cases h) (fun s ρ w _ _ _=>Qi w _) [] (fun _ M=>[0]) 600 ?_
 rintro⟨z,⟨t,n⟩,F⟩ W ⟨ht,h1⟩ -
 refine⟨rfl,?_⟩
 dsimp only
 refine Qk (q:=∃(s:Sh × Nat × List Nat),[aP 0 0,aI ↑t]=[aP 0 0,aI (↑s.2.1:Int)]/\[SB.abs (QB shM ShS.z ShS.good z) F]=[SB.abs (QB shM ShS.z ShS.good s.1) s.2.2]/\s.2.1<4/\∀(x:List Nat × Value),True->bif decide (n<(0:Int))then endN (TCon.sh runN) [] (fun (x:SV) (M:List SB)=>[0]) (z,(t,n),F) (SV.t [aI 0,SA.c (.v (.iface 97 (Value.int .i64 (1:Int))))]) [SB.abs (QB shM ShS.z ShS.good s.1) x.1]else bif decide (n>(1000:Int))then endN (TCon.sh runN) [] (fun (x:SV) (M:List SB)=>[0]) (z,(t,n),F) (SV.t [aI 0,SA.c (.v (.iface 97 (Value.int .i64 (1:Int))))]) [SB.abs (QB shM ShS.z ShS.good s.1) x.1]else (∃(s0:Ann.σ (QpG z t n)),(eS (aP 0 0) (aP 0 0)/\eS (aI ↑t) (aI ↑t)/\eS (aI n) (aI n)/\eS (aI n) (aI n)/\eS (aI 0) (aI ↑s0.1)/\True)/\[SB.abs (QB shM ShS.z ShS.good s.1) x.1]=[SB.abs (QB shM ShS.z ShS.good (Sh.run z t s0.1)) s0.2])/\∀(s:RunG z t n),bif decide ((↑s.1:Int)<n)then ∃(s_1:Sh × Nat × List Nat),[aP 0 0,aI ↑t]=[aP 0 0,aI (↑s_1.2.1:Int)]/\[SB.abs (QB shM ShS.z ShS.good (Sh.run z t s.1)) s.2]=[SB.abs (QB shM ShS.z ShS.good s_1.1) s_1.2.2]/\s_1.2.1<4/\∀(x:List Nat × Unit),True->bif (Sh.w s_1.1 s_1.2.1).2==(0:Int)then endN (TCon.sh runN) [] (fun (x:SV) (M:List SB)=>[0]) (z,(t,n),F) (SV.t [aI ↑s.1,SA.c (.v Value.nilIface)]) [SB.abs (QB shM ShS.z ShS.good s_1.1) x.1]else ∃(s_2:Sh × Nat × List Nat),[aP 0 0,aI ↑t]=[aP 0 0,aI (↑s_2.2.1:Int)]/\[SB.abs (QB shM ShS.z ShS.good s_1.1) x.1]=[SB.abs (QB shM ShS.z ShS.good s_2.1) s_2.2.2]/\StpOK s_2.1 s_2.2.1/\∀(x:List Nat × Unit),True->∃(s':RunG z t n),((eS (aP 0 0) (aP 0 0)/\eS (aI ↑t) (aI ↑t)/\eS (aI n) (aI n)/\eS (aI n) (aI n)/\eS (aI (IntKind.wrap .i64 ((↑s.1:Int)+(1:Int)))) (aI ↑s'.1)/\True)/\[SB.abs (QB shM ShS.z ShS.good (Sh.step s_2.1 s_2.2.1)) x.1]=[SB.abs (QB shM ShS.z ShS.good (Sh.run z t s'.1)) s'.2])/\Int.toNat n-s'.1<Int.toNat n-s.1 else endN (TCon.sh runN) [] (fun (x:SV) (M:List SB)=>[0]) (z,(t,n),F) (SV.t [aI n,SA.c (.v Value.nilIface)]) [SB.abs (QB shM ShS.z ShS.good (Sh.run z t s.1)) s.2]) (by kernel_rfl) ?_
 have h1:RunOK z t n:=h1
 have ht:t<4:=ht
 have bad (hb:runB n=false) (G:List Nat):endN runN.sh [] (fun _ _=>[0]) (z,(t,n),F) (SV.t [SA.c (SC.v (.int .i64 0)),SA.c (SC.v (.iface 97 (.int .i64 1)))]) [SB.abs (QB shM ShS.z ShS.good z) G]:=by
  refine Qj rfl ⟨G,()⟩ trivial rfl ?_ ?_
  · show _=SV.ren _ (.t [.c (.v (.int .i64 (bif runB n then _ else _))),.c (.v (bif runB n then _ else _))])
    rw[hb];rfl
  · show _=[SB.abs (QB shM ShS.z ShS.good (z.run t (bif runB n then n.toNat else 0))) G].map _
    rw[hb];rfl
 have fin (hb:runB n=true) {k:Nat}(hk:k<=n.toNat) (hr:z.ran t n.toNat=k+(z.run t k).ran t (n.toNat-k)) (hd:k=n.toNat\/((z.run t k).w t).does=0) (G:List Nat):endN runN.sh [] (fun _ _=>[0]) (z,(t,n),F) (SV.t [SA.c (SC.v (.int .i64 (k:Int))),SA.c (SC.v .nilIface)]) [SB.abs (QB shM ShS.z ShS.good (z.run t k)) G]:=by
  have e:z.ran t n.toNat=k/\z.run t n.toNat=z.run t k:=by
   rcases hd with rfl|hd
   · rw[Nat.sub_self]at hr;exact⟨hr,rfl⟩
   · have a:=Qce t (n.toNat-k) hd
     rw[a.2]at hr
     refine⟨hr,?_⟩
     have b:=Qdk t k (n.toNat-k) z
     rw[show k+(n.toNat-k)=n.toNat by omega,a.1]at b;exact b
  refine Qj rfl ⟨G,()⟩ trivial rfl ?_ ?_
  · show _=SV.ren _ (.t [.c (.v (.int .i64 (bif runB n then ((z.ran t n.toNat:Nat):Int)else _))),.c (.v (bif runB n then _ else _))])
    rw[hb,e.1];rfl
  · show _=[SB.abs (QB shM ShS.z ShS.good (z.run t (bif runB n then n.toNat else 0))) G].map _
    rw[hb]
    show _=[SB.abs (QB shM ShS.z ShS.good (z.run t n.toNat)) G].map _
    rw[e.2];rfl
 refine⟨(z,t,F),rfl,rfl,ht,fun x _=>Qr (fun hlt=>bad (decide_eq_false (by omega)) x.1) (fun hge=>Qr (fun hgt=>bad (decide_eq_false (by omega)) x.1) (fun hle=>?_))⟩
 have hb:runB n=true:=decide_eq_true (by omega)
 refine⟨⟨⟨0,x.1,Nat.zero_le _,(by rw[Nat.zero_add,Nat.sub_zero];rfl)⟩,⟨rfl,rfl,rfl,rfl,rfl,trivial⟩,rfl⟩,?_⟩
 rintro⟨k,G,hk,hr⟩
 dsimp only at hk hr ⊢
 refine Qr (fun hlt=>?_) (fun hge=>?_)
 · refine⟨(z.run t k,t,G),rfl,rfl,ht,fun x1 _=>Xa (fun hd=>fin hb hk hr (.inr hd) x1.1) (fun hd=>?_)⟩
   have hok:=h1.ok (by omega) (by omega) k (by omega)
   have hr':z.ran t n.toNat=k+1+(z.run t (k+1)).ran t (n.toNat-(k+1)):=by
    rw[hr,Qjf,show n.toNat-k=(n.toNat-(k+1))+1 by omega,Qn3 (z:=z.run t k) (t:=t) hd];omega
   exact⟨(z.run t k,t,x1.1),rfl,rfl,⟨ht,hok.1,hok.2⟩,fun x2 _=>⟨⟨k+1,x2.1,by omega,hr'⟩,⟨⟨rfl,rfl,rfl,rfl,svI (sucI (by omega)),trivial⟩,congrArg (fun s=>[SB.abs (QB shM ShS.z ShS.good s) x2.1]) (Qjf z t k).symm⟩,by dsimp only;omega⟩⟩
 · obtain hkn:k=n.toNat:=by omega
   have:=fin hb hk hr (.inl hkn) G
   rw[show (k:Int)=n by omega]at this;exact this
def QlS:TCon Sh (Int × Int) Unit where
 pre z a:=inT a.1=true->RunOK z a.1.toNat a.2
 args a:=[.c (.v (.int .i64 a.1)),.c (.v (.int .i64 a.2))]
 ok _ _ _:=True
 next z a _:=z.runA a.1 a.2
 val _ z a _:=.t [.c (.v (.int .i64 (bif inT a.1 then (bif runB a.2 then ((z.ran a.1.toNat a.2.toNat:Nat):Int)else 0)else 0))),.c (.v (bif inT a.1 then (bif runB a.2 then .nilIface else .iface 97 (.int .i64 1))else .iface 97 (.int .i64 2)))]
 new _ _ _ _:=[]
 len:=0
def runX:TCon Sh (Int × Int) Unit where
 pre z a:=a.1<0\/4<=a.1
 args a:=[.c (.v (.int .i64 a.1)),.c (.v (.int .i64 a.2))]
 ok _ _ _:=True
 next z a _:=z
 val _ z a _:=.t [.c (.v (.int .i64 0)),.c (.v (.iface 97 (.int .i64 2)))]
 new _ _ _ _:=[]
 len:=0
theorem QnY:(Con.mem runX.sh).holds Tryz.prog 24:=by
 intro w0 S
 refine Qb (Γ:=[(46,.pure Qhb)]) (fun _=>noW) Tryz.func24 rfl (by kernel_rfl) Qg Qd (fun w S' _ _=>.cons (Qjm w _) (.nil _ _ _)) runX.sh (fun s=>[]) (fun x0 h=>by cases h) (fun s ρ w _ _ _=>Qi w _) [] (fun _ M=>[0]) 600 ?_
 rintro⟨z,⟨a,n⟩,F⟩ W h1 -
 refine⟨rfl,?_⟩
 refine Qk (q:=(a<(0:Int)\/(4:Int)<=a)/\endN (TCon.sh runX) [] (fun (x:SV) (M:List SB)=>[0]) (z,(a,n),F) (SV.t [aI 0,SA.c (.v (.iface 97 (Value.int .i64 (2:Int))))]) [SB.abs (QB shM ShS.z ShS.good z) F]) (by kernel_rfl) ?_
 have h1:a<0\/4<=a:=h1
 exact⟨h1,Qj rfl ⟨F,()⟩ trivial rfl rfl rfl⟩
theorem runH:(Con.mem QlS.sh).holds Tryz.prog 24:=fun w0 S=>TCon.high_of (Qjg w0 S).1 fun ⟨a,n⟩=>by
 intro ρ z F w hp hK HM
 by_cases h:0<=a/\a<4
 · have hb:inT a=true:=decide_eq_true h
   obtain⟨t,rfl⟩:=Int.eq_ofNat_of_zero_le h.1
   have ht:t<4:=by omega
   have hp':RunOK z t n:=by have:=hp hb;rw[Int.toNat_natCast]at this;exact this
   have:=(Qjg w0 S).2.2 ρ (z,(t,n),F) w ⟨ht,hp'⟩ hK HM
   have e1:z.runA t n=z.run t (bif runB n then n.toNat else 0):=by unfold Sh.runA;rw[hb,Int.toNat_natCast];rfl
   have e2:QlS.val 1 z ((t:Int),n) ()=runN.val 1 z (t,n) ():=by
    show SV.t [.c (.v (.int .i64 (bif inT t then (bif runB n then ((z.ran (t:Int).toNat n.toNat:Nat):Int)else 0)else 0))),.c (.v (bif inT t then _ else _))]=_
    rw[hb,Int.toNat_natCast];rfl
   refine this.mono ?_
   rintro e w' ⟨⟨G,⟨⟩⟩,ρ',h1,h2,h3,h4,h5⟩
   refine⟨⟨G,()⟩,ρ',trivial,h2,rfl,?_,?_⟩
   · rw[e2];exact h4
   · show Mem w _ (denM ρ' 0 (.abs (QB shM ShS.z ShS.good (z.runA t n)) G::[])) w'
     rw[e1];exact h5
 · have hb:inT a=false:=decide_eq_false h
   have:=(QnY w0 S).2.2 ρ (z,(a,n),F) w (by show a<0\/4<=a;omega) hK HM
   have e1:z.runA a n=z:=by unfold Sh.runA;rw[hb];rfl
   have e2:QlS.val 1 z (a,n) ()=runX.val 1 z (a,n) ():=by
    show SV.t [.c (.v (.int .i64 (bif inT a then _ else 0))),.c (.v (bif inT a then _ else _))]=_
    rw[hb];rfl
   refine this.mono ?_
   rintro e w' ⟨⟨G,⟨⟩⟩,ρ',h1,h2,h3,h4,h5⟩
   refine⟨⟨G,()⟩,ρ',trivial,h2,rfl,?_,?_⟩
   · rw[e2];exact h4
   · show Mem w _ (denM ρ' 0 (.abs (QB shM ShS.z ShS.good (z.runA a n)) G::[])) w'
     rw[e1];exact h5
end
section
open Go.RowKit
structure NewS where
 k:Int
def Qhd:MCon where
 σ:=NewS
 χ:=ShS
 pre s:=1<=s.k/\s.k<=6
 args s:=[.c (.v (.int .i64 s.k))]
 mem _:=[]
 ok s x:=x.good/\x.z=Sh.new s.k
 val _ _:=.t [.c (.p 0 0),.c (.v .nilIface)]
 mem' _ x:=shM x
 k:=0
 len:=17
 det:=none
 find _ _:=some []
def msAt (M:List SB) (b:Nat):List Nat:=match getB M b with
 |.cells l _=>match segGet l 0,segGet l 1 with
  |some (.p m _),some (.p s _)=>[b,m,s]
  |_,_=>[]
 |_=>[]
def newM (k:Int) (f:Nat->Int):List SB:=[.cells [.one (.p 1 0),.one (.p 2 0),.one (.v (.pointer none)),.one (.v (.pointer none)),.one (.v (.pointer none)),.one (.v (.pointer none)),.ints (.int .i64) 4 (fun _=>0),.one (.v (.int .i64 0)),.one (.v (.slice none 0 0)),.one (.v (.slice none 0 0))] 89,ramB (fun _=>0),stoB { Sto.new with now:=f },.cells [.ints (.int .u64) 32 (fL (Rec.new k).words)] 60]
structure NewG where
 i:Nat
 hi:i<=32
def QpI (k:Int):Ann where
 σ:=NewG
 I g:=([(4,.o (.c (.p 3 0))),(6,.o (.c (.p 0 0))),(24,.o (.a [.ints (.int .u64) 32 (fL (Rec.new k).words)])),(25,sv (.int .i64 g.i))],
   [.cells [.one (.p 1 0),.one (.p 2 0),.one (.v (.pointer none)),.one (.v (.pointer none)),.one (.v (.pointer none)),.one (.v (.pointer none)),.ints (.int .i64) 4 (fun _=>0),.one (.v (.int .i64 0)),.one (.v (.slice none 0 0)),.one (.v (.slice none 0 0))] 89,ramB (fun _=>0),stoB { Sto.new with now:=XX k g.i },.cells [.ints (.int .u64) 32 (fL (Rec.new k).words)] 60])
 dec g:=32-g.i
 pi env M:=msAt M (blkE env 6)++[blkE env 4]
 nz:=[]
abbrev nzE (b:Nat):NZ:=.blk b 11 35 9 [.int .i64,.int .i64,.int .i64,.int .i64,.int .i64,.int .i64,.int .i64,.int .i64,.int .i64]
abbrev nzVd (b:Nat):NZ:=.blk b 12 102 7 [.int .u64,.int .i64,.int .i64,.int .i64,.int .i64,.int .i64,.int .i64]
abbrev nzWA (b:Nat):NZ:=.blk b 41 173 5 [.int .i64,.int .i64,.int .i64,.int .i64,.int .i64]
abbrev nzWD (b:Nat):NZ:=.blk b 42 65 6 [.int .i64,.int .i64,.int .i64,.int .i64,.int .i64,.int .i64]
structure QaZ where
 s:Sto
 n:Nat
def Qid:MCon:=dcon QaZ (fun s=>s.n<9) (fun s=>[.c (.p 0 0),.c (.v (.int .i64 (s.n:Int)))]) (fun s=>[stoB s.s]) (fun s=>.o (.c (.v .nilIface))) (fun s=>[stoB (s.s.evict s.n)]) 1 (fun args _=>some (blkA args))
theorem QjY:(Con.mem Qid).holds Tryz.prog 66:=by
 intro w0 S
 have h:=Qhv w0 S
 refine⟨h.1,fun x0 hx s x=>⟨rfl,trivial⟩,fun ρ ⟨s,n⟩ w hp hK HM=>(h.2.2 ρ ⟨s,n⟩ w trivial hK HM).mono ?_⟩
 have hp:n<9:=hp
 have e1:decide ((0:Int)<=(n:Int)/\(n:Int)<9)=true:=decide_eq_true (by omega)
 have ev:QbI.val ⟨s,n⟩ ()=.o (.c (.v .nilIface)):=by
  show SV.o (.c (.v (bif decide ((0:Int)<=(n:Int)/\(n:Int)<9)then _ else _)))=_
  rw[e1];rfl
 have em:QbI.mem' ⟨s,n⟩ ()=[stoB (s.evict n)]:=by
  show [stoB (bif decide ((0:Int)<=(n:Int)/\(n:Int)<9)then s.evict (n:Int).toNat else s)]=_
  rw[e1,Int.toNat_natCast];rfl
 rintro e w' ⟨⟨⟩,ρ',h1,h2,h3,h4,h5⟩
 refine⟨(),ρ',trivial,h2,rfl,?_,?_⟩
 · rw[h4,ev];rfl
 · rw[em]at h5;exact h5
theorem evict4 (k:Int) {A:Sto}(hA:A={ Sto.new with now:=XX k 32 }):(((A.evict 1).evict 2).evict 3).evict 4={ Sto.new with now:=XX k 32,good:=XX k 32 }:=by
 have e2:((((A.evict 1).evict 2).evict 3).evict 4).good=XX k 32:=funext fun j=>by
  subst hA
  show (bif decide (j/8=4)then XX k 32 j else bif decide (j/8=3)then XX k 32 j else bif decide (j/8=2)then XX k 32 j else bif decide (j/8=1)then XX k 32 j else 0)=XX k 32 j
  by_cases h:8<=j/\j<40
  · rcases (show j/8=1\/j/8=2\/j/8=3\/j/8=4 by omega)with h|h|h|h<;>rw[h]<;>rfl
  · rw[QcB k j (by omega),decide_eq_false (show ¬j/8=4 by omega),decide_eq_false (show ¬j/8=3 by omega),decide_eq_false (show ¬j/8=2 by omega),decide_eq_false (show ¬j/8=1 by omega)];rfl
 show (⟨A.now,((((A.evict 1).evict 2).evict 3).evict 4).good,A.want,A.fl,A.fe⟩:Sto)=_
 rw[e2,hA]
def Qp3:SV->List SB->List Nat
 |.t [.c (.p b _),_],M=>shAt M b
 |_,_=>[]
def newS0 (k:Int):ShS:=⟨Sh.new k,fun _=>⟨0,0,false,fun _ _=>0,0,0,false,fun _ _=>0⟩,0,0,false,fun _ _=>0,0,0,false,fun _ _=>0⟩
theorem Qkl (k:Int):(newS0 k).good:=⟨fun t _=>⟨⟨Nat.le_refl _,Nat.le_refl _⟩,fun i hi=>absurd hi (Nat.not_lt_zero _),⟨Nat.le_refl _,Nat.le_refl _⟩,fun i hi=>absurd hi (Nat.not_lt_zero _)⟩,Nat.le_refl _,Nat.le_refl _,IsR.nil _ _ _ _,Nat.le_refl _,Nat.le_refl _,IsR.nil _ _ _ _⟩
attribute [local irreducible] endN
theorem Qon (k:Int) {S:Sto}(hS:S={ Sto.new with now:=XX k 32,good:=XX k 32 }):endN Qhd [nzE 0,nzVd 0,nzWA 4,nzWD 4,nzWA 5,nzWD 5,nzWA 6,nzWD 6,nzWA 7,nzWD 7] Qp3 ⟨k⟩ (.t [.c (.p 0 0),.c (.v .nilIface)])
 [.cells [.one (.p 1 0),.one (.p 2 0),.one (.p 4 0),.one (.p 5 0),.one (.p 6 0),.one (.p 7 0),.ints (.int .i64) 4 (fun _=>0),.one (.v (.int .i64 0)),.one (.v (.slice none 0 0)),.one (.v (.slice none 0 0))] 89,ramB (fun _=>0),stoB S,.cells [.ints (.int .u64) 32 (fL (Rec.new k).words)] 60,.cells [.one (.v (.int .i64 0)),.one (.v (.int .i64 0)),.one (.v (.int .i64 0)),.one (.v (.int .i64 0)),.one (.v (.int .i64 0)),.one (.v (.int .i64 0)),.one (.v (.bool false)),.one (.v (.int .i64 0)),.one (.v (.int .u64 0)),.ints (.int .u64) 32 (fun _=>0),.one (.v (.slice none 0 0)),.one (.v (.slice none 0 0)),.ints (.int .u64) 3 (fun _=>0),.one (.v (.int .i64 0)),.one (.v (.int .i64 0)),.one (.v (.int .i64 0))] 95,.cells [.one (.v (.int .i64 1)),.one (.v (.int .i64 0)),.one (.v (.int .i64 0)),.one (.v (.int .i64 0)),.one (.v (.int .i64 0)),.one (.v (.int .i64 0)),.one (.v (.bool false)),.one (.v (.int .i64 0)),.one (.v (.int .u64 0)),.ints (.int .u64) 32 (fun _=>0),.one (.v (.slice none 0 0)),.one (.v (.slice none 0 0)),.ints (.int .u64) 3 (fun _=>0),.one (.v (.int .i64 0)),.one (.v (.int .i64 0)),.one (.v (.int .i64 0))] 95,.cells [.one (.v (.int .i64 2)),.one (.v (.int .i64 0)),.one (.v (.int .i64 0)),.one (.v (.int .i64 0)),.one (.v (.int .i64 0)),.one (.v (.int .i64 0)),.one (.v (.bool false)),.one (.v (.int .i64 0)),.one (.v (.int .u64 0)),.ints (.int .u64) 32 (fun _=>0),.one (.v (.slice none 0 0)),.one (.v (.slice none 0 0)),.ints (.int .u64) 3 (fun _=>0),.one (.v (.int .i64 0)),.one (.v (.int .i64 0)),.one (.v (.int .i64 0))] 95,.cells [.one (.v (.int .i64 3)),.one (.v (.int .i64 0)),.one (.v (.int .i64 0)),.one (.v (.int .i64 0)),.one (.v (.int .i64 0)),.one (.v (.int .i64 0)),.one (.v (.bool false)),.one (.v (.int .i64 0)),.one (.v (.int .u64 0)),.ints (.int .u64) 32 (fun _=>0),.one (.v (.slice none 0 0)),.one (.v (.slice none 0 0)),.ints (.int .u64) 3 (fun _=>0),.one (.v (.int .i64 0)),.one (.v (.int .i64 0)),.one (.v (.int .i64 0))] 95]:=by
 refine Qj (x':=.t [.c (.p 0 0),.c (.v .nilIface)]) (M':=[.cells [.one (.p 1 0),.one (.p 2 0),.one (.p 4 0),.one (.p 5 0),.one (.p 6 0),.one (.p 7 0),.ints (.int .i64) 4 (fun _=>0),.one (.v (.int .i64 0)),.one (.so 8 0 9 0 0 false),.one (.so 9 0 7 0 0 false)] 89,ramB (fun _=>0),stoB S,.cells [.ints (.int .u64) 32 (fL (Rec.new k).words)] 60,.cells [.one (.v (.int .i64 0)),.one (.v (.int .i64 0)),.one (.v (.int .i64 0)),.one (.v (.int .i64 0)),.one (.v (.int .i64 0)),.one (.v (.int .i64 0)),.one (.v (.bool false)),.one (.v (.int .i64 0)),.one (.v (.int .u64 0)),.ints (.int .u64) 32 (fun _=>0),.one (.so 10 0 5 0 0 false),.one (.so 11 0 6 0 0 false),.ints (.int .u64) 3 (fun _=>0),.one (.v (.int .i64 0)),.one (.v (.int .i64 0)),.one (.v (.int .i64 0))] 95,.cells [.one (.v (.int .i64 1)),.one (.v (.int .i64 0)),.one (.v (.int .i64 0)),.one (.v (.int .i64 0)),.one (.v (.int .i64 0)),.one (.v (.int .i64 0)),.one (.v (.bool false)),.one (.v (.int .i64 0)),.one (.v (.int .u64 0)),.ints (.int .u64) 32 (fun _=>0),.one (.so 12 0 5 0 0 false),.one (.so 13 0 6 0 0 false),.ints (.int .u64) 3 (fun _=>0),.one (.v (.int .i64 0)),.one (.v (.int .i64 0)),.one (.v (.int .i64 0))] 95,.cells [.one (.v (.int .i64 2)),.one (.v (.int .i64 0)),.one (.v (.int .i64 0)),.one (.v (.int .i64 0)),.one (.v (.int .i64 0)),.one (.v (.int .i64 0)),.one (.v (.bool false)),.one (.v (.int .i64 0)),.one (.v (.int .u64 0)),.ints (.int .u64) 32 (fun _=>0),.one (.so 14 0 5 0 0 false),.one (.so 15 0 6 0 0 false),.ints (.int .u64) 3 (fun _=>0),.one (.v (.int .i64 0)),.one (.v (.int .i64 0)),.one (.v (.int .i64 0))] 95,.cells [.one (.v (.int .i64 3)),.one (.v (.int .i64 0)),.one (.v (.int .i64 0)),.one (.v (.int .i64 0)),.one (.v (.int .i64 0)),.one (.v (.int .i64 0)),.one (.v (.bool false)),.one (.v (.int .i64 0)),.one (.v (.int .u64 0)),.ints (.int .u64) 32 (fun _=>0),.one (.so 16 0 5 0 0 false),.one (.so 17 0 6 0 0 false),.ints (.int .u64) 3 (fun _=>0),.one (.v (.int .i64 0)),.one (.v (.int .i64 0)),.one (.v (.int .i64 0))] 95,evB 0 0 (fun _ _=>0),vdB 0 0 (fun _ _=>0),wkA 0 0 (fun _ _=>0),wkD 0 0 (fun _ _=>0),wkA 0 0 (fun _ _=>0),wkD 0 0 (fun _ _=>0),wkA 0 0 (fun _ _=>0),wkD 0 0 (fun _ _=>0),wkA 0 0 (fun _ _=>0),wkD 0 0 (fun _ _=>0)]) (by kernel_rfl) (newS0 k) ⟨Qkl k,rfl⟩ (by kernel_rfl) (by kernel_rfl) ?_
 subst hS
 kernel_rfl
theorem Qoo:(Con.mem Qhd).holds Tryz.prog 43:=by
 intro w0 S
 refine Qb (Γ:=[(63,.pure Qdu),(64,.mem QdQ),(65,.mem Xt),(66,.mem Qid)]) (fun _=>noW) Tryz.func43 rfl (by kernel_rfl) Qg Qd (fun w S' _ _=>.cons (Qn1 w _) (.cons (QjX w S') (.cons (Qab w S') (.cons (QjY w S') (.nil _ _ _))))) Qhd (fun s=>[(43,[(0,QpI s.k)])]) (fun x0 h=>by cases h) (fun s ρ w _ _ _=>Qi w _) [nzE 0,nzVd 0,nzWA 4,nzWD 4,nzWA 5,nzWD 5,nzWA 6,nzWD 6,nzWA 7,nzWD 7] Qp3 900 ?_
 rintro⟨k⟩ W ⟨h1,h6⟩ -
 refine⟨rfl,?_⟩
 refine Qk (q:=((1:Int)<=k/\k<=(6:Int))/\∃(s:Unit),([]:List SA)=[]/\eN/\True/\∀(x:Unit),True->(∃(s0:Ann.σ (QpI k)),(eS (aP 0 0) (aP 0 0)/\eS (aP 3 0) (aP 3 0)/\eS (SA.a [nU 32 (fL (Rec.words (Rec.new k)))]) (SA.a [nU 32 (fL (Rec.words (Rec.new k)))])/\eS (aI 0) (aI ↑s0.1)/\True)/\[SB.cells [sP 1 0,sP 2 0,Seg.one (.v (.pointer none)),Seg.one (.v (.pointer none)),Seg.one (.v (.pointer none)),Seg.one (.v (.pointer none)),nI 4 zF,sI 0,Seg.one (.v (.slice none 0 0)),Seg.one (.v (.slice none 0 0))] 89,SB.cells [nU 16 zF] 124,SB.cells [nU 72 Sto.new.1,nU 72 Sto.new.2,nB 36 Sto.new.3,sI 0,sI 0] 133,SB.cells [nU 32 (fL (Rec.words (Rec.new k)))] 60]=[SB.cells [sP 1 0,sP 2 0,Seg.one (.v (.pointer none)),Seg.one (.v (.pointer none)),Seg.one (.v (.pointer none)),Seg.one (.v (.pointer none)),nI 4 zF,sI 0,Seg.one (.v (.slice none 0 0)),Seg.one (.v (.slice none 0 0))] 89,SB.cells [nU 16 zF] 124,SB.cells [nU 72 (XX k s0.1),nU 72 Sto.new.2,nB 36 Sto.new.3,sI 0,sI 0] 133,SB.cells [nU 32 (fL (Rec.words (Rec.new k)))] 60])/\∀(s:NewG),bif decide ((↑s.1:Int)<(32:Int))then (iR (↑s.1:Int) (32:Int))/\∃(s_1:Xi),[aP 2 0,aI (IntKind.wrap .i64 ((8:Int)+(↑s.1:Int))),aU (fL (Rec.words (Rec.new k)) (Int.toNat (↑s.1:Int)))]=[aP 2 0,aI s_1.2,aU s_1.3]/\[SB.cells [nU 72 (XX k s.1),nU 72 Sto.new.2,nB 36 Sto.new.3,sI 0,sI 0] 133]=[stoB (Xi.s s_1)]/\(iR s_1.2 (72:Int))/\∀(x:Unit),True->∃(s':NewG),((eS (aP 3 0) (aP 3 0)/\eS (aP 0 0) (aP 0 0)/\eS (SA.a [nU 32 (fL (Rec.words (Rec.new k)))]) (SA.a [nU 32 (fL (Rec.words (Rec.new k)))])/\eS (aI (IntKind.wrap .i64 ((↑s.1:Int)+(1:Int)))) (aI ↑s'.1)/\True)/\[SB.cells [sP 1 0,sP 2 0,Seg.one (.v (.pointer none)),Seg.one (.v (.pointer none)),Seg.one (.v (.pointer none)),Seg.one (.v (.pointer none)),nI 4 zF,sI 0,Seg.one (.v (.slice none 0 0)),Seg.one (.v (.slice none 0 0))] 89,SB.cells [nU 16 zF] 124,stoB (Sto.save (Xi.s s_1) (Int.toNat (Xi.a s_1)) (Xi.x s_1)),SB.cells [nU 32 (fL (Rec.words (Rec.new k)))] 60]=[SB.cells [sP 1 0,sP 2 0,Seg.one (.v (.pointer none)),Seg.one (.v (.pointer none)),Seg.one (.v (.pointer none)),Seg.one (.v (.pointer none)),nI 4 zF,sI 0,Seg.one (.v (.slice none 0 0)),Seg.one (.v (.slice none 0 0))] 89,SB.cells [nU 16 zF] 124,SB.cells [nU 72 (XX k s'.1),nU 72 Sto.new.2,nB 36 Sto.new.3,sI 0,sI 0] 133,SB.cells [nU 32 (fL (Rec.words (Rec.new k)))] 60])/\32-s'.1<32-s.1 else ∃(s_1:QaZ),[aP 2 0,aI 1]=[aP 2 0,aI ↑s_1.2]/\[SB.cells [nU 72 (XX k s.1),nU 72 Sto.new.2,nB 36 Sto.new.3,sI 0,sI 0] 133]=[stoB (QaZ.s s_1)]/\s_1.2<9/\∀(x:Unit),True->∃(s:QaZ),[aP 2 0,aI 2]=[aP 2 0,aI ↑s.2]/\[stoB (Sto.evict (QaZ.s s_1) (QaZ.n s_1))]=[stoB (QaZ.s s)]/\s.2<9/\∀(x:Unit),True->∃(s_2:QaZ),[aP 2 0,aI 3]=[aP 2 0,aI ↑s_2.2]/\[stoB (Sto.evict (QaZ.s s) (QaZ.n s))]=[stoB (QaZ.s s_2)]/\s_2.2<9/\∀(x:Unit),True->∃(s:QaZ),[aP 2 0,aI 4]=[aP 2 0,aI ↑s.2]/\[stoB (Sto.evict (QaZ.s s_2) (QaZ.n s_2))]=[stoB (QaZ.s s)]/\s.2<9/\∀(x:Unit),True->i04/\(iR (1:Int) (4:Int))/\(iR (2:Int) (4:Int))/\(iR (3:Int) (4:Int))/\endN Qhd [nzE 0,nzVd 0,nzWA 4,nzWD 4,nzWA 5,nzWD 5,nzWA 6,nzWD 6,nzWA 7,nzWD 7] Qp3 (NewS.mk k) (SV.t [aP 0 0,SA.c (.v Value.nilIface)]) [SB.cells [sP 1 0,sP 2 0,sP 4 0,sP 5 0,sP 6 0,sP 7 0,nI 4 zF,sI 0,Seg.one (.v (.slice none 0 0)),Seg.one (.v (.slice none 0 0))] 89,SB.cells [nU 16 zF] 124,stoB (Sto.evict (QaZ.s s) (QaZ.n s)),SB.cells [nU 32 (fL (Rec.words (Rec.new k)))] 60,SB.cells [sI 0,sI 0,sI 0,sI 0,sI 0,sI 0,sB false,sI 0,sU 0,nU 32 zF,Seg.one (.v (.slice none 0 0)),Seg.one (.v (.slice none 0 0)),nU 3 zF,sI 0,sI 0,sI 0] 95,SB.cells [sI 1,sI 0,sI 0,sI 0,sI 0,sI 0,sB false,sI 0,sU 0,nU 32 zF,Seg.one (.v (.slice none 0 0)),Seg.one (.v (.slice none 0 0)),nU 3 zF,sI 0,sI 0,sI 0] 95,SB.cells [sI 2,sI 0,sI 0,sI 0,sI 0,sI 0,sB false,sI 0,sU 0,nU 32 zF,Seg.one (.v (.slice none 0 0)),Seg.one (.v (.slice none 0 0)),nU 3 zF,sI 0,sI 0,sI 0] 95,SB.cells [sI 3,sI 0,sI 0,sI 0,sI 0,sI 0,sB false,sI 0,sU 0,nU 32 zF,Seg.one (.v (.slice none 0 0)),Seg.one (.v (.slice none 0 0)),nU 3 zF,sI 0,sI 0,sI 0] 95]) (by kernel_rfl) ?_
 have h1:1<=k:=h1
 have h6:k<=6:=h6
 refine⟨⟨h1,h6⟩,(),rfl,rfl,trivial,fun _ _=>⟨⟨⟨0,by decide⟩,⟨rfl,rfl,rfl,rfl,trivial⟩,?_⟩,?_⟩⟩
 · exact congrArg (newM k) (Qkv k).symm
 rintro⟨i,hi⟩
 dsimp only at hi ⊢
 refine Qr (fun hlt=>?_) (fun hge=>?_)
 · have ea:IntKind.wrap .i64 (8+(i:Int))=((8+i:Nat):Int):=by rw[QE (by omega) (by omega)];omega
   rw[ea]
   exact⟨⟨by omega,by omega⟩,⟨{ Sto.new with now:=XX k i },((8+i:Nat):Int),fL (Rec.new k).words i⟩,rfl,rfl,⟨(by omega:(0:Int)<=((8+i:Nat):Int)),(by omega:((8+i:Nat):Int)<72)⟩,fun _ _=>⟨⟨i+1,by omega⟩,⟨⟨rfl,rfl,rfl,svI (sucI (by omega)),trivial⟩,congrArg (newM k) (Qkw k i)⟩,by dsimp only;omega⟩⟩
 · obtain rfl:i=32:=by omega
   obtain⟨A,hA⟩:∃A:Sto,A={ Sto.new with now:=XX k 32 }:=⟨_,rfl⟩
   exact⟨⟨A,1⟩,rfl,by rw[hA];rfl,(by decide:1<9),fun _ _=>⟨⟨A.evict 1,2⟩,rfl,rfl,(by decide:2<9),fun _ _=>⟨⟨(A.evict 1).evict 2,3⟩,rfl,rfl,(by decide:3<9),fun _ _=>⟨⟨((A.evict 1).evict 2).evict 3,4⟩,rfl,rfl,(by decide:4<9),fun _ _=>⟨⟨by decide,by decide⟩,⟨by decide,by decide⟩,⟨by decide,by decide⟩,⟨by decide,by decide⟩,Qon k (evict4 k hA)⟩⟩⟩⟩⟩
def QiV:MCon where
 σ:=NewS
 χ:=List Nat
 pre s:=1<=s.k/\s.k<=6
 args s:=[.c (.v (.int .i64 s.k))]
 mem _:=[]
 ok _ _:=True
 val _ _:=.t [.c (.p 0 0),.c (.v .nilIface)]
 mem' s F:=[.abs (QB shM ShS.z ShS.good (Sh.new s.k)) F]
 k:=0
 len:=1
 det:=none
 find _ _:=some []
theorem newH:(Con.mem QiV).holds Tryz.prog 43:=by
 intro w0 S
 have h:=Qoo w0 S
 refine⟨h.1,fun x0 h=>(by cases h),fun ρ s w hp hK HM=>(h.2.2 ρ s w hp hK HM).mono ?_⟩
 rintro e w' ⟨x,ρ',⟨hg,hz⟩,hag,hlen,rfl,HM'⟩
 have HM':Mem w (feet (denM ρ 0 [])) (denM ρ' 0 (shM x)) w':=HM'
 refine⟨feetL (denM ρ' 0 (shM x)),ρ',trivial,fun i hi=>absurd hi (Nat.not_lt_zero _),rfl,rfl,?_⟩
 show Mem w (feet (denM ρ 0 [])) [En.abs (ρ' 0) (QB shM ShS.z ShS.good (Sh.new s.k)) (feetL (denM ρ' 0 (shM x)))] w'
 refine⟨HM'.kept,fun e he=>?_,fun e he g hg=>?_,List.pairwise_singleton _ _⟩
 · obtain rfl:=List.mem_singleton.1 he
   exact⟨x,ρ',hz,hg,rfl,⟨Kept.refl _ _,fun e he=>HM'.holds e he,fun e he g hg=>.inl ⟨e,he,hg⟩,HM'.dist⟩,fun g=>(feetL_iff _ g).symm⟩
 · obtain rfl:=List.mem_singleton.1 he
   obtain⟨e',he',hf'⟩:=(feetL_iff _ g).1 hg
   exact HM'.own e' he' g hf'
end
section
open Go.RowKit
def craC:TCon Sh Int Unit where
 pre z l:=Qli z l
 args l:=[.c (.v (.int .u64 l))]
 ok _ _ _:=True
 next z l _:=z.crash l
 val _ _ _ _:=.t []
 new _ _ _ _:=[]
 len:=0
abbrev Q3:MCon:=craC.low shM ShS.z ShS.good 17 7 Qco
structure CraG (z:Sh) (l:Int) where
 n:Nat
 mh:Nat
 ch:Nat
 nh:Bool
 zh:Nat->Nat->Int
 hn:n<=z.deeds.length
 hu:upTo (Qt l z.s 0) (z.deeds.take n)=upTo (Qt l z.s 0) z.deeds
 lh:Nat
 hl:lh=z.hist.length+1
 h1:lh<=mh
 h2:mh<=ch
 h:IsE zh (z.hist++[⟨3,0,0,0,0,0,0,0,z.steps+1⟩])
def QpM (s:ShS) (l:Int):Ann where
 σ:=CraG s.z l
 I g:=([(0,.o (.c (.p 0 0))),(4,sv (.int .i64 (Qt l s.z.s 0))),(5,sv (.int .i64 ((g.n:Int)-1)))],
   shX (putF (fun _=>0) 1 (Qt l s.z.s 0)) (s.z.s.crash l) s.z.w s.z.tog (s.z.steps+1) s.r g.lh g.mh g.ch g.nh g.zh g.n s.mv s.cv s.nv s.zv)
 dec g:=g.n
 pi env M:=shAt M 0
 nz:=[]
theorem Qlq {l:List Vd}{n:Nat}(h0:0<n) (hn:n<=l.length):l.take n=l.take (n-1)++[l.getD (n-1) Vd.nil]:=by
 obtain⟨m,rfl⟩:∃m,n=m+1:=⟨n-1,by omega⟩
 rw[Nat.add_sub_cancel,List.take_add_one,List.getElem?_eq_getElem (by omega),Option.toList_some,List.getD_eq_getElem?_getD,List.getElem?_eq_getElem (by omega)];rfl
theorem QpT {v:Int}{l:List Vd}{d:Vd}(h:v<d.ver):upTo v (l++[d])=upTo v l:=by
 unfold upTo
 rw[List.reverse_append]
 show (List.dropWhile _ (d::l.reverse)).reverse=_
 rw[List.dropWhile_cons_of_pos (by simpa using h)]
theorem QpS {v:Int}{l:List Vd}{d:Vd}(h:¬v<d.ver):upTo v (l++[d])=l++[d]:=by
 unfold upTo
 rw[List.reverse_append]
 show (List.dropWhile _ (d::l.reverse)).reverse=_
 rw[List.dropWhile_cons_of_neg (by simpa using h),List.reverse_cons,List.reverse_reverse]
def agW (a:Bool) (w:Wk):Wk:=bif a then Wk.call w.th w.k w.key w.x w.tog true else w
def agR (a:Bool) (r:WkR):WkR:=bif a then ⟨0,0,false,fun _ _=>0,0,0,false,fun _ _=>0⟩else r
def agH (a:Bool) (w:Wk):Prop:=if a then w.does≠0 else w.does=0
theorem QeN {a:Bool}{w:Wk}(h:agH a w):w.again=agW a w:=by
 unfold Wk.again
 cases a
 · exact if_pos h
 · exact if_neg h
theorem Qfa {a:Bool}{w:Wk}{r:WkR}(h:(wkS w r).good):(wkS (agW a w) (agR a r)).good:=by
 cases a
 · exact h
 · exact⟨⟨Nat.le_refl _,Nat.le_refl _⟩,fun i hi=>absurd hi (Nat.not_lt_zero _),⟨Nat.le_refl _,Nat.le_refl _⟩,fun i hi=>absurd hi (Nat.not_lt_zero _)⟩
def sel4 {α:Type}(x0 x1 x2 x3:α):Nat->α
 |0=>x0
 |1=>x1
 |2=>x2
 |_=>x3
theorem QC {z:Sh}{r:Nat->WkR}{mh ch:Nat}{nh:Bool}{zh:Nat->Nat->Int}{mv cv:Nat}{nv:Bool}{zv:Nat->Nat->Int}{l:Int}(h0:(⟨z,r,mh,ch,nh,zh,mv,cv,nv,zv⟩:ShS).good)
 {n lh mh' ch':Nat}{nh':Bool}{zh':Nat->Nat->Int}(hn:n<=z.deeds.length) (hz:z.deeds.take n=upTo (Qt l z.s 0) z.deeds) (hl:lh=z.hist.length+1) (g1:lh<=mh') (g2:mh'<=ch') (g3:IsE zh' (z.hist++[⟨3,0,0,0,0,0,0,0,z.steps+1⟩]))
 {a0 a1 a2 a3:Bool}{M:List SB}(hc:(nodB (shAt M 0)&&Qa4 M.length (shAt M 0)&&idB 0 7 (shAt M 0))=true)
 (hM:(shAt M 0).map (getB M)=(shX (putF (fun _=>0) 1 (Qt l z.s 0)) (z.s.crash l) (sel4 (agW a0 (z.w 0)) (agW a1 (z.w 1)) (agW a2 (z.w 2)) (agW a3 (z.w 3))) z.tog (z.steps+1) (sel4 (agR a0 (r 0)) (agR a1 (r 1)) (agR a2 (r 2)) (agR a3 (r 3))) lh mh' ch' nh' zh' n mv cv nv zv).map (SB.ren (ofL (shAt M 0))))
 (e0:agH a0 (z.w 0)) (e1:agH a1 (z.w 1)) (e2:agH a2 (z.w 2)) (e3:agH a3 (z.w 3)):
 endN Q3 [] (fun (x:SV) (M:List SB)=>shAt M 0) (⟨z,r,mh,ch,nh,zh,mv,cv,nv,zv⟩,l) (SV.t []) M:=by
 have hw:=h0.w
 have v1:=h0.v1
 have v2:=h0.v2
 dsimp only at hw v1 v2
 refine Qj rfl ⟨⟨z.crash l,sel4 (agR a0 (r 0)) (agR a1 (r 1)) (agR a2 (r 2)) (agR a3 (r 3)),mh',ch',nh',zh',mv,cv,nv,zv⟩,()⟩ ⟨⟨fun t ht=>?_,?_,g2,g3,?_,v2,?_⟩,rfl,trivial⟩ ?_ rfl ?_
 · rcases (show t=0\/t=1\/t=2\/t=3 by omega)with rfl|rfl|rfl|rfl
   · show (wkS ((z.w 0).again) (agR a0 (r 0))).good
     rw[QeN e0];exact Qfa (hw 0 (by decide))
   · show (wkS ((z.w 1).again) (agR a1 (r 1))).good
     rw[QeN e1];exact Qfa (hw 1 (by decide))
   · show (wkS ((z.w 2).again) (agR a2 (r 2))).good
     rw[QeN e2];exact Qfa (hw 2 (by decide))
   · show (wkS ((z.w 3).again) (agR a3 (r 3))).good
     rw[QeN e3];exact Qfa (hw 3 (by decide))
 · show (z.hist++[_]).length<=mh'
   rw[List.length_append]
   show z.hist.length+1<=mh'
   omega
 · show (upTo (Qt l z.s 0) z.deeds).length<=mv
   rw[<- hz,List.length_take];omega
 · show IsV zv (upTo (Qt l z.s 0) z.deeds)
   rw[<- hz];exact IsR.take h0.v n
 · simp only[Bool.and_eq_true]at hc ⊢
   exact⟨⟨⟨hc,rfl⟩,rfl⟩,rfl⟩
 · refine hM.trans (congrArg (List.map _) ?_)
   show _=shX (putF (fun _=>0) 1 (Qt l z.s 0)) (z.s.crash l) (fun t=>(z.w t).again) z.tog (z.steps+1) (sel4 (agR a0 (r 0)) (agR a1 (r 1)) (agR a2 (r 2)) (agR a3 (r 3))) (z.hist++[_]).length mh' ch' nh' zh' (upTo (Qt l z.s 0) z.deeds).length mv cv nv zv++[]
   rw[<- hz,List.length_take,Nat.min_eq_left hn,List.length_append,List.append_nil,hl]
   dsimp only[shX]
   rw[QeN e0,QeN e1,QeN e2,QeN e3];rfl
theorem Qqw:(Con.mem Q3).holds Tryz.prog 42:=by
 intro w0 S
 refine Qb (Γ:=[(60,.mem (QdR true)),(61,.mem Qe9),(26,.inl Tryz.f26 (Tryz.f26.body.getD .skip)),(49,.mem QL),(62,.mem Xl),(47,.mem (Qbz true))]) (fun _=>noW) Tryz.func42 rfl (by kernel_rfl) Qg Qd (fun w S' _ _=>.cons (Qhw w S') (.cons (Qni w S') (.cons ⟨by kernel_rfl,rfl,rfl⟩ (.cons (QO w S') (.cons (Qad w S') (.cons (Qnj w S') (.nil _ _ _))))))) Q3 (fun s=>[(42,[(0,QpM s.1 s.2)])]) (fun x0 h=>by cases h) (fun s ρ w _ _ _=>Qi w _) [] (fun _ M=>shAt M 0) 600 ?_
 rintro⟨⟨z,r,mh,ch,nh,zh,mv,cv,nv,zv⟩,l⟩ W ⟨h0,h1⟩ -
 refine⟨rfl,?_⟩
 dsimp only
 refine Qk (q:=dP Tryz.f42 1 17 [⟨11,[17],[15,18],[],true⟩,⟨10,[],[17],[17],false⟩,xE 9,xR 8 0,xF 7 0,xF 6 0,xF 5 0,⟨4,[0],[],[15],false⟩,xF 3 0,xF 2 0,xF 1 0,xF 0 0]/\((List.length z.6<=mh/\ch=ch)/\(1<=1/\1=1)/\List.length z.6+1<=68719476736)/\∀(c:Nat),List.length z.6+1<=c->dP Tryz.f42 1 17 [⟨14,[],[0],[1,2,3,4,5,6,18,16],false⟩,xF 13 0,xF 12 0,⟨11,[17],[15,18],[18],true⟩,⟨10,[],[17],[17],false⟩,xE 9,xR 8 0,xF 7 0,xF 6 0,xF 5 0,⟨4,[0],[],[15],false⟩,xF 3 0,xF 2 0,xF 1 0,xF 0 0]/\∃(s:QbK),[aP 2 0,aU l]=[aP 2 0,aU s.2]/\[stoB (Sh.s z)]=[stoB (QbK.s s)]/\U64 s.2/\∀(x:Unit),True->∃(s_1:Nat->Int),[aP 1 0]=[aP 1 0]/\[ramB z.1]=[ramB s_1]/\True/\∀(x:Unit),True->∃(s_2:Qv),[aP 2 0,aI 0]=[aP 2 0,aI s_2.2]/\[stoB (bif true then Sto.crash (QbK.s s) (QbK.l s)else have __src:=crTo s 9;Sto.mk (Sto.now __src) (Sto.good __src) (zF) (Sto.fl __src) (Sto.fe __src))]=[stoB (Qv.s s_2)]/\(iR s_2.2 (72:Int))/\∀(x:Unit),True->∃(s:Qba),[aP 1 0,aI 1,aU (IntKind.wrap .u64 (IntKind.wrap .i64 ((Qv.s s_2).1 (Int.toNat s_2.2))))]=[aP 1 0,aI s.2,aU s.3]/\[SB.cells [nU 16 zF] 124]=[ramB s.1]/\(iR s.2 (16:Int))/\∀(x:Unit),True->List.length z.7<=cv/\(∃(s0:Ann.σ (QpM (ShS.mk z r mh ch nh zh mv cv nv zv) l)),(eS (aP 0 0) (aP 0 0)/\eS (aI (IntKind.wrap .i64 ((Qv.s s_2).1 (Int.toNat s_2.2)))) (aI (Qt l z.2 0))/\eS (aI (IntKind.wrap .i64 ((↑(List.length z.7):Int)-(1:Int)))) (aI ((↑s0.1:Int)-(1:Int)))/\True)/\(shI (shD z.4 (IntKind.wrap .i64 (z.5+(1:Int))) 18 (List.length z.6+1) c nh 16 (List.length z.7) cv nv) (putF s.1 (Int.toNat s.2) s.3) (Qv.s s_2) (stX (Sh.w z) r) (stA r) (stD r) (evB (List.length z.6+1) c fun (i j:Nat)=>bif Nat.ble (i+1) (List.length z.6)then zh i j else match List.get?Internal (match List.get?Internal [[(3:Int),(0:Int),(0:Int),(0:Int),(0:Int),(0:Int),(0:Int),(0:Int),IntKind.wrap .i64 (z.5+(1:Int))]] (0+(i-List.length z.6))with|some x=>x|none=>[]) j with|some x=>x|none=>(0:Int)) (vdB mv cv zv) [])=(shI (shD z.4 (z.5+(1:Int)) 18 s0.8 s0.3 s0.4 16 s0.1 cv nv) (putF (zF) 1 (Qt l z.2 0)) (Sto.crash (Sh.s z) l) (stX (Sh.w z) r) (stA r) (stD r) (evB s0.2 s0.3 s0.5) (vdB mv cv zv) []))/\∀(s:CraG z l),bif decide ((↑s.1:Int)-(1:Int)>=(0:Int))then ((0:Int)<=(↑s.1:Int)-(1:Int)/\(↑s.1:Int)-(1:Int)<(↑s.1:Int)/\0+s.1<=cv)/\0+Int.toNat ((↑s.1:Int)-(1:Int))<mv/\bif decide (zv (0+Int.toNat ((↑s.1:Int)-(1:Int))) 0>IntKind.wrap .u64 (Qt l z.2 0))then ((0:Int)<=(↑s.1:Int)-(1:Int)/\(↑s.1:Int)-(1:Int)<=(↑cv:Int))/\∃(s':CraG z l),((eS (aP 0 0) (aP 0 0)/\eS (aI (Qt l z.2 0)) (aI (Qt l z.2 0))/\eS (aI (IntKind.wrap .i64 ((↑s.1:Int)-(1:Int)-(1:Int)))) (aI ((↑s'.1:Int)-(1:Int)))/\True)/\(shI (shD z.4 (z.5+(1:Int)) 15 s.8 s.3 s.4 16 (Int.toNat ((↑s.1:Int)-(1:Int))) cv nv) (putF (zF) 1 (Qt l z.2 0)) (Sto.crash (Sh.s z) l) (stX (Sh.w z) r) (stA r) (stD r) (evB s.2 s.3 s.5) (vdB mv cv zv) [])=(shI (shD z.4 (z.5+(1:Int)) 15 s'.8 s'.3 s'.4 16 s'.1 cv nv) (putF (zF) 1 (Qt l z.2 0)) (Sto.crash (Sh.s z) l) (stX (Sh.w z) r) (stA r) (stD r) (evB s'.2 s'.3 s'.5) (vdB mv cv zv) []))/\s'.1<s.1 else i04/\bif (Sh.w z 0).2 != (0:Int)then ∃(s_3:Qc),[aP 3 0,SA.a [sI (Sh.w z 0).3,sI (Sh.w z 0).4,sI (Sh.w z 0).5],aI (Sh.w z 0).6,aB true]=[aP 3 0,SA.a [sI s_3.2,sI s_3.3,sI s_3.4],aI s_3.5,aB true]/\[wkR 7 8 (Sh.w z 0) (r 0),waR (r 0),wdR (r 0)]=[wkC 7 8 (WkS.w (Qc.s s_3)) (Qc.s s_3).3 (Qc.s s_3).4 (Qc.s s_3).7 (Qc.s s_3).8,wkA (Qc.s s_3).2 (Qc.s s_3).3 (Qc.s s_3).5,wkD (Qc.s s_3).6 (Qc.s s_3).7 (Qc.s s_3).9]/\True/\∀(x:Unit),True->dP Tryz.f42 14 17 [⟨9,[],[3,7,8,17,18],[17,18],false⟩,xR 8 3,xF 7 3,xF 6 3,xF 5 3,xR 4 3,xF 3 3,xF 2 3,xF 1 3,xF 0 3]/\(iR (1:Int) (4:Int))/\bif (Sh.w z 1).2 != (0:Int)then ∃(s_4:Qc),[aP 4 0,SA.a [sI (Sh.w z 1).3,sI (Sh.w z 1).4,sI (Sh.w z 1).5],aI (Sh.w z 1).6,aB true]=[aP 4 0,SA.a [sI s_4.2,sI s_4.3,sI s_4.4],aI s_4.5,aB true]/\[wkR 9 10 (Sh.w z 1) (r 1),waR (r 1),wdR (r 1)]=[wkC 9 10 (WkS.w (Qc.s s_4)) (Qc.s s_4).3 (Qc.s s_4).4 (Qc.s s_4).7 (Qc.s s_4).8,wkA (Qc.s s_4).2 (Qc.s s_4).3 (Qc.s s_4).5,wkD (Qc.s s_4).6 (Qc.s s_4).7 (Qc.s s_4).9]/\True/\∀(x:Unit),True->dP Tryz.f42 14 19 [⟨9,[],[4,9,10,19,20],[19,20],false⟩,xR 8 4,xF 7 4,xF 6 4,xF 5 4,xR 4 4,xF 3 4,xF 2 4,xF 1 4,xF 0 4]/\(iR (2:Int) (4:Int))/\bif (Sh.w z 2).2 != (0:Int)then ∃(s_5:Qc),[aP 5 0,SA.a [sI (Sh.w z 2).3,sI (Sh.w z 2).4,sI (Sh.w z 2).5],aI (Sh.w z 2).6,aB true]=[aP 5 0,SA.a [sI s_5.2,sI s_5.3,sI s_5.4],aI s_5.5,aB true]/\[wkR 11 12 (Sh.w z 2) (r 2),waR (r 2),wdR (r 2)]=[wkC 11 12 (WkS.w (Qc.s s_5)) (Qc.s s_5).3 (Qc.s s_5).4 (Qc.s s_5).7 (Qc.s s_5).8,wkA (Qc.s s_5).2 (Qc.s s_5).3 (Qc.s s_5).5,wkD (Qc.s s_5).6 (Qc.s s_5).7 (Qc.s s_5).9]/\True/\∀(x:Unit),True->dP Tryz.f42 14 21 [⟨9,[],[5,11,12,21,22],[21,22],false⟩,xR 8 5,xF 7 5,xF 6 5,xF 5 5,xR 4 5,xF 3 5,xF 2 5,xF 1 5,xF 0 5]/\(iR (3:Int) (4:Int))/\bif (Sh.w z 3).2 != (0:Int)then ∃(s_6:Qc),[aP 6 0,SA.a [sI (Sh.w z 3).3,sI (Sh.w z 3).4,sI (Sh.w z 3).5],aI (Sh.w z 3).6,aB true]=[aP 6 0,SA.a [sI s_6.2,sI s_6.3,sI s_6.4],aI s_6.5,aB true]/\[wkR 13 14 (Sh.w z 3) (r 3),waR (r 3),wdR (r 3)]=[wkC 13 14 (WkS.w (Qc.s s_6)) (Qc.s s_6).3 (Qc.s s_6).4 (Qc.s s_6).7 (Qc.s s_6).8,wkA (Qc.s s_6).2 (Qc.s s_6).3 (Qc.s s_6).5,wkD (Qc.s s_6).6 (Qc.s s_6).7 (Qc.s s_6).9]/\True/\∀(x:Unit),True->dP Tryz.f42 14 23 [⟨9,[],[6,13,14,23,24],[23,24],false⟩,xR 8 6,xF 7 6,xF 6 6,xF 5 6,xR 4 6,xF 3 6,xF 2 6,xF 1 6,xF 0 6]/\endN Q3 [] (fun (x:SV) (M:List SB)=>shAt M 0) (ShS.mk z r mh ch nh zh mv cv nv zv,l) (SV.t []) (shI (shD z.4 (z.5+(1:Int)) 15 s.8 s.3 s.4 16 s.1 cv nv) (putF (zF) 1 (Qt l z.2 0)) (Sto.crash (Sh.s z) l) (setF (setF (setF (setF (stX (Sh.w z) r) 0 (wkZ 17 18 (wcA s_3))) 1 (wkZ 19 20 (wcA s_4))) 2 (wkZ 21 22 (wcA s_5))) 3 (wkZ 23 24 (wcA s_6))) (setF (setF (setF (setF (stA r) 0 SB.gone) 1 SB.gone) 2 SB.gone) 3 SB.gone) (setF (setF (setF (setF (stD r) 0 SB.gone) 1 SB.gone) 2 SB.gone) 3 SB.gone) (evB s.2 s.3 s.5) (vdB mv cv zv) [wa0,wd0,wa0,wd0,wa0,wd0,wa0,wd0])else endN Q3 [] (fun (x:SV) (M:List SB)=>shAt M 0) (ShS.mk z r mh ch nh zh mv cv nv zv,l) (SV.t []) (shI (shD z.4 (z.5+(1:Int)) 15 s.8 s.3 s.4 16 s.1 cv nv) (putF (zF) 1 (Qt l z.2 0)) (Sto.crash (Sh.s z) l) (setF (setF (setF (stX (Sh.w z) r) 0 (wkZ 17 18 (wcA s_3))) 1 (wkZ 19 20 (wcA s_4))) 2 (wkZ 21 22 (wcA s_5))) (setF (setF (setF (stA r) 0 SB.gone) 1 SB.gone) 2 SB.gone) (setF (setF (setF (stD r) 0 SB.gone) 1 SB.gone) 2 SB.gone) (evB s.2 s.3 s.5) (vdB mv cv zv) [wa0,wd0,wa0,wd0,wa0,wd0])else (iR (3:Int) (4:Int))/\bif (Sh.w z 3).2 != (0:Int)then ∃(s_5:Qc),[aP 6 0,SA.a [sI (Sh.w z 3).3,sI (Sh.w z 3).4,sI (Sh.w z 3).5],aI (Sh.w z 3).6,aB true]=[aP 6 0,SA.a [sI s_5.2,sI s_5.3,sI s_5.4],aI s_5.5,aB true]/\[wkR 13 14 (Sh.w z 3) (r 3),waR (r 3),wdR (r 3)]=[wkC 13 14 (WkS.w (Qc.s s_5)) (Qc.s s_5).3 (Qc.s s_5).4 (Qc.s s_5).7 (Qc.s s_5).8,wkA (Qc.s s_5).2 (Qc.s s_5).3 (Qc.s s_5).5,wkD (Qc.s s_5).6 (Qc.s s_5).7 (Qc.s s_5).9]/\True/\∀(x:Unit),True->dP Tryz.f42 14 21 [⟨9,[],[6,13,14,21,22],[21,22],false⟩,xR 8 6,xF 7 6,xF 6 6,xF 5 6,xR 4 6,xF 3 6,xF 2 6,xF 1 6,xF 0 6]/\endN Q3 [] (fun (x:SV) (M:List SB)=>shAt M 0) (ShS.mk z r mh ch nh zh mv cv nv zv,l) (SV.t []) (shI (shD z.4 (z.5+(1:Int)) 15 s.8 s.3 s.4 16 s.1 cv nv) (putF (zF) 1 (Qt l z.2 0)) (Sto.crash (Sh.s z) l) (setF (setF (setF (stX (Sh.w z) r) 0 (wkZ 17 18 (wcA s_3))) 1 (wkZ 19 20 (wcA s_4))) 3 (wkZ 21 22 (wcA s_5))) (setF (setF (setF (stA r) 0 SB.gone) 1 SB.gone) 3 SB.gone) (setF (setF (setF (stD r) 0 SB.gone) 1 SB.gone) 3 SB.gone) (evB s.2 s.3 s.5) (vdB mv cv zv) [wa0,wd0,wa0,wd0,wa0,wd0])else endN Q3 [] (fun (x:SV) (M:List SB)=>shAt M 0) (ShS.mk z r mh ch nh zh mv cv nv zv,l) (SV.t []) (shI (shD z.4 (z.5+(1:Int)) 15 s.8 s.3 s.4 16 s.1 cv nv) (putF (zF) 1 (Qt l z.2 0)) (Sto.crash (Sh.s z) l) (setF (setF (stX (Sh.w z) r) 0 (wkZ 17 18 (wcA s_3))) 1 (wkZ 19 20 (wcA s_4))) (setF (setF (stA r) 0 SB.gone) 1 SB.gone) (setF (setF (stD r) 0 SB.gone) 1 SB.gone) (evB s.2 s.3 s.5) (vdB mv cv zv) [wa0,wd0,wa0,wd0])else (iR (2:Int) (4:Int))/\bif (Sh.w z 2).2 != (0:Int)then ∃(s_4:Qc),[aP 5 0,SA.a [sI (Sh.w z 2).3,sI (Sh.w z 2).4,sI (Sh.w z 2).5],aI (Sh.w z 2).6,aB true]=[aP 5 0,SA.a [sI s_4.2,sI s_4.3,sI s_4.4],aI s_4.5,aB true]/\[wkR 11 12 (Sh.w z 2) (r 2),waR (r 2),wdR (r 2)]=[wkC 11 12 (WkS.w (Qc.s s_4)) (Qc.s s_4).3 (Qc.s s_4).4 (Qc.s s_4).7 (Qc.s s_4).8,wkA (Qc.s s_4).2 (Qc.s s_4).3 (Qc.s s_4).5,wkD (Qc.s s_4).6 (Qc.s s_4).7 (Qc.s s_4).9]/\True/\∀(x:Unit),True->dP Tryz.f42 14 19 [⟨9,[],[5,11,12,19,20],[19,20],false⟩,xR 8 5,xF 7 5,xF 6 5,xF 5 5,xR 4 5,xF 3 5,xF 2 5,xF 1 5,xF 0 5]/\(iR (3:Int) (4:Int))/\bif (Sh.w z 3).2 != (0:Int)then ∃(s_5:Qc),[aP 6 0,SA.a [sI (Sh.w z 3).3,sI (Sh.w z 3).4,sI (Sh.w z 3).5],aI (Sh.w z 3).6,aB true]=[aP 6 0,SA.a [sI s_5.2,sI s_5.3,sI s_5.4],aI s_5.5,aB true]/\[wkR 13 14 (Sh.w z 3) (r 3),waR (r 3),wdR (r 3)]=[wkC 13 14 (WkS.w (Qc.s s_5)) (Qc.s s_5).3 (Qc.s s_5).4 (Qc.s s_5).7 (Qc.s s_5).8,wkA (Qc.s s_5).2 (Qc.s s_5).3 (Qc.s s_5).5,wkD (Qc.s s_5).6 (Qc.s s_5).7 (Qc.s s_5).9]/\True/\∀(x:Unit),True->dP Tryz.f42 14 21 [⟨9,[],[6,13,14,21,22],[21,22],false⟩,xR 8 6,xF 7 6,xF 6 6,xF 5 6,xR 4 6,xF 3 6,xF 2 6,xF 1 6,xF 0 6]/\endN Q3 [] (fun (x:SV) (M:List SB)=>shAt M 0) (ShS.mk z r mh ch nh zh mv cv nv zv,l) (SV.t []) (shI (shD z.4 (z.5+(1:Int)) 15 s.8 s.3 s.4 16 s.1 cv nv) (putF (zF) 1 (Qt l z.2 0)) (Sto.crash (Sh.s z) l) (setF (setF (setF (stX (Sh.w z) r) 0 (wkZ 17 18 (wcA s_3))) 2 (wkZ 19 20 (wcA s_4))) 3 (wkZ 21 22 (wcA s_5))) (setF (setF (setF (stA r) 0 SB.gone) 2 SB.gone) 3 SB.gone) (setF (setF (setF (stD r) 0 SB.gone) 2 SB.gone) 3 SB.gone) (evB s.2 s.3 s.5) (vdB mv cv zv) [wa0,wd0,wa0,wd0,wa0,wd0])else endN Q3 [] (fun (x:SV) (M:List SB)=>shAt M 0) (ShS.mk z r mh ch nh zh mv cv nv zv,l) (SV.t []) (shI (shD z.4 (z.5+(1:Int)) 15 s.8 s.3 s.4 16 s.1 cv nv) (putF (zF) 1 (Qt l z.2 0)) (Sto.crash (Sh.s z) l) (setF (setF (stX (Sh.w z) r) 0 (wkZ 17 18 (wcA s_3))) 2 (wkZ 19 20 (wcA s_4))) (setF (setF (stA r) 0 SB.gone) 2 SB.gone) (setF (setF (stD r) 0 SB.gone) 2 SB.gone) (evB s.2 s.3 s.5) (vdB mv cv zv) [wa0,wd0,wa0,wd0])else (iR (3:Int) (4:Int))/\bif (Sh.w z 3).2 != (0:Int)then ∃(s_4:Qc),[aP 6 0,SA.a [sI (Sh.w z 3).3,sI (Sh.w z 3).4,sI (Sh.w z 3).5],aI (Sh.w z 3).6,aB true]=[aP 6 0,SA.a [sI s_4.2,sI s_4.3,sI s_4.4],aI s_4.5,aB true]/\[wkR 13 14 (Sh.w z 3) (r 3),waR (r 3),wdR (r 3)]=[wkC 13 14 (WkS.w (Qc.s s_4)) (Qc.s s_4).3 (Qc.s s_4).4 (Qc.s s_4).7 (Qc.s s_4).8,wkA (Qc.s s_4).2 (Qc.s s_4).3 (Qc.s s_4).5,wkD (Qc.s s_4).6 (Qc.s s_4).7 (Qc.s s_4).9]/\True/\∀(x:Unit),True->dP Tryz.f42 14 19 [⟨9,[],[6,13,14,19,20],[19,20],false⟩,xR 8 6,xF 7 6,xF 6 6,xF 5 6,xR 4 6,xF 3 6,xF 2 6,xF 1 6,xF 0 6]/\endN Q3 [] (fun (x:SV) (M:List SB)=>shAt M 0) (ShS.mk z r mh ch nh zh mv cv nv zv,l) (SV.t []) (shI (shD z.4 (z.5+(1:Int)) 15 s.8 s.3 s.4 16 s.1 cv nv) (putF (zF) 1 (Qt l z.2 0)) (Sto.crash (Sh.s z) l) (setF (setF (stX (Sh.w z) r) 0 (wkZ 17 18 (wcA s_3))) 3 (wkZ 19 20 (wcA s_4))) (setF (setF (stA r) 0 SB.gone) 3 SB.gone) (setF (setF (stD r) 0 SB.gone) 3 SB.gone) (evB s.2 s.3 s.5) (vdB mv cv zv) [wa0,wd0,wa0,wd0])else endN Q3 [] (fun (x:SV) (M:List SB)=>shAt M 0) (ShS.mk z r mh ch nh zh mv cv nv zv,l) (SV.t []) (shI (shD z.4 (z.5+(1:Int)) 15 s.8 s.3 s.4 16 s.1 cv nv) (putF (zF) 1 (Qt l z.2 0)) (Sto.crash (Sh.s z) l) (setF (stX (Sh.w z) r) 0 (wkZ 17 18 (wcA s_3))) (setF (stA r) 0 SB.gone) (setF (stD r) 0 SB.gone) (evB s.2 s.3 s.5) (vdB mv cv zv) [wa0,wd0])else (iR (1:Int) (4:Int))/\bif (Sh.w z 1).2 != (0:Int)then ∃(s_3:Qc),[aP 4 0,SA.a [sI (Sh.w z 1).3,sI (Sh.w z 1).4,sI (Sh.w z 1).5],aI (Sh.w z 1).6,aB true]=[aP 4 0,SA.a [sI s_3.2,sI s_3.3,sI s_3.4],aI s_3.5,aB true]/\[wkR 9 10 (Sh.w z 1) (r 1),waR (r 1),wdR (r 1)]=[wkC 9 10 (WkS.w (Qc.s s_3)) (Qc.s s_3).3 (Qc.s s_3).4 (Qc.s s_3).7 (Qc.s s_3).8,wkA (Qc.s s_3).2 (Qc.s s_3).3 (Qc.s s_3).5,wkD (Qc.s s_3).6 (Qc.s s_3).7 (Qc.s s_3).9]/\True/\∀(x:Unit),True->dP Tryz.f42 14 17 [⟨9,[],[4,9,10,17,18],[17,18],false⟩,xR 8 4,xF 7 4,xF 6 4,xF 5 4,xR 4 4,xF 3 4,xF 2 4,xF 1 4,xF 0 4]/\(iR (2:Int) (4:Int))/\bif (Sh.w z 2).2 != (0:Int)then ∃(s_4:Qc),[aP 5 0,SA.a [sI (Sh.w z 2).3,sI (Sh.w z 2).4,sI (Sh.w z 2).5],aI (Sh.w z 2).6,aB true]=[aP 5 0,SA.a [sI s_4.2,sI s_4.3,sI s_4.4],aI s_4.5,aB true]/\[wkR 11 12 (Sh.w z 2) (r 2),waR (r 2),wdR (r 2)]=[wkC 11 12 (WkS.w (Qc.s s_4)) (Qc.s s_4).3 (Qc.s s_4).4 (Qc.s s_4).7 (Qc.s s_4).8,wkA (Qc.s s_4).2 (Qc.s s_4).3 (Qc.s s_4).5,wkD (Qc.s s_4).6 (Qc.s s_4).7 (Qc.s s_4).9]/\True/\∀(x:Unit),True->dP Tryz.f42 14 19 [⟨9,[],[5,11,12,19,20],[19,20],false⟩,xR 8 5,xF 7 5,xF 6 5,xF 5 5,xR 4 5,xF 3 5,xF 2 5,xF 1 5,xF 0 5]/\(iR (3:Int) (4:Int))/\bif (Sh.w z 3).2 != (0:Int)then ∃(s_5:Qc),[aP 6 0,SA.a [sI (Sh.w z 3).3,sI (Sh.w z 3).4,sI (Sh.w z 3).5],aI (Sh.w z 3).6,aB true]=[aP 6 0,SA.a [sI s_5.2,sI s_5.3,sI s_5.4],aI s_5.5,aB true]/\[wkR 13 14 (Sh.w z 3) (r 3),waR (r 3),wdR (r 3)]=[wkC 13 14 (WkS.w (Qc.s s_5)) (Qc.s s_5).3 (Qc.s s_5).4 (Qc.s s_5).7 (Qc.s s_5).8,wkA (Qc.s s_5).2 (Qc.s s_5).3 (Qc.s s_5).5,wkD (Qc.s s_5).6 (Qc.s s_5).7 (Qc.s s_5).9]/\True/\∀(x:Unit),True->dP Tryz.f42 14 21 [⟨9,[],[6,13,14,21,22],[21,22],false⟩,xR 8 6,xF 7 6,xF 6 6,xF 5 6,xR 4 6,xF 3 6,xF 2 6,xF 1 6,xF 0 6]/\endN Q3 [] (fun (x:SV) (M:List SB)=>shAt M 0) (ShS.mk z r mh ch nh zh mv cv nv zv,l) (SV.t []) (shI (shD z.4 (z.5+(1:Int)) 15 s.8 s.3 s.4 16 s.1 cv nv) (putF (zF) 1 (Qt l z.2 0)) (Sto.crash (Sh.s z) l) (setF (setF (setF (stX (Sh.w z) r) 1 (wkZ 17 18 (wcA s_3))) 2 (wkZ 19 20 (wcA s_4))) 3 (wkZ 21 22 (wcA s_5))) (setF (setF (setF (stA r) 1 SB.gone) 2 SB.gone) 3 SB.gone) (setF (setF (setF (stD r) 1 SB.gone) 2 SB.gone) 3 SB.gone) (evB s.2 s.3 s.5) (vdB mv cv zv) [wa0,wd0,wa0,wd0,wa0,wd0])else endN Q3 [] (fun (x:SV) (M:List SB)=>shAt M 0) (ShS.mk z r mh ch nh zh mv cv nv zv,l) (SV.t []) (shI (shD z.4 (z.5+(1:Int)) 15 s.8 s.3 s.4 16 s.1 cv nv) (putF (zF) 1 (Qt l z.2 0)) (Sto.crash (Sh.s z) l) (setF (setF (stX (Sh.w z) r) 1 (wkZ 17 18 (wcA s_3))) 2 (wkZ 19 20 (wcA s_4))) (setF (setF (stA r) 1 SB.gone) 2 SB.gone) (setF (setF (stD r) 1 SB.gone) 2 SB.gone) (evB s.2 s.3 s.5) (vdB mv cv zv) [wa0,wd0,wa0,wd0])else (iR (3:Int) (4:Int))/\bif (Sh.w z 3).2 != (0:Int)then ∃(s_4:Qc),[aP 6 0,SA.a [sI (Sh.w z 3).3,sI (Sh.w z 3).4,sI (Sh.w z 3).5],aI (Sh.w z 3).6,aB true]=[aP 6 0,SA.a [sI s_4.2,sI s_4.3,sI s_4.4],aI s_4.5,aB true]/\[wkR 13 14 (Sh.w z 3) (r 3),waR (r 3),wdR (r 3)]=[wkC 13 14 (WkS.w (Qc.s s_4)) (Qc.s s_4).3 (Qc.s s_4).4 (Qc.s s_4).7 (Qc.s s_4).8,wkA (Qc.s s_4).2 (Qc.s s_4).3 (Qc.s s_4).5,wkD (Qc.s s_4).6 (Qc.s s_4).7 (Qc.s s_4).9]/\True/\∀(x:Unit),True->dP Tryz.f42 14 19 [⟨9,[],[6,13,14,19,20],[19,20],false⟩,xR 8 6,xF 7 6,xF 6 6,xF 5 6,xR 4 6,xF 3 6,xF 2 6,xF 1 6,xF 0 6]/\endN Q3 [] (fun (x:SV) (M:List SB)=>shAt M 0) (ShS.mk z r mh ch nh zh mv cv nv zv,l) (SV.t []) (shI (shD z.4 (z.5+(1:Int)) 15 s.8 s.3 s.4 16 s.1 cv nv) (putF (zF) 1 (Qt l z.2 0)) (Sto.crash (Sh.s z) l) (setF (setF (stX (Sh.w z) r) 1 (wkZ 17 18 (wcA s_3))) 3 (wkZ 19 20 (wcA s_4))) (setF (setF (stA r) 1 SB.gone) 3 SB.gone) (setF (setF (stD r) 1 SB.gone) 3 SB.gone) (evB s.2 s.3 s.5) (vdB mv cv zv) [wa0,wd0,wa0,wd0])else endN Q3 [] (fun (x:SV) (M:List SB)=>shAt M 0) (ShS.mk z r mh ch nh zh mv cv nv zv,l) (SV.t []) (shI (shD z.4 (z.5+(1:Int)) 15 s.8 s.3 s.4 16 s.1 cv nv) (putF (zF) 1 (Qt l z.2 0)) (Sto.crash (Sh.s z) l) (setF (stX (Sh.w z) r) 1 (wkZ 17 18 (wcA s_3))) (setF (stA r) 1 SB.gone) (setF (stD r) 1 SB.gone) (evB s.2 s.3 s.5) (vdB mv cv zv) [wa0,wd0])else (iR (2:Int) (4:Int))/\bif (Sh.w z 2).2 != (0:Int)then ∃(s_3:Qc),[aP 5 0,SA.a [sI (Sh.w z 2).3,sI (Sh.w z 2).4,sI (Sh.w z 2).5],aI (Sh.w z 2).6,aB true]=[aP 5 0,SA.a [sI s_3.2,sI s_3.3,sI s_3.4],aI s_3.5,aB true]/\[wkR 11 12 (Sh.w z 2) (r 2),waR (r 2),wdR (r 2)]=[wkC 11 12 (WkS.w (Qc.s s_3)) (Qc.s s_3).3 (Qc.s s_3).4 (Qc.s s_3).7 (Qc.s s_3).8,wkA (Qc.s s_3).2 (Qc.s s_3).3 (Qc.s s_3).5,wkD (Qc.s s_3).6 (Qc.s s_3).7 (Qc.s s_3).9]/\True/\∀(x:Unit),True->dP Tryz.f42 14 17 [⟨9,[],[5,11,12,17,18],[17,18],false⟩,xR 8 5,xF 7 5,xF 6 5,xF 5 5,xR 4 5,xF 3 5,xF 2 5,xF 1 5,xF 0 5]/\(iR (3:Int) (4:Int))/\bif (Sh.w z 3).2 != (0:Int)then ∃(s_4:Qc),[aP 6 0,SA.a [sI (Sh.w z 3).3,sI (Sh.w z 3).4,sI (Sh.w z 3).5],aI (Sh.w z 3).6,aB true]=[aP 6 0,SA.a [sI s_4.2,sI s_4.3,sI s_4.4],aI s_4.5,aB true]/\[wkR 13 14 (Sh.w z 3) (r 3),waR (r 3),wdR (r 3)]=[wkC 13 14 (WkS.w (Qc.s s_4)) (Qc.s s_4).3 (Qc.s s_4).4 (Qc.s s_4).7 (Qc.s s_4).8,wkA (Qc.s s_4).2 (Qc.s s_4).3 (Qc.s s_4).5,wkD (Qc.s s_4).6 (Qc.s s_4).7 (Qc.s s_4).9]/\True/\∀(x:Unit),True->dP Tryz.f42 14 19 [⟨9,[],[6,13,14,19,20],[19,20],false⟩,xR 8 6,xF 7 6,xF 6 6,xF 5 6,xR 4 6,xF 3 6,xF 2 6,xF 1 6,xF 0 6]/\endN Q3 [] (fun (x:SV) (M:List SB)=>shAt M 0) (ShS.mk z r mh ch nh zh mv cv nv zv,l) (SV.t []) (shI (shD z.4 (z.5+(1:Int)) 15 s.8 s.3 s.4 16 s.1 cv nv) (putF (zF) 1 (Qt l z.2 0)) (Sto.crash (Sh.s z) l) (setF (setF (stX (Sh.w z) r) 2 (wkZ 17 18 (wcA s_3))) 3 (wkZ 19 20 (wcA s_4))) (setF (setF (stA r) 2 SB.gone) 3 SB.gone) (setF (setF (stD r) 2 SB.gone) 3 SB.gone) (evB s.2 s.3 s.5) (vdB mv cv zv) [wa0,wd0,wa0,wd0])else endN Q3 [] (fun (x:SV) (M:List SB)=>shAt M 0) (ShS.mk z r mh ch nh zh mv cv nv zv,l) (SV.t []) (shI (shD z.4 (z.5+(1:Int)) 15 s.8 s.3 s.4 16 s.1 cv nv) (putF (zF) 1 (Qt l z.2 0)) (Sto.crash (Sh.s z) l) (setF (stX (Sh.w z) r) 2 (wkZ 17 18 (wcA s_3))) (setF (stA r) 2 SB.gone) (setF (stD r) 2 SB.gone) (evB s.2 s.3 s.5) (vdB mv cv zv) [wa0,wd0])else (iR (3:Int) (4:Int))/\bif (Sh.w z 3).2 != (0:Int)then ∃(s_3:Qc),[aP 6 0,SA.a [sI (Sh.w z 3).3,sI (Sh.w z 3).4,sI (Sh.w z 3).5],aI (Sh.w z 3).6,aB true]=[aP 6 0,SA.a [sI s_3.2,sI s_3.3,sI s_3.4],aI s_3.5,aB true]/\[wkR 13 14 (Sh.w z 3) (r 3),waR (r 3),wdR (r 3)]=[wkC 13 14 (WkS.w (Qc.s s_3)) (Qc.s s_3).3 (Qc.s s_3).4 (Qc.s s_3).7 (Qc.s s_3).8,wkA (Qc.s s_3).2 (Qc.s s_3).3 (Qc.s s_3).5,wkD (Qc.s s_3).6 (Qc.s s_3).7 (Qc.s s_3).9]/\True/\∀(x:Unit),True->dP Tryz.f42 14 17 [⟨9,[],[6,13,14,17,18],[17,18],false⟩,xR 8 6,xF 7 6,xF 6 6,xF 5 6,xR 4 6,xF 3 6,xF 2 6,xF 1 6,xF 0 6]/\endN Q3 [] (fun (x:SV) (M:List SB)=>shAt M 0) (ShS.mk z r mh ch nh zh mv cv nv zv,l) (SV.t []) (shI (shD z.4 (z.5+(1:Int)) 15 s.8 s.3 s.4 16 s.1 cv nv) (putF (zF) 1 (Qt l z.2 0)) (Sto.crash (Sh.s z) l) (setF (stX (Sh.w z) r) 3 (wkZ 17 18 (wcA s_3))) (setF (stA r) 3 SB.gone) (setF (stD r) 3 SB.gone) (evB s.2 s.3 s.5) (vdB mv cv zv) [wa0,wd0])else endN Q3 [] (fun (x:SV) (M:List SB)=>shAt M 0) (ShS.mk z r mh ch nh zh mv cv nv zv,l) (SV.t []) (shI (shD z.4 (z.5+(1:Int)) 15 s.8 s.3 s.4 16 s.1 cv nv) (putF (zF) 1 (Qt l z.2 0)) (Sto.crash (Sh.s z) l) (stX (Sh.w z) r) (stA r) (stD r) (evB s.2 s.3 s.5) (vdB mv cv zv) [])else i04/\bif (Sh.w z 0).2 != (0:Int)then ∃(s_3:Qc),[aP 3 0,SA.a [sI (Sh.w z 0).3,sI (Sh.w z 0).4,sI (Sh.w z 0).5],aI (Sh.w z 0).6,aB true]=[aP 3 0,SA.a [sI s_3.2,sI s_3.3,sI s_3.4],aI s_3.5,aB true]/\[wkR 7 8 (Sh.w z 0) (r 0),waR (r 0),wdR (r 0)]=[wkC 7 8 (WkS.w (Qc.s s_3)) (Qc.s s_3).3 (Qc.s s_3).4 (Qc.s s_3).7 (Qc.s s_3).8,wkA (Qc.s s_3).2 (Qc.s s_3).3 (Qc.s s_3).5,wkD (Qc.s s_3).6 (Qc.s s_3).7 (Qc.s s_3).9]/\True/\∀(x:Unit),True->dP Tryz.f42 14 17 [⟨9,[],[3,7,8,17,18],[17,18],false⟩,xR 8 3,xF 7 3,xF 6 3,xF 5 3,xR 4 3,xF 3 3,xF 2 3,xF 1 3,xF 0 3]/\(iR (1:Int) (4:Int))/\bif (Sh.w z 1).2 != (0:Int)then ∃(s_4:Qc),[aP 4 0,SA.a [sI (Sh.w z 1).3,sI (Sh.w z 1).4,sI (Sh.w z 1).5],aI (Sh.w z 1).6,aB true]=[aP 4 0,SA.a [sI s_4.2,sI s_4.3,sI s_4.4],aI s_4.5,aB true]/\[wkR 9 10 (Sh.w z 1) (r 1),waR (r 1),wdR (r 1)]=[wkC 9 10 (WkS.w (Qc.s s_4)) (Qc.s s_4).3 (Qc.s s_4).4 (Qc.s s_4).7 (Qc.s s_4).8,wkA (Qc.s s_4).2 (Qc.s s_4).3 (Qc.s s_4).5,wkD (Qc.s s_4).6 (Qc.s s_4).7 (Qc.s s_4).9]/\True/\∀(x:Unit),True->dP Tryz.f42 14 19 [⟨9,[],[4,9,10,19,20],[19,20],false⟩,xR 8 4,xF 7 4,xF 6 4,xF 5 4,xR 4 4,xF 3 4,xF 2 4,xF 1 4,xF 0 4]/\(iR (2:Int) (4:Int))/\bif (Sh.w z 2).2 != (0:Int)then ∃(s_5:Qc),[aP 5 0,SA.a [sI (Sh.w z 2).3,sI (Sh.w z 2).4,sI (Sh.w z 2).5],aI (Sh.w z 2).6,aB true]=[aP 5 0,SA.a [sI s_5.2,sI s_5.3,sI s_5.4],aI s_5.5,aB true]/\[wkR 11 12 (Sh.w z 2) (r 2),waR (r 2),wdR (r 2)]=[wkC 11 12 (WkS.w (Qc.s s_5)) (Qc.s s_5).3 (Qc.s s_5).4 (Qc.s s_5).7 (Qc.s s_5).8,wkA (Qc.s s_5).2 (Qc.s s_5).3 (Qc.s s_5).5,wkD (Qc.s s_5).6 (Qc.s s_5).7 (Qc.s s_5).9]/\True/\∀(x:Unit),True->dP Tryz.f42 14 21 [⟨9,[],[5,11,12,21,22],[21,22],false⟩,xR 8 5,xF 7 5,xF 6 5,xF 5 5,xR 4 5,xF 3 5,xF 2 5,xF 1 5,xF 0 5]/\(iR (3:Int) (4:Int))/\bif (Sh.w z 3).2 != (0:Int)then ∃(s_6:Qc),[aP 6 0,SA.a [sI (Sh.w z 3).3,sI (Sh.w z 3).4,sI (Sh.w z 3).5],aI (Sh.w z 3).6,aB true]=[aP 6 0,SA.a [sI s_6.2,sI s_6.3,sI s_6.4],aI s_6.5,aB true]/\[wkR 13 14 (Sh.w z 3) (r 3),waR (r 3),wdR (r 3)]=[wkC 13 14 (WkS.w (Qc.s s_6)) (Qc.s s_6).3 (Qc.s s_6).4 (Qc.s s_6).7 (Qc.s s_6).8,wkA (Qc.s s_6).2 (Qc.s s_6).3 (Qc.s s_6).5,wkD (Qc.s s_6).6 (Qc.s s_6).7 (Qc.s s_6).9]/\True/\∀(x:Unit),True->dP Tryz.f42 14 23 [⟨9,[],[6,13,14,23,24],[23,24],false⟩,xR 8 6,xF 7 6,xF 6 6,xF 5 6,xR 4 6,xF 3 6,xF 2 6,xF 1 6,xF 0 6]/\endN Q3 [] (fun (x:SV) (M:List SB)=>shAt M 0) (ShS.mk z r mh ch nh zh mv cv nv zv,l) (SV.t []) (shI (shD z.4 (z.5+(1:Int)) 15 s.8 s.3 s.4 16 s.1 cv nv) (putF (zF) 1 (Qt l z.2 0)) (Sto.crash (Sh.s z) l) (setF (setF (setF (setF (stX (Sh.w z) r) 0 (wkZ 17 18 (wcA s_3))) 1 (wkZ 19 20 (wcA s_4))) 2 (wkZ 21 22 (wcA s_5))) 3 (wkZ 23 24 (wcA s_6))) (setF (setF (setF (setF (stA r) 0 SB.gone) 1 SB.gone) 2 SB.gone) 3 SB.gone) (setF (setF (setF (setF (stD r) 0 SB.gone) 1 SB.gone) 2 SB.gone) 3 SB.gone) (evB s.2 s.3 s.5) (vdB mv cv zv) [wa0,wd0,wa0,wd0,wa0,wd0,wa0,wd0])else endN Q3 [] (fun (x:SV) (M:List SB)=>shAt M 0) (ShS.mk z r mh ch nh zh mv cv nv zv,l) (SV.t []) (shI (shD z.4 (z.5+(1:Int)) 15 s.8 s.3 s.4 16 s.1 cv nv) (putF (zF) 1 (Qt l z.2 0)) (Sto.crash (Sh.s z) l) (setF (setF (setF (stX (Sh.w z) r) 0 (wkZ 17 18 (wcA s_3))) 1 (wkZ 19 20 (wcA s_4))) 2 (wkZ 21 22 (wcA s_5))) (setF (setF (setF (stA r) 0 SB.gone) 1 SB.gone) 2 SB.gone) (setF (setF (setF (stD r) 0 SB.gone) 1 SB.gone) 2 SB.gone) (evB s.2 s.3 s.5) (vdB mv cv zv) [wa0,wd0,wa0,wd0,wa0,wd0])else (iR (3:Int) (4:Int))/\bif (Sh.w z 3).2 != (0:Int)then ∃(s_5:Qc),[aP 6 0,SA.a [sI (Sh.w z 3).3,sI (Sh.w z 3).4,sI (Sh.w z 3).5],aI (Sh.w z 3).6,aB true]=[aP 6 0,SA.a [sI s_5.2,sI s_5.3,sI s_5.4],aI s_5.5,aB true]/\[wkR 13 14 (Sh.w z 3) (r 3),waR (r 3),wdR (r 3)]=[wkC 13 14 (WkS.w (Qc.s s_5)) (Qc.s s_5).3 (Qc.s s_5).4 (Qc.s s_5).7 (Qc.s s_5).8,wkA (Qc.s s_5).2 (Qc.s s_5).3 (Qc.s s_5).5,wkD (Qc.s s_5).6 (Qc.s s_5).7 (Qc.s s_5).9]/\True/\∀(x:Unit),True->dP Tryz.f42 14 21 [⟨9,[],[6,13,14,21,22],[21,22],false⟩,xR 8 6,xF 7 6,xF 6 6,xF 5 6,xR 4 6,xF 3 6,xF 2 6,xF 1 6,xF 0 6]/\endN Q3 [] (fun (x:SV) (M:List SB)=>shAt M 0) (ShS.mk z r mh ch nh zh mv cv nv zv,l) (SV.t []) (shI (shD z.4 (z.5+(1:Int)) 15 s.8 s.3 s.4 16 s.1 cv nv) (putF (zF) 1 (Qt l z.2 0)) (Sto.crash (Sh.s z) l) (setF (setF (setF (stX (Sh.w z) r) 0 (wkZ 17 18 (wcA s_3))) 1 (wkZ 19 20 (wcA s_4))) 3 (wkZ 21 22 (wcA s_5))) (setF (setF (setF (stA r) 0 SB.gone) 1 SB.gone) 3 SB.gone) (setF (setF (setF (stD r) 0 SB.gone) 1 SB.gone) 3 SB.gone) (evB s.2 s.3 s.5) (vdB mv cv zv) [wa0,wd0,wa0,wd0,wa0,wd0])else endN Q3 [] (fun (x:SV) (M:List SB)=>shAt M 0) (ShS.mk z r mh ch nh zh mv cv nv zv,l) (SV.t []) (shI (shD z.4 (z.5+(1:Int)) 15 s.8 s.3 s.4 16 s.1 cv nv) (putF (zF) 1 (Qt l z.2 0)) (Sto.crash (Sh.s z) l) (setF (setF (stX (Sh.w z) r) 0 (wkZ 17 18 (wcA s_3))) 1 (wkZ 19 20 (wcA s_4))) (setF (setF (stA r) 0 SB.gone) 1 SB.gone) (setF (setF (stD r) 0 SB.gone) 1 SB.gone) (evB s.2 s.3 s.5) (vdB mv cv zv) [wa0,wd0,wa0,wd0])else (iR (2:Int) (4:Int))/\bif (Sh.w z 2).2 != (0:Int)then ∃(s_4:Qc),[aP 5 0,SA.a [sI (Sh.w z 2).3,sI (Sh.w z 2).4,sI (Sh.w z 2).5],aI (Sh.w z 2).6,aB true]=[aP 5 0,SA.a [sI s_4.2,sI s_4.3,sI s_4.4],aI s_4.5,aB true]/\[wkR 11 12 (Sh.w z 2) (r 2),waR (r 2),wdR (r 2)]=[wkC 11 12 (WkS.w (Qc.s s_4)) (Qc.s s_4).3 (Qc.s s_4).4 (Qc.s s_4).7 (Qc.s s_4).8,wkA (Qc.s s_4).2 (Qc.s s_4).3 (Qc.s s_4).5,wkD (Qc.s s_4).6 (Qc.s s_4).7 (Qc.s s_4).9]/\True/\∀(x:Unit),True->dP Tryz.f42 14 19 [⟨9,[],[5,11,12,19,20],[19,20],false⟩,xR 8 5,xF 7 5,xF 6 5,xF 5 5,xR 4 5,xF 3 5,xF 2 5,xF 1 5,xF 0 5]/\(iR (3:Int) (4:Int))/\bif (Sh.w z 3).2 != (0:Int)then ∃(s_5:Qc),[aP 6 0,SA.a [sI (Sh.w z 3).3,sI (Sh.w z 3).4,sI (Sh.w z 3).5],aI (Sh.w z 3).6,aB true]=[aP 6 0,SA.a [sI s_5.2,sI s_5.3,sI s_5.4],aI s_5.5,aB true]/\[wkR 13 14 (Sh.w z 3) (r 3),waR (r 3),wdR (r 3)]=[wkC 13 14 (WkS.w (Qc.s s_5)) (Qc.s s_5).3 (Qc.s s_5).4 (Qc.s s_5).7 (Qc.s s_5).8,wkA (Qc.s s_5).2 (Qc.s s_5).3 (Qc.s s_5).5,wkD (Qc.s s_5).6 (Qc.s s_5).7 (Qc.s s_5).9]/\True/\∀(x:Unit),True->dP Tryz.f42 14 21 [⟨9,[],[6,13,14,21,22],[21,22],false⟩,xR 8 6,xF 7 6,xF 6 6,xF 5 6,xR 4 6,xF 3 6,xF 2 6,xF 1 6,xF 0 6]/\endN Q3 [] (fun (x:SV) (M:List SB)=>shAt M 0) (ShS.mk z r mh ch nh zh mv cv nv zv,l) (SV.t []) (shI (shD z.4 (z.5+(1:Int)) 15 s.8 s.3 s.4 16 s.1 cv nv) (putF (zF) 1 (Qt l z.2 0)) (Sto.crash (Sh.s z) l) (setF (setF (setF (stX (Sh.w z) r) 0 (wkZ 17 18 (wcA s_3))) 2 (wkZ 19 20 (wcA s_4))) 3 (wkZ 21 22 (wcA s_5))) (setF (setF (setF (stA r) 0 SB.gone) 2 SB.gone) 3 SB.gone) (setF (setF (setF (stD r) 0 SB.gone) 2 SB.gone) 3 SB.gone) (evB s.2 s.3 s.5) (vdB mv cv zv) [wa0,wd0,wa0,wd0,wa0,wd0])else endN Q3 [] (fun (x:SV) (M:List SB)=>shAt M 0) (ShS.mk z r mh ch nh zh mv cv nv zv,l) (SV.t []) (shI (shD z.4 (z.5+(1:Int)) 15 s.8 s.3 s.4 16 s.1 cv nv) (putF (zF) 1 (Qt l z.2 0)) (Sto.crash (Sh.s z) l) (setF (setF (stX (Sh.w z) r) 0 (wkZ 17 18 (wcA s_3))) 2 (wkZ 19 20 (wcA s_4))) (setF (setF (stA r) 0 SB.gone) 2 SB.gone) (setF (setF (stD r) 0 SB.gone) 2 SB.gone) (evB s.2 s.3 s.5) (vdB mv cv zv) [wa0,wd0,wa0,wd0])else (iR (3:Int) (4:Int))/\bif (Sh.w z 3).2 != (0:Int)then ∃(s_4:Qc),[aP 6 0,SA.a [sI (Sh.w z 3).3,sI (Sh.w z 3).4,sI (Sh.w z 3).5],aI (Sh.w z 3).6,aB true]=[aP 6 0,SA.a [sI s_4.2,sI s_4.3,sI s_4.4],aI s_4.5,aB true]/\[wkR 13 14 (Sh.w z 3) (r 3),waR (r 3),wdR (r 3)]=[wkC 13 14 (WkS.w (Qc.s s_4)) (Qc.s s_4).3 (Qc.s s_4).4 (Qc.s s_4).7 (Qc.s s_4).8,wkA (Qc.s s_4).2 (Qc.s s_4).3 (Qc.s s_4).5,wkD (Qc.s s_4).6 (Qc.s s_4).7 (Qc.s s_4).9]/\True/\∀(x:Unit),True->dP Tryz.f42 14 19 [⟨9,[],[6,13,14,19,20],[19,20],false⟩,xR 8 6,xF 7 6,xF 6 6,xF 5 6,xR 4 6,xF 3 6,xF 2 6,xF 1 6,xF 0 6]/\endN Q3 [] (fun (x:SV) (M:List SB)=>shAt M 0) (ShS.mk z r mh ch nh zh mv cv nv zv,l) (SV.t []) (shI (shD z.4 (z.5+(1:Int)) 15 s.8 s.3 s.4 16 s.1 cv nv) (putF (zF) 1 (Qt l z.2 0)) (Sto.crash (Sh.s z) l) (setF (setF (stX (Sh.w z) r) 0 (wkZ 17 18 (wcA s_3))) 3 (wkZ 19 20 (wcA s_4))) (setF (setF (stA r) 0 SB.gone) 3 SB.gone) (setF (setF (stD r) 0 SB.gone) 3 SB.gone) (evB s.2 s.3 s.5) (vdB mv cv zv) [wa0,wd0,wa0,wd0])else endN Q3 [] (fun (x:SV) (M:List SB)=>shAt M 0) (ShS.mk z r mh ch nh zh mv cv nv zv,l) (SV.t []) (shI (shD z.4 (z.5+(1:Int)) 15 s.8 s.3 s.4 16 s.1 cv nv) (putF (zF) 1 (Qt l z.2 0)) (Sto.crash (Sh.s z) l) (setF (stX (Sh.w z) r) 0 (wkZ 17 18 (wcA s_3))) (setF (stA r) 0 SB.gone) (setF (stD r) 0 SB.gone) (evB s.2 s.3 s.5) (vdB mv cv zv) [wa0,wd0])else (iR (1:Int) (4:Int))/\bif (Sh.w z 1).2 != (0:Int)then ∃(s_3:Qc),[aP 4 0,SA.a [sI (Sh.w z 1).3,sI (Sh.w z 1).4,sI (Sh.w z 1).5],aI (Sh.w z 1).6,aB true]=[aP 4 0,SA.a [sI s_3.2,sI s_3.3,sI s_3.4],aI s_3.5,aB true]/\[wkR 9 10 (Sh.w z 1) (r 1),waR (r 1),wdR (r 1)]=[wkC 9 10 (WkS.w (Qc.s s_3)) (Qc.s s_3).3 (Qc.s s_3).4 (Qc.s s_3).7 (Qc.s s_3).8,wkA (Qc.s s_3).2 (Qc.s s_3).3 (Qc.s s_3).5,wkD (Qc.s s_3).6 (Qc.s s_3).7 (Qc.s s_3).9]/\True/\∀(x:Unit),True->dP Tryz.f42 14 17 [⟨9,[],[4,9,10,17,18],[17,18],false⟩,xR 8 4,xF 7 4,xF 6 4,xF 5 4,xR 4 4,xF 3 4,xF 2 4,xF 1 4,xF 0 4]/\(iR (2:Int) (4:Int))/\bif (Sh.w z 2).2 != (0:Int)then ∃(s_4:Qc),[aP 5 0,SA.a [sI (Sh.w z 2).3,sI (Sh.w z 2).4,sI (Sh.w z 2).5],aI (Sh.w z 2).6,aB true]=[aP 5 0,SA.a [sI s_4.2,sI s_4.3,sI s_4.4],aI s_4.5,aB true]/\[wkR 11 12 (Sh.w z 2) (r 2),waR (r 2),wdR (r 2)]=[wkC 11 12 (WkS.w (Qc.s s_4)) (Qc.s s_4).3 (Qc.s s_4).4 (Qc.s s_4).7 (Qc.s s_4).8,wkA (Qc.s s_4).2 (Qc.s s_4).3 (Qc.s s_4).5,wkD (Qc.s s_4).6 (Qc.s s_4).7 (Qc.s s_4).9]/\True/\∀(x:Unit),True->dP Tryz.f42 14 19 [⟨9,[],[5,11,12,19,20],[19,20],false⟩,xR 8 5,xF 7 5,xF 6 5,xF 5 5,xR 4 5,xF 3 5,xF 2 5,xF 1 5,xF 0 5]/\(iR (3:Int) (4:Int))/\bif (Sh.w z 3).2 != (0:Int)then ∃(s_5:Qc),[aP 6 0,SA.a [sI (Sh.w z 3).3,sI (Sh.w z 3).4,sI (Sh.w z 3).5],aI (Sh.w z 3).6,aB true]=[aP 6 0,SA.a [sI s_5.2,sI s_5.3,sI s_5.4],aI s_5.5,aB true]/\[wkR 13 14 (Sh.w z 3) (r 3),waR (r 3),wdR (r 3)]=[wkC 13 14 (WkS.w (Qc.s s_5)) (Qc.s s_5).3 (Qc.s s_5).4 (Qc.s s_5).7 (Qc.s s_5).8,wkA (Qc.s s_5).2 (Qc.s s_5).3 (Qc.s s_5).5,wkD (Qc.s s_5).6 (Qc.s s_5).7 (Qc.s s_5).9]/\True/\∀(x:Unit),True->dP Tryz.f42 14 21 [⟨9,[],[6,13,14,21,22],[21,22],false⟩,xR 8 6,xF 7 6,xF 6 6,xF 5 6,xR 4 6,xF 3 6,xF 2 6,xF 1 6,xF 0 6]/\endN Q3 [] (fun (x:SV) (M:List SB)=>shAt M 0) (ShS.mk z r mh ch nh zh mv cv nv zv,l) (SV.t []) (shI (shD z.4 (z.5+(1:Int)) 15 s.8 s.3 s.4 16 s.1 cv nv) (putF (zF) 1 (Qt l z.2 0)) (Sto.crash (Sh.s z) l) (setF (setF (setF (stX (Sh.w z) r) 1 (wkZ 17 18 (wcA s_3))) 2 (wkZ 19 20 (wcA s_4))) 3 (wkZ 21 22 (wcA s_5))) (setF (setF (setF (stA r) 1 SB.gone) 2 SB.gone) 3 SB.gone) (setF (setF (setF (stD r) 1 SB.gone) 2 SB.gone) 3 SB.gone) (evB s.2 s.3 s.5) (vdB mv cv zv) [wa0,wd0,wa0,wd0,wa0,wd0])else endN Q3 [] (fun (x:SV) (M:List SB)=>shAt M 0) (ShS.mk z r mh ch nh zh mv cv nv zv,l) (SV.t []) (shI (shD z.4 (z.5+(1:Int)) 15 s.8 s.3 s.4 16 s.1 cv nv) (putF (zF) 1 (Qt l z.2 0)) (Sto.crash (Sh.s z) l) (setF (setF (stX (Sh.w z) r) 1 (wkZ 17 18 (wcA s_3))) 2 (wkZ 19 20 (wcA s_4))) (setF (setF (stA r) 1 SB.gone) 2 SB.gone) (setF (setF (stD r) 1 SB.gone) 2 SB.gone) (evB s.2 s.3 s.5) (vdB mv cv zv) [wa0,wd0,wa0,wd0])else (iR (3:Int) (4:Int))/\bif (Sh.w z 3).2 != (0:Int)then ∃(s_4:Qc),[aP 6 0,SA.a [sI (Sh.w z 3).3,sI (Sh.w z 3).4,sI (Sh.w z 3).5],aI (Sh.w z 3).6,aB true]=[aP 6 0,SA.a [sI s_4.2,sI s_4.3,sI s_4.4],aI s_4.5,aB true]/\[wkR 13 14 (Sh.w z 3) (r 3),waR (r 3),wdR (r 3)]=[wkC 13 14 (WkS.w (Qc.s s_4)) (Qc.s s_4).3 (Qc.s s_4).4 (Qc.s s_4).7 (Qc.s s_4).8,wkA (Qc.s s_4).2 (Qc.s s_4).3 (Qc.s s_4).5,wkD (Qc.s s_4).6 (Qc.s s_4).7 (Qc.s s_4).9]/\True/\∀(x:Unit),True->dP Tryz.f42 14 19 [⟨9,[],[6,13,14,19,20],[19,20],false⟩,xR 8 6,xF 7 6,xF 6 6,xF 5 6,xR 4 6,xF 3 6,xF 2 6,xF 1 6,xF 0 6]/\endN Q3 [] (fun (x:SV) (M:List SB)=>shAt M 0) (ShS.mk z r mh ch nh zh mv cv nv zv,l) (SV.t []) (shI (shD z.4 (z.5+(1:Int)) 15 s.8 s.3 s.4 16 s.1 cv nv) (putF (zF) 1 (Qt l z.2 0)) (Sto.crash (Sh.s z) l) (setF (setF (stX (Sh.w z) r) 1 (wkZ 17 18 (wcA s_3))) 3 (wkZ 19 20 (wcA s_4))) (setF (setF (stA r) 1 SB.gone) 3 SB.gone) (setF (setF (stD r) 1 SB.gone) 3 SB.gone) (evB s.2 s.3 s.5) (vdB mv cv zv) [wa0,wd0,wa0,wd0])else endN Q3 [] (fun (x:SV) (M:List SB)=>shAt M 0) (ShS.mk z r mh ch nh zh mv cv nv zv,l) (SV.t []) (shI (shD z.4 (z.5+(1:Int)) 15 s.8 s.3 s.4 16 s.1 cv nv) (putF (zF) 1 (Qt l z.2 0)) (Sto.crash (Sh.s z) l) (setF (stX (Sh.w z) r) 1 (wkZ 17 18 (wcA s_3))) (setF (stA r) 1 SB.gone) (setF (stD r) 1 SB.gone) (evB s.2 s.3 s.5) (vdB mv cv zv) [wa0,wd0])else (iR (2:Int) (4:Int))/\bif (Sh.w z 2).2 != (0:Int)then ∃(s_3:Qc),[aP 5 0,SA.a [sI (Sh.w z 2).3,sI (Sh.w z 2).4,sI (Sh.w z 2).5],aI (Sh.w z 2).6,aB true]=[aP 5 0,SA.a [sI s_3.2,sI s_3.3,sI s_3.4],aI s_3.5,aB true]/\[wkR 11 12 (Sh.w z 2) (r 2),waR (r 2),wdR (r 2)]=[wkC 11 12 (WkS.w (Qc.s s_3)) (Qc.s s_3).3 (Qc.s s_3).4 (Qc.s s_3).7 (Qc.s s_3).8,wkA (Qc.s s_3).2 (Qc.s s_3).3 (Qc.s s_3).5,wkD (Qc.s s_3).6 (Qc.s s_3).7 (Qc.s s_3).9]/\True/\∀(x:Unit),True->dP Tryz.f42 14 17 [⟨9,[],[5,11,12,17,18],[17,18],false⟩,xR 8 5,xF 7 5,xF 6 5,xF 5 5,xR 4 5,xF 3 5,xF 2 5,xF 1 5,xF 0 5]/\(iR (3:Int) (4:Int))/\bif (Sh.w z 3).2 != (0:Int)then ∃(s_4:Qc),[aP 6 0,SA.a [sI (Sh.w z 3).3,sI (Sh.w z 3).4,sI (Sh.w z 3).5],aI (Sh.w z 3).6,aB true]=[aP 6 0,SA.a [sI s_4.2,sI s_4.3,sI s_4.4],aI s_4.5,aB true]/\[wkR 13 14 (Sh.w z 3) (r 3),waR (r 3),wdR (r 3)]=[wkC 13 14 (WkS.w (Qc.s s_4)) (Qc.s s_4).3 (Qc.s s_4).4 (Qc.s s_4).7 (Qc.s s_4).8,wkA (Qc.s s_4).2 (Qc.s s_4).3 (Qc.s s_4).5,wkD (Qc.s s_4).6 (Qc.s s_4).7 (Qc.s s_4).9]/\True/\∀(x:Unit),True->dP Tryz.f42 14 19 [⟨9,[],[6,13,14,19,20],[19,20],false⟩,xR 8 6,xF 7 6,xF 6 6,xF 5 6,xR 4 6,xF 3 6,xF 2 6,xF 1 6,xF 0 6]/\endN Q3 [] (fun (x:SV) (M:List SB)=>shAt M 0) (ShS.mk z r mh ch nh zh mv cv nv zv,l) (SV.t []) (shI (shD z.4 (z.5+(1:Int)) 15 s.8 s.3 s.4 16 s.1 cv nv) (putF (zF) 1 (Qt l z.2 0)) (Sto.crash (Sh.s z) l) (setF (setF (stX (Sh.w z) r) 2 (wkZ 17 18 (wcA s_3))) 3 (wkZ 19 20 (wcA s_4))) (setF (setF (stA r) 2 SB.gone) 3 SB.gone) (setF (setF (stD r) 2 SB.gone) 3 SB.gone) (evB s.2 s.3 s.5) (vdB mv cv zv) [wa0,wd0,wa0,wd0])else endN Q3 [] (fun (x:SV) (M:List SB)=>shAt M 0) (ShS.mk z r mh ch nh zh mv cv nv zv,l) (SV.t []) (shI (shD z.4 (z.5+(1:Int)) 15 s.8 s.3 s.4 16 s.1 cv nv) (putF (zF) 1 (Qt l z.2 0)) (Sto.crash (Sh.s z) l) (setF (stX (Sh.w z) r) 2 (wkZ 17 18 (wcA s_3))) (setF (stA r) 2 SB.gone) (setF (stD r) 2 SB.gone) (evB s.2 s.3 s.5) (vdB mv cv zv) [wa0,wd0])else (iR (3:Int) (4:Int))/\bif (Sh.w z 3).2 != (0:Int)then ∃(s_3:Qc),[aP 6 0,SA.a [sI (Sh.w z 3).3,sI (Sh.w z 3).4,sI (Sh.w z 3).5],aI (Sh.w z 3).6,aB true]=[aP 6 0,SA.a [sI s_3.2,sI s_3.3,sI s_3.4],aI s_3.5,aB true]/\[wkR 13 14 (Sh.w z 3) (r 3),waR (r 3),wdR (r 3)]=[wkC 13 14 (WkS.w (Qc.s s_3)) (Qc.s s_3).3 (Qc.s s_3).4 (Qc.s s_3).7 (Qc.s s_3).8,wkA (Qc.s s_3).2 (Qc.s s_3).3 (Qc.s s_3).5,wkD (Qc.s s_3).6 (Qc.s s_3).7 (Qc.s s_3).9]/\True/\∀(x:Unit),True->dP Tryz.f42 14 17 [⟨9,[],[6,13,14,17,18],[17,18],false⟩,xR 8 6,xF 7 6,xF 6 6,xF 5 6,xR 4 6,xF 3 6,xF 2 6,xF 1 6,xF 0 6]/\endN Q3 [] (fun (x:SV) (M:List SB)=>shAt M 0) (ShS.mk z r mh ch nh zh mv cv nv zv,l) (SV.t []) (shI (shD z.4 (z.5+(1:Int)) 15 s.8 s.3 s.4 16 s.1 cv nv) (putF (zF) 1 (Qt l z.2 0)) (Sto.crash (Sh.s z) l) (setF (stX (Sh.w z) r) 3 (wkZ 17 18 (wcA s_3))) (setF (stA r) 3 SB.gone) (setF (stD r) 3 SB.gone) (evB s.2 s.3 s.5) (vdB mv cv zv) [wa0,wd0])else endN Q3 [] (fun (x:SV) (M:List SB)=>shAt M 0) (ShS.mk z r mh ch nh zh mv cv nv zv,l) (SV.t []) (shI (shD z.4 (z.5+(1:Int)) 15 s.8 s.3 s.4 16 s.1 cv nv) (putF (zF) 1 (Qt l z.2 0)) (Sto.crash (Sh.s z) l) (stX (Sh.w z) r) (stA r) (stD r) (evB s.2 s.3 s.5) (vdB mv cv zv) [])) (by kernel_rfl) ?_
 have h0:(⟨z,r,mh,ch,nh,zh,mv,cv,nv,zv⟩:ShS).good:=h0
 have h1:Qli z l:=h1
 have hst0:=h1.st0
 have hst1:=h1.st1
 have hhl:=h1.h
 have hdl:=h1.d
 have hv0:=h1.v0
 have hv1:=h1.v1
 have q1:=h0.h1
 have q2:=h0.h2
 have p1:=h0.v1
 have p2:=h0.v2
 dsimp only at q1 q2 p1 p2
 have es:IntKind.wrap .i64 (z.steps+1)=z.steps+1:=QE (by omega) (by omega)
 have ev:IntKind.wrap .i64 ((z.s.crash l).now (Int.toNat 0))=Qt l z.s 0:=QE (by show -9223372036854775808<=Qt l z.s 0;omega) (by show Qt l z.s 0<=9223372036854775807;omega)
 have eu:IntKind.wrap .u64 (Qt l z.s 0)=Qt l z.s 0:=QaN (by omega) (by omega)
 rw[es]
 refine⟨Qe (by kernel_rfl),⟨⟨q1,rfl⟩,⟨Nat.le_refl _,rfl⟩,by omega⟩,fun c hc=>⟨Qe (by kernel_rfl),⟨z.s,l⟩,rfl,rfl,h1.lu,fun _ _=>⟨z.m,rfl,rfl,trivial,fun _ _=>⟨⟨z.s.crash l,0⟩,rfl,rfl,⟨(by decide:(0:Int)<=0),(by decide:(0:Int)<72)⟩,fun _ _=>?_⟩⟩⟩⟩
 dsimp only
 rw[ev,eu]
 refine⟨⟨fun _=>0,1,Qt l z.s 0⟩,rfl,rfl,⟨(by decide:(0:Int)<=1),(by decide:(1:Int)<16)⟩,fun _ _=>⟨Nat.le_trans p1 p2,⟨⟨z.deeds.length,z.hist.length+1,c,nh,_,Nat.le_refl _,by rw[List.take_length],z.hist.length+1,rfl,Nat.le_refl _,hc,?_⟩,⟨rfl,rfl,svI (QE (by omega) (by omega)),trivial⟩,rfl⟩,?_⟩⟩
 · refine h0.h.snoc (fun j hj k _=>catT hj) (fun j hj=>?_)
   refine catF.trans ?_
   rw[Nat.sub_self]
   match j,hj with
   |0,_=>rfl
   |1,_=>rfl
   |2,_=>rfl
   |3,_=>rfl
   |4,_=>rfl
   |5,_=>rfl
   |6,_=>rfl
   |7,_=>rfl
   |8,_=>rfl
 rintro⟨n,mh',ch',nh',zh',hn,hu,lh,hl,g1,g2,g3⟩
 dsimp only at hn hu hl g1 g2 g3 ⊢
 refine Qr (fun hge=>?_) (fun hlt=>?_)
 · have en:((n:Int)-1).toNat=n-1:=by omega
   have hz0:zv (0+((n:Int)-1).toNat) 0=(z.deeds.getD (n-1) Vd.nil).ver:=by rw[Nat.zero_add,en];exact h0.v (n-1) (by show n-1<z.deeds.length;omega) 0 (by decide)
   have ht:=Qlq (l:=z.deeds) (n:=n) (by omega) hn
   refine⟨⟨by omega,by omega,by omega⟩,by omega,Qr (fun hgt=>?_) (fun hle=>?_)⟩
   · rw[hz0]at hgt
     refine⟨⟨by omega,by omega⟩,⟨((n:Int)-1).toNat,mh',ch',nh',zh',by omega,?_,lh,hl,g1,g2,g3⟩,⟨⟨rfl,rfl,svI (show IntKind.wrap .i64 ((n:Int)-1-1)=(((n:Int)-1).toNat:Int)-1 by rw[QE (by omega) (by omega)];omega),trivial⟩,rfl⟩,by dsimp only;omega⟩
     rw[en,<- hu,ht,QpT hgt]
   · rw[hz0]at hle
     have hz:z.deeds.take n=upTo (Qt l z.s 0) z.deeds:=by rw[<- hu,ht];exact (QpS (by omega)).symm
     exact⟨⟨by decide,by decide⟩,QD (fun k0=>⟨⟨wkS (z.w 0) (r 0),(z.w 0).k,(z.w 0).key,(z.w 0).x,(z.w 0).tog⟩,rfl,rfl,trivial,fun _ _=>⟨Qe (by kernel_rfl),⟨⟨by decide,by decide⟩,QD (fun k1=>⟨⟨wkS (z.w 1) (r 1),(z.w 1).k,(z.w 1).key,(z.w 1).x,(z.w 1).tog⟩,rfl,rfl,trivial,fun _ _=>⟨Qe (by kernel_rfl),⟨⟨by decide,by decide⟩,QD (fun k2=>⟨⟨wkS (z.w 2) (r 2),(z.w 2).k,(z.w 2).key,(z.w 2).x,(z.w 2).tog⟩,rfl,rfl,trivial,fun _ _=>⟨Qe (by kernel_rfl),⟨⟨by decide,by decide⟩,QD (fun k3=>⟨⟨wkS (z.w 3) (r 3),(z.w 3).k,(z.w 3).key,(z.w 3).x,(z.w 3).tog⟩,rfl,rfl,trivial,fun _ _=>⟨Qe (by kernel_rfl),QC h0 hn hz hl g1 g2 g3 (a0:=true) (a1:=true) (a2:=true) (a3:=true) rfl rfl k0 k1 k2 k3⟩⟩) (fun k3=>QC h0 hn hz hl g1 g2 g3 (a0:=true) (a1:=true) (a2:=true) (a3:=false) rfl rfl k0 k1 k2 k3)⟩⟩⟩) (fun k2=>⟨⟨by decide,by decide⟩,QD (fun k3=>⟨⟨wkS (z.w 3) (r 3),(z.w 3).k,(z.w 3).key,(z.w 3).x,(z.w 3).tog⟩,rfl,rfl,trivial,fun _ _=>⟨Qe (by kernel_rfl),QC h0 hn hz hl g1 g2 g3 (a0:=true) (a1:=true) (a2:=false) (a3:=true) rfl rfl k0 k1 k2 k3⟩⟩) (fun k3=>QC h0 hn hz hl g1 g2 g3 (a0:=true) (a1:=true) (a2:=false) (a3:=false) rfl rfl k0 k1 k2 k3)⟩)⟩⟩⟩) (fun k1=>⟨⟨by decide,by decide⟩,QD (fun k2=>⟨⟨wkS (z.w 2) (r 2),(z.w 2).k,(z.w 2).key,(z.w 2).x,(z.w 2).tog⟩,rfl,rfl,trivial,fun _ _=>⟨Qe (by kernel_rfl),⟨⟨by decide,by decide⟩,QD (fun k3=>⟨⟨wkS (z.w 3) (r 3),(z.w 3).k,(z.w 3).key,(z.w 3).x,(z.w 3).tog⟩,rfl,rfl,trivial,fun _ _=>⟨Qe (by kernel_rfl),QC h0 hn hz hl g1 g2 g3 (a0:=true) (a1:=false) (a2:=true) (a3:=true) rfl rfl k0 k1 k2 k3⟩⟩) (fun k3=>QC h0 hn hz hl g1 g2 g3 (a0:=true) (a1:=false) (a2:=true) (a3:=false) rfl rfl k0 k1 k2 k3)⟩⟩⟩) (fun k2=>⟨⟨by decide,by decide⟩,QD (fun k3=>⟨⟨wkS (z.w 3) (r 3),(z.w 3).k,(z.w 3).key,(z.w 3).x,(z.w 3).tog⟩,rfl,rfl,trivial,fun _ _=>⟨Qe (by kernel_rfl),QC h0 hn hz hl g1 g2 g3 (a0:=true) (a1:=false) (a2:=false) (a3:=true) rfl rfl k0 k1 k2 k3⟩⟩) (fun k3=>QC h0 hn hz hl g1 g2 g3 (a0:=true) (a1:=false) (a2:=false) (a3:=false) rfl rfl k0 k1 k2 k3)⟩)⟩)⟩⟩⟩) (fun k0=>⟨⟨by decide,by decide⟩,QD (fun k1=>⟨⟨wkS (z.w 1) (r 1),(z.w 1).k,(z.w 1).key,(z.w 1).x,(z.w 1).tog⟩,rfl,rfl,trivial,fun _ _=>⟨Qe (by kernel_rfl),⟨⟨by decide,by decide⟩,QD (fun k2=>⟨⟨wkS (z.w 2) (r 2),(z.w 2).k,(z.w 2).key,(z.w 2).x,(z.w 2).tog⟩,rfl,rfl,trivial,fun _ _=>⟨Qe (by kernel_rfl),⟨⟨by decide,by decide⟩,QD (fun k3=>⟨⟨wkS (z.w 3) (r 3),(z.w 3).k,(z.w 3).key,(z.w 3).x,(z.w 3).tog⟩,rfl,rfl,trivial,fun _ _=>⟨Qe (by kernel_rfl),QC h0 hn hz hl g1 g2 g3 (a0:=false) (a1:=true) (a2:=true) (a3:=true) rfl rfl k0 k1 k2 k3⟩⟩) (fun k3=>QC h0 hn hz hl g1 g2 g3 (a0:=false) (a1:=true) (a2:=true) (a3:=false) rfl rfl k0 k1 k2 k3)⟩⟩⟩) (fun k2=>⟨⟨by decide,by decide⟩,QD (fun k3=>⟨⟨wkS (z.w 3) (r 3),(z.w 3).k,(z.w 3).key,(z.w 3).x,(z.w 3).tog⟩,rfl,rfl,trivial,fun _ _=>⟨Qe (by kernel_rfl),QC h0 hn hz hl g1 g2 g3 (a0:=false) (a1:=true) (a2:=false) (a3:=true) rfl rfl k0 k1 k2 k3⟩⟩) (fun k3=>QC h0 hn hz hl g1 g2 g3 (a0:=false) (a1:=true) (a2:=false) (a3:=false) rfl rfl k0 k1 k2 k3)⟩)⟩⟩⟩) (fun k1=>⟨⟨by decide,by decide⟩,QD (fun k2=>⟨⟨wkS (z.w 2) (r 2),(z.w 2).k,(z.w 2).key,(z.w 2).x,(z.w 2).tog⟩,rfl,rfl,trivial,fun _ _=>⟨Qe (by kernel_rfl),⟨⟨by decide,by decide⟩,QD (fun k3=>⟨⟨wkS (z.w 3) (r 3),(z.w 3).k,(z.w 3).key,(z.w 3).x,(z.w 3).tog⟩,rfl,rfl,trivial,fun _ _=>⟨Qe (by kernel_rfl),QC h0 hn hz hl g1 g2 g3 (a0:=false) (a1:=false) (a2:=true) (a3:=true) rfl rfl k0 k1 k2 k3⟩⟩) (fun k3=>QC h0 hn hz hl g1 g2 g3 (a0:=false) (a1:=false) (a2:=true) (a3:=false) rfl rfl k0 k1 k2 k3)⟩⟩⟩) (fun k2=>⟨⟨by decide,by decide⟩,QD (fun k3=>⟨⟨wkS (z.w 3) (r 3),(z.w 3).k,(z.w 3).key,(z.w 3).x,(z.w 3).tog⟩,rfl,rfl,trivial,fun _ _=>⟨Qe (by kernel_rfl),QC h0 hn hz hl g1 g2 g3 (a0:=false) (a1:=false) (a2:=false) (a3:=true) rfl rfl k0 k1 k2 k3⟩⟩) (fun k3=>QC h0 hn hz hl g1 g2 g3 (a0:=false) (a1:=false) (a2:=false) (a3:=false) rfl rfl k0 k1 k2 k3)⟩)⟩)⟩)⟩
 · obtain rfl:n=0:=by omega
   have hz:z.deeds.take 0=upTo (Qt l z.s 0) z.deeds:=by rw[<- hu];rfl
   exact⟨⟨by decide,by decide⟩,QD (fun k0=>⟨⟨wkS (z.w 0) (r 0),(z.w 0).k,(z.w 0).key,(z.w 0).x,(z.w 0).tog⟩,rfl,rfl,trivial,fun _ _=>⟨Qe (by kernel_rfl),⟨⟨by decide,by decide⟩,QD (fun k1=>⟨⟨wkS (z.w 1) (r 1),(z.w 1).k,(z.w 1).key,(z.w 1).x,(z.w 1).tog⟩,rfl,rfl,trivial,fun _ _=>⟨Qe (by kernel_rfl),⟨⟨by decide,by decide⟩,QD (fun k2=>⟨⟨wkS (z.w 2) (r 2),(z.w 2).k,(z.w 2).key,(z.w 2).x,(z.w 2).tog⟩,rfl,rfl,trivial,fun _ _=>⟨Qe (by kernel_rfl),⟨⟨by decide,by decide⟩,QD (fun k3=>⟨⟨wkS (z.w 3) (r 3),(z.w 3).k,(z.w 3).key,(z.w 3).x,(z.w 3).tog⟩,rfl,rfl,trivial,fun _ _=>⟨Qe (by kernel_rfl),QC h0 hn hz hl g1 g2 g3 (a0:=true) (a1:=true) (a2:=true) (a3:=true) rfl rfl k0 k1 k2 k3⟩⟩) (fun k3=>QC h0 hn hz hl g1 g2 g3 (a0:=true) (a1:=true) (a2:=true) (a3:=false) rfl rfl k0 k1 k2 k3)⟩⟩⟩) (fun k2=>⟨⟨by decide,by decide⟩,QD (fun k3=>⟨⟨wkS (z.w 3) (r 3),(z.w 3).k,(z.w 3).key,(z.w 3).x,(z.w 3).tog⟩,rfl,rfl,trivial,fun _ _=>⟨Qe (by kernel_rfl),QC h0 hn hz hl g1 g2 g3 (a0:=true) (a1:=true) (a2:=false) (a3:=true) rfl rfl k0 k1 k2 k3⟩⟩) (fun k3=>QC h0 hn hz hl g1 g2 g3 (a0:=true) (a1:=true) (a2:=false) (a3:=false) rfl rfl k0 k1 k2 k3)⟩)⟩⟩⟩) (fun k1=>⟨⟨by decide,by decide⟩,QD (fun k2=>⟨⟨wkS (z.w 2) (r 2),(z.w 2).k,(z.w 2).key,(z.w 2).x,(z.w 2).tog⟩,rfl,rfl,trivial,fun _ _=>⟨Qe (by kernel_rfl),⟨⟨by decide,by decide⟩,QD (fun k3=>⟨⟨wkS (z.w 3) (r 3),(z.w 3).k,(z.w 3).key,(z.w 3).x,(z.w 3).tog⟩,rfl,rfl,trivial,fun _ _=>⟨Qe (by kernel_rfl),QC h0 hn hz hl g1 g2 g3 (a0:=true) (a1:=false) (a2:=true) (a3:=true) rfl rfl k0 k1 k2 k3⟩⟩) (fun k3=>QC h0 hn hz hl g1 g2 g3 (a0:=true) (a1:=false) (a2:=true) (a3:=false) rfl rfl k0 k1 k2 k3)⟩⟩⟩) (fun k2=>⟨⟨by decide,by decide⟩,QD (fun k3=>⟨⟨wkS (z.w 3) (r 3),(z.w 3).k,(z.w 3).key,(z.w 3).x,(z.w 3).tog⟩,rfl,rfl,trivial,fun _ _=>⟨Qe (by kernel_rfl),QC h0 hn hz hl g1 g2 g3 (a0:=true) (a1:=false) (a2:=false) (a3:=true) rfl rfl k0 k1 k2 k3⟩⟩) (fun k3=>QC h0 hn hz hl g1 g2 g3 (a0:=true) (a1:=false) (a2:=false) (a3:=false) rfl rfl k0 k1 k2 k3)⟩)⟩)⟩⟩⟩) (fun k0=>⟨⟨by decide,by decide⟩,QD (fun k1=>⟨⟨wkS (z.w 1) (r 1),(z.w 1).k,(z.w 1).key,(z.w 1).x,(z.w 1).tog⟩,rfl,rfl,trivial,fun _ _=>⟨Qe (by kernel_rfl),⟨⟨by decide,by decide⟩,QD (fun k2=>⟨⟨wkS (z.w 2) (r 2),(z.w 2).k,(z.w 2).key,(z.w 2).x,(z.w 2).tog⟩,rfl,rfl,trivial,fun _ _=>⟨Qe (by kernel_rfl),⟨⟨by decide,by decide⟩,QD (fun k3=>⟨⟨wkS (z.w 3) (r 3),(z.w 3).k,(z.w 3).key,(z.w 3).x,(z.w 3).tog⟩,rfl,rfl,trivial,fun _ _=>⟨Qe (by kernel_rfl),QC h0 hn hz hl g1 g2 g3 (a0:=false) (a1:=true) (a2:=true) (a3:=true) rfl rfl k0 k1 k2 k3⟩⟩) (fun k3=>QC h0 hn hz hl g1 g2 g3 (a0:=false) (a1:=true) (a2:=true) (a3:=false) rfl rfl k0 k1 k2 k3)⟩⟩⟩) (fun k2=>⟨⟨by decide,by decide⟩,QD (fun k3=>⟨⟨wkS (z.w 3) (r 3),(z.w 3).k,(z.w 3).key,(z.w 3).x,(z.w 3).tog⟩,rfl,rfl,trivial,fun _ _=>⟨Qe (by kernel_rfl),QC h0 hn hz hl g1 g2 g3 (a0:=false) (a1:=true) (a2:=false) (a3:=true) rfl rfl k0 k1 k2 k3⟩⟩) (fun k3=>QC h0 hn hz hl g1 g2 g3 (a0:=false) (a1:=true) (a2:=false) (a3:=false) rfl rfl k0 k1 k2 k3)⟩)⟩⟩⟩) (fun k1=>⟨⟨by decide,by decide⟩,QD (fun k2=>⟨⟨wkS (z.w 2) (r 2),(z.w 2).k,(z.w 2).key,(z.w 2).x,(z.w 2).tog⟩,rfl,rfl,trivial,fun _ _=>⟨Qe (by kernel_rfl),⟨⟨by decide,by decide⟩,QD (fun k3=>⟨⟨wkS (z.w 3) (r 3),(z.w 3).k,(z.w 3).key,(z.w 3).x,(z.w 3).tog⟩,rfl,rfl,trivial,fun _ _=>⟨Qe (by kernel_rfl),QC h0 hn hz hl g1 g2 g3 (a0:=false) (a1:=false) (a2:=true) (a3:=true) rfl rfl k0 k1 k2 k3⟩⟩) (fun k3=>QC h0 hn hz hl g1 g2 g3 (a0:=false) (a1:=false) (a2:=true) (a3:=false) rfl rfl k0 k1 k2 k3)⟩⟩⟩) (fun k2=>⟨⟨by decide,by decide⟩,QD (fun k3=>⟨⟨wkS (z.w 3) (r 3),(z.w 3).k,(z.w 3).key,(z.w 3).x,(z.w 3).tog⟩,rfl,rfl,trivial,fun _ _=>⟨Qe (by kernel_rfl),QC h0 hn hz hl g1 g2 g3 (a0:=false) (a1:=false) (a2:=false) (a3:=true) rfl rfl k0 k1 k2 k3⟩⟩) (fun k3=>QC h0 hn hz hl g1 g2 g3 (a0:=false) (a1:=false) (a2:=false) (a3:=false) rfl rfl k0 k1 k2 k3)⟩)⟩)⟩)⟩
end
section
def PosV (z:Sh):Prop:=∀d∈z.deeds,0<=d.ver
theorem Qi4 {v:Int}{l:List Vd}{d:Vd}(h:d∈upTo v l):d∈l:=by
 unfold upTo at h
 rw[List.mem_reverse]at h
 exact List.mem_reverse.1 ((List.dropWhile_sublist _).subset h)
section
variable {K:Int}{z:Sh}{g:Gh}{t:Nat}
theorem Fine.now (F:Fine K z g):0<=z.s.now 0:=by
 have h1:=F.1.gl.now0
 have h2:=F.1.gl.v0
 have h3:=F.1.gl.vd
 omega
theorem Qn5 (F:Fine K z g) (p:PosV z) (ht:t<4) (hs:z.steps<100000000):PosV (z.step t):=by
 unfold Sh.step
 split
 · exact p
 · rename_i hn
   have h0:=(Xd F ht hs hn).now
   have e:(z.stepped t).s=(Qa (z.wst t)).1.s:=by
    unfold Sh.stepped
    dsimp only
    split<;>split<;>rfl
   rw[e]at h0
   have e2:(z.stepped t).deeds=z.deeds\/(z.stepped t).deeds=z.deeds++(Qa (z.wst t)).1.w.deeds.map (Vd.mk ((Qa (z.wst t)).1.s.now 0)):=by
    unfold Sh.stepped
    dsimp only
    split<;>split<;>first|exact .inl rfl|exact .inr rfl
   intro d hd
   rcases e2 with e2|e2
   · rw[e2]at hd;exact p d hd
   · rw[e2]at hd
     rcases List.mem_append.1 hd with hd|hd
     · exact p d hd
     · obtain⟨x,-,rfl⟩:=List.mem_map.1 hd
       exact h0
theorem QiF (ht:t<4):∀(n:Nat) {z:Sh}{g:Gh},Fine K z g->PosV z->z.steps+n<100000000->PosV (z.run t n)
 |0,z,g,_,p,_=>p
 |n+1,z,g,F,p,hs=>by
  obtain⟨g',F'⟩:=Qh4 F ht (by omega)
  have:=(XP z t).2
  exact QiF ht n F' (Qn5 F p ht (by omega)) (by omega)
theorem Qn6 (F:Fine K z g) (p:PosV z) (hs:z.steps<90000000) (m:Mv):PosV (z.move m):=by
 unfold Sh.move
 split
 · unfold Sh.callA
   cases hb:inT m.t
   · exact p
   · rw[cond_true]
     unfold Sh.call
     split<;>exact p
 split
 · unfold Sh.runA
   cases hb:inT m.t
   · exact p
   · rw[cond_true]
     cases hc:runB m.n
     · exact p
     · have h2:=of_decide_eq_true hc
       exact QiF (QcC hb).2.2 m.n.toNat F p (by omega)
 split
 · unfold Sh.evict
   split<;>exact p
 split
 · intro d hd
   exact p d (Qi4 hd)
 · exact p
structure Fin2 (K:Int) (z:Sh) (g:Gh):Prop where
 f:Fine K z g
 p:PosV z
theorem QoS (F:Fin2 K z g) (hs:z.steps<90000000) (m:Mv):∃g',Fin2 K (z.move m) g':=by
 obtain⟨g',F'⟩:=QmX F.f hs m
 exact⟨g',F',Qn6 F.f F.p hs m⟩
theorem QoT (F:Fin2 K z g) (ht:t<4) (k key x:Int):Fin2 K (z.call t k key x) g:=⟨Qaw F.f ht k key x,by
 unfold Sh.call
 split<;>exact F.p⟩
theorem Qqp {K:Int}(h1:1<=K) (h6:K<=6):Fin2 K (Sh.new K) (Gh.new K):=⟨QoR h1 h6,fun d hd=>by cases hd⟩
theorem QmY {K:Int}(h1:1<=K) (h6:K<=6):∀(n:Nat) (l:List Mv),l.length=n->n<=80000->∃g,Fin2 K (XW K l) g/\(XW K l).steps<=1000*(n:Int)
 |0,l,hl,_=>by
  have:=List.length_eq_zero_iff.1 hl
  subst this
  exact⟨_,Qqp h1 h6,Int.le_refl 0⟩
 |n+1,l,hl,hn=>by
  obtain⟨l',m,rfl⟩:∃l' m,l=l'++[m]:=⟨l.dropLast,l.getLast (by intro h;rw[h]at hl;cases hl),(List.dropLast_concat_getLast _).symm⟩
  rw[List.length_append,List.length_singleton]at hl
  obtain⟨g,F,hs⟩:=QmY h1 h6 n l' (by omega) (by omega)
  rw[QcT]
  obtain⟨g',F'⟩:=QoS F (by omega) m
  have:=Qgj (XW K l') m
  exact⟨g',F',by omega⟩
end
end
section
theorem all_i (w:Wk):w.all.does=w.does/\w.all.i=w.i:=by unfold Wk.all;split<;>exact⟨rfl,rfl⟩
theorem Qhx (z:Sh) (t:Nat):(z.stepped t).w=setF z.w t (Qa (z.wst t)).1.w:=by
 unfold Sh.stepped
 dsimp only
 split<;>split<;>rfl
theorem Qlx (z:Sh) (t:Nat):(z.stepped t).m=(Qa (z.wst t)).1.m:=by
 unfold Sh.stepped
 dsimp only
 split<;>split<;>rfl
theorem Qhy (z:Sh) (t:Nat):(z.stepped t).s=(Qa (z.wst t)).1.s:=by
 unfold Sh.stepped
 dsimp only
 split<;>split<;>rfl
section
variable {K:Int}{z:Sh}{g:Gh}{t:Nat}
theorem Qho (hn:(z.w t).does≠0):(z.step t).w t=(Qa (z.wst t)).1.w:=by
 unfold Sh.step
 rw[if_neg hn,Qhx];exact Qh _ _ _
theorem Qmk (hn:(z.w t).does≠0):(z.step t).m=(Qa (z.wst t)).1.m:=by
 unfold Sh.step
 rw[if_neg hn,Qlx]
theorem QhT (h17:17<=(z.w t).does) (h21:(z.w t).does<=21):(Qa (z.wst t)).1.m=z.m/\(((z.w t).does<=20/\(Qa (z.wst t)).1.w.does=(z.w t).does+1)\/((z.w t).does=21/\((Qa (z.wst t)).1.w.does=0\/(Qa (z.wst t)).1.w.does=3\/(Qa (z.wst t)).1.w.does=1))):=by
 have h2:Qa (z.wst t)=QJ (z.wst t):=by
  unfold Qa
  rw[if_neg (by show ¬(z.w t).does=0;omega),if_neg (by show ¬(z.w t).does<=3;omega),if_neg (by show ¬(z.w t).does<=7;omega),if_neg (by show ¬(z.w t).does<=13;omega),if_neg (by show ¬(z.w t).does<=16;omega)]
 rw[h2]
 rcases (show (z.w t).does=17\/(z.w t).does=18\/(z.w t).does=19\/(z.w t).does=20\/(z.w t).does=21 by omega)with hd|hd|hd|hd|hd
 · have e:QJ (z.wst t)=(⟨{ z.w t with v:=z.m 1,does:=18 },z.m,z.s⟩,false):=by simp[QJ,Sh.wst,hd]
   rw[e,hd];exact⟨rfl,.inl ⟨by decide,rfl⟩⟩
 · have e:QJ (z.wst t)=(⟨{ z.w t with seen:=putF (z.w t).seen 0 (z.s.now (Qp (z.w t).v+26)),does:=19 },z.m,z.s⟩,false):=by simp[QJ,Sh.wst,hd]
   rw[e,hd];exact⟨rfl,.inl ⟨by decide,rfl⟩⟩
 · have e:QJ (z.wst t)=(⟨{ z.w t with seen:=putF (z.w t).seen 1 (z.s.now (Qp (z.w t).v+18+(z.w t).th)),does:=20 },z.m,z.s⟩,false):=by simp[QJ,Sh.wst,hd]
   rw[e,hd];exact⟨rfl,.inl ⟨by decide,rfl⟩⟩
 · have e:QJ (z.wst t)=(⟨{ z.w t with seen:=putF (z.w t).seen 2 (z.s.now (Qp (z.w t).v+22+(z.w t).th)),does:=21 },z.m,z.s⟩,false):=by simp[QJ,Sh.wst,hd]
   rw[e,hd];exact⟨rfl,.inl ⟨by decide,rfl⟩⟩
 · rw[QfA _ hd]
   by_cases hc:(z.wst t).m 1=(z.wst t).w.v/\Ql ((z.wst t).w.seen 0) (z.wst t).w.th=(z.wst t).w.tog
   · rw[if_pos hc];exact⟨rfl,.inr ⟨hd,.inl rfl⟩⟩
   · rw[if_neg hc]
     refine⟨rfl,.inr ⟨hd,.inr ?_⟩⟩
     show (if (z.w t).said=true then (3:Int)else 1)=3\/(if (z.w t).said=true then (3:Int)else 1)=1
     cases (z.w t).said
     · exact .inr rfl
     · exact .inl rfl
end
end
section
def mvAt (z:Nat->Nat->Int) (i:Nat):Mv:=⟨z i 0,z i 1,z i 2,z i 3,z i 4,z i 5,z i 6⟩
def mvL (z:Nat->Nat->Int) (n:Nat):List Mv:=(List.range n).map (mvAt z)
theorem Qop (z:Nat->Nat->Int) (i:Nat):mvL z (i+1)=mvL z i++[mvAt z i]:=by unfold mvL;rw[List.range_succ,List.map_append];rfl
theorem Qqi (z:Nat->Nat->Int) (n:Nat):(mvL z n).length=n:=by unfold mvL;rw[List.length_map,List.length_range]
end
section
open Go.RowKit
def mvK:Nat->IntKind:=fun j=>bif Nat.beq j 6 then .u64 else .i64
def MvIn (W:World) (a:Option Addr) (n c:Nat) (z:Nat->Nat->Int):Prop:=Rws 7 mvK W a n c z/\∀i,i<n->U64 (z i 6)
end
section
structure FinI (K:Int) (z:Sh) (g:Gh):Prop where
 i:ShInv K z g
 p:PosV z
 s:(z.hist.length:Int)<=z.steps
section
variable {K:Int}{z:Sh}{g:Gh}{t:Nat}
theorem ShInv.now (I:ShInv K z g):0<=z.s.now 0:=by
 have h1:=I.gl.now0
 have h2:=I.gl.v0
 have h3:=I.gl.vd
 omega
theorem QiO (F:FinI K z g) (ht:t<4) (hs:z.steps<100000000):∃g',FinI K (z.step t) g':=by
 unfold Sh.step
 split
 · exact⟨g,F⟩
 · rename_i hn
   have I':=QfB F.i ht hs hn
   have h0:=I'.now
   have e:(z.stepped t).s=(Qa (z.wst t)).1.s:=by
    unfold Sh.stepped
    dsimp only
    split<;>split<;>rfl
   rw[e]at h0
   have e2:(z.stepped t).deeds=z.deeds\/(z.stepped t).deeds=z.deeds++(Qa (z.wst t)).1.w.deeds.map (Vd.mk ((Qa (z.wst t)).1.s.now 0)):=by
    unfold Sh.stepped
    dsimp only
    split<;>split<;>first|exact .inl rfl|exact .inr rfl
   have e3:(z.stepped t).steps=z.steps+1:=by
    unfold Sh.stepped
    dsimp only
    split<;>split<;>rfl
   have e4:(z.stepped t).hist.length<=z.hist.length+1:=by
    unfold Sh.stepped
    dsimp only
    split<;>split<;>first|exact Nat.le_succ _|(show (z.hist++[_]).length<=_;rw[List.length_append];exact Nat.le_refl _)
   refine⟨_,I',fun d hd=>?_,by have:=F.s;omega⟩
   rcases e2 with e2|e2
   · rw[e2]at hd;exact F.p d hd
   · rw[e2]at hd
     rcases List.mem_append.1 hd with hd|hd
     · exact F.p d hd
     · obtain⟨x,-,rfl⟩:=List.mem_map.1 hd
       exact h0
theorem QfK (ht:t<4):∀(n:Nat) {z:Sh}{g:Gh},FinI K z g->z.steps+n<100000000->∃g',FinI K (z.run t n) g'
 |0,z,g,F,_=>⟨g,F⟩
 |n+1,z,g,F,hs=>by
  obtain⟨g',F'⟩:=QiO F ht (by omega)
  have:=(XP z t).2
  exact QfK ht n F' (by omega)
theorem QfL (F:FinI K z g) (ht:t<4) (k key x:Int):FinI K (z.call t k key x) g:=by
 refine⟨Qjx F.i ht k key x,?_,?_⟩
 · unfold Sh.call
   split<;>exact F.p
 · have:=F.s
   unfold Sh.call
   split
   · show ((z.hist++[_]).length:Int)<=z.steps+1
     rw[List.length_append,List.length_singleton];omega
   · exact F.s
theorem QoU (F:FinI K z g) (l:Int):FinI K (z.evict l) g:=by
 refine⟨QhX F.i l,?_,?_⟩
 · unfold Sh.evict
   split<;>exact F.p
 · unfold Sh.evict
   split<;>exact F.s
theorem QoV (F:FinI K z g) (l:Int):∃g',FinI K (z.crash l) g':=by
 have hp:PosV (z.crash l):=fun d hd=>F.p d (Qi4 hd)
 have hs:((z.crash l).hist.length:Int)<=(z.crash l).steps:=by
  have:=F.s
  show ((z.hist++[_]).length:Int)<=z.steps+1
  rw[List.length_append,List.length_singleton];omega
 rcases inv_crash F.i l with⟨-,h,-⟩|⟨-,-,-,h,-⟩
 · exact⟨_,h,hp,hs⟩
 · exact⟨_,h,hp,hs⟩
theorem Qqq (F:FinI K z g) (hs:z.steps<90000000) (t n:Int):∃g',FinI K (z.runA t n) g':=by
 unfold Sh.runA
 cases hb:inT t
 · exact⟨g,F⟩
 · rw[cond_true]
   cases hc:runB n
   · exact⟨g,F⟩
   · have h2:=of_decide_eq_true hc
     exact QfK (QcC hb).2.2 n.toNat F (by omega)
theorem Qqr (F:FinI K z g) (hs:z.steps<90000000) (m:Mv):∃g',FinI K (z.move m) g':=by
 unfold Sh.move
 split
 · unfold Sh.callA
   cases hb:inT m.t
   · exact⟨g,F⟩
   · exact⟨g,QfL F (QcC hb).2.2 _ _ _⟩
 split
 · exact Qqq F hs _ _
 split
 · exact⟨g,QoU F _⟩
 split
 · exact QoV F _
 · exact⟨g,F⟩
theorem QpA {K:Int}(h1:1<=K) (h6:K<=6):FinI K (Sh.new K) (Gh.new K):=⟨Qmv h1 h6,fun d hd=>(by cases hd),Int.le_refl 0⟩
theorem Qg5 {K:Int}(h1:1<=K) (h6:K<=6):∀(n:Nat) (l:List Mv),l.length=n->n<=80000->∃g,FinI K (XW K l) g/\(XW K l).steps<=1000*(n:Int)
 |0,l,hl,_=>by
  have:=List.length_eq_zero_iff.1 hl
  subst this
  exact⟨_,QpA h1 h6,Int.le_refl 0⟩
 |n+1,l,hl,hn=>by
  obtain⟨l',m,rfl⟩:∃l' m,l=l'++[m]:=⟨l.dropLast,l.getLast (by intro h;rw[h]at hl;cases hl),(List.dropLast_concat_getLast _).symm⟩
  rw[List.length_append,List.length_singleton]at hl
  obtain⟨g,F,hs⟩:=Qg5 h1 h6 n l' (by omega) (by omega)
  rw[QcT]
  obtain⟨g',F'⟩:=Qqr F (by omega) m
  have:=Qgj (XW K l') m
  exact⟨g',F',by omega⟩
theorem FinI.steps0 (F:FinI K z g):0<=z.steps:=by have:=F.s;omega
theorem FinI.lens (F:FinI K z g) (hs:z.steps<100000000):z.hist.length<=1000000000/\z.deeds.length<=1000000000:=by
 have h1:=F.s
 have h2:=F.i.gl.cb
 omega
theorem QpE:∀(l:List Ask) (r:Rec),(bD r l).length<=l.length
 |[],r=>Nat.le_refl _
 |a::l,r=>by
  show (bDs r a++bD (Xv r a) l).length<=l.length+1
  rw[List.length_append]
  have:=QpE l (Xv r a)
  have h2:(bDs r a).length<=1:=by
   unfold bDs
   cases bOpen r a
   · exact Nat.zero_le _
   · exact Nat.le_refl _
  omega
theorem FinI.stOK (F:FinI K z g) (ht:t<4) (hs:z.steps<100000000):stOK z t:=by
 have hl:=F.lens hs
 refine⟨F.steps0,hs,hl.1,hl.2,(F.i.th t ht).th,fun h11=>?_⟩
 have O:=F.i.ho t ht ⟨by omega,by omega⟩
 obtain⟨hG,hD,-,-⟩:=O.nx (by omega) (by omega)
 have e:(Qa (z.wst t)).1.w.deeds=(z.w t).deeds:=by simp[Qa,Xf,Sh.wst,h11]
 rw[e,hD]
 have h4:=hG.len
 have:=QpE (z.w t).asks g.R
 omega
theorem FinI.craOK (F:FinI K z g) (hs:z.steps<100000000) {l:Int}(hu:U64 l):Qli z l:=by
 have hl:=F.lens hs
 have G:=F.i.gl
 have h0:=G.v0
 have hd:=G.vd
 have hv:Qt l z.s 0=g.dv\/Qt l z.s 0=g.V:=by
  rcases land_mix l z.s 0 with h|h
  · rw[h];exact G.good0
  · rw[h];exact .inr G.now0
 have hb:=G.vb
 exact⟨F.steps0,hs,hl.1,hl.2,hu,by omega,by omega,fun d hd=>⟨F.p d hd,by have:=G.topR d hd;omega⟩⟩
theorem Fin2.fi (F:Fin2 K z g):FinI K z g:=⟨F.f.1,F.p,by
 obtain⟨I,of,H⟩:=F.f
 exact H.sl⟩
end
end
section
open Go.RowKit
theorem craH:(Con.mem craC.sh).holds Tryz.prog 42:=fun w0 S=>craC.lift (Qqw w0 S) (by decide) (fun x _=>Xc x) (fun _=>rfl) (fun _ _ _ _ _ _ _ _=>⟨rfl,rfl,rfl,rfl⟩)
structure PlS where
 k:Int
 a:Option Addr
 n:Nat
 c:Nat
 z:Nat->Nat->Int
def QiT (W:World):MCon where
 σ:=PlS
 χ:=List Nat
 pre s:=(1<=s.k/\s.k<=6)/\s.n<=3000/\Rws 7 mvK W s.a s.n s.c s.z/\∀i,i<s.n->U64 (s.z i 6)
 args s:=[.c (.v (.int .i64 s.k)),.c (.r s.a s.n s.c s.n 7 mvK s.z)]
 mem s:=[]
 ok s x:=True
 val s x:=.t [.c (.p 0 0),.c (.v .nilIface)]
 mem' s x:=[.abs (QB shM ShS.z ShS.good (XW s.k (mvL s.z s.n))) x]
 k:=0
 len:=1
 det:=none
 find args M:=some []
structure PlG (s:PlS) where
 i:Nat
 F:List Nat
 hi:i<=s.n
def QnA (s:PlS):Ann where
 σ:=PlG s
 I g:=([(6,.o (.c (.p 0 0))),(18,.o (.c (.r s.a s.n s.c s.n 7 mvK s.z))),(19,sv (.int .i64 s.n)),(20,sv (.int .i64 g.i))],[.abs (QB shM ShS.z ShS.good (XW s.k (mvL s.z g.i))) g.F])
 dec g:=s.n-g.i
 pi env _:=[blkE env 6]
 nz:=[]
theorem CallOK.of {K:Int}{z:Sh}{g:Gh}(F:FinI K z g) (hs:z.steps<100000000):CallOK z:=⟨F.steps0,hs,(F.lens hs).1,fun t ht=>(F.i.th t ht).tg01⟩
theorem StpOK.of {K:Int}{z:Sh}{g:Gh}{t:Nat}(F:FinI K z g) (ht:t<4) (hs:z.steps<100000000):StpOK z t:=⟨ht,F.stOK ht hs,fun hn=>QjZ F.i ht (by have:=F.i.gl.vb;omega) hn⟩
theorem RunOK.of {K:Int}{z:Sh}{g:Gh}{t:Nat}(F:FinI K z g) (ht:t<4) (hs:z.steps<90000000) (n:Int):RunOK z t n:=⟨fun h0 h1 k hk=>by
 obtain⟨g',F'⟩:=QfK ht k F (by omega)
 have:=(QaR t k z).2
 have S:=StpOK.of F' ht (by omega)
 exact⟨S.ok,S.pre⟩⟩
theorem play_con (W:World):(Con.mem (QiT W)).holdsAt Tryz.prog W (fun _=>False) 45:=by
 refine Qb (Γ:=[(43,.mem QiV),(23,.mem callA.sh),(24,.mem QlS.sh),(67,.mem evC.sh),(42,.mem craC.sh)]) (fun w=>w) Tryz.func45 rfl (by kernel_rfl) Qg Qd (fun w S' _ _=>.cons (newH w _) (.cons (callH w _) (.cons (runH w _) (.cons (evH w _) (.cons (craH w _) (.nil _ _ _)))))) (QiT W) (fun s=>[(45,[(0,QnA s)])]) (fun x0 h=>by cases h)
  (fun s ρ w _ _ _=>OldOk.none w) [] (fun x M=>match x with
  |.t [.c (.p b _),_]=>[b]
  |_=>[]) 600 ?_
 rintro⟨k,a,n,c,z⟩ w ⟨⟨h1,h6⟩,hn,hr,hu⟩ hK
 refine⟨rfl,?_⟩
 have hr:=Rws.below hr (hK.below (Nat.le_refl _) (fun _ h=>h.elim))
 refine Qk (q:=∃(s:NewS),[aI k]=[aI s.1]/\eN/\((1:Int)<=s.1/\s.1<=(6:Int))/\∀(x:List Nat),True->(∃(s0:Ann.σ (QnA (PlS.mk k a n c z))),(eS (aP 0 0) (aP 0 0)/\eS (SA.c (.r a n c n 7 (fun (j:Nat)=>bif Nat.beq j 6 then .u64 else .i64) z)) (SA.c (.r a n c n 7 (fun (j:Nat)=>bif Nat.beq j 6 then .u64 else .i64) z))/\eS (aI ↑n) (aI ↑n)/\eS (aI 0) (aI ↑s0.1)/\True)/\[SB.abs (QB shM ShS.z ShS.good (Sh.new s.1)) x]=[SB.abs (QB shM ShS.z ShS.good (XW k (mvL z s0.1))) s0.2])/\∀(s:PlG (PlS.mk k a n c z)),bif decide ((↑s.1:Int)<(↑n:Int))then (Rws 7 mvK w a n c z/\(0:Int)<=(↑s.1:Int)/\(↑s.1:Int)<(↑n:Int)/\Int.toNat (↑s.1:Int)<n)/\(Rws 7 (fun (j:Nat)=>bif Nat.beq j 6 then .u64 else .i64) w a n c z/\Int.toNat (↑s.1:Int)<n)/\bif z (Int.toNat (↑s.1:Int)) 0==(1:Int)then ∃(s_1:Sh × (Int × OpA) × List Nat),[aP 0 0,aI (z (Int.toNat (↑s.1:Int)) 1),SA.a [sI (z (Int.toNat (↑s.1:Int)) 2),sI (z (Int.toNat (↑s.1:Int)) 3),sI (z (Int.toNat (↑s.1:Int)) 4)]]=[aP 0 0,aI s_1.2.1.1,SA.a [sI s_1.2.1.2.1,sI s_1.2.1.2.2,sI s_1.2.1.2.3]]/\[SB.abs (QB shM ShS.z ShS.good (XW k (mvL z s.1))) s.2]=[SB.abs (QB shM ShS.z ShS.good s_1.1) s_1.2.2]/\CallOK s_1.1/\∀(x:List Nat × Unit),True->∃(s':PlG (PlS.mk k a n c z)),((eS (aP 0 0) (aP 0 0)/\eS (SA.c (.r a n c n 7 (fun (j:Nat)=>bif Nat.beq j 6 then .u64 else .i64) z)) (SA.c (.r a n c n 7 (fun (j:Nat)=>bif Nat.beq j 6 then .u64 else .i64) z))/\eS (aI ↑n) (aI ↑n)/\eS (aI (IntKind.wrap .i64 ((↑s.1:Int)+(1:Int)))) (aI ↑s'.1)/\True)/\[SB.abs (QB shM ShS.z ShS.good (bif inT s_1.2.1.1 then Sh.call s_1.1 (Int.toNat s_1.2.1.1) s_1.2.1.2.1 s_1.2.1.2.2 s_1.2.1.2.3 else s_1.1)) x.1]=[SB.abs (QB shM ShS.z ShS.good (XW k (mvL z s'.1))) s'.2])/\n-s'.1<n-s.1 else bif z (Int.toNat (↑s.1:Int)) 0==(2:Int)then ∃(s_1:Sh × (Int × Int) × List Nat),[aP 0 0,aI (z (Int.toNat (↑s.1:Int)) 1),aI (z (Int.toNat (↑s.1:Int)) 5)]=[aP 0 0,aI s_1.2.1.1,aI s_1.2.1.2]/\[SB.abs (QB shM ShS.z ShS.good (XW k (mvL z s.1))) s.2]=[SB.abs (QB shM ShS.z ShS.good s_1.1) s_1.2.2]/\(inT s_1.2.1.1=true->RunOK s_1.1 (Int.toNat s_1.2.1.1) s_1.2.1.2)/\∀(x:List Nat × Unit),True->∃(s':PlG (PlS.mk k a n c z)),((eS (aP 0 0) (aP 0 0)/\eS (SA.c (.r a n c n 7 (fun (j:Nat)=>bif Nat.beq j 6 then .u64 else .i64) z)) (SA.c (.r a n c n 7 (fun (j:Nat)=>bif Nat.beq j 6 then .u64 else .i64) z))/\eS (aI ↑n) (aI ↑n)/\eS (aI (IntKind.wrap .i64 ((↑s.1:Int)+(1:Int)))) (aI ↑s'.1)/\True)/\[SB.abs (QB shM ShS.z ShS.good (Sh.runA s_1.1 s_1.2.1.1 s_1.2.1.2)) x.1]=[SB.abs (QB shM ShS.z ShS.good (XW k (mvL z s'.1))) s'.2])/\n-s'.1<n-s.1 else bif z (Int.toNat (↑s.1:Int)) 0==(3:Int)then ∃(s_1:Sh × Int × List Nat),[aP 0 0,aI (z (Int.toNat (↑s.1:Int)) 5)]=[aP 0 0,aI s_1.2.1]/\[SB.abs (QB shM ShS.z ShS.good (XW k (mvL z s.1))) s.2]=[SB.abs (QB shM ShS.z ShS.good s_1.1) s_1.2.2]/\True/\∀(x:List Nat × Unit),True->∃(s':PlG (PlS.mk k a n c z)),((eS (aP 0 0) (aP 0 0)/\eS (SA.c (.r a n c n 7 (fun (j:Nat)=>bif Nat.beq j 6 then .u64 else .i64) z)) (SA.c (.r a n c n 7 (fun (j:Nat)=>bif Nat.beq j 6 then .u64 else .i64) z))/\eS (aI ↑n) (aI ↑n)/\eS (aI (IntKind.wrap .i64 ((↑s.1:Int)+(1:Int)))) (aI ↑s'.1)/\True)/\[SB.abs (QB shM ShS.z ShS.good (Sh.evict s_1.1 s_1.2.1)) x.1]=[SB.abs (QB shM ShS.z ShS.good (XW k (mvL z s'.1))) s'.2])/\n-s'.1<n-s.1 else bif z (Int.toNat (↑s.1:Int)) 0==(4:Int)then ∃(s_1:Sh × Int × List Nat),[aP 0 0,aU (z (Int.toNat (↑s.1:Int)) 6)]=[aP 0 0,aU s_1.2.1]/\[SB.abs (QB shM ShS.z ShS.good (XW k (mvL z s.1))) s.2]=[SB.abs (QB shM ShS.z ShS.good s_1.1) s_1.2.2]/\Qli s_1.1 s_1.2.1/\∀(x:List Nat × Unit),True->∃(s':PlG (PlS.mk k a n c z)),((eS (aP 0 0) (aP 0 0)/\eS (SA.c (.r a n c n 7 (fun (j:Nat)=>bif Nat.beq j 6 then .u64 else .i64) z)) (SA.c (.r a n c n 7 (fun (j:Nat)=>bif Nat.beq j 6 then .u64 else .i64) z))/\eS (aI ↑n) (aI ↑n)/\eS (aI (IntKind.wrap .i64 ((↑s.1:Int)+(1:Int)))) (aI ↑s'.1)/\True)/\[SB.abs (QB shM ShS.z ShS.good (Sh.crash s_1.1 s_1.2.1)) x.1]=[SB.abs (QB shM ShS.z ShS.good (XW k (mvL z s'.1))) s'.2])/\n-s'.1<n-s.1 else ∃(s':PlG (PlS.mk k a n c z)),((eS (aP 0 0) (aP 0 0)/\eS (SA.c (.r a n c n 7 (fun (j:Nat)=>bif Nat.beq j 6 then .u64 else .i64) z)) (SA.c (.r a n c n 7 (fun (j:Nat)=>bif Nat.beq j 6 then .u64 else .i64) z))/\eS (aI ↑n) (aI ↑n)/\eS (aI (IntKind.wrap .i64 ((↑s.1:Int)+(1:Int)))) (aI ↑s'.1)/\True)/\[SB.abs (QB shM ShS.z ShS.good (XW k (mvL z s.1))) s.2]=[SB.abs (QB shM ShS.z ShS.good (XW k (mvL z s'.1))) s'.2])/\n-s'.1<n-s.1 else endN (QiT W) [] (fun (x:SV) (M:List SB)=>match x with|SV.t [SA.c (.p b off),head]=>[b]|x=>[]) (PlS.mk k a n c z) (SV.t [aP 0 0,SA.c (.v Value.nilIface)]) [SB.abs (QB shM ShS.z ShS.good (XW k (mvL z s.1))) s.2]) (by kernel_rfl) ?_
 have h1:1<=k:=h1
 have h6:k<=6:=h6
 have hn:n<=3000:=hn
 have hu:∀i,i<n->U64 (z i 6):=hu
 refine⟨⟨k⟩,rfl,rfl,⟨h1,h6⟩,fun x _=>⟨⟨⟨0,x,Nat.zero_le _⟩,⟨rfl,rfl,rfl,rfl,trivial⟩,rfl⟩,?_⟩⟩
 rintro⟨i,F,hi⟩
 have hi:i<=n:=hi
 dsimp only
 rw[Int.toNat_natCast]
 obtain⟨g,Fi,hs⟩:=Qg5 h1 h6 i (mvL z i) (Qqi z i) (by omega)
 have hs2:(XW k (mvL z i)).steps<100000000:=by omega
 have enx:XW k (mvL z (i+1))=(XW k (mvL z i)).move (mvAt z i):=by rw[Qop,QcT]
 refine Qr (fun hlt=>?_) (fun hge=>?_)
 · have hlt':i<n:=by omega
   have go (S:Sh) (G:List Nat) (e:S=XW k (mvL z (i+1))):[SB.abs (QB shM ShS.z ShS.good S) G]=[SB.abs (QB shM ShS.z ShS.good (XW k (mvL z (i+1)))) G]:=by rw[e]
   refine⟨⟨hr,by omega,hlt,hlt'⟩,⟨hr,hlt'⟩,Xa (fun hk=>?_) (fun hk1=>Xa (fun hk=>?_) (fun hk2=>Xa (fun hk=>?_) (fun hk3=>Xa (fun hk=>?_) (fun hk4=>?_))))⟩
   · exact⟨(XW k (mvL z i),(z i 1,⟨z i 2,z i 3,z i 4⟩),F),rfl,rfl,CallOK.of Fi hs2,fun y _=>⟨⟨i+1,y.1,hlt'⟩,⟨⟨rfl,rfl,rfl,svI (sucI (by omega)),trivial⟩,go _ _ (by rw[enx];exact (if_pos hk).symm)⟩,by dsimp only;omega⟩⟩
   · exact⟨(XW k (mvL z i),(z i 1,z i 5),F),rfl,rfl,fun ht=>RunOK.of Fi (QcC ht).2.2 (by omega) _,fun y _=>⟨⟨i+1,y.1,hlt'⟩,⟨⟨rfl,rfl,rfl,svI (sucI (by omega)),trivial⟩,go _ _ (by rw[enx];exact ((if_neg hk1).trans (if_pos hk)).symm)⟩,by dsimp only;omega⟩⟩
   · exact⟨(XW k (mvL z i),z i 5,F),rfl,rfl,trivial,fun y _=>⟨⟨i+1,y.1,hlt'⟩,⟨⟨rfl,rfl,rfl,svI (sucI (by omega)),trivial⟩,go _ _ (by rw[enx];exact ((if_neg hk1).trans ((if_neg hk2).trans (if_pos hk))).symm)⟩,by dsimp only;omega⟩⟩
   · exact⟨(XW k (mvL z i),z i 6,F),rfl,rfl,Fi.craOK (by omega) (hu i hlt'),fun y _=>⟨⟨i+1,y.1,hlt'⟩,⟨⟨rfl,rfl,rfl,svI (sucI (by omega)),trivial⟩,go _ _ (by rw[enx];exact ((if_neg hk1).trans ((if_neg hk2).trans ((if_neg hk3).trans (if_pos hk)))).symm)⟩,by dsimp only;omega⟩⟩
   · exact⟨⟨i+1,F,hlt'⟩,⟨⟨rfl,rfl,rfl,svI (sucI (by omega)),trivial⟩,go _ _ (by rw[enx];exact ((if_neg hk1).trans ((if_neg hk2).trans ((if_neg hk3).trans (if_neg hk4)))).symm)⟩,by dsimp only;omega⟩
 · obtain rfl:i=n:=by omega
   exact Qj rfl F trivial rfl rfl rfl
structure EqRS (α:Type) where
 l:List α
 m:Nat
 c:Nat
 nn:Bool
 z:Nat->Nat->Int
 m2:Nat
 c2:Nat
 nn2:Bool
 z2:Nat->Nat->Int
structure EqRG {α:Type}(s:EqRS α) where
 i:Nat
 hi:i<=s.l.length
def QfQ:MCon:=dcon (EqRS Dd) (fun s=>s.l.length<=1000000000/\(s.l.length<=s.m/\s.m<=s.c)/\IsR 6 Dd.at Dd.nil s.z s.l/\(s.l.length<=s.m2/\s.m2<=s.c2)/\IsR 6 Dd.at Dd.nil s.z2 s.l)
 (fun s=>[.c (.so 0 0 6 s.l.length s.c s.nn),.c (.so 1 0 6 s.l.length s.c2 s.nn2)]) (fun s=>[wkD s.m s.c s.z,wkD s.m2 s.c2 s.z2]) (fun s=>sv (.bool true)) (fun s=>[wkD s.m s.c s.z,wkD s.m2 s.c2 s.z2]) 2 (fun args _=>some (blkA args))
def QnC (s:EqRS Dd):Ann where
 σ:=EqRG s
 I g:=([(0,.o (.c (.so 0 0 6 s.l.length s.c s.nn))),(1,.o (.c (.so 1 0 6 s.l.length s.c2 s.nn2))),(12,sv (.int .i64 s.l.length)),(13,sv (.int .i64 g.i))],[wkD s.m s.c s.z,wkD s.m2 s.c2 s.z2])
 dec g:=s.l.length-g.i
 pi _ _:=[0,1]
 nz:=[]
theorem eqrD_con:(Con.mem QfQ).holds Tryz.prog 33:=by
 intro w0 S
 refine Qb (Γ:=[]) (fun _=>noW) Tryz.func33 rfl (by kernel_rfl) Qg Qd (fun _ _ _ _=>.nil _ _ _) QfQ (fun s=>[(33,[(0,QnC s)])]) (fun x0 h s x=>⟨rfl,trivial⟩) (fun s ρ w _ _ _=>Qi w _) [] (fun _ M=>[0,1]) 400 ?_
 rintro⟨l,m,c,nn,z,m2,c2,nn2,z2⟩ w ⟨h0,h1,h2,h3,h4⟩ -
 refine⟨rfl,?_⟩
 dsimp only at h0 h1 h2 h3 h4
 refine Qk (q:=List.length l<=c/\List.length l<=c2/\bif (↑(List.length l):Int) != (↑(List.length l):Int)then endN QfQ [] (fun (x:SV) (M:List SB)=>[0,1]) (EqRS.mk l m c nn z m2 c2 nn2 z2) (SV.o (aB false)) [SB.rows 65 kI6 6 m c z,SB.rows 65 kI6 6 m2 c2 z2]else List.length l<=c/\(∃(s0:Ann.σ (QnC (EqRS.mk l m c nn z m2 c2 nn2 z2))),(eS (SA.c (.so 0 0 6 (List.length l) c nn)) (SA.c (.so 0 0 6 (List.length l) c nn))/\eS (SA.c (.so 1 0 6 (List.length l) c2 nn2)) (SA.c (.so 1 0 6 (List.length l) c2 nn2))/\eS (aI (↑(List.length l):Int)) (aI (↑(List.length l):Int))/\eS (aI 0) (aI ↑s0.1)/\True)/\[SB.rows 65 kI6 6 m c z,SB.rows 65 kI6 6 m2 c2 z2]=[SB.rows 65 kI6 6 m c z,SB.rows 65 kI6 6 m2 c2 z2])/\∀(s:EqRG (EqRS.mk l m c nn z m2 c2 nn2 z2)),bif decide ((↑s.1:Int)<(↑(List.length l):Int))then ((0:Int)<=(↑s.1:Int)/\(↑s.1:Int)<(↑(List.length l):Int)/\0+List.length l<=c)/\0+Int.toNat (↑s.1:Int)<m/\((0:Int)<=(↑s.1:Int)/\(↑s.1:Int)<(↑(List.length l):Int)/\0+List.length l<=c2)/\0+Int.toNat (↑s.1:Int)<m2/\dP Tryz.f33 6 2 [xE 8,xR 7 1,xF 6 1,xE 5,xF 4 1,xR 3 0,xF 2 0,xE 1,xF 0 0]/\bif bif bif z (0+Int.toNat (↑s.1:Int)) 0==z2 (0+Int.toNat (↑s.1:Int)) 0 then bif z (0+Int.toNat (↑s.1:Int)) 1==z2 (0+Int.toNat (↑s.1:Int)) 1 then bif z (0+Int.toNat (↑s.1:Int)) 2==z2 (0+Int.toNat (↑s.1:Int)) 2 then bif z (0+Int.toNat (↑s.1:Int)) 3==z2 (0+Int.toNat (↑s.1:Int)) 3 then bif z (0+Int.toNat (↑s.1:Int)) 4==z2 (0+Int.toNat (↑s.1:Int)) 4 then bif z (0+Int.toNat (↑s.1:Int)) 5==z2 (0+Int.toNat (↑s.1:Int)) 5 then true else false else false else false else false else false else false then false else true then endN QfQ [] (fun (x:SV) (M:List SB)=>[0,1]) (EqRS.mk l m c nn z m2 c2 nn2 z2) (SV.o (aB false)) [SB.rows 65 kI6 6 m c z,SB.rows 65 kI6 6 m2 c2 z2]else ∃(s':EqRG (EqRS.mk l m c nn z m2 c2 nn2 z2)),((eS (SA.c (.so 0 0 6 (List.length l) c nn)) (SA.c (.so 0 0 6 (List.length l) c nn))/\eS (SA.c (.so 1 0 6 (List.length l) c2 nn2)) (SA.c (.so 1 0 6 (List.length l) c2 nn2))/\eS (aI (↑(List.length l):Int)) (aI (↑(List.length l):Int))/\eS (aI (IntKind.wrap .i64 ((↑s.1:Int)+(1:Int)))) (aI ↑s'.1)/\True)/\[SB.rows 65 kI6 6 m c z,SB.rows 65 kI6 6 m2 c2 z2]=[SB.rows 65 kI6 6 m c z,SB.rows 65 kI6 6 m2 c2 z2])/\List.length l-s'.1<List.length l-s.1 else endN QfQ [] (fun (x:SV) (M:List SB)=>[0,1]) (EqRS.mk l m c nn z m2 c2 nn2 z2) (SV.o (aB true)) [SB.rows 65 kI6 6 m c z,SB.rows 65 kI6 6 m2 c2 z2]) (by kernel_rfl) ?_
 have he:=IsR.eq h2 h4
 refine⟨by omega,by omega,QD (fun h=>absurd rfl h) (fun _=>⟨by omega,⟨⟨0,Nat.zero_le _⟩,⟨rfl,rfl,rfl,rfl,trivial⟩,rfl⟩,?_⟩)⟩
 rintro⟨i,hi⟩
 dsimp only at hi ⊢
 refine Qr (fun hlt=>?_) (fun hge=>⟨(),trivial,rfl,rfl⟩)
 have hlt':i<l.length:=by omega
 rw[Int.toNat_natCast,Nat.zero_add i,he i hlt' 0 (by decide),he i hlt' 1 (by decide),he i hlt' 2 (by decide),he i hlt' 3 (by decide),he i hlt' 4 (by decide),he i hlt' 5 (by decide)]
 exact⟨⟨by omega,by omega,by omega⟩,by omega,⟨by omega,by omega,by omega⟩,by omega,Qe (by kernel_rfl),XA (fun h=>absurd h (by simp)) (fun _=>⟨⟨i+1,hlt'⟩,⟨⟨rfl,rfl,rfl,svI (sucI (by omega)),trivial⟩,rfl⟩,by dsimp only;omega⟩)⟩
theorem TCon.weak {X Y α χ:Type}(c c':TCon Y α χ) {L:X->List SB}{y:X->Y}{good:X->Prop}{P:Program}{f:FuncId}(h:(Con.mem (c.high L y good)).holds P f)
 (e:c'={ c with pre:=c'.pre,val:=c'.val }) (hp:∀z a,c'.pre z a->c.pre z a) (hv:∀n z a r,c'.pre z a->c'.val n z a r=c.val n z a r):(Con.mem (c'.high L y good)).holds P f:=by
 obtain⟨pre',args',ok',next',val',new',len'⟩:=c'
 dsimp only at e hp hv
 injection e with _ e1 e2 e3 _ e4 e5
 subst e1 e2 e3 e4 e5
 intro w0 S
 have h:=h w0 S
 refine⟨h.1,fun x0 h=>(by cases h),fun ρ s w hpp hK HM=>(h.2.2 ρ s w (hp _ _ hpp) hK HM).mono ?_⟩
 rintro e w' ⟨x,ρ',h1,h2,h3,h4,h5⟩
 refine⟨x,ρ',h1,h2,h3,?_,h5⟩
 rw[h4]
 show Ending.returned ((c.val 1 s.1 s.2.1 x.2).den ρ')=Ending.returned ((val' 1 s.1 s.2.1 x.2).den ρ')
 rw[hv 1 s.1 s.2.1 x.2 hpp]
def QqE:TCon Sh (Int × OpA) Unit where
 pre z a:=CallOK z/\(inT a.1=true/\(z.w a.1.toNat).does=0/\opOk a.2.k a.2.key a.2.x=true)
 args a:=[.c (.v (.int .i64 a.1)),.a [.one (.v (.int .i64 a.2.k)),.one (.v (.int .i64 a.2.key)),.one (.v (.int .i64 a.2.x))]]
 ok _ _ _:=True
 next z a _:=bif inT a.1 then z.call a.1.toNat a.2.k a.2.key a.2.x else z
 val _ z a _:=.o (.c (.v .nilIface))
 new _ _ _ _:=[]
 len:=0
theorem callNH:(Con.mem QqE.sh).holds Tryz.prog 23:=TCon.weak callA QqE callH rfl (fun z a h=>h.1) (fun n z a r h=>by
 obtain⟨h1,h2,h3⟩:=h.2
 show SV.o (.c (.v .nilIface))=.o (.c (.v (bif inT a.1 then (bif (z.w a.1.toNat).does==0 then (bif opOk a.2.k a.2.key a.2.x then .nilIface else _)else _)else _)))
 rw[h1,h3,show ((z.w a.1.toNat).does==0)=true from beq_iff_eq.2 h2];rfl)
def runG:TCon Sh (Int × Int) Unit where
 pre z a:=(inT a.1=true->RunOK z a.1.toNat a.2)/\(inT a.1=true/\runB a.2=true)
 args a:=[.c (.v (.int .i64 a.1)),.c (.v (.int .i64 a.2))]
 ok _ _ _:=True
 next z a _:=z.runA a.1 a.2
 val _ z a _:=.t [.c (.v (.int .i64 (z.ran a.1.toNat a.2.toNat:Nat))),.c (.v .nilIface)]
 new _ _ _ _:=[]
 len:=0
theorem runGH:(Con.mem runG.sh).holds Tryz.prog 24:=TCon.weak QlS runG runH rfl (fun z a h=>h.1) (fun n z a r h=>by
 obtain⟨h1,h2⟩:=h.2
 show SV.t [.c (.v (.int .i64 _)),.c (.v .nilIface)]=.t [.c (.v (.int .i64 (bif inT a.1 then (bif runB a.2 then _ else 0)else 0))),.c (.v (bif inT a.1 then (bif runB a.2 then .nilIface else _)else _))]
 rw[h1,h2];rfl)
def Qg8:PCon:=⟨fun args=>match args with
 |[]=>True
 |_=>False,fun _=>sv (.bool true),fun _=>none⟩
theorem shops_con:(Con.pure Qg8).holds Tryz.prog 15:=by
 refine Qz (AG:=[]) (Γ:=[(43,.mem QiV),(44,.pure QjI),(23,.mem QqE.sh),(24,.mem runG.sh),(42,.mem craC.sh),(26,.mem verC.sh),(27,.mem ddsC.sh),(19,.mem hisC.sh),(21,.mem QiR.sh)]) Tryz.func15 rfl (by kernel_rfl) Qg Qd
  (fun W=>.cons (newH W _) (.cons (Qp8 W _) (.cons (callNH W _) (.cons (runGH W _) (.cons (craH W _) (.cons (verH W _) (.cons (ddsH W _) (.cons (hisH W _) (.cons (doesH W _) (.nil _ _ _)))))))))) Qg8 400 ?_
 intro W args hp
 unfold Qg8 at hp;dsimp only at hp;split at hp
 case h_2=>exact hp.elim
 refine⟨rfl,?_⟩
 refine Qk (q:=∃(s:NewS),[aI 1]=[aI s.1]/\eN/\((1:Int)<=s.1/\s.1<=(6:Int))/\∀(x:List Nat),True->True/\∃(s_1:Sh × (Int × OpA) × List Nat),[aP 0 0,aI 0,SA.a [sI 1,sI 0,sI 3]]=[aP 0 0,aI s_1.2.1.1,SA.a [sI s_1.2.1.2.1,sI s_1.2.1.2.2,sI s_1.2.1.2.3]]/\[SB.abs (QB shM ShS.z ShS.good (Sh.new s.1)) x]=[SB.abs (QB shM ShS.z ShS.good s_1.1) s_1.2.2]/\(CallOK s_1.1/\inT s_1.2.1.1=true/\(Sh.w s_1.1 (Int.toNat s_1.2.1.1)).2=(0:Int)/\opOk s_1.2.1.2.1 s_1.2.1.2.2 s_1.2.1.2.3=true)/\∀(x:List Nat × Unit),True->∃(s:Sh × (Int × Int) × List Nat),[aP 0 0,aI 0,aI 200]=[aP 0 0,aI s.2.1.1,aI s.2.1.2]/\[SB.abs (QB shM ShS.z ShS.good (bif inT s_1.2.1.1 then Sh.call s_1.1 (Int.toNat s_1.2.1.1) s_1.2.1.2.1 s_1.2.1.2.2 s_1.2.1.2.3 else s_1.1)) x.1]=[SB.abs (QB shM ShS.z ShS.good s.1) s.2.2]/\((inT s.2.1.1=true->RunOK s.1 (Int.toNat s.2.1.1) s.2.1.2)/\inT s.2.1.1=true/\runB s.2.1.2=true)/\∀(x:List Nat × Unit),True->∃(s_2:Sh × Int × List Nat),[aP 0 0,aU 0]=[aP 0 0,aU s_2.2.1]/\[SB.abs (QB shM ShS.z ShS.good (Sh.runA s.1 s.2.1.1 s.2.1.2)) x.1]=[SB.abs (QB shM ShS.z ShS.good s_2.1) s_2.2.2]/\Qli s_2.1 s_2.2.1/\∀(x:List Nat × Unit),True->bif (↑(Sh.ran s.1 (Int.toNat s.2.1.1) (Int.toNat s.2.1.2)):Int)==(84:Int)then ∃(s:Sh × Unit × List Nat),[aP 0 0]=[aP 0 0]/\[SB.abs (QB shM ShS.z ShS.good (Sh.crash s_2.1 s_2.2.1)) x.1]=[SB.abs (QB shM ShS.z ShS.good s.1) s.2.2]/\((0:Int)<=(Sh.s s.1).1 0/\(Sh.s s.1).1 0<(1000000000:Int))/\∀(x:List Nat × Unit),True->bif (Sh.s s.1).1 0==(1:Int)then ∃(s_3:Sh × Unit × List Nat),[aP 0 0]=[aP 0 0]/\[SB.abs (QB shM ShS.z ShS.good s.1) x.1]=[SB.abs (QB shM ShS.z ShS.good s_3.1) s_3.2.2]/\List.length s_3.1.7<=1000000000/\∀(x:List Nat × RwR),(List.length s_3.1.7<=x.2.1/\x.2.1<=x.2.2)/\IsR 6 Dd.at Dd.nil x.2.4 (List.map (fun (self:Vd)=>self.2) s_3.1.7)->List.length s_3.1.7<=x.2.2/\bif (↑(List.length s_3.1.7):Int)==(1:Int)then ∃(s:Sh × Unit × List Nat),[aP 0 0]=[aP 0 0]/\[SB.abs (QB shM ShS.z ShS.good s_3.1) x.1]=[SB.abs (QB shM ShS.z ShS.good s.1) s.2.2]/\List.length s.1.6<=1000000000/\∀(x:List Nat × RwR),(List.length s.1.6<=x.2.1/\x.2.1<=x.2.2)/\IsE x.2.4 s.1.6->List.length s.1.6<=x.2.2/\bif (↑(List.length s.1.6):Int)==(3:Int)then ∃(s_4:Sh × Nat × List Nat),[aP 0 0,aI 0]=[aP 0 0,aI (↑s_4.2.1:Int)]/\[SB.abs (QB shM ShS.z ShS.good s.1) x.1]=[SB.abs (QB shM ShS.z ShS.good s_4.1) s_4.2.2]/\s_4.2.1<4/\∀(x:List Nat × Unit),True->SV.o (aB ((Sh.w s_4.1 s_4.2.1).2==(0:Int)))=SV.o (aB true)/\true=true else SV.o (aB false)=SV.o (aB true)/\true=true else SV.o (aB false)=SV.o (aB true)/\true=true else SV.o (aB false)=SV.o (aB true)/\true=true else SV.o (aB false)=SV.o (aB true)/\true=true) (by kernel_rfl) ?_
 have l1:((Sh.new 1).call 0 1 0 3).ran 0 200=84:=by kernel_rfl
 have l2:((((Sh.new 1).call 0 1 0 3).run 0 200).crash 0).s.now 0=1:=by kernel_rfl
 have l3:((((Sh.new 1).call 0 1 0 3).run 0 200).crash 0).deeds.length=1:=by kernel_rfl
 have l4:((((Sh.new 1).call 0 1 0 3).run 0 200).crash 0).hist.length=3:=by kernel_rfl
 have l5:(((((Sh.new 1).call 0 1 0 3).run 0 200).crash 0).w 0).does=0:=by kernel_rfl
 have F0:=QpA (K:=1) (by decide) (by decide)
 have s1:((Sh.new 1).call 0 1 0 3).steps<=1:=(Qaq (Sh.new 1) 0 1 0 3).2
 have F1:=QfL F0 (t:=0) (by decide) 1 0 3
 have hst:=(QaR 0 200 ((Sh.new 1).call 0 1 0 3)).2
 obtain⟨g,Fg⟩:=QfK (t:=0) (by decide) 200 F1 (by omega)
 obtain⟨z1,hz1⟩:∃z1,z1=(Sh.new 1).call 0 1 0 3:=⟨_,rfl⟩
 rw[<- hz1]at l1 l2 l3 l4 l5 Fg hst s1 F1
 have er:z1.runA 0 200=z1.run 0 200:=by unfold Sh.runA;rw[show inT 0=true from rfl,show runB 200=true from rfl];rfl
 obtain⟨z2,hz2⟩:∃z2,z2=z1.run 0 200:=⟨_,rfl⟩
 rw[<- hz2]at l2 l3 l4 l5 Fg hst
 obtain⟨z3,hz3⟩:∃z3,z3=z2.crash 0:=⟨_,rfl⟩
 rw[<- hz3]at l2 l3 l4 l5
 have go {S T:Sh}(G:List Nat) (e:S=T):[SB.abs (QB shM ShS.z ShS.good S) G]=[SB.abs (QB shM ShS.z ShS.good T) G]:=by rw[e]
 have c0:CallOK (Sh.new 1):=CallOK.of F0 (by show (0:Int)<100000000;decide)
 have c1:RunOK z1 0 200:=RunOK.of F1 (by decide) (by omega) 200
 have c2:Qli z2 0:=Fg.craOK (by omega) ⟨by decide,by decide⟩
 have q1:((z1.ran (Int.toNat 0) (Int.toNat 200):Nat):Int)=84:=by
  rw[show z1.ran (Int.toNat 0) (Int.toNat 200)=84 from l1];rfl
 exact⟨⟨1⟩,rfl,rfl,⟨by decide,by decide⟩,fun x _=>⟨trivial,(Sh.new 1,(0,⟨1,0,3⟩),x),rfl,rfl,⟨c0,rfl,rfl,(by decide:opOk 1 0 3=true)⟩,fun y _=>⟨(z1,(0,200),y.1),rfl,go y.1 hz1.symm,⟨fun _=>c1,rfl,rfl⟩,fun y _=>⟨(z2,0,y.1),rfl,go y.1 (er.trans hz2.symm),c2,fun y _=>Xa
  (fun _=>⟨(z3,(),y.1),rfl,go y.1 hz3.symm,⟨by show 0<=z3.s.now 0;omega,by show z3.s.now 0<1000000000;omega⟩,fun y _=>Xa
   (fun _=>⟨(z3,(),y.1),rfl,rfl,by show z3.deeds.length<=1000000000;omega,fun y hy=>⟨Nat.le_trans hy.1.1 hy.1.2,Xa
    (fun _=>⟨(z3,(),y.1),rfl,rfl,by show z3.hist.length<=1000000000;omega,fun y hy=>⟨Nat.le_trans hy.1.1 hy.1.2,Xa
     (fun _=>⟨(z3,0,y.1),rfl,rfl,by show 0<4;decide,fun y _=>⟨by rw[show (((z3.w 0).does==0):Bool)=true from beq_iff_eq.2 l5],rfl⟩⟩)
     (fun h=>absurd (by show ((z3.hist.length:Nat):Int)=3;omega) h)⟩⟩)
    (fun h=>absurd (by show ((z3.deeds.length:Nat):Int)=1;omega) h)⟩⟩)
   (fun h=>absurd (by show z3.s.now 0=1;omega) h)⟩)
  (fun h=>absurd q1 h)⟩⟩⟩⟩
theorem abGo {S T:Sh}(G:List Nat) (e:S=T):[SB.abs (QB shM ShS.z ShS.good S) G]=[SB.abs (QB shM ShS.z ShS.good T) G]:=by rw[e]
def eqDs (l:List Vd) (a b:RwR):EqRS Dd:=⟨l.map Vd.d,a.m,a.c,a.nn,a.z,b.m,b.c,b.nn,b.z⟩
theorem eqDs_args (l:List Vd) (i j:Nat) (a b:RwR):[SA.c (.so i 0 6 l.length a.c a.nn),SA.c (.so j 0 6 l.length b.c b.nn)]=[SA.c (.so i 0 6 (eqDs l a b).l.length a.c a.nn),SA.c (.so j 0 6 (eqDs l a b).l.length b.c b.nn)]:=by
 show _=[SA.c (.so i 0 6 (l.map Vd.d).length a.c a.nn),SA.c (.so j 0 6 (l.map Vd.d).length b.c b.nn)]
 rw[List.length_map]
theorem eqDs_pre {l:List Vd}{a b:RwR}(h:l.length<=1000000000) (ha:(l.length<=a.m/\a.m<=a.c)/\IsR 6 Dd.at Dd.nil a.z (l.map Vd.d)) (hb:(l.length<=b.m/\b.m<=b.c)/\IsR 6 Dd.at Dd.nil b.z (l.map Vd.d)):
 (eqDs l a b).l.length<=1000000000/\((eqDs l a b).l.length<=a.m/\a.m<=a.c)/\IsR 6 Dd.at Dd.nil a.z (eqDs l a b).l/\((eqDs l a b).l.length<=b.m/\b.m<=b.c)/\IsR 6 Dd.at Dd.nil b.z (eqDs l a b).l:=by
 have e:(eqDs l a b).l.length=l.length:=List.length_map _
 rw[e];exact⟨h,ha.1,ha.2,hb.1,hb.2⟩
theorem FinI.ver {K:Int}{z:Sh}{g:Gh}(F:FinI K z g) (hs:z.steps<100000000):0<=z.s.now 0/\z.s.now 0<1000000000:=by
 have h1:=F.i.now
 have h2:=F.i.gl.vb
 have h3:=F.i.gl.now0
 omega
end
section
section
variable {K:Int}{z:Sh}{g:Gh}{t:Nat}
theorem FinI.idle4 (F:FinI K z g) (h:∀u,u<4->(z.w u).does=0):z.m 0=0/\g.V=g.dv/\g.R=g.Q:=by
 refine⟨?_,?_⟩
 · rcases F.1.lk with⟨a,-⟩|⟨u,hu,-,hh,-⟩
   · exact a
   · have:=h u hu
     unfold Xn at hh;omega
 · have hV:g.V=g.dv:=by
    rcases F.1.gl.vd with e|e
    · exact e
    · obtain⟨u,hu,h12,h14⟩:=F.1.mid e
      have:=h u hu;omega
   exact⟨hV,(F.1.gl.same hV).1⟩
def QnG (w:Wk):Prop:=(0<=w.does/\w.does<=3)\/(17<=w.does/\w.does<=21)
theorem QjT (F:FinI K z g) (ht:t<4) (hw:QnG (z.w t)) (hl:z.m 0≠0):(z.step t).s=z.s/\(z.step t).deeds=z.deeds/\QnG ((z.step t).w t)/\(z.step t).m 0=z.m 0:=by
 by_cases hn:(z.w t).does=0
 · have e:z.step t=z:=if_pos hn
   rw[e];exact⟨rfl,rfl,hw,rfl⟩
 have hd:(z.step t).deeds=z.deeds:=by
  have h11:(z.w t).does≠11:=by unfold QnG at hw;omega
  unfold Sh.step
  rw[if_neg hn]
  unfold Sh.stepped
  dsimp only
  rw[if_neg h11]
  split<;>rfl
 have e:z.step t=z.stepped t:=if_neg hn
 rw[Qho hn,Qmk hn,hd,e,Qhy]
 refine⟨?_,rfl,?_⟩
 · rcases hw with⟨h0,h3⟩|⟨h17,h21⟩
   · have h2:Qa (z.wst t)=(sayP (z.wst t),false):=by
      unfold Qa
      rw[if_neg (by exact hn),if_pos (by exact h3)]
     rw[h2]
     show (sayP (z.wst t)).s=z.s
     unfold sayP
     split
     · rfl
     split
     · rfl
     split<;>rfl
   · have h2:Qa (z.wst t)=QJ (z.wst t):=by
      unfold Qa
      rw[if_neg (by exact hn),if_neg (by show ¬(z.w t).does<=3;omega),if_neg (by show ¬(z.w t).does<=7;omega),if_neg (by show ¬(z.w t).does<=13;omega),if_neg (by show ¬(z.w t).does<=16;omega)]
     rw[h2]
     unfold QJ
     split
     · rfl
     split
     · rfl
     split
     · rfl
     split
     · rfl
     split<;>rfl
 · rcases hw with⟨h0,h3⟩|⟨h17,h21⟩
   · have h2:Qa (z.wst t)=(sayP (z.wst t),false):=by
      unfold Qa
      rw[if_neg (by exact hn),if_pos (by exact h3)]
     rw[h2]
     rcases (show (z.w t).does=1\/(z.w t).does=2\/(z.w t).does=3 by omega)with h|h|h
     · have e:sayP (z.wst t)=⟨{ z.w t with does:=2 },putF z.m (2+2*(z.w t).th) (opW (z.w t).k (z.w t).key (z.w t).x),z.s⟩:=by simp[sayP,Sh.wst,h]
       rw[e];exact⟨.inl ⟨by show (0:Int)<=2;decide,by show (2:Int)<=3;decide⟩,Qs _ _ (by omega)⟩
     · have e:sayP (z.wst t)=⟨{ z.w t with said:=true,does:=3 },putF z.m (3+2*(z.w t).th) ((z.w t).tog+1),z.s⟩:=by simp[sayP,Sh.wst,h]
       rw[e];exact⟨.inl ⟨by show (0:Int)<=3;decide,by show (3:Int)<=3;decide⟩,Qs _ _ (by omega)⟩
     · have e:sayP (z.wst t)=⟨{ z.w t with does:=17 },z.m,z.s⟩:=by
        rw[say3 _ h,if_neg (by exact hl)];rfl
       rw[e];exact⟨.inr ⟨by show (17:Int)<=17;decide,by show (17:Int)<=21;decide⟩,rfl⟩
   · obtain⟨hm,hc⟩:=QhT (z:=z) (t:=t) h17 h21
     refine⟨?_,by rw[hm]⟩
     unfold QnG
     omega
theorem Qhn (ht:t<4):∀(n:Nat) {z:Sh}{g:Gh},FinI K z g->QnG (z.w t)->z.m 0≠0->z.steps+n<100000000->(z.run t n).s=z.s/\(z.run t n).deeds=z.deeds
 |0,z,g,F,_,_,_=>⟨rfl,rfl⟩
 |n+1,z,g,F,hw,hl,hs=>by
  obtain⟨h1,h2,h3,h4⟩:=QjT F ht hw hl
  obtain⟨g',F'⟩:=QiO F ht (by omega)
  have:=(XP z t).2
  have ih:=Qhn ht n F' h3 (by rw[h4];exact hl) (by omega)
  exact⟨ih.1.trans h1,ih.2.trans h2⟩
theorem FinI.locked (F:FinI K z g) {u:Nat}(hu:u<4) (h:4<=(z.w u).does/\(z.w u).does<=15):z.m 0≠0:=by
 rcases F.1.lk with⟨-,hn⟩|⟨a,ha,e,-,-⟩
 · exact absurd h (hn u hu)
 · omega
end
end
section
def pF (w:Wk):Int:=if w.does=9 then w.i else if w.does=10\/w.does=11 then 4 else if w.does=12 then -1 else 0
def pE (w:Wk):Int:=if w.does=11 then 1 else if w.does=12\/w.does=13 then -1 else 0
def sum4 (f:Nat->Int):Int:=f 0+f 1+f 2+f 3
structure Pay (z:Sh):Prop where
 fl:z.s.fl=5*z.s.now 0+sum4 fun u=>pF (z.w u)
 fe:z.s.fe=2*z.s.now 0+sum4 fun u=>pE (z.w u)
theorem QeT {α:Type}(p:α->Int) (f:Nat->α) (x:α) {t:Nat}(ht:t<4):sum4 (fun u=>p (setF f t x u))=sum4 (fun u=>p (f u))+p x-p (f t):=by
 unfold sum4
 dsimp only
 rcases (show t=0\/t=1\/t=2\/t=3 by omega)with rfl|rfl|rfl|rfl
 · rw[Qh,Qw _ _ (show 1≠0 by decide),Qw _ _ (show 2≠0 by decide),Qw _ _ (show 3≠0 by decide)];omega
 · rw[Qh,Qw _ _ (show 0≠1 by decide),Qw _ _ (show 2≠1 by decide),Qw _ _ (show 3≠1 by decide)];omega
 · rw[Qh,Qw _ _ (show 0≠2 by decide),Qw _ _ (show 1≠2 by decide),Qw _ _ (show 3≠2 by decide)];omega
 · rw[Qh,Qw _ _ (show 0≠3 by decide),Qw _ _ (show 1≠3 by decide),Qw _ _ (show 2≠3 by decide)];omega
theorem pF0 {w:Wk}(h:w.does<=8\/13<=w.does):pF w=0:=by unfold pF;rw[if_neg (by omega),if_neg (by omega),if_neg (by omega)]
theorem pF9 {w:Wk}(h:w.does=9):pF w=w.i:=if_pos h
theorem pF4 {w:Wk}(h:w.does=10\/w.does=11):pF w=4:=by unfold pF;rw[if_neg (by omega),if_pos h]
theorem pF12 {w:Wk}(h:w.does=12):pF w=-1:=by unfold pF;rw[if_neg (by omega),if_neg (by omega),if_pos h]
theorem pE0 {w:Wk}(h:w.does<=10\/14<=w.does):pE w=0:=by unfold pE;rw[if_neg (by omega),if_neg (by omega)]
theorem pE11 {w:Wk}(h:w.does=11):pE w=1:=if_pos h
theorem pE12 {w:Wk}(h:w.does=12\/w.does=13):pE w=-1:=by unfold pE;rw[if_neg (by omega),if_pos h]
section
variable {K:Int}{z:Sh}{g:Gh}{t:Nat}
theorem Qob (I:ShInv K z g) (ht:t<4) (hn:(z.w t).does≠0) (hd:(z.w t).does<=7\/14<=(z.w t).does):(Qa (z.wst t)).1.s=z.s/\((Qa (z.wst t)).1.w.does<=8\/14<=(Qa (z.wst t)).1.w.does):=by
 have T:=I.th t ht
 have h0:=T.d0
 have h21:=T.d21
 rcases (show (1<=(z.w t).does/\(z.w t).does<=3)\/(4<=(z.w t).does/\(z.w t).does<=7)\/(14<=(z.w t).does/\(z.w t).does<=16)\/17<=(z.w t).does by omega)with h|h|h|h
 · have h2:Qa (z.wst t)=(sayP (z.wst t),false):=by
    unfold Qa
    rw[if_neg (by exact hn),if_pos (by exact h.2)]
   rw[h2]
   show (sayP (z.wst t)).s=z.s/\((sayP (z.wst t)).w.does<=8\/14<=(sayP (z.wst t)).w.does)
   unfold sayP
   split
   · exact⟨rfl,.inl (by show (2:Int)<=8;decide)⟩
   split
   · exact⟨rfl,.inl (by show (3:Int)<=8;decide)⟩
   split
   · exact⟨rfl,.inl (by show (4:Int)<=8;decide)⟩
   · exact⟨rfl,.inr (by show (14:Int)<=17;decide)⟩
 · have h2:Qa (z.wst t)=(Xq (z.wst t),false):=by
    unfold Qa
    rw[if_neg (by exact hn),if_neg (by show ¬(z.w t).does<=3;omega),if_pos (by exact h.2)]
   rw[h2]
   show (Xq (z.wst t)).s=z.s/\((Xq (z.wst t)).w.does<=8\/14<=(Xq (z.wst t)).w.does)
   have nx:∀(w:Wk) (n d:Int),w.does<=8->d<=8->(Wk.next w n d).does<=8:=fun w n d h1 h2=>by unfold Wk.next;split<;>assumption
   unfold Xq
   split
   · exact⟨rfl,.inl (by show (5:Int)<=8;decide)⟩
   split
   · exact⟨rfl,.inl (nx _ _ _ (by show (z.w t).does<=8;omega) (by decide))⟩
   split
   · split
     · exact⟨rfl,.inl (by show (7:Int)<=8;decide)⟩
     · refine⟨rfl,.inl ?_⟩
       rw[show ∀w:Wk,w.all.does=w.does from fun w=>(all_i w).1]
       exact nx _ _ _ (by show (z.w t).does<=8;omega) (by decide)
   · refine⟨rfl,.inl ?_⟩
     rw[show ∀w:Wk,w.all.does=w.does from fun w=>(all_i w).1]
     exact nx _ _ _ (by show (6:Int)<=8;decide) (by decide)
 · have h2:Qa (z.wst t)=Qaf (z.wst t):=by
    unfold Qa
    rw[if_neg (by exact hn),if_neg (by show ¬(z.w t).does<=3;omega),if_neg (by show ¬(z.w t).does<=7;omega),if_neg (by show ¬(z.w t).does<=13;omega),if_pos (by exact h.2)]
   rw[h2]
   unfold Qaf
   split
   · exact⟨rfl,.inr (by show (14:Int)<=15;decide)⟩
   split
   · exact⟨rfl,.inr (by show (14:Int)<=16;decide)⟩
   · exact⟨rfl,.inl (by show (0:Int)<=8;decide)⟩
 · have h2:Qa (z.wst t)=QJ (z.wst t):=by
    unfold Qa
    rw[if_neg (by exact hn),if_neg (by show ¬(z.w t).does<=3;omega),if_neg (by show ¬(z.w t).does<=7;omega),if_neg (by show ¬(z.w t).does<=13;omega),if_neg (by show ¬(z.w t).does<=16;omega)]
   have hl:=(QhT (z:=z) (t:=t) h h21).2
   refine⟨?_,by omega⟩
   rw[h2]
   unfold QJ
   split
   · rfl
   split
   · rfl
   split
   · rfl
   split
   · rfl
   split<;>rfl
theorem Qn9 (I:ShInv K z g) (P:Pay z) (ht:t<4):Pay (z.step t):=by
 by_cases hn:(z.w t).does=0
 · have e:z.step t=z:=if_pos hn
   rw[e];exact P
 have e:z.step t=z.stepped t:=if_neg hn
 have hw:(z.step t).w=setF z.w t (Qa (z.wst t)).1.w:=by rw[e,Qhx]
 have hs:(z.step t).s=(Qa (z.wst t)).1.s:=by rw[e,Qhy]
 have key:∀(a b c:Int),(Qa (z.wst t)).1.s.fl=z.s.fl+a->(Qa (z.wst t)).1.s.fe=z.s.fe+b->(Qa (z.wst t)).1.s.now 0=z.s.now 0+c->pF (Qa (z.wst t)).1.w=pF (z.w t)+a-5*c->pE (Qa (z.wst t)).1.w=pE (z.w t)+b-2*c->Pay (z.step t):=fun a b c h1 h2 h3 h4 h5=>by
  have p1:=P.fl
  have p2:=P.fe
  refine⟨?_,?_⟩
  · rw[hs,hw,h1,h3,QeT pF _ _ ht,h4];omega
  · rw[hs,hw,h2,h3,QeT pE _ _ ht,h5];omega
 by_cases hc:(z.w t).does<=7\/14<=(z.w t).does
 · obtain⟨h1,h2⟩:=Qob I ht hn hc
   refine key 0 0 0 (by rw[h1];omega) (by rw[h1];omega) (by rw[h1];omega) ?_ ?_
   · rw[pF0 (by omega),pF0 (by omega)];rfl
   · rw[pE0 (by omega),pE0 (by omega)];rfl
 have O:=I.ho t ht ⟨by omega,by omega⟩
 rcases (show (z.w t).does=8\/(z.w t).does=9\/(z.w t).does=10\/(z.w t).does=11\/(z.w t).does=12\/(z.w t).does=13 by omega)with hd|hd|hd|hd|hd|hd
 · have hi:=O.i0 (by omega)
   have e:Qa (z.wst t)=(⟨Wk.next (z.w t) 32 9,z.m,z.s.save (Qp ((z.w t).v+1)+(z.w t).i.toNat) ((z.w t).r (z.w t).i.toNat)⟩,false):=by simp[Qa,Xf,Sh.wst,hd]
   have h4:pF (Wk.next (z.w t) 32 9)=0:=by
    unfold Wk.next
    split
    · rw[pF9 rfl]
    · rw[pF0 (.inl (by show (z.w t).does<=8;omega))]
   have h5:pE (Wk.next (z.w t) 32 9)=0:=by
    unfold Wk.next
    split
    · rw[pE0 (.inl (by show (9:Int)<=10;decide))]
    · rw[pE0 (.inl (by show (z.w t).does<=10;omega))]
   refine key 0 0 0 (by rw[e];show z.s.fl=z.s.fl+0;omega) (by rw[e];show z.s.fe=z.s.fe+0;omega) ?_ ?_ ?_
   · rw[e]
     show putF z.s.now _ _ 0=_
     rw[Qs _ _ (by unfold Qp;omega)];omega
   · rw[e,h4,pF0 (by omega)];rfl
   · rw[e,h5,pE0 (by omega)];rfl
 · have hi:=O.i0 (by omega)
   obtain⟨h4,-⟩:=O.i9 hd
   have e:Qa (z.wst t)=(⟨Wk.next (z.w t) 4 10,z.m,z.s.flush (z.w t).th (Qp ((z.w t).v+1)/8+(z.w t).i.toNat)⟩,false):=by simp[Qa,Xf,Sh.wst,hd]
   refine key 1 0 0 (by rw[e];rfl) (by rw[e];show z.s.fe=z.s.fe+0;omega) (by rw[e];show z.s.now 0=z.s.now 0+0;omega) ?_ ?_
   · rw[e,pF9 hd]
     show pF (Wk.next (z.w t) 4 10)=_
     unfold Wk.next
     by_cases e4:(z.w t).i+1=4
     · rw[if_pos e4,pF4 (.inl rfl)];omega
     · rw[if_neg e4,pF9 (by exact hd)];show (z.w t).i+1=_;omega
   · rw[e,pE0 (w:=z.w t) (by omega)]
     show pE (Wk.next (z.w t) 4 10)=_
     unfold Wk.next
     split
     · rw[pE0 (.inl (by show (10:Int)<=10;decide))];rfl
     · rw[pE0 (.inl (by show (z.w t).does<=10;omega))];rfl
 · have e:Qa (z.wst t)=(⟨{ z.w t with does:=11 },z.m,z.s.fence (z.w t).th⟩,false):=by simp[Qa,Xf,Sh.wst,hd]
   refine key 0 1 0 (by rw[e];show z.s.fl=z.s.fl+0;omega) (by rw[e];rfl) (by rw[e];show z.s.now 0=z.s.now 0+0;omega) ?_ ?_
   · rw[e,pF4 (w:=z.w t) (.inl hd)];exact pF4 (.inr rfl)
   · rw[e,pE0 (w:=z.w t) (by omega)];exact pE11 rfl
 · have hV:=O.ver (by omega) (by omega)
   have hL:=O.low (.inl (by omega))
   have e:Qa (z.wst t)=(⟨{ z.w t with does:=12 },z.m,z.s.save 0 ((z.w t).v+1)⟩,false):=by simp[Qa,Xf,Sh.wst,hd]
   refine key 0 0 1 (by rw[e];show z.s.fl=z.s.fl+0;omega) (by rw[e];show z.s.fe=z.s.fe+0;omega) ?_ ?_ ?_
   · rw[e]
     show putF z.s.now 0 ((z.w t).v+1) 0=_
     rw[QV,I.gl.now0];omega
   · rw[e,pF4 (w:=z.w t) (.inr hd)];exact pF12 rfl
   · rw[e,pE11 (w:=z.w t) hd];exact pE12 (.inl rfl)
 · have e:Qa (z.wst t)=(⟨{ z.w t with does:=13 },z.m,z.s.flush (z.w t).th 0⟩,false):=by simp[Qa,Xf,Sh.wst,hd]
   refine key 1 0 0 (by rw[e];rfl) (by rw[e];show z.s.fe=z.s.fe+0;omega) (by rw[e];show z.s.now 0=z.s.now 0+0;omega) ?_ ?_
   · rw[e,pF12 (w:=z.w t) hd];exact pF0 (.inr (by show (13:Int)<=13;decide))
   · rw[e,pE12 (w:=z.w t) (.inl hd)];exact pE12 (.inr rfl)
 · have e:Qa (z.wst t)=(⟨{ z.w t with does:=14 },z.m,z.s.fence (z.w t).th⟩,false):=by simp[Qa,Xf,Sh.wst,hd]
   refine key 0 1 0 (by rw[e];show z.s.fl=z.s.fl+0;omega) (by rw[e];rfl) (by rw[e];show z.s.now 0=z.s.now 0+0;omega) ?_ ?_
   · rw[e,pF0 (w:=z.w t) (by omega)];exact pF0 (.inr (by show (13:Int)<=14;decide))
   · rw[e,pE12 (w:=z.w t) (.inr hd)];exact pE0 (.inr (by show (14:Int)<=14;decide))
theorem Ql3 (ht:t<4):∀(n:Nat) {z:Sh}{g:Gh},FinI K z g->Pay z->z.steps+n<100000000->Pay (z.run t n)
 |0,z,g,_,P,_=>P
 |n+1,z,g,F,P,hs=>by
  obtain⟨g',F'⟩:=QiO F ht (by omega)
  have:=(XP z t).2
  exact Ql3 ht n F' (Qn9 F.1 P ht) (by omega)
theorem Qoa (F:FinI K z g) (P:Pay z) (hs:z.steps<90000000) (m:Mv) (hk:m.kind≠4):Pay (z.move m):=by
 unfold Sh.move
 split
 · unfold Sh.callA
   cases hb:inT m.t
   · exact P
   · rw[cond_true]
     have ht:=(QcC hb).2.2
     unfold Sh.call
     split
     · rename_i h
       have e1:=QeT pF z.w (Wk.call (z.w m.t.toNat).th m.k m.key m.x (1-z.tog m.t.toNat) false) ht
       have e2:=QeT pE z.w (Wk.call (z.w m.t.toNat).th m.k m.key m.x (1-z.tog m.t.toNat) false) ht
       rw[pF0 (w:=z.w m.t.toNat) (by omega),pF0 (w:=Wk.call _ _ _ _ _ _) (.inl (by show (1:Int)<=8;decide))]at e1
       rw[pE0 (w:=z.w m.t.toNat) (by omega),pE0 (w:=Wk.call _ _ _ _ _ _) (.inl (by show (1:Int)<=10;decide))]at e2
       have p1:=P.fl
       have p2:=P.fe
       refine⟨?_,?_⟩
       · show z.s.fl=5*z.s.now 0+sum4 fun u=>pF (setF z.w _ _ u)
         omega
       · show z.s.fe=2*z.s.now 0+sum4 fun u=>pE (setF z.w _ _ u)
         omega
     · exact P
 split
 · unfold Sh.runA
   cases hb:inT m.t
   · exact P
   · rw[cond_true]
     cases hc:runB m.n
     · exact P
     · have h2:=of_decide_eq_true hc
       exact Ql3 (QcC hb).2.2 m.n.toNat F P (by omega)
 split
 · unfold Sh.evict
   split
   · exact⟨P.fl,P.fe⟩
   · exact P
 first
  |exact P
  |(rw[if_neg hk];exact P)
theorem Ql4 {K:Int}(h1:1<=K) (h6:K<=6):∀(n:Nat) (l:List Mv),l.length=n->n<=80000->(∀m∈l,m.kind≠4)->Pay (XW K l)
 |0,l,hl,_,_=>by
  have:=List.length_eq_zero_iff.1 hl
  subst this
  exact⟨rfl,rfl⟩
 |n+1,l,hl,hn,hk=>by
  obtain⟨l',m,rfl⟩:∃l' m,l=l'++[m]:=⟨l.dropLast,l.getLast (by intro h;rw[h]at hl;cases hl),(List.dropLast_concat_getLast _).symm⟩
  rw[List.length_append,List.length_singleton]at hl
  obtain⟨g,F,hs⟩:=Qg5 h1 h6 n l' (by omega) (by omega)
  rw[QcT]
  exact Qoa F (Ql4 h1 h6 n l' (by omega) (by omega) (fun m hm=>hk m (List.mem_append_left _ hm))) (by omega) m (hk m (List.mem_append_right _ (List.mem_singleton.2 rfl)))
theorem pay_all (F:FinI K z g) (P:Pay z):0<=z.s.now 0/\5*z.s.now 0-1<=z.s.fl/\z.s.fl<=5*z.s.now 0+4/\2*z.s.now 0-1<=z.s.fe/\z.s.fe<=2*z.s.now 0+1:=by
 have bF:∀u,u<4->(¬Xn (z.w u)->pF (z.w u)=0/\pE (z.w u)=0)/\-1<=pF (z.w u)/\pF (z.w u)<=4/\-1<=pE (z.w u)/\pE (z.w u)<=1:=fun u hu=>by
  refine⟨fun hh=>?_,?_⟩
  · have T:=F.1.th u hu
    have h0:=T.d0
    unfold Xn at hh
    exact⟨pF0 (by omega),pE0 (by omega)⟩
  · have b1 : -1<=pF (z.w u)/\pF (z.w u)<=4:=by
     by_cases h9:(z.w u).does=9
     · have O:=F.1.ho u hu ⟨by omega,by omega⟩
       have h1:=O.i0 (by omega)
       have h2:=(O.i9 h9).1
       rw[pF9 h9];omega
     · unfold pF
       rw[if_neg h9]
       split
       · omega
       split<;>omega
    have b2 : -1<=pE (z.w u)/\pE (z.w u)<=1:=by
     unfold pE
     split
     · omega
     split<;>omega
    exact⟨b1.1,b1.2,b2⟩
 have p1:=P.fl
 have p2:=P.fe
 have hn:=F.1.now
 unfold sum4 at p1 p2
 dsimp only at p1 p2
 obtain⟨a0,b0⟩:=bF 0 (by decide)
 obtain⟨a1,b1⟩:=bF 1 (by decide)
 obtain⟨a2,b2⟩:=bF 2 (by decide)
 obtain⟨a3,b3⟩:=bF 3 (by decide)
 rcases F.1.lk with⟨-,h⟩|⟨a,ha,-,-,h⟩
 · have:=a0 (h 0 (by decide))
   have:=a1 (h 1 (by decide))
   have:=a2 (h 2 (by decide))
   have:=a3 (h 3 (by decide))
   omega
 · rcases (show a=0\/a=1\/a=2\/a=3 by omega)with rfl|rfl|rfl|rfl
   · have:=a1 (h 1 (by decide) (by decide))
     have:=a2 (h 2 (by decide) (by decide))
     have:=a3 (h 3 (by decide) (by decide))
     omega
   · have:=a0 (h 0 (by decide) (by decide))
     have:=a2 (h 2 (by decide) (by decide))
     have:=a3 (h 3 (by decide) (by decide))
     omega
   · have:=a0 (h 0 (by decide) (by decide))
     have:=a1 (h 1 (by decide) (by decide))
     have:=a3 (h 3 (by decide) (by decide))
     omega
   · have:=a0 (h 0 (by decide) (by decide))
     have:=a1 (h 1 (by decide) (by decide))
     have:=a2 (h 2 (by decide) (by decide))
     omega
theorem pay_idle (P:Pay z) (h:∀u,u<4->(z.w u).does=0):z.s.fl=5*z.s.now 0/\z.s.fe=2*z.s.now 0:=by
 have p1:=P.fl
 have p2:=P.fe
 unfold sum4 at p1 p2
 dsimp only at p1 p2
 have h0:=h 0 (by decide)
 have h1:=h 1 (by decide)
 have h2:=h 2 (by decide)
 have h3:=h 3 (by decide)
 rw[pF0 (w:=z.w 0) (by omega),pF0 (w:=z.w 1) (by omega),pF0 (w:=z.w 2) (by omega),pF0 (w:=z.w 3) (by omega)]at p1
 rw[pE0 (w:=z.w 0) (by omega),pE0 (w:=z.w 1) (by omega),pE0 (w:=z.w 2) (by omega),pE0 (w:=z.w 3) (by omega)]at p2
 omega
end
end
section
section
variable {K:Int}{z:Sh}{g:Gh}{t:Nat}
structure Alone (K:Int) (t:Nat) (a:Ask) (z:Sh) (g:Gh) (z':Sh) (g':Gh):Prop where
 fin:Fin2 K z' g'
 idle:(z'.w t).does=0
 W:∀u,u≠t->z'.w u=z.w u
 V:g'.V=g.V+1
 R:g'.R=bDo g.R [a]
 deeds:z'.deeds=z.deeds++(bD g.R [a]).map (Vd.mk (g.V+1))
 hist:∃e:Ev,z'.hist=z.hist++[⟨1,t,a.k,a.key,a.x,0,0,0,z.steps+1⟩]++[e]/\e.kind=2/\e.t=t
theorem askN4 (R:Rec) (ms:Nat->Int) (ht:t<4) (h1:askB R ms t=true) (h2:∀u,u<4->u≠t->askB R ms u=false):askN R ms 0 4=5:=by
 simp only[askN]
 rcases (show t=0\/t=1\/t=2\/t=3 by omega)with rfl|rfl|rfl|rfl
 · rw[h1,h2 (0+1) (by decide) (by decide),h2 (0+1+1) (by decide) (by decide),h2 (0+1+1+1) (by decide) (by decide)];rfl
 · rw[h2 0 (by decide) (by decide),show askB R ms (0+1)=true from h1,h2 (0+1+1) (by decide) (by decide),h2 (0+1+1+1) (by decide) (by decide)];rfl
 · rw[h2 0 (by decide) (by decide),h2 (0+1) (by decide) (by decide),show askB R ms (0+1+1)=true from h1,h2 (0+1+1+1) (by decide) (by decide)];rfl
 · rw[h2 0 (by decide) (by decide),h2 (0+1) (by decide) (by decide),h2 (0+1+1) (by decide) (by decide),show askB R ms (0+1+1+1)=true from h1];rfl
theorem askL4 (R:Rec) (ms mo:Nat->Int) (ht:t<4) (h1:askB R ms t=true) (h2:∀u,u<4->u≠t->askB R ms u=false):askL R ms mo 4=[Qld ms mo t]:=by
 simp only[askL]
 rcases (show t=0\/t=1\/t=2\/t=3 by omega)with rfl|rfl|rfl|rfl
 · rw[h1,h2 1 (by decide) (by decide),h2 2 (by decide) (by decide),h2 3 (by decide) (by decide)];rfl
 · rw[h1,h2 0 (by decide) (by decide),h2 2 (by decide) (by decide),h2 3 (by decide) (by decide)];rfl
 · rw[h1,h2 0 (by decide) (by decide),h2 1 (by decide) (by decide),h2 3 (by decide) (by decide)];rfl
 · rw[h1,h2 0 (by decide) (by decide),h2 1 (by decide) (by decide),h2 2 (by decide) (by decide)];rfl
structure Said (K:Int) (t:Nat) (a:Ask) (z:Sh) (g:Gh) (z3:Sh):Prop where
 f:Fine K z3 g
 does:(z3.w t).does=3
 W:∀u,u≠t->z3.w u=z.w u
 m0:z3.m 0=z.m 0
 ms:z3.m (3+2*t)=a.g+1
 mo:z3.m (2+2*t)=opW a.k a.key a.x
 om:∀i,i≠3+2*t->i≠2+2*t->z3.m i=z.m i
 s:z3.s=z.s
 deeds:z3.deeds=z.deeds
 hist:z3.hist=z.hist++[⟨1,t,a.k,a.key,a.x,0,0,0,z.steps+1⟩]
 steps:z3.steps=z.steps+3
 tog:z3.tog=z.tog
 wk:(z3.w t).tog=a.g/\(z3.w t).k=a.k/\(z3.w t).key=a.key/\(z3.w t).x=a.x/\(z3.w t).said=true
theorem Qp1 (F:Fine K z g) (ht:t<4) (hi:(z.w t).does=0) {k key x:Int}(ho:opOk k key x=true) (hs:z.steps<90000000):
 Said K t ⟨t,1-z.tog t,k,key,x⟩ z g ((z.call t k key x).run t 2)/\((z.call t k key x).run t 1).w t≠z.w t:=by
 have T:=F.1.th t ht
 have hth:=T.th
 have e1:z.call t k key x=z.called t k key x:=if_pos ⟨hi,ho⟩
 have F1:=Qaw F ht k key x
 rw[e1]at F1 ⊢
 have w1:(z.called t k key x).w t=Wk.call (z.w t).th k key x (1-z.tog t) false:=Qh _ _ _
 rw[hth]at w1
 have W1:∀u,u≠t->(z.called t k key x).w u=z.w u:=fun u hu=>Qw _ _ hu
 have d1:((z.called t k key x).w t).does=1:=by rw[w1];rfl
 generalize hz1:z.called t k key x=z1 at *
 have m1:z1.m=z.m:=by rw[<- hz1];rfl
 have s1:z1.s=z.s:=by rw[<- hz1];rfl
 have dd1:z1.deeds=z.deeds:=by rw[<- hz1];rfl
 have hh1:z1.hist=z.hist++[⟨1,t,k,key,x,0,0,0,z.steps+1⟩]:=by rw[<- hz1];rfl
 have st1:z1.steps=z.steps+1:=by rw[<- hz1];rfl
 have tg1:z1.tog=z.tog:=by rw[<- hz1];rfl
 have n1:(z1.w t).does≠0:=by omega
 have F2:=Xd F1 ht (by omega) n1
 have g1:g.step z1 t=g:=by unfold Gh.step;rw[if_neg (by omega),if_neg (by omega)]
 rw[g1]at F2
 have p1:Qa (z1.wst t)=(⟨{ z1.w t with does:=2 },putF z1.m (2+2*(z1.w t).th) (opW (z1.w t).k (z1.w t).key (z1.w t).x),z1.s⟩,false):=by simp[Qa,sayP,Sh.wst,d1]
 have q1:=Qo (by omega) p1
 have w2:(z1.stepped t).w t={ z1.w t with does:=2 }:=by rw[q1];exact Qh _ _ _
 have W2:∀u,u≠t->(z1.stepped t).w u=z1.w u:=fun u hu=>by rw[q1];exact Qw _ _ hu
 have m2:(z1.stepped t).m=putF z1.m (2+2*t) (opW k key x):=by rw[q1,w1];rfl
 have s2:(z1.stepped t).s=z1.s:=by rw[q1];rfl
 have dd2:(z1.stepped t).deeds=z1.deeds:=by rw[q1];rfl
 have hh2:(z1.stepped t).hist=z1.hist:=by rw[q1];rfl
 have st2:(z1.stepped t).steps=z1.steps+1:=by rw[q1];rfl
 have tg2:(z1.stepped t).tog=z1.tog:=by rw[q1];rfl
 have er:z1.run t 2=(z1.stepped t).step t/\z1.run t 1=z1.stepped t:=by
  have:z1.step t=z1.stepped t:=if_neg n1
  exact⟨by show (z1.step t).step t=_;rw[this],this⟩
 rw[er.1,er.2]
 generalize hz2:z1.stepped t=z2 at *
 have d2:(z2.w t).does=2:=by rw[w2]
 have n2:(z2.w t).does≠0:=by omega
 have F3:=Xd F2 ht (by omega) n2
 have g2:g.step z2 t=g:=by unfold Gh.step;rw[if_neg (by omega),if_neg (by omega)]
 rw[g2]at F3
 have p2:Qa (z2.wst t)=(⟨{ z2.w t with said:=true,does:=3 },putF z2.m (3+2*(z2.w t).th) ((z2.w t).tog+1),z2.s⟩,false):=by simp[Qa,sayP,Sh.wst,d2]
 have q2:=Qo (by omega) p2
 have es:z2.step t=z2.stepped t:=if_neg n2
 rw[es]
 have w3:(z2.stepped t).w t={ z2.w t with said:=true,does:=3 }:=by rw[q2];exact Qh _ _ _
 have m3:(z2.stepped t).m=putF (putF z1.m (2+2*t) (opW k key x)) (3+2*t) (1-z.tog t+1):=by
  rw[q2]
  show putF z2.m (3+2*(z2.w t).th) ((z2.w t).tog+1)=_
  rw[w2,w1,m2];rfl
 refine⟨⟨F3,by rw[w3],fun u hu=>?_,?_,?_,?_,fun i h3 h2=>?_,?_,?_,?_,?_,?_,?_⟩,?_⟩
 · rw[q2];exact (Qw _ _ hu).trans ((W2 u hu).trans (W1 u hu))
 · rw[m3,Qs _ _ (by omega),Qs _ _ (by omega),m1]
 · rw[m3,QV]
 · rw[m3,Qs _ _ (by omega),QV]
 · rw[m3,Qs _ _ h3,Qs _ _ h2,m1]
 · rw[q2];show z2.s=_;rw[s2,s1]
 · rw[q2];show z2.deeds=_;rw[dd2,dd1]
 · rw[q2];show z2.hist=_;rw[hh2,hh1]
 · rw[q2];show z2.steps+1=_;omega
 · rw[q2];show z2.tog=_;rw[tg2,tg1]
 · rw[w3,w2,w1];exact⟨rfl,rfl,rfl,rfl,rfl⟩
 · intro e
   have:=congrArg Wk.does e
   rw[d2]at this;omega
theorem QmG (I:ShInv K z g) {u:Nat}(hu:u<4) (hi:(z.w u).does=0):askB g.R (fun u=>z.m (3+2*u)) u=false:=by
 have T:=I.th u hu
 obtain⟨h1,-,h2⟩:=T.idle hi
 exact decide_eq_false (fun ⟨h3,h4⟩=>by
  rcases h2 with h2|h2
  · exact h3 h2
  · exact h4 (by show z.m (3+2*u)-1=_;rw[h2,h1];omega))
theorem Qle {R:Rec}{ms ms':Nat->Int}{u:Nat}(h:ms u=ms' u):askB R ms u=askB R ms' u:=by
 unfold askB
 exact decide_eq_decide.2 (by rw[h])
theorem QhG (I:ShInv K z g) (ht:t<4) (hi:(z.w t).does=0) {ms:Nat->Int}(h:ms t=1-z.tog t+1):askB g.R ms t=true:=by
 have T:=I.th t ht
 obtain⟨h1,-,h2⟩:=T.idle hi
 have h3:=T.tg01
 exact decide_eq_true ⟨by omega,by rw[h1];omega⟩
theorem alone (F:Fin2 K z g) (ht:t<4) (hi:∀u,u<4->(z.w u).does=0) {k key x:Int}(ho:opOk k key x=true) (hs:z.steps<90000000):
 ∃g',Alone K t ⟨t,1-z.tog t,k,key,x⟩ z g ((z.call t k key x).run t 84) g'/\∀n,84<=n->(z.call t k key x).run t n=(z.call t k key x).run t 84/\(z.call t k key x).ran t n=84:=by
 obtain⟨Sd,-⟩:=Qp1 F.f ht (hi t ht) ho hs
 have hfree:=(F.fi.idle4 hi).1
 obtain⟨z1,hz1⟩:∃z1,z1=z.call t k key x:=⟨_,rfl⟩
 rw[<- hz1]at Sd ⊢
 have P1:PosV z1:=by rw[hz1];exact (QoT F ht k key x).p
 have hFz1:Fine K z1 g:=by rw[hz1];exact Qaw F.f ht k key x
 have hst1:z1.steps<=z.steps+1:=by rw[hz1];exact (Qaq z t k key x).2
 have r2:=Qdk t 2
 obtain⟨z3,hz3⟩:∃z3,z3=z1.run t 2:=⟨_,rfl⟩
 have er:∀n,z1.run t (n+2)=z3.run t n:=fun n=>by rw[hz3,Nat.add_comm n 2];exact Qdk t 2 n z1
 have en:∀n,z1.ran t (n+2)=z3.ran t n+2:=fun n=>by
  have d1:(z1.w t).does≠0:=fun e=>by
   have:=(Qce t 2 e).1
   have h3:=Sd.does
   rw[this]at h3;omega
  have d2:((z1.step t).w t).does≠0:=fun e=>by
   have:=(Qce t 1 e).1
   have h3:=Sd.does
   rw[show z1.run t 2=(z1.step t).run t 1 from rfl,this]at h3;omega
  show (if (z1.w t).does=0 then 0 else (z1.step t).ran t (n+1)+1)=_
  rw[if_neg d1]
  show (if ((z1.step t).w t).does=0 then 0 else ((z1.step t).step t).ran t n+1)+1=_
  rw[if_neg d2,hz3];rfl
 rw[<- hz3]at Sd
 obtain⟨c,hc⟩:∃c:SoC,c=⟨fun u=>z3.m (3+2*u),fun u=>z3.m (2+2*u),z3.w,z3.tog,z3.hist,z3.deeds,g.R,g.V⟩:=⟨_,rfl⟩
 have S:Solo t c z3 g:=by
  subst hc
  have hd:=Sd.does
  exact⟨by omega,by omega,fun _ _=>rfl,fun _ _=>rfl,fun _=>Sd.m0.trans hfree,fun _ _=>rfl,rfl,rfl,fun _=>⟨rfl,rfl,rfl⟩,fun h=>by omega,fun h=>by omega,fun h=>by omega,fun h=>by omega⟩
 have hB:askB c.R c.ms t=true:=by
  subst hc
  exact QhG F.f.1 ht (hi t ht) Sd.ms
 have hN:∀u,u<4->u≠t->askB c.R c.ms u=false:=fun u hu hne=>by
  subst hc
  have:=QmG F.f.1 hu (hi u hu)
  exact (Qle (R:=g.R) (ms:=fun u=>z3.m (3+2*u)) (ms':=fun u=>z.m (3+2*u)) (Sd.om (3+2*u) (by omega) (by omega))).trans this
 have hl:left c (z3.w t)=82:=by rw[Qoz c Sd.does,askN4 c.R c.ms ht hB hN]
 have hL:askL c.R c.ms c.mo 4=[⟨t,1-z.tog t,k,key,x⟩]:=by
  rw[askL4 c.R c.ms c.mo ht hB hN]
  have hb:=QeY ho
  subst hc
  unfold Qld
  dsimp only
  rw[Sd.ms,Sd.mo]
  dsimp only
  rw[hb.1,hb.2.1,hb.2.2.1,show 1-z.tog t+1-1=1-z.tog t by omega]
 have hst:=Sd.steps
 obtain⟨g',E,hk⟩:=QgE ht 82 Sd.f S hl (by omega)
 have eR:c.R=g.R:=by subst hc;rfl
 have eV:c.V=g.V:=by subst hc;rfl
 have eD:c.deeds=z.deeds:=by subst hc;exact Sd.deeds
 have eW:c.W=z3.w:=by subst hc;rfl
 have eH:c.hist=z3.hist:=by subst hc;rfl
 have h84:=er 82
 refine⟨g',⟨?_,?_,?_,?_,?_,?_,?_⟩,fun n hn=>?_⟩
 · exact⟨by rw[h84];exact E.fine,QiF ht 84 hFz1 P1 (by omega)⟩
 · rw[h84];exact E.idle
 · intro u hu;rw[h84,E.W u hu,eW];exact Sd.W u hu
 · rw[E.V,eV]
 · rw[E.R,hL,eR]
 · rw[h84,E.deeds,hL,eR,eV,eD]
 · obtain⟨e,h1,h2,h3⟩:=E.hist
   exact⟨e,by rw[h84,h1,eH,Sd.hist],h2,h3⟩
 · obtain⟨j,rfl⟩:∃j,n=j+2:=⟨n-2,by omega⟩
   have:=hk j (by omega)
   rw[er j,en j,h84,this.1,this.2];exact⟨rfl,rfl⟩
end
end
section
open Go.ChangeShapes Go.WideShapes Go.RowKit
theorem lOwn:ownKnob Tryz.prog.godebug=none:=by kernel_rfl
theorem lEt:Tryz.prog.globalNamed "errors.errorType" =some 0:=by kernel_rfl
theorem lRt:(Tryz.prog.cutTypes.find? (·.1 == "internal/reflectlite.rtype")).map (·.2)=some 211:=by kernel_rfl
theorem lSize:Tryz.prog.types.size=262:=by kernel_rfl
theorem lRow:((List.range 262).filter fun t=>Tryz.prog.rowNamed t [101,114,114,111,114])=[40]:=by kernel_rfl
abbrev laidL:List (String × DataW Unit):=[("errors.errorType",Rows.laid_errors_errorType)]
abbrev ErrType (W:World):Prop:=W.cell? ⟨0,0,none⟩=some (.iface 211 (.agg #[.pointer (some ⟨1,40,none⟩)]))
theorem handle_of_laid {W:World}(h:laidMetH Tryz.prog laidL W):ErrType W:=by
 have h':laidMet Tryz.prog [] W/\handlesMet Tryz.prog laidL W:=h
 obtain⟨name,u,ty,e1,e2,e3,e4,e5⟩:=h'.2 _ (List.mem_singleton.2 rfl)
 have en:name=[101,114,114,111,114]:=(Option.some.inj e1).symm
 subst en
 obtain rfl:=Option.some.inj (lRt.symm.trans e2)
 have hm:ty∈(List.range 262).filter fun t=>Tryz.prog.rowNamed t [101,114,114,111,114]:=List.mem_filter.2 ⟨List.mem_range.2 (by rw[<- lSize];exact e3),e4⟩
 rw[lRow]at hm
 obtain rfl:=List.mem_singleton.1 hm
 have hh:typeHandle Tryz.prog 40=.pointer (some ⟨1,40,none⟩):=by kernel_rfl
 rw[hh]at e5
 simpa using World.var?_cell lEt e5 0
noncomputable def laidWorld (os:Os):World:=
 let w0:=World.holding Tryz.prog os ⟨#[],#[],[]⟩
 { w0 with heap:=w0.heap.modify 0 fun
  |.cells _ t frozen=>.cells #[.iface 211 (.agg #[.pointer (some ⟨1,40,none⟩)])] t frozen
  |o=>o }
theorem laidWorld_met (os:Os) (args:Array Value):laidMetH Tryz.prog laidL ((laidWorld os).forCall (fun _ _=>0) ⟨#[],args,[]⟩).memory:=
 laidMetH_of_parts (laidMet_nil _ _) (by kernel_rfl)
end
section
open Go.ChangeShapes Go.WideShapes Go.Deep Go.ChangeAt
theorem blk_lt {w:World}{b o:Nat}{v:Value}(h:w.cell? ⟨b,o,none⟩=some v):b<w.heap.size:=by
 unfold World.cell? at h
 by_cases hb:b<w.heap.size
 · exact hb
 · simp[Array.getElem?_eq_none (Nat.le_of_not_lt hb)]at h
theorem one_int {H:Type}{enc:TypeId × Value->H}{w:World}{base:Nat}{spare:Nat->Bool}{held:Bool}{n:Nat}{t:TypeId}{k:IntKind}{v:Value}{y:Option (DataW H × List MemPlace)}(ht:Tryz.prog.underlying t=some (.int k))
 (h:DataW.trod enc Tryz.prog w base spare held n t [v]=y) (hy:y.isSome):∃z,v=.int k z/\(Lit.int k z).wf=true:=by
 obtain⟨x,rfl⟩:=Option.isSome_iff_exists.1 hy
 obtain⟨z,h1,-,h2⟩:=DataW.trod_int ht h
 simp at h1
 exact⟨z,h1,h2⟩
theorem u64_of_wf {x:Int}(h:(Lit.int .u64 x).wf=true):U64 x:=by
 have h2:(decide ((0:Int)<=x)&&decide (x<=18446744073709551615))=true:=h
 simp only[Bool.and_eq_true,decide_eq_true_eq]at h2
 exact⟨h2.1,by omega⟩
theorem cellsOp_of {H:Type}{enc:TypeId × Value->H}{w:World}{base:Nat}{spare:Nat->Bool}{held:Bool}{n:Nat}{cs:List Value}{y:Option (DataW H × List MemPlace)}
 (h:DataW.trod enc Tryz.prog w base spare held n 31 cs=y) (hy:y.isSome):
 ∃z0 z1 z2:Int,cs=[.int .i64 z0,.int .i64 z1,.int .i64 z2]/\(Lit.int .i64 z0).wf=true/\(Lit.int .i64 z1).wf=true/\(Lit.int .i64 z2).wf=true:=by
 obtain⟨x,rfl⟩:=Option.isSome_iff_exists.1 hy
 obtain⟨ys,n',-,-,hlen,hyl,hf⟩:=DataW.trod_struct Tryz.underlying31 h
 have hc:Tryz.prog.cellsOf 31=3:=by kernel_rfl
 have hc_int:Tryz.prog.cellsOf 3=1:=by kernel_rfl
 rw[hc]at hlen
 match cs,hlen with
 |[v0,v1,v2],_=>
  have hyl':ys.length=3:=hyl
  have g0:DataW.trod enc Tryz.prog w base spare held n' 3 (([v0,v1,v2].drop 0).take (Tryz.prog.cellsOf 3))=ys[0]?:=hf 0 _ rfl
  rw[hc_int]at g0
  dsimp only[List.drop,List.take]at g0
  have g1:DataW.trod enc Tryz.prog w base spare held n' 3 (([v0,v1,v2].drop 1).take (Tryz.prog.cellsOf 3))=ys[1]?:=hf 1 _ rfl
  rw[hc_int]at g1
  dsimp only[List.drop,List.take]at g1
  have g2:DataW.trod enc Tryz.prog w base spare held n' 3 (([v0,v1,v2].drop 2).take (Tryz.prog.cellsOf 3))=ys[2]?:=hf 2 _ rfl
  rw[hc_int]at g2
  dsimp only[List.drop,List.take]at g2
  obtain⟨z0,rfl,w0⟩:=one_int Tryz.underlying3 g0 (by simp[hyl'])
  obtain⟨z1,rfl,w1⟩:=one_int Tryz.underlying3 g1 (by simp[hyl'])
  obtain⟨z2,rfl,w2⟩:=one_int Tryz.underlying3 g2 (by simp[hyl'])
  exact⟨z0,z1,z2,rfl,w0,w1,w2⟩
theorem cellsMove_of {H:Type}{enc:TypeId × Value->H}{w:World}{base:Nat}{spare:Nat->Bool}{held:Bool}{n:Nat}{cs:List Value}{y:Option (DataW H × List MemPlace)}
 (h:DataW.trod enc Tryz.prog w base spare held n 54 cs=y) (hy:y.isSome):
 ∃z0 z1 z2 z3 z4 z5 z6:Int,cs=[.int .i64 z0,.int .i64 z1,.int .i64 z2,.int .i64 z3,.int .i64 z4,.int .i64 z5,.int .u64 z6]/\(Lit.int .i64 z0).wf=true/\(Lit.int .i64 z1).wf=true/\(Lit.int .i64 z2).wf=true/\(Lit.int .i64 z3).wf=true/\(Lit.int .i64 z4).wf=true/\(Lit.int .i64 z5).wf=true/\(Lit.int .u64 z6).wf=true:=by
 obtain⟨x,rfl⟩:=Option.isSome_iff_exists.1 hy
 obtain⟨ys,n',-,-,hlen,hyl,hf⟩:=DataW.trod_struct Tryz.underlying54 h
 have hc:Tryz.prog.cellsOf 54=7:=by kernel_rfl
 have hc_int:Tryz.prog.cellsOf 3=1:=by kernel_rfl
 have hc_Op:Tryz.prog.cellsOf 31=3:=by kernel_rfl
 have hc_u64:Tryz.prog.cellsOf 52=1:=by kernel_rfl
 rw[hc]at hlen
 match cs,hlen with
 |[v0,v1,v2,v3,v4,v5,v6],_=>
  have hyl':ys.length=5:=hyl
  have g0:DataW.trod enc Tryz.prog w base spare held n' 3 (([v0,v1,v2,v3,v4,v5,v6].drop 0).take (Tryz.prog.cellsOf 3))=ys[0]?:=hf 0 _ rfl
  rw[hc_int]at g0
  dsimp only[List.drop,List.take]at g0
  have g1:DataW.trod enc Tryz.prog w base spare held n' 3 (([v0,v1,v2,v3,v4,v5,v6].drop 1).take (Tryz.prog.cellsOf 3))=ys[1]?:=hf 1 _ rfl
  rw[hc_int]at g1
  dsimp only[List.drop,List.take]at g1
  have g2:DataW.trod enc Tryz.prog w base spare held n' 31 (([v0,v1,v2,v3,v4,v5,v6].drop 2).take (Tryz.prog.cellsOf 31))=ys[2]?:=hf 2 _ rfl
  rw[hc_Op]at g2
  dsimp only[List.drop,List.take]at g2
  have g3:DataW.trod enc Tryz.prog w base spare held n' 3 (([v0,v1,v2,v3,v4,v5,v6].drop 5).take (Tryz.prog.cellsOf 3))=ys[3]?:=hf 3 _ rfl
  rw[hc_int]at g3
  dsimp only[List.drop,List.take]at g3
  have g4:DataW.trod enc Tryz.prog w base spare held n' 52 (([v0,v1,v2,v3,v4,v5,v6].drop 6).take (Tryz.prog.cellsOf 52))=ys[4]?:=hf 4 _ rfl
  rw[hc_u64]at g4
  dsimp only[List.drop,List.take]at g4
  obtain⟨z0,rfl,w0⟩:=one_int Tryz.underlying3 g0 (by simp[hyl'])
  obtain⟨z1,rfl,w1⟩:=one_int Tryz.underlying3 g1 (by simp[hyl'])
  obtain⟨z2,z3,z4,he2,w2,w3,w4⟩:=cellsOp_of g2 (by simp[hyl'])
  simp only[List.cons.injEq,and_true]at he2
  obtain⟨rfl,rfl,rfl⟩:=he2
  obtain⟨z5,rfl,w5⟩:=one_int Tryz.underlying3 g3 (by simp[hyl'])
  obtain⟨z6,rfl,w6⟩:=one_int Tryz.underlying52 g4 (by simp[hyl'])
  exact⟨z0,z1,z2,z3,z4,z5,z6,rfl,w0,w1,w2,w3,w4,w5,w6⟩
theorem rowsMove_of {H:Type}{enc:TypeId × Value->H}{w:World}{base:Nat}{spare:Nat->Bool}{held:Bool}{a0:Option Addr}{len0 cap0:Nat}{d0:DataW H}{p0:List MemPlace}
 (h:DataW.Trod enc Tryz.prog w base spare held 22 (.slice a0 len0 cap0) d0 p0):∃f,MvIn w a0 len0 cap0 f:=by
 obtain⟨fuel,hf⟩:=h
 have hc:Tryz.prog.cellsOf 54=7:=by kernel_rfl
 rcases open_slice Tryz.underlying22 hf with⟨hcs,-⟩|⟨a,len,cap,m,n,D,Pl,hcs,hb,hl,hm,hmm,hx,hi⟩
 · simp[Value.cells]at hcs
   obtain⟨rfl,rfl,rfl⟩:=hcs
   exact⟨fun _ _=>0,⟨Nat.le_refl _,by omega,.inl rfl⟩,fun i hi=>absurd hi (Nat.not_lt_zero _)⟩
 · simp[Value.cells]at hcs
   obtain⟨rfl,rfl,rfl⟩:=hcs
   unfold maxLen at hm
   rw[hc]at hi
   have hi':∀i,i<len0->∃z:Nat->Int,∀j,j<7->w.cell? (a.add (i*7+j))=some (.int (mvK j) (z j))/\(Lit.int (mvK j) (z j)).wf=true:=by
    intro i hil
    obtain⟨cs,h1,h2⟩:=hi i (by rw[hmm];split<;>omega)
    obtain⟨z0,z1,z2,z3,z4,z5,z6,rfl,w0,w1,w2,w3,w4,w5,w6⟩:=cellsMove_of h2 (by rfl)
    obtain⟨-,-,hat⟩:=World.cells?_some h1
    refine⟨fun j=>[z0,z1,z2,z3,z4,z5,z6].getD j 0,fun j hj=>?_⟩
    rw[<- Go.Deep.add_add,hat j (by simpa using hj)]
    match j,hj with
    |0,_=>exact⟨rfl,w0⟩
    |1,_=>exact⟨rfl,w1⟩
    |2,_=>exact⟨rfl,w2⟩
    |3,_=>exact⟨rfl,w3⟩
    |4,_=>exact⟨rfl,w4⟩
    |5,_=>exact⟨rfl,w5⟩
    |6,_=>exact⟨rfl,w6⟩
   by_cases h0:len0=0
   · subst h0;exact⟨fun _ _=>0,⟨Nat.zero_le _,by omega,.inl rfl⟩,fun i hi=>absurd hi (Nat.not_lt_zero _)⟩
   · obtain⟨z,hz⟩:=hi' 0 (by omega)
     obtain⟨b,off,spot⟩:=a
     have hspot:spot=none:=by simpa [Addr.add] using World.cell?_spot (hz 0 (by omega)).1
     subst hspot
     have hadd:∀i,(⟨b,off,none⟩:Addr).add i=⟨b,off+i,none⟩:=fun i=>by
      unfold Addr.add;split
      · subst i;rfl
      · rfl
     classical
     let F:Nat->Nat->Int:=fun i=>if h:i<len0 then Classical.choose (hi' i h)else fun _=>0
     refine⟨F,⟨hl,by omega,.inr ⟨b,off,rfl,?_,fun j hj i hi0=>?_⟩⟩,fun j hj=>?_⟩
     · have:=(hz 0 (by omega)).1;rw[hadd]at this;exact blk_lt this
     · have hF:F j=Classical.choose (hi' j hj):=by simp only[F,dif_pos hj]
       obtain⟨c1,c2⟩:=Classical.choose_spec (hi' j hj) i hi0
       rw[<- hF]at c1 c2
       rw[hadd,<- Nat.add_assoc]at c1
       exact⟨c1,trivial⟩
     · have hF:F j=Classical.choose (hi' j hj):=by simp only[F,dif_pos hj]
       have c2:=(Classical.choose_spec (hi' j hj) 6 (by decide)).2
       rw[<- hF]at c2
       exact u64_of_wf c2
theorem aggOp_of {H:Type}{enc:TypeId × Value->H}{w:World}{base b0:Nat}{spare:Nat->Bool}{held:Bool}{v:Value}{d:DataW H}{p:List MemPlace}
 (hv:Value.okWide Tryz.prog w .any b0 31 v) (h:DataW.Trod enc Tryz.prog w base spare held 31 v d p):
 ∃z0 z1 z2:Int,v=.agg #[.int .i64 z0,.int .i64 z1,.int .i64 z2]/\(Lit.int .i64 z0).wf=true/\(Lit.int .i64 z1).wf=true/\(Lit.int .i64 z2).wf=true:=by
 obtain⟨cs,rfl,hs⟩:=okWide_struct Tryz.underlying31 hv
 obtain⟨fuel,hf⟩:=h
 obtain⟨z0,z1,z2,hc,w0,w1,w2⟩:=cellsOp_of hf (by rfl)
 refine⟨z0,z1,z2,?_,w0,w1,w2⟩
 have:cs.toList=[.int .i64 z0,.int .i64 z1,.int .i64 z2]:=hc
 rw[<- Array.toArray_toList (xs:=cs),this]
end
section
open Go.RowKit
def QiW:PCon:=⟨fun args=>match args with
 |[.a [.one (.v (.int .i64 x0)),.one (.v (.int .i64 x1)),.one (.v (.int .i64 x2)),.one (.v (.int .i64 x3)),.one (.v (.int .i64 x4)),.one (.v (.int .i64 x5)),.one (.v (.int .u64 x6))]]=>True
 |_=>False,fun args=>match args with
 |[.a (.one (.v (.int .i64 x0))::_)]=>sv (.bool (x0==4))
 |_=>sv undef,fun _=>none⟩
theorem clo4_con:(Con.pure QiW).holds Tryz.prog 29:=by
 refine Qz (AG:=[]) (Γ:=[]) Tryz.func29 rfl (by kernel_rfl) Qg Qd (fun _=>GamOk.nil _ _ _) QiW 400 ?_
 intro W args hp
 unfold QiW at hp;dsimp only at hp;split at hp
 case h_2=>exact hp.elim
 rename_i x0 x1 x2 x3 x4 x5 x6
 refine⟨rfl,?_⟩
 refine Qk (q:=SV.o (aB (x0==(4:Int)))=SV.o (aB (x0==(4:Int)))/\true=true) (by kernel_rfl) ?_
 exact⟨rfl,rfl⟩
structure MvS where
 a:Option Addr
 n:Nat
 c:Nat
 z:Nat->Nat->Int
structure Id4G (s:MvS) where
 i:Nat
 hi:i<=s.n
 h:∀j,j<i->s.z j 0≠4
def annId4 (s:MvS):Ann where
 σ:=Id4G s
 I g:=([(0,.o (.c (.r s.a s.n s.c s.n 7 mvK s.z))),(1,.o (.c (.v (.func (.func 29) #[] #[])))),(7,sv (.int .i64 s.n)),(8,sv (.int .i64 g.i))],[])
 dec g:=s.n-g.i
 pi _ _:=[]
 nz:=[]
end
section
section
variable {K:Int}{z z1:Sh}{g:Gh}{t:Nat}
structure Say2 (K:Int) (t:Nat) (z1 z3:Sh) (g:Gh):Prop where
 f:Fine K z3 g
 w:z3.w t={ z1.w t with said:=true,does:=3 }
 W:∀u,u≠t->z3.w u=z1.w u
 m:z3.m=putF (putF z1.m (2+2*t) (opW (z1.w t).k (z1.w t).key (z1.w t).x)) (3+2*t) ((z1.w t).tog+1)
 s:z3.s=z1.s
 deeds:z3.deeds=z1.deeds
 hist:z3.hist=z1.hist
 tog:z3.tog=z1.tog
 steps:z3.steps=z1.steps+2
theorem say2 (F1:Fine K z1 g) (ht:t<4) (d1:(z1.w t).does=1) (hs:z1.steps<90000000):Say2 K t z1 (z1.run t 2) g:=by
 have hth:=(F1.1.th t ht).th
 have n1:(z1.w t).does≠0:=by omega
 have F2:=Xd F1 ht (by omega) n1
 have g1:g.step z1 t=g:=by unfold Gh.step;rw[if_neg (by omega),if_neg (by omega)]
 rw[g1]at F2
 have p1:Qa (z1.wst t)=(⟨{ z1.w t with does:=2 },putF z1.m (2+2*(z1.w t).th) (opW (z1.w t).k (z1.w t).key (z1.w t).x),z1.s⟩,false):=by simp[Qa,sayP,Sh.wst,d1]
 have q1:=Qo (by omega) p1
 have w2:(z1.stepped t).w t={ z1.w t with does:=2 }:=by rw[q1];exact Qh _ _ _
 have W2:∀u,u≠t->(z1.stepped t).w u=z1.w u:=fun u hu=>by rw[q1];exact Qw _ _ hu
 have m2:(z1.stepped t).m=putF z1.m (2+2*t) (opW (z1.w t).k (z1.w t).key (z1.w t).x):=by rw[q1,hth];rfl
 have s2:(z1.stepped t).s=z1.s:=by rw[q1];rfl
 have dd2:(z1.stepped t).deeds=z1.deeds:=by rw[q1];rfl
 have hh2:(z1.stepped t).hist=z1.hist:=by rw[q1];rfl
 have st2:(z1.stepped t).steps=z1.steps+1:=by rw[q1];rfl
 have tg2:(z1.stepped t).tog=z1.tog:=by rw[q1];rfl
 have er:z1.run t 2=(z1.stepped t).step t:=by
  have:z1.step t=z1.stepped t:=if_neg n1
  show (z1.step t).step t=_;rw[this]
 rw[er]
 generalize hz2:z1.stepped t=z2 at *
 have d2:(z2.w t).does=2:=by rw[w2]
 have n2:(z2.w t).does≠0:=by omega
 have F3:=Xd F2 ht (by omega) n2
 have g2:g.step z2 t=g:=by unfold Gh.step;rw[if_neg (by omega),if_neg (by omega)]
 rw[g2]at F3
 have p2:Qa (z2.wst t)=(⟨{ z2.w t with said:=true,does:=3 },putF z2.m (3+2*(z2.w t).th) ((z2.w t).tog+1),z2.s⟩,false):=by simp[Qa,sayP,Sh.wst,d2]
 have q2:=Qo (by omega) p2
 have es:z2.step t=z2.stepped t:=if_neg n2
 rw[es]
 refine⟨F3,?_,fun u hu=>?_,?_,?_,?_,?_,?_,?_⟩
 · rw[q2];show setF _ _ _ t=_;rw[Qh,w2]
 · rw[q2];exact (Qw _ _ hu).trans (W2 u hu)
 · rw[q2]
   show putF z2.m (3+2*(z2.w t).th) ((z2.w t).tog+1)=_
   rw[w2,m2]
   show putF _ (3+2*(z1.w t).th) ((z1.w t).tog+1)=_
   rw[hth]
 · rw[q2];show z2.s=_;rw[s2]
 · rw[q2];show z2.deeds=_;rw[dd2]
 · rw[q2];show z2.hist=_;rw[hh2]
 · rw[q2];show z2.tog=_;rw[tg2]
 · rw[q2];show z2.steps+1=_;omega
theorem QjN (R:Rec) (ms mo:Nat->Int) {u:Nat}(h:askB R ms u=true):∀n,u<n->Qld ms mo u∈askL R ms mo n
 |0,hu=>absurd hu (Nat.not_lt_zero _)
 |n+1,hu=>by
  simp only[askL]
  by_cases e:u=n
  · subst e;rw[h];exact List.mem_append_right _ (List.mem_singleton.2 rfl)
  · exact List.mem_append_left _ (QjN R ms mo h n (by omega))
theorem Qnw (R:Rec) (ms mo:Nat->Int):∀n,∀a∈askL R ms mo n,a.t<n
 |0,a,ha=>by cases ha
 |n+1,a,ha=>by
  simp only[askL]at ha
  rcases List.mem_append.1 ha with ha|ha
  · exact Nat.lt_succ_of_lt (Qnw R ms mo n a ha)
  · cases hb:askB R ms n
    · rw[hb]at ha;cases ha
    · rw[hb]at ha
      obtain rfl:=List.mem_singleton.1 ha
      exact Nat.lt_succ_self n
theorem QjO (R:Rec) (ms mo:Nat->Int):∀n,(askL R ms mo n).Pairwise (fun a b=>a.t≠b.t)
 |0=>List.Pairwise.nil
 |n+1=>by
  simp only[askL]
  rw[List.pairwise_append]
  refine⟨QjO R ms mo n,?_,fun a ha b hb=>?_⟩
  · cases askB R ms n
    · exact List.Pairwise.nil
    · exact List.pairwise_singleton _ _
  · have:=Qnw R ms mo n a ha
    cases h:askB R ms n
    · rw[h]at hb;cases hb
    · rw[h]at hb
      obtain rfl:=List.mem_singleton.1 hb
      show a.t≠n;omega
theorem QpC:∀ {l:List Ask}{B:Int}{R:Rec},RecOK B R->AsksOK l->l.Pairwise (fun a b=>a.t≠b.t)->∀a∈l,Ql (bR R l).tog a.t=a.g
 |[],_,_,_,_,_,a,ha=>by cases ha
 |b::l,B,R,h,hk,hp,a,ha=>by
  have hb:=hk b List.mem_cons_self
  have h1:=Qcm h hb
  obtain⟨hp1,hp2⟩:=List.pairwise_cons.1 hp
  rcases List.mem_cons.1 ha with rfl|ha
  · have h2:=(Qd4 (m:=l) h1 hk.tail a.t hb.1 (fun c hc e=>hp1 c hc e.symm)).2.2
    have h3:=Qb3 h hb a.t hb.1
    rw[if_pos rfl]at h3
    exact h2.trans h3
  · exact QpC h1 hk.tail hp2 a ha
theorem Qnu (R:Rec) (ms:Nat->Int):∀n i,askN R ms i n<=2*n
 |0,i=>Nat.le_refl _
 |n+1,i=>by
  simp only[askN]
  have:=Qnu R ms n (i+1)
  cases askB R ms i
  · rw[cond_false];omega
  · rw[cond_true];omega
theorem Qnv (I:ShInv K z g):∀n,n<=4->AsksOK (askL g.R (fun u=>z.m (3+2*u)) (fun u=>z.m (2+2*u)) n)
 |0,_=>fun a ha=>by cases ha
 |n+1,hn=>fun a ha=>by
  simp only[askL]at ha
  rcases List.mem_append.1 ha with ha|ha
  · exact Qnv I n (by omega) a ha
  · cases h:askB g.R (fun u=>z.m (3+2*u)) n
    · rw[h]at ha;cases ha
    · rw[h]at ha
      obtain rfl:=List.mem_singleton.1 ha
      obtain⟨h0,h1⟩:=of_decide_eq_true h
      obtain⟨w1,w2,w3,w4⟩:=I.wants (u:=n) (by omega) h0 h1
      have T:=I.th n (by omega)
      have ho:=T.op w1
      have hb:=QeY ho
      have ht:=T.tog w1
      have hg:=T.tg01
      refine⟨by show n<4;omega,?_,?_⟩
      · show z.m (3+2*n)-1=0\/z.m (3+2*n)-1=1
        rw[w3];omega
      · show opOk (z.m (2+2*n)/281474976710656%65536) (z.m (2+2*n)/4294967296%65536) (z.m (2+2*n)%4294967296)=true
        rw[w4,hb.1,hb.2.1,hb.2.2.1];exact ho
structure Help4 (K:Int) (a b:Nat) (z y:Sh) (g:Gh):Prop where
 f:Fine K y g
 db:(y.w b).does=0
 da:(y.w a).does=3
 W:∀u,u≠a->u≠b->y.w u=z.w u
 m0:y.m 0=0
 bit:Ql g.Q.tog a=(y.w a).tog
 steps:y.steps<=z.steps+200
theorem help4 {a b:Nat}(F:Fine K z g) (ha:a<4) (hb:b<4) (hab:a≠b) (hi:∀u,u<4->(z.w u).does=0) {k key x k' key' x':Int}(ho:opOk k key x=true) (hq:opOk k' key' x'=true) (hs:z.steps<80000000):
 ∃n0 g4,n0<=87/\∀n,n0<=n->Help4 K a b z ((((z.call a k key x).call b k' key' x').run a 2).run b n) g4:=by
 have Ta:=F.1.th a ha
 have e1:z.call a k key x=z.called a k key x:=if_pos ⟨hi a ha,ho⟩
 have F1:=Qaw F ha k key x
 rw[e1]at F1 ⊢
 have wa1:(z.called a k key x).w a=Wk.call (z.w a).th k key x (1-z.tog a) false:=Qh _ _ _
 have W1:∀u,u≠a->(z.called a k key x).w u=z.w u:=fun u hu=>Qw _ _ hu
 have m1:(z.called a k key x).m=z.m:=rfl
 have s1:(z.called a k key x).steps=z.steps+1:=rfl
 generalize hy1:z.called a k key x=y1 at *
 have e2:y1.call b k' key' x'=y1.called b k' key' x':=if_pos ⟨by rw[W1 b (Ne.symm hab)];exact hi b hb,hq⟩
 have F2:=Qaw F1 hb k' key' x'
 rw[e2]at F2 ⊢
 have wb2:(y1.called b k' key' x').w b=Wk.call (y1.w b).th k' key' x' (1-y1.tog b) false:=Qh _ _ _
 have W2:∀u,u≠b->(y1.called b k' key' x').w u=y1.w u:=fun u hu=>Qw _ _ hu
 have m2:(y1.called b k' key' x').m=y1.m:=rfl
 have s2:(y1.called b k' key' x').steps=y1.steps+1:=rfl
 generalize hy2:y1.called b k' key' x'=y2 at *
 have A:=say2 F2 ha (by rw[W2 a hab,wa1];rfl) (by omega)
 generalize hy3:y2.run a 2=y3 at *
 have B:=say2 A.f hb (by rw[A.W b (Ne.symm hab),wb2];rfl) (by rw[A.steps];omega)
 have er:∀n,y3.run b (n+2)=(y3.run b 2).run b n:=fun n=>by rw[Nat.add_comm n 2];exact Qdk b 2 n y3
 generalize hy5:y3.run b 2=y5 at *
 have hm0:y5.m 0=0:=by
  rw[B.m,Qs _ _ (by omega),Qs _ _ (by omega),A.m,Qs _ _ (by omega),Qs _ _ (by omega),m2,m1]
  exact (by
   rcases F.1.lk with⟨h,-⟩|⟨u,hu,-,hh,-⟩
   · exact h
   · have:=hi u hu
     unfold Xn at hh;omega)
 have hma:y5.m (3+2*a)=1-z.tog a+1:=by
  rw[B.m,Qs _ _ (by omega),Qs _ _ (by omega),A.m,QV,W2 a hab,wa1];rfl
 have hdb:(y5.w b).does=3:=by rw[B.w]
 obtain⟨c,hc⟩:∃c:SoC,c=⟨fun u=>y5.m (3+2*u),fun u=>y5.m (2+2*u),y5.w,y5.tog,y5.hist,y5.deeds,g.R,g.V⟩:=⟨_,rfl⟩
 have S:Solo b c y5 g:=by
  subst hc
  exact⟨by omega,by omega,fun _ _=>rfl,fun _ _=>rfl,fun _=>hm0,fun _ _=>rfl,rfl,rfl,fun _=>⟨rfl,rfl,rfl⟩,fun h=>by omega,fun h=>by omega,fun h=>by omega,fun h=>by omega⟩
 have hl:left c (y5.w b)<=85:=by
  rw[Qoz c hdb]
  have:=Qnu c.R c.ms 4 0
  omega
 have hst5:y5.steps<=z.steps+6:=by rw[B.steps,A.steps];omega
 obtain⟨g',E,hk⟩:=QgE hb (left c (y5.w b)) B.f S rfl (by omega)
 refine⟨left c (y5.w b)+2,g',by omega,fun n hn=>?_⟩
 obtain⟨j,rfl⟩:∃j,n=j+2:=⟨n-2,by omega⟩
 rw[er j,(hk j (by omega)).1]
 have hst:=(QaR b (left c (y5.w b)) y5).2
 generalize hy6:y5.run b (left c (y5.w b))=y6 at *
 have wa6:y6.w a={ Wk.call (z.w a).th k key x (1-z.tog a) false with said:=true,does:=3 }:=by
  rw[E.W a hab,show c.W=y5.w by rw[hc],B.W a hab,A.w,W2 a hab,wa1]
 have hda:(y6.w a).does=3:=by rw[wa6]
 have hW:∀u,u≠a->u≠b->y6.w u=z.w u:=fun u h1 h2=>by
  rw[E.W u h2,show c.W=y5.w by rw[hc],B.W u h2,A.W u h1,W2 u h2,W1 u h1]
 have hno:∀u,u<4->¬(4<=(y6.w u).does/\(y6.w u).does<=15):=fun u hu hh=>by
  by_cases h1:u=a
  · subst h1;omega
  · by_cases h2:u=b
    · subst h2;have:=E.idle;omega
    · rw[hW u h1 h2,hi u hu]at hh;omega
 have hfree:y6.m 0=0:=by
  rcases E.fine.1.lk with⟨h,-⟩|⟨u,hu,-,hh,-⟩
  · exact h
  · exact absurd hh (hno u hu)
 have hV:g'.V=g'.dv:=by
  rcases E.fine.1.gl.vd with e|e
  · exact e
  · obtain⟨u,hu,h12,h14⟩:=E.fine.1.mid e
    exact absurd ⟨by omega,by omega⟩ (hno u hu)
 have hRQ:=(E.fine.1.gl.same hV).1
 refine⟨E.fine,E.idle,hda,hW,hfree,?_,by omega⟩
 have hB:askB c.R c.ms a=true:=by
  subst hc
  exact QhG F.1 ha (hi a ha) hma
 have hmem:=QjN c.R c.ms c.mo hB 4 ha
 have hok:AsksOK (askL c.R c.ms c.mo 4):=by subst hc;exact Qnv B.f.1 4 (Nat.le_refl _)
 have hbit:=QpC (R:=c.R) (B:=z.deeds.length) (by subst hc;exact F.1.gl.sumR.ok) hok (QjO c.R c.ms c.mo 4) _ hmem
 rw[<- hRQ,E.R,(Qns c.R (askL c.R c.ms c.mo 4) a).2.2,wa6]
 refine hbit.trans ?_
 show c.ms a-1=1-z.tog a
 rw[show c.ms a=y5.m (3+2*a) by rw[hc],hma];omega
theorem QmQ {y:Sh}(h:(y.w t).does≠11) (h2:(y.w t).does≠14):g.step y t=g:=by unfold Gh.step;rw[if_neg h,if_neg h2]
theorem Qje (S:Say2 K t z1 (z1.run t 2) g) (d1:(z1.w t).does=1):z1.ran t 2=2:=by
 have n1:(z1.w t).does≠0:=by omega
 have n2:((z1.step t).w t).does≠0:=fun e=>by
  have:=(Qce t 1 e).1
  have h3:((z1.run t 2).w t).does=3:=by rw[S.w]
  rw[show z1.run t 2=(z1.step t).run t 1 from rfl,this]at h3;omega
 show (if (z1.w t).does=0 then 0 else (if ((z1.step t).w t).does=0 then 0 else ((z1.step t).step t).ran t 0+1)+1)=2
 rw[if_neg n1,if_neg n2];rfl
structure Help6 (K:Int) (a t:Nat) (y y6:Sh) (g:Gh):Prop where
 f:Fine K y6 g
 dt:(y6.w t).does=4
 W:∀u,u≠t->y6.w u=y.w u
 m0:y6.m 0≠0
 s:y6.s=y.s
 deeds:y6.deeds=y.deeds
 steps:y6.steps<=y.steps+4
theorem help6 {y:Sh}{a:Nat}(F:Fine K y g) (ht:t<4) (dt:(y.w t).does=0) (m0:y.m 0=0) {k key x:Int}(ho:opOk k key x=true) (hs:y.steps<80000000):
 Help6 K a t y ((y.call t k key x).run t 3) g/\(y.call t k key x).ran t 3=3:=by
 have e1:y.call t k key x=y.called t k key x:=if_pos ⟨dt,ho⟩
 have F1:=Qaw F ht k key x
 rw[e1]at F1 ⊢
 have w1:(y.called t k key x).w t=Wk.call (y.w t).th k key x (1-y.tog t) false:=Qh _ _ _
 have W1:∀u,u≠t->(y.called t k key x).w u=y.w u:=fun u hu=>Qw _ _ hu
 have m1:(y.called t k key x).m=y.m:=rfl
 have s1:(y.called t k key x).s=y.s:=rfl
 have dd1:(y.called t k key x).deeds=y.deeds:=rfl
 have st1:(y.called t k key x).steps=y.steps+1:=rfl
 generalize hy1:y.called t k key x=y1 at *
 have d1:(y1.w t).does=1:=by rw[w1];rfl
 have S:=say2 F1 ht d1 (by omega)
 have hr2:=Qje S d1
 have er:y1.run t 3=(y1.run t 2).step t:=Qdk t 2 1 y1
 have en:y1.ran t 3=3:=by
  have n1:(y1.w t).does≠0:=by omega
  have n2:((y1.step t).w t).does≠0:=fun e=>by
   have:=(Qce t 1 e).1
   have h3:((y1.run t 2).w t).does=3:=by rw[S.w]
   rw[show y1.run t 2=(y1.step t).run t 1 from rfl,this]at h3;omega
  have n3:(((y1.step t).step t).w t).does≠0:=by
   have h3:((y1.run t 2).w t).does=3:=by rw[S.w]
   rw[show y1.run t 2=(y1.step t).step t from rfl]at h3;omega
  show (if (y1.w t).does=0 then 0 else (if ((y1.step t).w t).does=0 then 0 else (if (((y1.step t).step t).w t).does=0 then 0 else (((y1.step t).step t).step t).ran t 0+1)+1)+1)=3
  rw[if_neg n1,if_neg n2,if_neg n3];rfl
 refine⟨?_,en⟩
 rw[er]
 generalize hy2:y1.run t 2=y2 at *
 have d3:(y2.w t).does=3:=by rw[S.w]
 have n3:(y2.w t).does≠0:=by omega
 have hm2:y2.m 0=0:=by rw[S.m,Qs _ _ (by omega),Qs _ _ (by omega),m1];exact m0
 have F3:=Xd S.f ht (by rw[S.steps];omega) n3
 rw[QmQ (by omega) (by omega)]at F3
 have es:y2.step t=y2.stepped t:=if_neg n3
 have p2:Qa (y2.wst t)=(⟨{ y2.w t with does:=4 },putF y2.m 0 (((y2.w t).th:Int)+1),y2.s⟩,false):=by simp[Qa,sayP,Sh.wst,d3,hm2]
 have q2:=Qo (by omega) p2
 rw[es]
 refine⟨F3,by rw[q2];show (setF y2.w t { y2.w t with does:=4 } t).does=4;rw[Qh],fun u hu=>by rw[q2];exact (Qw _ _ hu).trans ((S.W u hu).trans (W1 u hu)),?_,by rw[q2];show y2.s=_;rw[S.s,s1],by rw[q2];show y2.deeds=_;rw[S.deeds,dd1],?_⟩
 · rw[q2]
   show putF y2.m 0 (((y2.w t).th:Int)+1) 0≠0
   rw[QV];omega
 · have:=(XP y2 t).2
   rw[es,S.steps]at this
   omega
theorem QgP {y:Sh}{a:Nat}(F:Fine K y g) (ha:a<4) (hs:y.steps<100000000) (h:(y.w a).does=17\/(y.w a).does=18\/(y.w a).does=19\/(y.w a).does=20):
 Fine K (y.step a) g/\((y.step a).w a).does=(y.w a).does+1/\(y.step a).m=y.m/\((y.step a).w a).tog=(y.w a).tog/\(((y.step a).w a).v=(y.w a).v\/((y.w a).does=17/\((y.step a).w a).v=y.m 1))/\(y.step a).steps=y.steps+1:=by
 have hn:(y.w a).does≠0:=by omega
 have F1:=Xd F ha hs hn
 rw[QmQ (by omega) (by omega)]at F1
 have es:y.step a=y.stepped a:=if_neg hn
 have hst:(y.stepped a).steps=y.steps+1:=by
  unfold Sh.stepped
  dsimp only
  split<;>split<;>rfl
 rw[<- es]at F1 hst
 refine⟨F1,?_⟩
 rw[Qho hn,Qmk hn]
 rcases h with h|h|h|h
 · have e:Qa (y.wst a)=(⟨{ y.w a with v:=y.m 1,does:=18 },y.m,y.s⟩,false):=by simp[Qa,QJ,Sh.wst,h]
   rw[e,h];exact⟨rfl,rfl,rfl,.inr ⟨rfl,rfl⟩,hst⟩
 · have e:Qa (y.wst a)=(⟨{ y.w a with seen:=putF (y.w a).seen 0 (y.s.now (Qp (y.w a).v+26)),does:=19 },y.m,y.s⟩,false):=by simp[Qa,QJ,Sh.wst,h]
   rw[e,h];exact⟨rfl,rfl,rfl,.inl rfl,hst⟩
 · have e:Qa (y.wst a)=(⟨{ y.w a with seen:=putF (y.w a).seen 1 (y.s.now (Qp (y.w a).v+18+(y.w a).th)),does:=20 },y.m,y.s⟩,false):=by simp[Qa,QJ,Sh.wst,h]
   rw[e,h];exact⟨rfl,rfl,rfl,.inl rfl,hst⟩
 · have e:Qa (y.wst a)=(⟨{ y.w a with seen:=putF (y.w a).seen 2 (y.s.now (Qp (y.w a).v+22+(y.w a).th)),does:=21 },y.m,y.s⟩,false):=by simp[Qa,QJ,Sh.wst,h]
   rw[e,h];exact⟨rfl,rfl,rfl,.inl rfl,hst⟩
theorem help7 {y:Sh}{a:Nat}(F:Fine K y g) (ha:a<4) (da:(y.w a).does=3) (m0:y.m 0≠0) (bit:Ql g.Q.tog a=(y.w a).tog) (hs:y.steps<80000000):((y.run a 6).w a).does=0:=by
 have hn:(y.w a).does≠0:=by omega
 have F1:=Xd F ha (by omega) hn
 rw[QmQ (by omega) (by omega)]at F1
 have es:y.step a=y.stepped a:=if_neg hn
 rw[<- es]at F1
 have e:Qa (y.wst a)=(⟨{ y.w a with does:=17 },y.m,y.s⟩,false):=by
  have h2:Qa (y.wst a)=(sayP (y.wst a),false):=by
   unfold Qa
   rw[if_neg (by exact hn),if_pos (by show (y.w a).does<=3;omega)]
  rw[h2,say3 _ da,if_neg (by exact m0)];rfl
 have w1:(y.step a).w a={ y.w a with does:=17 }:=by rw[Qho hn,e]
 have m1:(y.step a).m=y.m:=by rw[Qmk hn,e]
 have st1:=(XP y a).2
 have er:y.run a 6=((((((y.step a).step a).step a).step a).step a).step a):=rfl
 rw[er]
 generalize hy1:y.step a=y1 at *
 have d1:(y1.w a).does=17:=by rw[w1]
 obtain⟨F2,d2,m2,t2,v2,st2⟩:=QgP F1 ha (by omega) (.inl d1)
 have v2':=v2.resolve_left
 have hv2:((y1.step a).w a).v=y1.m 1:=by
  rcases v2 with v2|v2
  · have e2:Qa (y1.wst a)=(⟨{ y1.w a with v:=y1.m 1,does:=18 },y1.m,y1.s⟩,false):=by simp[Qa,QJ,Sh.wst,d1]
    rw[Qho (by omega),e2]
  · exact v2.2
 generalize hy2:y1.step a=y2 at *
 obtain⟨F3,d3,m3,t3,v3,st3⟩:=QgP F2 ha (by omega) (.inr (.inl (by omega)))
 have hv3:((y2.step a).w a).v=(y2.w a).v:=v3.resolve_right (fun h=>by omega)
 generalize hy3:y2.step a=y3 at *
 obtain⟨F4,d4,m4,t4,v4,st4⟩:=QgP F3 ha (by omega) (.inr (.inr (.inl (by omega))))
 have hv4:((y3.step a).w a).v=(y3.w a).v:=v4.resolve_right (fun h=>by omega)
 generalize hy4:y3.step a=y4 at *
 obtain⟨F5,d5,m5,t5,v5,st5⟩:=QgP F4 ha (by omega) (.inr (.inr (.inr (by omega))))
 have hv5:((y4.step a).w a).v=(y4.w a).v:=v5.resolve_right (fun h=>by omega)
 generalize hy5:y4.step a=y5 at *
 have d:(y5.w a).does=21:=by omega
 have hm:y5.m 1=(y5.w a).v:=by rw[hv5,hv4,hv3,hv2,m5,m4,m3,m2]
 have hdv:(y5.w a).v=g.dv:=by rw[<- hm];exact F5.1.gl.done
 have T:=F5.1.th a ha
 have hse:=T.lk2 (by omega) hdv
 have hn5:(y5.w a).does≠0:=by omega
 have h2:Qa (y5.wst a)=QJ (y5.wst a):=by
  unfold Qa
  rw[if_neg (by exact hn5),if_neg (by show ¬(y5.w a).does<=3;omega),if_neg (by show ¬(y5.w a).does<=7;omega),if_neg (by show ¬(y5.w a).does<=13;omega),if_neg (by show ¬(y5.w a).does<=16;omega)]
 rw[Qho hn5,h2,QfA _ d]
 have ht5:(y5.w a).tog=(y.w a).tog:=by rw[t5,t4,t3,t2,w1]
 rw[if_pos (by
  refine⟨hm,?_⟩
  show Ql ((y5.w a).seen 0) (y5.w a).th=(y5.w a).tog
  rw[hse,T.th,ht5];exact bit)]
end
end
section
section
variable {K:Int}{z:Sh}{g:Gh}
theorem help2 {a b:Nat}(F:Fine K z g) (ha:a<4) (hb:b<4) (hab:a≠b) (hi:∀u,u<4->(z.w u).does=0) {k key x k' key' x':Int}(ho:opOk k key x=true) (hq:opOk k' key' x'=true) (hs:z.steps<70000000):
 ((z.call a k key x).call b k' key' x').ran a 2=2/\((z.call a k key x).w b).does=0:=by
 have e1:z.call a k key x=z.called a k key x:=if_pos ⟨hi a ha,ho⟩
 have F1:=Qaw F ha k key x
 have wa1:((z.call a k key x).w a).does=1:=by rw[e1];exact congrArg Wk.does (Qh _ _ _)
 have wb1:((z.call a k key x).w b).does=0:=by rw[e1];exact (congrArg Wk.does (Qw _ _ (Ne.symm hab))).trans (hi b hb)
 have F2:=Qaw F1 hb k' key' x'
 have st1:=(Qaq z a k key x).2
 have st2:=(Qaq (z.call a k key x) b k' key' x').2
 have d1:(((z.call a k key x).call b k' key' x').w a).does=1:=by
  have e2:(z.call a k key x).call b k' key' x'=(z.call a k key x).called b k' key' x':=if_pos ⟨wb1,hq⟩
  rw[e2];exact (congrArg Wk.does (Qw _ _ hab)).trans wa1
 exact⟨Qje (say2 F2 ha d1 (by omega)) d1,wb1⟩
structure Helped (K:Int) (a b:Nat) (k key x:Int) (z Y1 Y2 Y3 Y4:Sh):Prop where
 f1:∃g,FinI K Y1 g
 b1:(Y1.w b).does=0
 f2:∃g,FinI K Y2 g
 r2:Y2.ran a 2=2
 f3:∃g,FinI K Y3 g
 f4:∃g,FinI K Y4 g
 b4:(Y4.w b).does=0
 s1:Y1.steps<=z.steps+1
 s2:Y2.steps<=z.steps+2
 s3:Y3.steps<=z.steps+4
 s4:Y4.steps<=z.steps+1004
 last:∀t,t<4->t≠a->t≠b->(Y4.w t).does=0/\∀Y5 Y6 Y7,Y5=Y4.call t k key x->Y6=Y5.run t 3->Y7=Y6.run a 6->(∃g,FinI K Y5 g)/\Y5.steps<=z.steps+1005/\Y5.ran t 3=3/\(∃g,FinI K Y6 g)/\Y6.steps<=z.steps+1008/\(Y7.w a).does=0/\Y7.s=Y4.s/\Y7.deeds=Y4.deeds
theorem helped {a b:Nat}(F:Fin2 K z g) (ha:a<4) (hb:b<4) (hab:a≠b) (hi:∀u,u<4->(z.w u).does=0) {k key x k' key' x':Int}(ho:opOk k key x=true) (hq:opOk k' key' x'=true) (hs:z.steps<70000000) {Y1 Y2 Y3 Y4:Sh}
 (h1:Y1=z.call a k key x) (h2:Y2=Y1.call b k' key' x') (h3:Y3=Y2.run a 2) (h4:Y4=Y3.run b 1000):Helped K a b k key x z Y1 Y2 Y3 Y4:=by
 obtain⟨r2,b1⟩:=help2 F.f ha hb hab hi ho hq hs
 obtain⟨n0,g4,hn0,hH⟩:=help4 F.f ha hb hab hi ho hq (by omega)
 have H:=hH 1000 (by omega)
 have I1:=QfL F.fi ha k key x
 have st1:=(Qaq z a k key x).2
 rw[<- h1]at r2 b1 H I1 st1
 have I2:=QfL I1 hb k' key' x'
 have st2:=(Qaq Y1 b k' key' x').2
 rw[<- h2]at r2 H I2 st2
 obtain⟨g3,I3⟩:=QfK ha 2 I2 (by omega)
 have st3:=(QaR a 2 Y2).2
 rw[<- h3]at H I3 st3
 obtain⟨g5,I4⟩:=QfK hb 1000 I3 (by omega)
 have st4:=(QaR b 1000 Y3).2
 rw[<- h4]at H I4 st4
 refine⟨⟨_,I1⟩,b1,⟨_,I2⟩,r2,⟨_,I3⟩,⟨_,I4⟩,H.db,by omega,by omega,by omega,by omega,fun t ht hta htb=>?_⟩
 have dt:(Y4.w t).does=0:=by rw[H.W t hta htb];exact hi t ht
 refine⟨dt,fun Y5 Y6 Y7 h5 h6 h7=>?_⟩
 obtain⟨J,r5⟩:=help6 (a:=a) H.f ht dt H.m0 ho (by omega)
 have I5:=QfL I4 ht k key x
 have st5:=(Qaq Y4 t k key x).2
 rw[<- h5]at J r5 I5 st5
 obtain⟨g6,I6⟩:=QfK ht 3 I5 (by omega)
 have st6:=(QaR t 3 Y5).2
 rw[<- h6]at J I6 st6
 have wa:Y6.w a=Y4.w a:=J.W a (Ne.symm hta)
 have da:(Y6.w a).does=3:=by rw[wa];exact H.da
 have bit:=H.bit
 rw[<- wa]at bit
 have e7:=help7 J.f ha da J.m0 bit (by omega)
 obtain⟨e8,e9⟩:=Qhn ha 6 I6 (.inl ⟨by omega,by omega⟩) J.m0 (by omega)
 rw[<- h7]at e7 e8 e9
 exact⟨⟨_,I5⟩,by omega,r5,⟨_,I6⟩,by omega,e7,e8.trans J.s,e9.trans J.deeds⟩
end
end
end Go.Proofs.YtinijfhoenajkaaGreatDoor
