/- What the proof leans on, gathered. -/
import Derived.Test.YtinijfhoenajkaaGreatDoorRows
import Derived.WalkKit
import Derived.Test.YtinijfhoenajkaaGreatDoorProg
import Derived.ChangeVars
import Derived.JoinedOf
import Derived.RowKit
import Derived.LaidLaws
import Derived.LaidHandle
import Derived.Stop.Joined
import Derived.Deep.Slices
import Derived.Deep.Fields
import Derived.ChangeSame
import Derived.ProofKit
import Derived.LaidEql
import Derived.Stop.Asserts
import Derived.RowKitTokens
import Derived.Test.YtinijfhoenajkaaGreatDoorZG4
namespace Go.Proofs.YtinijfhoenajkaaGreatDoor
set_option linter.unusedVariables false
set_option maxRecDepth 100000
set_option maxHeartbeats 8000000
section
open Go.RowKit
def Qnp (t:Nat):TCon Sh Unit Unit where
 pre z _:=True
 args _:=[.c (.v (.int .i64 t))]
 ok _ _ _:=True
 next z _ _:=z
 val _ z _ _:=sv (.int .i64 (z.w t).does)
 new _ _ _ _:=[]
 len:=0
abbrev Qa0 (t:Nat):MCon:=(Qnp t).low shM ShS.z ShS.good 17 7 Qcv
theorem Qim:(Con.mem (Qa0 0)).holds Tryz.prog 21:=by
 intro w0 S
 refine Qc (Γ:=[(46,.inl Tryz.f46 (Tryz.f46.body.getD .skip))]) (fun _=>noW) Tryz.func21 rfl (by kernel_rfl) Qg Qd (fun w S' _ _=>.cons ⟨by kernel_rfl,rfl,rfl⟩ (.nil _ _ _)) (Qa0 0) (fun _=>[]) (fun x0 h=>by cases h) (fun s ρ w _ _ _=>Qh w _) [] (fun _ M=>shAt M 0) 600 ?_
 rintro⟨⟨z,r,mh,ch,nh,zh,mv,cv,nv,zv⟩,⟨⟩⟩ W ⟨h0,-⟩ -
 refine⟨rfl,?_⟩
 refine Qj (q:=i04/\endN (Qa0 0) [] (fun (x:SV) (M:List SB)=>shAt M 0) (ShS.mk z r mh ch nh zh mv cv nv zv,PUnit.unit) (SV.o (aI (Sh.w z 0).2)) (shI (shD z.4 z.5 15 (List.length z.6) ch nh 16 (List.length z.7) cv nv) z.1 (Sh.s z) (stX (Sh.w z) r) (stA r) (stD r) (evB mh ch zh) (vdB mv cv zv) [])) (by kernel_rfl) ?_
 have h0:(⟨z,r,mh,ch,nh,zh,mv,cv,nv,zv⟩:ShS).good:=h0
 exact⟨⟨by decide,by decide⟩,Qk rfl ⟨⟨z,r,mh,ch,nh,zh,mv,cv,nv,zv⟩,()⟩ ⟨h0,rfl,trivial⟩ rfl rfl rfl⟩
theorem Qns:(Con.mem (Qa0 1)).holds Tryz.prog 21:=by
 intro w0 S
 refine Qc (Γ:=[(46,.inl Tryz.f46 (Tryz.f46.body.getD .skip))]) (fun _=>noW) Tryz.func21 rfl (by kernel_rfl) Qg Qd (fun w S' _ _=>.cons ⟨by kernel_rfl,rfl,rfl⟩ (.nil _ _ _)) (Qa0 1) (fun _=>[]) (fun x0 h=>by cases h) (fun s ρ w _ _ _=>Qh w _) [] (fun _ M=>shAt M 0) 600 ?_
 rintro⟨⟨z,r,mh,ch,nh,zh,mv,cv,nv,zv⟩,⟨⟩⟩ W ⟨h0,-⟩ -
 refine⟨rfl,?_⟩
 refine Qj (q:=(iR (1:Int) (4:Int))/\endN (Qa0 1) [] (fun (x:SV) (M:List SB)=>shAt M 0) (ShS.mk z r mh ch nh zh mv cv nv zv,PUnit.unit) (SV.o (aI (Sh.w z 1).2)) (shI (shD z.4 z.5 15 (List.length z.6) ch nh 16 (List.length z.7) cv nv) z.1 (Sh.s z) (stX (Sh.w z) r) (stA r) (stD r) (evB mh ch zh) (vdB mv cv zv) [])) (by kernel_rfl) ?_
 have h0:(⟨z,r,mh,ch,nh,zh,mv,cv,nv,zv⟩:ShS).good:=h0
 exact⟨⟨by decide,by decide⟩,Qk rfl ⟨⟨z,r,mh,ch,nh,zh,mv,cv,nv,zv⟩,()⟩ ⟨h0,rfl,trivial⟩ rfl rfl rfl⟩
theorem Qnr:(Con.mem (Qa0 2)).holds Tryz.prog 21:=by
 intro w0 S
 refine Qc (Γ:=[(46,.inl Tryz.f46 (Tryz.f46.body.getD .skip))]) (fun _=>noW) Tryz.func21 rfl (by kernel_rfl) Qg Qd (fun w S' _ _=>.cons ⟨by kernel_rfl,rfl,rfl⟩ (.nil _ _ _)) (Qa0 2) (fun _=>[]) (fun x0 h=>by cases h) (fun s ρ w _ _ _=>Qh w _) [] (fun _ M=>shAt M 0) 600 ?_
 rintro⟨⟨z,r,mh,ch,nh,zh,mv,cv,nv,zv⟩,⟨⟩⟩ W ⟨h0,-⟩ -
 refine⟨rfl,?_⟩
 refine Qj (q:=(iR (2:Int) (4:Int))/\endN (Qa0 2) [] (fun (x:SV) (M:List SB)=>shAt M 0) (ShS.mk z r mh ch nh zh mv cv nv zv,PUnit.unit) (SV.o (aI (Sh.w z 2).2)) (shI (shD z.4 z.5 15 (List.length z.6) ch nh 16 (List.length z.7) cv nv) z.1 (Sh.s z) (stX (Sh.w z) r) (stA r) (stD r) (evB mh ch zh) (vdB mv cv zv) [])) (by kernel_rfl) ?_
 have h0:(⟨z,r,mh,ch,nh,zh,mv,cv,nv,zv⟩:ShS).good:=h0
 exact⟨⟨by decide,by decide⟩,Qk rfl ⟨⟨z,r,mh,ch,nh,zh,mv,cv,nv,zv⟩,()⟩ ⟨h0,rfl,trivial⟩ rfl rfl rfl⟩
theorem Qnq:(Con.mem (Qa0 3)).holds Tryz.prog 21:=by
 intro w0 S
 refine Qc (Γ:=[(46,.inl Tryz.f46 (Tryz.f46.body.getD .skip))]) (fun _=>noW) Tryz.func21 rfl (by kernel_rfl) Qg Qd (fun w S' _ _=>.cons ⟨by kernel_rfl,rfl,rfl⟩ (.nil _ _ _)) (Qa0 3) (fun _=>[]) (fun x0 h=>by cases h) (fun s ρ w _ _ _=>Qh w _) [] (fun _ M=>shAt M 0) 600 ?_
 rintro⟨⟨z,r,mh,ch,nh,zh,mv,cv,nv,zv⟩,⟨⟩⟩ W ⟨h0,-⟩ -
 refine⟨rfl,?_⟩
 refine Qj (q:=(iR (3:Int) (4:Int))/\endN (Qa0 3) [] (fun (x:SV) (M:List SB)=>shAt M 0) (ShS.mk z r mh ch nh zh mv cv nv zv,PUnit.unit) (SV.o (aI (Sh.w z 3).2)) (shI (shD z.4 z.5 15 (List.length z.6) ch nh 16 (List.length z.7) cv nv) z.1 (Sh.s z) (stX (Sh.w z) r) (stA r) (stD r) (evB mh ch zh) (vdB mv cv zv) [])) (by kernel_rfl) ?_
 have h0:(⟨z,r,mh,ch,nh,zh,mv,cv,nv,zv⟩:ShS).good:=h0
 exact⟨⟨by decide,by decide⟩,Qk rfl ⟨⟨z,r,mh,ch,nh,zh,mv,cv,nv,zv⟩,()⟩ ⟨h0,rfl,trivial⟩ rfl rfl rfl⟩
def evC:TCon Sh Int Unit where
 pre z _:=True
 args a:=[.c (.v (.int .i64 a))]
 ok _ _ _:=True
 next z a _:=z.evict a
 val _ z a _:=.o (.c (.v (bif decide (0<=a/\a<9)then .nilIface else .iface 97 (.int .i64 2))))
 new _ _ _ _:=[]
 len:=0
abbrev Qq6:MCon:=evC.low shM ShS.z ShS.good 17 7 Qcv
theorem Qpl (z:Sh) (a:Int):z.evict a={ z with s:=bif decide (0<=a/\a<9)then z.s.evict a.toNat else z.s }:=by
 unfold Sh.evict
 by_cases h:0<=a/\a<9
 · rw[if_pos h,decide_eq_true h];rfl
 · rw[if_neg h,decide_eq_false h];rfl
theorem ev_con:(Con.mem Qq6).holds Tryz.prog 67:=by
 intro w0 S
 refine Qc (Γ:=[(66,.mem QbH)]) (fun _=>noW) Tryz.func67 rfl (by kernel_rfl) Qg Qd (fun w S' _ _=>.cons (QhL w S') (.nil _ _ _)) Qq6 (fun _=>[]) (fun x0 h=>by cases h) (fun s ρ w _ _ _=>Qh w _) [] (fun _ M=>shAt M 0) 600 ?_
 rintro⟨⟨z,r,mh,ch,nh,zh,mv,cv,nv,zv⟩,a⟩ W ⟨h0,-⟩ -
 refine⟨rfl,?_⟩
 refine Qj (q:=∃(s:QcM),[aP 2 0,aI a]=[aP 2 0,aI s.2]/\[stoB (Sh.s z)]=[stoB (QcM.s s)]/\True/\∀(x:Unit),True->endN Qq6 [] (fun (x:SV) (M:List SB)=>shAt M 0) (ShS.mk z r mh ch nh zh mv cv nv zv,a) (SV.o (SA.c (.v (bif decide (iR s.2 (9:Int))then Value.nilIface else Value.iface 97 (Value.int .i64 (2:Int)))))) (shI (shD z.4 z.5 15 (List.length z.6) ch nh 16 (List.length z.7) cv nv) z.1 (bif decide ((0:Int)<=QcM.l s/\QcM.l s<(9:Int))then Sto.evict (QcM.s s) (Int.toNat (QcM.l s))else QcM.s s) (stX (Sh.w z) r) (stA r) (stD r) (evB mh ch zh) (vdB mv cv zv) [])) (by kernel_rfl) ?_
 have h0:(⟨z,r,mh,ch,nh,zh,mv,cv,nv,zv⟩:ShS).good:=h0
 refine⟨⟨z.s,a⟩,rfl,rfl,trivial,fun _ _=>?_⟩
 exact Qk rfl ⟨⟨{ z with s:=bif decide (0<=a/\a<9)then z.s.evict a.toNat else z.s },r,mh,ch,nh,zh,mv,cv,nv,zv⟩,()⟩ ⟨⟨h0.w,h0.h1,h0.h2,h0.h,h0.v1,h0.v2,h0.v⟩,(Qpl z a).symm,trivial⟩ rfl rfl rfl
def recF (z:Sh) (n:Nat):Nat->Int:=fun j=>bif decide (j<n)then z.cur j else 0
def recC:TCon Sh Unit Unit where
 pre z _:=0<=z.s.now 0/\z.s.now 0<1000000000
 args _:=[]
 ok _ _ _:=True
 next z _ _:=z
 val _ z _ _:=.o (.a [.ints (.int .u64) 32 (recF z 32)])
 new _ _ _ _:=[]
 len:=0
abbrev Qny:MCon:=recC.low shM ShS.z ShS.good 17 7 Qcv
structure RecG where
 i:Nat
 hi:i<=32
def Qqa (s:ShS):Ann where
 σ:=RecG
 I g:=([(0,.o (.c (.p 0 0))),(2,.o (.c (.p 17 0))),(3,.o (.c (.p 18 0))),(4,sv (.int .i64 (Qq (s.z.s.now 0):Nat))),(13,sv (.int .i64 g.i))],shM s++[.cells [.ints (.int .u64) 32 (fun _=>0)] 60,.cells [.ints (.int .u64) 32 (recF s.z g.i)] 60])
 dec g:=32-g.i
 pi env M:=shAt M 0++[blkE env 2,blkE env 3]
 nz:=[]
theorem QqB:(Con.mem Qny).holds Tryz.prog 32:=by
 intro w0 S
 refine Qc (Γ:=[(26,.inl Tryz.f26 (Tryz.f26.body.getD .skip)),(49,.mem QL)]) (fun _=>noW) Tryz.func32 rfl (by kernel_rfl) Qg Qd (fun w S' _ _=>.cons ⟨by kernel_rfl,rfl,rfl⟩ (.cons (QO w S') (.nil _ _ _))) Qny (fun s=>[(32,[(0,Qqa s.1)])]) (fun x0 h=>by cases h) (fun s ρ w _ _ _=>Qh w _) [] (fun _ M=>shAt M 0) 600 ?_
 rintro⟨⟨z,r,mh,ch,nh,zh,mv,cv,nv,zv⟩,⟨⟩⟩ W ⟨h0,h1,h2⟩ -
 refine⟨rfl,?_⟩
 dsimp only
 refine Qj (q:=∃(s:Qv),[aP 2 0,aI 0]=[aP 2 0,aI s.2]/\[stoB (Sh.s z)]=[stoB (Qv.s s)]/\(iR s.2 (72:Int))/\∀(x:Unit),True->(2:Int)≠(0:Int)/\(8:Int)≠(0:Int)/\(∃(s0:Ann.σ (Qqa (ShS.mk z r mh ch nh zh mv cv nv zv))),(eS (aP 0 0) (aP 0 0)/\eS (aP 17 0) (aP 17 0)/\eS (aP 18 0) (aP 18 0)/\eS (aI (IntKind.wrap .i64 (IntKind.wrap .i64 ((1:Int)+IntKind.wrap .i64 (Int.tdiv (IntKind.wrap .i64 (Int.tmod (IntKind.wrap .i64 ((Qv.s s).1 (Int.toNat s.2))) (2:Int)*(32:Int))) (8:Int)))*(8:Int)))) (aI (↑(Qq ((Sh.s z).1 0)):Int))/\eS (aI 0) (aI ↑s0.1)/\True)/\(shI (shD z.4 z.5 15 (List.length z.6) ch nh 16 (List.length z.7) cv nv) z.1 (Qv.s s) (stX (Sh.w z) r) (stA r) (stD r) (evB mh ch zh) (vdB mv cv zv) [SB.cells [nU 32 zF] 60,SB.cells [nU 32 zF] 60])=(shI (shD z.4 z.5 15 (List.length z.6) ch nh 16 (List.length z.7) cv nv) z.1 (Sh.s z) (stX (Sh.w z) r) (stA r) (stD r) (evB mh ch zh) (vdB mv cv zv) [SB.cells [nU 32 zF] 60,SB.cells [nU 32 fun (j:Nat)=>bif decide (j<s0.1)then Sh.cur z j else (0:Int)] 60]))/\∀(s:RecG),bif decide ((↑s.1:Int)<(32:Int))then ∃(s_1:Qv),[aP 2 0,aI (IntKind.wrap .i64 ((↑(Qq ((Sh.s z).1 0)):Int)+(↑s.1:Int)))]=[aP 2 0,aI s_1.2]/\[stoB (Sh.s z)]=[stoB (Qv.s s_1)]/\(iR s_1.2 (72:Int))/\∀(x:Unit),True->(iR (↑s.1:Int) (32:Int))/\Int.toNat (↑s.1:Int)<32/\∃(s':RecG),((eS (aP 0 0) (aP 0 0)/\eS (aP 17 0) (aP 17 0)/\eS (aP 18 0) (aP 18 0)/\eS (aI (↑(Qq ((Sh.s z).1 0)):Int)) (aI (↑(Qq ((Sh.s z).1 0)):Int))/\eS (aI (IntKind.wrap .i64 ((↑s.1:Int)+(1:Int)))) (aI ↑s'.1)/\True)/\(shI (shD z.4 z.5 15 (List.length z.6) ch nh 16 (List.length z.7) cv nv) z.1 (Qv.s s_1) (stX (Sh.w z) r) (stA r) (stD r) (evB mh ch zh) (vdB mv cv zv) [SB.cells [nU 32 zF] 60,SB.cells [nU 32 fun (i:Nat)=>bif Nat.beq i (Int.toNat (↑s.1:Int))then (Qv.s s_1).1 (Int.toNat s_1.2)else bif decide (i<s.1)then Sh.cur z i else (0:Int)] 60])=(shI (shD z.4 z.5 15 (List.length z.6) ch nh 16 (List.length z.7) cv nv) z.1 (Sh.s z) (stX (Sh.w z) r) (stA r) (stD r) (evB mh ch zh) (vdB mv cv zv) [SB.cells [nU 32 zF] 60,SB.cells [nU 32 fun (j:Nat)=>bif decide (j<s'.1)then Sh.cur z j else (0:Int)] 60]))/\32-s'.1<32-s.1 else endN Qny [] (fun (x:SV) (M:List SB)=>shAt M 0) (ShS.mk z r mh ch nh zh mv cv nv zv,PUnit.unit) (SV.o (SA.a [nU 32 fun (j:Nat)=>bif decide (j<s.1)then Sh.cur z j else (0:Int)])) (shI (shD z.4 z.5 15 (List.length z.6) ch nh 16 (List.length z.7) cv nv) z.1 (Sh.s z) (stX (Sh.w z) r) (stA r) (stD r) (evB mh ch zh) (vdB mv cv zv) [SB.cells [nU 32 fun (j:Nat)=>bif decide (j<s.1)then Sh.cur z j else (0:Int)] 60,SB.cells [nU 32 fun (j:Nat)=>bif decide (j<s.1)then Sh.cur z j else (0:Int)] 60])) (by kernel_rfl) ?_
 have h0:(⟨z,r,mh,ch,nh,zh,mv,cv,nv,zv⟩:ShS).good:=h0
 have h1:0<=z.s.now 0:=h1
 have h2:z.s.now 0<1000000000:=h2
 refine⟨⟨z.s,0⟩,rfl,rfl,⟨(by decide:(0:Int)<=0),(by decide:(0:Int)<72)⟩,fun _ _=>?_⟩
 have eb:IntKind.wrap .i64 (IntKind.wrap .i64 (1+IntKind.wrap .i64 (Int.tdiv (IntKind.wrap .i64 (Int.tmod (IntKind.wrap .i64 (z.s.now (Int.toNat 0))) 2*32)) 8))*8)=((Qq (z.s.now 0):Nat):Int):=by
  rw[show Int.toNat 0=0 from rfl,QB (x:=z.s.now 0) (by omega) (by omega)]
  unfold Qq
  rw[Int.tmod_eq_emod_of_nonneg h1]
  rcases (show z.s.now 0%2=0\/z.s.now 0%2=1 by omega)with h|h<;>(rw[h];rfl)
 have hb:=Qeb (z.s.now 0)
 refine⟨by decide,by decide,⟨⟨0,by decide⟩,⟨rfl,rfl,rfl,svI eb,rfl,trivial⟩,?_⟩,?_⟩
 · have:recF z 0=fun _=>0:=funext fun j=>by unfold recF;rw[decide_eq_false (Nat.not_lt_zero _)];rfl
   exact (congrArg (fun f=>shM ⟨z,r,mh,ch,nh,zh,mv,cv,nv,zv⟩++[SB.cells [.ints (.int .u64) 32 (fun _=>0)] 60,SB.cells [.ints (.int .u64) 32 f] 60]) this.symm)
 · rintro⟨i,hi⟩
   dsimp only at hi ⊢
   refine Qr (fun hlt=>?_) (fun hge=>?_)
   · have ea:IntKind.wrap .i64 (((Qq (z.s.now 0):Nat):Int)+(i:Int))=((Qq (z.s.now 0)+i:Nat):Int):=by rw[QB (by omega) (by omega)];omega
     rw[ea]
     refine⟨⟨z.s,((Qq (z.s.now 0)+i:Nat):Int)⟩,rfl,rfl,⟨(by omega:(0:Int)<=((Qq (z.s.now 0)+i:Nat):Int)),(by omega:((Qq (z.s.now 0)+i:Nat):Int)<72)⟩,fun _ _=>⟨⟨by omega,by omega⟩,by omega,⟨i+1,by omega⟩,⟨⟨rfl,rfl,rfl,rfl,svI (sucI (by omega)),trivial⟩,?_⟩,by dsimp only;omega⟩⟩
     have:(fun j=>bif Nat.beq j i then z.s.now (((Qq (z.s.now 0)+i:Nat):Int)).toNat else recF z i j)=recF z (i+1):=funext fun j=>by
      unfold recF Sh.cur
      by_cases e:j=i
      · subst e;rw[Nat.beq_refl,decide_eq_true (show j<j+1 by omega),Int.toNat_natCast];rfl
      · rw[show Nat.beq j i=false from nbeqF e,show decide (j<i+1)=decide (j<i)from decide_eq_decide.2 (by omega)];rfl
     exact (congrArg (fun f=>shM ⟨z,r,mh,ch,nh,zh,mv,cv,nv,zv⟩++[SB.cells [.ints (.int .u64) 32 (fun _=>0)] 60,SB.cells [.ints (.int .u64) 32 f] 60]) this)
   · obtain rfl:i=32:=by omega
     exact Qk rfl ⟨⟨z,r,mh,ch,nh,zh,mv,cv,nv,zv⟩,()⟩ ⟨h0,rfl,trivial⟩ rfl rfl rfl
structure RwR where
 m:Nat
 c:Nat
 nn:Bool
 z:Nat->Nat->Int
def ddsC:TCon Sh Unit RwR where
 pre z _:=z.deeds.length<=1000000000
 args _:=[]
 ok z _ r:=(z.deeds.length<=r.m/\r.m<=r.c)/\IsR 6 Dd.at Dd.nil r.z (z.deeds.map Vd.d)
 next z _ _:=z
 val n z _ r:=.o (.c (.so n 0 6 z.deeds.length r.c r.nn))
 new _ _ _ r:=[wkD r.m r.c r.z]
 len:=1
abbrev QnB:MCon:=ddsC.low shM ShS.z ShS.good 17 7 Qcv
structure DdsG (z:Sh) where
 i:Nat
 ln:Nat
 r:RwR
 hi:i<=z.deeds.length
 hl:i=ln
 h1:i<=r.m
 h2:r.m<=r.c
 h:IsR 6 Dd.at Dd.nil r.z ((z.deeds.take i).map Vd.d)
abbrev nzDd (t:Nat):NZ:=.tmp t 65 6 [.int .i64,.int .i64,.int .i64,.int .i64,.int .i64,.int .i64]
def Qqe (s:ShS):Ann where
 σ:=DdsG s.z
 I g:=([(0,.o (.c (.p 0 0))),(3,.o (.c (.so 17 0 6 g.ln g.r.c g.r.nn))),(9,.o (.c (.so 16 0 7 s.z.deeds.length s.cv s.nv))),(10,sv (.int .i64 s.z.deeds.length)),(11,sv (.int .i64 g.i))],shM s++[wkD g.r.m g.r.c g.r.z])
 dec g:=s.z.deeds.length-g.i
 pi env M:=shAt M 0++[blkE env 3]
 nz:=[nzDd 3]
theorem Qq0:(Con.mem QnB).holds Tryz.prog 27:=by
 intro w0 S
 refine Qc (Γ:=[]) (fun _=>noW) Tryz.func27 rfl (by kernel_rfl) Qg Qd (fun w S' _ _=>.nil _ _ _) QnB (fun s=>[(27,[(0,Qqe s.1)])]) (fun x0 h=>by cases h) (fun s ρ w _ _ _=>Qh w _) [] (fun x M=>shAt M 0++(match x with
  |.o (.c (.so b _ _ _ _ _))=>[b]
  |_=>[])) 600 ?_
 rintro⟨⟨z,r,mh,ch,nh,zh,mv,cv,nv,zv⟩,⟨⟩⟩ W ⟨h0,h1⟩ -
 refine⟨rfl,?_⟩
 dsimp only
 refine Qj (q:=List.length z.7<=cv/\(∃(s0:Ann.σ (Qqe (ShS.mk z r mh ch nh zh mv cv nv zv))),(eS (aP 0 0) (aP 0 0)/\eS (SA.c (.so 17 0 6 0 0 false)) (SA.c (.so 17 0 6 s0.2 (DdsG.r s0).2 (DdsG.r s0).3))/\eS (SA.c (.so 16 0 7 (List.length z.7) cv nv)) (SA.c (.so 16 0 7 (List.length z.7) cv nv))/\eS (aI (↑(List.length z.7):Int)) (aI (↑(List.length z.7):Int))/\eS (aI 0) (aI ↑s0.1)/\True)/\(shI (shD z.4 z.5 15 (List.length z.6) ch nh 16 (List.length z.7) cv nv) z.1 (Sh.s z) (stX (Sh.w z) r) (stA r) (stD r) (evB mh ch zh) (vdB mv cv zv) [wd0])=(shI (shD z.4 z.5 15 (List.length z.6) ch nh 16 (List.length z.7) cv nv) z.1 (Sh.s z) (stX (Sh.w z) r) (stA r) (stD r) (evB mh ch zh) (vdB mv cv zv) [wkD (DdsG.r s0).1 (DdsG.r s0).2 (DdsG.r s0).4]))/\∀(s:DdsG z),bif decide ((↑s.1:Int)<(↑(List.length z.7):Int))then ((0:Int)<=(↑s.1:Int)/\(↑s.1:Int)<(↑(List.length z.7):Int)/\0+List.length z.7<=cv)/\0+Int.toNat (↑s.1:Int)<mv/\((s.2<=(DdsG.r s).1/\(DdsG.r s).2=(DdsG.r s).2)/\(1<=1/\1=1)/\s.2+1<=68719476736)/\∀(c:Nat),s.2+1<=c->∃(s':DdsG z),((eS (aP 0 0) (aP 0 0)/\eS (SA.c (.so 20 0 6 (s.2+1) c (DdsG.r s).3)) (SA.c (.so 20 0 6 s'.2 (DdsG.r s').2 (DdsG.r s').3))/\eS (SA.c (.so 16 0 7 (List.length z.7) cv nv)) (SA.c (.so 16 0 7 (List.length z.7) cv nv))/\eS (aI (↑(List.length z.7):Int)) (aI (↑(List.length z.7):Int))/\eS (aI (IntKind.wrap .i64 ((↑s.1:Int)+(1:Int)))) (aI ↑s'.1)/\True)/\(shI (shD z.4 z.5 15 (List.length z.6) ch nh 16 (List.length z.7) cv nv) z.1 (Sh.s z) (stX (Sh.w z) r) (stA r) (stD r) (evB mh ch zh) (vdB mv cv zv) [wkD (s.2+1) c fun (i j:Nat)=>bif Nat.ble (i+1) s.2 then (DdsG.r s).4 i j else match List.get?Internal (match List.get?Internal [[zv (0+Int.toNat (↑s.1:Int)) 1,zv (0+Int.toNat (↑s.1:Int)) 2,zv (0+Int.toNat (↑s.1:Int)) 3,zv (0+Int.toNat (↑s.1:Int)) 4,zv (0+Int.toNat (↑s.1:Int)) 5,zv (0+Int.toNat (↑s.1:Int)) 6]] (0+(i-s.2))with|some x=>x|none=>[]) j with|some x=>x|none=>(0:Int)])=(shI (shD z.4 z.5 15 (List.length z.6) ch nh 16 (List.length z.7) cv nv) z.1 (Sh.s z) (stX (Sh.w z) r) (stA r) (stD r) (evB mh ch zh) (vdB mv cv zv) [wkD (DdsG.r s').1 (DdsG.r s').2 (DdsG.r s').4]))/\List.length z.7-s'.1<List.length z.7-s.1 else endN QnB [] (fun (x:SV) (M:List SB)=>shAt M 0++match x with|SV.o (SA.c (.so b lo sz n c nn))=>[b]|x=>[]) (ShS.mk z r mh ch nh zh mv cv nv zv,PUnit.unit) (SV.o (SA.c (.so 17 0 6 s.2 (DdsG.r s).2 (DdsG.r s).3))) (shI (shD z.4 z.5 15 (List.length z.6) ch nh 16 (List.length z.7) cv nv) z.1 (Sh.s z) (stX (Sh.w z) r) (stA r) (stD r) (evB mh ch zh) (vdB mv cv zv) [wkD (DdsG.r s).1 (DdsG.r s).2 (DdsG.r s).4])) (by kernel_rfl) ?_
 have h0:(⟨z,r,mh,ch,nh,zh,mv,cv,nv,zv⟩:ShS).good:=h0
 have h1:z.deeds.length<=1000000000:=h1
 have hv1:=h0.v1
 have hv2:=h0.v2
 have hzv:=h0.v
 dsimp only at hv1 hv2 hzv
 refine⟨by omega,⟨⟨0,0,⟨0,0,false,fun _ _=>0⟩,Nat.zero_le _,rfl,Nat.le_refl _,Nat.le_refl _,fun i hi=>absurd hi (Nat.not_lt_zero _)⟩,⟨rfl,rfl,rfl,rfl,rfl,trivial⟩,rfl⟩,?_⟩
 rintro⟨i,ln,⟨m,c,nn,zz⟩,hi,hl,g1,g2,gz⟩
 dsimp only at hi hl g1 g2 gz ⊢
 subst hl
 refine Qr (fun hlt=>?_) (fun hge=>?_)
 · have hlt':i<z.deeds.length:=by omega
   have hx:(z.deeds.take (i+1)).map Vd.d=(z.deeds.take i).map Vd.d++[(z.deeds.getD i Vd.nil).d]:=by
    rw[List.take_add_one,List.getElem?_eq_getElem hlt',Option.toList_some,List.map_append,List.getD_eq_getElem?_getD,List.getElem?_eq_getElem hlt'];rfl
   have hlen:((z.deeds.take i).map Vd.d).length=i:=by rw[List.length_map,List.length_take];omega
   refine⟨⟨by omega,by omega,by omega⟩,by omega,⟨⟨g1,rfl⟩,⟨Nat.le_refl _,rfl⟩,by omega⟩,fun c' hc'=>⟨⟨i+1,i+1,⟨i+1,c',nn,_⟩,hlt',rfl,Nat.le_refl _,hc',?_⟩,⟨⟨rfl,rfl,rfl,rfl,svI (sucI (by omega)),trivial⟩,rfl⟩,by dsimp only;omega⟩⟩
   rw[hx]
   refine gz.snoc (fun j hj k _=>catT (by omega)) (fun j hj=>?_)
   rw[hlen]
   refine catF.trans ?_
   rw[Nat.sub_self,Int.toNat_natCast,Nat.zero_add]
   have hq:=hzv i hlt'
   match j,hj with
   |0,_=>exact hq 1 (by decide)
   |1,_=>exact hq 2 (by decide)
   |2,_=>exact hq 3 (by decide)
   |3,_=>exact hq 4 (by decide)
   |4,_=>exact hq 5 (by decide)
   |5,_=>exact hq 6 (by decide)
 · obtain rfl:i=z.deeds.length:=by omega
   rw[List.take_length]at gz
   exact Qk rfl ⟨⟨z,r,mh,ch,nh,zh,mv,cv,nv,zv⟩,⟨m,c,nn,zz⟩⟩ ⟨h0,rfl,⟨g1,g2⟩,gz⟩ rfl rfl rfl
def hisC:TCon Sh Unit RwR where
 pre z _:=z.hist.length<=1000000000
 args _:=[]
 ok z _ r:=(z.hist.length<=r.m/\r.m<=r.c)/\IsE r.z z.hist
 next z _ _:=z
 val n z _ r:=.o (.c (.so n 0 9 z.hist.length r.c r.nn))
 new _ _ _ r:=[evB r.m r.c r.z]
 len:=1
abbrev QnA:MCon:=hisC.low shM ShS.z ShS.good 17 7 Qcv
theorem QqS:(Con.mem QnA).holds Tryz.prog 19:=by
 intro w0 S
 refine Qc (Γ:=[]) (fun _=>noW) Tryz.func19 rfl (by kernel_rfl) Qg Qd (fun w S' _ _=>.nil _ _ _) QnA (fun s=>[]) (fun x0 h=>by cases h) (fun s ρ w _ _ _=>Qh w _) [] (fun x M=>shAt M 0++(match x with
  |.o (.c (.so b _ _ _ _ _))=>[b]
  |_=>[])) 600 ?_
 rintro⟨⟨z,r,mh,ch,nh,zh,mv,cv,nv,zv⟩,⟨⟩⟩ W ⟨h0,h1⟩ -
 refine⟨rfl,?_⟩
 refine Qj (q:=(True/\(0+List.length z.6<=mh/\ch=ch)/\0+List.length z.6<=68719476736)/\∀(c:Nat),0+List.length z.6<=c->endN QnA [] (fun (x:SV) (M:List SB)=>shAt M 0++match x with|SV.o (SA.c (.so b lo sz n c nn))=>[b]|x=>[]) (ShS.mk z r mh ch nh zh mv cv nv zv,PUnit.unit) (SV.o (SA.c (.so 17 0 9 (0+List.length z.6) c false))) (shI (shD z.4 z.5 15 (List.length z.6) ch nh 16 (List.length z.7) cv nv) z.1 (Sh.s z) (stX (Sh.w z) r) (stA r) (stD r) (evB mh ch zh) (vdB mv cv zv) [evB (0+List.length z.6) c fun (i j:Nat)=>zh (0+i) j])) (by kernel_rfl) ?_
 have h0:(⟨z,r,mh,ch,nh,zh,mv,cv,nv,zv⟩:ShS).good:=h0
 have h1:z.hist.length<=1000000000:=h1
 have hh1:=h0.h1
 have hh2:=h0.h2
 have hzh:=h0.h
 dsimp only at hh1 hh2 hzh
 refine⟨⟨trivial,⟨by omega,rfl⟩,by omega⟩,fun c hc=>?_⟩
 rw[Nat.zero_add]at hc ⊢
 refine Qk rfl ⟨⟨z,r,mh,ch,nh,zh,mv,cv,nv,zv⟩,⟨z.hist.length,c,false,_⟩⟩ ⟨h0,rfl,⟨Nat.le_refl _,hc⟩,hzh.sub (fun j hj k _=>?_)⟩ rfl rfl rfl
 show zh (0+j) k=zh j k
 rw[Nat.zero_add]
def oneC (t:Nat):TCon Sh Unit Unit where
 pre z _:=True
 args _:=[.c (.v (.int .i64 t))]
 ok _ _ _:=True
 next z _ _:=z
 val n z _ _:=.t [.c (.p (bif n.beq 17 then 3+t else 0) 0),.c (.v .nilIface)]
 new _ _ _ _:=[]
 len:=0
abbrev Qd2 (t:Nat):MCon:=(oneC t).low shM ShS.z ShS.good 17 7 Qcv
def QeM (n0:Nat) (n1:Nat) (z:Sh) (r:Nat->WkR) (mh:Nat) (ch:Nat) (nh:Bool) (zh:Nat->Nat->Int) (mv:Nat) (cv:Nat) (nv:Bool) (zv:Nat->Nat->Int):Prop:=(iR (n0:Int) (4:Int))/\endN (Qd2 n0) [] (fun (x:SV) (M:List SB)=>shAt M 0) (ShS.mk z r mh ch nh zh mv cv nv zv,PUnit.unit) (SV.t [aP n1 0,SA.c (.v Value.nilIface)]) (shI (shD z.4 z.5 15 (List.length z.6) ch nh 16 (List.length z.7) cv nv) z.1 (Sh.s z) (stX (Sh.w z) r) (stA r) (stD r) (evB mh ch zh) (vdB mv cv zv) [])
theorem QjC:(Con.mem (Qd2 0)).holds Tryz.prog 46:=by
 intro w0 S
 refine Qc (Γ:=[]) (fun _=>noW) Tryz.func46 rfl (by kernel_rfl) Qg Qd (fun w S' _ _=>.nil _ _ _) (Qd2 0) (fun _=>[]) (fun x0 h=>by cases h) (fun s ρ w _ _ _=>Qh w _) [] (fun _ M=>shAt M 0) 600 ?_
 rintro⟨⟨z,r,mh,ch,nh,zh,mv,cv,nv,zv⟩,⟨⟩⟩ W ⟨h0,-⟩ -
 refine⟨rfl,?_⟩
 refine Qj (q:=QeM 0 3 z r mh ch nh zh mv cv nv zv) (by kernel_rfl) ?_
 unfold QeM
 have h0:(⟨z,r,mh,ch,nh,zh,mv,cv,nv,zv⟩:ShS).good:=h0
 exact⟨⟨by decide,by decide⟩,Qk rfl ⟨⟨z,r,mh,ch,nh,zh,mv,cv,nv,zv⟩,()⟩ ⟨h0,rfl,trivial⟩ rfl rfl rfl⟩
theorem QoJ:(Con.mem (Qd2 1)).holds Tryz.prog 46:=by
 intro w0 S
 refine Qc (Γ:=[]) (fun _=>noW) Tryz.func46 rfl (by kernel_rfl) Qg Qd (fun w S' _ _=>.nil _ _ _) (Qd2 1) (fun _=>[]) (fun x0 h=>by cases h) (fun s ρ w _ _ _=>Qh w _) [] (fun _ M=>shAt M 0) 600 ?_
 rintro⟨⟨z,r,mh,ch,nh,zh,mv,cv,nv,zv⟩,⟨⟩⟩ W ⟨h0,-⟩ -
 refine⟨rfl,?_⟩
 refine Qj (q:=QeM 1 4 z r mh ch nh zh mv cv nv zv) (by kernel_rfl) ?_
 unfold QeM
 have h0:(⟨z,r,mh,ch,nh,zh,mv,cv,nv,zv⟩:ShS).good:=h0
 exact⟨⟨by decide,by decide⟩,Qk rfl ⟨⟨z,r,mh,ch,nh,zh,mv,cv,nv,zv⟩,()⟩ ⟨h0,rfl,trivial⟩ rfl rfl rfl⟩
theorem QoI:(Con.mem (Qd2 2)).holds Tryz.prog 46:=by
 intro w0 S
 refine Qc (Γ:=[]) (fun _=>noW) Tryz.func46 rfl (by kernel_rfl) Qg Qd (fun w S' _ _=>.nil _ _ _) (Qd2 2) (fun _=>[]) (fun x0 h=>by cases h) (fun s ρ w _ _ _=>Qh w _) [] (fun _ M=>shAt M 0) 600 ?_
 rintro⟨⟨z,r,mh,ch,nh,zh,mv,cv,nv,zv⟩,⟨⟩⟩ W ⟨h0,-⟩ -
 refine⟨rfl,?_⟩
 refine Qj (q:=QeM 2 5 z r mh ch nh zh mv cv nv zv) (by kernel_rfl) ?_
 unfold QeM
 have h0:(⟨z,r,mh,ch,nh,zh,mv,cv,nv,zv⟩:ShS).good:=h0
 exact⟨⟨by decide,by decide⟩,Qk rfl ⟨⟨z,r,mh,ch,nh,zh,mv,cv,nv,zv⟩,()⟩ ⟨h0,rfl,trivial⟩ rfl rfl rfl⟩
theorem QoH:(Con.mem (Qd2 3)).holds Tryz.prog 46:=by
 intro w0 S
 refine Qc (Γ:=[]) (fun _=>noW) Tryz.func46 rfl (by kernel_rfl) Qg Qd (fun w S' _ _=>.nil _ _ _) (Qd2 3) (fun _=>[]) (fun x0 h=>by cases h) (fun s ρ w _ _ _=>Qh w _) [] (fun _ M=>shAt M 0) 600 ?_
 rintro⟨⟨z,r,mh,ch,nh,zh,mv,cv,nv,zv⟩,⟨⟩⟩ W ⟨h0,-⟩ -
 refine⟨rfl,?_⟩
 refine Qj (q:=QeM 3 6 z r mh ch nh zh mv cv nv zv) (by kernel_rfl) ?_
 unfold QeM
 have h0:(⟨z,r,mh,ch,nh,zh,mv,cv,nv,zv⟩:ShS).good:=h0
 exact⟨⟨by decide,by decide⟩,Qk rfl ⟨⟨z,r,mh,ch,nh,zh,mv,cv,nv,zv⟩,()⟩ ⟨h0,rfl,trivial⟩ rfl rfl rfl⟩
theorem QqF (v:Value) (a:Int) (h:a<0\/4<=a) (w:World):Calls Tryz.prog 46 #[v,.int .i64 a] w fun e w'=>e=.returned (.tuple #[.pointer none,.iface 97 (.int .i64 2)])/\w=w':=by
 rcases h with h|h
 · have h1:decide (a<0)=true:=decide_eq_true h
   go_enter Tryz.func46,Tryz.ntmps46
   go_wp2
   go_ret2
   exact⟨rfl,rfl⟩
 · have h1:decide (a<0)=false:=decide_eq_false (by omega)
   have h2:decide (a>=4)=true:=decide_eq_true h
   go_enter Tryz.func46,Tryz.ntmps46
   go_wp2
   go_ret2
   exact⟨rfl,rfl⟩
def Qhq:PCon:=⟨fun args=>match args with
 |[.c _,.c (.v (.int .i64 a))]=>a<0\/4<=a
 |_=>False,fun args=>.t [.c (.v (.pointer none)),.c (.v (.iface 97 (.int .i64 2)))],fun _=>none⟩
theorem QjB:(Con.pure Qhq).holds Tryz.prog 46:=by
 intro w0 S
 refine⟨by kernel_rfl,fun ρ args w hp hK=>?_⟩
 unfold Qhq at hp;dsimp only at hp;split at hp
 case h_2=>exact hp.elim
 rename_i x a
 refine (QqF (x.den ρ) a hp w).mono ?_
 rintro e w' ⟨rfl,rfl⟩
 exact⟨rfl,Below.refl _ _⟩
def calX:TCon Sh (Int × OpA) Unit where
 pre z a:=a.1<0\/4<=a.1
 args a:=[.c (.v (.int .i64 a.1)),.a [.one (.v (.int .i64 a.2.k)),.one (.v (.int .i64 a.2.key)),.one (.v (.int .i64 a.2.x))]]
 ok _ _ _:=True
 next z _ _:=z
 val n z _ _:=.o (.c (.v (.iface 97 (.int .i64 2))))
 new _ _ _ _:=[]
 len:=0
abbrev Qjb:MCon:=calX.low shM ShS.z ShS.good 17 7 Qcv
theorem QpD:(Con.mem Qjb).holds Tryz.prog 23:=by
 intro w0 S
 refine Qc (Γ:=[(46,.pure Qhq)]) (fun _=>noW) Tryz.func23 rfl (by kernel_rfl) Qg Qd (fun w S' _ _=>.cons (QjB w _) (.nil _ _ _)) Qjb (fun _=>[]) (fun x0 h=>by cases h) (fun s ρ w _ _ _=>Qh w _) [] (fun _ M=>shAt M 0) 600 ?_
 rintro⟨⟨z,r,mh,ch,nh,zh,mv,cv,nv,zv⟩,a,k,key,x⟩ W ⟨h0,h1⟩ -
 refine⟨rfl,?_⟩
 refine Qj (q:=(a<(0:Int)\/(4:Int)<=a)/\endN Qjb [] (fun (x:SV) (M:List SB)=>shAt M 0) (ShS.mk z r mh ch nh zh mv cv nv zv,a,OpA.mk k key x) (SV.o (SA.c (.v (.iface 97 (Value.int .i64 (2:Int)))))) (shI (shD z.4 z.5 15 (List.length z.6) ch nh 16 (List.length z.7) cv nv) z.1 (Sh.s z) (stX (Sh.w z) r) (stA r) (stD r) (evB mh ch zh) (vdB mv cv zv) [SB.cells [sI k,sI key,sI x] 31])) (by kernel_rfl) ?_
 have h0:(⟨z,r,mh,ch,nh,zh,mv,cv,nv,zv⟩:ShS).good:=h0
 exact⟨h1,Qk rfl ⟨⟨z,r,mh,ch,nh,zh,mv,cv,nv,zv⟩,()⟩ ⟨h0,rfl,trivial⟩ rfl rfl rfl⟩
def TCon.Does {X Y α χ:Type}(c:TCon Y α χ) (L:X->List SB) (y:X->Y) (good:X->Prop) (P:Program) (w0:World) (S:Nat->Prop) (f:FuncId) (a:α):Prop:=
 ∀(ρ:Nat->Nat) (z:Y) (F:List Nat) (w:World),c.pre z a->Kept S w0 w->Mem w (feet (denM ρ 0 [.abs (Qz L y good z) F])) (denM ρ 0 [.abs (Qz L y good z) F]) w ->
  Calls P f ((SA.c (.p 0 0)::c.args a).map (SA.den ρ)).toArray w fun e w'=>∃(x:List Nat × χ) (ρ':Nat->Nat),c.ok z a x.2/\(∀i,i<1->ρ' i=ρ i)/\(SB.abs (Qz L y good (c.next z a x.2)) x.1::c.new 1 z a x.2).length=1+c.len/\e=.returned ((c.val 1 z a x.2).den ρ') /\
   Mem w (feet (denM ρ 0 [.abs (Qz L y good z) F])) (denM ρ' 0 (.abs (Qz L y good (c.next z a x.2)) x.1::c.new 1 z a x.2)) w'
theorem TCon.high_of {X Y α χ:Type}{c:TCon Y α χ}{L:X->List SB}{y:X->Y}{good:X->Prop}{P:Program}{f:FuncId}{w0:World}{S:Nat->Prop}(he:Qbw P f=true) (h:∀a,c.Does L y good P w0 S f a):(Con.mem (c.high L y good)).holdsAt P w0 S f:=
 ⟨he,fun x0 h=>(by cases h),fun ρ s w hp hK HM=>h s.2.1 ρ s.1 s.2.2 w hp hK HM⟩
theorem TCon.does_of {X Y α χ α' χ':Type}(c:TCon Y α χ) (c':TCon Y α' χ') {L:X->List SB}{y:X->Y}{good:X->Prop}{n k:Nat}{find:List SA->List SB->Option (List Nat)}{P:Program}{f:FuncId}{w0:World}{S:Nat->Prop}
 (h:(Con.mem (c.low L y good n k find)).holdsAt P w0 S f) (hk:0<k) (hn:∀x,good x->(L x).length=n) (a:α) (a':α') (harg:c'.args a'=c.args a) (ha:QaO (sc 1) (c.args a)=true) (hpre:∀z,c'.pre z a'->c.pre z a)
 (hv:∀z r,c'.pre (y z) a'->c.ok (y z) a r->∀ρ ρ':Nat->Nat,(∀i,ρ' (1+i)=ρ (n+i))->ρ' 0=ρ 0->∃r',c'.ok (y z) a' r'/\c'.next (y z) a' r'=c.next (y z) a r/\(c'.val 1 (y z) a' r').den ρ'=(c.val n (y z) a r).den ρ/\denM ρ' 1 (c'.new 1 (y z) a' r')=denM ρ n (c.new n (y z) a r)/\(c'.new 1 (y z) a' r').length=c'.len):c'.Does L y good P w0 S f a':=by
 intro ρ z F w hp hK HM
 have hA:=HM.holds (.abs (ρ 0) (Qz L y good z) F) (List.mem_singleton.2 rfl)
 obtain⟨x,ρ1,rfl,hg,hρ,HM1,hF⟩:=hA
 have harg2:(SA.c (.p 0 0)::c'.args a').map (SA.den ρ)=(SA.c (.p 0 0)::c.args a).map (SA.den ρ1):=by
  rw[harg]
  refine List.map_congr_left fun v hv=>?_
  have hav:v.av (sc 1)=true:=by
   rcases List.mem_cons.1 hv with rfl|hv
   · rfl
   · exact Qbo ha v hv
  exact SA.av_den (fun i hi=>by have:=Xw hi;obtain rfl:i=0:=(by omega);exact hρ.symm) hav
 have hfe:∀g,feet (denM ρ 0 [.abs (Qz L y good (y x)) F]) g↔feet (denM ρ1 0 (L x)) g:=fun g=>by
  rw[hF g]
  exact⟨fun ⟨e,he,hf⟩=>by obtain rfl:=List.mem_singleton.1 he;exact hf,fun hg=>⟨_,List.mem_singleton.2 rfl,hg⟩⟩
 have:=h.2.2 ρ1 (x,a) w ⟨hg,hpre _ hp⟩ hK HM1
 rw[harg2]
 refine this.mono ?_
 rintro e w' ⟨⟨x',r⟩,ρ',⟨hg',hy',hok⟩,hag,hlen,rfl,HM'⟩
 have HM':Mem w (feet (denM ρ1 0 (L x))) (denM ρ' 0 (L x'++c.new n (y x) a r)) w':=HM'
 have hl':=hn x' hg'
 rw[Qfi,hl',Nat.zero_add]at HM'
 obtain⟨r',hok',hnext,hv1,hv2,hv4⟩:=hv x r hp hok ρ' (fun i=>if i=0 then ρ' 0 else ρ' (n+(i-1))) (fun i=>by rw[if_neg (by omega),show 1+i-1=i by omega]) rfl
 refine⟨(feetL (denM ρ' 0 (L x')),r'),fun i=>if i=0 then ρ' 0 else ρ' (n+(i-1)),hok',fun i hi=>?_,?_,?_,?_⟩
 · obtain rfl:i=0:=by omega
   show (if 0=0 then ρ' 0 else ρ' (n+(0-1)))=ρ 0
   rw[if_pos rfl,hag 0 hk];exact hρ
 · show (c'.new 1 (y x) a' r').length+1=1+c'.len
   omega
 · show Ending.returned ((c.val n (y x) a r).den ρ')=Ending.returned ((c'.val 1 (y x) a' r').den (fun i=>if i=0 then ρ' 0 else ρ' (n+(i-1))))
   rw[hv1]
 · show Mem w _ ([En.abs (if 0=0 then ρ' 0 else ρ' (n+(0-1))) (Qz L y good (c'.next (y x) a' r')) (feetL (denM ρ' 0 (L x')))]++denM _ 1 (c'.new 1 (y x) a' r')) w'
   rw[if_pos rfl,hv2,hnext]
   have hd:=List.pairwise_append.1 HM'.dist
   refine (Mem.subset (S:=feet (denM ρ1 0 (L x))) ⟨HM'.kept,fun e he=>?_,fun e he g hg=>?_,List.pairwise_append.2 ⟨List.pairwise_singleton _ _,hd.2.1,fun e he f hf g hg hfg=>?_⟩⟩ (fun g hg=>(hfe g).2 hg))
   · rcases List.mem_append.1 he with he|he
     · obtain rfl:=List.mem_singleton.1 he
       exact⟨x',ρ',hy',hg',rfl,⟨Kept.refl _ _,fun e he=>HM'.holds e (List.mem_append_left _ he),fun e he g hg=>.inl ⟨e,he,hg⟩,hd.1⟩,fun g=>(feetL_iff _ g).symm⟩
     · exact HM'.holds e (List.mem_append_right _ he)
   · rcases List.mem_append.1 he with he|he
     · obtain rfl:=List.mem_singleton.1 he
       obtain⟨e',he',hf'⟩:=(feetL_iff _ g).1 hg
       exact HM'.own e' (List.mem_append_left _ he') g hf'
     · exact HM'.own e (List.mem_append_right _ he) g hg
   · obtain rfl:=List.mem_singleton.1 he
     obtain⟨e',he',hf'⟩:=(feetL_iff _ g).1 hg
     exact hd.2.2 e' he' f hf g hf' hfg
end
section
structure Cl where
 t:Int
 k:Int
 key:Int
 x:Int
 fr:Int
 to:Int
 whn:Int
 c:Int
 v:Int
def Cl.nil:Cl:=⟨0,0,0,0,0,0,0,0,0⟩
def Cl.end (i:Nat) (e:Ev) (c:Cl):Cl:=if c.t=e.t/\c.to=0 then { c with to:=(i:Int)+1,whn:=e.whn,c:=e.c,v:=e.v } else c
def Qf2 (l:List Cl) (i:Nat) (e:Ev):List Cl:=if e.kind=1 then l++[⟨e.t,e.k,e.key,e.x,(i:Int)+1,0,0,0,0⟩]else if e.kind=2 then l.map (Cl.end i e)else l
def clTo:List Ev->List Cl × Nat:=List.foldl (fun p e=>(Qf2 p.1 p.2 e,p.2+1)) ([],0)
def QC (h:List Ev):List Cl:=(clTo h).1
theorem QpB (h:List Ev):(clTo h).2=h.length:=by
 have key:∀(h:List Ev) (p:List Cl × Nat),(h.foldl (fun p e=>(Qf2 p.1 p.2 e,p.2+1)) p).2=p.2+h.length:=by
  intro h
  induction h with
  |nil=>intro p;rfl
  |cons e h ih=>intro p;rw[List.foldl_cons,ih,List.length_cons];dsimp only;omega
 have:=key h ([],0)
 unfold clTo;rw[this];exact Nat.zero_add _
theorem QeH (h:List Ev) (e:Ev):QC (h++[e])=Qf2 (QC h) h.length e:=by
 have e1:clTo (h++[e])=(Qf2 (clTo h).1 (clTo h).2 e,(clTo h).2+1):=by
  unfold clTo;rw[List.foldl_append];rfl
 unfold QC
 rw[e1,QpB]
theorem QjG {α:Type}{f:α->α}{l:List α}{d:α}{i:Nat}(h:i<l.length):(l.map f).getD i d=f (l.getD i d):=by
 simp[List.getD_eq_getElem?_getD,h]
structure EvOK (z:Sh) (g:Gh) (e:Ev):Prop where
 kind:e.kind=1\/e.kind=2\/e.kind=3
 t:e.kind≠3->∃t:Nat,t<4/\e.t=t
 op:e.kind≠3->opOk e.k e.key e.x=true
 s0:1<=e.step
 s1:e.step<=z.steps
 ans:e.kind=2->∃j:Nat,e.whn=(j:Int)+1/\j<g.n/\(z.deeds.getD j Vd.nil).d.c=e.c/\(z.deeds.getD j Vd.nil).d.v=e.v
structure Link (R:Rec) (of:List Nat) (t:Nat) (tog:Int) (i:Nat):Prop where
 yes:Qm R.tog t=tog->∃j:Nat,j<of.length/\R.whn.getD t 0=(j:Int)+1/\of.getD j 0=i
 no:Qm R.tog t≠tog->∀j,j<of.length->of.getD j 0≠i
structure HInv (z:Sh) (g:Gh) (of:List Nat):Prop where
 ln:of.length=z.deeds.length
 lt:∀j,j<of.length->of.getD j 0<(QC z.hist).length
 op:∀j,j<of.length->((QC z.hist).getD (of.getD j 0) Cl.nil).t=(z.deeds.getD j Vd.nil).d.t/\((QC z.hist).getD (of.getD j 0) Cl.nil).k=(z.deeds.getD j Vd.nil).d.k/\((QC z.hist).getD (of.getD j 0) Cl.nil).key=(z.deeds.getD j Vd.nil).d.key/\((QC z.hist).getD (of.getD j 0) Cl.nil).x=(z.deeds.getD j Vd.nil).d.x
 inj:∀j k,j<k->k<of.length->of.getD j 0≠of.getD k 0
 ans:∀i,i<(QC z.hist).length->((QC z.hist).getD i Cl.nil).to≠0->∃j:Nat,((QC z.hist).getD i Cl.nil).whn=(j:Int)+1/\j<g.n/\of.getD j 0=i/\(z.deeds.getD j Vd.nil).d.c=((QC z.hist).getD i Cl.nil).c/\(z.deeds.getD j Vd.nil).d.v=((QC z.hist).getD i Cl.nil).v
 opn:∀t,t<4->(z.w t).does≠0->∃i,i<(QC z.hist).length/\((QC z.hist).getD i Cl.nil).t=t/\((QC z.hist).getD i Cl.nil).to=0/\((QC z.hist).getD i Cl.nil).k=(z.w t).k/\((QC z.hist).getD i Cl.nil).key=(z.w t).key/\((QC z.hist).getD i Cl.nil).x=(z.w t).x/\Link g.R of t (z.w t).tog i/\Link g.Q (of.take g.n) t (z.w t).tog i
 uni:∀i i',i<(QC z.hist).length->i'<(QC z.hist).length->((QC z.hist).getD i Cl.nil).to=0->((QC z.hist).getD i' Cl.nil).to=0->((QC z.hist).getD i Cl.nil).t=((QC z.hist).getD i' Cl.nil).t->i=i'
 idl:∀t,t<4->(z.w t).does=0->∀i,i<(QC z.hist).length->((QC z.hist).getD i Cl.nil).t=t->((QC z.hist).getD i Cl.nil).to≠0
 th:∀i,i<(QC z.hist).length->∃t:Nat,t<4/\((QC z.hist).getD i Cl.nil).t=t
 rt:∀j k,j<k->k<of.length->((QC z.hist).getD (of.getD k 0) Cl.nil).to≠0->((QC z.hist).getD (of.getD j 0) Cl.nil).fr<=((QC z.hist).getD (of.getD k 0) Cl.nil).to
 tos:∀i,i<(QC z.hist).length->0<=((QC z.hist).getD i Cl.nil).to/\((QC z.hist).getD i Cl.nil).to<=z.hist.length/\1<=((QC z.hist).getD i Cl.nil).fr/\((QC z.hist).getD i Cl.nil).fr<=z.hist.length
 ev:∀e∈z.hist,EvOK z g e
 clk:z.hist.Pairwise (fun a b=>a.step<b.step)
 sl:(z.hist.length:Int)<=z.steps
theorem Qo8 (K:Int):HInv (Sh.new K) (Gh.new K) [] where
 ln:=rfl
 lt:=fun j hj=>absurd hj (Nat.not_lt_zero _)
 op:=fun j hj=>absurd hj (Nat.not_lt_zero _)
 inj:=fun j k _ hk=>absurd hk (Nat.not_lt_zero _)
 ans:=fun i hi=>absurd hi (Nat.not_lt_zero _)
 opn:=fun t _ h=>absurd rfl h
 uni:=fun i _ hi=>absurd hi (Nat.not_lt_zero _)
 idl:=fun _ _ _ i hi=>absurd hi (Nat.not_lt_zero _)
 th:=fun i hi=>absurd hi (Nat.not_lt_zero _)
 rt:=fun j k _ hk=>absurd hk (Nat.not_lt_zero _)
 tos:=fun i hi=>absurd hi (Nat.not_lt_zero _)
 ev:=fun e he=>(by cases he)
 clk:=List.Pairwise.nil
 sl:=Int.le_refl 0
theorem EvOK.mono {z z':Sh}{g g':Gh}{e:Ev}(h:EvOK z g e) (hs:z.steps<=z'.steps) (hn:g.n<=g'.n) (hd:∀j,j<g.n->z'.deeds.getD j Vd.nil=z.deeds.getD j Vd.nil):EvOK z' g' e:=
 ⟨h.kind,h.t,h.op,h.s0,Int.le_trans h.s1 hs,fun hk=>by
  obtain⟨j,h1,h2,h3,h4⟩:=h.ans hk
  exact⟨j,h1,Nat.lt_of_lt_of_le h2 hn,by rw[hd j h2];exact h3,by rw[hd j h2];exact h4⟩⟩
section
variable {z z':Sh}{g:Gh}{of:List Nat}
theorem HInv.same (H:HInv z g of) (hh:z'.hist=z.hist) (hd:z'.deeds=z.deeds) (hs:z.steps<=z'.steps) (hw:∀t,t<4->((z'.w t).does=0↔(z.w t).does=0)/\(z'.w t).tog=(z.w t).tog/\(z'.w t).k=(z.w t).k/\(z'.w t).key=(z.w t).key/\(z'.w t).x=(z.w t).x):HInv z' g of where
 ln:=by rw[hd];exact H.ln
 lt:=by rw[hh];exact H.lt
 op:=by rw[hh,hd];exact H.op
 inj:=H.inj
 ans:=by rw[hh,hd];exact H.ans
 opn:=fun t ht hn=>by
  obtain⟨h0,h1,h2,h3,h4⟩:=hw t ht
  rw[hh,h1,h2,h3,h4]
  exact H.opn t ht (fun h=>hn (h0.2 h))
 uni:=by rw[hh];exact H.uni
 idl:=fun t ht h=>by rw[hh];exact H.idl t ht ((hw t ht).1.1 h)
 th:=by rw[hh];exact H.th
 rt:=by rw[hh];exact H.rt
 tos:=by rw[hh];exact H.tos
 ev:=by rw[hh];exact fun e he=>(H.ev e he).mono hs (Nat.le_refl _) (fun j _=>by rw[hd])
 clk:=by rw[hh];exact H.clk
 sl:=by rw[hh];exact Int.le_trans H.sl hs
theorem HInv.tell (H:HInv z g of) (hn:g.n<=z.deeds.length) {V' dv':Int}:HInv z ⟨V',g.R,dv',g.R,z.deeds.length⟩ of:=
 { H with
   ans:=fun i hi h=>by
    obtain⟨j,a,b,c⟩:=H.ans i hi h
    exact⟨j,a,Nat.lt_of_lt_of_le b hn,c⟩
   opn:=fun t ht h=>by
    obtain⟨i,a,b,c,d,e,f,k,l⟩:=H.opn t ht h
    refine⟨i,a,b,c,d,e,f,k,?_⟩
    show Link g.R (of.take z.deeds.length) t _ i
    rw[<- H.ln,List.take_length];exact k
   ev:=fun e he=>(H.ev e he).mono (Int.le_refl _) hn (fun _ _=>rfl) }
theorem HInv.cut (H:HInv z g of) (hn:g.n<=z.deeds.length) (hw:∀t,t<4->((z'.w t).does=0↔(z.w t).does=0)/\(z'.w t).tog=(z.w t).tog/\(z'.w t).k=(z.w t).k/\(z'.w t).key=(z.w t).key/\(z'.w t).x=(z.w t).x) (hh:z'.hist=z.hist) (hd:z'.deeds=z.deeds.take g.n) (hs:z.steps<=z'.steps) {V':Int}:HInv z' ⟨V',g.Q,V',g.Q,g.n⟩ (of.take g.n):=by
 have hl:(of.take g.n).length=g.n:=by rw[List.length_take,H.ln];omega
 have ho:∀j,j<g.n->(of.take g.n).getD j 0=of.getD j 0:=fun j hj=>by
  simp only[List.getD_eq_getElem?_getD,List.getElem?_take];rw[if_pos hj]
 have hD:∀j,j<g.n->(z.deeds.take g.n).getD j Vd.nil=z.deeds.getD j Vd.nil:=fun j hj=>by
  simp only[List.getD_eq_getElem?_getD,List.getElem?_take];rw[if_pos hj]
 have hlen:g.n<=of.length:=by rw[H.ln];exact hn
 refine⟨by rw[hl,hd,List.length_take];omega,fun j hj=>?_,fun j hj=>?_,fun j k h hk=>?_,fun i hi h=>?_,fun t ht h=>?_,?_,fun t ht h=>?_,?_,fun j k h hk=>?_,?_,?_,?_,?_⟩
 · rw[hl]at hj;rw[ho j hj,hh];exact H.lt j (by omega)
 · rw[hl]at hj;rw[ho j hj,hh,hd,hD j hj];exact H.op j (by omega)
 · rw[hl]at hk;rw[ho j (by omega),ho k hk];exact H.inj j k h (by omega)
 · rw[hh]at hi h
   obtain⟨j,a,b,c,d,e⟩:=H.ans i hi h
   exact⟨j,by rw[hh];exact a,b,by rw[ho j b];exact c,by rw[hd,hD j b,hh];exact d,by rw[hd,hD j b,hh];exact e⟩
 · obtain⟨h0,h1,h2,h3,h4⟩:=hw t ht
   obtain⟨i,a,b,c,d,e,f,k,l⟩:=H.opn t ht (fun h'=>h (h0.2 h'))
   rw[hh,h1,h2,h3,h4]
   refine⟨i,a,b,c,d,e,f,l,?_⟩
   show Link g.Q ((of.take g.n).take g.n) t _ i
   rw[List.take_take,Nat.min_self];exact l
 · rw[hh];exact H.uni
 · rw[hh];exact H.idl t ht ((hw t ht).1.1 h)
 · rw[hh];exact H.th
 · rw[hl]at hk;rw[ho j (by omega),ho k hk,hh];exact H.rt j k h (by omega)
 · rw[hh];exact H.tos
 · rw[hh];exact fun e he=>(H.ev e he).mono hs (Nat.le_refl _) (fun j hj=>by rw[hd,hD j hj])
 · rw[hh];exact H.clk
 · rw[hh];exact Int.le_trans H.sl hs
theorem HInv.crashed (H:HInv z g of) (hh:z'.hist=z.hist++[⟨3,0,0,0,0,0,0,0,z.steps+1⟩]) (hd:z'.deeds=z.deeds) (hs:z'.steps=z.steps+1) (hw:z'.w=z.w):HInv z' g of:=by
 have hc:QC z'.hist=QC z.hist:=by
  rw[hh,QeH];unfold Qf2;rw[if_neg (by show ¬(3:Int)=1;decide),if_neg (by show ¬(3:Int)=2;decide)]
 have hl:(z'.hist.length:Int)=z.hist.length+1:=by rw[hh,List.length_append];rfl
 have hsl:=H.sl
 refine⟨by rw[hd];exact H.ln,by rw[hc];exact H.lt,by rw[hc,hd];exact H.op,H.inj,by rw[hc,hd];exact H.ans,by rw[hc,hw];exact H.opn,by rw[hc];exact H.uni,by rw[hc,hw];exact H.idl,by rw[hc];exact H.th,by rw[hc];exact H.rt,fun i hi=>?_,?_,?_,by rw[hl,hs];omega⟩
 · rw[hc]at hi ⊢
   have:=H.tos i hi
   rw[hl];omega
 · rw[hh]
   intro e he
   rcases List.mem_append.1 he with he|he
   · exact (H.ev e he).mono (by omega) (Nat.le_refl _) (fun j _=>by rw[hd])
   · obtain rfl:=List.mem_singleton.1 he
     exact⟨.inr (.inr rfl),fun h=>absurd rfl h,fun h=>absurd rfl h,by show (1:Int)<=z.steps+1;omega,by show z.steps+1<=z'.steps;omega,fun h=>absurd h (by show ¬(3:Int)=2;decide)⟩
 · rw[hh]
   refine List.pairwise_append.2 ⟨H.clk,List.pairwise_singleton _ _,fun a ha b hb=>?_⟩
   obtain rfl:=List.mem_singleton.1 hb
   have:=(H.ev a ha).s1
   show a.step<z.steps+1
   omega
end
end
section
section
variable {K:Int}{z:Sh}{g:Gh}{of:List Nat}{t:Nat}
theorem HInv.called (H:HInv z g of) (I:ShInv K z g) (ht:t<4) (hd:(z.w t).does=0) {k key x:Int}(ho:opOk k key x=true):HInv (z.called t k key x) g of:=by
 have hc:QC (z.called t k key x).hist=QC z.hist++[⟨t,k,key,x,(z.hist.length:Int)+1,0,0,0,0⟩]:=by
  show QC (z.hist++[_])=_
  rw[QeH];unfold Qf2;rw[if_pos rfl]
 have hl:(QC (z.called t k key x).hist).length=(QC z.hist).length+1:=by rw[hc,List.length_append];rfl
 have hold:∀i,i<(QC z.hist).length->(QC (z.called t k key x).hist).getD i Cl.nil=(QC z.hist).getD i Cl.nil:=fun i hi=>by rw[hc];exact QaP hi
 have hnew:(QC (z.called t k key x).hist).getD (QC z.hist).length Cl.nil=⟨t,k,key,x,(z.hist.length:Int)+1,0,0,0,0⟩:=by
  rw[hc];have:=QbW (l:=QC z.hist) (m:=[(⟨t,k,key,x,(z.hist.length:Int)+1,0,0,0,0⟩:Cl)]) (d:=Cl.nil) (i:=0);rw[Nat.add_zero]at this;exact this
 have hcase:∀i,i<(QC (z.called t k key x).hist).length->i<(QC z.hist).length\/i=(QC z.hist).length:=fun i hi=>by omega
 have hhl:((z.called t k key x).hist.length:Int)=z.hist.length+1:=by show ((z.hist++[_]).length:Int)=_;rw[List.length_append];rfl
 have T:=I.th t ht
 obtain⟨i1,i2,-⟩:=T.idle hd
 have h01:=T.tg01
 have hsl:=H.sl
 have hw:∀u,u≠t->(z.called t k key x).w u=z.w u:=fun u hu=>QV _ _ hu
 have hwt:(z.called t k key x).w t=Wk.call (z.w t).th k key x (1-z.tog t) false:=Qi _ _ _
 refine⟨H.ln,fun j hj=>by rw[hl];exact Nat.lt_succ_of_lt (H.lt j hj),fun j hj=>by rw[hold _ (H.lt j hj)];exact H.op j hj,H.inj,fun i hi h=>?_,fun u hu hn=>?_,fun i i' hi hi' h h' e=>?_,fun u hu hn i hi e=>?_,fun i hi=>?_,fun j k' hjk hk h=>?_,fun i hi=>?_,?_,?_,?_⟩
 · rcases hcase i hi with h1|h1
   · rw[hold i h1]at h ⊢;exact H.ans i h1 h
   · rw[h1,hnew]at h;exact absurd rfl h
 · by_cases e:u=t
   · subst e
     refine⟨(QC z.hist).length,by omega,by rw[hnew],by rw[hnew],by rw[hnew,hwt];rfl,by rw[hnew,hwt];rfl,by rw[hnew,hwt];rfl,⟨fun h=>?_,fun _ j hj=>Nat.ne_of_lt (H.lt j hj)⟩,⟨fun h=>?_,fun _ j hj=>?_⟩⟩
     · rw[hwt]at h;exact absurd h (by show ¬Qm g.R.tog u=1-z.tog u;omega)
     · rw[hwt]at h;exact absurd h (by show ¬Qm g.Q.tog u=1-z.tog u;omega)
     · rw[List.length_take]at hj
       have:(of.take g.n).getD j 0=of.getD j 0:=by simp only[List.getD_eq_getElem?_getD,List.getElem?_take];rw[if_pos (by omega)]
       rw[this];exact Nat.ne_of_lt (H.lt j (by omega))
   · rw[hw u e]at hn ⊢
     obtain⟨i,a,b,c,d⟩:=H.opn u hu hn
     exact⟨i,by omega,by rw[hold i a];exact b,by rw[hold i a];exact c,by rw[hold i a];exact d⟩
 · rcases hcase i hi with h1|h1<;>rcases hcase i' hi' with h2|h2
   · rw[hold i h1]at h e;rw[hold i' h2]at h' e;exact H.uni i i' h1 h2 h h' e
   · rw[h2,hnew,hold i h1]at e;rw[hold i h1]at h;exact absurd h (H.idl t ht hd i h1 e)
   · rw[h1,hnew,hold i' h2]at e;rw[hold i' h2]at h';exact absurd h' (H.idl t ht hd i' h2 e.symm)
   · omega
 · by_cases eu:u=t
   · subst eu;rw[hwt]at hn;exact absurd hn (by show ¬(1:Int)=0;decide)
   · rw[hw u eu]at hn
     rcases hcase i hi with h1|h1
     · rw[hold i h1]at e ⊢;exact H.idl u hu hn i h1 e
     · rw[h1,hnew]at e;exact absurd e (by show ¬(t:Int)=u;omega)
 · rcases hcase i hi with h1|h1
   · rw[hold i h1];exact H.th i h1
   · rw[h1,hnew];exact⟨t,ht,rfl⟩
 · have h1:=H.lt j (by omega)
   have h2:=H.lt k' hk
   rw[hold _ h1,hold _ h2];rw[hold _ h2]at h;exact H.rt j k' hjk hk h
 · rcases hcase i hi with h1|h1
   · rw[hold i h1];have:=H.tos i h1;omega
   · rw[h1,hnew];dsimp only;omega
 · intro e he
   rcases List.mem_append.1 (show e∈z.hist++[_]from he)with he|he
   · exact (H.ev e he).mono (by show z.steps<=z.steps+1;omega) (Nat.le_refl _) (fun j _=>rfl)
   · obtain rfl:=List.mem_singleton.1 he
     exact⟨.inl rfl,fun _=>⟨t,ht,rfl⟩,fun _=>ho,by show (1:Int)<=z.steps+1;omega,by show z.steps+1<=z.steps+1;omega,fun h=>absurd h (by show ¬(1:Int)=2;decide)⟩
 · refine List.pairwise_append.2 ⟨H.clk,List.pairwise_singleton _ _,fun a ha b hb=>?_⟩
   obtain rfl:=List.mem_singleton.1 hb
   have:=(H.ev a ha).s1
   show a.step<z.steps+1
   omega
 · rw[hhl];show _<=z.steps+1;omega
theorem QpS {c v c' v':Int}(h:QX c v) (h':QX c' v') (e:ansW c v=ansW c' v'):c=c'/\v=v':=by
 have a:=Qee h
 have b:=Qee h'
 rw[e]at a
 exact⟨a.1.symm.trans b.1,a.2.1.symm.trans b.2.1⟩
theorem HInv.answered (H:HInv z g of) (I:ShInv K z g) (ht:t<4) (hn:(z.w t).does≠0) {w':Wk}(hT:Told g.Q t w') (e0:w'.does=0) (e1:w'.tog=(z.w t).tog/\w'.k=(z.w t).k/\w'.key=(z.w t).key/\w'.x=(z.w t).x) {m':Nat->Int}{s':Sto}:HInv ((z.moved t ⟨w',m',s'⟩).answered t w') g of:=by
 obtain⟨i0,a0,b0,c0,d1,d2,d3,-,LQ⟩:=H.opn t ht hn
 have hhist:((z.moved t ⟨w',m',s'⟩).answered t w').hist=z.hist++[⟨2,t,w'.k,w'.key,w'.x,w'.oc,w'.ov,w'.whn,z.steps+1⟩]:=rfl
 generalize hz':(z.moved t ⟨w',m',s'⟩).answered t w'=z' at hhist ⊢
 have hdeeds:z'.deeds=z.deeds:=by rw[<- hz'];rfl
 have hsteps:z'.steps=z.steps+1:=by rw[<- hz'];rfl
 have hwt:z'.w t=w':=by rw[<- hz'];exact Qi _ _ _
 have hw:∀u,u≠t->z'.w u=z.w u:=fun u hu=>by rw[<- hz'];exact QV _ _ hu
 have hc:QC z'.hist=(QC z.hist).map (Cl.end z.hist.length ⟨2,t,w'.k,w'.key,w'.x,w'.oc,w'.ov,w'.whn,z.steps+1⟩):=by
  rw[hhist,QeH];unfold Qf2;rw[if_neg (by show ¬(2:Int)=1;decide),if_pos rfl]
 have hl:(QC z'.hist).length=(QC z.hist).length:=by rw[hc,List.length_map]
 have hC:∀i,i<(QC z.hist).length->i≠i0->(QC z'.hist).getD i Cl.nil=(QC z.hist).getD i Cl.nil:=fun i hi hne=>by
  rw[hc,QjG hi]
  unfold Cl.end
  rw[if_neg]
  rintro⟨h1,h2⟩
  exact hne (H.uni i i0 hi a0 h2 c0 (by rw[b0];exact h1))
 have hC0:(QC z'.hist).getD i0 Cl.nil={ (QC z.hist).getD i0 Cl.nil with to:=(z.hist.length:Int)+1,whn:=w'.whn,c:=w'.oc,v:=w'.ov }:=by
  rw[hc,QjG a0]
  unfold Cl.end
  rw[if_pos ⟨b0,c0⟩]
 have hfr:∀i,i<(QC z.hist).length->((QC z'.hist).getD i Cl.nil).fr=((QC z.hist).getD i Cl.nil).fr/\((QC z'.hist).getD i Cl.nil).t=((QC z.hist).getD i Cl.nil).t/\((QC z'.hist).getD i Cl.nil).k=((QC z.hist).getD i Cl.nil).k/\((QC z'.hist).getD i Cl.nil).key=((QC z.hist).getD i Cl.nil).key/\((QC z'.hist).getD i Cl.nil).x=((QC z.hist).getD i Cl.nil).x:=fun i hi=>by
  by_cases e:i=i0
  · subst e;rw[hC0];exact⟨rfl,rfl,rfl,rfl,rfl⟩
  · rw[hC i hi e];exact⟨rfl,rfl,rfl,rfl,rfl⟩
 have hhl:(z'.hist.length:Int)=z.hist.length+1:=by rw[hhist,List.length_append];rfl
 have hsl:=H.sl
 obtain⟨j0,f1,f2,f3⟩:=LQ.yes (hT.bit.trans e1.1)
 have f1':j0<g.n/\j0<of.length:=by rw[List.length_take]at f1;omega
 have f3':of.getD j0 0=i0:=by rw[<- f3];simp only[List.getD_eq_getElem?_getD,List.getElem?_take];rw[if_pos f1'.1]
 have hD:(z.deeds.take g.n).getD j0 Vd.nil=z.deeds.getD j0 Vd.nil:=by simp only[List.getD_eq_getElem?_getD,List.getElem?_take];rw[if_pos f1'.1]
 have hcv:(z.deeds.getD j0 Vd.nil).d.c=w'.oc/\(z.deeds.getD j0 Vd.nil).d.v=w'.ov:=by
  rcases I.gl.sumQ.each t ht with⟨h0,h1,h2⟩|⟨i,h1,h2,h3,h4,h5,-⟩
  · omega
  · obtain rfl:i=j0:=by omega
    rw[hD]at h4 h5
    exact QpS h4 hT.ok (h5.symm.trans hT.ans)
 have hwhn:w'.whn=(j0:Int)+1:=by rw[<- hT.whn];exact f2
 refine⟨by rw[hdeeds];exact H.ln,fun j hj=>by rw[hl];exact H.lt j hj,fun j hj=>?_,H.inj,fun i hi h=>?_,fun u hu hn'=>?_,fun i i' hi hi' h h' e=>?_,fun u hu hn' i hi e=>?_,fun i hi=>?_,fun j k' hjk hk h=>?_,fun i hi=>?_,?_,?_,?_⟩
 · have h1:=hfr _ (H.lt j hj)
   rw[h1.2.1,h1.2.2.1,h1.2.2.2.1,h1.2.2.2.2,hdeeds];exact H.op j hj
 · rw[hl]at hi
   by_cases e:i=i0
   · subst e
     rw[hC0,hdeeds]
     exact⟨j0,hwhn,f1'.1,f3',hcv.1,hcv.2⟩
   · rw[hC i hi e]at h ⊢
     rw[hdeeds];exact H.ans i hi h
 · by_cases e:u=t
   · subst e;rw[hwt]at hn';exact absurd e0 hn'
   · rw[hw u e]at hn' ⊢
     obtain⟨i,a,b,c,d⟩:=H.opn u hu hn'
     have hne:i≠i0:=fun h=>by rw[h,b0]at b;omega
     exact⟨i,by rw[hl];exact a,by rw[hC i a hne];exact b,by rw[hC i a hne];exact c,by rw[hC i a hne];exact d⟩
 · rw[hl]at hi hi'
   have n1:i≠i0:=fun h1=>by rw[h1,hC0]at h;exact absurd h (by show ¬(z.hist.length:Int)+1=0;omega)
   have n2:i'≠i0:=fun h1=>by rw[h1,hC0]at h';exact absurd h' (by show ¬(z.hist.length:Int)+1=0;omega)
   rw[hC i hi n1]at h e;rw[hC i' hi' n2]at h' e
   exact H.uni i i' hi hi' h h' e
 · rw[hl]at hi
   by_cases ei:i=i0
   · subst ei;rw[hC0];show ¬(z.hist.length:Int)+1=0;omega
   · rw[hC i hi ei]at e ⊢
     by_cases eu:u=t
     · subst eu
       intro h
       exact ei (H.uni i i0 hi a0 h c0 (by rw[b0];exact e))
     · rw[hw u eu]at hn';exact H.idl u hu hn' i hi e
 · rw[hl]at hi;rw[(hfr i hi).2.1];exact H.th i hi
 · have h1:=H.lt j (by omega)
   have h2:=H.lt k' hk
   rw[(hfr _ h1).1]
   by_cases e:of.getD k' 0=i0
   · rw[e,hC0]
     have:=H.tos _ h1
     show _<=(z.hist.length:Int)+1
     omega
   · rw[hC _ h2 e]at h ⊢;exact H.rt j k' hjk hk h
 · rw[hl]at hi
   rw[(hfr i hi).1,hhl]
   have:=H.tos i hi
   by_cases e:i=i0
   · subst e;rw[hC0];dsimp only;omega
   · rw[hC i hi e];omega
 · rw[hhist]
   intro e he
   rcases List.mem_append.1 he with he|he
   · exact (H.ev e he).mono (by omega) (Nat.le_refl _) (fun j _=>by rw[hdeeds])
   · obtain rfl:=List.mem_singleton.1 he
     refine⟨.inr (.inl rfl),fun _=>⟨t,ht,rfl⟩,fun _=>?_,by show (1:Int)<=z.steps+1;omega,by show z.steps+1<=z'.steps;omega,fun _=>⟨j0,hwhn,f1'.1,by rw[hdeeds];exact hcv.1,by rw[hdeeds];exact hcv.2⟩⟩
     show opOk w'.k w'.key w'.x=true
     rw[e1.2.1,e1.2.2.1,e1.2.2.2];exact (I.th t ht).op hn
 · rw[hhist]
   refine List.pairwise_append.2 ⟨H.clk,List.pairwise_singleton _ _,fun a ha b hb=>?_⟩
   obtain rfl:=List.mem_singleton.1 hb
   have:=(H.ev a ha).s1
   show a.step<z.steps+1
   omega
 · rw[hhl,hsteps];omega
theorem Qp7:∀ {l:List Ask}{B:Int}{r:Rec},RecOK B r->AsksOK l->l.Pairwise (fun a b=>a.t≠b.t)->(∀a∈l,bOpen r a=true) ->
 (bD r l).length=l.length/\∀i,i<l.length->((bD r l).getD i Dd.nil).t=(l.getD i Ask.nil).t/\((bD r l).getD i Dd.nil).k=(l.getD i Ask.nil).k/\((bD r l).getD i Dd.nil).key=(l.getD i Ask.nil).key/\((bD r l).getD i Dd.nil).x=(l.getD i Ask.nil).x
 |[],B,r,_,_,_,_=>⟨rfl,fun i hi=>absurd hi (Nat.not_lt_zero _)⟩
 |a::l,B,r,h,ha,hp,ho=>by
  rw[List.pairwise_cons]at hp
  have h1:=ho a List.mem_cons_self
  have ed:bDs r a=[QdA r a]:=by unfold bDs;rw[h1];rfl
  have e:bD r (a::l)=QdA r a::bD (Xp r a) l:=by show bDs r a++bD (Xp r a) l=_;rw[ed];rfl
  have ih:=Qp7 (l:=l) (Qc7 h (ha a List.mem_cons_self)) ha.tail hp.2 (fun b hb=>by
   have hb1:=ho b (List.mem_cons_of_mem _ hb)
   have h2:=QcL h (ha a List.mem_cons_self) b.t (ha b (List.mem_cons_of_mem _ hb)).1
   rw[if_neg (fun e=>hp.1 b hb e.symm)]at h2
   unfold bOpen at hb1 ⊢
   rw[h2];exact hb1)
  rw[e]
  refine⟨by rw[List.length_cons,List.length_cons,ih.1],fun i hi=>?_⟩
  cases i with
  |zero=>exact⟨rfl,rfl,rfl,rfl⟩
  |succ i=>
   have:=ih.2 i (by rw[List.length_cons]at hi;omega)
   simpa using this
end
end
section
section
variable {K:Int}{z:Sh}{g:Gh}{of:List Nat}{t:Nat}
theorem HInv.indexed (H:HInv z g of) (I:ShInv K z g) (hs:z.steps<100000000) {z':Sh}{l:List Ask}{i4 h0:Nat}(hG:Gath z.w g.R h0 l i4) (hV:g.V=g.dv)
 (hh:z'.hist=z.hist) (hd:z'.deeds=z.deeds++(bD g.R l).map (Vd.mk (g.V+1))) (hst:z.steps<=z'.steps) (hw:∀t,t<4->((z'.w t).does=0↔(z.w t).does=0)/\(z'.w t).tog=(z.w t).tog/\(z'.w t).k=(z.w t).k/\(z'.w t).key=(z.w t).key/\(z'.w t).x=(z.w t).x) {V':Int}:
 ∃of',HInv z' ⟨V',bDo g.R l,g.dv,g.Q,g.n⟩ of':=by
 have hok:=hG.okA I
 have hne:l.Pairwise (fun a b=>a.t≠b.t):=hG.asc.imp (fun h=>Nat.ne_of_lt h)
 have hop:∀a∈l,bOpen g.R a=true:=fun a ha=>by
  have:=(hG.want a ha).opn
  unfold bOpen;simpa using this
 obtain⟨b1,b2⟩:=Qp7 I.gl.sumR.ok hok hne hop
 have hnn:g.n=z.deeds.length:=(I.gl.same hV).2
 have hN:=(I.gl.next hs hok).1
 have hex:∀t,∃i,t<4->(z.w t).does≠0->i<(QC z.hist).length/\((QC z.hist).getD i Cl.nil).t=t/\((QC z.hist).getD i Cl.nil).to=0/\((QC z.hist).getD i Cl.nil).k=(z.w t).k/\((QC z.hist).getD i Cl.nil).key=(z.w t).key/\((QC z.hist).getD i Cl.nil).x=(z.w t).x/\Link g.R of t (z.w t).tog i/\Link g.Q (of.take g.n) t (z.w t).tog i:=fun t=>by
  by_cases h:t<4/\(z.w t).does≠0
  · obtain⟨i,hi⟩:=H.opn t h.1 h.2
    exact⟨i,fun _ _=>hi⟩
  · exact⟨0,fun h1 h2=>absurd ⟨h1,h2⟩ h⟩
 obtain⟨ix,hix⟩:=Classical.axiomOfChoice hex
 have hW:∀i,i<l.length->Want z.w g.R (l.getD i Ask.nil):=fun i hi=>by
  rw[List.getD_eq_getElem?_getD,List.getElem?_eq_getElem hi];exact hG.want _ (List.getElem_mem hi)
 have hX:∀i,i<l.length->_:=fun i hi=>hix (l.getD i Ask.nil).t (hW i hi).t4 (hW i hi).act
 have hpair:∀i j,i<j->j<l.length->(l.getD i Ask.nil).t≠(l.getD j Ask.nil).t:=fun i j hij hj=>by
  have:=List.pairwise_iff_getElem.1 hne i j (by omega) hj hij
  simpa [List.getD_eq_getElem?_getD,List.getElem?_eq_getElem (show i<l.length by omega),List.getElem?_eq_getElem hj] using this
 have hlm:(l.map fun a=>ix a.t).length=l.length:=List.length_map _
 have oN:∀i,i<l.length->(of++l.map fun a=>ix a.t).getD (of.length+i) 0=ix (l.getD i Ask.nil).t:=fun i hi=>by
  rw[QbW];simp[List.getD_eq_getElem?_getD,hi]
 have oO:∀j,j<of.length->(of++l.map fun a=>ix a.t).getD j 0=of.getD j 0:=fun j hj=>QaP hj
 have dO:∀j,j<z.deeds.length->(z.deeds++(bD g.R l).map (Vd.mk (g.V+1))).getD j Vd.nil=z.deeds.getD j Vd.nil:=fun j hj=>QaP hj
 have dN:∀i,i<l.length->((z.deeds++(bD g.R l).map (Vd.mk (g.V+1))).getD (z.deeds.length+i) Vd.nil).d=(bD g.R l).getD i Dd.nil:=fun i hi=>by
  rw[QbW];simp[List.getD_eq_getElem?_getD,show i<(bD g.R l).length by omega]
 have hlen:(of++l.map fun a=>ix a.t).length=of.length+l.length:=by rw[List.length_append,hlm]
 have hdl:(z.deeds++(bD g.R l).map (Vd.mk (g.V+1))).length=z.deeds.length+l.length:=by rw[List.length_append,List.length_map,b1]
 have split:∀j,j<of.length+l.length->j<of.length\/∃i,i<l.length/\j=of.length+i:=fun j hj=>by
  by_cases h:j<of.length
  · exact .inl h
  · exact .inr ⟨j-of.length,by omega,by omega⟩
 have hol:=H.ln
 refine⟨of++l.map fun a=>ix a.t,by rw[hlen,hd,hdl,hol],fun j hj=>?_,fun j hj=>?_,fun j k hjk hk=>?_,fun i hi h=>?_,fun u hu hn=>?_,by rw[hh];exact H.uni,fun u hu hn=>by rw[hh];exact H.idl u hu ((hw u hu).1.1 hn),by rw[hh];exact H.th,fun j k hjk hk h=>?_,by rw[hh];exact H.tos,?_,by rw[hh];exact H.clk,by rw[hh];exact Int.le_trans H.sl hst⟩
 · rw[hlen]at hj;rw[hh]
   rcases split j hj with h|⟨i,hi,rfl⟩
   · rw[oO j h];exact H.lt j h
   · rw[oN i hi];exact (hX i hi).1
 · rw[hlen]at hj;rw[hh,hd]
   rcases split j hj with h|⟨i,hi,rfl⟩
   · rw[oO j h,dO j (by omega)];exact H.op j h
   · have e:=hX i hi
     have w:=hW i hi
     have b:=b2 i hi
     rw[oN i hi,hol,dN i hi,b.1,b.2.1,b.2.2.1,b.2.2.2]
     exact⟨e.2.1,e.2.2.2.1.trans w.k,e.2.2.2.2.1.trans w.key,e.2.2.2.2.2.1.trans w.x⟩
 · rw[hlen]at hk
   rcases split k hk with h|⟨i,hi,rfl⟩
   · rw[oO j (by omega),oO k h];exact H.inj j k hjk h
   · rw[oN i hi]
     rcases split j (by omega)with h2|⟨i2,hi2,rfl⟩
     · rw[oO j h2]
       exact (hX i hi).2.2.2.2.2.2.1.no (by rw[(hW i hi).tog];exact (hW i hi).opn) j h2
     · rw[oN i2 hi2]
       intro e
       have h1:=(hX i2 hi2).2.1
       rw[e,(hX i hi).2.1]at h1
       exact hpair i2 i (by omega) hi (by omega)
 · rw[hh]at hi h
   obtain⟨j,a,b,c,d,e⟩:=H.ans i hi h
   have b':j<g.n:=b
   exact⟨j,by rw[hh];exact a,b,by rw[oO j (by omega)];exact c,by rw[hd,dO j (by omega),hh];exact d,by rw[hd,dO j (by omega),hh];exact e⟩
 · obtain⟨w0,w1,w2,w3,w4⟩:=hw u hu
   have hn0:(z.w u).does≠0:=fun h=>hn (w0.2 h)
   obtain⟨i1,i2,i3,i4,i5,i6,i7,i8⟩:=hix u hu hn0
   refine⟨ix u,by rw[hh];exact i1,by rw[hh];exact i2,by rw[hh];exact i3,by rw[hh,w2];exact i4,by rw[hh,w3];exact i5,by rw[hh,w4];exact i6,?_,?_⟩
   · rw[w1]
     show Link (bDo g.R l) _ u _ _
     by_cases hx:∃i,i<l.length/\(l.getD i Ask.nil).t=u
     · obtain⟨p,hp,hpu⟩:=hx
       have hmem:l.getD p Ask.nil∈l:=by rw[List.getD_eq_getElem?_getD,List.getElem?_eq_getElem hp];exact List.getElem_mem hp
       have hbit:Qm (bR g.R l).tog u=(z.w u).tog:=by
        have h1:=QhA I.gl.sumR.ok hok hne _ hmem
        have h2:Qm (bR g.R l).tog (l.getD p Ask.nil).t=(l.getD p Ask.nil).g:=by simpa [bOpen] using h1
        rw[hpu]at h2
        have h3:=(hW p hp).tog
        rw[hpu]at h3
        rw[h2,h3]
       refine⟨fun _=>?_,fun h=>absurd hbit h⟩
       have hdp:((z.deeds++(bD g.R l).map (Vd.mk (g.V+1))).getD (z.deeds.length+p) Vd.nil).d.t=u:=by rw[dN p hp,(b2 p hp).1];exact hpu
       rcases hN.each u hu with⟨h0,-,-⟩|⟨q,q1,q2,q3,q4,q5,q6⟩
       · exfalso
         unfold cntT at h0
         rw[List.countP_eq_zero]at h0
         have hlt:z.deeds.length+p<(z.deeds++(bD g.R l).map (Vd.mk (g.V+1))).length:=by omega
         have h2:=h0 _ (List.getElem_mem hlt)
         rw[List.getD_eq_getElem?_getD,List.getElem?_eq_getElem hlt]at hdp
         exact h2 (by simpa using hdp)
       · rw[hdl]at q2
         have hqp:q=z.deeds.length+p:=by
          rcases Nat.lt_trichotomy q (z.deeds.length+p)with h|h|h
          · exact absurd hdp (q6 _ h (by omega))
          · exact h
          · obtain⟨i',rfl⟩:∃i',q=z.deeds.length+i':=⟨q-z.deeds.length,by omega⟩
            rw[dN i' (by omega),(b2 i' (by omega)).1]at q3
            exact absurd (hpu.trans q3.symm) (hpair p i' (by omega) (by omega))
         exact⟨q,by rw[hlen];omega,q1,by rw[hqp,<- hol,oN p hp,hpu]⟩
     · have hnot:∀a∈l,a.t≠u:=fun a ha e=>by
        obtain⟨p,hp,rfl⟩:=List.mem_iff_getElem.1 ha
        exact hx ⟨p,hp,by rw[List.getD_eq_getElem?_getD,List.getElem?_eq_getElem hp];exact e⟩
       have hk:=Qfm I.gl.sumR.ok hok u hu hnot
       refine⟨fun h=>?_,fun h j hj=>?_⟩
       · have h':Qm g.R.tog u=(z.w u).tog:=hk.2.2.symm.trans h
         obtain⟨j,c1,c2,c3⟩:=i7.yes h'
         exact⟨j,by rw[hlen];omega,hk.2.1.trans c2,by rw[oO j c1];exact c3⟩
       · have h':Qm g.R.tog u≠(z.w u).tog:=fun e=>h (hk.2.2.trans e)
         rw[hlen]at hj
         rcases split j hj with h2|⟨i',hi',rfl⟩
         · rw[oO j h2];exact i7.no h' j h2
         · rw[oN i' hi']
           intro e
           have h3:=(hX i' hi').2.1
           rw[e,i2]at h3
           exact hx ⟨i',hi',by omega⟩
   · rw[w1]
     show Link g.Q (List.take g.n _) u _ _
     have e1:(of++l.map fun a=>ix a.t).take g.n=of.take g.n:=by
      rw[hnn,<- hol,List.take_left',List.take_length];rfl
     rw[e1];exact i8
 · rw[hlen]at hk
   rw[hh]at h ⊢
   rcases split k hk with h2|⟨i,hi,rfl⟩
   · rw[oO k h2]at h ⊢;rw[oO j (by omega)];exact H.rt j k hjk h2 h
   · rw[oN i hi]at h;exact absurd (hX i hi).2.2.1 h
 · rw[hh]
   intro e he
   refine (H.ev e he).mono hst (Nat.le_refl _) (fun j hj=>?_)
   rw[hd,dO j (by omega)]
theorem Qcx (w:Wk) (n d:Int):(w.next n d).th=w.th/\(w.next n d).tog=w.tog/\(w.next n d).k=w.k/\(w.next n d).key=w.key/\(w.next n d).x=w.x:=by
 unfold Wk.next;split<;>exact⟨rfl,rfl,rfl,rfl,rfl⟩
theorem Qef (w:Wk):w.all.th=w.th/\w.all.tog=w.tog/\w.all.k=w.k/\w.all.key=w.key/\w.all.x=w.x/\w.all.does=w.does:=by
 unfold Wk.all;split<;>exact⟨rfl,rfl,rfl,rfl,rfl,rfl⟩
theorem Qkh (z:WSt):(Qa z).1.w.th=z.w.th/\(Qa z).1.w.tog=z.w.tog/\(Qa z).1.w.k=z.w.k/\(Qa z).1.w.key=z.w.key/\(Qa z).1.w.x=z.w.x:=by
 unfold Qa
 split
 · exact⟨rfl,rfl,rfl,rfl,rfl⟩
 split
 · unfold sayP;repeat' split
   all_goals exact⟨rfl,rfl,rfl,rfl,rfl⟩
 split
 · unfold Xk
   split
   · exact⟨rfl,rfl,rfl,rfl,rfl⟩
   split
   · exact Qcx _ 32 6
   split
   · split
     · exact⟨rfl,rfl,rfl,rfl,rfl⟩
     · have a:=Qef (Wk.next z.w 4 8)
       have b:=Qcx z.w 4 8
       exact⟨a.1.trans b.1,a.2.1.trans b.2.1,a.2.2.1.trans b.2.2.1,a.2.2.2.1.trans b.2.2.2.1,a.2.2.2.2.1.trans b.2.2.2.2⟩
   · have a:=Qef (Wk.next { z.w with asks:=Xc z.w.asks (z.m (2+2*z.w.i.toNat)/281474976710656%65536) (z.m (2+2*z.w.i.toNat)/4294967296%65536) (z.m (2+2*z.w.i.toNat)%4294967296),does:=6 } 4 8)
     have b:=Qcx { z.w with asks:=Xc z.w.asks (z.m (2+2*z.w.i.toNat)/281474976710656%65536) (z.m (2+2*z.w.i.toNat)/4294967296%65536) (z.m (2+2*z.w.i.toNat)%4294967296),does:=6 } 4 8
     exact⟨a.1.trans b.1,a.2.1.trans b.2.1,a.2.2.1.trans b.2.2.1,a.2.2.2.1.trans b.2.2.2.1,a.2.2.2.2.1.trans b.2.2.2.2⟩
 split
 · unfold Xe
   split
   · exact Qcx z.w 32 9
   split
   · exact Qcx z.w 4 10
   repeat' split
   all_goals exact⟨rfl,rfl,rfl,rfl,rfl⟩
 split
 · unfold Qaa;repeat' split
   all_goals exact⟨rfl,rfl,rfl,rfl,rfl⟩
 · unfold QP;repeat' split
   all_goals exact⟨rfl,rfl,rfl,rfl,rfl⟩
theorem Qcy {w:Wk}{n d:Int}(h:w.does≠0) (hd:d≠0):(w.next n d).does≠0:=by unfold Wk.next;split<;>assumption
theorem Qki (z:WSt) (h:z.w.does≠0) (hb:(Qa z).2=false):(Qa z).1.w.does≠0:=by
 unfold Qa at hb ⊢
 rw[if_neg h]at hb ⊢
 split
 · unfold sayP;repeat' split
   all_goals (first|(show ¬(2:Int)=0;decide)|(show ¬(3:Int)=0;decide)|(show ¬(4:Int)=0;decide)|(show ¬(17:Int)=0;decide))
 rename_i h1
 rw[if_neg h1]at hb
 split
 · unfold Xk
   split
   · show ¬(5:Int)=0;decide
   split
   · exact Qcy h (by decide)
   split
   · split
     · show ¬(7:Int)=0;decide
     · show (Wk.all _).does≠0
       rw[(Qef _).2.2.2.2.2];exact Qcy h (by decide)
   · show (Wk.all _).does≠0
     rw[(Qef _).2.2.2.2.2];exact Qcy (by show ¬(6:Int)=0;decide) (by decide)
 rename_i h2
 rw[if_neg h2]at hb
 split
 · unfold Xe
   split
   · exact Qcy h (by decide)
   split
   · exact Qcy h (by decide)
   repeat' split
   all_goals (first|(show ¬(11:Int)=0;decide)|(show ¬(12:Int)=0;decide)|(show ¬(13:Int)=0;decide)|(show ¬(14:Int)=0;decide))
 rename_i h3
 rw[if_neg h3]at hb
 split
 · rename_i h4
   rw[if_pos h4]at hb
   unfold Qaa at hb ⊢
   split
   · show ¬(15:Int)=0;decide
   rename_i h5
   rw[if_neg h5]at hb
   split
   · show ¬(16:Int)=0;decide
   rename_i h6
   rw[if_neg h6]at hb;cases hb
 rename_i h4
 rw[if_neg h4]at hb
 unfold QP at hb ⊢
 split
 · show ¬(18:Int)=0;decide
 rename_i h5
 rw[if_neg h5]at hb
 split
 · show ¬(19:Int)=0;decide
 rename_i h6
 rw[if_neg h6]at hb
 split
 · show ¬(20:Int)=0;decide
 rename_i h7
 rw[if_neg h7]at hb
 split
 · show ¬(21:Int)=0;decide
 rename_i h8
 rw[if_neg h8]at hb
 split
 · rename_i h9
   rw[if_pos h9]at hb;cases hb
 · show ¬(if z.w.said then (3:Int)else 1)=0
   split<;>decide
theorem Qf8 (I:ShInv K z g) (ht:t<4) (hn:(z.w t).does≠0) (hb:(Qa (z.wst t)).2=true):Told g.Q t (Qa (z.wst t)).1.w/\(Qa (z.wst t)).1.w.does=0/\(Qa (z.wst t)).1.m=z.m/\(Qa (z.wst t)).1.s=z.s/\((z.w t).does=16\/(z.w t).does=21):=by
 have T:=I.th t ht
 have h0:=T.d0
 have h21:=T.d21
 have hn':¬(z.wst t).w.does=0:=hn
 unfold Qa at hb ⊢
 rw[if_neg hn']at hb ⊢
 by_cases c1:(z.wst t).w.does<=3
 · rw[if_pos c1]at hb;cases hb
 rw[if_neg c1]at hb ⊢
 by_cases c2:(z.wst t).w.does<=7
 · rw[if_pos c2]at hb;cases hb
 rw[if_neg c2]at hb ⊢
 by_cases c3:(z.wst t).w.does<=13
 · rw[if_pos c3]at hb;cases hb
 rw[if_neg c3]at hb ⊢
 by_cases c4:(z.wst t).w.does<=16
 · rw[if_pos c4]at hb ⊢
   unfold Qaa at hb ⊢
   by_cases c5:(z.wst t).w.does=14
   · rw[if_pos c5]at hb;cases hb
   rw[if_neg c5]at hb ⊢
   by_cases c6:(z.wst t).w.does=15
   · rw[if_pos c6]at hb;cases hb
   rw[if_neg c6]at hb ⊢
   have h16:(z.w t).does=16:=by
    have a:¬(z.w t).does<=13:=c3
    have b:(z.w t).does<=16:=c4
    have c:¬(z.w t).does=14:=c5
    have d:¬(z.w t).does=15:=c6
    omega
   have:=(T.rep h16).1
   exact⟨⟨this.bit,this.ok,this.ans,this.whn⟩,rfl,rfl,rfl,.inl h16⟩
 · rw[if_neg c4]at hb ⊢
   unfold QP at hb ⊢
   by_cases c5:(z.wst t).w.does=17
   · rw[if_pos c5]at hb;cases hb
   rw[if_neg c5]at hb ⊢
   by_cases c6:(z.wst t).w.does=18
   · rw[if_pos c6]at hb;cases hb
   rw[if_neg c6]at hb ⊢
   by_cases c7:(z.wst t).w.does=19
   · rw[if_pos c7]at hb;cases hb
   rw[if_neg c7]at hb ⊢
   by_cases c8:(z.wst t).w.does=20
   · rw[if_pos c8]at hb;cases hb
   rw[if_neg c8]at hb ⊢
   by_cases c9:(z.wst t).m 1=(z.wst t).w.v/\Qm ((z.wst t).w.seen 0) (z.wst t).w.th=(z.wst t).w.tog
   · rw[if_pos c9]
     have e21:(z.w t).does=21:=by
      have a:¬(z.w t).does<=16:=c4
      have b:¬(z.w t).does=17:=c5
      have c:¬(z.w t).does=18:=c6
      have d:¬(z.w t).does=19:=c7
      have e:¬(z.w t).does=20:=c8
      omega
     obtain⟨d1,d2⟩:=c9
     have d1:z.m 1=(z.w t).v:=d1
     have d2:Qm ((z.w t).seen 0) (z.w t).th=(z.w t).tog:=d2
     have hv:(z.w t).v=g.dv:=by rw[<- d1];exact I.gl.done
     rw[T.th,T.lk2 (by omega) hv]at d2
     obtain⟨c,v,hA,ha,-⟩:=I.toldQ ht hn d2
     have hc:=Qee hA
     have e1:(z.w t).seen 1=ansW c v:=(T.lk3 (by omega) hv).trans ha
     refine⟨⟨d2,?_,?_,?_⟩,rfl,rfl,rfl,.inr e21⟩
     · show QX ((z.w t).seen 1/4294967296%4294967296) ((z.w t).seen 1%4294967296)
       rw[e1,hc.1,hc.2.1];exact hA
     · show _=ansW ((z.w t).seen 1/4294967296%4294967296) ((z.w t).seen 1%4294967296)
       rw[e1,hc.1,hc.2.1];exact ha
     · exact (T.lk4 (by omega) hv).symm
   · rw[if_neg c9]at hb;cases hb
def Fine (K:Int) (z:Sh) (g:Gh):Prop:=ShInv K z g/\∃of,HInv z g of
theorem Qpg {K:Int}(h1:1<=K) (h6:K<=6):Fine K (Sh.new K) (Gh.new K):=⟨QmK h1 h6,[],Qo8 K⟩
theorem QdU (F:Fine K z g) (ht:t<4) (k key x:Int):Fine K (z.call t k key x) g:=by
 obtain⟨I,of,H⟩:=F
 refine⟨QjN I ht k key x,of,?_⟩
 unfold Sh.call
 split
 · rename_i h;exact H.called I ht h.1 h.2
 · exact H
theorem Qle (F:Fine K z g) (l:Int):Fine K (z.evict l) g:=by
 obtain⟨I,of,H⟩:=F
 refine⟨Qh9 I l,of,?_⟩
 unfold Sh.evict
 split
 · exact H.same rfl rfl (Int.le_refl _) (fun t _=>⟨Iff.rfl,rfl,rfl,rfl,rfl⟩)
 · exact H
theorem Ql6 {α:Type}{f:Nat->α}{t:Nat}{x:α}{p:Nat->α->Prop}(h:p t x) (h2:∀u,u≠t->p u (f u)) (u:Nat):p u (setF f t x u):=by
 by_cases e:u=t
 · subst e;rw[Qi];exact h
 · rw[QV _ _ e];exact h2 u e
theorem QaR (F:Fine K z g) (ht:t<4) (hs:z.steps<100000000) (hn:(z.w t).does≠0):Fine K (z.stepped t) (g.step z t):=by
 obtain⟨I,of,H⟩:=F
 refine⟨QfN I ht hs hn,?_⟩
 have hsame:=Qkh (z.wst t)
 have hw (hb:(Qa (z.wst t)).2=false):∀u,u<4->((setF z.w t (Qa (z.wst t)).1.w u).does=0↔(z.w u).does=0)/\(setF z.w t (Qa (z.wst t)).1.w u).tog=(z.w u).tog/\(setF z.w t (Qa (z.wst t)).1.w u).k=(z.w u).k/\(setF z.w t (Qa (z.wst t)).1.w u).key=(z.w u).key/\(setF z.w t (Qa (z.wst t)).1.w u).x=(z.w u).x:=fun u _=>
  Ql6 (p:=fun u (w:Wk)=>(w.does=0↔(z.w u).does=0)/\w.tog=(z.w u).tog/\w.k=(z.w u).k/\w.key=(z.w u).key/\w.x=(z.w u).x)
   ⟨⟨fun h=>absurd h (Qki _ hn hb),fun h=>absurd h hn⟩,hsame.2.1,hsame.2.2.1,hsame.2.2.2.1,hsame.2.2.2.2⟩ (fun u _=>⟨Iff.rfl,rfl,rfl,rfl,rfl⟩) u
 unfold Gh.step
 by_cases e11:(z.w t).does=11
 · rw[if_pos e11]
   have hb:=QcP e11
   have e:Qa (z.wst t)=((Qa (z.wst t)).1,false):=by rw[<- hb]
   rw[Qa6 e11 e]
   have hho:Xr (z.w t):=⟨by omega,by omega⟩
   have O:=I.ho t ht hho
   have hV:=O.low (.inl (by omega))
   have hv:=O.ver (by omega) (by omega)
   obtain⟨hG,hD,-,-⟩:=O.nx (by omega) (by omega)
   have e2:(Qa (z.wst t)).1=⟨{ z.w t with does:=12 },z.m,z.s.save 0 ((z.w t).v+1)⟩:=by
    have:Qa (z.wst t)=(⟨{ z.w t with does:=12 },z.m,z.s.save 0 ((z.w t).v+1)⟩,false):=by simp[Qa,Xe,Sh.wst,e11]
    rw[this]
   refine H.indexed I hs hG hV (z':=(z.moved t (Qa (z.wst t)).1).counted (Qa (z.wst t)).1.w.deeds) rfl ?_ (by show z.steps<=z.steps+1;omega) (hw hb)
   rw[e2]
   show z.deeds++(z.w t).deeds.map (Vd.mk (putF z.s.now 0 ((z.w t).v+1) 0))=_
   rw[hD,Q0,hv,hV]
 · rw[if_neg e11]
   have hnoans:(Qa (z.wst t)).2=false->HInv (z.stepped t) g of:=fun hb=>by
    have e:Qa (z.wst t)=((Qa (z.wst t)).1,false):=by rw[<- hb]
    rw[Qo e11 e]
    exact H.same rfl rfl (by show z.steps<=z.steps+1;omega) (hw hb)
   by_cases e14:(z.w t).does=14
   · rw[if_pos e14]
     have hb:(Qa (z.wst t)).2=false:=by simp[Qa,Qaa,Sh.wst,e14]
     have H2:=hnoans hb
     have e:Qa (z.wst t)=((Qa (z.wst t)).1,false):=by rw[<- hb]
     have hdd:(z.stepped t).deeds=z.deeds:=by rw[Qo e11 e];rfl
     have:=H2.tell (by rw[hdd];exact I.gl.nle) (V':=g.V) (dv':=g.V)
     rw[hdd]at this
     exact⟨of,this⟩
   · rw[if_neg e14]
     cases hb:(Qa (z.wst t)).2
     · exact⟨of,hnoans hb⟩
     · obtain⟨hT,h0,hm,hss,-⟩:=Qf8 I ht hn hb
       have e:Qa (z.wst t)=((Qa (z.wst t)).1,true):=by rw[<- hb]
       rw[Qbj e11 e]
       exact⟨of,H.answered I ht hn hT h0 ⟨hsame.2.1,hsame.2.2.1,hsame.2.2.2.1,hsame.2.2.2.2⟩⟩
theorem QfU (F:Fine K z g) (ht:t<4) (hs:z.steps<100000000):∃g',Fine K (z.step t) g':=by
 unfold Sh.step
 split
 · exact⟨g,F⟩
 · rename_i h;exact⟨_,QaR F ht hs h⟩
def Gh.crash (g:Gh) (z:Sh) (lands:Int):Gh:=if Qu lands z.s 0=g.V then ⟨g.V,g.R,g.V,g.R,z.deeds.length⟩else ⟨g.dv,g.Q,g.dv,g.Q,g.n⟩
theorem QgB (F:Fine K z g) (lands:Int):Fine K (z.crash lands) (g.crash z lands):=by
 obtain⟨I,of,H⟩:=F
 have hw:∀u,u<4->(((z.w u).again).does=0↔(z.w u).does=0)/\((z.w u).again).tog=(z.w u).tog/\((z.w u).again).k=(z.w u).k/\((z.w u).again).key=(z.w u).key/\((z.w u).again).x=(z.w u).x:=fun u _=>by
  unfold Wk.again
  split
  · exact⟨Iff.rfl,rfl,rfl,rfl,rfl⟩
  · rename_i h;exact⟨⟨fun h'=>absurd h' (by show ¬(17:Int)=0;decide),fun h'=>absurd h' h⟩,rfl,rfl,rfl,rfl⟩
 have hc:=H.crashed (z':={ z with hist:=z.hist++[⟨3,0,0,0,0,0,0,0,z.steps+1⟩],steps:=z.steps+1 }) rfl rfl rfl rfl
 unfold Gh.crash
 rcases inv_crash I lands with⟨h1,h2,h3⟩|⟨h1,h2,h3,h4,h5⟩
 · rw[if_pos h1]
   refine⟨h2,of,?_⟩
   have h6:=hc.tell (V':=g.V) (dv':=g.V) I.gl.nle
   exact h6.same (z':=z.crash lands) rfl h3 (Int.le_refl _) hw
 · rw[if_neg (by omega)]
   exact⟨h4,of.take g.n,hc.cut (z':=z.crash lands) I.gl.nle hw rfl h5 (Int.le_refl _)⟩
theorem XD (z:Sh) (t:Nat):z.steps<=(z.step t).steps/\(z.step t).steps<=z.steps+1:=by
 unfold Sh.step
 split
 · omega
 · unfold Sh.stepped
   dsimp only
   split<;>split<;>(show z.steps<=z.steps+1/\z.steps+1<=z.steps+1;omega)
theorem QbQ (t:Nat):∀(n:Nat) (z:Sh),z.steps<=(z.run t n).steps/\(z.run t n).steps<=z.steps+n
 |0,z=>by show z.steps<=z.steps/\z.steps<=z.steps+((0:Nat):Int);omega
 |n+1,z=>by
  have h1:=XD z t
  have h2:=QbQ t n (z.step t)
  show z.steps<=((z.step t).run t n).steps/\((z.step t).run t n).steps<=z.steps+((n+1:Nat):Int)
  omega
theorem QjU (ht:t<4):∀(n:Nat) {z:Sh}{g:Gh},Fine K z g->z.steps+n<100000000->∃g',Fine K (z.run t n) g'
 |0,z,g,F,_=>⟨g,F⟩
 |n+1,z,g,F,hs=>by
  obtain⟨g1,F1⟩:=QfU F ht (by omega)
  have:=XD z t
  exact QjU ht n F1 (by omega)
end
end
section
structure SoC where
 ms:Nat->Int
 mo:Nat->Int
 W:Nat->Wk
 tog:Nat->Int
 hist:List Ev
 deeds:List Vd
 R:Rec
 V:Int
def askB (R:Rec) (ms:Nat->Int) (u:Nat):Bool:=decide (ms u≠0/\ms u-1≠Qm R.tog u)
def QnP (ms mo:Nat->Int) (u:Nat):Ask:=⟨u,ms u-1,mo u/281474976710656%65536,mo u/4294967296%65536,mo u%4294967296⟩
def askL (R:Rec) (ms mo:Nat->Int):Nat->List Ask
 |0=>[]
 |i+1=>askL R ms mo i++(bif askB R ms i then [QnP ms mo i]else [])
def askN (R:Rec) (ms:Nat->Int) (i:Nat):Nat->Nat
 |0=>0
 |n+1=>(bif askB R ms i then 2 else 1)+askN R ms (i+1) n
def left (c:SoC) (w:Wk):Nat:=
 if w.does=3 then 77+askN c.R c.ms 0 4 else if w.does=4 then 76+askN c.R c.ms 0 4
 else if w.does=5 then 43+(32-w.i.toNat)+askN c.R c.ms 0 4 else if w.does=6 then 43+askN c.R c.ms w.i.toNat (4-w.i.toNat)
 else if w.does=7 then 44+askN c.R c.ms (w.i.toNat+1) (3-w.i.toNat)else if w.does=8 then 11+(32-w.i.toNat)
 else if w.does=9 then 7+(4-w.i.toNat)else (17-w.does).toNat
structure Solo (t:Nat) (c:SoC) (z:Sh) (g:Gh):Prop where
 d3:3<=(z.w t).does
 d16:(z.w t).does<=16
 ms:∀u,u<4->z.m (3+2*u)=c.ms u
 mo:∀u,u<4->z.m (2+2*u)=c.mo u
 free:(z.w t).does=3->z.m 0=0
 W:∀u,u≠t->z.w u=c.W u
 tog:z.tog=c.tog
 hist:z.hist=c.hist
 R0:(z.w t).does<=11->g.R=c.R/\g.V=c.V/\z.deeds=c.deeds
 R1:12<=(z.w t).does->g.R=bDo c.R (askL c.R c.ms c.mo 4)/\g.V=c.V+1/\z.deeds=c.deeds++(bD c.R (askL c.R c.ms c.mo 4)).map (Vd.mk (c.V+1))
 a6:(z.w t).does=6->(z.w t).asks=askL c.R c.ms c.mo (z.w t).i.toNat
 a7:(z.w t).does=7->(z.w t).asks=askL c.R c.ms c.mo (z.w t).i.toNat++[⟨(z.w t).i.toNat,c.ms (z.w t).i.toNat-1,0,0,0⟩]/\askB c.R c.ms (z.w t).i.toNat=true
 a8:8<=(z.w t).does->(z.w t).does<=11->(z.w t).asks=askL c.R c.ms c.mo 4
section
variable {K:Int}{z:Sh}{g:Gh}{t:Nat}{c:SoC}
theorem Solo.go (S:Solo t c z g) {w':Wk}{m':Nat->Int}{s':Sto}{g':Gh}{d:Int}(hd:w'.does=d) (k3:3<d) (k16:d<=16) (hm:∀a,2<=a->m' a=z.m a)
 (R0:d<=11->(z.w t).does<=11/\g'=g) (R1:12<=d->12<=(z.w t).does/\g'.R=g.R/\g'.V=g.V)
 (a6:d=6->w'.asks=askL c.R c.ms c.mo w'.i.toNat) (a7:d=7->w'.asks=askL c.R c.ms c.mo w'.i.toNat++[⟨w'.i.toNat,c.ms w'.i.toNat-1,0,0,0⟩]/\askB c.R c.ms w'.i.toNat=true) (a8:8<=d->d<=11->w'.asks=askL c.R c.ms c.mo 4):Solo t c (z.moved t ⟨w',m',s'⟩) g':=by
 subst hd
 have e:(z.moved t ⟨w',m',s'⟩).w t=w':=Qi _ _ _
 refine⟨by rw[e];omega,by rw[e];exact k16,fun u hu=>(hm _ (by omega)).trans (S.ms u hu),fun u hu=>(hm _ (by omega)).trans (S.mo u hu),fun h=>?_,fun u hu=>?_,S.tog,S.hist,fun h=>?_,fun h=>?_,fun h=>?_,fun h=>?_,fun h h2=>?_⟩
 · rw[e]at h;omega
 · exact (QV _ _ hu).trans (S.W u hu)
 · rw[e]at h
   obtain⟨a,rfl⟩:=R0 h
   exact S.R0 a
 · rw[e]at h
   obtain⟨a,b,c'⟩:=R1 h
   obtain⟨x,y,z'⟩:=S.R1 a
   exact⟨b.trans x,c'.trans y,z'⟩
 · rw[e]at h ⊢;exact a6 h
 · rw[e]at h ⊢;exact a7 h
 · rw[e]at h h2 ⊢;exact a8 h h2
theorem Qaf (c:SoC) (w:Wk) {d:Int}(h:w.does=d) (h10:10<=d):left c w=(17-d).toNat:=by
 subst h
 unfold left
 rw[if_neg (by omega),if_neg (by omega),if_neg (by omega),if_neg (by omega),if_neg (by omega),if_neg (by omega),if_neg (by omega)]
theorem QqR (c:SoC) {w:Wk}(h:w.does=3):left c w=77+askN c.R c.ms 0 4:=by unfold left;rw[if_pos h]
theorem QqQ (c:SoC) {w:Wk}(h:w.does=4):left c w=76+askN c.R c.ms 0 4:=by unfold left;rw[if_neg (by omega),if_pos h]
theorem QoY (c:SoC) {w:Wk}(h:w.does=5):left c w=43+(32-w.i.toNat)+askN c.R c.ms 0 4:=by unfold left;rw[if_neg (by omega),if_neg (by omega),if_pos h]
theorem QoX (c:SoC) {w:Wk}(h:w.does=6):left c w=43+askN c.R c.ms w.i.toNat (4-w.i.toNat):=by unfold left;rw[if_neg (by omega),if_neg (by omega),if_neg (by omega),if_pos h]
theorem QqP (c:SoC) {w:Wk}(h:w.does=7):left c w=44+askN c.R c.ms (w.i.toNat+1) (3-w.i.toNat):=by unfold left;rw[if_neg (by omega),if_neg (by omega),if_neg (by omega),if_neg (by omega),if_pos h]
theorem QoW (c:SoC) {w:Wk}(h:w.does=8):left c w=11+(32-w.i.toNat):=by unfold left;rw[if_neg (by omega),if_neg (by omega),if_neg (by omega),if_neg (by omega),if_neg (by omega),if_pos h]
theorem QoV (c:SoC) {w:Wk}(h:w.does=9):left c w=7+(4-w.i.toNat):=by unfold left;rw[if_neg (by omega),if_neg (by omega),if_neg (by omega),if_neg (by omega),if_neg (by omega),if_neg (by omega),if_pos h]
theorem QaD (z:Sh) (t:Nat) (r:WSt):(z.moved t r).w t=r.w:=Qi _ _ _
theorem QhR (S:Solo t c z g) (hd:6<=(z.w t).does) (hd2:(z.w t).does<=7) (hi:0<=(z.w t).i) (hi4:(z.w t).i<4) {w0:Wk}{l:List Ask}(h0:w0={ z.w t with asks:=l,does:=6 }) (hl:l=askL c.R c.ms c.mo ((z.w t).i.toNat+1)):
 Solo t c (z.moved t ⟨(Wk.next w0 4 8).all,z.m,z.s⟩) g/\left c ((Wk.next w0 4 8).all)=43+askN c.R c.ms ((z.w t).i.toNat+1) (3-(z.w t).i.toNat):=by
 subst h0
 have hA:∀w:Wk,w.all.asks=w.asks/\w.all.i=w.i:=fun w=>by unfold Wk.all;split<;>exact⟨rfl,rfl⟩
 have hD:∀w:Wk,w.all.does=w.does:=fun w=>(Qef w).2.2.2.2.2
 unfold Wk.next
 by_cases e4:(z.w t).i+1=4
 · rw[if_pos (by exact e4)]
   refine⟨S.go (d:=8) (hD _) (by decide) (by decide) (fun _ _=>rfl) (fun _=>⟨by omega,rfl⟩) (fun h=>absurd h (by decide)) (fun h=>absurd h (by decide)) (fun h=>absurd h (by decide)) (fun _ _=>?_),?_⟩
   · rw[(hA _).1];show l=_;rw[hl,show (z.w t).i.toNat+1=4 by omega]
   · rw[QoW c (hD _),(hA _).2]
     rw[show 3-(z.w t).i.toNat=0 by omega];rfl
 · rw[if_neg (by exact e4)]
   have ei:((z.w t).i+1).toNat=(z.w t).i.toNat+1:=by omega
   refine⟨S.go (d:=6) (hD _) (by decide) (by decide) (fun _ _=>rfl) (fun _=>⟨by omega,rfl⟩) (fun h=>absurd h (by decide)) (fun _=>?_) (fun h=>absurd h (by decide)) (fun h=>absurd h (by decide)),?_⟩
   · rw[(hA _).1,(hA _).2];show l=askL _ _ _ ((z.w t).i+1).toNat;rw[hl,ei]
   · rw[QoX c (hD _),(hA _).2]
     show 43+askN c.R c.ms ((z.w t).i+1).toNat (4-((z.w t).i+1).toNat)=_
     rw[ei,show 4-((z.w t).i.toNat+1)=3-(z.w t).i.toNat by omega]
theorem Ql0 (I:ShInv K z g) (S:Solo t c z g) (ht:t<4) (h15:(z.w t).does≠16):Solo t c (z.stepped t) (g.step z t)/\left c (z.w t)=left c ((z.stepped t).w t)+1:=by
 have T:=I.th t ht
 have hth:=T.th
 have s3:=S.d3
 have s16:=S.d16
 have hcase:(z.w t).does=3\/(z.w t).does=4\/(z.w t).does=5\/(z.w t).does=6\/(z.w t).does=7\/(z.w t).does=8\/(z.w t).does=9\/(z.w t).does=10\/(z.w t).does=11\/(z.w t).does=12\/(z.w t).does=13\/(z.w t).does=14\/(z.w t).does=15:=by omega
 have hg:(z.w t).does≠11->(z.w t).does≠14->g.step z t=g:=fun h1 h2=>by unfold Gh.step;rw[if_neg h1,if_neg h2]
 rcases hcase with hd|hd|hd|hd|hd|hd|hd|hd|hd|hd|hd|hd|hd
 · have e:Qa (z.wst t)=(⟨{ z.w t with does:=4 },putF z.m 0 ((t:Int)+1),z.s⟩,false):=by
    simp[Qa,sayP,Sh.wst,hd,hth,S.free hd]
   rw[Qo (by omega) e,hg (by omega) (by omega),QaD,QqR c hd,QqQ c rfl]
   exact⟨S.go (d:=4) rfl (by decide) (by decide) (fun a ha=>Qs _ _ (by omega)) (fun _=>⟨by omega,rfl⟩) (fun h=>absurd h (by decide)) (fun h=>absurd h (by decide)) (fun h=>absurd h (by decide)) (fun h=>absurd h (by decide)),by omega⟩
 · have e:Qa (z.wst t)=(⟨{ z.w t with v:=z.m 1,i:=0,does:=5,asks:=[] },z.m,z.s⟩,false):=by
    simp[Qa,Xk,Sh.wst,hd]
   rw[Qo (by omega) e,hg (by omega) (by omega),QaD,QqQ c hd,QoY c rfl]
   exact⟨S.go (d:=5) rfl (by decide) (by decide) (fun a ha=>rfl) (fun _=>⟨by omega,rfl⟩) (fun h=>absurd h (by decide)) (fun h=>absurd h (by decide)) (fun h=>absurd h (by decide)) (fun h=>absurd h (by decide)),by show 76+_=43+(32-Int.toNat 0)+_+1;rw[show Int.toNat 0=0 from rfl];omega⟩
 all_goals have hho:Xr (z.w t):=⟨by omega,by omega⟩
 all_goals have O:=I.ho t ht hho
 · have hi:=O.i0 (by omega)
   obtain⟨h32,has,hr⟩:=O.i5 hd
   have e:Qa (z.wst t)=(⟨Wk.next { z.w t with r:=putF (z.w t).r (z.w t).i.toNat (z.s.now (Qq (z.w t).v+(z.w t).i.toNat)) } 32 6,z.m,z.s⟩,false):=by
    simp[Qa,Xk,Sh.wst,hd]
   rw[Qo (by omega) e,hg (by omega) (by omega),QaD,QoY c hd]
   unfold Wk.next
   by_cases e4:(z.w t).i+1=32
   · rw[if_pos (by exact e4),QoX c rfl]
     exact⟨S.go (d:=6) rfl (by decide) (by decide) (fun a ha=>rfl) (fun _=>⟨by omega,rfl⟩) (fun h=>absurd h (by decide)) (fun _=>has) (fun h=>absurd h (by decide)) (fun h=>absurd h (by decide)),by show 43+(32-(z.w t).i.toNat)+askN c.R c.ms 0 4=43+askN c.R c.ms 0 4+1;omega⟩
   · rw[if_neg (by exact e4)]
     exact⟨S.go (d:=5) hd (by decide) (by decide) (fun a ha=>rfl) (fun _=>⟨by omega,rfl⟩) (fun h=>absurd h (by decide)) (fun h=>absurd h (by decide)) (fun h=>absurd h (by decide)) (fun h=>absurd h (by decide)),Eq.trans (by show 43+(32-(z.w t).i.toNat)+askN c.R c.ms 0 4=43+(32-((z.w t).i+1).toNat)+askN c.R c.ms 0 4+1;omega) (congrArg (· +1) (QoY c (by exact hd))).symm⟩
 · have hi:=O.i0 (by omega)
   obtain⟨h4,hr,hG⟩:=O.i6 hd
   obtain⟨r1,r2,r3⟩:=S.R0 (by omega)
   have h26:(z.w t).r 26=c.R.tog:=by rw[<- r1];exact (hr 26 (by decide)).trans (QbO I.gl.sumR.ok)
   have hu:(z.w t).i.toNat<4:=by omega
   rw[hg (by omega) (by omega),QoX c hd,show 4-(z.w t).i.toNat=(3-(z.w t).i.toNat)+1 by omega]
   by_cases hc:z.m (3+2*(z.w t).i.toNat)≠0/\z.m (3+2*(z.w t).i.toNat)-1≠Qm ((z.w t).r 26) (z.w t).i.toNat
   · have e:Qa (z.wst t)=(⟨{ z.w t with asks:=(z.w t).asks++[⟨(z.w t).i.toNat,z.m (3+2*(z.w t).i.toNat)-1,0,0,0⟩],does:=7 },z.m,z.s⟩,false):=by
      have h2:Qa (z.wst t)=(Xk (z.wst t),false):=by simp[Qa,Sh.wst,hd]
      rw[h2]
      unfold Xk
      rw[if_neg (by show ¬(z.w t).does=4;omega),if_neg (by show ¬(z.w t).does=5;omega),if_pos (by exact hd),if_pos (by exact hc)];rfl
     have hop:askB c.R c.ms (z.w t).i.toNat=true:=by
      unfold askB;rw[<- S.ms _ hu,<- h26];exact decide_eq_true hc
     rw[Qo (by omega) e,QaD,QqP c rfl]
     refine⟨S.go (d:=7) rfl (by decide) (by decide) (fun a ha=>rfl) (fun _=>⟨by omega,rfl⟩) (fun h=>absurd h (by decide)) (fun h=>absurd h (by decide)) (fun _=>⟨?_,hop⟩) (fun h=>absurd h (by decide)),?_⟩
     · show (z.w t).asks++_=_
       rw[S.a6 hd,S.ms _ hu]
     · simp only[askN];rw[hop,cond_true];omega
   · have e:Qa (z.wst t)=(⟨(Wk.next (z.w t) 4 8).all,z.m,z.s⟩,false):=by
      have h2:Qa (z.wst t)=(Xk (z.wst t),false):=by simp[Qa,Sh.wst,hd]
      rw[h2]
      unfold Xk
      rw[if_neg (by show ¬(z.w t).does=4;omega),if_neg (by show ¬(z.w t).does=5;omega),if_pos (by exact hd),if_neg (by exact hc)];rfl
     have hop:askB c.R c.ms (z.w t).i.toNat=false:=by
      unfold askB;rw[<- S.ms _ hu,<- h26];exact decide_eq_false hc
     have h0:z.w t={ z.w t with asks:=(z.w t).asks,does:=6 }:=by rw[<- hd]
     have:=QhR S (by omega) (by omega) hi h4 h0 (by simp only[askL];rw[hop,S.a6 hd];exact (List.append_nil _).symm)
     rw[Qo (by omega) e,QaD]
     refine⟨this.1,?_⟩
     rw[this.2]
     simp only[askN];rw[hop,cond_false];omega
 · have hi:=O.i0 (by omega)
   obtain⟨h4,hr,l,hl,-⟩:=O.i7 hd
   have hu:(z.w t).i.toNat<4:=by omega
   obtain⟨a1,a2⟩:=S.a7 hd
   have e:Qa (z.wst t)=(⟨(Wk.next { z.w t with asks:=askL c.R c.ms c.mo (z.w t).i.toNat++[QnP c.ms c.mo (z.w t).i.toNat],does:=6 } 4 8).all,z.m,z.s⟩,false):=by
    have h2:Qa (z.wst t)=(Xk (z.wst t),false):=by simp[Qa,Sh.wst,hd]
    rw[h2]
    unfold Xk
    rw[if_neg (by show ¬(z.w t).does=4;omega),if_neg (by show ¬(z.w t).does=5;omega),if_neg (by show ¬(z.w t).does=6;omega)]
    show ((⟨(Wk.next { z.w t with asks:=Xc (z.w t).asks (z.m (2+2*(z.w t).i.toNat)/281474976710656%65536) (z.m (2+2*(z.w t).i.toNat)/4294967296%65536) (z.m (2+2*(z.w t).i.toNat)%4294967296),does:=6 } 4 8).all,z.m,z.s⟩:WSt),false)=_
    rw[a1,QaN,S.mo _ hu];rfl
   have:=QhR S (by omega) (by omega) hi h4 (l:=askL c.R c.ms c.mo (z.w t).i.toNat++[QnP c.ms c.mo (z.w t).i.toNat]) rfl (by simp only[askL];rw[a2];rfl)
   rw[Qo (by omega) e,hg (by omega) (by omega),QaD,QqP c hd]
   exact⟨this.1,by rw[this.2];omega⟩
 · have hi:=O.i0 (by omega)
   obtain⟨h32,-⟩:=O.i8 hd
   have e:Qa (z.wst t)=(⟨Wk.next (z.w t) 32 9,z.m,z.s.save (Qq ((z.w t).v+1)+(z.w t).i.toNat) ((z.w t).r (z.w t).i.toNat)⟩,false):=by
    simp[Qa,Xe,Sh.wst,hd]
   rw[Qo (by omega) e,hg (by omega) (by omega),QaD,QoW c hd]
   unfold Wk.next
   by_cases e4:(z.w t).i+1=32
   · rw[if_pos e4,QoV c rfl]
     exact⟨S.go (d:=9) rfl (by decide) (by decide) (fun a ha=>rfl) (fun _=>⟨by omega,rfl⟩) (fun h=>absurd h (by decide)) (fun h=>absurd h (by decide)) (fun h=>absurd h (by decide)) (fun _ _=>S.a8 (by omega) (by omega)),by show _=7+(4-Int.toNat 0)+1;rw[show Int.toNat 0=0 from rfl];omega⟩
   · rw[if_neg e4]
     exact⟨S.go (d:=8) hd (by decide) (by decide) (fun a ha=>rfl) (fun _=>⟨by omega,rfl⟩) (fun h=>absurd h (by decide)) (fun h=>absurd h (by decide)) (fun h=>absurd h (by decide)) (fun _ _=>S.a8 (by omega) (by omega)),Eq.trans (by show 11+(32-(z.w t).i.toNat)=11+(32-((z.w t).i+1).toNat)+1;omega) (congrArg (· +1) (QoW c (by exact hd))).symm⟩
 · have hi:=O.i0 (by omega)
   obtain⟨h32,-⟩:=O.i9 hd
   have e:Qa (z.wst t)=(⟨Wk.next (z.w t) 4 10,z.m,z.s.flush t (Qq ((z.w t).v+1)/8+(z.w t).i.toNat)⟩,false):=by
    simp[Qa,Xe,Sh.wst,hd,hth]
   rw[Qo (by omega) e,hg (by omega) (by omega),QaD,QoV c hd]
   unfold Wk.next
   by_cases e4:(z.w t).i+1=4
   · rw[if_pos e4,Qaf c _ (d:=10) rfl (by decide)]
     exact⟨S.go (d:=10) rfl (by decide) (by decide) (fun a ha=>rfl) (fun _=>⟨by omega,rfl⟩) (fun h=>absurd h (by decide)) (fun h=>absurd h (by decide)) (fun h=>absurd h (by decide)) (fun _ _=>S.a8 (by omega) (by omega)),by show _=7+1;omega⟩
   · rw[if_neg e4]
     exact⟨S.go (d:=9) hd (by decide) (by decide) (fun a ha=>rfl) (fun _=>⟨by omega,rfl⟩) (fun h=>absurd h (by decide)) (fun h=>absurd h (by decide)) (fun h=>absurd h (by decide)) (fun _ _=>S.a8 (by omega) (by omega)),Eq.trans (by show 7+(4-(z.w t).i.toNat)=7+(4-((z.w t).i+1).toNat)+1;omega) (congrArg (· +1) (QoV c (by exact hd))).symm⟩
 · have e:Qa (z.wst t)=(⟨{ z.w t with does:=11 },z.m,z.s.fence t⟩,false):=by simp[Qa,Xe,Sh.wst,hd,hth]
   rw[Qo (by omega) e,hg (by omega) (by omega),QaD,Qaf c _ hd (by decide),Qaf c _ (d:=11) rfl (by decide)]
   exact⟨S.go (d:=11) rfl (by decide) (by decide) (fun a ha=>rfl) (fun _=>⟨by omega,rfl⟩) (fun h=>absurd h (by decide)) (fun h=>absurd h (by decide)) (fun h=>absurd h (by decide)) (fun _ _=>S.a8 (by omega) (by omega)),rfl⟩
 · have e:Qa (z.wst t)=(⟨{ z.w t with does:=12 },z.m,z.s.save 0 ((z.w t).v+1)⟩,false):=by simp[Qa,Xe,Sh.wst,hd]
   have hV:=O.low (.inl (by omega))
   have hv:=O.ver (by omega) (by omega)
   obtain⟨hG,hD,-,-⟩:=O.nx (by omega) (by omega)
   obtain⟨r1,r2,r3⟩:=S.R0 (by omega)
   have ha:=S.a8 (by omega) (by omega)
   have hgg:g.step z t=⟨g.V+1,bDo g.R (z.w t).asks,g.dv,g.Q,g.n⟩:=by unfold Gh.step;rw[if_pos hd]
   have ew:((z.moved t ⟨{ z.w t with does:=12 },z.m,z.s.save 0 ((z.w t).v+1)⟩).counted (z.w t).deeds).w t={ z.w t with does:=12 }:=Qi _ _ _
   rw[Qa6 hd e,hgg,Qaf c _ hd (by decide)]
   refine⟨⟨by rw[ew];show (3:Int)<=12;decide,by rw[ew];show (12:Int)<=16;decide,S.ms,S.mo,fun h=>?_,fun u hu=>(QV _ _ hu).trans (S.W u hu),S.tog,S.hist,fun h=>?_,fun _=>⟨?_,?_,?_⟩,fun h=>?_,fun h=>?_,fun h h2=>?_⟩,by rw[ew,Qaf c _ (d:=12) rfl (by decide)];rfl⟩
   · rw[ew]at h;exact absurd h (by show ¬(12:Int)=3;decide)
   · rw[ew]at h;exact absurd h (by show ¬(12:Int)<=11;decide)
   · show bDo g.R (z.w t).asks=_;rw[r1,ha]
   · show g.V+1=_;rw[r2]
   · show z.deeds++(z.w t).deeds.map (Vd.mk (putF z.s.now 0 ((z.w t).v+1) 0))=_
     rw[r3,hD,r1,ha,Q0,hv,<- hV,r2]
   · rw[ew]at h;exact absurd h (by show ¬(12:Int)=6;decide)
   · rw[ew]at h;exact absurd h (by show ¬(12:Int)=7;decide)
   · rw[ew]at h2;exact absurd h2 (by show ¬(12:Int)<=11;decide)
 · have e:Qa (z.wst t)=(⟨{ z.w t with does:=13 },z.m,z.s.flush t 0⟩,false):=by simp[Qa,Xe,Sh.wst,hd,hth]
   rw[Qo (by omega) e,hg (by omega) (by omega),QaD,Qaf c _ hd (by decide),Qaf c _ (d:=13) rfl (by decide)]
   exact⟨S.go (d:=13) rfl (by decide) (by decide) (fun a ha=>rfl) (fun h=>absurd h (by decide)) (fun _=>⟨by omega,rfl,rfl⟩) (fun h=>absurd h (by decide)) (fun h=>absurd h (by decide)) (fun _ h=>absurd h (by decide)),rfl⟩
 · have e:Qa (z.wst t)=(⟨{ z.w t with does:=14 },z.m,z.s.fence t⟩,false):=by simp[Qa,Xe,Sh.wst,hd,hth]
   rw[Qo (by omega) e,hg (by omega) (by omega),QaD,Qaf c _ hd (by decide),Qaf c _ (d:=14) rfl (by decide)]
   exact⟨S.go (d:=14) rfl (by decide) (by decide) (fun a ha=>rfl) (fun h=>absurd h (by decide)) (fun _=>⟨by omega,rfl,rfl⟩) (fun h=>absurd h (by decide)) (fun h=>absurd h (by decide)) (fun _ h=>absurd h (by decide)),rfl⟩
 · have e:Qa (z.wst t)=(⟨{ z.w t with does:=15 },putF z.m 1 ((z.w t).v+1),z.s⟩,false):=by simp[Qa,Qaa,Sh.wst,hd]
   have hgg:g.step z t=⟨g.V,g.R,g.V,g.R,z.deeds.length⟩:=by unfold Gh.step;rw[if_neg (by omega),if_pos hd]
   rw[Qo (by omega) e,hgg,QaD,Qaf c _ hd (by decide),Qaf c _ (d:=15) rfl (by decide)]
   exact⟨S.go (d:=15) rfl (by decide) (by decide) (fun a ha=>Qs _ _ (by omega)) (fun h=>absurd h (by decide)) (fun _=>⟨by omega,rfl,rfl⟩) (fun h=>absurd h (by decide)) (fun h=>absurd h (by decide)) (fun _ h=>absurd h (by decide)),rfl⟩
 · have e:Qa (z.wst t)=(⟨{ z.w t with does:=16 },putF z.m 0 0,z.s⟩,false):=by simp[Qa,Qaa,Sh.wst,hd]
   rw[Qo (by omega) e,hg (by omega) (by omega),QaD,Qaf c _ hd (by decide),Qaf c _ (d:=16) rfl (by decide)]
   exact⟨S.go (d:=16) rfl (by decide) (by decide) (fun a ha=>Qs _ _ (by omega)) (fun h=>absurd h (by decide)) (fun _=>⟨by omega,rfl,rfl⟩) (fun h=>absurd h (by decide)) (fun h=>absurd h (by decide)) (fun _ h=>absurd h (by decide)),rfl⟩
theorem QcT (t:Nat):∀(n:Nat) {z:Sh},(z.w t).does=0->z.run t n=z/\z.ran t n=0
 |0,z,_=>⟨rfl,rfl⟩
 |n+1,z,h=>by
  have e:z.step t=z:=if_pos h
  refine⟨?_,if_pos h⟩
  show (z.step t).run t n=z
  rw[e];exact (QcT t n h).1
theorem Qer (t:Nat):∀(n k:Nat) (z:Sh),z.run t (n+k)=(z.run t n).run t k
 |0,k,z=>by rw[Nat.zero_add];rfl
 |n+1,k,z=>by rw[Nat.add_right_comm];exact Qer t n k (z.step t)
structure Qrl (K:Int) (t:Nat) (c:SoC) (z:Sh) (g:Gh):Prop where
 fine:Fine K z g
 idle:(z.w t).does=0
 W:∀u,u≠t->z.w u=c.W u
 R:g.R=bDo c.R (askL c.R c.ms c.mo 4)
 V:g.V=c.V+1
 deeds:z.deeds=c.deeds++(bD c.R (askL c.R c.ms c.mo 4)).map (Vd.mk (c.V+1))
 ms:∀u,u<4->z.m (3+2*u)=c.ms u
 mo:∀u,u<4->z.m (2+2*u)=c.mo u
 hist:∃e:Ev,z.hist=c.hist++[e]/\e.kind=2/\e.t=t
theorem Qjq (ht:t<4):∀(n:Nat) {z:Sh}{g:Gh},Fine K z g->Solo t c z g->left c (z.w t)=n->z.steps+n<100000000 ->
 ∃g',Qrl K t c (z.run t n) g'/\∀k,n<=k->z.run t k=z.run t n/\z.ran t k=n
 |0,z,g,F,S,hl,_=>by
  exfalso
  have h3:=S.d3
  have h16:=S.d16
  rcases (show (z.w t).does=3\/(z.w t).does=4\/(z.w t).does=5\/(z.w t).does=6\/(z.w t).does=7\/(z.w t).does=8\/(z.w t).does=9\/10<=(z.w t).does by omega)with h|h|h|h|h|h|h|h
  · rw[QqR c h]at hl;omega
  · rw[QqQ c h]at hl;omega
  · rw[QoY c h]at hl;omega
  · rw[QoX c h]at hl;omega
  · rw[QqP c h]at hl;omega
  · rw[QoW c h]at hl;omega
  · rw[QoV c h]at hl;omega
  · rw[Qaf c _ rfl h]at hl;omega
 |n+1,z,g,F,S,hl,hs=>by
  have hn:(z.w t).does≠0:=by have:=S.d3;omega
  have est:z.step t=z.stepped t:=if_neg hn
  have hst:=XD z t
  have F1:=QaR F ht (by omega) hn
  have er:∀k,z.run t (k+1)=(z.stepped t).run t k:=fun k=>by show (z.step t).run t k=_;rw[est]
  have ek:∀k,z.ran t (k+1)=(z.stepped t).ran t k+1:=fun k=>by show (if (z.w t).does=0 then 0 else (z.step t).ran t k+1)=_;rw[if_neg hn,est]
  by_cases h16:(z.w t).does=16
  · rw[Qaf c _ h16 (by decide)]at hl
    have hn0:n=0:=by have:(17-16:Int).toNat=1:=rfl;omega
    subst hn0
    have hb:(Qa (z.wst t)).2=true:=by simp[Qa,Qaa,Sh.wst,h16]
    obtain⟨-,h0,hm,hss,-⟩:=Qf8 F.1 ht hn hb
    have e:Qa (z.wst t)=((Qa (z.wst t)).1,true):=by rw[<- hb]
    have e2:=Qbj (by omega:(z.w t).does≠11) e
    have hg:g.step z t=g:=by unfold Gh.step;rw[if_neg (by omega),if_neg (by omega)]
    rw[hg]at F1
    have hidle:((z.stepped t).w t).does=0:=by rw[e2];show (setF z.w t (Qa (z.wst t)).1.w t).does=0;rw[Qi];exact h0
    obtain⟨r1,r2,r3⟩:=S.R1 (by omega)
    refine⟨g,⟨?_,?_,fun u hu=>?_,r1,r2,?_,fun u hu=>?_,fun u hu=>?_,?_⟩,fun k hk=>?_⟩
    · rw[er 0];exact F1
    · rw[er 0];exact hidle
    · rw[er 0]
      show (z.stepped t).w u=_
      rw[e2];exact (QV _ _ hu).trans (S.W u hu)
    · rw[er 0]
      show (z.stepped t).deeds=_
      rw[e2];exact r3
    · rw[er 0]
      show (z.stepped t).m _=_
      rw[e2];show (Qa (z.wst t)).1.m _=_;rw[hm];exact S.ms u hu
    · rw[er 0]
      show (z.stepped t).m _=_
      rw[e2];show (Qa (z.wst t)).1.m _=_;rw[hm];exact S.mo u hu
    · rw[er 0]
      show ∃e:Ev,(z.stepped t).hist=_/\_
      rw[e2]
      exact⟨_,by show z.hist++[_]=_;rw[S.hist],rfl,rfl⟩
    · obtain⟨k,rfl⟩:∃j,k=j+1:=⟨k-1,by omega⟩
      have:=QcT t k hidle
      rw[er k,ek k,er 0,this.1,this.2]
      exact⟨rfl,rfl⟩
  · obtain⟨S1,hl1⟩:=Ql0 F.1 S ht h16
    rw[est]at hst
    obtain⟨g',E,hk⟩:=Qjq ht n F1 S1 (by omega) (by omega)
    refine⟨g',by rw[er n];exact E,fun k hkk=>?_⟩
    obtain⟨k,rfl⟩:∃j,k=j+1:=⟨k-1,by omega⟩
    have:=hk k (by omega)
    rw[er k,ek k,er n,this.1,this.2]
    exact⟨rfl,rfl⟩
end
end
section
def inT (a:Int):Bool:=decide (0<=a/\a<4)
def runB (n:Int):Bool:=decide (0<=n/\n<=1000)
structure Mv where
 kind:Int
 t:Int
 k:Int
 key:Int
 x:Int
 n:Int
 l:Int
def Sh.runA (z:Sh) (t n:Int):Sh:=bif inT t then z.run t.toNat (bif runB n then n.toNat else 0)else z
def Sh.callA (z:Sh) (t k key x:Int):Sh:=bif inT t then z.call t.toNat k key x else z
def Sh.move (z:Sh) (m:Mv):Sh:=
 if m.kind=1 then z.callA m.t m.k m.key m.x else if m.kind=2 then z.runA m.t m.n else if m.kind=3 then z.evict m.n else if m.kind=4 then z.crash m.l else z
def XY (K:Int) (l:List Mv):Sh:=l.foldl Sh.move (Sh.new K)
theorem Qet (K:Int) (l:List Mv) (m:Mv):XY K (l++[m])=(XY K l).move m:=by unfold XY;rw[List.foldl_append];rfl
theorem Qez {a:Int}(h:inT a=true):0<=a/\a<4/\a.toNat<4:=by
 have:=of_decide_eq_true h
 omega
theorem Qc5 (z:Sh) (t:Nat) (k key x:Int):z.steps<=(z.call t k key x).steps/\(z.call t k key x).steps<=z.steps+1:=by
 unfold Sh.call
 split
 · show z.steps<=z.steps+1/\z.steps+1<=z.steps+1;omega
 · omega
theorem Qgs (z:Sh) (m:Mv):z.steps<=(z.move m).steps/\(z.move m).steps<=z.steps+1000:=by
 unfold Sh.move
 split
 · unfold Sh.callA
   cases inT m.t
   · rw[cond_false];omega
   · rw[cond_true];have:=Qc5 z m.t.toNat m.k m.key m.x;omega
 split
 · unfold Sh.runA
   cases inT m.t
   · rw[cond_false];omega
   · rw[cond_true]
     have:=QbQ m.t.toNat (bif runB m.n then m.n.toNat else 0) z
     cases hb:runB m.n
     · rw[hb]at this
       rw[cond_false]at this ⊢;omega
     · rw[hb]at this
       have h2:=of_decide_eq_true hb
       rw[cond_true]at this ⊢;omega
 split
 · unfold Sh.evict
   split
   · show z.steps<=z.steps/\z.steps<=z.steps+1000;omega
   · omega
 split
 · show z.steps<=z.steps+1/\z.steps+1<=z.steps+1000;omega
 · omega
section
variable {K:Int}{z:Sh}{g:Gh}
theorem Qne (F:Fine K z g) (hs:z.steps<90000000) (t n:Int):∃g',Fine K (z.runA t n) g':=by
 unfold Sh.runA
 cases ht:inT t
 · exact⟨g,F⟩
 · rw[cond_true]
   cases hb:runB n
   · exact⟨g,F⟩
   · have h2:=of_decide_eq_true hb
     exact QjU (Qez ht).2.2 n.toNat F (by omega)
theorem Qlf (F:Fine K z g) (t k key x:Int):Fine K (z.callA t k key x) g:=by
 unfold Sh.callA
 cases ht:inT t
 · exact F
 · exact QdU F (Qez ht).2.2 k key x
theorem Qnf (F:Fine K z g) (hs:z.steps<90000000) (m:Mv):∃g',Fine K (z.move m) g':=by
 unfold Sh.move
 split
 · exact⟨g,Qlf F _ _ _ _⟩
 split
 · exact Qne F hs _ _
 split
 · exact⟨g,Qle F _⟩
 split
 · exact⟨_,QgB F _⟩
 · exact⟨g,F⟩
end
end
section
open Go.RowKit
abbrev TCon.sh {α χ:Type}(c:TCon Sh α χ):MCon:=c.high shM ShS.z ShS.good
theorem Xf (x:ShS):(shM x).length=17:=rfl
theorem verH:(Con.mem verC.sh).holds Tryz.prog 26:=fun w0 S=>verC.lift (Qqk w0 S) (by decide) (fun x _=>Xf x) (fun _=>rfl) (fun _ _ _ _ _ _ _ _=>⟨rfl,rfl,rfl,rfl⟩)
theorem evH:(Con.mem evC.sh).holds Tryz.prog 67:=fun w0 S=>evC.lift (ev_con w0 S) (by decide) (fun x _=>Xf x) (fun _=>rfl) (fun _ _ _ _ _ _ _ _=>⟨rfl,rfl,rfl,rfl⟩)
theorem recH:(Con.mem recC.sh).holds Tryz.prog 32:=fun w0 S=>recC.lift (QqB w0 S) (by decide) (fun x _=>Xf x) (fun _=>rfl) (fun _ _ _ _ _ _ _ _=>⟨rfl,rfl,rfl,rfl⟩)
theorem Ql1 {ρ ρ':Nat->Nat}{sz l c:Nat}{nn:Bool}(h:∀i,ρ' (1+i)=ρ (17+i)):(SV.o (.c (.so 1 0 sz l c nn))).den ρ'=(SV.o (.c (.so 17 0 sz l c nn))).den ρ:=by
 simp only[SV.den,SA.den,SC.den]
 rw[show ρ' 1=ρ 17 from h 0]
theorem QhV {ρ ρ':Nat->Nat}{t:Nat}{ks:List CK}{sz m c:Nat}{z:Nat->Nat->Int}(h:∀i,ρ' (1+i)=ρ (17+i)):denM ρ' 1 [.rows t ks sz m c z]=denM ρ 17 [.rows t ks sz m c z]:=by
 simp only[denM,denB]
 rw[show ρ' 1=ρ 17 from h 0]
theorem ddsH:(Con.mem ddsC.sh).holds Tryz.prog 27:=fun w0 S=>ddsC.lift (Qq0 w0 S) (by decide) (fun x _=>Xf x) (fun _=>rfl) (fun _ _ _ _ _ _ h _=>⟨Ql1 h,QhV h,rfl,rfl⟩)
theorem hisH:(Con.mem hisC.sh).holds Tryz.prog 19:=fun w0 S=>hisC.lift (QqS w0 S) (by decide) (fun x _=>Xf x) (fun _=>rfl) (fun _ _ _ _ _ _ h _=>⟨Ql1 h,QhV h,rfl,rfl⟩)
def Qi6:TCon Sh Nat Unit where
 pre z t:=t<4
 args t:=[.c (.v (.int .i64 t))]
 ok _ _ _:=True
 next z _ _:=z
 val _ z t _:=sv (.int .i64 (z.w t).does)
 new _ _ _ _:=[]
 len:=0
structure StpOK (z:Sh) (t:Nat):Prop where
 t4:t<4
 ok:stOK z t
 pre:(z.w t).does≠0->Qbk (z.wst t)
def Qkj:TCon Sh Nat Unit where
 pre z t:=StpOK z t
 args t:=[.c (.v (.int .i64 t))]
 ok _ _ _:=True
 next z t _:=z.step t
 val _ z t _:=QM z t
 new _ _ _ _:=[]
 len:=0
def oneA:TCon Sh Nat Value where
 pre z t:=t<4
 args t:=[.c (.v (.int .i64 t))]
 ok _ _ _:=True
 next z _ _:=z
 val _ z t r:=.t [.c (.v r),.c (.v .nilIface)]
 new _ _ _ _:=[]
 len:=0
theorem lt4 {t:Nat}(h:t<4):t=0\/t=1\/t=2\/t=3:=by omega
theorem QfH {X Y α χ:Type}{c:TCon Y α χ}{L:X->List SB}{y:X->Y}{good:X->Prop}{P:Program}{w0:World}{S:Nat->Prop}{f:FuncId}{a:α}(h:∀z,¬c.pre z a):c.Does L y good P w0 S f a:=fun _ z _ _ hp _ _=>absurd hp (h z)
theorem doesH:(Con.mem Qi6.sh).holds Tryz.prog 21:=fun w0 S=>TCon.high_of (Qim w0 S).1 fun t=>by
 by_cases h:t<4
 · rcases lt4 h with rfl|rfl|rfl|rfl
   · exact (Qnp 0).does_of Qi6 (Qim w0 S) (by decide) (fun x _=>Xf x) () 0 rfl rfl (fun _ _=>trivial) (fun _ _ _ _ _ _ _ _=>⟨(),trivial,rfl,rfl,rfl,rfl⟩)
   · exact (Qnp 1).does_of Qi6 (Qns w0 S) (by decide) (fun x _=>Xf x) () 1 rfl rfl (fun _ _=>trivial) (fun _ _ _ _ _ _ _ _=>⟨(),trivial,rfl,rfl,rfl,rfl⟩)
   · exact (Qnp 2).does_of Qi6 (Qnr w0 S) (by decide) (fun x _=>Xf x) () 2 rfl rfl (fun _ _=>trivial) (fun _ _ _ _ _ _ _ _=>⟨(),trivial,rfl,rfl,rfl,rfl⟩)
   · exact (Qnp 3).does_of Qi6 (Qnq w0 S) (by decide) (fun x _=>Xf x) () 3 rfl rfl (fun _ _=>trivial) (fun _ _ _ _ _ _ _ _=>⟨(),trivial,rfl,rfl,rfl,rfl⟩)
 · exact QfH fun _=>h
theorem stepH:(Con.mem Qkj.sh).holds Tryz.prog 30:=fun w0 S=>TCon.high_of (Qjn w0 S).1 fun t=>by
 by_cases h:t<4
 · rcases lt4 h with rfl|rfl|rfl|rfl
   · exact (stC 0).does_of Qkj (Qjn w0 S) (by decide) (fun x _=>Xf x) () 0 rfl rfl (fun _ h=>⟨h.ok,h.pre⟩) (fun _ _ _ _ _ _ _ _=>⟨(),trivial,rfl,rfl,rfl,rfl⟩)
   · exact (stC 1).does_of Qkj (Qoj w0 S) (by decide) (fun x _=>Xf x) () 1 rfl rfl (fun _ h=>⟨h.ok,h.pre⟩) (fun _ _ _ _ _ _ _ _=>⟨(),trivial,rfl,rfl,rfl,rfl⟩)
   · exact (stC 2).does_of Qkj (Qoi w0 S) (by decide) (fun x _=>Xf x) () 2 rfl rfl (fun _ h=>⟨h.ok,h.pre⟩) (fun _ _ _ _ _ _ _ _=>⟨(),trivial,rfl,rfl,rfl,rfl⟩)
   · exact (stC 3).does_of Qkj (Qoh w0 S) (by decide) (fun x _=>Xf x) () 3 rfl rfl (fun _ h=>⟨h.ok,h.pre⟩) (fun _ _ _ _ _ _ _ _=>⟨(),trivial,rfl,rfl,rfl,rfl⟩)
 · exact QfH fun _ hp=>h hp.t4
theorem oneH:(Con.mem oneA.sh).holds Tryz.prog 46:=fun w0 S=>TCon.high_of (QjC w0 S).1 fun t=>by
 by_cases h:t<4
 · rcases lt4 h with rfl|rfl|rfl|rfl
   · exact (oneC 0).does_of oneA (QjC w0 S) (by decide) (fun x _=>Xf x) () 0 rfl rfl (fun _ _=>trivial) (fun _ _ _ _ ρ _ _ _=>⟨.pointer (some ⟨ρ 3,0,none⟩),trivial,rfl,rfl,rfl,rfl⟩)
   · exact (oneC 1).does_of oneA (QoJ w0 S) (by decide) (fun x _=>Xf x) () 1 rfl rfl (fun _ _=>trivial) (fun _ _ _ _ ρ _ _ _=>⟨.pointer (some ⟨ρ 4,0,none⟩),trivial,rfl,rfl,rfl,rfl⟩)
   · exact (oneC 2).does_of oneA (QoI w0 S) (by decide) (fun x _=>Xf x) () 2 rfl rfl (fun _ _=>trivial) (fun _ _ _ _ ρ _ _ _=>⟨.pointer (some ⟨ρ 5,0,none⟩),trivial,rfl,rfl,rfl,rfl⟩)
   · exact (oneC 3).does_of oneA (QoH w0 S) (by decide) (fun x _=>Xf x) () 3 rfl rfl (fun _ _=>trivial) (fun _ _ _ _ ρ _ _ _=>⟨.pointer (some ⟨ρ 6,0,none⟩),trivial,rfl,rfl,rfl,rfl⟩)
 · exact QfH fun _=>h
structure CallOK (z:Sh):Prop where
 st0:0<=z.steps
 st1:z.steps<100000000
 h:z.hist.length<=1000000000
 tog:∀t,t<4->z.tog t=0\/z.tog t=1
def callA:TCon Sh (Int × OpA) Unit where
 pre z a:=CallOK z
 args a:=[.c (.v (.int .i64 a.1)),.a [.one (.v (.int .i64 a.2.k)),.one (.v (.int .i64 a.2.key)),.one (.v (.int .i64 a.2.x))]]
 ok _ _ _:=True
 next z a _:=bif inT a.1 then z.call a.1.toNat a.2.k a.2.key a.2.x else z
 val _ z a _:=.o (.c (.v (bif inT a.1 then (bif (z.w a.1.toNat).does==0 then (bif opOk a.2.k a.2.key a.2.x then .nilIface else .iface 97 (.int .i64 1))else .iface 97 (.int .i64 6))else .iface 97 (.int .i64 2))))
 new _ _ _ _:=[]
 len:=0
theorem callH:(Con.mem callA.sh).holds Tryz.prog 23:=fun w0 S=>TCon.high_of (Qj2 w0 S).1 fun ⟨a,o⟩=>by
 by_cases h:0<=a/\a<4
 · obtain⟨t,rfl⟩:=Int.eq_ofNat_of_zero_le h.1
   rcases lt4 (t:=t) (by omega)with rfl|rfl|rfl|rfl
   · exact (clC 0).does_of callA (Qj2 w0 S) (by decide) (fun x _=>Xf x) o _ rfl rfl (fun _ h=>⟨⟨h.st0,h.st1⟩,h.h,h.tog 0 (by decide)⟩) (fun _ _ _ _ _ _ _ _=>⟨(),trivial,rfl,rfl,rfl,rfl⟩)
   · exact (clC 1).does_of callA (QpG w0 S) (by decide) (fun x _=>Xf x) o _ rfl rfl (fun _ h=>⟨⟨h.st0,h.st1⟩,h.h,h.tog 1 (by decide)⟩) (fun _ _ _ _ _ _ _ _=>⟨(),trivial,rfl,rfl,rfl,rfl⟩)
   · exact (clC 2).does_of callA (QpF w0 S) (by decide) (fun x _=>Xf x) o _ rfl rfl (fun _ h=>⟨⟨h.st0,h.st1⟩,h.h,h.tog 2 (by decide)⟩) (fun _ _ _ _ _ _ _ _=>⟨(),trivial,rfl,rfl,rfl,rfl⟩)
   · exact (clC 3).does_of callA (QpE w0 S) (by decide) (fun x _=>Xf x) o _ rfl rfl (fun _ h=>⟨⟨h.st0,h.st1⟩,h.h,h.tog 3 (by decide)⟩) (fun _ _ _ _ _ _ _ _=>⟨(),trivial,rfl,rfl,rfl,rfl⟩)
 · have hb:inT a=false:=decide_eq_false h
   refine calX.does_of callA (QpD w0 S) (by decide) (fun x _=>Xf x) (a,o) (a,o) rfl rfl (fun _ _=>(by show a<0\/4<=a;omega)) (fun z _ _ _ _ _ _ _=>⟨(),trivial,?_,?_,rfl,rfl⟩)
   · show (bif inT a then _ else _)=z.z
     rw[hb];rfl
   · show (SV.o (.c (.v (bif inT a then _ else _)))).den _=_
     rw[hb];rfl
structure RunOK (z:Sh) (t:Nat) (n:Int):Prop where
 ok:0<=n->n<=1000->∀k:Nat,(k:Int)<n->stOK (z.run t k) t/\(((z.run t k).w t).does≠0->Qbk ((z.run t k).wst t))
def runN:TCon Sh (Nat × Int) Unit where
 pre z a:=a.1<4/\RunOK z a.1 a.2
 args a:=[.c (.v (.int .i64 a.1)),.c (.v (.int .i64 a.2))]
 ok _ _ _:=True
 next z a _:=z.run a.1 (bif runB a.2 then a.2.toNat else 0)
 val _ z a _:=.t [.c (.v (.int .i64 (bif runB a.2 then ((z.ran a.1 a.2.toNat:Nat):Int)else 0))),.c (.v (bif runB a.2 then .nilIface else .iface 97 (.int .i64 1)))]
 new _ _ _ _:=[]
 len:=0
structure RunG (z:Sh) (t:Nat) (n:Int) where
 k:Nat
 F:List Nat
 hk:k<=n.toNat
 hr:z.ran t n.toNat=k+(z.run t k).ran t (n.toNat-k)
def Qp9 (z:Sh) (t:Nat) (n:Int):Ann where
 σ:=RunG z t n
 I g:=([(0,.o (.c (.p 0 0))),(1,sv (.int .i64 t)),(2,sv (.int .i64 n)),(27,sv (.int .i64 n)),(28,sv (.int .i64 g.k))],[.abs (Qz shM ShS.z ShS.good (z.run t g.k)) g.F])
 dec g:=n.toNat-g.k
 pi env M:=[0]
 nz:=[]
theorem Qox {z:Sh}{t:Nat}{m:Nat}(h:(z.w t).does≠0):z.ran t (m+1)=(z.step t).ran t m+1:=if_neg h
theorem Qjt (z:Sh) (t k:Nat):z.run t (k+1)=(z.run t k).step t:=by rw[Qer];rfl
theorem Qju:(Con.mem runN.sh).holds Tryz.prog 24:=by
 intro w0 S
 refine Qc (Γ:=[(46,.mem oneA.sh),(21,.mem Qi6.sh),(30,.mem Qkj.sh)]) (fun _=>noW) Tryz.func24 rfl (by kernel_rfl) Qg Qd (fun w S' _ _=>.cons (oneH w S') (.cons (doesH w S') (.cons (stepH w S') (.nil _ _ _)))) runN.sh (fun s=>[(24,[(0,Qp9 s.1 s.2.1.1 s.2.1.2)])]) (fun x0 h=>by cases h) (fun s ρ w _ _ _=>Qh w _) [] (fun _ M=>[0]) 600 ?_
 rintro⟨z,⟨t,n⟩,F⟩ W ⟨ht,h1⟩ -
 refine⟨rfl,?_⟩
 dsimp only
 refine Qj (q:=∃(s:Sh × Nat × List Nat),[aP 0 0,aI ↑t]=[aP 0 0,aI (↑s.2.1:Int)]/\[SB.abs (Qz shM ShS.z ShS.good z) F]=[SB.abs (Qz shM ShS.z ShS.good s.1) s.2.2]/\s.2.1<4/\∀(x:List Nat × Value),True->bif decide (n<(0:Int))then endN (TCon.sh runN) [] (fun (x:SV) (M:List SB)=>[0]) (z,(t,n),F) (SV.t [aI 0,SA.c (.v (.iface 97 (Value.int .i64 (1:Int))))]) [SB.abs (Qz shM ShS.z ShS.good s.1) x.1]else bif decide (n>(1000:Int))then endN (TCon.sh runN) [] (fun (x:SV) (M:List SB)=>[0]) (z,(t,n),F) (SV.t [aI 0,SA.c (.v (.iface 97 (Value.int .i64 (1:Int))))]) [SB.abs (Qz shM ShS.z ShS.good s.1) x.1]else (∃(s0:Ann.σ (Qp9 z t n)),(eS (aP 0 0) (aP 0 0)/\eS (aI ↑t) (aI ↑t)/\eS (aI n) (aI n)/\eS (aI n) (aI n)/\eS (aI 0) (aI ↑s0.1)/\True)/\[SB.abs (Qz shM ShS.z ShS.good s.1) x.1]=[SB.abs (Qz shM ShS.z ShS.good (Sh.run z t s0.1)) s0.2])/\∀(s:RunG z t n),bif decide ((↑s.1:Int)<n)then ∃(s_1:Sh × Nat × List Nat),[aP 0 0,aI ↑t]=[aP 0 0,aI (↑s_1.2.1:Int)]/\[SB.abs (Qz shM ShS.z ShS.good (Sh.run z t s.1)) s.2]=[SB.abs (Qz shM ShS.z ShS.good s_1.1) s_1.2.2]/\s_1.2.1<4/\∀(x:List Nat × Unit),True->bif (Sh.w s_1.1 s_1.2.1).2==(0:Int)then endN (TCon.sh runN) [] (fun (x:SV) (M:List SB)=>[0]) (z,(t,n),F) (SV.t [aI ↑s.1,SA.c (.v Value.nilIface)]) [SB.abs (Qz shM ShS.z ShS.good s_1.1) x.1]else ∃(s_2:Sh × Nat × List Nat),[aP 0 0,aI ↑t]=[aP 0 0,aI (↑s_2.2.1:Int)]/\[SB.abs (Qz shM ShS.z ShS.good s_1.1) x.1]=[SB.abs (Qz shM ShS.z ShS.good s_2.1) s_2.2.2]/\StpOK s_2.1 s_2.2.1/\∀(x:List Nat × Unit),True->∃(s':RunG z t n),((eS (aP 0 0) (aP 0 0)/\eS (aI ↑t) (aI ↑t)/\eS (aI n) (aI n)/\eS (aI n) (aI n)/\eS (aI (IntKind.wrap .i64 ((↑s.1:Int)+(1:Int)))) (aI ↑s'.1)/\True)/\[SB.abs (Qz shM ShS.z ShS.good (Sh.step s_2.1 s_2.2.1)) x.1]=[SB.abs (Qz shM ShS.z ShS.good (Sh.run z t s'.1)) s'.2])/\Int.toNat n-s'.1<Int.toNat n-s.1 else endN (TCon.sh runN) [] (fun (x:SV) (M:List SB)=>[0]) (z,(t,n),F) (SV.t [aI n,SA.c (.v Value.nilIface)]) [SB.abs (Qz shM ShS.z ShS.good (Sh.run z t s.1)) s.2]) (by kernel_rfl) ?_
 have h1:RunOK z t n:=h1
 have ht:t<4:=ht
 have bad (hb:runB n=false) (G:List Nat):endN runN.sh [] (fun _ _=>[0]) (z,(t,n),F) (SV.t [SA.c (SC.v (.int .i64 0)),SA.c (SC.v (.iface 97 (.int .i64 1)))]) [SB.abs (Qz shM ShS.z ShS.good z) G]:=by
  refine Qk rfl ⟨G,()⟩ trivial rfl ?_ ?_
  · show _=SV.ren _ (.t [.c (.v (.int .i64 (bif runB n then _ else _))),.c (.v (bif runB n then _ else _))])
    rw[hb];rfl
  · show _=[SB.abs (Qz shM ShS.z ShS.good (z.run t (bif runB n then n.toNat else 0))) G].map _
    rw[hb];rfl
 have fin (hb:runB n=true) {k:Nat}(hk:k<=n.toNat) (hr:z.ran t n.toNat=k+(z.run t k).ran t (n.toNat-k)) (hd:k=n.toNat\/((z.run t k).w t).does=0) (G:List Nat):endN runN.sh [] (fun _ _=>[0]) (z,(t,n),F) (SV.t [SA.c (SC.v (.int .i64 (k:Int))),SA.c (SC.v .nilIface)]) [SB.abs (Qz shM ShS.z ShS.good (z.run t k)) G]:=by
  have e:z.ran t n.toNat=k/\z.run t n.toNat=z.run t k:=by
   rcases hd with rfl|hd
   · rw[Nat.sub_self]at hr;exact⟨hr,rfl⟩
   · have a:=QcT t (n.toNat-k) hd
     rw[a.2]at hr
     refine⟨hr,?_⟩
     have b:=Qer t k (n.toNat-k) z
     rw[show k+(n.toNat-k)=n.toNat by omega,a.1]at b;exact b
  refine Qk rfl ⟨G,()⟩ trivial rfl ?_ ?_
  · show _=SV.ren _ (.t [.c (.v (.int .i64 (bif runB n then ((z.ran t n.toNat:Nat):Int)else _))),.c (.v (bif runB n then _ else _))])
    rw[hb,e.1];rfl
  · show _=[SB.abs (Qz shM ShS.z ShS.good (z.run t (bif runB n then n.toNat else 0))) G].map _
    rw[hb]
    show _=[SB.abs (Qz shM ShS.z ShS.good (z.run t n.toNat)) G].map _
    rw[e.2];rfl
 refine⟨(z,t,F),rfl,rfl,ht,fun x _=>Qr (fun hlt=>bad (decide_eq_false (by omega)) x.1) (fun hge=>Qr (fun hgt=>bad (decide_eq_false (by omega)) x.1) (fun hle=>?_))⟩
 have hb:runB n=true:=decide_eq_true (by omega)
 refine⟨⟨⟨0,x.1,Nat.zero_le _,(by rw[Nat.zero_add,Nat.sub_zero];rfl)⟩,⟨rfl,rfl,rfl,rfl,rfl,trivial⟩,rfl⟩,?_⟩
 rintro⟨k,G,hk,hr⟩
 dsimp only at hk hr ⊢
 refine Qr (fun hlt=>?_) (fun hge=>?_)
 · refine⟨(z.run t k,t,G),rfl,rfl,ht,fun x1 _=>Q7 (fun hd=>fin hb hk hr (.inr hd) x1.1) (fun hd=>?_)⟩
   have hok:=h1.ok (by omega) (by omega) k (by omega)
   have hr':z.ran t n.toNat=k+1+(z.run t (k+1)).ran t (n.toNat-(k+1)):=by
    rw[hr,Qjt,show n.toNat-k=(n.toNat-(k+1))+1 by omega,Qox (z:=z.run t k) (t:=t) hd];omega
   exact⟨(z.run t k,t,x1.1),rfl,rfl,⟨ht,hok.1,hok.2⟩,fun x2 _=>⟨⟨k+1,x2.1,by omega,hr'⟩,⟨⟨rfl,rfl,rfl,rfl,svI (sucI (by omega)),trivial⟩,congrArg (fun s=>[SB.abs (Qz shM ShS.z ShS.good s) x2.1]) (Qjt z t k).symm⟩,by dsimp only;omega⟩⟩
 · obtain hkn:k=n.toNat:=by omega
   have:=fin hb hk hr (.inl hkn) G
   rw[show (k:Int)=n by omega]at this;exact this
def Ql9:TCon Sh (Int × Int) Unit where
 pre z a:=inT a.1=true->RunOK z a.1.toNat a.2
 args a:=[.c (.v (.int .i64 a.1)),.c (.v (.int .i64 a.2))]
 ok _ _ _:=True
 next z a _:=z.runA a.1 a.2
 val _ z a _:=.t [.c (.v (.int .i64 (bif inT a.1 then (bif runB a.2 then ((z.ran a.1.toNat a.2.toNat:Nat):Int)else 0)else 0))),.c (.v (bif inT a.1 then (bif runB a.2 then .nilIface else .iface 97 (.int .i64 1))else .iface 97 (.int .i64 2)))]
 new _ _ _ _:=[]
 len:=0
def runX:TCon Sh (Int × Int) Unit where
 pre z a:=a.1<0\/4<=a.1
 args a:=[.c (.v (.int .i64 a.1)),.c (.v (.int .i64 a.2))]
 ok _ _ _:=True
 next z a _:=z
 val _ z a _:=.t [.c (.v (.int .i64 0)),.c (.v (.iface 97 (.int .i64 2)))]
 new _ _ _ _:=[]
 len:=0
theorem Qos:(Con.mem runX.sh).holds Tryz.prog 24:=by
 intro w0 S
 refine Qc (Γ:=[(46,.pure Qhq)]) (fun _=>noW) Tryz.func24 rfl (by kernel_rfl) Qg Qd (fun w S' _ _=>.cons (QjB w _) (.nil _ _ _)) runX.sh (fun s=>[]) (fun x0 h=>by cases h) (fun s ρ w _ _ _=>Qh w _) [] (fun _ M=>[0]) 600 ?_
 rintro⟨z,⟨a,n⟩,F⟩ W h1 -
 refine⟨rfl,?_⟩
 refine Qj (q:=(a<(0:Int)\/(4:Int)<=a)/\endN (TCon.sh runX) [] (fun (x:SV) (M:List SB)=>[0]) (z,(a,n),F) (SV.t [aI 0,SA.c (.v (.iface 97 (Value.int .i64 (2:Int))))]) [SB.abs (Qz shM ShS.z ShS.good z) F]) (by kernel_rfl) ?_
 have h1:a<0\/4<=a:=h1
 exact⟨h1,Qk rfl ⟨F,()⟩ trivial rfl rfl rfl⟩
theorem runH:(Con.mem Ql9.sh).holds Tryz.prog 24:=fun w0 S=>TCon.high_of (Qju w0 S).1 fun ⟨a,n⟩=>by
 intro ρ z F w hp hK HM
 by_cases h:0<=a/\a<4
 · have hb:inT a=true:=decide_eq_true h
   obtain⟨t,rfl⟩:=Int.eq_ofNat_of_zero_le h.1
   have ht:t<4:=by omega
   have hp':RunOK z t n:=by have:=hp hb;rw[Int.toNat_natCast]at this;exact this
   have:=(Qju w0 S).2.2 ρ (z,(t,n),F) w ⟨ht,hp'⟩ hK HM
   have e1:z.runA t n=z.run t (bif runB n then n.toNat else 0):=by unfold Sh.runA;rw[hb,Int.toNat_natCast];rfl
   have e2:Ql9.val 1 z ((t:Int),n) ()=runN.val 1 z (t,n) ():=by
    show SV.t [.c (.v (.int .i64 (bif inT t then (bif runB n then ((z.ran (t:Int).toNat n.toNat:Nat):Int)else 0)else 0))),.c (.v (bif inT t then _ else _))]=_
    rw[hb,Int.toNat_natCast];rfl
   refine this.mono ?_
   rintro e w' ⟨⟨G,⟨⟩⟩,ρ',h1,h2,h3,h4,h5⟩
   refine⟨⟨G,()⟩,ρ',trivial,h2,rfl,?_,?_⟩
   · rw[e2];exact h4
   · show Mem w _ (denM ρ' 0 (.abs (Qz shM ShS.z ShS.good (z.runA t n)) G::[])) w'
     rw[e1];exact h5
 · have hb:inT a=false:=decide_eq_false h
   have:=(Qos w0 S).2.2 ρ (z,(a,n),F) w (by show a<0\/4<=a;omega) hK HM
   have e1:z.runA a n=z:=by unfold Sh.runA;rw[hb];rfl
   have e2:Ql9.val 1 z (a,n) ()=runX.val 1 z (a,n) ():=by
    show SV.t [.c (.v (.int .i64 (bif inT a then _ else 0))),.c (.v (bif inT a then _ else _))]=_
    rw[hb];rfl
   refine this.mono ?_
   rintro e w' ⟨⟨G,⟨⟩⟩,ρ',h1,h2,h3,h4,h5⟩
   refine⟨⟨G,()⟩,ρ',trivial,h2,rfl,?_,?_⟩
   · rw[e2];exact h4
   · show Mem w _ (denM ρ' 0 (.abs (Qz shM ShS.z ShS.good (z.runA a n)) G::[])) w'
     rw[e1];exact h5
end
section
open Go.RowKit
structure NewS where
 k:Int
def Qhs:MCon where
 σ:=NewS
 χ:=ShS
 pre s:=1<=s.k/\s.k<=6
 args s:=[.c (.v (.int .i64 s.k))]
 mem _:=[]
 ok s x:=x.good/\x.z=Sh.new s.k
 val _ _:=.t [.c (.p 0 0),.c (.v .nilIface)]
 mem' _ x:=shM x
 k:=0
 len:=17
 det:=none
 find _ _:=some []
def msAt (M:List SB) (b:Nat):List Nat:=match getB M b with
 |.cells l _=>match segGet l 0,segGet l 1 with
  |some (.p m _),some (.p s _)=>[b,m,s]
  |_,_=>[]
 |_=>[]
def newM (k:Int) (f:Nat->Int):List SB:=[.cells [.one (.p 1 0),.one (.p 2 0),.one (.v (.pointer none)),.one (.v (.pointer none)),.one (.v (.pointer none)),.one (.v (.pointer none)),.ints (.int .i64) 4 (fun _=>0),.one (.v (.int .i64 0)),.one (.v (.slice none 0 0)),.one (.v (.slice none 0 0))] 89,ramB (fun _=>0),stoB { Sto.new with now:=f },.cells [.ints (.int .u64) 32 (fL (Rec.new k).words)] 60]
structure NewG where
 i:Nat
 hi:i<=32
def Qqb (k:Int):Ann where
 σ:=NewG
 I g:=([(4,.o (.c (.p 3 0))),(6,.o (.c (.p 0 0))),(24,.o (.a [.ints (.int .u64) 32 (fL (Rec.new k).words)])),(25,sv (.int .i64 g.i))],
   [.cells [.one (.p 1 0),.one (.p 2 0),.one (.v (.pointer none)),.one (.v (.pointer none)),.one (.v (.pointer none)),.one (.v (.pointer none)),.ints (.int .i64) 4 (fun _=>0),.one (.v (.int .i64 0)),.one (.v (.slice none 0 0)),.one (.v (.slice none 0 0))] 89,ramB (fun _=>0),stoB { Sto.new with now:=XX k g.i },.cells [.ints (.int .u64) 32 (fL (Rec.new k).words)] 60])
 dec g:=32-g.i
 pi env M:=msAt M (blkE env 6)++[blkE env 4]
 nz:=[]
abbrev nzE (b:Nat):NZ:=.blk b 11 35 9 [.int .i64,.int .i64,.int .i64,.int .i64,.int .i64,.int .i64,.int .i64,.int .i64,.int .i64]
abbrev nzVd (b:Nat):NZ:=.blk b 12 102 7 [.int .u64,.int .i64,.int .i64,.int .i64,.int .i64,.int .i64,.int .i64]
abbrev nzWA (b:Nat):NZ:=.blk b 41 173 5 [.int .i64,.int .i64,.int .i64,.int .i64,.int .i64]
abbrev nzWD (b:Nat):NZ:=.blk b 42 65 6 [.int .i64,.int .i64,.int .i64,.int .i64,.int .i64,.int .i64]
structure QaW where
 s:Sto
 n:Nat
def Qip:MCon:=dcon QaW (fun s=>s.n<9) (fun s=>[.c (.p 0 0),.c (.v (.int .i64 (s.n:Int)))]) (fun s=>[stoB s.s]) (fun s=>.o (.c (.v .nilIface))) (fun s=>[stoB (s.s.evict s.n)]) 1 (fun args _=>some (blkA args))
theorem Qkf:(Con.mem Qip).holds Tryz.prog 66:=by
 intro w0 S
 have h:=QhL w0 S
 refine⟨h.1,fun x0 hx s x=>⟨rfl,trivial⟩,fun ρ ⟨s,n⟩ w hp hK HM=>(h.2.2 ρ ⟨s,n⟩ w trivial hK HM).mono ?_⟩
 have hp:n<9:=hp
 have e1:decide ((0:Int)<=(n:Int)/\(n:Int)<9)=true:=decide_eq_true (by omega)
 have ev:QbH.val ⟨s,n⟩ ()=.o (.c (.v .nilIface)):=by
  show SV.o (.c (.v (bif decide ((0:Int)<=(n:Int)/\(n:Int)<9)then _ else _)))=_
  rw[e1];rfl
 have em:QbH.mem' ⟨s,n⟩ ()=[stoB (s.evict n)]:=by
  show [stoB (bif decide ((0:Int)<=(n:Int)/\(n:Int)<9)then s.evict (n:Int).toNat else s)]=_
  rw[e1,Int.toNat_natCast];rfl
 rintro e w' ⟨⟨⟩,ρ',h1,h2,h3,h4,h5⟩
 refine⟨(),ρ',trivial,h2,rfl,?_,?_⟩
 · rw[h4,ev];rfl
 · rw[em]at h5;exact h5
theorem evict4 (k:Int) {A:Sto}(hA:A={ Sto.new with now:=XX k 32 }):(((A.evict 1).evict 2).evict 3).evict 4={ Sto.new with now:=XX k 32,good:=XX k 32 }:=by
 have e2:((((A.evict 1).evict 2).evict 3).evict 4).good=XX k 32:=funext fun j=>by
  subst hA
  show (bif decide (j/8=4)then XX k 32 j else bif decide (j/8=3)then XX k 32 j else bif decide (j/8=2)then XX k 32 j else bif decide (j/8=1)then XX k 32 j else 0)=XX k 32 j
  by_cases h:8<=j/\j<40
  · rcases (show j/8=1\/j/8=2\/j/8=3\/j/8=4 by omega)with h|h|h|h<;>rw[h]<;>rfl
  · rw[QcA k j (by omega),decide_eq_false (show ¬j/8=4 by omega),decide_eq_false (show ¬j/8=3 by omega),decide_eq_false (show ¬j/8=2 by omega),decide_eq_false (show ¬j/8=1 by omega)];rfl
 show (⟨A.now,((((A.evict 1).evict 2).evict 3).evict 4).good,A.want,A.fl,A.fe⟩:Sto)=_
 rw[e2,hA]
def Qqx:SV->List SB->List Nat
 |.t [.c (.p b _),_],M=>shAt M b
 |_,_=>[]
def newS0 (k:Int):ShS:=⟨Sh.new k,fun _=>⟨0,0,false,fun _ _=>0,0,0,false,fun _ _=>0⟩,0,0,false,fun _ _=>0,0,0,false,fun _ _=>0⟩
theorem QkC (k:Int):(newS0 k).good:=⟨fun t _=>⟨⟨Nat.le_refl _,Nat.le_refl _⟩,fun i hi=>absurd hi (Nat.not_lt_zero _),⟨Nat.le_refl _,Nat.le_refl _⟩,fun i hi=>absurd hi (Nat.not_lt_zero _)⟩,Nat.le_refl _,Nat.le_refl _,IsR.nil _ _ _ _,Nat.le_refl _,Nat.le_refl _,IsR.nil _ _ _ _⟩
attribute [local irreducible] endN
theorem QoN (k:Int) {S:Sto}(hS:S={ Sto.new with now:=XX k 32,good:=XX k 32 }):endN Qhs [nzE 0,nzVd 0,nzWA 4,nzWD 4,nzWA 5,nzWD 5,nzWA 6,nzWD 6,nzWA 7,nzWD 7] Qqx ⟨k⟩ (.t [.c (.p 0 0),.c (.v .nilIface)])
 [.cells [.one (.p 1 0),.one (.p 2 0),.one (.p 4 0),.one (.p 5 0),.one (.p 6 0),.one (.p 7 0),.ints (.int .i64) 4 (fun _=>0),.one (.v (.int .i64 0)),.one (.v (.slice none 0 0)),.one (.v (.slice none 0 0))] 89,ramB (fun _=>0),stoB S,.cells [.ints (.int .u64) 32 (fL (Rec.new k).words)] 60,.cells [.one (.v (.int .i64 0)),.one (.v (.int .i64 0)),.one (.v (.int .i64 0)),.one (.v (.int .i64 0)),.one (.v (.int .i64 0)),.one (.v (.int .i64 0)),.one (.v (.bool false)),.one (.v (.int .i64 0)),.one (.v (.int .u64 0)),.ints (.int .u64) 32 (fun _=>0),.one (.v (.slice none 0 0)),.one (.v (.slice none 0 0)),.ints (.int .u64) 3 (fun _=>0),.one (.v (.int .i64 0)),.one (.v (.int .i64 0)),.one (.v (.int .i64 0))] 95,.cells [.one (.v (.int .i64 1)),.one (.v (.int .i64 0)),.one (.v (.int .i64 0)),.one (.v (.int .i64 0)),.one (.v (.int .i64 0)),.one (.v (.int .i64 0)),.one (.v (.bool false)),.one (.v (.int .i64 0)),.one (.v (.int .u64 0)),.ints (.int .u64) 32 (fun _=>0),.one (.v (.slice none 0 0)),.one (.v (.slice none 0 0)),.ints (.int .u64) 3 (fun _=>0),.one (.v (.int .i64 0)),.one (.v (.int .i64 0)),.one (.v (.int .i64 0))] 95,.cells [.one (.v (.int .i64 2)),.one (.v (.int .i64 0)),.one (.v (.int .i64 0)),.one (.v (.int .i64 0)),.one (.v (.int .i64 0)),.one (.v (.int .i64 0)),.one (.v (.bool false)),.one (.v (.int .i64 0)),.one (.v (.int .u64 0)),.ints (.int .u64) 32 (fun _=>0),.one (.v (.slice none 0 0)),.one (.v (.slice none 0 0)),.ints (.int .u64) 3 (fun _=>0),.one (.v (.int .i64 0)),.one (.v (.int .i64 0)),.one (.v (.int .i64 0))] 95,.cells [.one (.v (.int .i64 3)),.one (.v (.int .i64 0)),.one (.v (.int .i64 0)),.one (.v (.int .i64 0)),.one (.v (.int .i64 0)),.one (.v (.int .i64 0)),.one (.v (.bool false)),.one (.v (.int .i64 0)),.one (.v (.int .u64 0)),.ints (.int .u64) 32 (fun _=>0),.one (.v (.slice none 0 0)),.one (.v (.slice none 0 0)),.ints (.int .u64) 3 (fun _=>0),.one (.v (.int .i64 0)),.one (.v (.int .i64 0)),.one (.v (.int .i64 0))] 95]:=by
 refine Qk (x':=.t [.c (.p 0 0),.c (.v .nilIface)]) (M':=[.cells [.one (.p 1 0),.one (.p 2 0),.one (.p 4 0),.one (.p 5 0),.one (.p 6 0),.one (.p 7 0),.ints (.int .i64) 4 (fun _=>0),.one (.v (.int .i64 0)),.one (.so 8 0 9 0 0 false),.one (.so 9 0 7 0 0 false)] 89,ramB (fun _=>0),stoB S,.cells [.ints (.int .u64) 32 (fL (Rec.new k).words)] 60,.cells [.one (.v (.int .i64 0)),.one (.v (.int .i64 0)),.one (.v (.int .i64 0)),.one (.v (.int .i64 0)),.one (.v (.int .i64 0)),.one (.v (.int .i64 0)),.one (.v (.bool false)),.one (.v (.int .i64 0)),.one (.v (.int .u64 0)),.ints (.int .u64) 32 (fun _=>0),.one (.so 10 0 5 0 0 false),.one (.so 11 0 6 0 0 false),.ints (.int .u64) 3 (fun _=>0),.one (.v (.int .i64 0)),.one (.v (.int .i64 0)),.one (.v (.int .i64 0))] 95,.cells [.one (.v (.int .i64 1)),.one (.v (.int .i64 0)),.one (.v (.int .i64 0)),.one (.v (.int .i64 0)),.one (.v (.int .i64 0)),.one (.v (.int .i64 0)),.one (.v (.bool false)),.one (.v (.int .i64 0)),.one (.v (.int .u64 0)),.ints (.int .u64) 32 (fun _=>0),.one (.so 12 0 5 0 0 false),.one (.so 13 0 6 0 0 false),.ints (.int .u64) 3 (fun _=>0),.one (.v (.int .i64 0)),.one (.v (.int .i64 0)),.one (.v (.int .i64 0))] 95,.cells [.one (.v (.int .i64 2)),.one (.v (.int .i64 0)),.one (.v (.int .i64 0)),.one (.v (.int .i64 0)),.one (.v (.int .i64 0)),.one (.v (.int .i64 0)),.one (.v (.bool false)),.one (.v (.int .i64 0)),.one (.v (.int .u64 0)),.ints (.int .u64) 32 (fun _=>0),.one (.so 14 0 5 0 0 false),.one (.so 15 0 6 0 0 false),.ints (.int .u64) 3 (fun _=>0),.one (.v (.int .i64 0)),.one (.v (.int .i64 0)),.one (.v (.int .i64 0))] 95,.cells [.one (.v (.int .i64 3)),.one (.v (.int .i64 0)),.one (.v (.int .i64 0)),.one (.v (.int .i64 0)),.one (.v (.int .i64 0)),.one (.v (.int .i64 0)),.one (.v (.bool false)),.one (.v (.int .i64 0)),.one (.v (.int .u64 0)),.ints (.int .u64) 32 (fun _=>0),.one (.so 16 0 5 0 0 false),.one (.so 17 0 6 0 0 false),.ints (.int .u64) 3 (fun _=>0),.one (.v (.int .i64 0)),.one (.v (.int .i64 0)),.one (.v (.int .i64 0))] 95,evB 0 0 (fun _ _=>0),vdB 0 0 (fun _ _=>0),wkA 0 0 (fun _ _=>0),wkD 0 0 (fun _ _=>0),wkA 0 0 (fun _ _=>0),wkD 0 0 (fun _ _=>0),wkA 0 0 (fun _ _=>0),wkD 0 0 (fun _ _=>0),wkA 0 0 (fun _ _=>0),wkD 0 0 (fun _ _=>0)]) (by kernel_rfl) (newS0 k) ⟨QkC k,rfl⟩ (by kernel_rfl) (by kernel_rfl) ?_
 subst hS
 kernel_rfl
theorem QoO:(Con.mem Qhs).holds Tryz.prog 43:=by
 intro w0 S
 refine Qc (Γ:=[(63,.pure Qdy),(64,.mem QdY),(65,.mem Xu),(66,.mem Qip)]) (fun _=>noW) Tryz.func43 rfl (by kernel_rfl) Qg Qd (fun w S' _ _=>.cons (Qov w _) (.cons (Qke w S') (.cons (Qac w S') (.cons (Qkf w S') (.nil _ _ _))))) Qhs (fun s=>[(43,[(0,Qqb s.k)])]) (fun x0 h=>by cases h) (fun s ρ w _ _ _=>Qh w _) [nzE 0,nzVd 0,nzWA 4,nzWD 4,nzWA 5,nzWD 5,nzWA 6,nzWD 6,nzWA 7,nzWD 7] Qqx 900 ?_
 rintro⟨k⟩ W ⟨h1,h6⟩ -
 refine⟨rfl,?_⟩
 refine Qj (q:=((1:Int)<=k/\k<=(6:Int))/\∃(s:Unit),([]:List SA)=[]/\eN/\True/\∀(x:Unit),True->(∃(s0:Ann.σ (Qqb k)),(eS (aP 0 0) (aP 0 0)/\eS (aP 3 0) (aP 3 0)/\eS (SA.a [nU 32 (fL (Rec.words (Rec.new k)))]) (SA.a [nU 32 (fL (Rec.words (Rec.new k)))])/\eS (aI 0) (aI ↑s0.1)/\True)/\[SB.cells [sP 1 0,sP 2 0,Seg.one (.v (.pointer none)),Seg.one (.v (.pointer none)),Seg.one (.v (.pointer none)),Seg.one (.v (.pointer none)),nI 4 zF,sI 0,Seg.one (.v (.slice none 0 0)),Seg.one (.v (.slice none 0 0))] 89,SB.cells [nU 16 zF] 124,SB.cells [nU 72 Sto.new.1,nU 72 Sto.new.2,nB 36 Sto.new.3,sI 0,sI 0] 133,SB.cells [nU 32 (fL (Rec.words (Rec.new k)))] 60]=[SB.cells [sP 1 0,sP 2 0,Seg.one (.v (.pointer none)),Seg.one (.v (.pointer none)),Seg.one (.v (.pointer none)),Seg.one (.v (.pointer none)),nI 4 zF,sI 0,Seg.one (.v (.slice none 0 0)),Seg.one (.v (.slice none 0 0))] 89,SB.cells [nU 16 zF] 124,SB.cells [nU 72 (XX k s0.1),nU 72 Sto.new.2,nB 36 Sto.new.3,sI 0,sI 0] 133,SB.cells [nU 32 (fL (Rec.words (Rec.new k)))] 60])/\∀(s:NewG),bif decide ((↑s.1:Int)<(32:Int))then (iR (↑s.1:Int) (32:Int))/\∃(s_1:Xi),[aP 2 0,aI (IntKind.wrap .i64 ((8:Int)+(↑s.1:Int))),aU (fL (Rec.words (Rec.new k)) (Int.toNat (↑s.1:Int)))]=[aP 2 0,aI s_1.2,aU s_1.3]/\[SB.cells [nU 72 (XX k s.1),nU 72 Sto.new.2,nB 36 Sto.new.3,sI 0,sI 0] 133]=[stoB (Xi.s s_1)]/\(iR s_1.2 (72:Int))/\∀(x:Unit),True->∃(s':NewG),((eS (aP 3 0) (aP 3 0)/\eS (aP 0 0) (aP 0 0)/\eS (SA.a [nU 32 (fL (Rec.words (Rec.new k)))]) (SA.a [nU 32 (fL (Rec.words (Rec.new k)))])/\eS (aI (IntKind.wrap .i64 ((↑s.1:Int)+(1:Int)))) (aI ↑s'.1)/\True)/\[SB.cells [sP 1 0,sP 2 0,Seg.one (.v (.pointer none)),Seg.one (.v (.pointer none)),Seg.one (.v (.pointer none)),Seg.one (.v (.pointer none)),nI 4 zF,sI 0,Seg.one (.v (.slice none 0 0)),Seg.one (.v (.slice none 0 0))] 89,SB.cells [nU 16 zF] 124,stoB (Sto.save (Xi.s s_1) (Int.toNat (Xi.a s_1)) (Xi.x s_1)),SB.cells [nU 32 (fL (Rec.words (Rec.new k)))] 60]=[SB.cells [sP 1 0,sP 2 0,Seg.one (.v (.pointer none)),Seg.one (.v (.pointer none)),Seg.one (.v (.pointer none)),Seg.one (.v (.pointer none)),nI 4 zF,sI 0,Seg.one (.v (.slice none 0 0)),Seg.one (.v (.slice none 0 0))] 89,SB.cells [nU 16 zF] 124,SB.cells [nU 72 (XX k s'.1),nU 72 Sto.new.2,nB 36 Sto.new.3,sI 0,sI 0] 133,SB.cells [nU 32 (fL (Rec.words (Rec.new k)))] 60])/\32-s'.1<32-s.1 else ∃(s_1:QaW),[aP 2 0,aI 1]=[aP 2 0,aI ↑s_1.2]/\[SB.cells [nU 72 (XX k s.1),nU 72 Sto.new.2,nB 36 Sto.new.3,sI 0,sI 0] 133]=[stoB (QaW.s s_1)]/\s_1.2<9/\∀(x:Unit),True->∃(s:QaW),[aP 2 0,aI 2]=[aP 2 0,aI ↑s.2]/\[stoB (Sto.evict (QaW.s s_1) (QaW.n s_1))]=[stoB (QaW.s s)]/\s.2<9/\∀(x:Unit),True->∃(s_2:QaW),[aP 2 0,aI 3]=[aP 2 0,aI ↑s_2.2]/\[stoB (Sto.evict (QaW.s s) (QaW.n s))]=[stoB (QaW.s s_2)]/\s_2.2<9/\∀(x:Unit),True->∃(s:QaW),[aP 2 0,aI 4]=[aP 2 0,aI ↑s.2]/\[stoB (Sto.evict (QaW.s s_2) (QaW.n s_2))]=[stoB (QaW.s s)]/\s.2<9/\∀(x:Unit),True->i04/\(iR (1:Int) (4:Int))/\(iR (2:Int) (4:Int))/\(iR (3:Int) (4:Int))/\endN Qhs [nzE 0,nzVd 0,nzWA 4,nzWD 4,nzWA 5,nzWD 5,nzWA 6,nzWD 6,nzWA 7,nzWD 7] Qqx (NewS.mk k) (SV.t [aP 0 0,SA.c (.v Value.nilIface)]) [SB.cells [sP 1 0,sP 2 0,sP 4 0,sP 5 0,sP 6 0,sP 7 0,nI 4 zF,sI 0,Seg.one (.v (.slice none 0 0)),Seg.one (.v (.slice none 0 0))] 89,SB.cells [nU 16 zF] 124,stoB (Sto.evict (QaW.s s) (QaW.n s)),SB.cells [nU 32 (fL (Rec.words (Rec.new k)))] 60,SB.cells [sI 0,sI 0,sI 0,sI 0,sI 0,sI 0,sB false,sI 0,sU 0,nU 32 zF,Seg.one (.v (.slice none 0 0)),Seg.one (.v (.slice none 0 0)),nU 3 zF,sI 0,sI 0,sI 0] 95,SB.cells [sI 1,sI 0,sI 0,sI 0,sI 0,sI 0,sB false,sI 0,sU 0,nU 32 zF,Seg.one (.v (.slice none 0 0)),Seg.one (.v (.slice none 0 0)),nU 3 zF,sI 0,sI 0,sI 0] 95,SB.cells [sI 2,sI 0,sI 0,sI 0,sI 0,sI 0,sB false,sI 0,sU 0,nU 32 zF,Seg.one (.v (.slice none 0 0)),Seg.one (.v (.slice none 0 0)),nU 3 zF,sI 0,sI 0,sI 0] 95,SB.cells [sI 3,sI 0,sI 0,sI 0,sI 0,sI 0,sB false,sI 0,sU 0,nU 32 zF,Seg.one (.v (.slice none 0 0)),Seg.one (.v (.slice none 0 0)),nU 3 zF,sI 0,sI 0,sI 0] 95]) (by kernel_rfl) ?_
 have h1:1<=k:=h1
 have h6:k<=6:=h6
 refine⟨⟨h1,h6⟩,(),rfl,rfl,trivial,fun _ _=>⟨⟨⟨0,by decide⟩,⟨rfl,rfl,rfl,rfl,trivial⟩,?_⟩,?_⟩⟩
 · exact congrArg (newM k) (QkM k).symm
 rintro⟨i,hi⟩
 dsimp only at hi ⊢
 refine Qr (fun hlt=>?_) (fun hge=>?_)
 · have ea:IntKind.wrap .i64 (8+(i:Int))=((8+i:Nat):Int):=by rw[QB (by omega) (by omega)];omega
   rw[ea]
   exact⟨⟨by omega,by omega⟩,⟨{ Sto.new with now:=XX k i },((8+i:Nat):Int),fL (Rec.new k).words i⟩,rfl,rfl,⟨(by omega:(0:Int)<=((8+i:Nat):Int)),(by omega:((8+i:Nat):Int)<72)⟩,fun _ _=>⟨⟨i+1,by omega⟩,⟨⟨rfl,rfl,rfl,svI (sucI (by omega)),trivial⟩,congrArg (newM k) (QkN k i)⟩,by dsimp only;omega⟩⟩
 · obtain rfl:i=32:=by omega
   obtain⟨A,hA⟩:∃A:Sto,A={ Sto.new with now:=XX k 32 }:=⟨_,rfl⟩
   exact⟨⟨A,1⟩,rfl,by rw[hA];rfl,(by decide:1<9),fun _ _=>⟨⟨A.evict 1,2⟩,rfl,rfl,(by decide:2<9),fun _ _=>⟨⟨(A.evict 1).evict 2,3⟩,rfl,rfl,(by decide:3<9),fun _ _=>⟨⟨((A.evict 1).evict 2).evict 3,4⟩,rfl,rfl,(by decide:4<9),fun _ _=>⟨⟨by decide,by decide⟩,⟨by decide,by decide⟩,⟨by decide,by decide⟩,⟨by decide,by decide⟩,QoN k (evict4 k hA)⟩⟩⟩⟩⟩
def Qja:MCon where
 σ:=NewS
 χ:=List Nat
 pre s:=1<=s.k/\s.k<=6
 args s:=[.c (.v (.int .i64 s.k))]
 mem _:=[]
 ok _ _:=True
 val _ _:=.t [.c (.p 0 0),.c (.v .nilIface)]
 mem' s F:=[.abs (Qz shM ShS.z ShS.good (Sh.new s.k)) F]
 k:=0
 len:=1
 det:=none
 find _ _:=some []
theorem newH:(Con.mem Qja).holds Tryz.prog 43:=by
 intro w0 S
 have h:=QoO w0 S
 refine⟨h.1,fun x0 h=>(by cases h),fun ρ s w hp hK HM=>(h.2.2 ρ s w hp hK HM).mono ?_⟩
 rintro e w' ⟨x,ρ',⟨hg,hz⟩,hag,hlen,rfl,HM'⟩
 have HM':Mem w (feet (denM ρ 0 [])) (denM ρ' 0 (shM x)) w':=HM'
 refine⟨feetL (denM ρ' 0 (shM x)),ρ',trivial,fun i hi=>absurd hi (Nat.not_lt_zero _),rfl,rfl,?_⟩
 show Mem w (feet (denM ρ 0 [])) [En.abs (ρ' 0) (Qz shM ShS.z ShS.good (Sh.new s.k)) (feetL (denM ρ' 0 (shM x)))] w'
 refine⟨HM'.kept,fun e he=>?_,fun e he g hg=>?_,List.pairwise_singleton _ _⟩
 · obtain rfl:=List.mem_singleton.1 he
   exact⟨x,ρ',hz,hg,rfl,⟨Kept.refl _ _,fun e he=>HM'.holds e he,fun e he g hg=>.inl ⟨e,he,hg⟩,HM'.dist⟩,fun g=>(feetL_iff _ g).symm⟩
 · obtain rfl:=List.mem_singleton.1 he
   obtain⟨e',he',hf'⟩:=(feetL_iff _ g).1 hg
   exact HM'.own e' he' g hf'
end
section
open Go.RowKit
def craC:TCon Sh Int Unit where
 pre z l:=Qlx z l
 args l:=[.c (.v (.int .u64 l))]
 ok _ _ _:=True
 next z l _:=z.crash l
 val _ _ _ _:=.t []
 new _ _ _ _:=[]
 len:=0
abbrev Q3:MCon:=craC.low shM ShS.z ShS.good 17 7 Qcv
structure CraG (z:Sh) (l:Int) where
 n:Nat
 mh:Nat
 ch:Nat
 nh:Bool
 zh:Nat->Nat->Int
 hn:n<=z.deeds.length
 hu:upTo (Qu l z.s 0) (z.deeds.take n)=upTo (Qu l z.s 0) z.deeds
 lh:Nat
 hl:lh=z.hist.length+1
 h1:lh<=mh
 h2:mh<=ch
 h:IsE zh (z.hist++[⟨3,0,0,0,0,0,0,0,z.steps+1⟩])
def Qqf (s:ShS) (l:Int):Ann where
 σ:=CraG s.z l
 I g:=([(0,.o (.c (.p 0 0))),(4,sv (.int .i64 (Qu l s.z.s 0))),(5,sv (.int .i64 ((g.n:Int)-1)))],
   shX (putF (fun _=>0) 1 (Qu l s.z.s 0)) (s.z.s.crash l) s.z.w s.z.tog (s.z.steps+1) s.r g.lh g.mh g.ch g.nh g.zh g.n s.mv s.cv s.nv s.zv)
 dec g:=g.n
 pi env M:=shAt M 0
 nz:=[]
theorem QlG {l:List Vd}{n:Nat}(h0:0<n) (hn:n<=l.length):l.take n=l.take (n-1)++[l.getD (n-1) Vd.nil]:=by
 obtain⟨m,rfl⟩:∃m,n=m+1:=⟨n-1,by omega⟩
 rw[Nat.add_sub_cancel,List.take_add_one,List.getElem?_eq_getElem (by omega),Option.toList_some,List.getD_eq_getElem?_getD,List.getElem?_eq_getElem (by omega)];rfl
theorem Qqm {v:Int}{l:List Vd}{d:Vd}(h:v<d.ver):upTo v (l++[d])=upTo v l:=by
 unfold upTo
 rw[List.reverse_append]
 show (List.dropWhile _ (d::l.reverse)).reverse=_
 rw[List.dropWhile_cons_of_pos (by simpa using h)]
theorem Qql {v:Int}{l:List Vd}{d:Vd}(h:¬v<d.ver):upTo v (l++[d])=l++[d]:=by
 unfold upTo
 rw[List.reverse_append]
 show (List.dropWhile _ (d::l.reverse)).reverse=_
 rw[List.dropWhile_cons_of_neg (by simpa using h),List.reverse_cons,List.reverse_reverse]
def agW (a:Bool) (w:Wk):Wk:=bif a then Wk.call w.th w.k w.key w.x w.tog true else w
def agR (a:Bool) (r:WkR):WkR:=bif a then ⟨0,0,false,fun _ _=>0,0,0,false,fun _ _=>0⟩else r
def agH (a:Bool) (w:Wk):Prop:=if a then w.does≠0 else w.does=0
theorem Qe1 {a:Bool}{w:Wk}(h:agH a w):w.again=agW a w:=by
 unfold Wk.again
 cases a
 · exact if_pos h
 · exact if_neg h
theorem Qfn {a:Bool}{w:Wk}{r:WkR}(h:(wkS w r).good):(wkS (agW a w) (agR a r)).good:=by
 cases a
 · exact h
 · exact⟨⟨Nat.le_refl _,Nat.le_refl _⟩,fun i hi=>absurd hi (Nat.not_lt_zero _),⟨Nat.le_refl _,Nat.le_refl _⟩,fun i hi=>absurd hi (Nat.not_lt_zero _)⟩
def sel4 {α:Type}(x0 x1 x2 x3:α):Nat->α
 |0=>x0
 |1=>x1
 |2=>x2
 |_=>x3
theorem QA {z:Sh}{r:Nat->WkR}{mh ch:Nat}{nh:Bool}{zh:Nat->Nat->Int}{mv cv:Nat}{nv:Bool}{zv:Nat->Nat->Int}{l:Int}(h0:(⟨z,r,mh,ch,nh,zh,mv,cv,nv,zv⟩:ShS).good)
 {n lh mh' ch':Nat}{nh':Bool}{zh':Nat->Nat->Int}(hn:n<=z.deeds.length) (hz:z.deeds.take n=upTo (Qu l z.s 0) z.deeds) (hl:lh=z.hist.length+1) (g1:lh<=mh') (g2:mh'<=ch') (g3:IsE zh' (z.hist++[⟨3,0,0,0,0,0,0,0,z.steps+1⟩]))
 {a0 a1 a2 a3:Bool}{M:List SB}(hc:(nodB (shAt M 0)&&Qa1 M.length (shAt M 0)&&idB 0 7 (shAt M 0))=true)
 (hM:(shAt M 0).map (getB M)=(shX (putF (fun _=>0) 1 (Qu l z.s 0)) (z.s.crash l) (sel4 (agW a0 (z.w 0)) (agW a1 (z.w 1)) (agW a2 (z.w 2)) (agW a3 (z.w 3))) z.tog (z.steps+1) (sel4 (agR a0 (r 0)) (agR a1 (r 1)) (agR a2 (r 2)) (agR a3 (r 3))) lh mh' ch' nh' zh' n mv cv nv zv).map (SB.ren (ofL (shAt M 0))))
 (e0:agH a0 (z.w 0)) (e1:agH a1 (z.w 1)) (e2:agH a2 (z.w 2)) (e3:agH a3 (z.w 3)):
 endN Q3 [] (fun (x:SV) (M:List SB)=>shAt M 0) (⟨z,r,mh,ch,nh,zh,mv,cv,nv,zv⟩,l) (SV.t []) M:=by
 have hw:=h0.w
 have v1:=h0.v1
 have v2:=h0.v2
 dsimp only at hw v1 v2
 refine Qk rfl ⟨⟨z.crash l,sel4 (agR a0 (r 0)) (agR a1 (r 1)) (agR a2 (r 2)) (agR a3 (r 3)),mh',ch',nh',zh',mv,cv,nv,zv⟩,()⟩ ⟨⟨fun t ht=>?_,?_,g2,g3,?_,v2,?_⟩,rfl,trivial⟩ ?_ rfl ?_
 · rcases (show t=0\/t=1\/t=2\/t=3 by omega)with rfl|rfl|rfl|rfl
   · show (wkS ((z.w 0).again) (agR a0 (r 0))).good
     rw[Qe1 e0];exact Qfn (hw 0 (by decide))
   · show (wkS ((z.w 1).again) (agR a1 (r 1))).good
     rw[Qe1 e1];exact Qfn (hw 1 (by decide))
   · show (wkS ((z.w 2).again) (agR a2 (r 2))).good
     rw[Qe1 e2];exact Qfn (hw 2 (by decide))
   · show (wkS ((z.w 3).again) (agR a3 (r 3))).good
     rw[Qe1 e3];exact Qfn (hw 3 (by decide))
 · show (z.hist++[_]).length<=mh'
   rw[List.length_append]
   show z.hist.length+1<=mh'
   omega
 · show (upTo (Qu l z.s 0) z.deeds).length<=mv
   rw[<- hz,List.length_take];omega
 · show IsV zv (upTo (Qu l z.s 0) z.deeds)
   rw[<- hz];exact IsR.take h0.v n
 · simp only[Bool.and_eq_true]at hc ⊢
   exact⟨⟨⟨hc,rfl⟩,rfl⟩,rfl⟩
 · refine hM.trans (congrArg (List.map _) ?_)
   show _=shX (putF (fun _=>0) 1 (Qu l z.s 0)) (z.s.crash l) (fun t=>(z.w t).again) z.tog (z.steps+1) (sel4 (agR a0 (r 0)) (agR a1 (r 1)) (agR a2 (r 2)) (agR a3 (r 3))) (z.hist++[_]).length mh' ch' nh' zh' (upTo (Qu l z.s 0) z.deeds).length mv cv nv zv++[]
   rw[<- hz,List.length_take,Nat.min_eq_left hn,List.length_append,List.append_nil,hl]
   dsimp only[shX]
   rw[Qe1 e0,Qe1 e1,Qe1 e2,Qe1 e3];rfl
theorem Qq1:(Con.mem Q3).holds Tryz.prog 42:=by
 intro w0 S
 refine Qc (Γ:=[(60,.mem (QdZ true)),(61,.mem Qfl),(26,.inl Tryz.f26 (Tryz.f26.body.getD .skip)),(49,.mem QL),(62,.mem Xl),(47,.mem (Qbz true))]) (fun _=>noW) Tryz.func42 rfl (by kernel_rfl) Qg Qd (fun w S' _ _=>.cons (QhM w S') (.cons (QnC w S') (.cons ⟨by kernel_rfl,rfl,rfl⟩ (.cons (QO w S') (.cons (Qae w S') (.cons (QnF w S') (.nil _ _ _))))))) Q3 (fun s=>[(42,[(0,Qqf s.1 s.2)])]) (fun x0 h=>by cases h) (fun s ρ w _ _ _=>Qh w _) [] (fun _ M=>shAt M 0) 600 ?_
 rintro⟨⟨z,r,mh,ch,nh,zh,mv,cv,nv,zv⟩,l⟩ W ⟨h0,h1⟩ -
 refine⟨rfl,?_⟩
 dsimp only
 refine Qj (q:=dP Tryz.f42 1 17 [⟨11,[17],[15,18],[],true⟩,⟨10,[],[17],[17],false⟩,xE 9,xR 8 0,xF 7 0,xF 6 0,xF 5 0,⟨4,[0],[],[15],false⟩,xF 3 0,xF 2 0,xF 1 0,xF 0 0]/\((List.length z.6<=mh/\ch=ch)/\(1<=1/\1=1)/\List.length z.6+1<=68719476736)/\∀(c:Nat),List.length z.6+1<=c->dP Tryz.f42 1 17 [⟨14,[],[0],[1,2,3,4,5,6,18,16],false⟩,xF 13 0,xF 12 0,⟨11,[17],[15,18],[18],true⟩,⟨10,[],[17],[17],false⟩,xE 9,xR 8 0,xF 7 0,xF 6 0,xF 5 0,⟨4,[0],[],[15],false⟩,xF 3 0,xF 2 0,xF 1 0,xF 0 0]/\∃(s:QbK),[aP 2 0,aU l]=[aP 2 0,aU s.2]/\[stoB (Sh.s z)]=[stoB (QbK.s s)]/\U64 s.2/\∀(x:Unit),True->∃(s_1:Nat->Int),[aP 1 0]=[aP 1 0]/\[ramB z.1]=[ramB s_1]/\True/\∀(x:Unit),True->∃(s_2:Qv),[aP 2 0,aI 0]=[aP 2 0,aI s_2.2]/\[stoB (bif true then Sto.crash (QbK.s s) (QbK.l s)else have __src:=crTo s 9;Sto.mk (Sto.now __src) (Sto.good __src) (zF) (Sto.fl __src) (Sto.fe __src))]=[stoB (Qv.s s_2)]/\(iR s_2.2 (72:Int))/\∀(x:Unit),True->∃(s:Qa8),[aP 1 0,aI 1,aU (IntKind.wrap .u64 (IntKind.wrap .i64 ((Qv.s s_2).1 (Int.toNat s_2.2))))]=[aP 1 0,aI s.2,aU s.3]/\[SB.cells [nU 16 zF] 124]=[ramB s.1]/\(iR s.2 (16:Int))/\∀(x:Unit),True->List.length z.7<=cv/\(∃(s0:Ann.σ (Qqf (ShS.mk z r mh ch nh zh mv cv nv zv) l)),(eS (aP 0 0) (aP 0 0)/\eS (aI (IntKind.wrap .i64 ((Qv.s s_2).1 (Int.toNat s_2.2)))) (aI (Qu l z.2 0))/\eS (aI (IntKind.wrap .i64 ((↑(List.length z.7):Int)-(1:Int)))) (aI ((↑s0.1:Int)-(1:Int)))/\True)/\(shI (shD z.4 (IntKind.wrap .i64 (z.5+(1:Int))) 18 (List.length z.6+1) c nh 16 (List.length z.7) cv nv) (putF s.1 (Int.toNat s.2) s.3) (Qv.s s_2) (stX (Sh.w z) r) (stA r) (stD r) (evB (List.length z.6+1) c fun (i j:Nat)=>bif Nat.ble (i+1) (List.length z.6)then zh i j else match List.get?Internal (match List.get?Internal [[(3:Int),(0:Int),(0:Int),(0:Int),(0:Int),(0:Int),(0:Int),(0:Int),IntKind.wrap .i64 (z.5+(1:Int))]] (0+(i-List.length z.6))with|some x=>x|none=>[]) j with|some x=>x|none=>(0:Int)) (vdB mv cv zv) [])=(shI (shD z.4 (z.5+(1:Int)) 18 s0.8 s0.3 s0.4 16 s0.1 cv nv) (putF (zF) 1 (Qu l z.2 0)) (Sto.crash (Sh.s z) l) (stX (Sh.w z) r) (stA r) (stD r) (evB s0.2 s0.3 s0.5) (vdB mv cv zv) []))/\∀(s:CraG z l),bif decide ((↑s.1:Int)-(1:Int)>=(0:Int))then ((0:Int)<=(↑s.1:Int)-(1:Int)/\(↑s.1:Int)-(1:Int)<(↑s.1:Int)/\0+s.1<=cv)/\0+Int.toNat ((↑s.1:Int)-(1:Int))<mv/\bif decide (zv (0+Int.toNat ((↑s.1:Int)-(1:Int))) 0>IntKind.wrap .u64 (Qu l z.2 0))then ((0:Int)<=(↑s.1:Int)-(1:Int)/\(↑s.1:Int)-(1:Int)<=(↑cv:Int))/\∃(s':CraG z l),((eS (aP 0 0) (aP 0 0)/\eS (aI (Qu l z.2 0)) (aI (Qu l z.2 0))/\eS (aI (IntKind.wrap .i64 ((↑s.1:Int)-(1:Int)-(1:Int)))) (aI ((↑s'.1:Int)-(1:Int)))/\True)/\(shI (shD z.4 (z.5+(1:Int)) 15 s.8 s.3 s.4 16 (Int.toNat ((↑s.1:Int)-(1:Int))) cv nv) (putF (zF) 1 (Qu l z.2 0)) (Sto.crash (Sh.s z) l) (stX (Sh.w z) r) (stA r) (stD r) (evB s.2 s.3 s.5) (vdB mv cv zv) [])=(shI (shD z.4 (z.5+(1:Int)) 15 s'.8 s'.3 s'.4 16 s'.1 cv nv) (putF (zF) 1 (Qu l z.2 0)) (Sto.crash (Sh.s z) l) (stX (Sh.w z) r) (stA r) (stD r) (evB s'.2 s'.3 s'.5) (vdB mv cv zv) []))/\s'.1<s.1 else i04/\bif (Sh.w z 0).2 != (0:Int)then ∃(s_3:Qb),[aP 3 0,SA.a [sI (Sh.w z 0).3,sI (Sh.w z 0).4,sI (Sh.w z 0).5],aI (Sh.w z 0).6,aB true]=[aP 3 0,SA.a [sI s_3.2,sI s_3.3,sI s_3.4],aI s_3.5,aB true]/\[wkR 7 8 (Sh.w z 0) (r 0),waR (r 0),wdR (r 0)]=[wkC 7 8 (WkS.w (Qb.s s_3)) (Qb.s s_3).3 (Qb.s s_3).4 (Qb.s s_3).7 (Qb.s s_3).8,wkA (Qb.s s_3).2 (Qb.s s_3).3 (Qb.s s_3).5,wkD (Qb.s s_3).6 (Qb.s s_3).7 (Qb.s s_3).9]/\True/\∀(x:Unit),True->dP Tryz.f42 14 17 [⟨9,[],[3,7,8,17,18],[17,18],false⟩,xR 8 3,xF 7 3,xF 6 3,xF 5 3,xR 4 3,xF 3 3,xF 2 3,xF 1 3,xF 0 3]/\(iR (1:Int) (4:Int))/\bif (Sh.w z 1).2 != (0:Int)then ∃(s_4:Qb),[aP 4 0,SA.a [sI (Sh.w z 1).3,sI (Sh.w z 1).4,sI (Sh.w z 1).5],aI (Sh.w z 1).6,aB true]=[aP 4 0,SA.a [sI s_4.2,sI s_4.3,sI s_4.4],aI s_4.5,aB true]/\[wkR 9 10 (Sh.w z 1) (r 1),waR (r 1),wdR (r 1)]=[wkC 9 10 (WkS.w (Qb.s s_4)) (Qb.s s_4).3 (Qb.s s_4).4 (Qb.s s_4).7 (Qb.s s_4).8,wkA (Qb.s s_4).2 (Qb.s s_4).3 (Qb.s s_4).5,wkD (Qb.s s_4).6 (Qb.s s_4).7 (Qb.s s_4).9]/\True/\∀(x:Unit),True->dP Tryz.f42 14 19 [⟨9,[],[4,9,10,19,20],[19,20],false⟩,xR 8 4,xF 7 4,xF 6 4,xF 5 4,xR 4 4,xF 3 4,xF 2 4,xF 1 4,xF 0 4]/\(iR (2:Int) (4:Int))/\bif (Sh.w z 2).2 != (0:Int)then ∃(s_5:Qb),[aP 5 0,SA.a [sI (Sh.w z 2).3,sI (Sh.w z 2).4,sI (Sh.w z 2).5],aI (Sh.w z 2).6,aB true]=[aP 5 0,SA.a [sI s_5.2,sI s_5.3,sI s_5.4],aI s_5.5,aB true]/\[wkR 11 12 (Sh.w z 2) (r 2),waR (r 2),wdR (r 2)]=[wkC 11 12 (WkS.w (Qb.s s_5)) (Qb.s s_5).3 (Qb.s s_5).4 (Qb.s s_5).7 (Qb.s s_5).8,wkA (Qb.s s_5).2 (Qb.s s_5).3 (Qb.s s_5).5,wkD (Qb.s s_5).6 (Qb.s s_5).7 (Qb.s s_5).9]/\True/\∀(x:Unit),True->dP Tryz.f42 14 21 [⟨9,[],[5,11,12,21,22],[21,22],false⟩,xR 8 5,xF 7 5,xF 6 5,xF 5 5,xR 4 5,xF 3 5,xF 2 5,xF 1 5,xF 0 5]/\(iR (3:Int) (4:Int))/\bif (Sh.w z 3).2 != (0:Int)then ∃(s_6:Qb),[aP 6 0,SA.a [sI (Sh.w z 3).3,sI (Sh.w z 3).4,sI (Sh.w z 3).5],aI (Sh.w z 3).6,aB true]=[aP 6 0,SA.a [sI s_6.2,sI s_6.3,sI s_6.4],aI s_6.5,aB true]/\[wkR 13 14 (Sh.w z 3) (r 3),waR (r 3),wdR (r 3)]=[wkC 13 14 (WkS.w (Qb.s s_6)) (Qb.s s_6).3 (Qb.s s_6).4 (Qb.s s_6).7 (Qb.s s_6).8,wkA (Qb.s s_6).2 (Qb.s s_6).3 (Qb.s s_6).5,wkD (Qb.s s_6).6 (Qb.s s_6).7 (Qb.s s_6).9]/\True/\∀(x:Unit),True->dP Tryz.f42 14 23 [⟨9,[],[6,13,14,23,24],[23,24],false⟩,xR 8 6,xF 7 6,xF 6 6,xF 5 6,xR 4 6,xF 3 6,xF 2 6,xF 1 6,xF 0 6]/\endN Q3 [] (fun (x:SV) (M:List SB)=>shAt M 0) (ShS.mk z r mh ch nh zh mv cv nv zv,l) (SV.t []) (shI (shD z.4 (z.5+(1:Int)) 15 s.8 s.3 s.4 16 s.1 cv nv) (putF (zF) 1 (Qu l z.2 0)) (Sto.crash (Sh.s z) l) (setF (setF (setF (setF (stX (Sh.w z) r) 0 (wkZ 17 18 (wcA s_3))) 1 (wkZ 19 20 (wcA s_4))) 2 (wkZ 21 22 (wcA s_5))) 3 (wkZ 23 24 (wcA s_6))) (setF (setF (setF (setF (stA r) 0 SB.gone) 1 SB.gone) 2 SB.gone) 3 SB.gone) (setF (setF (setF (setF (stD r) 0 SB.gone) 1 SB.gone) 2 SB.gone) 3 SB.gone) (evB s.2 s.3 s.5) (vdB mv cv zv) [wa0,wd0,wa0,wd0,wa0,wd0,wa0,wd0])else endN Q3 [] (fun (x:SV) (M:List SB)=>shAt M 0) (ShS.mk z r mh ch nh zh mv cv nv zv,l) (SV.t []) (shI (shD z.4 (z.5+(1:Int)) 15 s.8 s.3 s.4 16 s.1 cv nv) (putF (zF) 1 (Qu l z.2 0)) (Sto.crash (Sh.s z) l) (setF (setF (setF (stX (Sh.w z) r) 0 (wkZ 17 18 (wcA s_3))) 1 (wkZ 19 20 (wcA s_4))) 2 (wkZ 21 22 (wcA s_5))) (setF (setF (setF (stA r) 0 SB.gone) 1 SB.gone) 2 SB.gone) (setF (setF (setF (stD r) 0 SB.gone) 1 SB.gone) 2 SB.gone) (evB s.2 s.3 s.5) (vdB mv cv zv) [wa0,wd0,wa0,wd0,wa0,wd0])else (iR (3:Int) (4:Int))/\bif (Sh.w z 3).2 != (0:Int)then ∃(s_5:Qb),[aP 6 0,SA.a [sI (Sh.w z 3).3,sI (Sh.w z 3).4,sI (Sh.w z 3).5],aI (Sh.w z 3).6,aB true]=[aP 6 0,SA.a [sI s_5.2,sI s_5.3,sI s_5.4],aI s_5.5,aB true]/\[wkR 13 14 (Sh.w z 3) (r 3),waR (r 3),wdR (r 3)]=[wkC 13 14 (WkS.w (Qb.s s_5)) (Qb.s s_5).3 (Qb.s s_5).4 (Qb.s s_5).7 (Qb.s s_5).8,wkA (Qb.s s_5).2 (Qb.s s_5).3 (Qb.s s_5).5,wkD (Qb.s s_5).6 (Qb.s s_5).7 (Qb.s s_5).9]/\True/\∀(x:Unit),True->dP Tryz.f42 14 21 [⟨9,[],[6,13,14,21,22],[21,22],false⟩,xR 8 6,xF 7 6,xF 6 6,xF 5 6,xR 4 6,xF 3 6,xF 2 6,xF 1 6,xF 0 6]/\endN Q3 [] (fun (x:SV) (M:List SB)=>shAt M 0) (ShS.mk z r mh ch nh zh mv cv nv zv,l) (SV.t []) (shI (shD z.4 (z.5+(1:Int)) 15 s.8 s.3 s.4 16 s.1 cv nv) (putF (zF) 1 (Qu l z.2 0)) (Sto.crash (Sh.s z) l) (setF (setF (setF (stX (Sh.w z) r) 0 (wkZ 17 18 (wcA s_3))) 1 (wkZ 19 20 (wcA s_4))) 3 (wkZ 21 22 (wcA s_5))) (setF (setF (setF (stA r) 0 SB.gone) 1 SB.gone) 3 SB.gone) (setF (setF (setF (stD r) 0 SB.gone) 1 SB.gone) 3 SB.gone) (evB s.2 s.3 s.5) (vdB mv cv zv) [wa0,wd0,wa0,wd0,wa0,wd0])else endN Q3 [] (fun (x:SV) (M:List SB)=>shAt M 0) (ShS.mk z r mh ch nh zh mv cv nv zv,l) (SV.t []) (shI (shD z.4 (z.5+(1:Int)) 15 s.8 s.3 s.4 16 s.1 cv nv) (putF (zF) 1 (Qu l z.2 0)) (Sto.crash (Sh.s z) l) (setF (setF (stX (Sh.w z) r) 0 (wkZ 17 18 (wcA s_3))) 1 (wkZ 19 20 (wcA s_4))) (setF (setF (stA r) 0 SB.gone) 1 SB.gone) (setF (setF (stD r) 0 SB.gone) 1 SB.gone) (evB s.2 s.3 s.5) (vdB mv cv zv) [wa0,wd0,wa0,wd0])else (iR (2:Int) (4:Int))/\bif (Sh.w z 2).2 != (0:Int)then ∃(s_4:Qb),[aP 5 0,SA.a [sI (Sh.w z 2).3,sI (Sh.w z 2).4,sI (Sh.w z 2).5],aI (Sh.w z 2).6,aB true]=[aP 5 0,SA.a [sI s_4.2,sI s_4.3,sI s_4.4],aI s_4.5,aB true]/\[wkR 11 12 (Sh.w z 2) (r 2),waR (r 2),wdR (r 2)]=[wkC 11 12 (WkS.w (Qb.s s_4)) (Qb.s s_4).3 (Qb.s s_4).4 (Qb.s s_4).7 (Qb.s s_4).8,wkA (Qb.s s_4).2 (Qb.s s_4).3 (Qb.s s_4).5,wkD (Qb.s s_4).6 (Qb.s s_4).7 (Qb.s s_4).9]/\True/\∀(x:Unit),True->dP Tryz.f42 14 19 [⟨9,[],[5,11,12,19,20],[19,20],false⟩,xR 8 5,xF 7 5,xF 6 5,xF 5 5,xR 4 5,xF 3 5,xF 2 5,xF 1 5,xF 0 5]/\(iR (3:Int) (4:Int))/\bif (Sh.w z 3).2 != (0:Int)then ∃(s_5:Qb),[aP 6 0,SA.a [sI (Sh.w z 3).3,sI (Sh.w z 3).4,sI (Sh.w z 3).5],aI (Sh.w z 3).6,aB true]=[aP 6 0,SA.a [sI s_5.2,sI s_5.3,sI s_5.4],aI s_5.5,aB true]/\[wkR 13 14 (Sh.w z 3) (r 3),waR (r 3),wdR (r 3)]=[wkC 13 14 (WkS.w (Qb.s s_5)) (Qb.s s_5).3 (Qb.s s_5).4 (Qb.s s_5).7 (Qb.s s_5).8,wkA (Qb.s s_5).2 (Qb.s s_5).3 (Qb.s s_5).5,wkD (Qb.s s_5).6 (Qb.s s_5).7 (Qb.s s_5).9]/\True/\∀(x:Unit),True->dP Tryz.f42 14 21 [⟨9,[],[6,13,14,21,22],[21,22],false⟩,xR 8 6,xF 7 6,xF 6 6,xF 5 6,xR 4 6,xF 3 6,xF 2 6,xF 1 6,xF 0 6]/\endN Q3 [] (fun (x:SV) (M:List SB)=>shAt M 0) (ShS.mk z r mh ch nh zh mv cv nv zv,l) (SV.t []) (shI (shD z.4 (z.5+(1:Int)) 15 s.8 s.3 s.4 16 s.1 cv nv) (putF (zF) 1 (Qu l z.2 0)) (Sto.crash (Sh.s z) l) (setF (setF (setF (stX (Sh.w z) r) 0 (wkZ 17 18 (wcA s_3))) 2 (wkZ 19 20 (wcA s_4))) 3 (wkZ 21 22 (wcA s_5))) (setF (setF (setF (stA r) 0 SB.gone) 2 SB.gone) 3 SB.gone) (setF (setF (setF (stD r) 0 SB.gone) 2 SB.gone) 3 SB.gone) (evB s.2 s.3 s.5) (vdB mv cv zv) [wa0,wd0,wa0,wd0,wa0,wd0])else endN Q3 [] (fun (x:SV) (M:List SB)=>shAt M 0) (ShS.mk z r mh ch nh zh mv cv nv zv,l) (SV.t []) (shI (shD z.4 (z.5+(1:Int)) 15 s.8 s.3 s.4 16 s.1 cv nv) (putF (zF) 1 (Qu l z.2 0)) (Sto.crash (Sh.s z) l) (setF (setF (stX (Sh.w z) r) 0 (wkZ 17 18 (wcA s_3))) 2 (wkZ 19 20 (wcA s_4))) (setF (setF (stA r) 0 SB.gone) 2 SB.gone) (setF (setF (stD r) 0 SB.gone) 2 SB.gone) (evB s.2 s.3 s.5) (vdB mv cv zv) [wa0,wd0,wa0,wd0])else (iR (3:Int) (4:Int))/\bif (Sh.w z 3).2 != (0:Int)then ∃(s_4:Qb),[aP 6 0,SA.a [sI (Sh.w z 3).3,sI (Sh.w z 3).4,sI (Sh.w z 3).5],aI (Sh.w z 3).6,aB true]=[aP 6 0,SA.a [sI s_4.2,sI s_4.3,sI s_4.4],aI s_4.5,aB true]/\[wkR 13 14 (Sh.w z 3) (r 3),waR (r 3),wdR (r 3)]=[wkC 13 14 (WkS.w (Qb.s s_4)) (Qb.s s_4).3 (Qb.s s_4).4 (Qb.s s_4).7 (Qb.s s_4).8,wkA (Qb.s s_4).2 (Qb.s s_4).3 (Qb.s s_4).5,wkD (Qb.s s_4).6 (Qb.s s_4).7 (Qb.s s_4).9]/\True/\∀(x:Unit),True->dP Tryz.f42 14 19 [⟨9,[],[6,13,14,19,20],[19,20],false⟩,xR 8 6,xF 7 6,xF 6 6,xF 5 6,xR 4 6,xF 3 6,xF 2 6,xF 1 6,xF 0 6]/\endN Q3 [] (fun (x:SV) (M:List SB)=>shAt M 0) (ShS.mk z r mh ch nh zh mv cv nv zv,l) (SV.t []) (shI (shD z.4 (z.5+(1:Int)) 15 s.8 s.3 s.4 16 s.1 cv nv) (putF (zF) 1 (Qu l z.2 0)) (Sto.crash (Sh.s z) l) (setF (setF (stX (Sh.w z) r) 0 (wkZ 17 18 (wcA s_3))) 3 (wkZ 19 20 (wcA s_4))) (setF (setF (stA r) 0 SB.gone) 3 SB.gone) (setF (setF (stD r) 0 SB.gone) 3 SB.gone) (evB s.2 s.3 s.5) (vdB mv cv zv) [wa0,wd0,wa0,wd0])else endN Q3 [] (fun (x:SV) (M:List SB)=>shAt M 0) (ShS.mk z r mh ch nh zh mv cv nv zv,l) (SV.t []) (shI (shD z.4 (z.5+(1:Int)) 15 s.8 s.3 s.4 16 s.1 cv nv) (putF (zF) 1 (Qu l z.2 0)) (Sto.crash (Sh.s z) l) (setF (stX (Sh.w z) r) 0 (wkZ 17 18 (wcA s_3))) (setF (stA r) 0 SB.gone) (setF (stD r) 0 SB.gone) (evB s.2 s.3 s.5) (vdB mv cv zv) [wa0,wd0])else (iR (1:Int) (4:Int))/\bif (Sh.w z 1).2 != (0:Int)then ∃(s_3:Qb),[aP 4 0,SA.a [sI (Sh.w z 1).3,sI (Sh.w z 1).4,sI (Sh.w z 1).5],aI (Sh.w z 1).6,aB true]=[aP 4 0,SA.a [sI s_3.2,sI s_3.3,sI s_3.4],aI s_3.5,aB true]/\[wkR 9 10 (Sh.w z 1) (r 1),waR (r 1),wdR (r 1)]=[wkC 9 10 (WkS.w (Qb.s s_3)) (Qb.s s_3).3 (Qb.s s_3).4 (Qb.s s_3).7 (Qb.s s_3).8,wkA (Qb.s s_3).2 (Qb.s s_3).3 (Qb.s s_3).5,wkD (Qb.s s_3).6 (Qb.s s_3).7 (Qb.s s_3).9]/\True/\∀(x:Unit),True->dP Tryz.f42 14 17 [⟨9,[],[4,9,10,17,18],[17,18],false⟩,xR 8 4,xF 7 4,xF 6 4,xF 5 4,xR 4 4,xF 3 4,xF 2 4,xF 1 4,xF 0 4]/\(iR (2:Int) (4:Int))/\bif (Sh.w z 2).2 != (0:Int)then ∃(s_4:Qb),[aP 5 0,SA.a [sI (Sh.w z 2).3,sI (Sh.w z 2).4,sI (Sh.w z 2).5],aI (Sh.w z 2).6,aB true]=[aP 5 0,SA.a [sI s_4.2,sI s_4.3,sI s_4.4],aI s_4.5,aB true]/\[wkR 11 12 (Sh.w z 2) (r 2),waR (r 2),wdR (r 2)]=[wkC 11 12 (WkS.w (Qb.s s_4)) (Qb.s s_4).3 (Qb.s s_4).4 (Qb.s s_4).7 (Qb.s s_4).8,wkA (Qb.s s_4).2 (Qb.s s_4).3 (Qb.s s_4).5,wkD (Qb.s s_4).6 (Qb.s s_4).7 (Qb.s s_4).9]/\True/\∀(x:Unit),True->dP Tryz.f42 14 19 [⟨9,[],[5,11,12,19,20],[19,20],false⟩,xR 8 5,xF 7 5,xF 6 5,xF 5 5,xR 4 5,xF 3 5,xF 2 5,xF 1 5,xF 0 5]/\(iR (3:Int) (4:Int))/\bif (Sh.w z 3).2 != (0:Int)then ∃(s_5:Qb),[aP 6 0,SA.a [sI (Sh.w z 3).3,sI (Sh.w z 3).4,sI (Sh.w z 3).5],aI (Sh.w z 3).6,aB true]=[aP 6 0,SA.a [sI s_5.2,sI s_5.3,sI s_5.4],aI s_5.5,aB true]/\[wkR 13 14 (Sh.w z 3) (r 3),waR (r 3),wdR (r 3)]=[wkC 13 14 (WkS.w (Qb.s s_5)) (Qb.s s_5).3 (Qb.s s_5).4 (Qb.s s_5).7 (Qb.s s_5).8,wkA (Qb.s s_5).2 (Qb.s s_5).3 (Qb.s s_5).5,wkD (Qb.s s_5).6 (Qb.s s_5).7 (Qb.s s_5).9]/\True/\∀(x:Unit),True->dP Tryz.f42 14 21 [⟨9,[],[6,13,14,21,22],[21,22],false⟩,xR 8 6,xF 7 6,xF 6 6,xF 5 6,xR 4 6,xF 3 6,xF 2 6,xF 1 6,xF 0 6]/\endN Q3 [] (fun (x:SV) (M:List SB)=>shAt M 0) (ShS.mk z r mh ch nh zh mv cv nv zv,l) (SV.t []) (shI (shD z.4 (z.5+(1:Int)) 15 s.8 s.3 s.4 16 s.1 cv nv) (putF (zF) 1 (Qu l z.2 0)) (Sto.crash (Sh.s z) l) (setF (setF (setF (stX (Sh.w z) r) 1 (wkZ 17 18 (wcA s_3))) 2 (wkZ 19 20 (wcA s_4))) 3 (wkZ 21 22 (wcA s_5))) (setF (setF (setF (stA r) 1 SB.gone) 2 SB.gone) 3 SB.gone) (setF (setF (setF (stD r) 1 SB.gone) 2 SB.gone) 3 SB.gone) (evB s.2 s.3 s.5) (vdB mv cv zv) [wa0,wd0,wa0,wd0,wa0,wd0])else endN Q3 [] (fun (x:SV) (M:List SB)=>shAt M 0) (ShS.mk z r mh ch nh zh mv cv nv zv,l) (SV.t []) (shI (shD z.4 (z.5+(1:Int)) 15 s.8 s.3 s.4 16 s.1 cv nv) (putF (zF) 1 (Qu l z.2 0)) (Sto.crash (Sh.s z) l) (setF (setF (stX (Sh.w z) r) 1 (wkZ 17 18 (wcA s_3))) 2 (wkZ 19 20 (wcA s_4))) (setF (setF (stA r) 1 SB.gone) 2 SB.gone) (setF (setF (stD r) 1 SB.gone) 2 SB.gone) (evB s.2 s.3 s.5) (vdB mv cv zv) [wa0,wd0,wa0,wd0])else (iR (3:Int) (4:Int))/\bif (Sh.w z 3).2 != (0:Int)then ∃(s_4:Qb),[aP 6 0,SA.a [sI (Sh.w z 3).3,sI (Sh.w z 3).4,sI (Sh.w z 3).5],aI (Sh.w z 3).6,aB true]=[aP 6 0,SA.a [sI s_4.2,sI s_4.3,sI s_4.4],aI s_4.5,aB true]/\[wkR 13 14 (Sh.w z 3) (r 3),waR (r 3),wdR (r 3)]=[wkC 13 14 (WkS.w (Qb.s s_4)) (Qb.s s_4).3 (Qb.s s_4).4 (Qb.s s_4).7 (Qb.s s_4).8,wkA (Qb.s s_4).2 (Qb.s s_4).3 (Qb.s s_4).5,wkD (Qb.s s_4).6 (Qb.s s_4).7 (Qb.s s_4).9]/\True/\∀(x:Unit),True->dP Tryz.f42 14 19 [⟨9,[],[6,13,14,19,20],[19,20],false⟩,xR 8 6,xF 7 6,xF 6 6,xF 5 6,xR 4 6,xF 3 6,xF 2 6,xF 1 6,xF 0 6]/\endN Q3 [] (fun (x:SV) (M:List SB)=>shAt M 0) (ShS.mk z r mh ch nh zh mv cv nv zv,l) (SV.t []) (shI (shD z.4 (z.5+(1:Int)) 15 s.8 s.3 s.4 16 s.1 cv nv) (putF (zF) 1 (Qu l z.2 0)) (Sto.crash (Sh.s z) l) (setF (setF (stX (Sh.w z) r) 1 (wkZ 17 18 (wcA s_3))) 3 (wkZ 19 20 (wcA s_4))) (setF (setF (stA r) 1 SB.gone) 3 SB.gone) (setF (setF (stD r) 1 SB.gone) 3 SB.gone) (evB s.2 s.3 s.5) (vdB mv cv zv) [wa0,wd0,wa0,wd0])else endN Q3 [] (fun (x:SV) (M:List SB)=>shAt M 0) (ShS.mk z r mh ch nh zh mv cv nv zv,l) (SV.t []) (shI (shD z.4 (z.5+(1:Int)) 15 s.8 s.3 s.4 16 s.1 cv nv) (putF (zF) 1 (Qu l z.2 0)) (Sto.crash (Sh.s z) l) (setF (stX (Sh.w z) r) 1 (wkZ 17 18 (wcA s_3))) (setF (stA r) 1 SB.gone) (setF (stD r) 1 SB.gone) (evB s.2 s.3 s.5) (vdB mv cv zv) [wa0,wd0])else (iR (2:Int) (4:Int))/\bif (Sh.w z 2).2 != (0:Int)then ∃(s_3:Qb),[aP 5 0,SA.a [sI (Sh.w z 2).3,sI (Sh.w z 2).4,sI (Sh.w z 2).5],aI (Sh.w z 2).6,aB true]=[aP 5 0,SA.a [sI s_3.2,sI s_3.3,sI s_3.4],aI s_3.5,aB true]/\[wkR 11 12 (Sh.w z 2) (r 2),waR (r 2),wdR (r 2)]=[wkC 11 12 (WkS.w (Qb.s s_3)) (Qb.s s_3).3 (Qb.s s_3).4 (Qb.s s_3).7 (Qb.s s_3).8,wkA (Qb.s s_3).2 (Qb.s s_3).3 (Qb.s s_3).5,wkD (Qb.s s_3).6 (Qb.s s_3).7 (Qb.s s_3).9]/\True/\∀(x:Unit),True->dP Tryz.f42 14 17 [⟨9,[],[5,11,12,17,18],[17,18],false⟩,xR 8 5,xF 7 5,xF 6 5,xF 5 5,xR 4 5,xF 3 5,xF 2 5,xF 1 5,xF 0 5]/\(iR (3:Int) (4:Int))/\bif (Sh.w z 3).2 != (0:Int)then ∃(s_4:Qb),[aP 6 0,SA.a [sI (Sh.w z 3).3,sI (Sh.w z 3).4,sI (Sh.w z 3).5],aI (Sh.w z 3).6,aB true]=[aP 6 0,SA.a [sI s_4.2,sI s_4.3,sI s_4.4],aI s_4.5,aB true]/\[wkR 13 14 (Sh.w z 3) (r 3),waR (r 3),wdR (r 3)]=[wkC 13 14 (WkS.w (Qb.s s_4)) (Qb.s s_4).3 (Qb.s s_4).4 (Qb.s s_4).7 (Qb.s s_4).8,wkA (Qb.s s_4).2 (Qb.s s_4).3 (Qb.s s_4).5,wkD (Qb.s s_4).6 (Qb.s s_4).7 (Qb.s s_4).9]/\True/\∀(x:Unit),True->dP Tryz.f42 14 19 [⟨9,[],[6,13,14,19,20],[19,20],false⟩,xR 8 6,xF 7 6,xF 6 6,xF 5 6,xR 4 6,xF 3 6,xF 2 6,xF 1 6,xF 0 6]/\endN Q3 [] (fun (x:SV) (M:List SB)=>shAt M 0) (ShS.mk z r mh ch nh zh mv cv nv zv,l) (SV.t []) (shI (shD z.4 (z.5+(1:Int)) 15 s.8 s.3 s.4 16 s.1 cv nv) (putF (zF) 1 (Qu l z.2 0)) (Sto.crash (Sh.s z) l) (setF (setF (stX (Sh.w z) r) 2 (wkZ 17 18 (wcA s_3))) 3 (wkZ 19 20 (wcA s_4))) (setF (setF (stA r) 2 SB.gone) 3 SB.gone) (setF (setF (stD r) 2 SB.gone) 3 SB.gone) (evB s.2 s.3 s.5) (vdB mv cv zv) [wa0,wd0,wa0,wd0])else endN Q3 [] (fun (x:SV) (M:List SB)=>shAt M 0) (ShS.mk z r mh ch nh zh mv cv nv zv,l) (SV.t []) (shI (shD z.4 (z.5+(1:Int)) 15 s.8 s.3 s.4 16 s.1 cv nv) (putF (zF) 1 (Qu l z.2 0)) (Sto.crash (Sh.s z) l) (setF (stX (Sh.w z) r) 2 (wkZ 17 18 (wcA s_3))) (setF (stA r) 2 SB.gone) (setF (stD r) 2 SB.gone) (evB s.2 s.3 s.5) (vdB mv cv zv) [wa0,wd0])else (iR (3:Int) (4:Int))/\bif (Sh.w z 3).2 != (0:Int)then ∃(s_3:Qb),[aP 6 0,SA.a [sI (Sh.w z 3).3,sI (Sh.w z 3).4,sI (Sh.w z 3).5],aI (Sh.w z 3).6,aB true]=[aP 6 0,SA.a [sI s_3.2,sI s_3.3,sI s_3.4],aI s_3.5,aB true]/\[wkR 13 14 (Sh.w z 3) (r 3),waR (r 3),wdR (r 3)]=[wkC 13 14 (WkS.w (Qb.s s_3)) (Qb.s s_3).3 (Qb.s s_3).4 (Qb.s s_3).7 (Qb.s s_3).8,wkA (Qb.s s_3).2 (Qb.s s_3).3 (Qb.s s_3).5,wkD (Qb.s s_3).6 (Qb.s s_3).7 (Qb.s s_3).9]/\True/\∀(x:Unit),True->dP Tryz.f42 14 17 [⟨9,[],[6,13,14,17,18],[17,18],false⟩,xR 8 6,xF 7 6,xF 6 6,xF 5 6,xR 4 6,xF 3 6,xF 2 6,xF 1 6,xF 0 6]/\endN Q3 [] (fun (x:SV) (M:List SB)=>shAt M 0) (ShS.mk z r mh ch nh zh mv cv nv zv,l) (SV.t []) (shI (shD z.4 (z.5+(1:Int)) 15 s.8 s.3 s.4 16 s.1 cv nv) (putF (zF) 1 (Qu l z.2 0)) (Sto.crash (Sh.s z) l) (setF (stX (Sh.w z) r) 3 (wkZ 17 18 (wcA s_3))) (setF (stA r) 3 SB.gone) (setF (stD r) 3 SB.gone) (evB s.2 s.3 s.5) (vdB mv cv zv) [wa0,wd0])else endN Q3 [] (fun (x:SV) (M:List SB)=>shAt M 0) (ShS.mk z r mh ch nh zh mv cv nv zv,l) (SV.t []) (shI (shD z.4 (z.5+(1:Int)) 15 s.8 s.3 s.4 16 s.1 cv nv) (putF (zF) 1 (Qu l z.2 0)) (Sto.crash (Sh.s z) l) (stX (Sh.w z) r) (stA r) (stD r) (evB s.2 s.3 s.5) (vdB mv cv zv) [])else i04/\bif (Sh.w z 0).2 != (0:Int)then ∃(s_3:Qb),[aP 3 0,SA.a [sI (Sh.w z 0).3,sI (Sh.w z 0).4,sI (Sh.w z 0).5],aI (Sh.w z 0).6,aB true]=[aP 3 0,SA.a [sI s_3.2,sI s_3.3,sI s_3.4],aI s_3.5,aB true]/\[wkR 7 8 (Sh.w z 0) (r 0),waR (r 0),wdR (r 0)]=[wkC 7 8 (WkS.w (Qb.s s_3)) (Qb.s s_3).3 (Qb.s s_3).4 (Qb.s s_3).7 (Qb.s s_3).8,wkA (Qb.s s_3).2 (Qb.s s_3).3 (Qb.s s_3).5,wkD (Qb.s s_3).6 (Qb.s s_3).7 (Qb.s s_3).9]/\True/\∀(x:Unit),True->dP Tryz.f42 14 17 [⟨9,[],[3,7,8,17,18],[17,18],false⟩,xR 8 3,xF 7 3,xF 6 3,xF 5 3,xR 4 3,xF 3 3,xF 2 3,xF 1 3,xF 0 3]/\(iR (1:Int) (4:Int))/\bif (Sh.w z 1).2 != (0:Int)then ∃(s_4:Qb),[aP 4 0,SA.a [sI (Sh.w z 1).3,sI (Sh.w z 1).4,sI (Sh.w z 1).5],aI (Sh.w z 1).6,aB true]=[aP 4 0,SA.a [sI s_4.2,sI s_4.3,sI s_4.4],aI s_4.5,aB true]/\[wkR 9 10 (Sh.w z 1) (r 1),waR (r 1),wdR (r 1)]=[wkC 9 10 (WkS.w (Qb.s s_4)) (Qb.s s_4).3 (Qb.s s_4).4 (Qb.s s_4).7 (Qb.s s_4).8,wkA (Qb.s s_4).2 (Qb.s s_4).3 (Qb.s s_4).5,wkD (Qb.s s_4).6 (Qb.s s_4).7 (Qb.s s_4).9]/\True/\∀(x:Unit),True->dP Tryz.f42 14 19 [⟨9,[],[4,9,10,19,20],[19,20],false⟩,xR 8 4,xF 7 4,xF 6 4,xF 5 4,xR 4 4,xF 3 4,xF 2 4,xF 1 4,xF 0 4]/\(iR (2:Int) (4:Int))/\bif (Sh.w z 2).2 != (0:Int)then ∃(s_5:Qb),[aP 5 0,SA.a [sI (Sh.w z 2).3,sI (Sh.w z 2).4,sI (Sh.w z 2).5],aI (Sh.w z 2).6,aB true]=[aP 5 0,SA.a [sI s_5.2,sI s_5.3,sI s_5.4],aI s_5.5,aB true]/\[wkR 11 12 (Sh.w z 2) (r 2),waR (r 2),wdR (r 2)]=[wkC 11 12 (WkS.w (Qb.s s_5)) (Qb.s s_5).3 (Qb.s s_5).4 (Qb.s s_5).7 (Qb.s s_5).8,wkA (Qb.s s_5).2 (Qb.s s_5).3 (Qb.s s_5).5,wkD (Qb.s s_5).6 (Qb.s s_5).7 (Qb.s s_5).9]/\True/\∀(x:Unit),True->dP Tryz.f42 14 21 [⟨9,[],[5,11,12,21,22],[21,22],false⟩,xR 8 5,xF 7 5,xF 6 5,xF 5 5,xR 4 5,xF 3 5,xF 2 5,xF 1 5,xF 0 5]/\(iR (3:Int) (4:Int))/\bif (Sh.w z 3).2 != (0:Int)then ∃(s_6:Qb),[aP 6 0,SA.a [sI (Sh.w z 3).3,sI (Sh.w z 3).4,sI (Sh.w z 3).5],aI (Sh.w z 3).6,aB true]=[aP 6 0,SA.a [sI s_6.2,sI s_6.3,sI s_6.4],aI s_6.5,aB true]/\[wkR 13 14 (Sh.w z 3) (r 3),waR (r 3),wdR (r 3)]=[wkC 13 14 (WkS.w (Qb.s s_6)) (Qb.s s_6).3 (Qb.s s_6).4 (Qb.s s_6).7 (Qb.s s_6).8,wkA (Qb.s s_6).2 (Qb.s s_6).3 (Qb.s s_6).5,wkD (Qb.s s_6).6 (Qb.s s_6).7 (Qb.s s_6).9]/\True/\∀(x:Unit),True->dP Tryz.f42 14 23 [⟨9,[],[6,13,14,23,24],[23,24],false⟩,xR 8 6,xF 7 6,xF 6 6,xF 5 6,xR 4 6,xF 3 6,xF 2 6,xF 1 6,xF 0 6]/\endN Q3 [] (fun (x:SV) (M:List SB)=>shAt M 0) (ShS.mk z r mh ch nh zh mv cv nv zv,l) (SV.t []) (shI (shD z.4 (z.5+(1:Int)) 15 s.8 s.3 s.4 16 s.1 cv nv) (putF (zF) 1 (Qu l z.2 0)) (Sto.crash (Sh.s z) l) (setF (setF (setF (setF (stX (Sh.w z) r) 0 (wkZ 17 18 (wcA s_3))) 1 (wkZ 19 20 (wcA s_4))) 2 (wkZ 21 22 (wcA s_5))) 3 (wkZ 23 24 (wcA s_6))) (setF (setF (setF (setF (stA r) 0 SB.gone) 1 SB.gone) 2 SB.gone) 3 SB.gone) (setF (setF (setF (setF (stD r) 0 SB.gone) 1 SB.gone) 2 SB.gone) 3 SB.gone) (evB s.2 s.3 s.5) (vdB mv cv zv) [wa0,wd0,wa0,wd0,wa0,wd0,wa0,wd0])else endN Q3 [] (fun (x:SV) (M:List SB)=>shAt M 0) (ShS.mk z r mh ch nh zh mv cv nv zv,l) (SV.t []) (shI (shD z.4 (z.5+(1:Int)) 15 s.8 s.3 s.4 16 s.1 cv nv) (putF (zF) 1 (Qu l z.2 0)) (Sto.crash (Sh.s z) l) (setF (setF (setF (stX (Sh.w z) r) 0 (wkZ 17 18 (wcA s_3))) 1 (wkZ 19 20 (wcA s_4))) 2 (wkZ 21 22 (wcA s_5))) (setF (setF (setF (stA r) 0 SB.gone) 1 SB.gone) 2 SB.gone) (setF (setF (setF (stD r) 0 SB.gone) 1 SB.gone) 2 SB.gone) (evB s.2 s.3 s.5) (vdB mv cv zv) [wa0,wd0,wa0,wd0,wa0,wd0])else (iR (3:Int) (4:Int))/\bif (Sh.w z 3).2 != (0:Int)then ∃(s_5:Qb),[aP 6 0,SA.a [sI (Sh.w z 3).3,sI (Sh.w z 3).4,sI (Sh.w z 3).5],aI (Sh.w z 3).6,aB true]=[aP 6 0,SA.a [sI s_5.2,sI s_5.3,sI s_5.4],aI s_5.5,aB true]/\[wkR 13 14 (Sh.w z 3) (r 3),waR (r 3),wdR (r 3)]=[wkC 13 14 (WkS.w (Qb.s s_5)) (Qb.s s_5).3 (Qb.s s_5).4 (Qb.s s_5).7 (Qb.s s_5).8,wkA (Qb.s s_5).2 (Qb.s s_5).3 (Qb.s s_5).5,wkD (Qb.s s_5).6 (Qb.s s_5).7 (Qb.s s_5).9]/\True/\∀(x:Unit),True->dP Tryz.f42 14 21 [⟨9,[],[6,13,14,21,22],[21,22],false⟩,xR 8 6,xF 7 6,xF 6 6,xF 5 6,xR 4 6,xF 3 6,xF 2 6,xF 1 6,xF 0 6]/\endN Q3 [] (fun (x:SV) (M:List SB)=>shAt M 0) (ShS.mk z r mh ch nh zh mv cv nv zv,l) (SV.t []) (shI (shD z.4 (z.5+(1:Int)) 15 s.8 s.3 s.4 16 s.1 cv nv) (putF (zF) 1 (Qu l z.2 0)) (Sto.crash (Sh.s z) l) (setF (setF (setF (stX (Sh.w z) r) 0 (wkZ 17 18 (wcA s_3))) 1 (wkZ 19 20 (wcA s_4))) 3 (wkZ 21 22 (wcA s_5))) (setF (setF (setF (stA r) 0 SB.gone) 1 SB.gone) 3 SB.gone) (setF (setF (setF (stD r) 0 SB.gone) 1 SB.gone) 3 SB.gone) (evB s.2 s.3 s.5) (vdB mv cv zv) [wa0,wd0,wa0,wd0,wa0,wd0])else endN Q3 [] (fun (x:SV) (M:List SB)=>shAt M 0) (ShS.mk z r mh ch nh zh mv cv nv zv,l) (SV.t []) (shI (shD z.4 (z.5+(1:Int)) 15 s.8 s.3 s.4 16 s.1 cv nv) (putF (zF) 1 (Qu l z.2 0)) (Sto.crash (Sh.s z) l) (setF (setF (stX (Sh.w z) r) 0 (wkZ 17 18 (wcA s_3))) 1 (wkZ 19 20 (wcA s_4))) (setF (setF (stA r) 0 SB.gone) 1 SB.gone) (setF (setF (stD r) 0 SB.gone) 1 SB.gone) (evB s.2 s.3 s.5) (vdB mv cv zv) [wa0,wd0,wa0,wd0])else (iR (2:Int) (4:Int))/\bif (Sh.w z 2).2 != (0:Int)then ∃(s_4:Qb),[aP 5 0,SA.a [sI (Sh.w z 2).3,sI (Sh.w z 2).4,sI (Sh.w z 2).5],aI (Sh.w z 2).6,aB true]=[aP 5 0,SA.a [sI s_4.2,sI s_4.3,sI s_4.4],aI s_4.5,aB true]/\[wkR 11 12 (Sh.w z 2) (r 2),waR (r 2),wdR (r 2)]=[wkC 11 12 (WkS.w (Qb.s s_4)) (Qb.s s_4).3 (Qb.s s_4).4 (Qb.s s_4).7 (Qb.s s_4).8,wkA (Qb.s s_4).2 (Qb.s s_4).3 (Qb.s s_4).5,wkD (Qb.s s_4).6 (Qb.s s_4).7 (Qb.s s_4).9]/\True/\∀(x:Unit),True->dP Tryz.f42 14 19 [⟨9,[],[5,11,12,19,20],[19,20],false⟩,xR 8 5,xF 7 5,xF 6 5,xF 5 5,xR 4 5,xF 3 5,xF 2 5,xF 1 5,xF 0 5]/\(iR (3:Int) (4:Int))/\bif (Sh.w z 3).2 != (0:Int)then ∃(s_5:Qb),[aP 6 0,SA.a [sI (Sh.w z 3).3,sI (Sh.w z 3).4,sI (Sh.w z 3).5],aI (Sh.w z 3).6,aB true]=[aP 6 0,SA.a [sI s_5.2,sI s_5.3,sI s_5.4],aI s_5.5,aB true]/\[wkR 13 14 (Sh.w z 3) (r 3),waR (r 3),wdR (r 3)]=[wkC 13 14 (WkS.w (Qb.s s_5)) (Qb.s s_5).3 (Qb.s s_5).4 (Qb.s s_5).7 (Qb.s s_5).8,wkA (Qb.s s_5).2 (Qb.s s_5).3 (Qb.s s_5).5,wkD (Qb.s s_5).6 (Qb.s s_5).7 (Qb.s s_5).9]/\True/\∀(x:Unit),True->dP Tryz.f42 14 21 [⟨9,[],[6,13,14,21,22],[21,22],false⟩,xR 8 6,xF 7 6,xF 6 6,xF 5 6,xR 4 6,xF 3 6,xF 2 6,xF 1 6,xF 0 6]/\endN Q3 [] (fun (x:SV) (M:List SB)=>shAt M 0) (ShS.mk z r mh ch nh zh mv cv nv zv,l) (SV.t []) (shI (shD z.4 (z.5+(1:Int)) 15 s.8 s.3 s.4 16 s.1 cv nv) (putF (zF) 1 (Qu l z.2 0)) (Sto.crash (Sh.s z) l) (setF (setF (setF (stX (Sh.w z) r) 0 (wkZ 17 18 (wcA s_3))) 2 (wkZ 19 20 (wcA s_4))) 3 (wkZ 21 22 (wcA s_5))) (setF (setF (setF (stA r) 0 SB.gone) 2 SB.gone) 3 SB.gone) (setF (setF (setF (stD r) 0 SB.gone) 2 SB.gone) 3 SB.gone) (evB s.2 s.3 s.5) (vdB mv cv zv) [wa0,wd0,wa0,wd0,wa0,wd0])else endN Q3 [] (fun (x:SV) (M:List SB)=>shAt M 0) (ShS.mk z r mh ch nh zh mv cv nv zv,l) (SV.t []) (shI (shD z.4 (z.5+(1:Int)) 15 s.8 s.3 s.4 16 s.1 cv nv) (putF (zF) 1 (Qu l z.2 0)) (Sto.crash (Sh.s z) l) (setF (setF (stX (Sh.w z) r) 0 (wkZ 17 18 (wcA s_3))) 2 (wkZ 19 20 (wcA s_4))) (setF (setF (stA r) 0 SB.gone) 2 SB.gone) (setF (setF (stD r) 0 SB.gone) 2 SB.gone) (evB s.2 s.3 s.5) (vdB mv cv zv) [wa0,wd0,wa0,wd0])else (iR (3:Int) (4:Int))/\bif (Sh.w z 3).2 != (0:Int)then ∃(s_4:Qb),[aP 6 0,SA.a [sI (Sh.w z 3).3,sI (Sh.w z 3).4,sI (Sh.w z 3).5],aI (Sh.w z 3).6,aB true]=[aP 6 0,SA.a [sI s_4.2,sI s_4.3,sI s_4.4],aI s_4.5,aB true]/\[wkR 13 14 (Sh.w z 3) (r 3),waR (r 3),wdR (r 3)]=[wkC 13 14 (WkS.w (Qb.s s_4)) (Qb.s s_4).3 (Qb.s s_4).4 (Qb.s s_4).7 (Qb.s s_4).8,wkA (Qb.s s_4).2 (Qb.s s_4).3 (Qb.s s_4).5,wkD (Qb.s s_4).6 (Qb.s s_4).7 (Qb.s s_4).9]/\True/\∀(x:Unit),True->dP Tryz.f42 14 19 [⟨9,[],[6,13,14,19,20],[19,20],false⟩,xR 8 6,xF 7 6,xF 6 6,xF 5 6,xR 4 6,xF 3 6,xF 2 6,xF 1 6,xF 0 6]/\endN Q3 [] (fun (x:SV) (M:List SB)=>shAt M 0) (ShS.mk z r mh ch nh zh mv cv nv zv,l) (SV.t []) (shI (shD z.4 (z.5+(1:Int)) 15 s.8 s.3 s.4 16 s.1 cv nv) (putF (zF) 1 (Qu l z.2 0)) (Sto.crash (Sh.s z) l) (setF (setF (stX (Sh.w z) r) 0 (wkZ 17 18 (wcA s_3))) 3 (wkZ 19 20 (wcA s_4))) (setF (setF (stA r) 0 SB.gone) 3 SB.gone) (setF (setF (stD r) 0 SB.gone) 3 SB.gone) (evB s.2 s.3 s.5) (vdB mv cv zv) [wa0,wd0,wa0,wd0])else endN Q3 [] (fun (x:SV) (M:List SB)=>shAt M 0) (ShS.mk z r mh ch nh zh mv cv nv zv,l) (SV.t []) (shI (shD z.4 (z.5+(1:Int)) 15 s.8 s.3 s.4 16 s.1 cv nv) (putF (zF) 1 (Qu l z.2 0)) (Sto.crash (Sh.s z) l) (setF (stX (Sh.w z) r) 0 (wkZ 17 18 (wcA s_3))) (setF (stA r) 0 SB.gone) (setF (stD r) 0 SB.gone) (evB s.2 s.3 s.5) (vdB mv cv zv) [wa0,wd0])else (iR (1:Int) (4:Int))/\bif (Sh.w z 1).2 != (0:Int)then ∃(s_3:Qb),[aP 4 0,SA.a [sI (Sh.w z 1).3,sI (Sh.w z 1).4,sI (Sh.w z 1).5],aI (Sh.w z 1).6,aB true]=[aP 4 0,SA.a [sI s_3.2,sI s_3.3,sI s_3.4],aI s_3.5,aB true]/\[wkR 9 10 (Sh.w z 1) (r 1),waR (r 1),wdR (r 1)]=[wkC 9 10 (WkS.w (Qb.s s_3)) (Qb.s s_3).3 (Qb.s s_3).4 (Qb.s s_3).7 (Qb.s s_3).8,wkA (Qb.s s_3).2 (Qb.s s_3).3 (Qb.s s_3).5,wkD (Qb.s s_3).6 (Qb.s s_3).7 (Qb.s s_3).9]/\True/\∀(x:Unit),True->dP Tryz.f42 14 17 [⟨9,[],[4,9,10,17,18],[17,18],false⟩,xR 8 4,xF 7 4,xF 6 4,xF 5 4,xR 4 4,xF 3 4,xF 2 4,xF 1 4,xF 0 4]/\(iR (2:Int) (4:Int))/\bif (Sh.w z 2).2 != (0:Int)then ∃(s_4:Qb),[aP 5 0,SA.a [sI (Sh.w z 2).3,sI (Sh.w z 2).4,sI (Sh.w z 2).5],aI (Sh.w z 2).6,aB true]=[aP 5 0,SA.a [sI s_4.2,sI s_4.3,sI s_4.4],aI s_4.5,aB true]/\[wkR 11 12 (Sh.w z 2) (r 2),waR (r 2),wdR (r 2)]=[wkC 11 12 (WkS.w (Qb.s s_4)) (Qb.s s_4).3 (Qb.s s_4).4 (Qb.s s_4).7 (Qb.s s_4).8,wkA (Qb.s s_4).2 (Qb.s s_4).3 (Qb.s s_4).5,wkD (Qb.s s_4).6 (Qb.s s_4).7 (Qb.s s_4).9]/\True/\∀(x:Unit),True->dP Tryz.f42 14 19 [⟨9,[],[5,11,12,19,20],[19,20],false⟩,xR 8 5,xF 7 5,xF 6 5,xF 5 5,xR 4 5,xF 3 5,xF 2 5,xF 1 5,xF 0 5]/\(iR (3:Int) (4:Int))/\bif (Sh.w z 3).2 != (0:Int)then ∃(s_5:Qb),[aP 6 0,SA.a [sI (Sh.w z 3).3,sI (Sh.w z 3).4,sI (Sh.w z 3).5],aI (Sh.w z 3).6,aB true]=[aP 6 0,SA.a [sI s_5.2,sI s_5.3,sI s_5.4],aI s_5.5,aB true]/\[wkR 13 14 (Sh.w z 3) (r 3),waR (r 3),wdR (r 3)]=[wkC 13 14 (WkS.w (Qb.s s_5)) (Qb.s s_5).3 (Qb.s s_5).4 (Qb.s s_5).7 (Qb.s s_5).8,wkA (Qb.s s_5).2 (Qb.s s_5).3 (Qb.s s_5).5,wkD (Qb.s s_5).6 (Qb.s s_5).7 (Qb.s s_5).9]/\True/\∀(x:Unit),True->dP Tryz.f42 14 21 [⟨9,[],[6,13,14,21,22],[21,22],false⟩,xR 8 6,xF 7 6,xF 6 6,xF 5 6,xR 4 6,xF 3 6,xF 2 6,xF 1 6,xF 0 6]/\endN Q3 [] (fun (x:SV) (M:List SB)=>shAt M 0) (ShS.mk z r mh ch nh zh mv cv nv zv,l) (SV.t []) (shI (shD z.4 (z.5+(1:Int)) 15 s.8 s.3 s.4 16 s.1 cv nv) (putF (zF) 1 (Qu l z.2 0)) (Sto.crash (Sh.s z) l) (setF (setF (setF (stX (Sh.w z) r) 1 (wkZ 17 18 (wcA s_3))) 2 (wkZ 19 20 (wcA s_4))) 3 (wkZ 21 22 (wcA s_5))) (setF (setF (setF (stA r) 1 SB.gone) 2 SB.gone) 3 SB.gone) (setF (setF (setF (stD r) 1 SB.gone) 2 SB.gone) 3 SB.gone) (evB s.2 s.3 s.5) (vdB mv cv zv) [wa0,wd0,wa0,wd0,wa0,wd0])else endN Q3 [] (fun (x:SV) (M:List SB)=>shAt M 0) (ShS.mk z r mh ch nh zh mv cv nv zv,l) (SV.t []) (shI (shD z.4 (z.5+(1:Int)) 15 s.8 s.3 s.4 16 s.1 cv nv) (putF (zF) 1 (Qu l z.2 0)) (Sto.crash (Sh.s z) l) (setF (setF (stX (Sh.w z) r) 1 (wkZ 17 18 (wcA s_3))) 2 (wkZ 19 20 (wcA s_4))) (setF (setF (stA r) 1 SB.gone) 2 SB.gone) (setF (setF (stD r) 1 SB.gone) 2 SB.gone) (evB s.2 s.3 s.5) (vdB mv cv zv) [wa0,wd0,wa0,wd0])else (iR (3:Int) (4:Int))/\bif (Sh.w z 3).2 != (0:Int)then ∃(s_4:Qb),[aP 6 0,SA.a [sI (Sh.w z 3).3,sI (Sh.w z 3).4,sI (Sh.w z 3).5],aI (Sh.w z 3).6,aB true]=[aP 6 0,SA.a [sI s_4.2,sI s_4.3,sI s_4.4],aI s_4.5,aB true]/\[wkR 13 14 (Sh.w z 3) (r 3),waR (r 3),wdR (r 3)]=[wkC 13 14 (WkS.w (Qb.s s_4)) (Qb.s s_4).3 (Qb.s s_4).4 (Qb.s s_4).7 (Qb.s s_4).8,wkA (Qb.s s_4).2 (Qb.s s_4).3 (Qb.s s_4).5,wkD (Qb.s s_4).6 (Qb.s s_4).7 (Qb.s s_4).9]/\True/\∀(x:Unit),True->dP Tryz.f42 14 19 [⟨9,[],[6,13,14,19,20],[19,20],false⟩,xR 8 6,xF 7 6,xF 6 6,xF 5 6,xR 4 6,xF 3 6,xF 2 6,xF 1 6,xF 0 6]/\endN Q3 [] (fun (x:SV) (M:List SB)=>shAt M 0) (ShS.mk z r mh ch nh zh mv cv nv zv,l) (SV.t []) (shI (shD z.4 (z.5+(1:Int)) 15 s.8 s.3 s.4 16 s.1 cv nv) (putF (zF) 1 (Qu l z.2 0)) (Sto.crash (Sh.s z) l) (setF (setF (stX (Sh.w z) r) 1 (wkZ 17 18 (wcA s_3))) 3 (wkZ 19 20 (wcA s_4))) (setF (setF (stA r) 1 SB.gone) 3 SB.gone) (setF (setF (stD r) 1 SB.gone) 3 SB.gone) (evB s.2 s.3 s.5) (vdB mv cv zv) [wa0,wd0,wa0,wd0])else endN Q3 [] (fun (x:SV) (M:List SB)=>shAt M 0) (ShS.mk z r mh ch nh zh mv cv nv zv,l) (SV.t []) (shI (shD z.4 (z.5+(1:Int)) 15 s.8 s.3 s.4 16 s.1 cv nv) (putF (zF) 1 (Qu l z.2 0)) (Sto.crash (Sh.s z) l) (setF (stX (Sh.w z) r) 1 (wkZ 17 18 (wcA s_3))) (setF (stA r) 1 SB.gone) (setF (stD r) 1 SB.gone) (evB s.2 s.3 s.5) (vdB mv cv zv) [wa0,wd0])else (iR (2:Int) (4:Int))/\bif (Sh.w z 2).2 != (0:Int)then ∃(s_3:Qb),[aP 5 0,SA.a [sI (Sh.w z 2).3,sI (Sh.w z 2).4,sI (Sh.w z 2).5],aI (Sh.w z 2).6,aB true]=[aP 5 0,SA.a [sI s_3.2,sI s_3.3,sI s_3.4],aI s_3.5,aB true]/\[wkR 11 12 (Sh.w z 2) (r 2),waR (r 2),wdR (r 2)]=[wkC 11 12 (WkS.w (Qb.s s_3)) (Qb.s s_3).3 (Qb.s s_3).4 (Qb.s s_3).7 (Qb.s s_3).8,wkA (Qb.s s_3).2 (Qb.s s_3).3 (Qb.s s_3).5,wkD (Qb.s s_3).6 (Qb.s s_3).7 (Qb.s s_3).9]/\True/\∀(x:Unit),True->dP Tryz.f42 14 17 [⟨9,[],[5,11,12,17,18],[17,18],false⟩,xR 8 5,xF 7 5,xF 6 5,xF 5 5,xR 4 5,xF 3 5,xF 2 5,xF 1 5,xF 0 5]/\(iR (3:Int) (4:Int))/\bif (Sh.w z 3).2 != (0:Int)then ∃(s_4:Qb),[aP 6 0,SA.a [sI (Sh.w z 3).3,sI (Sh.w z 3).4,sI (Sh.w z 3).5],aI (Sh.w z 3).6,aB true]=[aP 6 0,SA.a [sI s_4.2,sI s_4.3,sI s_4.4],aI s_4.5,aB true]/\[wkR 13 14 (Sh.w z 3) (r 3),waR (r 3),wdR (r 3)]=[wkC 13 14 (WkS.w (Qb.s s_4)) (Qb.s s_4).3 (Qb.s s_4).4 (Qb.s s_4).7 (Qb.s s_4).8,wkA (Qb.s s_4).2 (Qb.s s_4).3 (Qb.s s_4).5,wkD (Qb.s s_4).6 (Qb.s s_4).7 (Qb.s s_4).9]/\True/\∀(x:Unit),True->dP Tryz.f42 14 19 [⟨9,[],[6,13,14,19,20],[19,20],false⟩,xR 8 6,xF 7 6,xF 6 6,xF 5 6,xR 4 6,xF 3 6,xF 2 6,xF 1 6,xF 0 6]/\endN Q3 [] (fun (x:SV) (M:List SB)=>shAt M 0) (ShS.mk z r mh ch nh zh mv cv nv zv,l) (SV.t []) (shI (shD z.4 (z.5+(1:Int)) 15 s.8 s.3 s.4 16 s.1 cv nv) (putF (zF) 1 (Qu l z.2 0)) (Sto.crash (Sh.s z) l) (setF (setF (stX (Sh.w z) r) 2 (wkZ 17 18 (wcA s_3))) 3 (wkZ 19 20 (wcA s_4))) (setF (setF (stA r) 2 SB.gone) 3 SB.gone) (setF (setF (stD r) 2 SB.gone) 3 SB.gone) (evB s.2 s.3 s.5) (vdB mv cv zv) [wa0,wd0,wa0,wd0])else endN Q3 [] (fun (x:SV) (M:List SB)=>shAt M 0) (ShS.mk z r mh ch nh zh mv cv nv zv,l) (SV.t []) (shI (shD z.4 (z.5+(1:Int)) 15 s.8 s.3 s.4 16 s.1 cv nv) (putF (zF) 1 (Qu l z.2 0)) (Sto.crash (Sh.s z) l) (setF (stX (Sh.w z) r) 2 (wkZ 17 18 (wcA s_3))) (setF (stA r) 2 SB.gone) (setF (stD r) 2 SB.gone) (evB s.2 s.3 s.5) (vdB mv cv zv) [wa0,wd0])else (iR (3:Int) (4:Int))/\bif (Sh.w z 3).2 != (0:Int)then ∃(s_3:Qb),[aP 6 0,SA.a [sI (Sh.w z 3).3,sI (Sh.w z 3).4,sI (Sh.w z 3).5],aI (Sh.w z 3).6,aB true]=[aP 6 0,SA.a [sI s_3.2,sI s_3.3,sI s_3.4],aI s_3.5,aB true]/\[wkR 13 14 (Sh.w z 3) (r 3),waR (r 3),wdR (r 3)]=[wkC 13 14 (WkS.w (Qb.s s_3)) (Qb.s s_3).3 (Qb.s s_3).4 (Qb.s s_3).7 (Qb.s s_3).8,wkA (Qb.s s_3).2 (Qb.s s_3).3 (Qb.s s_3).5,wkD (Qb.s s_3).6 (Qb.s s_3).7 (Qb.s s_3).9]/\True/\∀(x:Unit),True->dP Tryz.f42 14 17 [⟨9,[],[6,13,14,17,18],[17,18],false⟩,xR 8 6,xF 7 6,xF 6 6,xF 5 6,xR 4 6,xF 3 6,xF 2 6,xF 1 6,xF 0 6]/\endN Q3 [] (fun (x:SV) (M:List SB)=>shAt M 0) (ShS.mk z r mh ch nh zh mv cv nv zv,l) (SV.t []) (shI (shD z.4 (z.5+(1:Int)) 15 s.8 s.3 s.4 16 s.1 cv nv) (putF (zF) 1 (Qu l z.2 0)) (Sto.crash (Sh.s z) l) (setF (stX (Sh.w z) r) 3 (wkZ 17 18 (wcA s_3))) (setF (stA r) 3 SB.gone) (setF (stD r) 3 SB.gone) (evB s.2 s.3 s.5) (vdB mv cv zv) [wa0,wd0])else endN Q3 [] (fun (x:SV) (M:List SB)=>shAt M 0) (ShS.mk z r mh ch nh zh mv cv nv zv,l) (SV.t []) (shI (shD z.4 (z.5+(1:Int)) 15 s.8 s.3 s.4 16 s.1 cv nv) (putF (zF) 1 (Qu l z.2 0)) (Sto.crash (Sh.s z) l) (stX (Sh.w z) r) (stA r) (stD r) (evB s.2 s.3 s.5) (vdB mv cv zv) [])) (by kernel_rfl) ?_
 have h0:(⟨z,r,mh,ch,nh,zh,mv,cv,nv,zv⟩:ShS).good:=h0
 have h1:Qlx z l:=h1
 have hst0:=h1.st0
 have hst1:=h1.st1
 have hhl:=h1.h
 have hdl:=h1.d
 have hv0:=h1.v0
 have hv1:=h1.v1
 have q1:=h0.h1
 have q2:=h0.h2
 have p1:=h0.v1
 have p2:=h0.v2
 dsimp only at q1 q2 p1 p2
 have es:IntKind.wrap .i64 (z.steps+1)=z.steps+1:=QB (by omega) (by omega)
 have ev:IntKind.wrap .i64 ((z.s.crash l).now (Int.toNat 0))=Qu l z.s 0:=QB (by show -9223372036854775808<=Qu l z.s 0;omega) (by show Qu l z.s 0<=9223372036854775807;omega)
 have eu:IntKind.wrap .u64 (Qu l z.s 0)=Qu l z.s 0:=QaL (by omega) (by omega)
 rw[es]
 refine⟨Qe (by kernel_rfl),⟨⟨q1,rfl⟩,⟨Nat.le_refl _,rfl⟩,by omega⟩,fun c hc=>⟨Qe (by kernel_rfl),⟨z.s,l⟩,rfl,rfl,h1.lu,fun _ _=>⟨z.m,rfl,rfl,trivial,fun _ _=>⟨⟨z.s.crash l,0⟩,rfl,rfl,⟨(by decide:(0:Int)<=0),(by decide:(0:Int)<72)⟩,fun _ _=>?_⟩⟩⟩⟩
 dsimp only
 rw[ev,eu]
 refine⟨⟨fun _=>0,1,Qu l z.s 0⟩,rfl,rfl,⟨(by decide:(0:Int)<=1),(by decide:(1:Int)<16)⟩,fun _ _=>⟨Nat.le_trans p1 p2,⟨⟨z.deeds.length,z.hist.length+1,c,nh,_,Nat.le_refl _,by rw[List.take_length],z.hist.length+1,rfl,Nat.le_refl _,hc,?_⟩,⟨rfl,rfl,svI (QB (by omega) (by omega)),trivial⟩,rfl⟩,?_⟩⟩
 · refine h0.h.snoc (fun j hj k _=>catT hj) (fun j hj=>?_)
   refine catF.trans ?_
   rw[Nat.sub_self]
   match j,hj with
   |0,_=>rfl
   |1,_=>rfl
   |2,_=>rfl
   |3,_=>rfl
   |4,_=>rfl
   |5,_=>rfl
   |6,_=>rfl
   |7,_=>rfl
   |8,_=>rfl
 rintro⟨n,mh',ch',nh',zh',hn,hu,lh,hl,g1,g2,g3⟩
 dsimp only at hn hu hl g1 g2 g3 ⊢
 refine Qr (fun hge=>?_) (fun hlt=>?_)
 · have en:((n:Int)-1).toNat=n-1:=by omega
   have hz0:zv (0+((n:Int)-1).toNat) 0=(z.deeds.getD (n-1) Vd.nil).ver:=by rw[Nat.zero_add,en];exact h0.v (n-1) (by show n-1<z.deeds.length;omega) 0 (by decide)
   have ht:=QlG (l:=z.deeds) (n:=n) (by omega) hn
   refine⟨⟨by omega,by omega,by omega⟩,by omega,Qr (fun hgt=>?_) (fun hle=>?_)⟩
   · rw[hz0]at hgt
     refine⟨⟨by omega,by omega⟩,⟨((n:Int)-1).toNat,mh',ch',nh',zh',by omega,?_,lh,hl,g1,g2,g3⟩,⟨⟨rfl,rfl,svI (show IntKind.wrap .i64 ((n:Int)-1-1)=(((n:Int)-1).toNat:Int)-1 by rw[QB (by omega) (by omega)];omega),trivial⟩,rfl⟩,by dsimp only;omega⟩
     rw[en,<- hu,ht,Qqm hgt]
   · rw[hz0]at hle
     have hz:z.deeds.take n=upTo (Qu l z.s 0) z.deeds:=by rw[<- hu,ht];exact (Qql (by omega)).symm
     exact⟨⟨by decide,by decide⟩,QE (fun k0=>⟨⟨wkS (z.w 0) (r 0),(z.w 0).k,(z.w 0).key,(z.w 0).x,(z.w 0).tog⟩,rfl,rfl,trivial,fun _ _=>⟨Qe (by kernel_rfl),⟨⟨by decide,by decide⟩,QE (fun k1=>⟨⟨wkS (z.w 1) (r 1),(z.w 1).k,(z.w 1).key,(z.w 1).x,(z.w 1).tog⟩,rfl,rfl,trivial,fun _ _=>⟨Qe (by kernel_rfl),⟨⟨by decide,by decide⟩,QE (fun k2=>⟨⟨wkS (z.w 2) (r 2),(z.w 2).k,(z.w 2).key,(z.w 2).x,(z.w 2).tog⟩,rfl,rfl,trivial,fun _ _=>⟨Qe (by kernel_rfl),⟨⟨by decide,by decide⟩,QE (fun k3=>⟨⟨wkS (z.w 3) (r 3),(z.w 3).k,(z.w 3).key,(z.w 3).x,(z.w 3).tog⟩,rfl,rfl,trivial,fun _ _=>⟨Qe (by kernel_rfl),QA h0 hn hz hl g1 g2 g3 (a0:=true) (a1:=true) (a2:=true) (a3:=true) rfl rfl k0 k1 k2 k3⟩⟩) (fun k3=>QA h0 hn hz hl g1 g2 g3 (a0:=true) (a1:=true) (a2:=true) (a3:=false) rfl rfl k0 k1 k2 k3)⟩⟩⟩) (fun k2=>⟨⟨by decide,by decide⟩,QE (fun k3=>⟨⟨wkS (z.w 3) (r 3),(z.w 3).k,(z.w 3).key,(z.w 3).x,(z.w 3).tog⟩,rfl,rfl,trivial,fun _ _=>⟨Qe (by kernel_rfl),QA h0 hn hz hl g1 g2 g3 (a0:=true) (a1:=true) (a2:=false) (a3:=true) rfl rfl k0 k1 k2 k3⟩⟩) (fun k3=>QA h0 hn hz hl g1 g2 g3 (a0:=true) (a1:=true) (a2:=false) (a3:=false) rfl rfl k0 k1 k2 k3)⟩)⟩⟩⟩) (fun k1=>⟨⟨by decide,by decide⟩,QE (fun k2=>⟨⟨wkS (z.w 2) (r 2),(z.w 2).k,(z.w 2).key,(z.w 2).x,(z.w 2).tog⟩,rfl,rfl,trivial,fun _ _=>⟨Qe (by kernel_rfl),⟨⟨by decide,by decide⟩,QE (fun k3=>⟨⟨wkS (z.w 3) (r 3),(z.w 3).k,(z.w 3).key,(z.w 3).x,(z.w 3).tog⟩,rfl,rfl,trivial,fun _ _=>⟨Qe (by kernel_rfl),QA h0 hn hz hl g1 g2 g3 (a0:=true) (a1:=false) (a2:=true) (a3:=true) rfl rfl k0 k1 k2 k3⟩⟩) (fun k3=>QA h0 hn hz hl g1 g2 g3 (a0:=true) (a1:=false) (a2:=true) (a3:=false) rfl rfl k0 k1 k2 k3)⟩⟩⟩) (fun k2=>⟨⟨by decide,by decide⟩,QE (fun k3=>⟨⟨wkS (z.w 3) (r 3),(z.w 3).k,(z.w 3).key,(z.w 3).x,(z.w 3).tog⟩,rfl,rfl,trivial,fun _ _=>⟨Qe (by kernel_rfl),QA h0 hn hz hl g1 g2 g3 (a0:=true) (a1:=false) (a2:=false) (a3:=true) rfl rfl k0 k1 k2 k3⟩⟩) (fun k3=>QA h0 hn hz hl g1 g2 g3 (a0:=true) (a1:=false) (a2:=false) (a3:=false) rfl rfl k0 k1 k2 k3)⟩)⟩)⟩⟩⟩) (fun k0=>⟨⟨by decide,by decide⟩,QE (fun k1=>⟨⟨wkS (z.w 1) (r 1),(z.w 1).k,(z.w 1).key,(z.w 1).x,(z.w 1).tog⟩,rfl,rfl,trivial,fun _ _=>⟨Qe (by kernel_rfl),⟨⟨by decide,by decide⟩,QE (fun k2=>⟨⟨wkS (z.w 2) (r 2),(z.w 2).k,(z.w 2).key,(z.w 2).x,(z.w 2).tog⟩,rfl,rfl,trivial,fun _ _=>⟨Qe (by kernel_rfl),⟨⟨by decide,by decide⟩,QE (fun k3=>⟨⟨wkS (z.w 3) (r 3),(z.w 3).k,(z.w 3).key,(z.w 3).x,(z.w 3).tog⟩,rfl,rfl,trivial,fun _ _=>⟨Qe (by kernel_rfl),QA h0 hn hz hl g1 g2 g3 (a0:=false) (a1:=true) (a2:=true) (a3:=true) rfl rfl k0 k1 k2 k3⟩⟩) (fun k3=>QA h0 hn hz hl g1 g2 g3 (a0:=false) (a1:=true) (a2:=true) (a3:=false) rfl rfl k0 k1 k2 k3)⟩⟩⟩) (fun k2=>⟨⟨by decide,by decide⟩,QE (fun k3=>⟨⟨wkS (z.w 3) (r 3),(z.w 3).k,(z.w 3).key,(z.w 3).x,(z.w 3).tog⟩,rfl,rfl,trivial,fun _ _=>⟨Qe (by kernel_rfl),QA h0 hn hz hl g1 g2 g3 (a0:=false) (a1:=true) (a2:=false) (a3:=true) rfl rfl k0 k1 k2 k3⟩⟩) (fun k3=>QA h0 hn hz hl g1 g2 g3 (a0:=false) (a1:=true) (a2:=false) (a3:=false) rfl rfl k0 k1 k2 k3)⟩)⟩⟩⟩) (fun k1=>⟨⟨by decide,by decide⟩,QE (fun k2=>⟨⟨wkS (z.w 2) (r 2),(z.w 2).k,(z.w 2).key,(z.w 2).x,(z.w 2).tog⟩,rfl,rfl,trivial,fun _ _=>⟨Qe (by kernel_rfl),⟨⟨by decide,by decide⟩,QE (fun k3=>⟨⟨wkS (z.w 3) (r 3),(z.w 3).k,(z.w 3).key,(z.w 3).x,(z.w 3).tog⟩,rfl,rfl,trivial,fun _ _=>⟨Qe (by kernel_rfl),QA h0 hn hz hl g1 g2 g3 (a0:=false) (a1:=false) (a2:=true) (a3:=true) rfl rfl k0 k1 k2 k3⟩⟩) (fun k3=>QA h0 hn hz hl g1 g2 g3 (a0:=false) (a1:=false) (a2:=true) (a3:=false) rfl rfl k0 k1 k2 k3)⟩⟩⟩) (fun k2=>⟨⟨by decide,by decide⟩,QE (fun k3=>⟨⟨wkS (z.w 3) (r 3),(z.w 3).k,(z.w 3).key,(z.w 3).x,(z.w 3).tog⟩,rfl,rfl,trivial,fun _ _=>⟨Qe (by kernel_rfl),QA h0 hn hz hl g1 g2 g3 (a0:=false) (a1:=false) (a2:=false) (a3:=true) rfl rfl k0 k1 k2 k3⟩⟩) (fun k3=>QA h0 hn hz hl g1 g2 g3 (a0:=false) (a1:=false) (a2:=false) (a3:=false) rfl rfl k0 k1 k2 k3)⟩)⟩)⟩)⟩
 · obtain rfl:n=0:=by omega
   have hz:z.deeds.take 0=upTo (Qu l z.s 0) z.deeds:=by rw[<- hu];rfl
   exact⟨⟨by decide,by decide⟩,QE (fun k0=>⟨⟨wkS (z.w 0) (r 0),(z.w 0).k,(z.w 0).key,(z.w 0).x,(z.w 0).tog⟩,rfl,rfl,trivial,fun _ _=>⟨Qe (by kernel_rfl),⟨⟨by decide,by decide⟩,QE (fun k1=>⟨⟨wkS (z.w 1) (r 1),(z.w 1).k,(z.w 1).key,(z.w 1).x,(z.w 1).tog⟩,rfl,rfl,trivial,fun _ _=>⟨Qe (by kernel_rfl),⟨⟨by decide,by decide⟩,QE (fun k2=>⟨⟨wkS (z.w 2) (r 2),(z.w 2).k,(z.w 2).key,(z.w 2).x,(z.w 2).tog⟩,rfl,rfl,trivial,fun _ _=>⟨Qe (by kernel_rfl),⟨⟨by decide,by decide⟩,QE (fun k3=>⟨⟨wkS (z.w 3) (r 3),(z.w 3).k,(z.w 3).key,(z.w 3).x,(z.w 3).tog⟩,rfl,rfl,trivial,fun _ _=>⟨Qe (by kernel_rfl),QA h0 hn hz hl g1 g2 g3 (a0:=true) (a1:=true) (a2:=true) (a3:=true) rfl rfl k0 k1 k2 k3⟩⟩) (fun k3=>QA h0 hn hz hl g1 g2 g3 (a0:=true) (a1:=true) (a2:=true) (a3:=false) rfl rfl k0 k1 k2 k3)⟩⟩⟩) (fun k2=>⟨⟨by decide,by decide⟩,QE (fun k3=>⟨⟨wkS (z.w 3) (r 3),(z.w 3).k,(z.w 3).key,(z.w 3).x,(z.w 3).tog⟩,rfl,rfl,trivial,fun _ _=>⟨Qe (by kernel_rfl),QA h0 hn hz hl g1 g2 g3 (a0:=true) (a1:=true) (a2:=false) (a3:=true) rfl rfl k0 k1 k2 k3⟩⟩) (fun k3=>QA h0 hn hz hl g1 g2 g3 (a0:=true) (a1:=true) (a2:=false) (a3:=false) rfl rfl k0 k1 k2 k3)⟩)⟩⟩⟩) (fun k1=>⟨⟨by decide,by decide⟩,QE (fun k2=>⟨⟨wkS (z.w 2) (r 2),(z.w 2).k,(z.w 2).key,(z.w 2).x,(z.w 2).tog⟩,rfl,rfl,trivial,fun _ _=>⟨Qe (by kernel_rfl),⟨⟨by decide,by decide⟩,QE (fun k3=>⟨⟨wkS (z.w 3) (r 3),(z.w 3).k,(z.w 3).key,(z.w 3).x,(z.w 3).tog⟩,rfl,rfl,trivial,fun _ _=>⟨Qe (by kernel_rfl),QA h0 hn hz hl g1 g2 g3 (a0:=true) (a1:=false) (a2:=true) (a3:=true) rfl rfl k0 k1 k2 k3⟩⟩) (fun k3=>QA h0 hn hz hl g1 g2 g3 (a0:=true) (a1:=false) (a2:=true) (a3:=false) rfl rfl k0 k1 k2 k3)⟩⟩⟩) (fun k2=>⟨⟨by decide,by decide⟩,QE (fun k3=>⟨⟨wkS (z.w 3) (r 3),(z.w 3).k,(z.w 3).key,(z.w 3).x,(z.w 3).tog⟩,rfl,rfl,trivial,fun _ _=>⟨Qe (by kernel_rfl),QA h0 hn hz hl g1 g2 g3 (a0:=true) (a1:=false) (a2:=false) (a3:=true) rfl rfl k0 k1 k2 k3⟩⟩) (fun k3=>QA h0 hn hz hl g1 g2 g3 (a0:=true) (a1:=false) (a2:=false) (a3:=false) rfl rfl k0 k1 k2 k3)⟩)⟩)⟩⟩⟩) (fun k0=>⟨⟨by decide,by decide⟩,QE (fun k1=>⟨⟨wkS (z.w 1) (r 1),(z.w 1).k,(z.w 1).key,(z.w 1).x,(z.w 1).tog⟩,rfl,rfl,trivial,fun _ _=>⟨Qe (by kernel_rfl),⟨⟨by decide,by decide⟩,QE (fun k2=>⟨⟨wkS (z.w 2) (r 2),(z.w 2).k,(z.w 2).key,(z.w 2).x,(z.w 2).tog⟩,rfl,rfl,trivial,fun _ _=>⟨Qe (by kernel_rfl),⟨⟨by decide,by decide⟩,QE (fun k3=>⟨⟨wkS (z.w 3) (r 3),(z.w 3).k,(z.w 3).key,(z.w 3).x,(z.w 3).tog⟩,rfl,rfl,trivial,fun _ _=>⟨Qe (by kernel_rfl),QA h0 hn hz hl g1 g2 g3 (a0:=false) (a1:=true) (a2:=true) (a3:=true) rfl rfl k0 k1 k2 k3⟩⟩) (fun k3=>QA h0 hn hz hl g1 g2 g3 (a0:=false) (a1:=true) (a2:=true) (a3:=false) rfl rfl k0 k1 k2 k3)⟩⟩⟩) (fun k2=>⟨⟨by decide,by decide⟩,QE (fun k3=>⟨⟨wkS (z.w 3) (r 3),(z.w 3).k,(z.w 3).key,(z.w 3).x,(z.w 3).tog⟩,rfl,rfl,trivial,fun _ _=>⟨Qe (by kernel_rfl),QA h0 hn hz hl g1 g2 g3 (a0:=false) (a1:=true) (a2:=false) (a3:=true) rfl rfl k0 k1 k2 k3⟩⟩) (fun k3=>QA h0 hn hz hl g1 g2 g3 (a0:=false) (a1:=true) (a2:=false) (a3:=false) rfl rfl k0 k1 k2 k3)⟩)⟩⟩⟩) (fun k1=>⟨⟨by decide,by decide⟩,QE (fun k2=>⟨⟨wkS (z.w 2) (r 2),(z.w 2).k,(z.w 2).key,(z.w 2).x,(z.w 2).tog⟩,rfl,rfl,trivial,fun _ _=>⟨Qe (by kernel_rfl),⟨⟨by decide,by decide⟩,QE (fun k3=>⟨⟨wkS (z.w 3) (r 3),(z.w 3).k,(z.w 3).key,(z.w 3).x,(z.w 3).tog⟩,rfl,rfl,trivial,fun _ _=>⟨Qe (by kernel_rfl),QA h0 hn hz hl g1 g2 g3 (a0:=false) (a1:=false) (a2:=true) (a3:=true) rfl rfl k0 k1 k2 k3⟩⟩) (fun k3=>QA h0 hn hz hl g1 g2 g3 (a0:=false) (a1:=false) (a2:=true) (a3:=false) rfl rfl k0 k1 k2 k3)⟩⟩⟩) (fun k2=>⟨⟨by decide,by decide⟩,QE (fun k3=>⟨⟨wkS (z.w 3) (r 3),(z.w 3).k,(z.w 3).key,(z.w 3).x,(z.w 3).tog⟩,rfl,rfl,trivial,fun _ _=>⟨Qe (by kernel_rfl),QA h0 hn hz hl g1 g2 g3 (a0:=false) (a1:=false) (a2:=false) (a3:=true) rfl rfl k0 k1 k2 k3⟩⟩) (fun k3=>QA h0 hn hz hl g1 g2 g3 (a0:=false) (a1:=false) (a2:=false) (a3:=false) rfl rfl k0 k1 k2 k3)⟩)⟩)⟩)⟩
end
section
def PosV (z:Sh):Prop:=∀d∈z.deeds,0<=d.ver
theorem QgN {v:Int}{l:List Vd}{d:Vd}(h:d∈upTo v l):d∈l:=by
 unfold upTo at h
 rw[List.mem_reverse]at h
 exact List.mem_reverse.1 ((List.dropWhile_sublist _).subset h)
section
variable {K:Int}{z:Sh}{g:Gh}{t:Nat}
theorem Fine.now (F:Fine K z g):0<=z.s.now 0:=by
 have h1:=F.1.gl.now0
 have h2:=F.1.gl.v0
 have h3:=F.1.gl.vd
 omega
theorem Qjz (F:Fine K z g) (p:PosV z) (ht:t<4) (hs:z.steps<100000000):PosV (z.step t):=by
 unfold Sh.step
 split
 · exact p
 · rename_i hn
   have h0:=(QaR F ht hs hn).now
   have e:(z.stepped t).s=(Qa (z.wst t)).1.s:=by
    unfold Sh.stepped
    dsimp only
    split<;>split<;>rfl
   rw[e]at h0
   have e2:(z.stepped t).deeds=z.deeds\/(z.stepped t).deeds=z.deeds++(Qa (z.wst t)).1.w.deeds.map (Vd.mk ((Qa (z.wst t)).1.s.now 0)):=by
    unfold Sh.stepped
    dsimp only
    split<;>split<;>first|exact .inl rfl|exact .inr rfl
   intro d hd
   rcases e2 with e2|e2
   · rw[e2]at hd;exact p d hd
   · rw[e2]at hd
     rcases List.mem_append.1 hd with hd|hd
     · exact p d hd
     · obtain⟨x,-,rfl⟩:=List.mem_map.1 hd
       exact h0
theorem QiT (ht:t<4):∀(n:Nat) {z:Sh}{g:Gh},Fine K z g->PosV z->z.steps+n<100000000->PosV (z.run t n)
 |0,z,g,_,p,_=>p
 |n+1,z,g,F,p,hs=>by
  obtain⟨g',F'⟩:=QfU F ht (by omega)
  have:=(XD z t).2
  exact QiT ht n F' (Qjz F p ht (by omega)) (by omega)
theorem Qoz (F:Fine K z g) (p:PosV z) (hs:z.steps<90000000) (m:Mv):PosV (z.move m):=by
 unfold Sh.move
 split
 · unfold Sh.callA
   cases hb:inT m.t
   · exact p
   · rw[cond_true]
     unfold Sh.call
     split<;>exact p
 split
 · unfold Sh.runA
   cases hb:inT m.t
   · exact p
   · rw[cond_true]
     cases hc:runB m.n
     · exact p
     · have h2:=of_decide_eq_true hc
       exact QiT (Qez hb).2.2 m.n.toNat F p (by omega)
 split
 · unfold Sh.evict
   split<;>exact p
 split
 · intro d hd
   exact p d (QgN hd)
 · exact p
structure Fin2 (K:Int) (z:Sh) (g:Gh):Prop where
 f:Fine K z g
 p:PosV z
theorem Qph (F:Fin2 K z g) (hs:z.steps<90000000) (m:Mv):∃g',Fin2 K (z.move m) g':=by
 obtain⟨g',F'⟩:=Qnf F.f hs m
 exact⟨g',F',Qoz F.f F.p hs m⟩
theorem QdV (F:Fin2 K z g) (ht:t<4) (hs:z.steps<100000000):∃g',Fin2 K (z.step t) g':=by
 obtain⟨g',F'⟩:=QfU F.f ht hs
 exact⟨g',F',Qjz F.f F.p ht hs⟩
theorem Qpi (F:Fin2 K z g) (ht:t<4) (k key x:Int):Fin2 K (z.call t k key x) g:=⟨QdU F.f ht k key x,by
 unfold Sh.call
 split<;>exact F.p⟩
theorem fin_crash (F:Fin2 K z g) (l:Int):Fin2 K (z.crash l) (g.crash z l):=⟨QgB F.f l,fun d hd=>F.p d (QgN hd)⟩
theorem Qnh {K:Int}(h1:1<=K) (h6:K<=6):Fin2 K (Sh.new K) (Gh.new K):=⟨Qpg h1 h6,fun d hd=>by cases hd⟩
theorem Qng {K:Int}(h1:1<=K) (h6:K<=6):∀(n:Nat) (l:List Mv),l.length=n->n<=80000->∃g,Fin2 K (XY K l) g/\(XY K l).steps<=1000*(n:Int)
 |0,l,hl,_=>by
  have:=List.length_eq_zero_iff.1 hl
  subst this
  exact⟨_,Qnh h1 h6,Int.le_refl 0⟩
 |n+1,l,hl,hn=>by
  obtain⟨l',m,rfl⟩:∃l' m,l=l'++[m]:=⟨l.dropLast,l.getLast (by intro h;rw[h]at hl;cases hl),(List.dropLast_concat_getLast _).symm⟩
  rw[List.length_append,List.length_singleton]at hl
  obtain⟨g,F,hs⟩:=Qng h1 h6 n l' (by omega) (by omega)
  rw[Qet]
  obtain⟨g',F'⟩:=Qph F (by omega) m
  have:=Qgs (XY K l') m
  exact⟨g',F',by omega⟩
end
end
section
def mu (w:Wk):Nat:=
 if w.does=3 then 85 else if w.does=4 then 84 else if w.does=5 then 51+(32-w.i.toNat)else if w.does=6 then 43+2*(4-w.i.toNat)
 else if w.does=7 then 42+2*(4-w.i.toNat)else if w.does=8 then 11+(32-w.i.toNat)else if w.does=9 then 7+(4-w.i.toNat)else (17-w.does).toNat
theorem mu3 {w:Wk}(h:w.does=3):mu w=85:=by unfold mu;rw[if_pos h]
theorem mu4 {w:Wk}(h:w.does=4):mu w=84:=by unfold mu;rw[if_neg (by omega),if_pos h]
theorem mu5 {w:Wk}(h:w.does=5):mu w=51+(32-w.i.toNat):=by unfold mu;rw[if_neg (by omega),if_neg (by omega),if_pos h]
theorem mu6 {w:Wk}(h:w.does=6):mu w=43+2*(4-w.i.toNat):=by unfold mu;rw[if_neg (by omega),if_neg (by omega),if_neg (by omega),if_pos h]
theorem mu7 {w:Wk}(h:w.does=7):mu w=42+2*(4-w.i.toNat):=by unfold mu;rw[if_neg (by omega),if_neg (by omega),if_neg (by omega),if_neg (by omega),if_pos h]
theorem mu8 {w:Wk}(h:w.does=8):mu w=11+(32-w.i.toNat):=by unfold mu;rw[if_neg (by omega),if_neg (by omega),if_neg (by omega),if_neg (by omega),if_neg (by omega),if_pos h]
theorem mu9 {w:Wk}(h:w.does=9):mu w=7+(4-w.i.toNat):=by unfold mu;rw[if_neg (by omega),if_neg (by omega),if_neg (by omega),if_neg (by omega),if_neg (by omega),if_neg (by omega),if_pos h]
theorem mu10 {w:Wk}{d:Int}(h:w.does=d) (h10:10<=d):mu w=(17-d).toNat:=by
 subst h
 unfold mu
 rw[if_neg (by omega),if_neg (by omega),if_neg (by omega),if_neg (by omega),if_neg (by omega),if_neg (by omega),if_neg (by omega)]
theorem Qms (w:Wk) (h3:3<=w.does) (h16:w.does<=16):mu w<=85/\1<=mu w:=by
 rcases (show w.does=3\/w.does=4\/w.does=5\/w.does=6\/w.does=7\/w.does=8\/w.does=9\/10<=w.does by omega)with h|h|h|h|h|h|h|h
 · rw[mu3 h];omega
 · rw[mu4 h];omega
 · rw[mu5 h];omega
 · rw[mu6 h];omega
 · rw[mu7 h];omega
 · rw[mu8 h];omega
 · rw[mu9 h];omega
 · rw[mu10 rfl h];omega
theorem all_i (w:Wk):w.all.does=w.does/\w.all.i=w.i:=by unfold Wk.all;split<;>exact⟨rfl,rfl⟩
theorem QhN (z:Sh) (t:Nat):(z.stepped t).w=setF z.w t (Qa (z.wst t)).1.w:=by
 unfold Sh.stepped
 dsimp only
 split<;>split<;>rfl
theorem QlN (z:Sh) (t:Nat):(z.stepped t).m=(Qa (z.wst t)).1.m:=by
 unfold Sh.stepped
 dsimp only
 split<;>split<;>rfl
section
variable {K:Int}{z:Sh}{g:Gh}{t:Nat}
theorem busy_step (I:ShInv K z g) (ht:t<4) (h3:3<=(z.w t).does) (h16:(z.w t).does<=16) (free:(z.w t).does=3->z.m 0=0):
 ((Qa (z.wst t)).1.w.does=0/\(z.w t).does=16)\/(4<=(Qa (z.wst t)).1.w.does/\(Qa (z.wst t)).1.w.does<=16/\mu (Qa (z.wst t)).1.w+1<=mu (z.w t)):=by
 rcases (show (z.w t).does=3\/(z.w t).does=4\/(z.w t).does=5\/(z.w t).does=6\/(z.w t).does=7\/(z.w t).does=8\/(z.w t).does=9\/(z.w t).does=10\/(z.w t).does=11\/(z.w t).does=12\/(z.w t).does=13\/(z.w t).does=14\/(z.w t).does=15\/(z.w t).does=16 by omega)with hd|hd|hd|hd|hd|hd|hd|hd|hd|hd|hd|hd|hd|hd
 · have e:(Qa (z.wst t)).1.w={ z.w t with does:=4 }:=by simp[Qa,sayP,Sh.wst,hd,free hd]
   rw[e,mu3 hd,mu4 rfl];exact .inr ⟨by show (4:Int)<=4;decide,by show (4:Int)<=16;decide,by decide⟩
 · have e:(Qa (z.wst t)).1.w={ z.w t with v:=z.m 1,i:=0,does:=5,asks:=[] }:=by simp[Qa,Xk,Sh.wst,hd]
   rw[e,mu4 hd,mu5 rfl];exact .inr ⟨by show (4:Int)<=5;decide,by show (5:Int)<=16;decide,by show 51+(32-Int.toNat 0)+1<=84;decide⟩
 · right
   have O:=I.ho t ht ⟨by omega,by omega⟩
   have hi:=O.i0 (by omega)
   obtain⟨h32,-,-⟩:=O.i5 hd
   have e:(Qa (z.wst t)).1.w=Wk.next { z.w t with r:=putF (z.w t).r (z.w t).i.toNat (z.s.now (Qq (z.w t).v+(z.w t).i.toNat)) } 32 6:=by simp[Qa,Xk,Sh.wst,hd]
   rw[e,mu5 hd]
   unfold Wk.next
   by_cases e4:(z.w t).i+1=32
   · rw[if_pos (by exact e4),mu6 rfl]
     exact⟨by show (4:Int)<=6;decide,by show (6:Int)<=16;decide,by show 43+2*(4-Int.toNat 0)+1<=_;rw[show Int.toNat 0=0 from rfl];omega⟩
   · rw[if_neg (by exact e4),mu5 (by exact hd)]
     exact⟨by show 4<=(z.w t).does;omega,by show (z.w t).does<=16;omega,by show 51+(32-((z.w t).i+1).toNat)+1<=_;omega⟩
 · right
   have O:=I.ho t ht ⟨by omega,by omega⟩
   have hi:=O.i0 (by omega)
   obtain⟨h4,-,-⟩:=O.i6 hd
   by_cases hc:z.m (3+2*(z.w t).i.toNat)≠0/\z.m (3+2*(z.w t).i.toNat)-1≠Qm ((z.w t).r 26) (z.w t).i.toNat
   · have e:(Qa (z.wst t)).1.w={ z.w t with asks:=(z.w t).asks++[⟨(z.w t).i.toNat,z.m (3+2*(z.w t).i.toNat)-1,0,0,0⟩],does:=7 }:=by
      have h2:Qa (z.wst t)=(Xk (z.wst t),false):=by simp[Qa,Sh.wst,hd]
      rw[h2]
      unfold Xk
      rw[if_neg (by show ¬(z.w t).does=4;omega),if_neg (by show ¬(z.w t).does=5;omega),if_pos (by exact hd),if_pos (by exact hc)];rfl
     rw[e,mu6 hd,mu7 rfl]
     exact⟨by show (4:Int)<=7;decide,by show (7:Int)<=16;decide,by show 42+2*(4-(z.w t).i.toNat)+1<=_;omega⟩
   · have e:(Qa (z.wst t)).1.w=(Wk.next (z.w t) 4 8).all:=by
      have h2:Qa (z.wst t)=(Xk (z.wst t),false):=by simp[Qa,Sh.wst,hd]
      rw[h2]
      unfold Xk
      rw[if_neg (by show ¬(z.w t).does=4;omega),if_neg (by show ¬(z.w t).does=5;omega),if_pos (by exact hd),if_neg (by exact hc)];rfl
     rw[e,mu6 hd]
     have ha:=all_i (Wk.next (z.w t) 4 8)
     unfold Wk.next at ha ⊢
     by_cases e4:(z.w t).i+1=4
     · rw[if_pos e4]at ha ⊢
       have hd8:=ha.1
       have hi8:=ha.2
       dsimp only at hd8 hi8
       rw[mu8 hd8,hd8,hi8]
       exact⟨by decide,by decide,by rw[show Int.toNat 0=0 from rfl];omega⟩
     · rw[if_neg e4]at ha ⊢
       have hd8:=ha.1
       have hi8:=ha.2
       dsimp only at hd8 hi8
       rw[mu6 (hd8.trans hd),hd8,hi8,hd]
       exact⟨by decide,by decide,by omega⟩
 · right
   have O:=I.ho t ht ⟨by omega,by omega⟩
   have hi:=O.i0 (by omega)
   obtain⟨h4,-,-⟩:=O.i7 hd
   have e:(Qa (z.wst t)).1.w=(Wk.next { z.w t with asks:=Xc (z.w t).asks (z.m (2+2*(z.w t).i.toNat)/281474976710656%65536) (z.m (2+2*(z.w t).i.toNat)/4294967296%65536) (z.m (2+2*(z.w t).i.toNat)%4294967296),does:=6 } 4 8).all:=by
    have h2:Qa (z.wst t)=(Xk (z.wst t),false):=by simp[Qa,Sh.wst,hd]
    rw[h2]
    unfold Xk
    rw[if_neg (by show ¬(z.w t).does=4;omega),if_neg (by show ¬(z.w t).does=5;omega),if_neg (by show ¬(z.w t).does=6;omega)];rfl
   rw[e,mu7 hd]
   generalize hA:Xc (z.w t).asks (z.m (2+2*(z.w t).i.toNat)/281474976710656%65536) (z.m (2+2*(z.w t).i.toNat)/4294967296%65536) (z.m (2+2*(z.w t).i.toNat)%4294967296)=A
   have ha:=all_i (Wk.next { z.w t with asks:=A,does:=6 } 4 8)
   unfold Wk.next at ha ⊢
   by_cases e4:(z.w t).i+1=4
   · rw[if_pos (by exact e4)]at ha ⊢
     have hd8:=ha.1
     have hi8:=ha.2
     dsimp only at hd8 hi8
     rw[mu8 hd8,hd8,hi8]
     exact⟨by decide,by decide,by rw[show Int.toNat 0=0 from rfl];omega⟩
   · rw[if_neg (by exact e4)]at ha ⊢
     have hd8:=ha.1
     have hi8:=ha.2
     dsimp only at hd8 hi8
     rw[mu6 hd8,hd8,hi8]
     exact⟨by decide,by decide,by omega⟩
 · right
   have O:=I.ho t ht ⟨by omega,by omega⟩
   have hi:=O.i0 (by omega)
   obtain⟨h32,-⟩:=O.i8 hd
   have e:(Qa (z.wst t)).1.w=Wk.next (z.w t) 32 9:=by simp[Qa,Xe,Sh.wst,hd]
   rw[e,mu8 hd]
   unfold Wk.next
   by_cases e4:(z.w t).i+1=32
   · rw[if_pos e4,mu9 rfl]
     exact⟨by show (4:Int)<=9;decide,by show (9:Int)<=16;decide,by show 7+(4-Int.toNat 0)+1<=_;rw[show Int.toNat 0=0 from rfl];omega⟩
   · rw[if_neg e4,mu8 (by exact hd)]
     exact⟨by show 4<=(z.w t).does;omega,by show (z.w t).does<=16;omega,by show 11+(32-((z.w t).i+1).toNat)+1<=_;omega⟩
 · right
   have O:=I.ho t ht ⟨by omega,by omega⟩
   have hi:=O.i0 (by omega)
   obtain⟨h4,-⟩:=O.i9 hd
   have e:(Qa (z.wst t)).1.w=Wk.next (z.w t) 4 10:=by simp[Qa,Xe,Sh.wst,hd]
   rw[e,mu9 hd]
   unfold Wk.next
   by_cases e4:(z.w t).i+1=4
   · rw[if_pos e4,mu10 (d:=10) rfl (by decide)]
     exact⟨by show (4:Int)<=10;decide,by show (10:Int)<=16;decide,by show 7+1<=_;omega⟩
   · rw[if_neg e4,mu9 (by exact hd)]
     exact⟨by show 4<=(z.w t).does;omega,by show (z.w t).does<=16;omega,by show 7+(4-((z.w t).i+1).toNat)+1<=_;omega⟩
 · right
   have e:(Qa (z.wst t)).1.w={ z.w t with does:=11 }:=by simp[Qa,Xe,Sh.wst,hd]
   rw[e,mu10 hd (by decide),mu10 (d:=11) rfl (by decide)];exact⟨by show (4:Int)<=11;decide,by show (11:Int)<=16;decide,by decide⟩
 · right
   have e:(Qa (z.wst t)).1.w={ z.w t with does:=12 }:=by simp[Qa,Xe,Sh.wst,hd]
   rw[e,mu10 hd (by decide),mu10 (d:=12) rfl (by decide)];exact⟨by show (4:Int)<=12;decide,by show (12:Int)<=16;decide,by decide⟩
 · right
   have e:(Qa (z.wst t)).1.w={ z.w t with does:=13 }:=by simp[Qa,Xe,Sh.wst,hd]
   rw[e,mu10 hd (by decide),mu10 (d:=13) rfl (by decide)];exact⟨by show (4:Int)<=13;decide,by show (13:Int)<=16;decide,by decide⟩
 · right
   have e:(Qa (z.wst t)).1.w={ z.w t with does:=14 }:=by simp[Qa,Xe,Sh.wst,hd]
   rw[e,mu10 hd (by decide),mu10 (d:=14) rfl (by decide)];exact⟨by show (4:Int)<=14;decide,by show (14:Int)<=16;decide,by decide⟩
 · right
   have e:(Qa (z.wst t)).1.w={ z.w t with does:=15 }:=by simp[Qa,Qaa,Sh.wst,hd]
   rw[e,mu10 hd (by decide),mu10 (d:=15) rfl (by decide)];exact⟨by show (4:Int)<=15;decide,by show (15:Int)<=16;decide,by decide⟩
 · right
   have e:(Qa (z.wst t)).1.w={ z.w t with does:=16 }:=by simp[Qa,Qaa,Sh.wst,hd]
   rw[e,mu10 hd (by decide),mu10 (d:=16) rfl (by decide)];exact⟨by show (4:Int)<=16;decide,by show (16:Int)<=16;decide,by decide⟩
 · have e:(Qa (z.wst t)).1.w={ z.w t with does:=0 }:=by simp[Qa,Qaa,Sh.wst,hd]
   exact .inl ⟨by rw[e],hd⟩
theorem QhD (hn:(z.w t).does≠0) {u:Nat}(hu:u≠t):(z.step t).w u=z.w u:=by
 unfold Sh.step
 rw[if_neg hn,QhN];exact QV _ _ hu
theorem QhE (hn:(z.w t).does≠0):(z.step t).w t=(Qa (z.wst t)).1.w:=by
 unfold Sh.step
 rw[if_neg hn,QhN];exact Qi _ _ _
theorem QjH (hn:(z.w t).does≠0):(z.step t).m=(Qa (z.wst t)).1.m:=by
 unfold Sh.step
 rw[if_neg hn,QlN]
structure Quit (K:Int) (t:Nat) (z z':Sh) (g':Gh):Prop where
 fin:Fin2 K z' g'
 idle:(z'.w t).does=0
 W:∀u,u≠t->z'.w u=z.w u
 steps:z'.steps<=z.steps+100
theorem Qig (ht:t<4):∀(n:Nat) {z:Sh}{g:Gh},Fin2 K z g->3<=(z.w t).does->(z.w t).does<=16->((z.w t).does=3->z.m 0=0)->mu (z.w t)<=n->z.steps+n<100000000 ->
 ∃j g',j<=n/\Fin2 K (z.run t j) g'/\((z.run t j).w t).does=0/\∀u,u≠t->(z.run t j).w u=z.w u
 |0,z,g,F,h3,h16,_,hm,_=>by have:=(Qms _ h3 h16).2;omega
 |n+1,z,g,F,h3,h16,hf,hm,hs=>by
  have hn:(z.w t).does≠0:=by omega
  obtain⟨g1,F1⟩:=QdV F ht (by omega)
  have hst:=(XD z t).2
  have hw:=QhE hn
  have hW:∀u,u≠t->(z.step t).w u=z.w u:=fun u hu=>QhD hn hu
  rcases busy_step F.f.1 ht h3 h16 hf with⟨h0,-⟩|⟨h4,h5,h6⟩
  · exact⟨1,g1,by omega,F1,by show ((z.step t).w t).does=0;rw[hw];exact h0,hW⟩
  · obtain⟨j,g',hj,F',hi,hW'⟩:=Qig ht n F1 (by rw[hw];omega) (by rw[hw];exact h5) (fun h=>by rw[hw]at h;omega) (by rw[hw];omega) (by omega)
    exact⟨j+1,g',by omega,F',hi,fun u hu=>(hW' u hu).trans (hW u hu)⟩
theorem Qnd (ht:t<4) (F:Fin2 K z g) (h1:(z.w t).does=1) (hf:z.m 0=0) (hs:z.steps+90<100000000):
 ∃j g',j<=87/\Fin2 K (z.run t j) g'/\((z.run t j).w t).does=0/\∀u,u≠t->(z.run t j).w u=z.w u:=by
 have hn:(z.w t).does≠0:=by omega
 obtain⟨g1,F1⟩:=QdV F ht (by omega)
 have s1:=(XD z t).2
 have w1:(z.step t).w t={ z.w t with does:=2 }:=by rw[QhE hn];simp[Qa,sayP,Sh.wst,h1]
 have m1:(z.step t).m 0=0:=by
  rw[QjH hn]
  have:(Qa (z.wst t)).1.m=putF z.m (2+2*(z.w t).th) (opW (z.w t).k (z.w t).key (z.w t).x):=by simp[Qa,sayP,Sh.wst,h1]
  rw[this,Qs _ _ (by omega)];exact hf
 have hn2:((z.step t).w t).does≠0:=by rw[w1];show ¬(2:Int)=0;decide
 have h2:((z.step t).w t).does=2:=by rw[w1]
 obtain⟨g2,F2⟩:=QdV F1 ht (by omega)
 have s2:=(XD (z.step t) t).2
 have w2:(((z.step t).step t).w t).does=3:=by
  rw[QhE hn2]
  have:(Qa ((z.step t).wst t)).1.w={ (z.step t).w t with said:=true,does:=3 }:=by simp[Qa,sayP,Sh.wst,h2]
  rw[this]
 have m2:((z.step t).step t).m 0=0:=by
  rw[QjH hn2]
  have:(Qa ((z.step t).wst t)).1.m=putF (z.step t).m (3+2*((z.step t).w t).th) (((z.step t).w t).tog+1):=by simp[Qa,sayP,Sh.wst,h2]
  rw[this,Qs _ _ (by omega)];exact m1
 obtain⟨j,g',hj,F',hi,hW'⟩:=Qig ht 85 F2 (by rw[w2];decide) (by rw[w2];decide) (fun _=>m2) (Qms _ (by rw[w2];decide) (by rw[w2];decide)).1 (by omega)
 exact⟨j+2,g',by omega,F',hi,fun u hu=>(hW' u hu).trans ((QhD hn2 hu).trans (QhD hn hu))⟩
theorem QqU (ht:t<4) (F:Fin2 K z g) (h2:(z.w t).does=2) (hf:z.m 0=0) (hs:z.steps+90<100000000):
 ∃j g',j<=86/\Fin2 K (z.run t j) g'/\((z.run t j).w t).does=0/\∀u,u≠t->(z.run t j).w u=z.w u:=by
 have hn2:(z.w t).does≠0:=by omega
 obtain⟨g2,F2⟩:=QdV F ht (by omega)
 have s2:=(XD z t).2
 have w2:((z.step t).w t).does=3:=by
  rw[QhE hn2]
  have:(Qa (z.wst t)).1.w={ z.w t with said:=true,does:=3 }:=by simp[Qa,sayP,Sh.wst,h2]
  rw[this]
 have m2:(z.step t).m 0=0:=by
  rw[QjH hn2]
  have:(Qa (z.wst t)).1.m=putF z.m (3+2*(z.w t).th) ((z.w t).tog+1):=by simp[Qa,sayP,Sh.wst,h2]
  rw[this,Qs _ _ (by omega)];exact hf
 obtain⟨j,g',hj,F',hi,hW'⟩:=Qig ht 85 F2 (by rw[w2];decide) (by rw[w2];decide) (fun _=>m2) (Qms _ (by rw[w2];decide) (by rw[w2];decide)).1 (by omega)
 exact⟨j+1,g',by omega,F',hi,fun u hu=>(hW' u hu).trans (QhD hn2 hu)⟩
theorem QmC (h17:17<=(z.w t).does) (h21:(z.w t).does<=21):(Qa (z.wst t)).1.m=z.m/\(((z.w t).does<=20/\(Qa (z.wst t)).1.w.does=(z.w t).does+1)\/((z.w t).does=21/\((Qa (z.wst t)).1.w.does=0\/(Qa (z.wst t)).1.w.does=3\/(Qa (z.wst t)).1.w.does=1))):=by
 have h2:Qa (z.wst t)=QP (z.wst t):=by
  unfold Qa
  rw[if_neg (by show ¬(z.w t).does=0;omega),if_neg (by show ¬(z.w t).does<=3;omega),if_neg (by show ¬(z.w t).does<=7;omega),if_neg (by show ¬(z.w t).does<=13;omega),if_neg (by show ¬(z.w t).does<=16;omega)]
 rw[h2]
 rcases (show (z.w t).does=17\/(z.w t).does=18\/(z.w t).does=19\/(z.w t).does=20\/(z.w t).does=21 by omega)with hd|hd|hd|hd|hd
 · have e:QP (z.wst t)=(⟨{ z.w t with v:=z.m 1,does:=18 },z.m,z.s⟩,false):=by simp[QP,Sh.wst,hd]
   rw[e,hd];exact⟨rfl,.inl ⟨by decide,rfl⟩⟩
 · have e:QP (z.wst t)=(⟨{ z.w t with seen:=putF (z.w t).seen 0 (z.s.now (Qq (z.w t).v+26)),does:=19 },z.m,z.s⟩,false):=by simp[QP,Sh.wst,hd]
   rw[e,hd];exact⟨rfl,.inl ⟨by decide,rfl⟩⟩
 · have e:QP (z.wst t)=(⟨{ z.w t with seen:=putF (z.w t).seen 1 (z.s.now (Qq (z.w t).v+18+(z.w t).th)),does:=20 },z.m,z.s⟩,false):=by simp[QP,Sh.wst,hd]
   rw[e,hd];exact⟨rfl,.inl ⟨by decide,rfl⟩⟩
 · have e:QP (z.wst t)=(⟨{ z.w t with seen:=putF (z.w t).seen 2 (z.s.now (Qq (z.w t).v+22+(z.w t).th)),does:=21 },z.m,z.s⟩,false):=by simp[QP,Sh.wst,hd]
   rw[e,hd];exact⟨rfl,.inl ⟨by decide,rfl⟩⟩
 · rw[Qgv _ hd]
   by_cases hc:(z.wst t).m 1=(z.wst t).w.v/\Qm ((z.wst t).w.seen 0) (z.wst t).w.th=(z.wst t).w.tog
   · rw[if_pos hc];exact⟨rfl,.inr ⟨hd,.inl rfl⟩⟩
   · rw[if_neg hc]
     refine⟨rfl,.inr ⟨hd,.inr ?_⟩⟩
     show (if (z.w t).said=true then (3:Int)else 1)=3\/(if (z.w t).said=true then (3:Int)else 1)=1
     cases (z.w t).said
     · exact .inr rfl
     · exact .inl rfl
theorem Qnc (ht:t<4):∀(n:Nat) {z:Sh}{g:Gh},Fin2 K z g->17<=(z.w t).does->(z.w t).does<=21->z.m 0=0->(22-(z.w t).does).toNat<=n->z.steps+n+90<100000000 ->
 ∃j g',j<=n+87/\Fin2 K (z.run t j) g'/\((z.run t j).w t).does=0/\∀u,u≠t->(z.run t j).w u=z.w u
 |0,z,g,F,h17,h21,_,hm,_=>by omega
 |n+1,z,g,F,h17,h21,hf,hm,hs=>by
  have hn:(z.w t).does≠0:=by omega
  obtain⟨g1,F1⟩:=QdV F ht (by omega)
  have hst:=(XD z t).2
  have hw:=QhE hn
  obtain⟨hmm,hc⟩:=QmC (z:=z) (t:=t) h17 h21
  have hm1:(z.step t).m 0=0:=by rw[QjH hn,hmm];exact hf
  rw[<- hw]at hc
  have hW:∀u,u≠t->(z.step t).w u=z.w u:=fun u hu=>QhD hn hu
  rcases hc with⟨h20,hd⟩|⟨h21',hd|hd|hd⟩
  · obtain⟨j,g',hj,F',hi,hW'⟩:=Qnc ht n F1 (by omega) (by omega) hm1 (by omega) (by omega)
    exact⟨j+1,g',by omega,F',hi,fun u hu=>(hW' u hu).trans (hW u hu)⟩
  · exact⟨1,g1,by omega,F1,hd,hW⟩
  · obtain⟨j,g',hj,F',hi,hW'⟩:=Qig ht 85 F1 (by omega) (by omega) (fun _=>hm1) (Qms _ (by omega) (by omega)).1 (by omega)
    exact⟨j+1,g',by omega,F',hi,fun u hu=>(hW' u hu).trans (hW u hu)⟩
  · obtain⟨j,g',hj,F',hi,hW'⟩:=Qnd ht F1 hd hm1 (by omega)
    exact⟨j+1,g',by omega,F',hi,fun u hu=>(hW' u hu).trans (hW u hu)⟩
theorem Qor (t:Nat) {j n:Nat}(h:j<=n) (hi:((z.run t j).w t).does=0):z.run t n=z.run t j:=by
 have:=Qer t j (n-j) z
 rw[show j+(n-j)=n by omega]at this
 rw[this];exact (QcT t _ hi).1
theorem QpX (t:Nat):∀(j n:Nat) (z:Sh),((z.run t j).w t).does=0->z.ran t n<=j
 |_,0,z,_=>Nat.zero_le _
 |0,n+1,z,h=>by show (if (z.w t).does=0 then 0 else _)<=0;rw[if_pos (by exact h)];exact Nat.le_refl _
 |j+1,n+1,z,h=>by
  show (if (z.w t).does=0 then 0 else (z.step t).ran t n+1)<=j+1
  split
  · omega
  · have:=QpX t j n (z.step t) h
    omega
theorem quit (ht:t<4) (F:Fin2 K z g) (hf:z.m 0=0\/(4<=(z.w t).does/\(z.w t).does<=16)) (hs:z.steps<90000000) {n:Nat}(hn:92<=n):
 ∃g',Quit K t z (z.run t n) g'/\z.ran t n<=92:=by
 have T:=F.f.1.th t ht
 have h0:=T.d0
 have h21:=T.d21
 have key:∃j g',j<=92/\Fin2 K (z.run t j) g'/\((z.run t j).w t).does=0/\∀u,u≠t->(z.run t j).w u=z.w u:=by
  rcases (show (z.w t).does=0\/(z.w t).does=1\/(z.w t).does=2\/(3<=(z.w t).does/\(z.w t).does<=16)\/17<=(z.w t).does by omega)with h|h|h|⟨h,h'⟩|h
  · exact⟨0,g,by omega,F,h,fun u _=>rfl⟩
  · obtain⟨j,g',hj,r⟩:=Qnd ht F h (hf.resolve_right (by omega)) (by omega)
    exact⟨j,g',by omega,r⟩
  · obtain⟨j,g',hj,r⟩:=QqU ht F h (hf.resolve_right (by omega)) (by omega)
    exact⟨j,g',by omega,r⟩
  · obtain⟨j,g',hj,r⟩:=Qig ht 85 F h h' (fun h3=>hf.resolve_right (by omega)) (Qms _ h h').1 (by omega)
    exact⟨j,g',by omega,r⟩
  · obtain⟨j,g',hj,r⟩:=Qnc ht 5 F h h21 (hf.resolve_right (by omega)) (by omega) (by omega)
    exact⟨j,g',by omega,r⟩
 obtain⟨j,g',hj,F',hi,hW⟩:=key
 have e:=Qor (n:=n) t (by omega) hi
 have hst:=(QbQ t j z).2
 rw[e]
 exact⟨g',⟨F',hi,hW,by omega⟩,Nat.le_trans (QpX t j n z hi) hj⟩
end
end
section
def mvAt (z:Nat->Nat->Int) (i:Nat):Mv:=⟨z i 0,z i 1,z i 2,z i 3,z i 4,z i 5,z i 6⟩
def mvL (z:Nat->Nat->Int) (n:Nat):List Mv:=(List.range n).map (mvAt z)
theorem QoP (z:Nat->Nat->Int) (i:Nat):mvL z (i+1)=mvL z i++[mvAt z i]:=by unfold mvL;rw[List.range_succ,List.map_append];rfl
theorem QqM (z:Nat->Nat->Int) (n:Nat):(mvL z n).length=n:=by unfold mvL;rw[List.length_map,List.length_range]
end
section
open Go.RowKit
def mvK:Nat->IntKind:=fun j=>bif Nat.beq j 6 then .u64 else .i64
def MvIn (W:World) (a:Option Addr) (n c:Nat) (z:Nat->Nat->Int):Prop:=Rws 7 mvK W a n c z/\∀i,i<n->U64 (z i 6)
end
section
structure FinI (K:Int) (z:Sh) (g:Gh):Prop where
 i:ShInv K z g
 p:PosV z
 s:(z.hist.length:Int)<=z.steps
section
variable {K:Int}{z:Sh}{g:Gh}{t:Nat}
theorem ShInv.now (I:ShInv K z g):0<=z.s.now 0:=by
 have h1:=I.gl.now0
 have h2:=I.gl.v0
 have h3:=I.gl.vd
 omega
theorem QqV (F:FinI K z g) (ht:t<4) (hs:z.steps<100000000):∃g',FinI K (z.step t) g':=by
 unfold Sh.step
 split
 · exact⟨g,F⟩
 · rename_i hn
   have I':=QfN F.i ht hs hn
   have h0:=I'.now
   have e:(z.stepped t).s=(Qa (z.wst t)).1.s:=by
    unfold Sh.stepped
    dsimp only
    split<;>split<;>rfl
   rw[e]at h0
   have e2:(z.stepped t).deeds=z.deeds\/(z.stepped t).deeds=z.deeds++(Qa (z.wst t)).1.w.deeds.map (Vd.mk ((Qa (z.wst t)).1.s.now 0)):=by
    unfold Sh.stepped
    dsimp only
    split<;>split<;>first|exact .inl rfl|exact .inr rfl
   have e3:(z.stepped t).steps=z.steps+1:=by
    unfold Sh.stepped
    dsimp only
    split<;>split<;>rfl
   have e4:(z.stepped t).hist.length<=z.hist.length+1:=by
    unfold Sh.stepped
    dsimp only
    split<;>split<;>first|exact Nat.le_succ _|(show (z.hist++[_]).length<=_;rw[List.length_append];exact Nat.le_refl _)
   refine⟨_,I',fun d hd=>?_,by have:=F.s;omega⟩
   rcases e2 with e2|e2
   · rw[e2]at hd;exact F.p d hd
   · rw[e2]at hd
     rcases List.mem_append.1 hd with hd|hd
     · exact F.p d hd
     · obtain⟨x,-,rfl⟩:=List.mem_map.1 hd
       exact h0
theorem QjV (ht:t<4):∀(n:Nat) {z:Sh}{g:Gh},FinI K z g->z.steps+n<100000000->∃g',FinI K (z.run t n) g'
 |0,z,g,F,_=>⟨g,F⟩
 |n+1,z,g,F,hs=>by
  obtain⟨g',F'⟩:=QqV F ht (by omega)
  have:=(XD z t).2
  exact QjV ht n F' (by omega)
theorem Qnk (F:FinI K z g) (ht:t<4) (k key x:Int):FinI K (z.call t k key x) g:=by
 refine⟨QjN F.i ht k key x,?_,?_⟩
 · unfold Sh.call
   split<;>exact F.p
 · have:=F.s
   unfold Sh.call
   split
   · show ((z.hist++[_]).length:Int)<=z.steps+1
     rw[List.length_append,List.length_singleton];omega
   · exact F.s
theorem Qpj (F:FinI K z g) (l:Int):FinI K (z.evict l) g:=by
 refine⟨Qh9 F.i l,?_,?_⟩
 · unfold Sh.evict
   split<;>exact F.p
 · unfold Sh.evict
   split<;>exact F.s
theorem Qpk (F:FinI K z g) (l:Int):∃g',FinI K (z.crash l) g':=by
 have hp:PosV (z.crash l):=fun d hd=>F.p d (QgN hd)
 have hs:((z.crash l).hist.length:Int)<=(z.crash l).steps:=by
  have:=F.s
  show ((z.hist++[_]).length:Int)<=z.steps+1
  rw[List.length_append,List.length_singleton];omega
 rcases inv_crash F.i l with⟨-,h,-⟩|⟨-,-,-,h,-⟩
 · exact⟨_,h,hp,hs⟩
 · exact⟨_,h,hp,hs⟩
theorem QqW (F:FinI K z g) (hs:z.steps<90000000) (t n:Int):∃g',FinI K (z.runA t n) g':=by
 unfold Sh.runA
 cases hb:inT t
 · exact⟨g,F⟩
 · rw[cond_true]
   cases hc:runB n
   · exact⟨g,F⟩
   · have h2:=of_decide_eq_true hc
     exact QjV (Qez hb).2.2 n.toNat F (by omega)
theorem QqX (F:FinI K z g) (hs:z.steps<90000000) (m:Mv):∃g',FinI K (z.move m) g':=by
 unfold Sh.move
 split
 · unfold Sh.callA
   cases hb:inT m.t
   · exact⟨g,F⟩
   · exact⟨g,Qnk F (Qez hb).2.2 _ _ _⟩
 split
 · exact QqW F hs _ _
 split
 · exact⟨g,Qpj F _⟩
 split
 · exact Qpk F _
 · exact⟨g,F⟩
theorem Qp2 {K:Int}(h1:1<=K) (h6:K<=6):FinI K (Sh.new K) (Gh.new K):=⟨QmK h1 h6,fun d hd=>(by cases hd),Int.le_refl 0⟩
theorem QjW {K:Int}(h1:1<=K) (h6:K<=6):∀(n:Nat) (l:List Mv),l.length=n->n<=80000->∃g,FinI K (XY K l) g/\(XY K l).steps<=1000*(n:Int)
 |0,l,hl,_=>by
  have:=List.length_eq_zero_iff.1 hl
  subst this
  exact⟨_,Qp2 h1 h6,Int.le_refl 0⟩
 |n+1,l,hl,hn=>by
  obtain⟨l',m,rfl⟩:∃l' m,l=l'++[m]:=⟨l.dropLast,l.getLast (by intro h;rw[h]at hl;cases hl),(List.dropLast_concat_getLast _).symm⟩
  rw[List.length_append,List.length_singleton]at hl
  obtain⟨g,F,hs⟩:=QjW h1 h6 n l' (by omega) (by omega)
  rw[Qet]
  obtain⟨g',F'⟩:=QqX F (by omega) m
  have:=Qgs (XY K l') m
  exact⟨g',F',by omega⟩
theorem FinI.steps0 (F:FinI K z g):0<=z.steps:=by have:=F.s;omega
theorem FinI.lens (F:FinI K z g) (hs:z.steps<100000000):z.hist.length<=1000000000/\z.deeds.length<=1000000000:=by
 have h1:=F.s
 have h2:=F.i.gl.cb
 omega
theorem Qp6:∀(l:List Ask) (r:Rec),(bD r l).length<=l.length
 |[],r=>Nat.le_refl _
 |a::l,r=>by
  show (bDs r a++bD (Xp r a) l).length<=l.length+1
  rw[List.length_append]
  have:=Qp6 l (Xp r a)
  have h2:(bDs r a).length<=1:=by
   unfold bDs
   cases bOpen r a
   · exact Nat.zero_le _
   · exact Nat.le_refl _
  omega
theorem FinI.stOK (F:FinI K z g) (ht:t<4) (hs:z.steps<100000000):stOK z t:=by
 have hl:=F.lens hs
 refine⟨F.steps0,hs,hl.1,hl.2,(F.i.th t ht).th,fun h11=>?_⟩
 have O:=F.i.ho t ht ⟨by omega,by omega⟩
 obtain⟨hG,hD,-,-⟩:=O.nx (by omega) (by omega)
 have e:(Qa (z.wst t)).1.w.deeds=(z.w t).deeds:=by simp[Qa,Xe,Sh.wst,h11]
 rw[e,hD]
 have h4:=hG.len
 have:=Qp6 (z.w t).asks g.R
 omega
theorem FinI.craOK (F:FinI K z g) (hs:z.steps<100000000) {l:Int}(hu:U64 l):Qlx z l:=by
 have hl:=F.lens hs
 have G:=F.i.gl
 have h0:=G.v0
 have hd:=G.vd
 have hv:Qu l z.s 0=g.dv\/Qu l z.s 0=g.V:=by
  rcases land_mix l z.s 0 with h|h
  · rw[h];exact G.good0
  · rw[h];exact .inr G.now0
 have hb:=G.vb
 exact⟨F.steps0,hs,hl.1,hl.2,hu,by omega,by omega,fun d hd=>⟨F.p d hd,by have:=G.topR d hd;omega⟩⟩
theorem Fin2.fi (F:Fin2 K z g):FinI K z g:=⟨F.f.1,F.p,by
 obtain⟨I,of,H⟩:=F.f
 exact H.sl⟩
end
end
section
open Go.RowKit
theorem craH:(Con.mem craC.sh).holds Tryz.prog 42:=fun w0 S=>craC.lift (Qq1 w0 S) (by decide) (fun x _=>Xf x) (fun _=>rfl) (fun _ _ _ _ _ _ _ _=>⟨rfl,rfl,rfl,rfl⟩)
structure PlS where
 k:Int
 a:Option Addr
 n:Nat
 c:Nat
 z:Nat->Nat->Int
def Qi8 (W:World):MCon where
 σ:=PlS
 χ:=List Nat
 pre s:=(1<=s.k/\s.k<=6)/\s.n<=3000/\Rws 7 mvK W s.a s.n s.c s.z/\∀i,i<s.n->U64 (s.z i 6)
 args s:=[.c (.v (.int .i64 s.k)),.c (.r s.a s.n s.c s.n 7 mvK s.z)]
 mem s:=[]
 ok s x:=True
 val s x:=.t [.c (.p 0 0),.c (.v .nilIface)]
 mem' s x:=[.abs (Qz shM ShS.z ShS.good (XY s.k (mvL s.z s.n))) x]
 k:=0
 len:=1
 det:=none
 find args M:=some []
structure PlG (s:PlS) where
 i:Nat
 F:List Nat
 hi:i<=s.n
def Qn3 (s:PlS):Ann where
 σ:=PlG s
 I g:=([(6,.o (.c (.p 0 0))),(18,.o (.c (.r s.a s.n s.c s.n 7 mvK s.z))),(19,sv (.int .i64 s.n)),(20,sv (.int .i64 g.i))],[.abs (Qz shM ShS.z ShS.good (XY s.k (mvL s.z g.i))) g.F])
 dec g:=s.n-g.i
 pi env _:=[blkE env 6]
 nz:=[]
theorem CallOK.of {K:Int}{z:Sh}{g:Gh}(F:FinI K z g) (hs:z.steps<100000000):CallOK z:=⟨F.steps0,hs,(F.lens hs).1,fun t ht=>(F.i.th t ht).tg01⟩
theorem StpOK.of {K:Int}{z:Sh}{g:Gh}{t:Nat}(F:FinI K z g) (ht:t<4) (hs:z.steps<100000000):StpOK z t:=⟨ht,F.stOK ht hs,fun hn=>Qkg F.i ht (by have:=F.i.gl.vb;omega) hn⟩
theorem RunOK.of {K:Int}{z:Sh}{g:Gh}{t:Nat}(F:FinI K z g) (ht:t<4) (hs:z.steps<90000000) (n:Int):RunOK z t n:=⟨fun h0 h1 k hk=>by
 obtain⟨g',F'⟩:=QjV ht k F (by omega)
 have:=(QbQ t k z).2
 have S:=StpOK.of F' ht (by omega)
 exact⟨S.ok,S.pre⟩⟩
theorem play_con (W:World):(Con.mem (Qi8 W)).holdsAt Tryz.prog W (fun _=>False) 45:=by
 refine Qc (Γ:=[(43,.mem Qja),(23,.mem callA.sh),(24,.mem Ql9.sh),(67,.mem evC.sh),(42,.mem craC.sh)]) (fun w=>w) Tryz.func45 rfl (by kernel_rfl) Qg Qd (fun w S' _ _=>.cons (newH w _) (.cons (callH w _) (.cons (runH w _) (.cons (evH w _) (.cons (craH w _) (.nil _ _ _)))))) (Qi8 W) (fun s=>[(45,[(0,Qn3 s)])]) (fun x0 h=>by cases h)
  (fun s ρ w _ _ _=>OldOk.none w) [] (fun x M=>match x with
  |.t [.c (.p b _),_]=>[b]
  |_=>[]) 600 ?_
 rintro⟨k,a,n,c,z⟩ w ⟨⟨h1,h6⟩,hn,hr,hu⟩ hK
 refine⟨rfl,?_⟩
 have hr:=Rws.below hr (hK.below (Nat.le_refl _) (fun _ h=>h.elim))
 refine Qj (q:=∃(s:NewS),[aI k]=[aI s.1]/\eN/\((1:Int)<=s.1/\s.1<=(6:Int))/\∀(x:List Nat),True->(∃(s0:Ann.σ (Qn3 (PlS.mk k a n c z))),(eS (aP 0 0) (aP 0 0)/\eS (SA.c (.r a n c n 7 (fun (j:Nat)=>bif Nat.beq j 6 then .u64 else .i64) z)) (SA.c (.r a n c n 7 (fun (j:Nat)=>bif Nat.beq j 6 then .u64 else .i64) z))/\eS (aI ↑n) (aI ↑n)/\eS (aI 0) (aI ↑s0.1)/\True)/\[SB.abs (Qz shM ShS.z ShS.good (Sh.new s.1)) x]=[SB.abs (Qz shM ShS.z ShS.good (XY k (mvL z s0.1))) s0.2])/\∀(s:PlG (PlS.mk k a n c z)),bif decide ((↑s.1:Int)<(↑n:Int))then (Rws 7 mvK w a n c z/\(0:Int)<=(↑s.1:Int)/\(↑s.1:Int)<(↑n:Int)/\Int.toNat (↑s.1:Int)<n)/\(Rws 7 (fun (j:Nat)=>bif Nat.beq j 6 then .u64 else .i64) w a n c z/\Int.toNat (↑s.1:Int)<n)/\bif z (Int.toNat (↑s.1:Int)) 0==(1:Int)then ∃(s_1:Sh × (Int × OpA) × List Nat),[aP 0 0,aI (z (Int.toNat (↑s.1:Int)) 1),SA.a [sI (z (Int.toNat (↑s.1:Int)) 2),sI (z (Int.toNat (↑s.1:Int)) 3),sI (z (Int.toNat (↑s.1:Int)) 4)]]=[aP 0 0,aI s_1.2.1.1,SA.a [sI s_1.2.1.2.1,sI s_1.2.1.2.2,sI s_1.2.1.2.3]]/\[SB.abs (Qz shM ShS.z ShS.good (XY k (mvL z s.1))) s.2]=[SB.abs (Qz shM ShS.z ShS.good s_1.1) s_1.2.2]/\CallOK s_1.1/\∀(x:List Nat × Unit),True->∃(s':PlG (PlS.mk k a n c z)),((eS (aP 0 0) (aP 0 0)/\eS (SA.c (.r a n c n 7 (fun (j:Nat)=>bif Nat.beq j 6 then .u64 else .i64) z)) (SA.c (.r a n c n 7 (fun (j:Nat)=>bif Nat.beq j 6 then .u64 else .i64) z))/\eS (aI ↑n) (aI ↑n)/\eS (aI (IntKind.wrap .i64 ((↑s.1:Int)+(1:Int)))) (aI ↑s'.1)/\True)/\[SB.abs (Qz shM ShS.z ShS.good (bif inT s_1.2.1.1 then Sh.call s_1.1 (Int.toNat s_1.2.1.1) s_1.2.1.2.1 s_1.2.1.2.2 s_1.2.1.2.3 else s_1.1)) x.1]=[SB.abs (Qz shM ShS.z ShS.good (XY k (mvL z s'.1))) s'.2])/\n-s'.1<n-s.1 else bif z (Int.toNat (↑s.1:Int)) 0==(2:Int)then ∃(s_1:Sh × (Int × Int) × List Nat),[aP 0 0,aI (z (Int.toNat (↑s.1:Int)) 1),aI (z (Int.toNat (↑s.1:Int)) 5)]=[aP 0 0,aI s_1.2.1.1,aI s_1.2.1.2]/\[SB.abs (Qz shM ShS.z ShS.good (XY k (mvL z s.1))) s.2]=[SB.abs (Qz shM ShS.z ShS.good s_1.1) s_1.2.2]/\(inT s_1.2.1.1=true->RunOK s_1.1 (Int.toNat s_1.2.1.1) s_1.2.1.2)/\∀(x:List Nat × Unit),True->∃(s':PlG (PlS.mk k a n c z)),((eS (aP 0 0) (aP 0 0)/\eS (SA.c (.r a n c n 7 (fun (j:Nat)=>bif Nat.beq j 6 then .u64 else .i64) z)) (SA.c (.r a n c n 7 (fun (j:Nat)=>bif Nat.beq j 6 then .u64 else .i64) z))/\eS (aI ↑n) (aI ↑n)/\eS (aI (IntKind.wrap .i64 ((↑s.1:Int)+(1:Int)))) (aI ↑s'.1)/\True)/\[SB.abs (Qz shM ShS.z ShS.good (Sh.runA s_1.1 s_1.2.1.1 s_1.2.1.2)) x.1]=[SB.abs (Qz shM ShS.z ShS.good (XY k (mvL z s'.1))) s'.2])/\n-s'.1<n-s.1 else bif z (Int.toNat (↑s.1:Int)) 0==(3:Int)then ∃(s_1:Sh × Int × List Nat),[aP 0 0,aI (z (Int.toNat (↑s.1:Int)) 5)]=[aP 0 0,aI s_1.2.1]/\[SB.abs (Qz shM ShS.z ShS.good (XY k (mvL z s.1))) s.2]=[SB.abs (Qz shM ShS.z ShS.good s_1.1) s_1.2.2]/\True/\∀(x:List Nat × Unit),True->∃(s':PlG (PlS.mk k a n c z)),((eS (aP 0 0) (aP 0 0)/\eS (SA.c (.r a n c n 7 (fun (j:Nat)=>bif Nat.beq j 6 then .u64 else .i64) z)) (SA.c (.r a n c n 7 (fun (j:Nat)=>bif Nat.beq j 6 then .u64 else .i64) z))/\eS (aI ↑n) (aI ↑n)/\eS (aI (IntKind.wrap .i64 ((↑s.1:Int)+(1:Int)))) (aI ↑s'.1)/\True)/\[SB.abs (Qz shM ShS.z ShS.good (Sh.evict s_1.1 s_1.2.1)) x.1]=[SB.abs (Qz shM ShS.z ShS.good (XY k (mvL z s'.1))) s'.2])/\n-s'.1<n-s.1 else bif z (Int.toNat (↑s.1:Int)) 0==(4:Int)then ∃(s_1:Sh × Int × List Nat),[aP 0 0,aU (z (Int.toNat (↑s.1:Int)) 6)]=[aP 0 0,aU s_1.2.1]/\[SB.abs (Qz shM ShS.z ShS.good (XY k (mvL z s.1))) s.2]=[SB.abs (Qz shM ShS.z ShS.good s_1.1) s_1.2.2]/\Qlx s_1.1 s_1.2.1/\∀(x:List Nat × Unit),True->∃(s':PlG (PlS.mk k a n c z)),((eS (aP 0 0) (aP 0 0)/\eS (SA.c (.r a n c n 7 (fun (j:Nat)=>bif Nat.beq j 6 then .u64 else .i64) z)) (SA.c (.r a n c n 7 (fun (j:Nat)=>bif Nat.beq j 6 then .u64 else .i64) z))/\eS (aI ↑n) (aI ↑n)/\eS (aI (IntKind.wrap .i64 ((↑s.1:Int)+(1:Int)))) (aI ↑s'.1)/\True)/\[SB.abs (Qz shM ShS.z ShS.good (Sh.crash s_1.1 s_1.2.1)) x.1]=[SB.abs (Qz shM ShS.z ShS.good (XY k (mvL z s'.1))) s'.2])/\n-s'.1<n-s.1 else ∃(s':PlG (PlS.mk k a n c z)),((eS (aP 0 0) (aP 0 0)/\eS (SA.c (.r a n c n 7 (fun (j:Nat)=>bif Nat.beq j 6 then .u64 else .i64) z)) (SA.c (.r a n c n 7 (fun (j:Nat)=>bif Nat.beq j 6 then .u64 else .i64) z))/\eS (aI ↑n) (aI ↑n)/\eS (aI (IntKind.wrap .i64 ((↑s.1:Int)+(1:Int)))) (aI ↑s'.1)/\True)/\[SB.abs (Qz shM ShS.z ShS.good (XY k (mvL z s.1))) s.2]=[SB.abs (Qz shM ShS.z ShS.good (XY k (mvL z s'.1))) s'.2])/\n-s'.1<n-s.1 else endN (Qi8 W) [] (fun (x:SV) (M:List SB)=>match x with|SV.t [SA.c (.p b off),head]=>[b]|x=>[]) (PlS.mk k a n c z) (SV.t [aP 0 0,SA.c (.v Value.nilIface)]) [SB.abs (Qz shM ShS.z ShS.good (XY k (mvL z s.1))) s.2]) (by kernel_rfl) ?_
 have h1:1<=k:=h1
 have h6:k<=6:=h6
 have hn:n<=3000:=hn
 have hu:∀i,i<n->U64 (z i 6):=hu
 refine⟨⟨k⟩,rfl,rfl,⟨h1,h6⟩,fun x _=>⟨⟨⟨0,x,Nat.zero_le _⟩,⟨rfl,rfl,rfl,rfl,trivial⟩,rfl⟩,?_⟩⟩
 rintro⟨i,F,hi⟩
 have hi:i<=n:=hi
 dsimp only
 rw[Int.toNat_natCast]
 obtain⟨g,Fi,hs⟩:=QjW h1 h6 i (mvL z i) (QqM z i) (by omega)
 have hs2:(XY k (mvL z i)).steps<100000000:=by omega
 have enx:XY k (mvL z (i+1))=(XY k (mvL z i)).move (mvAt z i):=by rw[QoP,Qet]
 refine Qr (fun hlt=>?_) (fun hge=>?_)
 · have hlt':i<n:=by omega
   have go (S:Sh) (G:List Nat) (e:S=XY k (mvL z (i+1))):[SB.abs (Qz shM ShS.z ShS.good S) G]=[SB.abs (Qz shM ShS.z ShS.good (XY k (mvL z (i+1)))) G]:=by rw[e]
   refine⟨⟨hr,by omega,hlt,hlt'⟩,⟨hr,hlt'⟩,Q7 (fun hk=>?_) (fun hk1=>Q7 (fun hk=>?_) (fun hk2=>Q7 (fun hk=>?_) (fun hk3=>Q7 (fun hk=>?_) (fun hk4=>?_))))⟩
   · exact⟨(XY k (mvL z i),(z i 1,⟨z i 2,z i 3,z i 4⟩),F),rfl,rfl,CallOK.of Fi hs2,fun y _=>⟨⟨i+1,y.1,hlt'⟩,⟨⟨rfl,rfl,rfl,svI (sucI (by omega)),trivial⟩,go _ _ (by rw[enx];exact (if_pos hk).symm)⟩,by dsimp only;omega⟩⟩
   · exact⟨(XY k (mvL z i),(z i 1,z i 5),F),rfl,rfl,fun ht=>RunOK.of Fi (Qez ht).2.2 (by omega) _,fun y _=>⟨⟨i+1,y.1,hlt'⟩,⟨⟨rfl,rfl,rfl,svI (sucI (by omega)),trivial⟩,go _ _ (by rw[enx];exact ((if_neg hk1).trans (if_pos hk)).symm)⟩,by dsimp only;omega⟩⟩
   · exact⟨(XY k (mvL z i),z i 5,F),rfl,rfl,trivial,fun y _=>⟨⟨i+1,y.1,hlt'⟩,⟨⟨rfl,rfl,rfl,svI (sucI (by omega)),trivial⟩,go _ _ (by rw[enx];exact ((if_neg hk1).trans ((if_neg hk2).trans (if_pos hk))).symm)⟩,by dsimp only;omega⟩⟩
   · exact⟨(XY k (mvL z i),z i 6,F),rfl,rfl,Fi.craOK (by omega) (hu i hlt'),fun y _=>⟨⟨i+1,y.1,hlt'⟩,⟨⟨rfl,rfl,rfl,svI (sucI (by omega)),trivial⟩,go _ _ (by rw[enx];exact ((if_neg hk1).trans ((if_neg hk2).trans ((if_neg hk3).trans (if_pos hk)))).symm)⟩,by dsimp only;omega⟩⟩
   · exact⟨⟨i+1,F,hlt'⟩,⟨⟨rfl,rfl,rfl,svI (sucI (by omega)),trivial⟩,go _ _ (by rw[enx];exact ((if_neg hk1).trans ((if_neg hk2).trans ((if_neg hk3).trans (if_neg hk4)))).symm)⟩,by dsimp only;omega⟩
 · obtain rfl:i=n:=by omega
   exact Qk rfl F trivial rfl rfl rfl
theorem TCon.weak {X Y α χ:Type}(c c':TCon Y α χ) {L:X->List SB}{y:X->Y}{good:X->Prop}{P:Program}{f:FuncId}(h:(Con.mem (c.high L y good)).holds P f)
 (e:c'={ c with pre:=c'.pre,val:=c'.val }) (hp:∀z a,c'.pre z a->c.pre z a) (hv:∀n z a r,c'.pre z a->c'.val n z a r=c.val n z a r):(Con.mem (c'.high L y good)).holds P f:=by
 obtain⟨pre',args',ok',next',val',new',len'⟩:=c'
 dsimp only at e hp hv
 injection e with _ e1 e2 e3 _ e4 e5
 subst e1 e2 e3 e4 e5
 intro w0 S
 have h:=h w0 S
 refine⟨h.1,fun x0 h=>(by cases h),fun ρ s w hpp hK HM=>(h.2.2 ρ s w (hp _ _ hpp) hK HM).mono ?_⟩
 rintro e w' ⟨x,ρ',h1,h2,h3,h4,h5⟩
 refine⟨x,ρ',h1,h2,h3,?_,h5⟩
 rw[h4]
 show Ending.returned ((c.val 1 s.1 s.2.1 x.2).den ρ')=Ending.returned ((val' 1 s.1 s.2.1 x.2).den ρ')
 rw[hv 1 s.1 s.2.1 x.2 hpp]
def Qq9:TCon Sh (Int × OpA) Unit where
 pre z a:=CallOK z/\(inT a.1=true/\(z.w a.1.toNat).does=0/\opOk a.2.k a.2.key a.2.x=true)
 args a:=[.c (.v (.int .i64 a.1)),.a [.one (.v (.int .i64 a.2.k)),.one (.v (.int .i64 a.2.key)),.one (.v (.int .i64 a.2.x))]]
 ok _ _ _:=True
 next z a _:=bif inT a.1 then z.call a.1.toNat a.2.k a.2.key a.2.x else z
 val _ z a _:=.o (.c (.v .nilIface))
 new _ _ _ _:=[]
 len:=0
theorem callNH:(Con.mem Qq9.sh).holds Tryz.prog 23:=TCon.weak callA Qq9 callH rfl (fun z a h=>h.1) (fun n z a r h=>by
 obtain⟨h1,h2,h3⟩:=h.2
 show SV.o (.c (.v .nilIface))=.o (.c (.v (bif inT a.1 then (bif (z.w a.1.toNat).does==0 then (bif opOk a.2.k a.2.key a.2.x then .nilIface else _)else _)else _)))
 rw[h1,h3,show ((z.w a.1.toNat).does==0)=true from beq_iff_eq.2 h2];rfl)
def runG:TCon Sh (Int × Int) Unit where
 pre z a:=(inT a.1=true->RunOK z a.1.toNat a.2)/\(inT a.1=true/\runB a.2=true)
 args a:=[.c (.v (.int .i64 a.1)),.c (.v (.int .i64 a.2))]
 ok _ _ _:=True
 next z a _:=z.runA a.1 a.2
 val _ z a _:=.t [.c (.v (.int .i64 (z.ran a.1.toNat a.2.toNat:Nat))),.c (.v .nilIface)]
 new _ _ _ _:=[]
 len:=0
theorem runGH:(Con.mem runG.sh).holds Tryz.prog 24:=TCon.weak Ql9 runG runH rfl (fun z a h=>h.1) (fun n z a r h=>by
 obtain⟨h1,h2⟩:=h.2
 show SV.t [.c (.v (.int .i64 _)),.c (.v .nilIface)]=.t [.c (.v (.int .i64 (bif inT a.1 then (bif runB a.2 then _ else 0)else 0))),.c (.v (bif inT a.1 then (bif runB a.2 then .nilIface else _)else _))]
 rw[h1,h2];rfl)
def Qhn:PCon:=⟨fun args=>match args with
 |[]=>True
 |_=>False,fun _=>sv (.bool true),fun _=>none⟩
theorem shops_con:(Con.pure Qhn).holds Tryz.prog 15:=by
 refine QF (AG:=[]) (Γ:=[(43,.mem Qja),(44,.pure Qiq),(23,.mem Qq9.sh),(24,.mem runG.sh),(42,.mem craC.sh),(26,.mem verC.sh),(27,.mem ddsC.sh),(19,.mem hisC.sh),(21,.mem Qi6.sh)]) Tryz.func15 rfl (by kernel_rfl) Qg Qd
  (fun W=>.cons (newH W _) (.cons (Qmh W _) (.cons (callNH W _) (.cons (runGH W _) (.cons (craH W _) (.cons (verH W _) (.cons (ddsH W _) (.cons (hisH W _) (.cons (doesH W _) (.nil _ _ _)))))))))) Qhn 400 ?_
 intro W args hp
 unfold Qhn at hp;dsimp only at hp;split at hp
 case h_2=>exact hp.elim
 refine⟨rfl,?_⟩
 refine Qj (q:=∃(s:NewS),[aI 1]=[aI s.1]/\eN/\((1:Int)<=s.1/\s.1<=(6:Int))/\∀(x:List Nat),True->True/\∃(s_1:Sh × (Int × OpA) × List Nat),[aP 0 0,aI 0,SA.a [sI 1,sI 0,sI 3]]=[aP 0 0,aI s_1.2.1.1,SA.a [sI s_1.2.1.2.1,sI s_1.2.1.2.2,sI s_1.2.1.2.3]]/\[SB.abs (Qz shM ShS.z ShS.good (Sh.new s.1)) x]=[SB.abs (Qz shM ShS.z ShS.good s_1.1) s_1.2.2]/\(CallOK s_1.1/\inT s_1.2.1.1=true/\(Sh.w s_1.1 (Int.toNat s_1.2.1.1)).2=(0:Int)/\opOk s_1.2.1.2.1 s_1.2.1.2.2 s_1.2.1.2.3=true)/\∀(x:List Nat × Unit),True->∃(s:Sh × (Int × Int) × List Nat),[aP 0 0,aI 0,aI 200]=[aP 0 0,aI s.2.1.1,aI s.2.1.2]/\[SB.abs (Qz shM ShS.z ShS.good (bif inT s_1.2.1.1 then Sh.call s_1.1 (Int.toNat s_1.2.1.1) s_1.2.1.2.1 s_1.2.1.2.2 s_1.2.1.2.3 else s_1.1)) x.1]=[SB.abs (Qz shM ShS.z ShS.good s.1) s.2.2]/\((inT s.2.1.1=true->RunOK s.1 (Int.toNat s.2.1.1) s.2.1.2)/\inT s.2.1.1=true/\runB s.2.1.2=true)/\∀(x:List Nat × Unit),True->∃(s_2:Sh × Int × List Nat),[aP 0 0,aU 0]=[aP 0 0,aU s_2.2.1]/\[SB.abs (Qz shM ShS.z ShS.good (Sh.runA s.1 s.2.1.1 s.2.1.2)) x.1]=[SB.abs (Qz shM ShS.z ShS.good s_2.1) s_2.2.2]/\Qlx s_2.1 s_2.2.1/\∀(x:List Nat × Unit),True->bif (↑(Sh.ran s.1 (Int.toNat s.2.1.1) (Int.toNat s.2.1.2)):Int)==(84:Int)then ∃(s:Sh × Unit × List Nat),[aP 0 0]=[aP 0 0]/\[SB.abs (Qz shM ShS.z ShS.good (Sh.crash s_2.1 s_2.2.1)) x.1]=[SB.abs (Qz shM ShS.z ShS.good s.1) s.2.2]/\((0:Int)<=(Sh.s s.1).1 0/\(Sh.s s.1).1 0<(1000000000:Int))/\∀(x:List Nat × Unit),True->bif (Sh.s s.1).1 0==(1:Int)then ∃(s_3:Sh × Unit × List Nat),[aP 0 0]=[aP 0 0]/\[SB.abs (Qz shM ShS.z ShS.good s.1) x.1]=[SB.abs (Qz shM ShS.z ShS.good s_3.1) s_3.2.2]/\List.length s_3.1.7<=1000000000/\∀(x:List Nat × RwR),(List.length s_3.1.7<=x.2.1/\x.2.1<=x.2.2)/\IsR 6 Dd.at Dd.nil x.2.4 (List.map (fun (self:Vd)=>self.2) s_3.1.7)->List.length s_3.1.7<=x.2.2/\bif (↑(List.length s_3.1.7):Int)==(1:Int)then ∃(s:Sh × Unit × List Nat),[aP 0 0]=[aP 0 0]/\[SB.abs (Qz shM ShS.z ShS.good s_3.1) x.1]=[SB.abs (Qz shM ShS.z ShS.good s.1) s.2.2]/\List.length s.1.6<=1000000000/\∀(x:List Nat × RwR),(List.length s.1.6<=x.2.1/\x.2.1<=x.2.2)/\IsE x.2.4 s.1.6->List.length s.1.6<=x.2.2/\bif (↑(List.length s.1.6):Int)==(3:Int)then ∃(s_4:Sh × Nat × List Nat),[aP 0 0,aI 0]=[aP 0 0,aI (↑s_4.2.1:Int)]/\[SB.abs (Qz shM ShS.z ShS.good s.1) x.1]=[SB.abs (Qz shM ShS.z ShS.good s_4.1) s_4.2.2]/\s_4.2.1<4/\∀(x:List Nat × Unit),True->SV.o (aB ((Sh.w s_4.1 s_4.2.1).2==(0:Int)))=SV.o (aB true)/\true=true else SV.o (aB false)=SV.o (aB true)/\true=true else SV.o (aB false)=SV.o (aB true)/\true=true else SV.o (aB false)=SV.o (aB true)/\true=true else SV.o (aB false)=SV.o (aB true)/\true=true) (by kernel_rfl) ?_
 have l1:((Sh.new 1).call 0 1 0 3).ran 0 200=84:=by kernel_rfl
 have l2:((((Sh.new 1).call 0 1 0 3).run 0 200).crash 0).s.now 0=1:=by kernel_rfl
 have l3:((((Sh.new 1).call 0 1 0 3).run 0 200).crash 0).deeds.length=1:=by kernel_rfl
 have l4:((((Sh.new 1).call 0 1 0 3).run 0 200).crash 0).hist.length=3:=by kernel_rfl
 have l5:(((((Sh.new 1).call 0 1 0 3).run 0 200).crash 0).w 0).does=0:=by kernel_rfl
 have F0:=Qp2 (K:=1) (by decide) (by decide)
 have s1:((Sh.new 1).call 0 1 0 3).steps<=1:=(Qc5 (Sh.new 1) 0 1 0 3).2
 have F1:=Qnk F0 (t:=0) (by decide) 1 0 3
 have hst:=(QbQ 0 200 ((Sh.new 1).call 0 1 0 3)).2
 obtain⟨g,Fg⟩:=QjV (t:=0) (by decide) 200 F1 (by omega)
 obtain⟨z1,hz1⟩:∃z1,z1=(Sh.new 1).call 0 1 0 3:=⟨_,rfl⟩
 rw[<- hz1]at l1 l2 l3 l4 l5 Fg hst s1 F1
 have er:z1.runA 0 200=z1.run 0 200:=by unfold Sh.runA;rw[show inT 0=true from rfl,show runB 200=true from rfl];rfl
 obtain⟨z2,hz2⟩:∃z2,z2=z1.run 0 200:=⟨_,rfl⟩
 rw[<- hz2]at l2 l3 l4 l5 Fg hst
 obtain⟨z3,hz3⟩:∃z3,z3=z2.crash 0:=⟨_,rfl⟩
 rw[<- hz3]at l2 l3 l4 l5
 have go {S T:Sh}(G:List Nat) (e:S=T):[SB.abs (Qz shM ShS.z ShS.good S) G]=[SB.abs (Qz shM ShS.z ShS.good T) G]:=by rw[e]
 have c0:CallOK (Sh.new 1):=CallOK.of F0 (by show (0:Int)<100000000;decide)
 have c1:RunOK z1 0 200:=RunOK.of F1 (by decide) (by omega) 200
 have c2:Qlx z2 0:=Fg.craOK (by omega) ⟨by decide,by decide⟩
 have q1:((z1.ran (Int.toNat 0) (Int.toNat 200):Nat):Int)=84:=by
  rw[show z1.ran (Int.toNat 0) (Int.toNat 200)=84 from l1];rfl
 exact⟨⟨1⟩,rfl,rfl,⟨by decide,by decide⟩,fun x _=>⟨trivial,(Sh.new 1,(0,⟨1,0,3⟩),x),rfl,rfl,⟨c0,rfl,rfl,(by decide:opOk 1 0 3=true)⟩,fun y _=>⟨(z1,(0,200),y.1),rfl,go y.1 hz1.symm,⟨fun _=>c1,rfl,rfl⟩,fun y _=>⟨(z2,0,y.1),rfl,go y.1 (er.trans hz2.symm),c2,fun y _=>Q7
  (fun _=>⟨(z3,(),y.1),rfl,go y.1 hz3.symm,⟨by show 0<=z3.s.now 0;omega,by show z3.s.now 0<1000000000;omega⟩,fun y _=>Q7
   (fun _=>⟨(z3,(),y.1),rfl,rfl,by show z3.deeds.length<=1000000000;omega,fun y hy=>⟨Nat.le_trans hy.1.1 hy.1.2,Q7
    (fun _=>⟨(z3,(),y.1),rfl,rfl,by show z3.hist.length<=1000000000;omega,fun y hy=>⟨Nat.le_trans hy.1.1 hy.1.2,Q7
     (fun _=>⟨(z3,0,y.1),rfl,rfl,by show 0<4;decide,fun y _=>⟨by rw[show (((z3.w 0).does==0):Bool)=true from beq_iff_eq.2 l5],rfl⟩⟩)
     (fun h=>absurd (by show ((z3.hist.length:Nat):Int)=3;omega) h)⟩⟩)
    (fun h=>absurd (by show ((z3.deeds.length:Nat):Int)=1;omega) h)⟩⟩)
   (fun h=>absurd (by show z3.s.now 0=1;omega) h)⟩)
  (fun h=>absurd q1 h)⟩⟩⟩⟩
theorem wfU {x:Int}(h:(Lit.int .u64 x).wf=true):U64 x:=by
 have h2:(decide ((0:Int)<=x)&&decide (x<=18446744073709551615))=true:=h
 simp only[Bool.and_eq_true,decide_eq_true_eq]at h2
 exact⟨h2.1,by omega⟩
theorem abGo {S T:Sh}(G:List Nat) (e:S=T):[SB.abs (Qz shM ShS.z ShS.good S) G]=[SB.abs (Qz shM ShS.z ShS.good T) G]:=by rw[e]
theorem FinI.ver {K:Int}{z:Sh}{g:Gh}(F:FinI K z g) (hs:z.steps<100000000):0<=z.s.now 0/\z.s.now 0<1000000000:=by
 have h1:=F.i.now
 have h2:=F.i.gl.vb
 have h3:=F.i.gl.now0
 omega
end
section
section
variable {K:Int}{z:Sh}{g:Gh}{t:Nat}
theorem FinI.cur (F:FinI K z g) {i:Nat}(hi:i<32):z.cur i=fL g.R.words i:=by
 show z.s.now (Qq (z.s.now 0)+i)=_
 rw[F.1.gl.now0];exact F.1.gl.nowR i hi
theorem FinI.idle4 (F:FinI K z g) (h:∀u,u<4->(z.w u).does=0):z.m 0=0/\g.V=g.dv/\g.R=g.Q:=by
 refine⟨?_,?_⟩
 · rcases F.1.lk with⟨a,-⟩|⟨u,hu,-,hh,-⟩
   · exact a
   · have:=h u hu
     unfold Xr at hh;omega
 · have hV:g.V=g.dv:=by
    rcases F.1.gl.vd with e|e
    · exact e
    · obtain⟨u,hu,h12,h14⟩:=F.1.mid e
      have:=h u hu;omega
   exact⟨hV,(F.1.gl.same hV).1⟩
end
end
section
section
variable {K:Int}{z:Sh}{g:Gh}{t:Nat}
end
end
section
section
variable {K:Int}{z:Sh}{g:Gh}{t:Nat}
structure Alone (K:Int) (t:Nat) (a:Ask) (z:Sh) (g:Gh) (z':Sh) (g':Gh):Prop where
 fin:Fin2 K z' g'
 idle:(z'.w t).does=0
 W:∀u,u≠t->z'.w u=z.w u
 V:g'.V=g.V+1
 R:g'.R=bDo g.R [a]
 deeds:z'.deeds=z.deeds++(bD g.R [a]).map (Vd.mk (g.V+1))
 hist:∃e:Ev,z'.hist=z.hist++[⟨1,t,a.k,a.key,a.x,0,0,0,z.steps+1⟩]++[e]/\e.kind=2/\e.t=t
theorem askN4 (R:Rec) (ms:Nat->Int) (ht:t<4) (h1:askB R ms t=true) (h2:∀u,u<4->u≠t->askB R ms u=false):askN R ms 0 4=5:=by
 simp only[askN]
 rcases (show t=0\/t=1\/t=2\/t=3 by omega)with rfl|rfl|rfl|rfl
 · rw[h1,h2 (0+1) (by decide) (by decide),h2 (0+1+1) (by decide) (by decide),h2 (0+1+1+1) (by decide) (by decide)];rfl
 · rw[h2 0 (by decide) (by decide),show askB R ms (0+1)=true from h1,h2 (0+1+1) (by decide) (by decide),h2 (0+1+1+1) (by decide) (by decide)];rfl
 · rw[h2 0 (by decide) (by decide),h2 (0+1) (by decide) (by decide),show askB R ms (0+1+1)=true from h1,h2 (0+1+1+1) (by decide) (by decide)];rfl
 · rw[h2 0 (by decide) (by decide),h2 (0+1) (by decide) (by decide),h2 (0+1+1) (by decide) (by decide),show askB R ms (0+1+1+1)=true from h1];rfl
theorem askL4 (R:Rec) (ms mo:Nat->Int) (ht:t<4) (h1:askB R ms t=true) (h2:∀u,u<4->u≠t->askB R ms u=false):askL R ms mo 4=[QnP ms mo t]:=by
 simp only[askL]
 rcases (show t=0\/t=1\/t=2\/t=3 by omega)with rfl|rfl|rfl|rfl
 · rw[h1,h2 1 (by decide) (by decide),h2 2 (by decide) (by decide),h2 3 (by decide) (by decide)];rfl
 · rw[h1,h2 0 (by decide) (by decide),h2 2 (by decide) (by decide),h2 3 (by decide) (by decide)];rfl
 · rw[h1,h2 0 (by decide) (by decide),h2 1 (by decide) (by decide),h2 3 (by decide) (by decide)];rfl
 · rw[h1,h2 0 (by decide) (by decide),h2 1 (by decide) (by decide),h2 2 (by decide) (by decide)];rfl
structure Said (K:Int) (t:Nat) (a:Ask) (z:Sh) (g:Gh) (z3:Sh):Prop where
 f:Fine K z3 g
 does:(z3.w t).does=3
 W:∀u,u≠t->z3.w u=z.w u
 m0:z3.m 0=z.m 0
 ms:z3.m (3+2*t)=a.g+1
 mo:z3.m (2+2*t)=opW a.k a.key a.x
 om:∀i,i≠3+2*t->i≠2+2*t->z3.m i=z.m i
 s:z3.s=z.s
 deeds:z3.deeds=z.deeds
 hist:z3.hist=z.hist++[⟨1,t,a.k,a.key,a.x,0,0,0,z.steps+1⟩]
 steps:z3.steps=z.steps+3
 tog:z3.tog=z.tog
 wk:(z3.w t).tog=a.g/\(z3.w t).k=a.k/\(z3.w t).key=a.key/\(z3.w t).x=a.x/\(z3.w t).said=true
theorem Qqv (F:Fine K z g) (ht:t<4) (hi:(z.w t).does=0) {k key x:Int}(ho:opOk k key x=true) (hs:z.steps<90000000):
 Said K t ⟨t,1-z.tog t,k,key,x⟩ z g ((z.call t k key x).run t 2)/\((z.call t k key x).run t 1).w t≠z.w t:=by
 have T:=F.1.th t ht
 have hth:=T.th
 have e1:z.call t k key x=z.called t k key x:=if_pos ⟨hi,ho⟩
 have F1:=QdU F ht k key x
 rw[e1]at F1 ⊢
 have w1:(z.called t k key x).w t=Wk.call (z.w t).th k key x (1-z.tog t) false:=Qi _ _ _
 rw[hth]at w1
 have W1:∀u,u≠t->(z.called t k key x).w u=z.w u:=fun u hu=>QV _ _ hu
 have d1:((z.called t k key x).w t).does=1:=by rw[w1];rfl
 generalize hz1:z.called t k key x=z1 at *
 have m1:z1.m=z.m:=by rw[<- hz1];rfl
 have s1:z1.s=z.s:=by rw[<- hz1];rfl
 have dd1:z1.deeds=z.deeds:=by rw[<- hz1];rfl
 have hh1:z1.hist=z.hist++[⟨1,t,k,key,x,0,0,0,z.steps+1⟩]:=by rw[<- hz1];rfl
 have st1:z1.steps=z.steps+1:=by rw[<- hz1];rfl
 have tg1:z1.tog=z.tog:=by rw[<- hz1];rfl
 have n1:(z1.w t).does≠0:=by omega
 have F2:=QaR F1 ht (by omega) n1
 have g1:g.step z1 t=g:=by unfold Gh.step;rw[if_neg (by omega),if_neg (by omega)]
 rw[g1]at F2
 have p1:Qa (z1.wst t)=(⟨{ z1.w t with does:=2 },putF z1.m (2+2*(z1.w t).th) (opW (z1.w t).k (z1.w t).key (z1.w t).x),z1.s⟩,false):=by simp[Qa,sayP,Sh.wst,d1]
 have q1:=Qo (by omega) p1
 have w2:(z1.stepped t).w t={ z1.w t with does:=2 }:=by rw[q1];exact Qi _ _ _
 have W2:∀u,u≠t->(z1.stepped t).w u=z1.w u:=fun u hu=>by rw[q1];exact QV _ _ hu
 have m2:(z1.stepped t).m=putF z1.m (2+2*t) (opW k key x):=by rw[q1,w1];rfl
 have s2:(z1.stepped t).s=z1.s:=by rw[q1];rfl
 have dd2:(z1.stepped t).deeds=z1.deeds:=by rw[q1];rfl
 have hh2:(z1.stepped t).hist=z1.hist:=by rw[q1];rfl
 have st2:(z1.stepped t).steps=z1.steps+1:=by rw[q1];rfl
 have tg2:(z1.stepped t).tog=z1.tog:=by rw[q1];rfl
 have er:z1.run t 2=(z1.stepped t).step t/\z1.run t 1=z1.stepped t:=by
  have:z1.step t=z1.stepped t:=if_neg n1
  exact⟨by show (z1.step t).step t=_;rw[this],this⟩
 rw[er.1,er.2]
 generalize hz2:z1.stepped t=z2 at *
 have d2:(z2.w t).does=2:=by rw[w2]
 have n2:(z2.w t).does≠0:=by omega
 have F3:=QaR F2 ht (by omega) n2
 have g2:g.step z2 t=g:=by unfold Gh.step;rw[if_neg (by omega),if_neg (by omega)]
 rw[g2]at F3
 have p2:Qa (z2.wst t)=(⟨{ z2.w t with said:=true,does:=3 },putF z2.m (3+2*(z2.w t).th) ((z2.w t).tog+1),z2.s⟩,false):=by simp[Qa,sayP,Sh.wst,d2]
 have q2:=Qo (by omega) p2
 have es:z2.step t=z2.stepped t:=if_neg n2
 rw[es]
 have w3:(z2.stepped t).w t={ z2.w t with said:=true,does:=3 }:=by rw[q2];exact Qi _ _ _
 have m3:(z2.stepped t).m=putF (putF z1.m (2+2*t) (opW k key x)) (3+2*t) (1-z.tog t+1):=by
  rw[q2]
  show putF z2.m (3+2*(z2.w t).th) ((z2.w t).tog+1)=_
  rw[w2,w1,m2];rfl
 refine⟨⟨F3,by rw[w3],fun u hu=>?_,?_,?_,?_,fun i h3 h2=>?_,?_,?_,?_,?_,?_,?_⟩,?_⟩
 · rw[q2];exact (QV _ _ hu).trans ((W2 u hu).trans (W1 u hu))
 · rw[m3,Qs _ _ (by omega),Qs _ _ (by omega),m1]
 · rw[m3,Q0]
 · rw[m3,Qs _ _ (by omega),Q0]
 · rw[m3,Qs _ _ h3,Qs _ _ h2,m1]
 · rw[q2];show z2.s=_;rw[s2,s1]
 · rw[q2];show z2.deeds=_;rw[dd2,dd1]
 · rw[q2];show z2.hist=_;rw[hh2,hh1]
 · rw[q2];show z2.steps+1=_;omega
 · rw[q2];show z2.tog=_;rw[tg2,tg1]
 · rw[w3,w2,w1];exact⟨rfl,rfl,rfl,rfl,rfl⟩
 · intro e
   have:=congrArg Wk.does e
   rw[d2]at this;omega
theorem QmV (I:ShInv K z g) {u:Nat}(hu:u<4) (hi:(z.w u).does=0):askB g.R (fun u=>z.m (3+2*u)) u=false:=by
 have T:=I.th u hu
 obtain⟨h1,-,h2⟩:=T.idle hi
 exact decide_eq_false (fun ⟨h3,h4⟩=>by
  rcases h2 with h2|h2
  · exact h3 h2
  · exact h4 (by show z.m (3+2*u)-1=_;rw[h2,h1];omega))
theorem Qlt {R:Rec}{ms ms':Nat->Int}{u:Nat}(h:ms u=ms' u):askB R ms u=askB R ms' u:=by
 unfold askB
 exact decide_eq_decide.2 (by rw[h])
theorem Ql7 (I:ShInv K z g) (ht:t<4) (hi:(z.w t).does=0) {ms:Nat->Int}(h:ms t=1-z.tog t+1):askB g.R ms t=true:=by
 have T:=I.th t ht
 obtain⟨h1,-,h2⟩:=T.idle hi
 have h3:=T.tg01
 exact decide_eq_true ⟨by omega,by rw[h1];omega⟩
theorem alone (F:Fin2 K z g) (ht:t<4) (hi:∀u,u<4->(z.w u).does=0) {k key x:Int}(ho:opOk k key x=true) (hs:z.steps<90000000):
 ∃g',Alone K t ⟨t,1-z.tog t,k,key,x⟩ z g ((z.call t k key x).run t 84) g'/\∀n,84<=n->(z.call t k key x).run t n=(z.call t k key x).run t 84/\(z.call t k key x).ran t n=84:=by
 obtain⟨Sd,-⟩:=Qqv F.f ht (hi t ht) ho hs
 have hfree:=(F.fi.idle4 hi).1
 obtain⟨z1,hz1⟩:∃z1,z1=z.call t k key x:=⟨_,rfl⟩
 rw[<- hz1]at Sd ⊢
 have P1:PosV z1:=by rw[hz1];exact (Qpi F ht k key x).p
 have hFz1:Fine K z1 g:=by rw[hz1];exact QdU F.f ht k key x
 have hst1:z1.steps<=z.steps+1:=by rw[hz1];exact (Qc5 z t k key x).2
 have r2:=Qer t 2
 obtain⟨z3,hz3⟩:∃z3,z3=z1.run t 2:=⟨_,rfl⟩
 have er:∀n,z1.run t (n+2)=z3.run t n:=fun n=>by rw[hz3,Nat.add_comm n 2];exact Qer t 2 n z1
 have en:∀n,z1.ran t (n+2)=z3.ran t n+2:=fun n=>by
  have d1:(z1.w t).does≠0:=fun e=>by
   have:=(QcT t 2 e).1
   have h3:=Sd.does
   rw[this]at h3;omega
  have d2:((z1.step t).w t).does≠0:=fun e=>by
   have:=(QcT t 1 e).1
   have h3:=Sd.does
   rw[show z1.run t 2=(z1.step t).run t 1 from rfl,this]at h3;omega
  show (if (z1.w t).does=0 then 0 else (z1.step t).ran t (n+1)+1)=_
  rw[if_neg d1]
  show (if ((z1.step t).w t).does=0 then 0 else ((z1.step t).step t).ran t n+1)+1=_
  rw[if_neg d2,hz3];rfl
 rw[<- hz3]at Sd
 obtain⟨c,hc⟩:∃c:SoC,c=⟨fun u=>z3.m (3+2*u),fun u=>z3.m (2+2*u),z3.w,z3.tog,z3.hist,z3.deeds,g.R,g.V⟩:=⟨_,rfl⟩
 have S:Solo t c z3 g:=by
  subst hc
  have hd:=Sd.does
  exact⟨by omega,by omega,fun _ _=>rfl,fun _ _=>rfl,fun _=>Sd.m0.trans hfree,fun _ _=>rfl,rfl,rfl,fun _=>⟨rfl,rfl,rfl⟩,fun h=>by omega,fun h=>by omega,fun h=>by omega,fun h=>by omega⟩
 have hB:askB c.R c.ms t=true:=by
  subst hc
  exact Ql7 F.f.1 ht (hi t ht) Sd.ms
 have hN:∀u,u<4->u≠t->askB c.R c.ms u=false:=fun u hu hne=>by
  subst hc
  have:=QmV F.f.1 hu (hi u hu)
  exact (Qlt (R:=g.R) (ms:=fun u=>z3.m (3+2*u)) (ms':=fun u=>z.m (3+2*u)) (Sd.om (3+2*u) (by omega) (by omega))).trans this
 have hl:left c (z3.w t)=82:=by rw[QqR c Sd.does,askN4 c.R c.ms ht hB hN]
 have hL:askL c.R c.ms c.mo 4=[⟨t,1-z.tog t,k,key,x⟩]:=by
  rw[askL4 c.R c.ms c.mo ht hB hN]
  have hb:=QgZ ho
  subst hc
  unfold QnP
  dsimp only
  rw[Sd.ms,Sd.mo]
  dsimp only
  rw[hb.1,hb.2.1,hb.2.2.1,show 1-z.tog t+1-1=1-z.tog t by omega]
 have hst:=Sd.steps
 obtain⟨g',E,hk⟩:=Qjq ht 82 Sd.f S hl (by omega)
 have eR:c.R=g.R:=by subst hc;rfl
 have eV:c.V=g.V:=by subst hc;rfl
 have eD:c.deeds=z.deeds:=by subst hc;exact Sd.deeds
 have eW:c.W=z3.w:=by subst hc;rfl
 have eH:c.hist=z3.hist:=by subst hc;rfl
 have h84:=er 82
 refine⟨g',⟨?_,?_,?_,?_,?_,?_,?_⟩,fun n hn=>?_⟩
 · exact⟨by rw[h84];exact E.fine,QiT ht 84 hFz1 P1 (by omega)⟩
 · rw[h84];exact E.idle
 · intro u hu;rw[h84,E.W u hu,eW];exact Sd.W u hu
 · rw[E.V,eV]
 · rw[E.R,hL,eR]
 · rw[h84,E.deeds,hL,eR,eV,eD]
 · obtain⟨e,h1,h2,h3⟩:=E.hist
   exact⟨e,by rw[h84,h1,eH,Sd.hist],h2,h3⟩
 · obtain⟨j,rfl⟩:∃j,n=j+2:=⟨n-2,by omega⟩
   have:=hk j (by omega)
   rw[er j,en j,h84,this.1,this.2];exact⟨rfl,rfl⟩
end
end
section
open Go.ChangeShapes Go.WideShapes Go.RowKit
theorem lOwn:ownKnob Tryz.prog.godebug=none:=by kernel_rfl
theorem lEt:Tryz.prog.globalNamed "errors.errorType" =some 0:=by kernel_rfl
theorem lRt:(Tryz.prog.cutTypes.find? (·.1 == "internal/reflectlite.rtype")).map (·.2)=some 211:=by kernel_rfl
theorem lSize:Tryz.prog.types.size=262:=by kernel_rfl
theorem lRow:((List.range 262).filter fun t=>Tryz.prog.rowNamed t [101,114,114,111,114])=[40]:=by kernel_rfl
abbrev laidL:List (String × DataW Unit):=[("errors.errorType",Rows.laid_errors_errorType)]
abbrev ErrType (W:World):Prop:=W.cell? ⟨0,0,none⟩=some (.iface 211 (.agg #[.pointer (some ⟨1,40,none⟩)]))
theorem handle_of_laid {W:World}(h:laidMetH Tryz.prog laidL W):ErrType W:=by
 have h':laidMet Tryz.prog [] W/\handlesMet Tryz.prog laidL W:=h
 obtain⟨name,u,ty,e1,e2,e3,e4,e5⟩:=h'.2 _ (List.mem_singleton.2 rfl)
 have en:name=[101,114,114,111,114]:=(Option.some.inj e1).symm
 subst en
 obtain rfl:=Option.some.inj (lRt.symm.trans e2)
 have hm:ty∈(List.range 262).filter fun t=>Tryz.prog.rowNamed t [101,114,114,111,114]:=List.mem_filter.2 ⟨List.mem_range.2 (by rw[<- lSize];exact e3),e4⟩
 rw[lRow]at hm
 obtain rfl:=List.mem_singleton.1 hm
 have hh:typeHandle Tryz.prog 40=.pointer (some ⟨1,40,none⟩):=by kernel_rfl
 rw[hh]at e5
 simpa using World.var?_cell lEt e5 0
noncomputable def laidWorld (os:Os):World:=
 let w0:=World.holding Tryz.prog os ⟨#[],#[],[]⟩
 { w0 with heap:=w0.heap.modify 0 fun
  |.cells _ t frozen=>.cells #[.iface 211 (.agg #[.pointer (some ⟨1,40,none⟩)])] t frozen
  |o=>o }
theorem laidWorld_met (os:Os) (args:Array Value):laidMetH Tryz.prog laidL ((laidWorld os).forCall (fun _ _=>0) ⟨#[],args,[]⟩).memory:=
 laidMetH_of_parts (laidMet_nil _ _) (by kernel_rfl)
end
section
open Go.ChangeShapes Go.WideShapes Go.Deep Go.ChangeAt
theorem blk_lt {w:World}{b o:Nat}{v:Value}(h:w.cell? ⟨b,o,none⟩=some v):b<w.heap.size:=by
 unfold World.cell? at h
 by_cases hb:b<w.heap.size
 · exact hb
 · simp[Array.getElem?_eq_none (Nat.le_of_not_lt hb)]at h
theorem one_int {H:Type}{enc:TypeId × Value->H}{w:World}{base:Nat}{spare:Nat->Bool}{held:Bool}{n:Nat}{t:TypeId}{k:IntKind}{v:Value}{y:Option (DataW H × List MemPlace)}(ht:Tryz.prog.underlying t=some (.int k))
 (h:DataW.trod enc Tryz.prog w base spare held n t [v]=y) (hy:y.isSome):∃z,v=.int k z/\(Lit.int k z).wf=true:=by
 obtain⟨x,rfl⟩:=Option.isSome_iff_exists.1 hy
 obtain⟨z,h1,-,h2⟩:=DataW.trod_int ht h
 simp at h1
 exact⟨z,h1,h2⟩
theorem u64_of_wf {x:Int}(h:(Lit.int .u64 x).wf=true):U64 x:=by
 have h2:(decide ((0:Int)<=x)&&decide (x<=18446744073709551615))=true:=h
 simp only[Bool.and_eq_true,decide_eq_true_eq]at h2
 exact⟨h2.1,by omega⟩
theorem cellsOp_of {H:Type}{enc:TypeId × Value->H}{w:World}{base:Nat}{spare:Nat->Bool}{held:Bool}{n:Nat}{cs:List Value}{y:Option (DataW H × List MemPlace)}
 (h:DataW.trod enc Tryz.prog w base spare held n 31 cs=y) (hy:y.isSome):
 ∃z0 z1 z2:Int,cs=[.int .i64 z0,.int .i64 z1,.int .i64 z2]/\(Lit.int .i64 z0).wf=true/\(Lit.int .i64 z1).wf=true/\(Lit.int .i64 z2).wf=true:=by
 obtain⟨x,rfl⟩:=Option.isSome_iff_exists.1 hy
 obtain⟨ys,n',-,-,hlen,hyl,hf⟩:=DataW.trod_struct Tryz.underlying31 h
 have hc:Tryz.prog.cellsOf 31=3:=by kernel_rfl
 have hc_int:Tryz.prog.cellsOf 3=1:=by kernel_rfl
 rw[hc]at hlen
 match cs,hlen with
 |[v0,v1,v2],_=>
  have hyl':ys.length=3:=hyl
  have g0:DataW.trod enc Tryz.prog w base spare held n' 3 (([v0,v1,v2].drop 0).take (Tryz.prog.cellsOf 3))=ys[0]?:=hf 0 _ rfl
  rw[hc_int]at g0
  dsimp only[List.drop,List.take]at g0
  have g1:DataW.trod enc Tryz.prog w base spare held n' 3 (([v0,v1,v2].drop 1).take (Tryz.prog.cellsOf 3))=ys[1]?:=hf 1 _ rfl
  rw[hc_int]at g1
  dsimp only[List.drop,List.take]at g1
  have g2:DataW.trod enc Tryz.prog w base spare held n' 3 (([v0,v1,v2].drop 2).take (Tryz.prog.cellsOf 3))=ys[2]?:=hf 2 _ rfl
  rw[hc_int]at g2
  dsimp only[List.drop,List.take]at g2
  obtain⟨z0,rfl,w0⟩:=one_int Tryz.underlying3 g0 (by simp[hyl'])
  obtain⟨z1,rfl,w1⟩:=one_int Tryz.underlying3 g1 (by simp[hyl'])
  obtain⟨z2,rfl,w2⟩:=one_int Tryz.underlying3 g2 (by simp[hyl'])
  exact⟨z0,z1,z2,rfl,w0,w1,w2⟩
theorem cellsMove_of {H:Type}{enc:TypeId × Value->H}{w:World}{base:Nat}{spare:Nat->Bool}{held:Bool}{n:Nat}{cs:List Value}{y:Option (DataW H × List MemPlace)}
 (h:DataW.trod enc Tryz.prog w base spare held n 54 cs=y) (hy:y.isSome):
 ∃z0 z1 z2 z3 z4 z5 z6:Int,cs=[.int .i64 z0,.int .i64 z1,.int .i64 z2,.int .i64 z3,.int .i64 z4,.int .i64 z5,.int .u64 z6]/\(Lit.int .i64 z0).wf=true/\(Lit.int .i64 z1).wf=true/\(Lit.int .i64 z2).wf=true/\(Lit.int .i64 z3).wf=true/\(Lit.int .i64 z4).wf=true/\(Lit.int .i64 z5).wf=true/\(Lit.int .u64 z6).wf=true:=by
 obtain⟨x,rfl⟩:=Option.isSome_iff_exists.1 hy
 obtain⟨ys,n',-,-,hlen,hyl,hf⟩:=DataW.trod_struct Tryz.underlying54 h
 have hc:Tryz.prog.cellsOf 54=7:=by kernel_rfl
 have hc_int:Tryz.prog.cellsOf 3=1:=by kernel_rfl
 have hc_Op:Tryz.prog.cellsOf 31=3:=by kernel_rfl
 have hc_u64:Tryz.prog.cellsOf 52=1:=by kernel_rfl
 rw[hc]at hlen
 match cs,hlen with
 |[v0,v1,v2,v3,v4,v5,v6],_=>
  have hyl':ys.length=5:=hyl
  have g0:DataW.trod enc Tryz.prog w base spare held n' 3 (([v0,v1,v2,v3,v4,v5,v6].drop 0).take (Tryz.prog.cellsOf 3))=ys[0]?:=hf 0 _ rfl
  rw[hc_int]at g0
  dsimp only[List.drop,List.take]at g0
  have g1:DataW.trod enc Tryz.prog w base spare held n' 3 (([v0,v1,v2,v3,v4,v5,v6].drop 1).take (Tryz.prog.cellsOf 3))=ys[1]?:=hf 1 _ rfl
  rw[hc_int]at g1
  dsimp only[List.drop,List.take]at g1
  have g2:DataW.trod enc Tryz.prog w base spare held n' 31 (([v0,v1,v2,v3,v4,v5,v6].drop 2).take (Tryz.prog.cellsOf 31))=ys[2]?:=hf 2 _ rfl
  rw[hc_Op]at g2
  dsimp only[List.drop,List.take]at g2
  have g3:DataW.trod enc Tryz.prog w base spare held n' 3 (([v0,v1,v2,v3,v4,v5,v6].drop 5).take (Tryz.prog.cellsOf 3))=ys[3]?:=hf 3 _ rfl
  rw[hc_int]at g3
  dsimp only[List.drop,List.take]at g3
  have g4:DataW.trod enc Tryz.prog w base spare held n' 52 (([v0,v1,v2,v3,v4,v5,v6].drop 6).take (Tryz.prog.cellsOf 52))=ys[4]?:=hf 4 _ rfl
  rw[hc_u64]at g4
  dsimp only[List.drop,List.take]at g4
  obtain⟨z0,rfl,w0⟩:=one_int Tryz.underlying3 g0 (by simp[hyl'])
  obtain⟨z1,rfl,w1⟩:=one_int Tryz.underlying3 g1 (by simp[hyl'])
  obtain⟨z2,z3,z4,he2,w2,w3,w4⟩:=cellsOp_of g2 (by simp[hyl'])
  simp only[List.cons.injEq,and_true]at he2
  obtain⟨rfl,rfl,rfl⟩:=he2
  obtain⟨z5,rfl,w5⟩:=one_int Tryz.underlying3 g3 (by simp[hyl'])
  obtain⟨z6,rfl,w6⟩:=one_int Tryz.underlying52 g4 (by simp[hyl'])
  exact⟨z0,z1,z2,z3,z4,z5,z6,rfl,w0,w1,w2,w3,w4,w5,w6⟩
theorem rowsMove_of {H:Type}{enc:TypeId × Value->H}{w:World}{base:Nat}{spare:Nat->Bool}{held:Bool}{a0:Option Addr}{len0 cap0:Nat}{d0:DataW H}{p0:List MemPlace}
 (h:DataW.Trod enc Tryz.prog w base spare held 22 (.slice a0 len0 cap0) d0 p0):∃f,MvIn w a0 len0 cap0 f:=by
 obtain⟨fuel,hf⟩:=h
 have hc:Tryz.prog.cellsOf 54=7:=by kernel_rfl
 rcases open_slice Tryz.underlying22 hf with⟨hcs,-⟩|⟨a,len,cap,m,n,D,Pl,hcs,hb,hl,hm,hmm,hx,hi⟩
 · simp[Value.cells]at hcs
   obtain⟨rfl,rfl,rfl⟩:=hcs
   exact⟨fun _ _=>0,⟨Nat.le_refl _,by omega,.inl rfl⟩,fun i hi=>absurd hi (Nat.not_lt_zero _)⟩
 · simp[Value.cells]at hcs
   obtain⟨rfl,rfl,rfl⟩:=hcs
   unfold maxLen at hm
   rw[hc]at hi
   have hi':∀i,i<len0->∃z:Nat->Int,∀j,j<7->w.cell? (a.add (i*7+j))=some (.int (mvK j) (z j))/\(Lit.int (mvK j) (z j)).wf=true:=by
    intro i hil
    obtain⟨cs,h1,h2⟩:=hi i (by rw[hmm];split<;>omega)
    obtain⟨z0,z1,z2,z3,z4,z5,z6,rfl,w0,w1,w2,w3,w4,w5,w6⟩:=cellsMove_of h2 (by rfl)
    obtain⟨-,-,hat⟩:=World.cells?_some h1
    refine⟨fun j=>[z0,z1,z2,z3,z4,z5,z6].getD j 0,fun j hj=>?_⟩
    rw[<- Go.Deep.add_add,hat j (by simpa using hj)]
    match j,hj with
    |0,_=>exact⟨rfl,w0⟩
    |1,_=>exact⟨rfl,w1⟩
    |2,_=>exact⟨rfl,w2⟩
    |3,_=>exact⟨rfl,w3⟩
    |4,_=>exact⟨rfl,w4⟩
    |5,_=>exact⟨rfl,w5⟩
    |6,_=>exact⟨rfl,w6⟩
   by_cases h0:len0=0
   · subst h0;exact⟨fun _ _=>0,⟨Nat.zero_le _,by omega,.inl rfl⟩,fun i hi=>absurd hi (Nat.not_lt_zero _)⟩
   · obtain⟨z,hz⟩:=hi' 0 (by omega)
     obtain⟨b,off,spot⟩:=a
     have hspot:spot=none:=by simpa [Addr.add] using World.cell?_spot (hz 0 (by omega)).1
     subst hspot
     have hadd:∀i,(⟨b,off,none⟩:Addr).add i=⟨b,off+i,none⟩:=fun i=>by
      unfold Addr.add;split
      · subst i;rfl
      · rfl
     classical
     let F:Nat->Nat->Int:=fun i=>if h:i<len0 then Classical.choose (hi' i h)else fun _=>0
     refine⟨F,⟨hl,by omega,.inr ⟨b,off,rfl,?_,fun j hj i hi0=>?_⟩⟩,fun j hj=>?_⟩
     · have:=(hz 0 (by omega)).1;rw[hadd]at this;exact blk_lt this
     · have hF:F j=Classical.choose (hi' j hj):=by simp only[F,dif_pos hj]
       obtain⟨c1,c2⟩:=Classical.choose_spec (hi' j hj) i hi0
       rw[<- hF]at c1 c2
       rw[hadd,<- Nat.add_assoc]at c1
       exact⟨c1,trivial⟩
     · have hF:F j=Classical.choose (hi' j hj):=by simp only[F,dif_pos hj]
       have c2:=(Classical.choose_spec (hi' j hj) 6 (by decide)).2
       rw[<- hF]at c2
       exact u64_of_wf c2
theorem aggOp_of {H:Type}{enc:TypeId × Value->H}{w:World}{base b0:Nat}{spare:Nat->Bool}{held:Bool}{v:Value}{d:DataW H}{p:List MemPlace}
 (hv:Value.okWide Tryz.prog w .any b0 31 v) (h:DataW.Trod enc Tryz.prog w base spare held 31 v d p):
 ∃z0 z1 z2:Int,v=.agg #[.int .i64 z0,.int .i64 z1,.int .i64 z2]/\(Lit.int .i64 z0).wf=true/\(Lit.int .i64 z1).wf=true/\(Lit.int .i64 z2).wf=true:=by
 obtain⟨cs,rfl,hs⟩:=okWide_struct Tryz.underlying31 hv
 obtain⟨fuel,hf⟩:=h
 obtain⟨z0,z1,z2,hc,w0,w1,w2⟩:=cellsOp_of hf (by rfl)
 refine⟨z0,z1,z2,?_,w0,w1,w2⟩
 have:cs.toList=[.int .i64 z0,.int .i64 z1,.int .i64 z2]:=hc
 rw[<- Array.toArray_toList (xs:=cs),this]
end
section
open Go.RowKit Go.Extern.Stop Go.Stop Go.Extern
theorem QgK (t:Addr) (w:World):(ReflectliteValue.unpack (.iface 140 (.pointer (some t)))).run Tryz.prog w
 = .ok (.agg #[.pointer (some ⟨1,140,none⟩),.pointer (some ⟨w.heap.size,0,none⟩),.int .u64 150]) (w.alloc (.cells #[.pointer (some t)] 140)):=by kernel_rfl
theorem QnS (a:Addr) (w:World):(ReflectliteValue.methodAny (ReflectliteValue.valueError "reflectlite.Value.Type" 0) (fun t _ _ _=>ReflectliteType.toType t) #[.agg #[.pointer (some ⟨1,140,none⟩),.pointer (some a),.int .u64 150]]).run Tryz.prog w
 = .ok (.iface 211 (.agg #[.pointer (some ⟨1,140,none⟩)])) w:=by kernel_rfl
theorem QeZ (h:Value) (w:World):(Go.method 362 211 (.agg #[h]) "Kind").run Tryz.prog w=.ok (151,h) w:=by kernel_rfl
theorem QnV (w:World):((ReflectliteType.abiMethod fun t=>(fun a:Nat=>Value.int IntKind.u8 (a:Int)) <$> Rtype.kind t) #[.pointer (some ⟨1,140,none⟩)]).run Tryz.prog w=.ok (.int .u8 22) w:=by kernel_rfl
theorem QnW (w:World):((ReflectliteType.abiMethod fun t=>(fun a:Nat=>Value.int IntKind.u8 (a:Int)) <$> Rtype.kind t) #[.pointer (some ⟨1,97,none⟩)]).run Tryz.prog w=.ok (.int .u8 2) w:=by kernel_rfl
theorem rlm (z:Sem Value) (f:TypeId->Addr->Nat->Nat->Sem Value) (v:Value):
 ReflectliteValue.method z f #[v]=(do match <- ReflectliteValue.parts v with|none=>z|some (t,a,fl)=>f t a fl (fl%32)):=rfl
theorem Qj4 (a:Addr) (w:World):(ReflectliteValue.parts (.agg #[.pointer (some ⟨1,140,none⟩),.pointer (some a),.int .u64 150])).run Tryz.prog w=.ok (some (140,a,150)) w:=by kernel_rfl
theorem Qj5 (a p:Addr) (W:World) (ha:W.cell? a=some (.pointer (some p))):
 (ReflectliteValue.method (ReflectliteValue.valueError "reflectlite.Value.IsNil" 0) ReflectliteValue.isNil #[.agg #[.pointer (some ⟨1,140,none⟩),.pointer (some a),.int .u64 150]]).run Tryz.prog W=.ok (.bool false) W:=by
 rw[rlm]
 simp only[Sem.run_bind,Qj4,Result.andThen]
 simp[ReflectliteValue.isNil,loadVar,isAgg,underlying,Tryz.underlying140,ha,Result.andThen]
theorem Qe0 (h:Value) (w:World):(Go.method 362 211 (.agg #[h]) "Elem").run Tryz.prog w=.ok (163,.agg #[h]) w:=by kernel_rfl
theorem QbJ (h:Value) (w:World):(Go.method 362 211 (.agg #[h]) "Implements").run Tryz.prog w=.ok (164,.agg #[h]) w:=by kernel_rfl
theorem Qa5 (h:Value) (w:World):(Go.method 362 211 (.agg #[h]) "AssignableTo").run Tryz.prog w=.ok (161,.agg #[h]) w:=by kernel_rfl
theorem QnY (w:World):(ReflectliteType.method ReflectliteType.elem #[.agg #[.pointer (some ⟨1,140,none⟩)]]).run Tryz.prog w=.ok (.iface 211 (.agg #[.pointer (some ⟨1,97,none⟩)])) w:=by kernel_rfl
theorem Qec (w:World):(ReflectliteType.relation "Implements" ReflectliteType.implements_ #[.agg #[.pointer (some ⟨1,97,none⟩)],.iface 211 (.agg #[.pointer (some ⟨1,40,none⟩)])]).run Tryz.prog w=.ok (.bool true) w:=by kernel_rfl
theorem QiC (v:Value) (w:World):(ReflectliteType.typeOf #[.iface 97 v]).run Tryz.prog w=.ok (.iface 211 (.agg #[.pointer (some ⟨1,97,none⟩)])) w:=by kernel_rfl
theorem QnT (v:Value) (w:World):(ReflectliteType.typeOf #[.iface 115 v]).run Tryz.prog w=.ok (.iface 211 (.agg #[.pointer (some ⟨1,115,none⟩)])) w:=by kernel_rfl
theorem Qed (w:World):(ReflectliteType.relation "AssignableTo" ReflectliteType.assignableTo #[.agg #[.pointer (some ⟨1,97,none⟩)],.iface 211 (.agg #[.pointer (some ⟨1,97,none⟩)])]).run Tryz.prog w=.ok (.bool true) w:=by kernel_rfl
theorem QhB (w:World):(ReflectliteType.relation "AssignableTo" ReflectliteType.assignableTo #[.agg #[.pointer (some ⟨1,115,none⟩)],.iface 211 (.agg #[.pointer (some ⟨1,97,none⟩)])]).run Tryz.prog w=.ok (.bool false) w:=by kernel_rfl
theorem QgL (e:Int) (w:World):(ReflectliteValue.unpack (.iface 97 (.int .i64 e))).run Tryz.prog w
 = .ok (.agg #[.pointer (some ⟨1,97,none⟩),.pointer (some ⟨w.heap.size,0,none⟩),.int .u64 130]) (w.alloc (.cells #[.int .i64 e] 97)):=by kernel_rfl
theorem QnZ (w:World):(Rtype.elem? 140).run Tryz.prog w=.ok (some 97) w:=by kernel_rfl
theorem asMkE (p:Addr) (w:World):(ReflectliteValue.mk 97 p ReflectliteValue.flagAddr).run Tryz.prog w=.ok (.agg #[.pointer (some ⟨1,97,none⟩),.pointer (some p),.int .u64 386]) w:=by kernel_rfl
theorem QnX (a p:Addr) (W:World) (ha:W.cell? a=some (.pointer (some p))):
 (ReflectliteValue.method (ReflectliteValue.valueError "reflectlite.Value.Elem" 0) ReflectliteValue.elem #[.agg #[.pointer (some ⟨1,140,none⟩),.pointer (some a),.int .u64 150]]).run Tryz.prog W
  = .ok (.agg #[.pointer (some ⟨1,97,none⟩),.pointer (some p),.int .u64 386]) W:=by
 rw[rlm]
 simp only[Sem.run_bind,Qj4,Result.andThen]
 simp[ReflectliteValue.elem,loadVar,isAgg,underlying,Tryz.underlying140,ha,Result.andThen,QnZ,asMkE]
theorem rls (v x:Value):ReflectliteValue.set #[v,x]=(do
 let (some (dst,a,fl),some (src,b,_)):=(<- ReflectliteValue.parts v,<- ReflectliteValue.parts x)
  |unsupported (.noEntry "extern/(internal/reflectlite.Value).Set.zeroValue")
 if fl/ReflectliteValue.flagAddr%2==0 then unsupported (.noEntry "extern/(internal/reflectlite.Value).Set.unaddressable")
 let val <- loadVar src b
 if <- Rtype.directlyAssignable dst src then storeVar dst a val
 else if <- Rtype.implements dst src then
  if (<- Rtype.kind src)==20 then
   match val with
   |.nilIface=>unsupported (.noEntry "extern/reflectlite: a nil value of one interface type handed on as a value of another")
   |_=>storeVar dst a val
  else storeVar dst a (.iface src val)
 else panicString ("reflectlite.Set: value of type " ++(<- Rtype.spelt src)++ " is not assignable to type " ++(<- Rtype.spelt dst))
 pure (.tuple #[])):=rfl
theorem QnU (a:Addr) (w:World):(ReflectliteValue.parts (.agg #[.pointer (some ⟨1,97,none⟩),.pointer (some a),.int .u64 386])).run Tryz.prog w=.ok (some (97,a,386)) w:=by kernel_rfl
theorem QpP (a:Addr) (w:World):(ReflectliteValue.parts (.agg #[.pointer (some ⟨1,97,none⟩),.pointer (some a),.int .u64 130])).run Tryz.prog w=.ok (some (97,a,130)) w:=by kernel_rfl
theorem Qn0 (w:World):(Rtype.directlyAssignable 97 97).run Tryz.prog w=.ok true w:=by kernel_rfl
theorem Qp8 (ta b:Addr) (e:Int) (old:Value) (W:World) (hb:W.cell? b=some (.int .i64 e)) (ht:W.cell? ta=some old) (hf:W.frozen? ta=false):
 (ReflectliteValue.set #[.agg #[.pointer (some ⟨1,97,none⟩),.pointer (some ta),.int .u64 386],.agg #[.pointer (some ⟨1,97,none⟩),.pointer (some b),.int .u64 130]]).run Tryz.prog W
  = .ok (.tuple #[]) (W.setCell ta (.int .i64 e)):=by
 rw[rls]
 simp only[Sem.run_bind,QnU,QpP,Result.andThen]
 simp[ReflectliteValue.flagAddr,loadVar,isAgg,underlying,Tryz.underlying97,hb,Result.andThen,Qn0,storeVar,Value.cells,storeCells,Addr.add]
 rw[run_store Tryz.prog W ta _ _ (by rfl)]
 simp[ht,hf]
def asW (w:World) (t:Addr):World:=((w.alloc (.cells #[.pointer (some t)] 140)).alloc (.cells #[.pointer (some ⟨1,140,none⟩),.pointer (some ⟨w.heap.size,0,none⟩),.int .u64 150] 182)).alloc (.cells #[.pointer (some ⟨1,140,none⟩),.pointer (some ⟨w.heap.size,0,none⟩),.int .u64 150] 182)
set_option maxHeartbeats 4000000 in
theorem QpO (e:Int) (t:Addr) (old:Value) (w:World) (hg:w.cell? ⟨0,0,none⟩=some (.iface 211 (.agg #[.pointer (some ⟨1,40,none⟩)]))) (ht0:w.cell? t=some old) (hf0:w.frozen? t=false):
 Calls Tryz.prog 74 #[.iface 97 (.int .i64 e),.iface 140 (.pointer (some t))] w fun ev w'=>ev=.returned (.bool true)/\w'=((asW w t).alloc (.cells #[.int .i64 e] 97)).setCell t (.int .i64 e):=by
 have h6:=@run_callFunc_extern Tryz.prog 101 _ (fun args=>ReflectliteValue.unpack (args.getD 0 (.tuple #[]))) Tryz.func101 (by kernel_rfl) (by kernel_rfl) (by kernel_rfl) (by kernel_rfl)
 have h7:=@run_callFunc_extern Tryz.prog 102 _ (ReflectliteValue.methodAny (ReflectliteValue.valueError "reflectlite.Value.Type" 0) (fun t _ _ _=>ReflectliteType.toType t)) Tryz.func102 (by kernel_rfl) (by kernel_rfl) (by kernel_rfl) (by kernel_rfl)
 have h8:=@run_callFunc_extern Tryz.prog 103 _ (ReflectliteValue.method (ReflectliteValue.valueError "reflectlite.Value.IsNil" 0) ReflectliteValue.isNil) Tryz.func103 (by kernel_rfl) (by kernel_rfl) (by kernel_rfl) (by kernel_rfl)
 have h27:=@run_callFunc_extern Tryz.prog 151 _ (ReflectliteType.abiMethod fun t=>do pure (.int .u8 (<- Rtype.kind t))) Tryz.func151 (by kernel_rfl) (by kernel_rfl) (by kernel_rfl) (by kernel_rfl)
 have h37:=@run_callFunc_extern Tryz.prog 163 _ (ReflectliteType.method ReflectliteType.elem) Tryz.func163 (by kernel_rfl) (by kernel_rfl) (by kernel_rfl) (by kernel_rfl)
 have h38:=@run_callFunc_extern Tryz.prog 164 _ (ReflectliteType.relation "Implements" ReflectliteType.implements_) Tryz.func164 (by kernel_rfl) (by kernel_rfl) (by kernel_rfl) (by kernel_rfl)
 have h10:=@run_callFunc_extern Tryz.prog 121 _ ReflectliteType.typeOf Tryz.func121 (by kernel_rfl) (by kernel_rfl) (by kernel_rfl) (by kernel_rfl)
 have h35:=@run_callFunc_extern Tryz.prog 161 _ (ReflectliteType.relation "AssignableTo" ReflectliteType.assignableTo) Tryz.func161 (by kernel_rfl) (by kernel_rfl) (by kernel_rfl) (by kernel_rfl)
 have h11:=@run_callFunc_extern Tryz.prog 122 _ (ReflectliteValue.method (ReflectliteValue.valueError "reflectlite.Value.Elem" 0) ReflectliteValue.elem) Tryz.func122 (by kernel_rfl) (by kernel_rfl) (by kernel_rfl) (by kernel_rfl)
 have h12:=@run_callFunc_extern Tryz.prog 123 _ ReflectliteValue.set Tryz.func123 (by kernel_rfl) (by kernel_rfl) (by kernel_rfl) (by kernel_rfl)
 have tO:=QiC
 have mA:=Qa5
 have a25:=Qed
 have v25:=QgL
 have f6:=QgK
 have f7:=QnS
 have mK:=QeZ
 have mE:=Qe0
 have mI:=QbJ
 have k27:=QnV
 have k25:=QnW
 have e27:=QnY
 have i25:=Qec
 have n8:=Qj5 ⟨w.heap.size,0,none⟩ t ((w.alloc (.cells #[.pointer (some t)] 140)).alloc (.cells #[.pointer (some ⟨1,140,none⟩),.pointer (some ⟨w.heap.size,0,none⟩),.int .u64 150] 182)) (by simp)
 have hlt:0<w.heap.size:=by
  rcases Nat.eq_zero_or_pos w.heap.size with h0|h
  · simp[World.cell?,h0]at hg
  · exact h
 have hg2:((w.alloc (.cells #[.pointer (some t)] 140)).alloc (.cells #[.pointer (some ⟨1,140,none⟩),.pointer (some ⟨w.heap.size,0,none⟩),.int .u64 150] 182)).cell? ⟨0,0,none⟩=some (.iface 211 (.agg #[.pointer (some ⟨1,40,none⟩)])):=by
  rw[World.cell?_alloc_lt _ _ ⟨0,0,none⟩ (by simp),World.cell?_alloc_lt _ _ ⟨0,0,none⟩ hlt];exact hg
 have htl:t.block<w.heap.size:=by
  rcases Nat.lt_or_ge t.block w.heap.size with h|h
  · exact h
  · simp[World.cell?,Array.getElem?_eq_none h]at ht0
 have el:=QnX ⟨w.heap.size,0,none⟩ t (asW w t) (by unfold asW;rw[World.cell?_alloc_lt _ _ ⟨w.heap.size,0,none⟩ (by simp;omega)];simp)
 have st:=Qp8 t ⟨w.heap.size+1+1+1,0,none⟩ e old ((asW w t).alloc (.cells #[.int .i64 e] 97))
  (by rw[World.cell?_alloc_at _ _ _ _ (by simp[asW])];rfl)
  (by unfold asW;rw[World.cell?_alloc_lt _ _ t (by simp;omega),World.cell?_alloc_lt _ _ t (by simp;omega),World.cell?_alloc_lt _ _ t (by simp;omega),World.cell?_alloc_lt _ _ t htl];exact ht0)
  (by unfold asW;rw[World.frozen?_alloc_old _ _ t (by simp;omega),World.frozen?_alloc_old _ _ t (by simp;omega),World.frozen?_alloc_old _ _ t (by simp;omega),World.frozen?_alloc_old _ _ t (Nat.ne_of_lt htl)];exact hf0)
 unfold asW at el st ⊢
 go_enter Tryz.func74,Tryz.ntmps74
 go_wp2
 refine wp_loop_rounds 1 ?_
 rw[rounds_succ]
 go_wp2
 go_ret
 exact⟨rfl,rfl⟩
theorem asNoAs (v:Value) (xT:TypeId) (w:World):(Instr.typeAssert (.iface 115 v) xT 216 true).run Tryz.prog w=.ok (.tuple #[.nilIface,.bool false]) w:=run_typeAssert_lacksB Tryz.underlying216 (by kernel_rfl) (by kernel_rfl) v xT w
theorem Qjg (v:Value) (xT:TypeId) (w:World):(Instr.typeAssert (.iface 115 v) xT 219 true).run Tryz.prog w=.ok (.tuple #[.iface 115 v,.bool true]) w:=run_typeAssert_hasB Tryz.underlying219 (by kernel_rfl) v xT w
theorem Qgk (h:Value) (w:World):(Go.method 362 115 h "Unwrap").run Tryz.prog w=.ok (156,h) w:=by kernel_rfl
set_option maxHeartbeats 4000000 in
theorem as_at (e:Int) (pb po:Nat) (t:Addr) (old:Value) (w:World) (hg:w.cell? ⟨0,0,none⟩=some (.iface 211 (.agg #[.pointer (some ⟨1,40,none⟩)]))) (ht0:w.cell? t=some old) (hf0:w.frozen? t=false) (hp:w.cell? ⟨pb,po,none⟩=some (.int .i64 e)):
 Calls Tryz.prog 74 #[.iface 115 (.pointer (some ⟨pb,po,none⟩)),.iface 140 (.pointer (some t))] w fun ev w'=>ev=.returned (.bool true)/\w'=((asW w t).alloc (.cells #[.int .i64 e] 97)).setCell t (.int .i64 e):=by
 have h6:=@run_callFunc_extern Tryz.prog 101 _ (fun args=>ReflectliteValue.unpack (args.getD 0 (.tuple #[]))) Tryz.func101 (by kernel_rfl) (by kernel_rfl) (by kernel_rfl) (by kernel_rfl)
 have h7:=@run_callFunc_extern Tryz.prog 102 _ (ReflectliteValue.methodAny (ReflectliteValue.valueError "reflectlite.Value.Type" 0) (fun t _ _ _=>ReflectliteType.toType t)) Tryz.func102 (by kernel_rfl) (by kernel_rfl) (by kernel_rfl) (by kernel_rfl)
 have h8:=@run_callFunc_extern Tryz.prog 103 _ (ReflectliteValue.method (ReflectliteValue.valueError "reflectlite.Value.IsNil" 0) ReflectliteValue.isNil) Tryz.func103 (by kernel_rfl) (by kernel_rfl) (by kernel_rfl) (by kernel_rfl)
 have h27:=@run_callFunc_extern Tryz.prog 151 _ (ReflectliteType.abiMethod fun t=>do pure (.int .u8 (<- Rtype.kind t))) Tryz.func151 (by kernel_rfl) (by kernel_rfl) (by kernel_rfl) (by kernel_rfl)
 have h37:=@run_callFunc_extern Tryz.prog 163 _ (ReflectliteType.method ReflectliteType.elem) Tryz.func163 (by kernel_rfl) (by kernel_rfl) (by kernel_rfl) (by kernel_rfl)
 have h38:=@run_callFunc_extern Tryz.prog 164 _ (ReflectliteType.relation "Implements" ReflectliteType.implements_) Tryz.func164 (by kernel_rfl) (by kernel_rfl) (by kernel_rfl) (by kernel_rfl)
 have h10:=@run_callFunc_extern Tryz.prog 121 _ ReflectliteType.typeOf Tryz.func121 (by kernel_rfl) (by kernel_rfl) (by kernel_rfl) (by kernel_rfl)
 have h35:=@run_callFunc_extern Tryz.prog 161 _ (ReflectliteType.relation "AssignableTo" ReflectliteType.assignableTo) Tryz.func161 (by kernel_rfl) (by kernel_rfl) (by kernel_rfl) (by kernel_rfl)
 have h11:=@run_callFunc_extern Tryz.prog 122 _ (ReflectliteValue.method (ReflectliteValue.valueError "reflectlite.Value.Elem" 0) ReflectliteValue.elem) Tryz.func122 (by kernel_rfl) (by kernel_rfl) (by kernel_rfl) (by kernel_rfl)
 have h12:=@run_callFunc_extern Tryz.prog 123 _ ReflectliteValue.set Tryz.func123 (by kernel_rfl) (by kernel_rfl) (by kernel_rfl) (by kernel_rfl)
 have tO:=QiC
 have tA:=QnT
 have a26:=QhB
 have nA:=asNoAs
 have hU:=Qjg
 have mU:=Qgk
 have mA:=Qa5
 have a25:=Qed
 have v25:=QgL
 have f6:=QgK
 have f7:=QnS
 have mK:=QeZ
 have mE:=Qe0
 have mI:=QbJ
 have k27:=QnV
 have k25:=QnW
 have e27:=QnY
 have i25:=Qec
 have n8:=Qj5 ⟨w.heap.size,0,none⟩ t ((w.alloc (.cells #[.pointer (some t)] 140)).alloc (.cells #[.pointer (some ⟨1,140,none⟩),.pointer (some ⟨w.heap.size,0,none⟩),.int .u64 150] 182)) (by simp)
 have hlt:0<w.heap.size:=by
  rcases Nat.eq_zero_or_pos w.heap.size with h0|h
  · simp[World.cell?,h0]at hg
  · exact h
 have hg2:((w.alloc (.cells #[.pointer (some t)] 140)).alloc (.cells #[.pointer (some ⟨1,140,none⟩),.pointer (some ⟨w.heap.size,0,none⟩),.int .u64 150] 182)).cell? ⟨0,0,none⟩=some (.iface 211 (.agg #[.pointer (some ⟨1,40,none⟩)])):=by
  rw[World.cell?_alloc_lt _ _ ⟨0,0,none⟩ (by simp),World.cell?_alloc_lt _ _ ⟨0,0,none⟩ hlt];exact hg
 have htl:t.block<w.heap.size:=by
  rcases Nat.lt_or_ge t.block w.heap.size with h|h
  · exact h
  · simp[World.cell?,Array.getElem?_eq_none h]at ht0
 have el:=QnX ⟨w.heap.size,0,none⟩ t (asW w t) (by unfold asW;rw[World.cell?_alloc_lt _ _ ⟨w.heap.size,0,none⟩ (by simp;omega)];simp)
 have st:=Qp8 t ⟨w.heap.size+1+1+1,0,none⟩ e old ((asW w t).alloc (.cells #[.int .i64 e] 97))
  (by rw[World.cell?_alloc_at _ _ _ _ (by simp[asW])];rfl)
  (by unfold asW;rw[World.cell?_alloc_lt _ _ t (by simp;omega),World.cell?_alloc_lt _ _ t (by simp;omega),World.cell?_alloc_lt _ _ t (by simp;omega),World.cell?_alloc_lt _ _ t htl];exact ht0)
  (by unfold asW;rw[World.frozen?_alloc_old _ _ t (by simp;omega),World.frozen?_alloc_old _ _ t (by simp;omega),World.frozen?_alloc_old _ _ t (by simp;omega),World.frozen?_alloc_old _ _ t (Nat.ne_of_lt htl)];exact hf0)
 have hpl:pb<w.heap.size:=by
  rcases Nat.lt_or_ge pb w.heap.size with h|h
  · exact h
  · simp[World.cell?,Array.getElem?_eq_none h]at hp
 have hp2:(asW w t).cell? ⟨pb,po,none⟩=some (.int .i64 e):=by
  unfold asW;rw[World.cell?_alloc_lt _ _ ⟨pb,po,none⟩ (by simp;omega),World.cell?_alloc_lt _ _ ⟨pb,po,none⟩ (by simp;omega),World.cell?_alloc_lt _ _ ⟨pb,po,none⟩ hpl];exact hp
 unfold asW at el st hp2 ⊢
 go_enter Tryz.func74,Tryz.ntmps74
 go_wp2
 refine wp_loop_rounds 2 ?_
 rw[rounds_succ]
 go_wp2
 rw[rounds_succ]
 go_wp2
 go_ret
 exact⟨rfl,rfl⟩
end
section
open Go.RowKit
theorem QnR (w:World) (t:Addr):Below w.heap.size w (asW w t):=(((Below.refl _ _).alloc (Nat.le_refl _) _).alloc (by simp) _).alloc (by simp;omega) _
theorem Qqp (v:Value) (e:Int) (w:World) (hg:ErrType w) (hv:v=.iface 97 (.int .i64 e)\/∃pb po,v=.iface 115 (.pointer (some ⟨pb,po,none⟩))/\w.cell? ⟨pb,po,none⟩=some (.int .i64 e)):
 Calls Tryz.prog 56 #[v] w fun ev w'=>ev=.returned (.int .i64 e)/\Below w.heap.size w w':=by
 have hlt:0<w.heap.size:=by
  rcases Nat.eq_zero_or_pos w.heap.size with h0|h
  · simp[ErrType,World.cell?,h0]at hg
  · exact h
 have hg1:(w.alloc (.cells #[.int .i64 0] 97)).cell? ⟨0,0,none⟩=some (.iface 211 (.agg #[.pointer (some ⟨1,40,none⟩)])):=by
  rw[World.cell?_alloc_lt _ _ ⟨0,0,none⟩ hlt];exact hg
 have ht1:(w.alloc (.cells #[.int .i64 0] 97)).cell? ⟨w.heap.size,0,none⟩=some (.int .i64 0):=by simp
 have hf1:(w.alloc (.cells #[.int .i64 0] 97)).frozen? ⟨w.heap.size,0,none⟩=false:=by simp
 have hc:Calls Tryz.prog 74 #[v,.iface 140 (.pointer (some ⟨w.heap.size,0,none⟩))] (w.alloc (.cells #[.int .i64 0] 97)) fun ev w'=>ev=.returned (.bool true)/\w'.cell? ⟨w.heap.size,0,none⟩=some (.int .i64 e)/\Below w.heap.size w w':=by
  have fin:∀w',w'=((asW (w.alloc (.cells #[.int .i64 0] 97)) ⟨w.heap.size,0,none⟩).alloc (.cells #[.int .i64 e] 97)).setCell ⟨w.heap.size,0,none⟩ (.int .i64 e)->w'.cell? ⟨w.heap.size,0,none⟩=some (.int .i64 e)/\Below w.heap.size w w':=by
   rintro w' rfl
   refine⟨World.cell?_setCell_same _ _ _ (u:=.int .i64 0) ?_,?_⟩
   · unfold asW
     rw[World.cell?_alloc_lt _ _ ⟨w.heap.size,0,none⟩ (by simp;omega),World.cell?_alloc_lt _ _ ⟨w.heap.size,0,none⟩ (by simp;omega),World.cell?_alloc_lt _ _ ⟨w.heap.size,0,none⟩ (by simp;omega),World.cell?_alloc_lt _ _ ⟨w.heap.size,0,none⟩ (by simp)]
     exact ht1
   · have b1:Below w.heap.size w (asW (w.alloc (.cells #[.int .i64 0] 97)) ⟨w.heap.size,0,none⟩):=((Below.refl _ _).alloc (Nat.le_refl _) _).trans ((QnR _ _).mono (by simp))
     exact Below.setCell (b1.alloc (by simp[asW];omega) _) (p:=⟨w.heap.size,0,none⟩) (Nat.le_refl w.heap.size) _
  rcases hv with rfl|⟨pb,po,rfl,hp⟩
  · exact (QpO e _ _ _ hg1 ht1 hf1).mono fun ev w' ⟨h1,h2⟩=>⟨h1,fin w' h2⟩
  · refine (as_at e pb po _ _ _ hg1 ht1 hf1 ?_).mono fun ev w' ⟨h1,h2⟩=>⟨h1,fin w' h2⟩
    rw[World.cell?_alloc_lt _ _ ⟨pb,po,none⟩ (by
     show pb<w.heap.size
     rcases Nat.lt_or_ge pb w.heap.size with h|h
     · exact h
     · simp[World.cell?,Array.getElem?_eq_none h]at hp)]
    exact hp
 have hn:∃t u,v=.iface t u:=by
  rcases hv with rfl|⟨pb,po,rfl,-⟩
  · exact⟨_,_,rfl⟩
  · exact⟨_,_,rfl⟩
 clear hv
 obtain⟨ty,u,rfl⟩:=hn
 go_enter Tryz.func56,Tryz.ntmps56
 go_wp2_with (go_at_call 74;refine hc.mono ?_;rintro e w' ⟨rfl,hcell,hbel⟩)
 go_ret
 exact⟨rfl,hbel⟩
inductive TellS where
 |no (e:Int)
 |at (e p:Int)
def TellS.e:TellS->Int
 |.no e=>e
 |.at e _=>e
def Qhm:RCon where
 σ:=TellS
 χ:=Unit
 pre _:=True
 args s:=match s with
  |.no e=>[.c (.v (.iface 97 (.int .i64 e)))]
  |.at _ _=>[.c (.i 115 0 0)]
 mem s:=match s with
  |.no _=>[]
  |.at e p=>[.cells [.one (.v (.int .i64 e)),.one (.v (.int .i64 p))] 117]
 ok _ _:=True
 val s _:=sv (.int .i64 s.e)
 new _ _:=[]
 len:=0
 det:=some ()
 find args M:=match args with
  |[.c (.i _ b _)]=>some [b]
  |_=>some []
theorem Qof (W:World) (hE:ErrType W):(Con.rd Qhm).holdsAt Tryz.prog W (fun _=>False) 56:=by
 refine⟨by kernel_rfl,fun x0 h s x=>⟨rfl,trivial⟩,fun ρ s w _ hK hM=>?_⟩
 have hlt:0<W.heap.size:=by
  rcases Nat.eq_zero_or_pos W.heap.size with h0|h
  · simp[ErrType,World.cell?,h0]at hE
  · exact h
 have hg:ErrType w:=(hK.cell hlt (fun h=>h)).trans hE
 have key:∀v:Value,(v=.iface 97 (.int .i64 s.e)\/∃pb po,v=.iface 115 (.pointer (some ⟨pb,po,none⟩))/\w.cell? ⟨pb,po,none⟩=some (.int .i64 s.e))->Calls Tryz.prog 56 #[v] w fun e w'=>∃(x:Unit) (ρ':Nat->Nat),True/\(∀i,i<(Qhm.mem s).length->ρ' i=ρ i)/\0=0/\e=.returned ((Qhm.val s x).den ρ')/\Mem w (fun _=>False) [] w':=fun v hv=>by
  refine (Qqp v s.e w hg hv).mono fun e w' ⟨h1,h2⟩=>⟨(),ρ,trivial,fun _ _=>rfl,rfl,h1,⟨(Kept.refl _ w).trans (Kept.of_below h2),by simp,by simp,List.Pairwise.nil⟩⟩
 cases s with
 |no e=>exact key _ (.inl rfl)
 | «at» e p=>
   have h0:(En.blk (ρ 0) [.int .i64 e,.int .i64 p] 117).at w:=hM _ (List.mem_singleton.2 rfl)
   exact key _ (.inr ⟨ρ 0,0,rfl,Blk.cell h0 0⟩)
abbrev rowsE (m c:Nat) (z:Nat->Nat->Int):SB:=.rows 35 [.int .i64,.int .i64,.int .i64,.int .i64,.int .i64,.int .i64,.int .i64,.int .i64,.int .i64] 9 m c z
abbrev rowsJ (m c:Nat) (z:Nat->Nat->Int):SB:=.rows 65 [.int .i64,.int .i64,.int .i64,.int .i64,.int .i64,.int .i64] 6 m c z
def evL:List (List Int):=[[1,0,1,0,3,0,0,0,0],[2,0,1,0,3,1,0,1,0]]
def deL:List (List Int):=[[0,1,0,3,1,0],[1,2,0,0,1,3]]
def Qd5:RCon where
 σ:=Unit
 χ:=Unit
 pre _:=True
 args _:=[.c (.so 0 0 9 2 2 true),.c (.so 1 0 6 1 2 true)]
 mem _:=[rowsE 2 2 (zOf evL),rowsJ 2 2 (zOf deL)]
 ok _ _:=True
 val _ _:=.o (.c (.v .nilIface))
 new _ _:=[]
 len:=0
 det:=some ()
 find args M:=match args with
  |[.c (.so b _ _ _ _ _),.c (.so d _ _ _ _ _)]=>some [b,d]
  |_=>none
def Qd4:RCon where
 σ:=Unit
 χ:=Unit
 pre _:=True
 args _:=[.c (.so 0 0 9 2 2 true),.c (.v (.slice none 0 0))]
 mem _:=[rowsE 2 2 (zOf evL)]
 ok _ _:=True
 val _ _:=.o (.c (.v (.iface 97 (.int .i64 7))))
 new _ _:=[]
 len:=0
 det:=some ()
 find args M:=match args with
  |[.c (.so b _ _ _ _ _),.c (.v _)]=>some [b]
  |_=>none
theorem Qm7:(Con.rd Qd4).holds Tryz.prog 57:=by
 intro w0 S
 refine QdH (AG:=[]) (Γ:=[(75,.inl Tryz.f75 (Tryz.f75.body.getD .skip))]) Tryz.func57 rfl (by kernel_rfl) Qg Qd (fun _ _=>.cons ⟨by kernel_rfl,Tryz.func75,rfl⟩ (.nil _ _ _)) Qd4 (fun x0 h s x=>⟨rfl,trivial⟩) [] (fun _ _=>[]) 2000 ?_
 rintro⟨⟩ ρ w - - hM
 have hE:RowAt w (ρ 0) 35 9 2 2 (QJ (ckAt [.int .i64,.int .i64,.int .i64,.int .i64,.int .i64,.int .i64,.int .i64,.int .i64,.int .i64]) 9 (zOf evL) 2):=hM _ (List.mem_singleton.2 rfl)
 obtain⟨a,c',e1,hr,ha,hnc⟩:=QgT (b:=0) (lo:=0) (n:=2) (nn:=true) (kf:=fun _=>.i64) hE rfl rfl (Nat.le_refl _)
 refine⟨[.c (.r a 2 c' 2 9 (fun _=>.i64) (fun i=>zOf evL (0+i))),.c (.v (.slice none 0 0))],by simp only[Qd4,List.map_cons,List.map_nil,SA.den,e1];rfl,rfl,?_⟩
 refine Qj (q:=((Rws 9 (fun (x:Nat)=>.i64) w a 2 c' fun (i j:Nat)=>match List.get?Internal (match List.get?Internal [[(1:Int),(0:Int),(1:Int),(0:Int),(3:Int),(0:Int),(0:Int),(0:Int),(0:Int)],[(2:Int),(0:Int),(1:Int),(0:Int),(3:Int),(1:Int),(0:Int),(1:Int),(0:Int)]] (0+i)with|some x=>x|none=>[]) j with|some x=>x|none=>(0:Int))/\(0:Int)<=(0:Int)/\(0:Int)<(2:Int)/\0<2)/\((Rws 9 (fun (x:Nat)=>.i64) w a 2 c' fun (i j:Nat)=>match List.get?Internal (match List.get?Internal [[(1:Int),(0:Int),(1:Int),(0:Int),(3:Int),(0:Int),(0:Int),(0:Int),(0:Int)],[(2:Int),(0:Int),(1:Int),(0:Int),(3:Int),(1:Int),(0:Int),(1:Int),(0:Int)]] (0+i)with|some x=>x|none=>[]) j with|some x=>x|none=>(0:Int))/\0<2)/\(True/\(1<=1/\1=1)/\1<=68719476736)/\∀(c:Nat),1<=c->((Rws 9 (fun (x:Nat)=>.i64) w a 2 c' fun (i j:Nat)=>match List.get?Internal (match List.get?Internal [[(1:Int),(0:Int),(1:Int),(0:Int),(3:Int),(0:Int),(0:Int),(0:Int),(0:Int)],[(2:Int),(0:Int),(1:Int),(0:Int),(3:Int),(1:Int),(0:Int),(1:Int),(0:Int)]] (0+i)with|some x=>x|none=>[]) j with|some x=>x|none=>(0:Int))/\(0:Int)<=(1:Int)/\(1:Int)<(2:Int)/\1<2)/\((Rws 9 (fun (x:Nat)=>.i64) w a 2 c' fun (i j:Nat)=>match List.get?Internal (match List.get?Internal [[(1:Int),(0:Int),(1:Int),(0:Int),(3:Int),(0:Int),(0:Int),(0:Int),(0:Int)],[(2:Int),(0:Int),(1:Int),(0:Int),(3:Int),(1:Int),(0:Int),(1:Int),(0:Int)]] (0+i)with|some x=>x|none=>[]) j with|some x=>x|none=>(0:Int))/\1<2)/\((0:Int)<=(0:Int)/\(0:Int)<(1:Int)/\1<=c)/\0<1/\dP Tryz.f75 16 7 [xE 11,xE 10,xR 9 5,xF 8 5,xR 7 4,xF 6 4,xF 5 4,xE 4,xF 3 4,xE 2,xE 1,xE 0]/\((0:Int)<=(0:Int)/\(0:Int)<(1:Int)/\1<=c)/\0<1/\((0:Int)<=(0:Int)/\(0:Int)<(1:Int)/\1<=c)/\0<1/\((0:Int)<=(0:Int)/\(0:Int)<(1:Int)/\1<=c)/\0<1/\dP Tryz.f75 18 7 [⟨20,[],[4],[],false⟩,xF 19 4,xF 18 4,⟨17,[],[4],[],false⟩,xF 16 4,xF 15 4,⟨14,[],[4],[],false⟩,xF 13 4,xF 12 4,xR 11 5,xF 10 5,xR 9 5,xF 8 5,xE 7,xE 6,xE 5,xF 4 4,xE 3,xF 2 4,xE 1,xF 0 4]/\((0:Int)<=(0:Int)/\(0:Int)=(0:Int)/\(0:Int)<=(68719476736:Int))/\1<=c/\((0:Int)<=(0:Int)/\(0:Int)<(1:Int)/\1<=c)/\0<1/\endD Qd4 [] (fun (x:SV) (x_1:List SB)=>[]) PUnit.unit (SV.o (SA.c (.v (.iface 97 (Value.int .i64 (7:Int)))))) [SB.gone,SB.cells [sI 1,sI 0,sI 1,sI 0,sI 3,sI 0,sI 0,sI 0,sI 0] 35,SB.cells [sI 10,sI 0] 117,SB.rows 146 kI9 9 1 1 fun (i j:Nat)=>match List.get?Internal (match List.get?Internal [[(0:Int),(1:Int),(0:Int),(3:Int),(1:Int),(0:Int),(0:Int),(0:Int),(0:Int)]] i with|some x=>x|none=>[]) j with|some x=>x|none=>(0:Int),SB.rows 146 kI9 9 1 c fun (i j:Nat)=>bif match Nat.beq i 0 with|false=>false|true=>match Nat.ble 7 j with|false=>false|true=>Nat.ble j 8 then match List.get?Internal [(1:Int),(0:Int)] (match match match match match match match j with|0=>0|Nat.succ a=>a with|0=>0|Nat.succ a=>a with|0=>0|Nat.succ a=>a with|0=>0|Nat.succ a=>a with|0=>0|Nat.succ a=>a with|0=>0|Nat.succ a=>a with|0=>0|Nat.succ a=>a)with|some x=>x|none=>(0:Int)else bif match Nat.beq i 0 with|false=>false|true=>match Nat.ble 6 j with|false=>false|true=>Nat.ble j 6 then match List.get?Internal [(1:Int)] (match match match match match match j with|0=>0|Nat.succ a=>a with|0=>0|Nat.succ a=>a with|0=>0|Nat.succ a=>a with|0=>0|Nat.succ a=>a with|0=>0|Nat.succ a=>a with|0=>0|Nat.succ a=>a)with|some x=>x|none=>(0:Int)else bif match Nat.beq i 0 with|false=>false|true=>match Nat.ble 5 j with|false=>false|true=>Nat.ble j 5 then match List.get?Internal [(2:Int)] (match match match match match j with|0=>0|Nat.succ a=>a with|0=>0|Nat.succ a=>a with|0=>0|Nat.succ a=>a with|0=>0|Nat.succ a=>a with|0=>0|Nat.succ a=>a)with|some x=>x|none=>(0:Int)else match List.get?Internal (match List.get?Internal [[(0:Int),(1:Int),(0:Int),(3:Int),(1:Int),(0:Int),(0:Int),(0:Int),(0:Int)]] (0+i)with|some x=>x|none=>[]) j with|some x=>x|none=>(0:Int),SB.cells [sI 2,sI 0,sI 1,sI 0,sI 3,sI 1,sI 0,sI 1,sI 0] 35,SB.cells [sI 10,sI 1] 117,SB.rows 3 [.int .i64] 1 0 0 fun (x x_1:Nat)=>(0:Int),SB.cells [sI 0,sI 1,sI 0,sI 3,sI 1,sI 2,sI 1,sI 1,sI 0] 146]) (by kernel_rfl) ?_
 refine⟨⟨Qj (q:=Rws 9 (fun _=>.i64) w a 2 c' (fun i=>zOf evL (0+i))) (by kernel_rfl) hr,by decide,by decide,by decide⟩,⟨Qj (q:=Rws 9 (fun _=>.i64) w a 2 c' (fun i=>zOf evL (0+i))) (by kernel_rfl) hr,by decide⟩,⟨trivial,⟨Nat.le_refl _,rfl⟩,by decide⟩,fun c hc=>?_⟩
 repeat' (first|(show Rws 9 (fun _=>.i64) w a 2 c' _;exact Qj (q:=Rws 9 (fun _=>.i64) w a 2 c' (fun i=>zOf evL (0+i))) (by kernel_rfl) hr)|exact Qe (by kernel_rfl)|exact hc|omega|refine And.intro ?_ ?_)
 exact⟨(),trivial,rfl,rfl⟩
theorem Qm8:(Con.rd Qd5).holds Tryz.prog 57:=by
 intro w0 S
 refine QdH (AG:=[]) (Γ:=[(75,.inl Tryz.f75 (Tryz.f75.body.getD .skip))]) Tryz.func57 rfl (by kernel_rfl) Qg Qd (fun _ _=>.cons ⟨by kernel_rfl,Tryz.func75,rfl⟩ (.nil _ _ _)) Qd5 (fun x0 h s x=>⟨rfl,trivial⟩) [] (fun _ _=>[]) 2000 ?_
 rintro⟨⟩ ρ w - - hM
 have hE:RowAt w (ρ 0) 35 9 2 2 (QJ (ckAt [.int .i64,.int .i64,.int .i64,.int .i64,.int .i64,.int .i64,.int .i64,.int .i64,.int .i64]) 9 (zOf evL) 2):=hM _ List.mem_cons_self
 have hD:RowAt w (ρ 1) 65 6 2 2 (QJ (ckAt [.int .i64,.int .i64,.int .i64,.int .i64,.int .i64,.int .i64]) 6 (zOf deL) 2):=hM _ (List.mem_cons_of_mem _ List.mem_cons_self)
 obtain⟨a2,c2,e2,hr2,ha2,hnc2⟩:=QgT (b:=1) (lo:=0) (n:=1) (nn:=true) (kf:=fun _=>.i64) hD rfl rfl (by decide)
 obtain⟨a,c',e1,hr,ha,hnc⟩:=QgT (b:=0) (lo:=0) (n:=2) (nn:=true) (kf:=fun _=>.i64) hE rfl rfl (Nat.le_refl _)
 refine⟨[.c (.r a 2 c' 2 9 (fun _=>.i64) (fun i=>zOf evL (0+i))),.c (.r a2 1 c2 1 6 (fun _=>.i64) (fun i=>zOf deL (0+i)))],by simp only[Qd5,List.map_cons,List.map_nil,SA.den,e1,e2];rfl,rfl,?_⟩
 refine Qj (q:=((Rws 9 (fun (x:Nat)=>.i64) w a 2 c' fun (i j:Nat)=>match List.get?Internal (match List.get?Internal [[(1:Int),(0:Int),(1:Int),(0:Int),(3:Int),(0:Int),(0:Int),(0:Int),(0:Int)],[(2:Int),(0:Int),(1:Int),(0:Int),(3:Int),(1:Int),(0:Int),(1:Int),(0:Int)]] (0+i)with|some x=>x|none=>[]) j with|some x=>x|none=>(0:Int))/\(0:Int)<=(0:Int)/\(0:Int)<(2:Int)/\0<2)/\((Rws 9 (fun (x:Nat)=>.i64) w a 2 c' fun (i j:Nat)=>match List.get?Internal (match List.get?Internal [[(1:Int),(0:Int),(1:Int),(0:Int),(3:Int),(0:Int),(0:Int),(0:Int),(0:Int)],[(2:Int),(0:Int),(1:Int),(0:Int),(3:Int),(1:Int),(0:Int),(1:Int),(0:Int)]] (0+i)with|some x=>x|none=>[]) j with|some x=>x|none=>(0:Int))/\0<2)/\(True/\(1<=1/\1=1)/\1<=68719476736)/\∀(c:Nat),1<=c->((Rws 9 (fun (x:Nat)=>.i64) w a 2 c' fun (i j:Nat)=>match List.get?Internal (match List.get?Internal [[(1:Int),(0:Int),(1:Int),(0:Int),(3:Int),(0:Int),(0:Int),(0:Int),(0:Int)],[(2:Int),(0:Int),(1:Int),(0:Int),(3:Int),(1:Int),(0:Int),(1:Int),(0:Int)]] (0+i)with|some x=>x|none=>[]) j with|some x=>x|none=>(0:Int))/\(0:Int)<=(1:Int)/\(1:Int)<(2:Int)/\1<2)/\((Rws 9 (fun (x:Nat)=>.i64) w a 2 c' fun (i j:Nat)=>match List.get?Internal (match List.get?Internal [[(1:Int),(0:Int),(1:Int),(0:Int),(3:Int),(0:Int),(0:Int),(0:Int),(0:Int)],[(2:Int),(0:Int),(1:Int),(0:Int),(3:Int),(1:Int),(0:Int),(1:Int),(0:Int)]] (0+i)with|some x=>x|none=>[]) j with|some x=>x|none=>(0:Int))/\1<2)/\((0:Int)<=(0:Int)/\(0:Int)<(1:Int)/\1<=c)/\0<1/\dP Tryz.f75 16 7 [xE 11,xE 10,xR 9 5,xF 8 5,xR 7 4,xF 6 4,xF 5 4,xE 4,xF 3 4,xE 2,xE 1,xE 0]/\((0:Int)<=(0:Int)/\(0:Int)<(1:Int)/\1<=c)/\0<1/\((0:Int)<=(0:Int)/\(0:Int)<(1:Int)/\1<=c)/\0<1/\((0:Int)<=(0:Int)/\(0:Int)<(1:Int)/\1<=c)/\0<1/\dP Tryz.f75 18 7 [⟨20,[],[4],[],false⟩,xF 19 4,xF 18 4,⟨17,[],[4],[],false⟩,xF 16 4,xF 15 4,⟨14,[],[4],[],false⟩,xF 13 4,xF 12 4,xR 11 5,xF 10 5,xR 9 5,xF 8 5,xE 7,xE 6,xE 5,xF 4 4,xE 3,xF 2 4,xE 1,xF 0 4]/\((0:Int)<=(1:Int)/\(1:Int)=(1:Int)/\(1:Int)<=(68719476736:Int))/\1<=c/\((0:Int)<=(0:Int)/\(0:Int)<(1:Int)/\1<=c)/\0<1/\((Rws 6 (fun (x:Nat)=>.i64) w a2 1 c2 fun (i j:Nat)=>match List.get?Internal (match List.get?Internal [[(0:Int),(1:Int),(0:Int),(3:Int),(1:Int),(0:Int)],[(1:Int),(2:Int),(0:Int),(0:Int),(1:Int),(3:Int)]] (0+i)with|some x=>x|none=>[]) j with|some x=>x|none=>(0:Int))/\(0:Int)<=(0:Int)/\(0:Int)<(1:Int)/\0<1)/\((Rws 6 (fun (x:Nat)=>.i64) w a2 1 c2 fun (i j:Nat)=>match List.get?Internal (match List.get?Internal [[(0:Int),(1:Int),(0:Int),(3:Int),(1:Int),(0:Int)],[(1:Int),(2:Int),(0:Int),(0:Int),(1:Int),(3:Int)]] (0+i)with|some x=>x|none=>[]) j with|some x=>x|none=>(0:Int))/\0<1)/\((0:Int)<=(0:Int)/\(0:Int)<(1:Int)/\1<=1)/\0<1/\((0:Int)<=(0:Int)/\(0:Int)<(1:Int)/\1<=1)/\0<1/\((Rws 6 (fun (x:Nat)=>.i64) w a2 1 c2 fun (i j:Nat)=>match List.get?Internal (match List.get?Internal [[(0:Int),(1:Int),(0:Int),(3:Int),(1:Int),(0:Int)],[(1:Int),(2:Int),(0:Int),(0:Int),(1:Int),(3:Int)]] (0+i)with|some x=>x|none=>[]) j with|some x=>x|none=>(0:Int))/\(0:Int)<=(0:Int)/\(0:Int)<(1:Int)/\0<1)/\((Rws 6 (fun (x:Nat)=>.i64) w a2 1 c2 fun (i j:Nat)=>match List.get?Internal (match List.get?Internal [[(0:Int),(1:Int),(0:Int),(3:Int),(1:Int),(0:Int)],[(1:Int),(2:Int),(0:Int),(0:Int),(1:Int),(3:Int)]] (0+i)with|some x=>x|none=>[]) j with|some x=>x|none=>(0:Int))/\0<1)/\((0:Int)<=(0:Int)/\(0:Int)<(1:Int)/\1<=1)/\0<1/\1<=1/\endD Qd5 [] (fun (x:SV) (x_1:List SB)=>[]) PUnit.unit (SV.o (SA.c (.v Value.nilIface))) [SB.gone,SB.cells [sI 1,sI 0,sI 1,sI 0,sI 3,sI 0,sI 0,sI 0,sI 0] 35,SB.cells [sI 10,sI 0] 117,SB.rows 146 kI9 9 1 1 fun (i j:Nat)=>match List.get?Internal (match List.get?Internal [[(0:Int),(1:Int),(0:Int),(3:Int),(1:Int),(0:Int),(0:Int),(0:Int),(0:Int)]] i with|some x=>x|none=>[]) j with|some x=>x|none=>(0:Int),SB.rows 146 kI9 9 1 c fun (i j:Nat)=>bif match Nat.beq i 0 with|false=>false|true=>match Nat.ble 7 j with|false=>false|true=>Nat.ble j 8 then match List.get?Internal [(1:Int),(0:Int)] (match match match match match match match j with|0=>0|Nat.succ a=>a with|0=>0|Nat.succ a=>a with|0=>0|Nat.succ a=>a with|0=>0|Nat.succ a=>a with|0=>0|Nat.succ a=>a with|0=>0|Nat.succ a=>a with|0=>0|Nat.succ a=>a)with|some x=>x|none=>(0:Int)else bif match Nat.beq i 0 with|false=>false|true=>match Nat.ble 6 j with|false=>false|true=>Nat.ble j 6 then match List.get?Internal [(1:Int)] (match match match match match match j with|0=>0|Nat.succ a=>a with|0=>0|Nat.succ a=>a with|0=>0|Nat.succ a=>a with|0=>0|Nat.succ a=>a with|0=>0|Nat.succ a=>a with|0=>0|Nat.succ a=>a)with|some x=>x|none=>(0:Int)else bif match Nat.beq i 0 with|false=>false|true=>match Nat.ble 5 j with|false=>false|true=>Nat.ble j 5 then match List.get?Internal [(2:Int)] (match match match match match j with|0=>0|Nat.succ a=>a with|0=>0|Nat.succ a=>a with|0=>0|Nat.succ a=>a with|0=>0|Nat.succ a=>a with|0=>0|Nat.succ a=>a)with|some x=>x|none=>(0:Int)else match List.get?Internal (match List.get?Internal [[(0:Int),(1:Int),(0:Int),(3:Int),(1:Int),(0:Int),(0:Int),(0:Int),(0:Int)]] (0+i)with|some x=>x|none=>[]) j with|some x=>x|none=>(0:Int),SB.cells [sI 2,sI 0,sI 1,sI 0,sI 3,sI 1,sI 0,sI 1,sI 0] 35,SB.cells [sI 10,sI 1] 117,SB.rows 3 [.int .i64] 1 1 1 fun (i j:Nat)=>bif match Nat.beq i 0 with|false=>false|true=>Nat.ble j 0 then match List.get?Internal [(1:Int)] j with|some x=>x|none=>(0:Int)else (0:Int),SB.cells [sI 0,sI 1,sI 0,sI 3,sI 1,sI 2,sI 1,sI 1,sI 0] 146,SB.cells [sI 0,sI 1,sI 0,sI 3,sI 1,sI 0] 65,SB.cells [sI 0,sI 1,sI 0,sI 3,sI 1,sI 0] 65]) (by kernel_rfl) ?_
 refine⟨⟨Qj (q:=Rws 9 (fun _=>.i64) w a 2 c' (fun i=>zOf evL (0+i))) (by kernel_rfl) hr,by decide,by decide,by decide⟩,⟨Qj (q:=Rws 9 (fun _=>.i64) w a 2 c' (fun i=>zOf evL (0+i))) (by kernel_rfl) hr,by decide⟩,⟨trivial,⟨Nat.le_refl _,rfl⟩,by decide⟩,fun c hc=>?_⟩
 repeat' (first|(show Rws 9 (fun _=>.i64) w a 2 c' _;exact Qj (q:=Rws 9 (fun _=>.i64) w a 2 c' (fun i=>zOf evL (0+i))) (by kernel_rfl) hr)|(show Rws 6 (fun _=>.i64) w a2 1 c2 _;exact Qj (q:=Rws 6 (fun _=>.i64) w a2 1 c2 (fun i=>zOf deL (0+i))) (by kernel_rfl) hr2)|exact Qe (by kernel_rfl)|exact hc|omega|refine And.intro ?_ ?_)
 exact⟨(),trivial,rfl,rfl⟩
end
end Go.Proofs.YtinijfhoenajkaaGreatDoor
