/- What the proof leans on, gathered. -/
import Derived.Test.YtinijfhoenajkaaGreatDoorRows
import Derived.WalkKit
import Derived.Test.YtinijfhoenajkaaGreatDoorProg
import Derived.ChangeVars
import Derived.JoinedOf
import Derived.RowKit
import Derived.LaidLaws
import Derived.LaidHandle
import Derived.Stop.Joined
import Derived.Deep.Slices
import Derived.Deep.Fields
import Derived.ChangeSame
import Derived.ProofKit
import Derived.Shelf.Spec.SlicesGrow
import Derived.Test.YtinijfhoenajkaaGreatDoorZF4
namespace Go.Proofs.YtinijfhoenajkaaGreatDoor
set_option linter.unusedVariables false
set_option maxRecDepth 100000
set_option maxHeartbeats 8000000
section
open Go.RowKit
def Qmz (t:Nat):TCon Sh Unit Unit where
 pre z _:=True
 args _:=[.c (.v (.int .i64 t))]
 ok _ _ _:=True
 next z _ _:=z
 val _ z _ _:=sv (.int .i64 (z.w t).does)
 new _ _ _ _:=[]
 len:=0
abbrev QaS (t:Nat):MCon:=(Qmz t).low shM ShS.z ShS.good 17 7 Qci
theorem QhS:(Con.mem (QaS 0)).holds Tryz.prog 21:=by
 intro w0 S
 refine Qa (Γ:=[(46,.inl Tryz.f46 (Tryz.f46.body.getD .skip))]) (fun _=>noW) Tryz.func21 rfl (by kernel_rfl) Qf Qc (fun w S' _ _=>.cons ⟨by kernel_rfl,rfl,rfl⟩ (.nil _ _ _)) (QaS 0) (fun _=>[]) (fun x0 h=>by cases h) (fun s ρ w _ _ _=>Qh w _) [] (fun _ M=>shAt M 0) 600 ?_
 rintro⟨⟨z,r,mh,ch,nh,zh,mv,cv,nv,zv⟩,⟨⟩⟩ W ⟨h0,-⟩ -
 refine⟨rfl,?_⟩
 refine Qj (q:=i04/\endN (QaS 0) [] (fun (x:SV) (M:List SB)=>shAt M 0) (ShS.mk z r mh ch nh zh mv cv nv zv,PUnit.unit) (SV.o (aI (Sh.w z 0).2)) (shI (shD z.4 z.5 15 (List.length z.6) ch nh 16 (List.length z.7) cv nv) z.1 (Sh.s z) (stX (Sh.w z) r) (stA r) (stD r) (evB mh ch zh) (vdB mv cv zv) [])) (by kernel_rfl) ?_
 have h0:(⟨z,r,mh,ch,nh,zh,mv,cv,nv,zv⟩:ShS).good:=h0
 exact⟨⟨by decide,by decide⟩,Qi rfl ⟨⟨z,r,mh,ch,nh,zh,mv,cv,nv,zv⟩,()⟩ ⟨h0,rfl,trivial⟩ rfl rfl rfl⟩
theorem QmC:(Con.mem (QaS 1)).holds Tryz.prog 21:=by
 intro w0 S
 refine Qa (Γ:=[(46,.inl Tryz.f46 (Tryz.f46.body.getD .skip))]) (fun _=>noW) Tryz.func21 rfl (by kernel_rfl) Qf Qc (fun w S' _ _=>.cons ⟨by kernel_rfl,rfl,rfl⟩ (.nil _ _ _)) (QaS 1) (fun _=>[]) (fun x0 h=>by cases h) (fun s ρ w _ _ _=>Qh w _) [] (fun _ M=>shAt M 0) 600 ?_
 rintro⟨⟨z,r,mh,ch,nh,zh,mv,cv,nv,zv⟩,⟨⟩⟩ W ⟨h0,-⟩ -
 refine⟨rfl,?_⟩
 refine Qj (q:=(iR (1:Int) (4:Int))/\endN (QaS 1) [] (fun (x:SV) (M:List SB)=>shAt M 0) (ShS.mk z r mh ch nh zh mv cv nv zv,PUnit.unit) (SV.o (aI (Sh.w z 1).2)) (shI (shD z.4 z.5 15 (List.length z.6) ch nh 16 (List.length z.7) cv nv) z.1 (Sh.s z) (stX (Sh.w z) r) (stA r) (stD r) (evB mh ch zh) (vdB mv cv zv) [])) (by kernel_rfl) ?_
 have h0:(⟨z,r,mh,ch,nh,zh,mv,cv,nv,zv⟩:ShS).good:=h0
 exact⟨⟨by decide,by decide⟩,Qi rfl ⟨⟨z,r,mh,ch,nh,zh,mv,cv,nv,zv⟩,()⟩ ⟨h0,rfl,trivial⟩ rfl rfl rfl⟩
theorem QmB:(Con.mem (QaS 2)).holds Tryz.prog 21:=by
 intro w0 S
 refine Qa (Γ:=[(46,.inl Tryz.f46 (Tryz.f46.body.getD .skip))]) (fun _=>noW) Tryz.func21 rfl (by kernel_rfl) Qf Qc (fun w S' _ _=>.cons ⟨by kernel_rfl,rfl,rfl⟩ (.nil _ _ _)) (QaS 2) (fun _=>[]) (fun x0 h=>by cases h) (fun s ρ w _ _ _=>Qh w _) [] (fun _ M=>shAt M 0) 600 ?_
 rintro⟨⟨z,r,mh,ch,nh,zh,mv,cv,nv,zv⟩,⟨⟩⟩ W ⟨h0,-⟩ -
 refine⟨rfl,?_⟩
 refine Qj (q:=(iR (2:Int) (4:Int))/\endN (QaS 2) [] (fun (x:SV) (M:List SB)=>shAt M 0) (ShS.mk z r mh ch nh zh mv cv nv zv,PUnit.unit) (SV.o (aI (Sh.w z 2).2)) (shI (shD z.4 z.5 15 (List.length z.6) ch nh 16 (List.length z.7) cv nv) z.1 (Sh.s z) (stX (Sh.w z) r) (stA r) (stD r) (evB mh ch zh) (vdB mv cv zv) [])) (by kernel_rfl) ?_
 have h0:(⟨z,r,mh,ch,nh,zh,mv,cv,nv,zv⟩:ShS).good:=h0
 exact⟨⟨by decide,by decide⟩,Qi rfl ⟨⟨z,r,mh,ch,nh,zh,mv,cv,nv,zv⟩,()⟩ ⟨h0,rfl,trivial⟩ rfl rfl rfl⟩
theorem QmA:(Con.mem (QaS 3)).holds Tryz.prog 21:=by
 intro w0 S
 refine Qa (Γ:=[(46,.inl Tryz.f46 (Tryz.f46.body.getD .skip))]) (fun _=>noW) Tryz.func21 rfl (by kernel_rfl) Qf Qc (fun w S' _ _=>.cons ⟨by kernel_rfl,rfl,rfl⟩ (.nil _ _ _)) (QaS 3) (fun _=>[]) (fun x0 h=>by cases h) (fun s ρ w _ _ _=>Qh w _) [] (fun _ M=>shAt M 0) 600 ?_
 rintro⟨⟨z,r,mh,ch,nh,zh,mv,cv,nv,zv⟩,⟨⟩⟩ W ⟨h0,-⟩ -
 refine⟨rfl,?_⟩
 refine Qj (q:=(iR (3:Int) (4:Int))/\endN (QaS 3) [] (fun (x:SV) (M:List SB)=>shAt M 0) (ShS.mk z r mh ch nh zh mv cv nv zv,PUnit.unit) (SV.o (aI (Sh.w z 3).2)) (shI (shD z.4 z.5 15 (List.length z.6) ch nh 16 (List.length z.7) cv nv) z.1 (Sh.s z) (stX (Sh.w z) r) (stA r) (stD r) (evB mh ch zh) (vdB mv cv zv) [])) (by kernel_rfl) ?_
 have h0:(⟨z,r,mh,ch,nh,zh,mv,cv,nv,zv⟩:ShS).good:=h0
 exact⟨⟨by decide,by decide⟩,Qi rfl ⟨⟨z,r,mh,ch,nh,zh,mv,cv,nv,zv⟩,()⟩ ⟨h0,rfl,trivial⟩ rfl rfl rfl⟩
def evC:TCon Sh Int Unit where
 pre z _:=True
 args a:=[.c (.v (.int .i64 a))]
 ok _ _ _:=True
 next z a _:=z.evict a
 val _ z a _:=.o (.c (.v (bif decide (0<=a/\a<9)then .nilIface else .iface 97 (.int .i64 2))))
 new _ _ _ _:=[]
 len:=0
abbrev QpV:MCon:=evC.low shM ShS.z ShS.good 17 7 Qci
theorem Qof (z:Sh) (a:Int):z.evict a={ z with s:=bif decide (0<=a/\a<9)then z.s.evict a.toNat else z.s }:=by
 unfold Sh.evict
 by_cases h:0<=a/\a<9
 · rw[if_pos h,decide_eq_true h];rfl
 · rw[if_neg h,decide_eq_false h];rfl
theorem ev_con:(Con.mem QpV).holds Tryz.prog 67:=by
 intro w0 S
 refine Qa (Γ:=[(66,.mem Qby)]) (fun _=>noW) Tryz.func67 rfl (by kernel_rfl) Qf Qc (fun w S' _ _=>.cons (Qhj w S') (.nil _ _ _)) QpV (fun _=>[]) (fun x0 h=>by cases h) (fun s ρ w _ _ _=>Qh w _) [] (fun _ M=>shAt M 0) 600 ?_
 rintro⟨⟨z,r,mh,ch,nh,zh,mv,cv,nv,zv⟩,a⟩ W ⟨h0,-⟩ -
 refine⟨rfl,?_⟩
 refine Qj (q:=∃(s:Qcv),[aP 2 0,aI a]=[aP 2 0,aI s.2]/\[stoB (Sh.s z)]=[stoB (Qcv.s s)]/\True/\∀(x:Unit),True->endN QpV [] (fun (x:SV) (M:List SB)=>shAt M 0) (ShS.mk z r mh ch nh zh mv cv nv zv,a) (SV.o (SA.c (.v (bif decide (iR s.2 (9:Int))then Value.nilIface else Value.iface 97 (Value.int .i64 (2:Int)))))) (shI (shD z.4 z.5 15 (List.length z.6) ch nh 16 (List.length z.7) cv nv) z.1 (bif decide ((0:Int)<=Qcv.l s/\Qcv.l s<(9:Int))then Sto.evict (Qcv.s s) (Int.toNat (Qcv.l s))else Qcv.s s) (stX (Sh.w z) r) (stA r) (stD r) (evB mh ch zh) (vdB mv cv zv) [])) (by kernel_rfl) ?_
 have h0:(⟨z,r,mh,ch,nh,zh,mv,cv,nv,zv⟩:ShS).good:=h0
 refine⟨⟨z.s,a⟩,rfl,rfl,trivial,fun _ _=>?_⟩
 exact Qi rfl ⟨⟨{ z with s:=bif decide (0<=a/\a<9)then z.s.evict a.toNat else z.s },r,mh,ch,nh,zh,mv,cv,nv,zv⟩,()⟩ ⟨⟨h0.w,h0.h1,h0.h2,h0.h,h0.v1,h0.v2,h0.v⟩,(Qof z a).symm,trivial⟩ rfl rfl rfl
def recF (z:Sh) (n:Nat):Nat->Int:=fun j=>bif decide (j<n)then z.cur j else 0
def recC:TCon Sh Unit Unit where
 pre z _:=0<=z.s.now 0/\z.s.now 0<1000000000
 args _:=[]
 ok _ _ _:=True
 next z _ _:=z
 val _ z _ _:=.o (.a [.ints (.int .u64) 32 (recF z 32)])
 new _ _ _ _:=[]
 len:=0
abbrev QmI:MCon:=recC.low shM ShS.z ShS.good 17 7 Qci
structure RecG where
 i:Nat
 hi:i<=32
def Qo1 (s:ShS):Ann where
 σ:=RecG
 I g:=([(0,.o (.c (.p 0 0))),(2,.o (.c (.p 17 0))),(3,.o (.c (.p 18 0))),(4,sv (.int .i64 (Qq (s.z.s.now 0):Nat))),(13,sv (.int .i64 g.i))],shM s++[.cells [.ints (.int .u64) 32 (fun _=>0)] 60,.cells [.ints (.int .u64) 32 (recF s.z g.i)] 60])
 dec g:=32-g.i
 pi env M:=shAt M 0++[blkE env 2,blkE env 3]
 nz:=[]
theorem Qps:(Con.mem QmI).holds Tryz.prog 32:=by
 intro w0 S
 refine Qa (Γ:=[(26,.inl Tryz.f26 (Tryz.f26.body.getD .skip)),(49,.mem QJ)]) (fun _=>noW) Tryz.func32 rfl (by kernel_rfl) Qf Qc (fun w S' _ _=>.cons ⟨by kernel_rfl,rfl,rfl⟩ (.cons (QN w S') (.nil _ _ _))) QmI (fun s=>[(32,[(0,Qo1 s.1)])]) (fun x0 h=>by cases h) (fun s ρ w _ _ _=>Qh w _) [] (fun _ M=>shAt M 0) 600 ?_
 rintro⟨⟨z,r,mh,ch,nh,zh,mv,cv,nv,zv⟩,⟨⟩⟩ W ⟨h0,h1,h2⟩ -
 refine⟨rfl,?_⟩
 dsimp only
 refine Qj (q:=∃(s:Qu),[aP 2 0,aI 0]=[aP 2 0,aI s.2]/\[stoB (Sh.s z)]=[stoB (Qu.s s)]/\(iR s.2 (72:Int))/\∀(x:Unit),True->(2:Int)≠(0:Int)/\(8:Int)≠(0:Int)/\(∃(s0:Ann.σ (Qo1 (ShS.mk z r mh ch nh zh mv cv nv zv))),(eS (aP 0 0) (aP 0 0)/\eS (aP 17 0) (aP 17 0)/\eS (aP 18 0) (aP 18 0)/\eS (aI (IntKind.wrap .i64 (IntKind.wrap .i64 ((1:Int)+IntKind.wrap .i64 (Int.tdiv (IntKind.wrap .i64 (Int.tmod (IntKind.wrap .i64 ((Qu.s s).1 (Int.toNat s.2))) (2:Int)*(32:Int))) (8:Int)))*(8:Int)))) (aI (↑(Qq ((Sh.s z).1 0)):Int))/\eS (aI 0) (aI ↑s0.1)/\True)/\(shI (shD z.4 z.5 15 (List.length z.6) ch nh 16 (List.length z.7) cv nv) z.1 (Qu.s s) (stX (Sh.w z) r) (stA r) (stD r) (evB mh ch zh) (vdB mv cv zv) [SB.cells [nU 32 zF] 60,SB.cells [nU 32 zF] 60])=(shI (shD z.4 z.5 15 (List.length z.6) ch nh 16 (List.length z.7) cv nv) z.1 (Sh.s z) (stX (Sh.w z) r) (stA r) (stD r) (evB mh ch zh) (vdB mv cv zv) [SB.cells [nU 32 zF] 60,SB.cells [nU 32 fun (j:Nat)=>bif decide (j<s0.1)then Sh.cur z j else (0:Int)] 60]))/\∀(s:RecG),bif decide ((↑s.1:Int)<(32:Int))then ∃(s_1:Qu),[aP 2 0,aI (IntKind.wrap .i64 ((↑(Qq ((Sh.s z).1 0)):Int)+(↑s.1:Int)))]=[aP 2 0,aI s_1.2]/\[stoB (Sh.s z)]=[stoB (Qu.s s_1)]/\(iR s_1.2 (72:Int))/\∀(x:Unit),True->(iR (↑s.1:Int) (32:Int))/\Int.toNat (↑s.1:Int)<32/\∃(s':RecG),((eS (aP 0 0) (aP 0 0)/\eS (aP 17 0) (aP 17 0)/\eS (aP 18 0) (aP 18 0)/\eS (aI (↑(Qq ((Sh.s z).1 0)):Int)) (aI (↑(Qq ((Sh.s z).1 0)):Int))/\eS (aI (IntKind.wrap .i64 ((↑s.1:Int)+(1:Int)))) (aI ↑s'.1)/\True)/\(shI (shD z.4 z.5 15 (List.length z.6) ch nh 16 (List.length z.7) cv nv) z.1 (Qu.s s_1) (stX (Sh.w z) r) (stA r) (stD r) (evB mh ch zh) (vdB mv cv zv) [SB.cells [nU 32 zF] 60,SB.cells [nU 32 fun (i:Nat)=>bif Nat.beq i (Int.toNat (↑s.1:Int))then (Qu.s s_1).1 (Int.toNat s_1.2)else bif decide (i<s.1)then Sh.cur z i else (0:Int)] 60])=(shI (shD z.4 z.5 15 (List.length z.6) ch nh 16 (List.length z.7) cv nv) z.1 (Sh.s z) (stX (Sh.w z) r) (stA r) (stD r) (evB mh ch zh) (vdB mv cv zv) [SB.cells [nU 32 zF] 60,SB.cells [nU 32 fun (j:Nat)=>bif decide (j<s'.1)then Sh.cur z j else (0:Int)] 60]))/\32-s'.1<32-s.1 else endN QmI [] (fun (x:SV) (M:List SB)=>shAt M 0) (ShS.mk z r mh ch nh zh mv cv nv zv,PUnit.unit) (SV.o (SA.a [nU 32 fun (j:Nat)=>bif decide (j<s.1)then Sh.cur z j else (0:Int)])) (shI (shD z.4 z.5 15 (List.length z.6) ch nh 16 (List.length z.7) cv nv) z.1 (Sh.s z) (stX (Sh.w z) r) (stA r) (stD r) (evB mh ch zh) (vdB mv cv zv) [SB.cells [nU 32 fun (j:Nat)=>bif decide (j<s.1)then Sh.cur z j else (0:Int)] 60,SB.cells [nU 32 fun (j:Nat)=>bif decide (j<s.1)then Sh.cur z j else (0:Int)] 60])) (by kernel_rfl) ?_
 have h0:(⟨z,r,mh,ch,nh,zh,mv,cv,nv,zv⟩:ShS).good:=h0
 have h1:0<=z.s.now 0:=h1
 have h2:z.s.now 0<1000000000:=h2
 refine⟨⟨z.s,0⟩,rfl,rfl,⟨(by decide:(0:Int)<=0),(by decide:(0:Int)<72)⟩,fun _ _=>?_⟩
 have eb:IntKind.wrap .i64 (IntKind.wrap .i64 (1+IntKind.wrap .i64 (Int.tdiv (IntKind.wrap .i64 (Int.tmod (IntKind.wrap .i64 (z.s.now (Int.toNat 0))) 2*32)) 8))*8)=((Qq (z.s.now 0):Nat):Int):=by
  rw[show Int.toNat 0=0 from rfl,QC (x:=z.s.now 0) (by omega) (by omega)]
  unfold Qq
  rw[Int.tmod_eq_emod_of_nonneg h1]
  rcases (show z.s.now 0%2=0\/z.s.now 0%2=1 by omega)with h|h<;>(rw[h];rfl)
 have hb:=QdR (z.s.now 0)
 refine⟨by decide,by decide,⟨⟨0,by decide⟩,⟨rfl,rfl,rfl,svI eb,rfl,trivial⟩,?_⟩,?_⟩
 · have:recF z 0=fun _=>0:=funext fun j=>by unfold recF;rw[decide_eq_false (Nat.not_lt_zero _)];rfl
   exact (congrArg (fun f=>shM ⟨z,r,mh,ch,nh,zh,mv,cv,nv,zv⟩++[SB.cells [.ints (.int .u64) 32 (fun _=>0)] 60,SB.cells [.ints (.int .u64) 32 f] 60]) this.symm)
 · rintro⟨i,hi⟩
   dsimp only at hi ⊢
   refine Qo (fun hlt=>?_) (fun hge=>?_)
   · have ea:IntKind.wrap .i64 (((Qq (z.s.now 0):Nat):Int)+(i:Int))=((Qq (z.s.now 0)+i:Nat):Int):=by rw[QC (by omega) (by omega)];omega
     rw[ea]
     refine⟨⟨z.s,((Qq (z.s.now 0)+i:Nat):Int)⟩,rfl,rfl,⟨(by omega:(0:Int)<=((Qq (z.s.now 0)+i:Nat):Int)),(by omega:((Qq (z.s.now 0)+i:Nat):Int)<72)⟩,fun _ _=>⟨⟨by omega,by omega⟩,by omega,⟨i+1,by omega⟩,⟨⟨rfl,rfl,rfl,rfl,svI (sucI (by omega)),trivial⟩,?_⟩,by dsimp only;omega⟩⟩
     have:(fun j=>bif Nat.beq j i then z.s.now (((Qq (z.s.now 0)+i:Nat):Int)).toNat else recF z i j)=recF z (i+1):=funext fun j=>by
      unfold recF Sh.cur
      by_cases e:j=i
      · subst e;rw[Nat.beq_refl,decide_eq_true (show j<j+1 by omega),Int.toNat_natCast];rfl
      · rw[show Nat.beq j i=false from nbeqF e,show decide (j<i+1)=decide (j<i)from decide_eq_decide.2 (by omega)];rfl
     exact (congrArg (fun f=>shM ⟨z,r,mh,ch,nh,zh,mv,cv,nv,zv⟩++[SB.cells [.ints (.int .u64) 32 (fun _=>0)] 60,SB.cells [.ints (.int .u64) 32 f] 60]) this)
   · obtain rfl:i=32:=by omega
     exact Qi rfl ⟨⟨z,r,mh,ch,nh,zh,mv,cv,nv,zv⟩,()⟩ ⟨h0,rfl,trivial⟩ rfl rfl rfl
structure RwR where
 m:Nat
 c:Nat
 nn:Bool
 z:Nat->Nat->Int
def ddsC:TCon Sh Unit RwR where
 pre z _:=z.deeds.length<=1000000000
 args _:=[]
 ok z _ r:=(z.deeds.length<=r.m/\r.m<=r.c)/\IsR 6 Dd.at Dd.nil r.z (z.deeds.map Vd.d)
 next z _ _:=z
 val n z _ r:=.o (.c (.so n 0 6 z.deeds.length r.c r.nn))
 new _ _ _ r:=[wkD r.m r.c r.z]
 len:=1
abbrev QmK:MCon:=ddsC.low shM ShS.z ShS.good 17 7 Qci
structure DdsG (z:Sh) where
 i:Nat
 ln:Nat
 r:RwR
 hi:i<=z.deeds.length
 hl:i=ln
 h1:i<=r.m
 h2:r.m<=r.c
 h:IsR 6 Dd.at Dd.nil r.z ((z.deeds.take i).map Vd.d)
abbrev nzDd (t:Nat):NZ:=.tmp t 65 6 [.int .i64,.int .i64,.int .i64,.int .i64,.int .i64,.int .i64]
def Qo5 (s:ShS):Ann where
 σ:=DdsG s.z
 I g:=([(0,.o (.c (.p 0 0))),(3,.o (.c (.so 17 0 6 g.ln g.r.c g.r.nn))),(9,.o (.c (.so 16 0 7 s.z.deeds.length s.cv s.nv))),(10,sv (.int .i64 s.z.deeds.length)),(11,sv (.int .i64 g.i))],shM s++[wkD g.r.m g.r.c g.r.z])
 dec g:=s.z.deeds.length-g.i
 pi env M:=shAt M 0++[blkE env 3]
 nz:=[nzDd 3]
theorem QpP:(Con.mem QmK).holds Tryz.prog 27:=by
 intro w0 S
 refine Qa (Γ:=[]) (fun _=>noW) Tryz.func27 rfl (by kernel_rfl) Qf Qc (fun w S' _ _=>.nil _ _ _) QmK (fun s=>[(27,[(0,Qo5 s.1)])]) (fun x0 h=>by cases h) (fun s ρ w _ _ _=>Qh w _) [] (fun x M=>shAt M 0++(match x with
  |.o (.c (.so b _ _ _ _ _))=>[b]
  |_=>[])) 600 ?_
 rintro⟨⟨z,r,mh,ch,nh,zh,mv,cv,nv,zv⟩,⟨⟩⟩ W ⟨h0,h1⟩ -
 refine⟨rfl,?_⟩
 dsimp only
 refine Qj (q:=List.length z.7<=cv/\(∃(s0:Ann.σ (Qo5 (ShS.mk z r mh ch nh zh mv cv nv zv))),(eS (aP 0 0) (aP 0 0)/\eS (SA.c (.so 17 0 6 0 0 false)) (SA.c (.so 17 0 6 s0.2 (DdsG.r s0).2 (DdsG.r s0).3))/\eS (SA.c (.so 16 0 7 (List.length z.7) cv nv)) (SA.c (.so 16 0 7 (List.length z.7) cv nv))/\eS (aI (↑(List.length z.7):Int)) (aI (↑(List.length z.7):Int))/\eS (aI 0) (aI ↑s0.1)/\True)/\(shI (shD z.4 z.5 15 (List.length z.6) ch nh 16 (List.length z.7) cv nv) z.1 (Sh.s z) (stX (Sh.w z) r) (stA r) (stD r) (evB mh ch zh) (vdB mv cv zv) [wd0])=(shI (shD z.4 z.5 15 (List.length z.6) ch nh 16 (List.length z.7) cv nv) z.1 (Sh.s z) (stX (Sh.w z) r) (stA r) (stD r) (evB mh ch zh) (vdB mv cv zv) [wkD (DdsG.r s0).1 (DdsG.r s0).2 (DdsG.r s0).4]))/\∀(s:DdsG z),bif decide ((↑s.1:Int)<(↑(List.length z.7):Int))then ((0:Int)<=(↑s.1:Int)/\(↑s.1:Int)<(↑(List.length z.7):Int)/\0+List.length z.7<=cv)/\0+Int.toNat (↑s.1:Int)<mv/\((s.2<=(DdsG.r s).1/\(DdsG.r s).2=(DdsG.r s).2)/\(1<=1/\1=1)/\s.2+1<=68719476736)/\∀(c:Nat),s.2+1<=c->∃(s':DdsG z),((eS (aP 0 0) (aP 0 0)/\eS (SA.c (.so 20 0 6 (s.2+1) c (DdsG.r s).3)) (SA.c (.so 20 0 6 s'.2 (DdsG.r s').2 (DdsG.r s').3))/\eS (SA.c (.so 16 0 7 (List.length z.7) cv nv)) (SA.c (.so 16 0 7 (List.length z.7) cv nv))/\eS (aI (↑(List.length z.7):Int)) (aI (↑(List.length z.7):Int))/\eS (aI (IntKind.wrap .i64 ((↑s.1:Int)+(1:Int)))) (aI ↑s'.1)/\True)/\(shI (shD z.4 z.5 15 (List.length z.6) ch nh 16 (List.length z.7) cv nv) z.1 (Sh.s z) (stX (Sh.w z) r) (stA r) (stD r) (evB mh ch zh) (vdB mv cv zv) [wkD (s.2+1) c fun (i j:Nat)=>bif Nat.ble (i+1) s.2 then (DdsG.r s).4 i j else match List.get?Internal (match List.get?Internal [[zv (0+Int.toNat (↑s.1:Int)) 1,zv (0+Int.toNat (↑s.1:Int)) 2,zv (0+Int.toNat (↑s.1:Int)) 3,zv (0+Int.toNat (↑s.1:Int)) 4,zv (0+Int.toNat (↑s.1:Int)) 5,zv (0+Int.toNat (↑s.1:Int)) 6]] (0+(i-s.2))with|some x=>x|none=>[]) j with|some x=>x|none=>(0:Int)])=(shI (shD z.4 z.5 15 (List.length z.6) ch nh 16 (List.length z.7) cv nv) z.1 (Sh.s z) (stX (Sh.w z) r) (stA r) (stD r) (evB mh ch zh) (vdB mv cv zv) [wkD (DdsG.r s').1 (DdsG.r s').2 (DdsG.r s').4]))/\List.length z.7-s'.1<List.length z.7-s.1 else endN QmK [] (fun (x:SV) (M:List SB)=>shAt M 0++match x with|SV.o (SA.c (.so b lo sz n c nn))=>[b]|x=>[]) (ShS.mk z r mh ch nh zh mv cv nv zv,PUnit.unit) (SV.o (SA.c (.so 17 0 6 s.2 (DdsG.r s).2 (DdsG.r s).3))) (shI (shD z.4 z.5 15 (List.length z.6) ch nh 16 (List.length z.7) cv nv) z.1 (Sh.s z) (stX (Sh.w z) r) (stA r) (stD r) (evB mh ch zh) (vdB mv cv zv) [wkD (DdsG.r s).1 (DdsG.r s).2 (DdsG.r s).4])) (by kernel_rfl) ?_
 have h0:(⟨z,r,mh,ch,nh,zh,mv,cv,nv,zv⟩:ShS).good:=h0
 have h1:z.deeds.length<=1000000000:=h1
 have hv1:=h0.v1
 have hv2:=h0.v2
 have hzv:=h0.v
 dsimp only at hv1 hv2 hzv
 refine⟨by omega,⟨⟨0,0,⟨0,0,false,fun _ _=>0⟩,Nat.zero_le _,rfl,Nat.le_refl _,Nat.le_refl _,fun i hi=>absurd hi (Nat.not_lt_zero _)⟩,⟨rfl,rfl,rfl,rfl,rfl,trivial⟩,rfl⟩,?_⟩
 rintro⟨i,ln,⟨m,c,nn,zz⟩,hi,hl,g1,g2,gz⟩
 dsimp only at hi hl g1 g2 gz ⊢
 subst hl
 refine Qo (fun hlt=>?_) (fun hge=>?_)
 · have hlt':i<z.deeds.length:=by omega
   have hx:(z.deeds.take (i+1)).map Vd.d=(z.deeds.take i).map Vd.d++[(z.deeds.getD i Vd.nil).d]:=by
    rw[List.take_add_one,List.getElem?_eq_getElem hlt',Option.toList_some,List.map_append,List.getD_eq_getElem?_getD,List.getElem?_eq_getElem hlt'];rfl
   have hlen:((z.deeds.take i).map Vd.d).length=i:=by rw[List.length_map,List.length_take];omega
   refine⟨⟨by omega,by omega,by omega⟩,by omega,⟨⟨g1,rfl⟩,⟨Nat.le_refl _,rfl⟩,by omega⟩,fun c' hc'=>⟨⟨i+1,i+1,⟨i+1,c',nn,_⟩,hlt',rfl,Nat.le_refl _,hc',?_⟩,⟨⟨rfl,rfl,rfl,rfl,svI (sucI (by omega)),trivial⟩,rfl⟩,by dsimp only;omega⟩⟩
   rw[hx]
   refine gz.snoc (fun j hj k _=>catT (by omega)) (fun j hj=>?_)
   rw[hlen]
   refine catF.trans ?_
   rw[Nat.sub_self,Int.toNat_natCast,Nat.zero_add]
   have hq:=hzv i hlt'
   match j,hj with
   |0,_=>exact hq 1 (by decide)
   |1,_=>exact hq 2 (by decide)
   |2,_=>exact hq 3 (by decide)
   |3,_=>exact hq 4 (by decide)
   |4,_=>exact hq 5 (by decide)
   |5,_=>exact hq 6 (by decide)
 · obtain rfl:i=z.deeds.length:=by omega
   rw[List.take_length]at gz
   exact Qi rfl ⟨⟨z,r,mh,ch,nh,zh,mv,cv,nv,zv⟩,⟨m,c,nn,zz⟩⟩ ⟨h0,rfl,⟨g1,g2⟩,gz⟩ rfl rfl rfl
def hisC:TCon Sh Unit RwR where
 pre z _:=z.hist.length<=1000000000
 args _:=[]
 ok z _ r:=(z.hist.length<=r.m/\r.m<=r.c)/\IsE r.z z.hist
 next z _ _:=z
 val n z _ r:=.o (.c (.so n 0 9 z.hist.length r.c r.nn))
 new _ _ _ r:=[evB r.m r.c r.z]
 len:=1
abbrev QmJ:MCon:=hisC.low shM ShS.z ShS.good 17 7 Qci
theorem QpI:(Con.mem QmJ).holds Tryz.prog 19:=by
 intro w0 S
 refine Qa (Γ:=[]) (fun _=>noW) Tryz.func19 rfl (by kernel_rfl) Qf Qc (fun w S' _ _=>.nil _ _ _) QmJ (fun s=>[]) (fun x0 h=>by cases h) (fun s ρ w _ _ _=>Qh w _) [] (fun x M=>shAt M 0++(match x with
  |.o (.c (.so b _ _ _ _ _))=>[b]
  |_=>[])) 600 ?_
 rintro⟨⟨z,r,mh,ch,nh,zh,mv,cv,nv,zv⟩,⟨⟩⟩ W ⟨h0,h1⟩ -
 refine⟨rfl,?_⟩
 refine Qj (q:=(True/\(0+List.length z.6<=mh/\ch=ch)/\0+List.length z.6<=68719476736)/\∀(c:Nat),0+List.length z.6<=c->endN QmJ [] (fun (x:SV) (M:List SB)=>shAt M 0++match x with|SV.o (SA.c (.so b lo sz n c nn))=>[b]|x=>[]) (ShS.mk z r mh ch nh zh mv cv nv zv,PUnit.unit) (SV.o (SA.c (.so 17 0 9 (0+List.length z.6) c false))) (shI (shD z.4 z.5 15 (List.length z.6) ch nh 16 (List.length z.7) cv nv) z.1 (Sh.s z) (stX (Sh.w z) r) (stA r) (stD r) (evB mh ch zh) (vdB mv cv zv) [evB (0+List.length z.6) c fun (i j:Nat)=>zh (0+i) j])) (by kernel_rfl) ?_
 have h0:(⟨z,r,mh,ch,nh,zh,mv,cv,nv,zv⟩:ShS).good:=h0
 have h1:z.hist.length<=1000000000:=h1
 have hh1:=h0.h1
 have hh2:=h0.h2
 have hzh:=h0.h
 dsimp only at hh1 hh2 hzh
 refine⟨⟨trivial,⟨by omega,rfl⟩,by omega⟩,fun c hc=>?_⟩
 rw[Nat.zero_add]at hc ⊢
 refine Qi rfl ⟨⟨z,r,mh,ch,nh,zh,mv,cv,nv,zv⟩,⟨z.hist.length,c,false,_⟩⟩ ⟨h0,rfl,⟨Nat.le_refl _,hc⟩,hzh.sub (fun j hj k _=>?_)⟩ rfl rfl rfl
 show zh (0+j) k=zh j k
 rw[Nat.zero_add]
def oneC (t:Nat):TCon Sh Unit Unit where
 pre z _:=True
 args _:=[.c (.v (.int .i64 t))]
 ok _ _ _:=True
 next z _ _:=z
 val n z _ _:=.t [.c (.p (bif n.beq 17 then 3+t else 0) 0),.c (.v .nilIface)]
 new _ _ _ _:=[]
 len:=0
abbrev QdJ (t:Nat):MCon:=(oneC t).low shM ShS.z ShS.good 17 7 Qci
def Qeo (n0:Nat) (n1:Nat) (z:Sh) (r:Nat->WkR) (mh:Nat) (ch:Nat) (nh:Bool) (zh:Nat->Nat->Int) (mv:Nat) (cv:Nat) (nv:Bool) (zv:Nat->Nat->Int):Prop:=(iR (n0:Int) (4:Int))/\endN (QdJ n0) [] (fun (x:SV) (M:List SB)=>shAt M 0) (ShS.mk z r mh ch nh zh mv cv nv zv,PUnit.unit) (SV.t [aP n1 0,SA.c (.v Value.nilIface)]) (shI (shD z.4 z.5 15 (List.length z.6) ch nh 16 (List.length z.7) cv nv) z.1 (Sh.s z) (stX (Sh.w z) r) (stA r) (stD r) (evB mh ch zh) (vdB mv cv zv) [])
theorem Qi7:(Con.mem (QdJ 0)).holds Tryz.prog 46:=by
 intro w0 S
 refine Qa (Γ:=[]) (fun _=>noW) Tryz.func46 rfl (by kernel_rfl) Qf Qc (fun w S' _ _=>.nil _ _ _) (QdJ 0) (fun _=>[]) (fun x0 h=>by cases h) (fun s ρ w _ _ _=>Qh w _) [] (fun _ M=>shAt M 0) 600 ?_
 rintro⟨⟨z,r,mh,ch,nh,zh,mv,cv,nv,zv⟩,⟨⟩⟩ W ⟨h0,-⟩ -
 refine⟨rfl,?_⟩
 refine Qj (q:=Qeo 0 3 z r mh ch nh zh mv cv nv zv) (by kernel_rfl) ?_
 unfold Qeo
 have h0:(⟨z,r,mh,ch,nh,zh,mv,cv,nv,zv⟩:ShS).good:=h0
 exact⟨⟨by decide,by decide⟩,Qi rfl ⟨⟨z,r,mh,ch,nh,zh,mv,cv,nv,zv⟩,()⟩ ⟨h0,rfl,trivial⟩ rfl rfl rfl⟩
theorem QnK:(Con.mem (QdJ 1)).holds Tryz.prog 46:=by
 intro w0 S
 refine Qa (Γ:=[]) (fun _=>noW) Tryz.func46 rfl (by kernel_rfl) Qf Qc (fun w S' _ _=>.nil _ _ _) (QdJ 1) (fun _=>[]) (fun x0 h=>by cases h) (fun s ρ w _ _ _=>Qh w _) [] (fun _ M=>shAt M 0) 600 ?_
 rintro⟨⟨z,r,mh,ch,nh,zh,mv,cv,nv,zv⟩,⟨⟩⟩ W ⟨h0,-⟩ -
 refine⟨rfl,?_⟩
 refine Qj (q:=Qeo 1 4 z r mh ch nh zh mv cv nv zv) (by kernel_rfl) ?_
 unfold Qeo
 have h0:(⟨z,r,mh,ch,nh,zh,mv,cv,nv,zv⟩:ShS).good:=h0
 exact⟨⟨by decide,by decide⟩,Qi rfl ⟨⟨z,r,mh,ch,nh,zh,mv,cv,nv,zv⟩,()⟩ ⟨h0,rfl,trivial⟩ rfl rfl rfl⟩
theorem QnJ:(Con.mem (QdJ 2)).holds Tryz.prog 46:=by
 intro w0 S
 refine Qa (Γ:=[]) (fun _=>noW) Tryz.func46 rfl (by kernel_rfl) Qf Qc (fun w S' _ _=>.nil _ _ _) (QdJ 2) (fun _=>[]) (fun x0 h=>by cases h) (fun s ρ w _ _ _=>Qh w _) [] (fun _ M=>shAt M 0) 600 ?_
 rintro⟨⟨z,r,mh,ch,nh,zh,mv,cv,nv,zv⟩,⟨⟩⟩ W ⟨h0,-⟩ -
 refine⟨rfl,?_⟩
 refine Qj (q:=Qeo 2 5 z r mh ch nh zh mv cv nv zv) (by kernel_rfl) ?_
 unfold Qeo
 have h0:(⟨z,r,mh,ch,nh,zh,mv,cv,nv,zv⟩:ShS).good:=h0
 exact⟨⟨by decide,by decide⟩,Qi rfl ⟨⟨z,r,mh,ch,nh,zh,mv,cv,nv,zv⟩,()⟩ ⟨h0,rfl,trivial⟩ rfl rfl rfl⟩
theorem QnI:(Con.mem (QdJ 3)).holds Tryz.prog 46:=by
 intro w0 S
 refine Qa (Γ:=[]) (fun _=>noW) Tryz.func46 rfl (by kernel_rfl) Qf Qc (fun w S' _ _=>.nil _ _ _) (QdJ 3) (fun _=>[]) (fun x0 h=>by cases h) (fun s ρ w _ _ _=>Qh w _) [] (fun _ M=>shAt M 0) 600 ?_
 rintro⟨⟨z,r,mh,ch,nh,zh,mv,cv,nv,zv⟩,⟨⟩⟩ W ⟨h0,-⟩ -
 refine⟨rfl,?_⟩
 refine Qj (q:=Qeo 3 6 z r mh ch nh zh mv cv nv zv) (by kernel_rfl) ?_
 unfold Qeo
 have h0:(⟨z,r,mh,ch,nh,zh,mv,cv,nv,zv⟩:ShS).good:=h0
 exact⟨⟨by decide,by decide⟩,Qi rfl ⟨⟨z,r,mh,ch,nh,zh,mv,cv,nv,zv⟩,()⟩ ⟨h0,rfl,trivial⟩ rfl rfl rfl⟩
theorem Qpx (v:Value) (a:Int) (h:a<0\/4<=a) (w:World):Calls Tryz.prog 46 #[v,.int .i64 a] w fun e w'=>e=.returned (.tuple #[.pointer none,.iface 97 (.int .i64 2)])/\w=w':=by
 rcases h with h|h
 · have h1:decide (a<0)=true:=decide_eq_true h
   go_enter Tryz.func46,Tryz.ntmps46
   go_wp2
   go_ret2
   exact⟨rfl,rfl⟩
 · have h1:decide (a<0)=false:=decide_eq_false (by omega)
   have h2:decide (a>=4)=true:=decide_eq_true h
   go_enter Tryz.func46,Tryz.ntmps46
   go_wp2
   go_ret2
   exact⟨rfl,rfl⟩
def QgZ:PCon:=⟨fun args=>match args with
 |[.c _,.c (.v (.int .i64 a))]=>a<0\/4<=a
 |_=>False,fun args=>.t [.c (.v (.pointer none)),.c (.v (.iface 97 (.int .i64 2)))],fun _=>none⟩
theorem Qi6:(Con.pure QgZ).holds Tryz.prog 46:=by
 intro w0 S
 refine⟨by kernel_rfl,fun ρ args w hp hK=>?_⟩
 unfold QgZ at hp;dsimp only at hp;split at hp
 case h_2=>exact hp.elim
 rename_i x a
 refine (Qpx (x.den ρ) a hp w).mono ?_
 rintro e w' ⟨rfl,rfl⟩
 exact⟨rfl,Below.refl _ _⟩
def calX:TCon Sh (Int × OpA) Unit where
 pre z a:=a.1<0\/4<=a.1
 args a:=[.c (.v (.int .i64 a.1)),.a [.one (.v (.int .i64 a.2.k)),.one (.v (.int .i64 a.2.key)),.one (.v (.int .i64 a.2.x))]]
 ok _ _ _:=True
 next z _ _:=z
 val n z _ _:=.o (.c (.v (.iface 97 (.int .i64 2))))
 new _ _ _ _:=[]
 len:=0
abbrev QiE:MCon:=calX.low shM ShS.z ShS.good 17 7 Qci
theorem Qoy:(Con.mem QiE).holds Tryz.prog 23:=by
 intro w0 S
 refine Qa (Γ:=[(46,.pure QgZ)]) (fun _=>noW) Tryz.func23 rfl (by kernel_rfl) Qf Qc (fun w S' _ _=>.cons (Qi6 w _) (.nil _ _ _)) QiE (fun _=>[]) (fun x0 h=>by cases h) (fun s ρ w _ _ _=>Qh w _) [] (fun _ M=>shAt M 0) 600 ?_
 rintro⟨⟨z,r,mh,ch,nh,zh,mv,cv,nv,zv⟩,a,k,key,x⟩ W ⟨h0,h1⟩ -
 refine⟨rfl,?_⟩
 refine Qj (q:=(a<(0:Int)\/(4:Int)<=a)/\endN QiE [] (fun (x:SV) (M:List SB)=>shAt M 0) (ShS.mk z r mh ch nh zh mv cv nv zv,a,OpA.mk k key x) (SV.o (SA.c (.v (.iface 97 (Value.int .i64 (2:Int)))))) (shI (shD z.4 z.5 15 (List.length z.6) ch nh 16 (List.length z.7) cv nv) z.1 (Sh.s z) (stX (Sh.w z) r) (stA r) (stD r) (evB mh ch zh) (vdB mv cv zv) [SB.cells [sI k,sI key,sI x] 31])) (by kernel_rfl) ?_
 have h0:(⟨z,r,mh,ch,nh,zh,mv,cv,nv,zv⟩:ShS).good:=h0
 exact⟨h1,Qi rfl ⟨⟨z,r,mh,ch,nh,zh,mv,cv,nv,zv⟩,()⟩ ⟨h0,rfl,trivial⟩ rfl rfl rfl⟩
def TCon.Does {X Y α χ:Type}(c:TCon Y α χ) (L:X->List SB) (y:X->Y) (good:X->Prop) (P:Program) (w0:World) (S:Nat->Prop) (f:FuncId) (a:α):Prop:=
 ∀(ρ:Nat->Nat) (z:Y) (F:List Nat) (w:World),c.pre z a->Kept S w0 w->Mem w (feet (denM ρ 0 [.abs (Qr L y good z) F])) (denM ρ 0 [.abs (Qr L y good z) F]) w ->
  Calls P f ((SA.c (.p 0 0)::c.args a).map (SA.den ρ)).toArray w fun e w'=>∃(x:List Nat × χ) (ρ':Nat->Nat),c.ok z a x.2/\(∀i,i<1->ρ' i=ρ i)/\(SB.abs (Qr L y good (c.next z a x.2)) x.1::c.new 1 z a x.2).length=1+c.len/\e=.returned ((c.val 1 z a x.2).den ρ') /\
   Mem w (feet (denM ρ 0 [.abs (Qr L y good z) F])) (denM ρ' 0 (.abs (Qr L y good (c.next z a x.2)) x.1::c.new 1 z a x.2)) w'
theorem TCon.high_of {X Y α χ:Type}{c:TCon Y α χ}{L:X->List SB}{y:X->Y}{good:X->Prop}{P:Program}{f:FuncId}{w0:World}{S:Nat->Prop}(he:Qbk P f=true) (h:∀a,c.Does L y good P w0 S f a):(Con.mem (c.high L y good)).holdsAt P w0 S f:=
 ⟨he,fun x0 h=>(by cases h),fun ρ s w hp hK HM=>h s.2.1 ρ s.1 s.2.2 w hp hK HM⟩
theorem TCon.does_of {X Y α χ α' χ':Type}(c:TCon Y α χ) (c':TCon Y α' χ') {L:X->List SB}{y:X->Y}{good:X->Prop}{n k:Nat}{find:List SA->List SB->Option (List Nat)}{P:Program}{f:FuncId}{w0:World}{S:Nat->Prop}
 (h:(Con.mem (c.low L y good n k find)).holdsAt P w0 S f) (hk:0<k) (hn:∀x,good x->(L x).length=n) (a:α) (a':α') (harg:c'.args a'=c.args a) (ha:QaH (sc 1) (c.args a)=true) (hpre:∀z,c'.pre z a'->c.pre z a)
 (hv:∀z r,c'.pre (y z) a'->c.ok (y z) a r->∀ρ ρ':Nat->Nat,(∀i,ρ' (1+i)=ρ (n+i))->ρ' 0=ρ 0->∃r',c'.ok (y z) a' r'/\c'.next (y z) a' r'=c.next (y z) a r/\(c'.val 1 (y z) a' r').den ρ'=(c.val n (y z) a r).den ρ/\denM ρ' 1 (c'.new 1 (y z) a' r')=denM ρ n (c.new n (y z) a r)/\(c'.new 1 (y z) a' r').length=c'.len):c'.Does L y good P w0 S f a':=by
 intro ρ z F w hp hK HM
 have hA:=HM.holds (.abs (ρ 0) (Qr L y good z) F) (List.mem_singleton.2 rfl)
 obtain⟨x,ρ1,rfl,hg,hρ,HM1,hF⟩:=hA
 have harg2:(SA.c (.p 0 0)::c'.args a').map (SA.den ρ)=(SA.c (.p 0 0)::c.args a).map (SA.den ρ1):=by
  rw[harg]
  refine List.map_congr_left fun v hv=>?_
  have hav:v.av (sc 1)=true:=by
   rcases List.mem_cons.1 hv with rfl|hv
   · rfl
   · exact Qbc ha v hv
  exact SA.av_den (fun i hi=>by have:=Xs hi;obtain rfl:i=0:=(by omega);exact hρ.symm) hav
 have hfe:∀g,feet (denM ρ 0 [.abs (Qr L y good (y x)) F]) g↔feet (denM ρ1 0 (L x)) g:=fun g=>by
  rw[hF g]
  exact⟨fun ⟨e,he,hf⟩=>by obtain rfl:=List.mem_singleton.1 he;exact hf,fun hg=>⟨_,List.mem_singleton.2 rfl,hg⟩⟩
 have:=h.2.2 ρ1 (x,a) w ⟨hg,hpre _ hp⟩ hK HM1
 rw[harg2]
 refine this.mono ?_
 rintro e w' ⟨⟨x',r⟩,ρ',⟨hg',hy',hok⟩,hag,hlen,rfl,HM'⟩
 have HM':Mem w (feet (denM ρ1 0 (L x))) (denM ρ' 0 (L x'++c.new n (y x) a r)) w':=HM'
 have hl':=hn x' hg'
 rw[QeT,hl',Nat.zero_add]at HM'
 obtain⟨r',hok',hnext,hv1,hv2,hv4⟩:=hv x r hp hok ρ' (fun i=>if i=0 then ρ' 0 else ρ' (n+(i-1))) (fun i=>by rw[if_neg (by omega),show 1+i-1=i by omega]) rfl
 refine⟨(feetL (denM ρ' 0 (L x')),r'),fun i=>if i=0 then ρ' 0 else ρ' (n+(i-1)),hok',fun i hi=>?_,?_,?_,?_⟩
 · obtain rfl:i=0:=by omega
   show (if 0=0 then ρ' 0 else ρ' (n+(0-1)))=ρ 0
   rw[if_pos rfl,hag 0 hk];exact hρ
 · show (c'.new 1 (y x) a' r').length+1=1+c'.len
   omega
 · show Ending.returned ((c.val n (y x) a r).den ρ')=Ending.returned ((c'.val 1 (y x) a' r').den (fun i=>if i=0 then ρ' 0 else ρ' (n+(i-1))))
   rw[hv1]
 · show Mem w _ ([En.abs (if 0=0 then ρ' 0 else ρ' (n+(0-1))) (Qr L y good (c'.next (y x) a' r')) (feetL (denM ρ' 0 (L x')))]++denM _ 1 (c'.new 1 (y x) a' r')) w'
   rw[if_pos rfl,hv2,hnext]
   have hd:=List.pairwise_append.1 HM'.dist
   refine (Mem.subset (S:=feet (denM ρ1 0 (L x))) ⟨HM'.kept,fun e he=>?_,fun e he g hg=>?_,List.pairwise_append.2 ⟨List.pairwise_singleton _ _,hd.2.1,fun e he f hf g hg hfg=>?_⟩⟩ (fun g hg=>(hfe g).2 hg))
   · rcases List.mem_append.1 he with he|he
     · obtain rfl:=List.mem_singleton.1 he
       exact⟨x',ρ',hy',hg',rfl,⟨Kept.refl _ _,fun e he=>HM'.holds e (List.mem_append_left _ he),fun e he g hg=>.inl ⟨e,he,hg⟩,hd.1⟩,fun g=>(feetL_iff _ g).symm⟩
     · exact HM'.holds e (List.mem_append_right _ he)
   · rcases List.mem_append.1 he with he|he
     · obtain rfl:=List.mem_singleton.1 he
       obtain⟨e',he',hf'⟩:=(feetL_iff _ g).1 hg
       exact HM'.own e' (List.mem_append_left _ he') g hf'
     · exact HM'.own e (List.mem_append_right _ he) g hg
   · obtain rfl:=List.mem_singleton.1 he
     obtain⟨e',he',hf'⟩:=(feetL_iff _ g).1 hg
     exact hd.2.2 e' he' f hf g hf' hfg
end
section
section
variable {z z':Sh}{g:Gh}{of:List Nat}
end
end
section
section
variable {K:Int}{z:Sh}{g:Gh}{of:List Nat}{t:Nat}
end
end
section
section
variable {K:Int}{z:Sh}{g:Gh}{of:List Nat}{t:Nat}
theorem QfU (z:Sh) (t:Nat):z.steps<=(z.step t).steps/\(z.step t).steps<=z.steps+1:=by
 unfold Sh.step
 split
 · omega
 · unfold Sh.stepped
   dsimp only
   split<;>split<;>(show z.steps<=z.steps+1/\z.steps+1<=z.steps+1;omega)
theorem Qdn (t:Nat):∀(n:Nat) (z:Sh),z.steps<=(z.run t n).steps/\(z.run t n).steps<=z.steps+n
 |0,z=>by show z.steps<=z.steps/\z.steps<=z.steps+((0:Nat):Int);omega
 |n+1,z=>by
  have h1:=QfU z t
  have h2:=Qdn t n (z.step t)
  show z.steps<=((z.step t).run t n).steps/\((z.step t).run t n).steps<=z.steps+((n+1:Nat):Int)
  omega
end
end
section
structure SoC where
 ms:Nat->Int
 mo:Nat->Int
 W:Nat->Wk
 tog:Nat->Int
 hist:List Ev
 deeds:List Vd
 R:Rec
 V:Int
def askB (R:Rec) (ms:Nat->Int) (u:Nat):Bool:=decide (ms u≠0/\ms u-1≠Qn R.tog u)
def askN (R:Rec) (ms:Nat->Int) (i:Nat):Nat->Nat
 |0=>0
 |n+1=>(bif askB R ms i then 2 else 1)+askN R ms (i+1) n
def left (c:SoC) (w:Wk):Nat:=
 if w.does=3 then 77+askN c.R c.ms 0 4 else if w.does=4 then 76+askN c.R c.ms 0 4
 else if w.does=5 then 43+(32-w.i.toNat)+askN c.R c.ms 0 4 else if w.does=6 then 43+askN c.R c.ms w.i.toNat (4-w.i.toNat)
 else if w.does=7 then 44+askN c.R c.ms (w.i.toNat+1) (3-w.i.toNat)else if w.does=8 then 11+(32-w.i.toNat)
 else if w.does=9 then 7+(4-w.i.toNat)else (17-w.does).toNat
section
variable {K:Int}{z:Sh}{g:Gh}{t:Nat}{c:SoC}
theorem QiX (t:Nat):∀(n:Nat) {z:Sh},(z.w t).does=0->z.run t n=z/\z.ran t n=0
 |0,z,_=>⟨rfl,rfl⟩
 |n+1,z,h=>by
  have e:z.step t=z:=if_pos h
  refine⟨?_,if_pos h⟩
  show (z.step t).run t n=z
  rw[e];exact (QiX t n h).1
theorem Qin (t:Nat):∀(n k:Nat) (z:Sh),z.run t (n+k)=(z.run t n).run t k
 |0,k,z=>by rw[Nat.zero_add];rfl
 |n+1,k,z=>by rw[Nat.add_right_comm];exact Qin t n k (z.step t)
end
end
section
def inT (a:Int):Bool:=decide (0<=a/\a<4)
def runB (n:Int):Bool:=decide (0<=n/\n<=1000)
structure Mv where
 kind:Int
 t:Int
 k:Int
 key:Int
 x:Int
 n:Int
 l:Int
def Sh.runA (z:Sh) (t n:Int):Sh:=bif inT t then z.run t.toNat (bif runB n then n.toNat else 0)else z
def Sh.callA (z:Sh) (t k key x:Int):Sh:=bif inT t then z.call t.toNat k key x else z
def Sh.move (z:Sh) (m:Mv):Sh:=
 if m.kind=1 then z.callA m.t m.k m.key m.x else if m.kind=2 then z.runA m.t m.n else if m.kind=3 then z.evict m.n else if m.kind=4 then z.crash m.l else z
def QW (K:Int) (l:List Mv):Sh:=l.foldl Sh.move (Sh.new K)
theorem Qd7 (K:Int) (l:List Mv) (m:Mv):QW K (l++[m])=(QW K l).move m:=by unfold QW;rw[List.foldl_append];rfl
theorem QgH {a:Int}(h:inT a=true):0<=a/\a<4/\a.toNat<4:=by
 have:=of_decide_eq_true h
 omega
theorem Qgf (z:Sh) (t:Nat) (k key x:Int):z.steps<=(z.call t k key x).steps/\(z.call t k key x).steps<=z.steps+1:=by
 unfold Sh.call
 split
 · show z.steps<=z.steps+1/\z.steps+1<=z.steps+1;omega
 · omega
theorem Qj3 (z:Sh) (m:Mv):z.steps<=(z.move m).steps/\(z.move m).steps<=z.steps+1000:=by
 unfold Sh.move
 split
 · unfold Sh.callA
   cases inT m.t
   · rw[cond_false];omega
   · rw[cond_true];have:=Qgf z m.t.toNat m.k m.key m.x;omega
 split
 · unfold Sh.runA
   cases inT m.t
   · rw[cond_false];omega
   · rw[cond_true]
     have:=Qdn m.t.toNat (bif runB m.n then m.n.toNat else 0) z
     cases hb:runB m.n
     · rw[hb]at this
       rw[cond_false]at this ⊢;omega
     · rw[hb]at this
       have h2:=of_decide_eq_true hb
       rw[cond_true]at this ⊢;omega
 split
 · unfold Sh.evict
   split
   · show z.steps<=z.steps/\z.steps<=z.steps+1000;omega
   · omega
 split
 · show z.steps<=z.steps+1/\z.steps+1<=z.steps+1000;omega
 · omega
section
variable {K:Int}{z:Sh}{g:Gh}
end
end
section
open Go.RowKit
abbrev TCon.sh {α χ:Type}(c:TCon Sh α χ):MCon:=c.high shM ShS.z ShS.good
theorem Xb (x:ShS):(shM x).length=17:=rfl
theorem verH:(Con.mem verC.sh).holds Tryz.prog 26:=fun w0 S=>verC.lift (Qpb w0 S) (by decide) (fun x _=>Xb x) (fun _=>rfl) (fun _ _ _ _ _ _ _ _=>⟨rfl,rfl,rfl,rfl⟩)
theorem evH:(Con.mem evC.sh).holds Tryz.prog 67:=fun w0 S=>evC.lift (ev_con w0 S) (by decide) (fun x _=>Xb x) (fun _=>rfl) (fun _ _ _ _ _ _ _ _=>⟨rfl,rfl,rfl,rfl⟩)
theorem recH:(Con.mem recC.sh).holds Tryz.prog 32:=fun w0 S=>recC.lift (Qps w0 S) (by decide) (fun x _=>Xb x) (fun _=>rfl) (fun _ _ _ _ _ _ _ _=>⟨rfl,rfl,rfl,rfl⟩)
theorem Qln {ρ ρ':Nat->Nat}{sz l c:Nat}{nn:Bool}(h:∀i,ρ' (1+i)=ρ (17+i)):(SV.o (.c (.so 1 0 sz l c nn))).den ρ'=(SV.o (.c (.so 17 0 sz l c nn))).den ρ:=by
 simp only[SV.den,SA.den,SC.den]
 rw[show ρ' 1=ρ 17 from h 0]
theorem Qhr {ρ ρ':Nat->Nat}{t:Nat}{ks:List CK}{sz m c:Nat}{z:Nat->Nat->Int}(h:∀i,ρ' (1+i)=ρ (17+i)):denM ρ' 1 [.rows t ks sz m c z]=denM ρ 17 [.rows t ks sz m c z]:=by
 simp only[denM,denB]
 rw[show ρ' 1=ρ 17 from h 0]
theorem ddsH:(Con.mem ddsC.sh).holds Tryz.prog 27:=fun w0 S=>ddsC.lift (QpP w0 S) (by decide) (fun x _=>Xb x) (fun _=>rfl) (fun _ _ _ _ _ _ h _=>⟨Qln h,Qhr h,rfl,rfl⟩)
theorem hisH:(Con.mem hisC.sh).holds Tryz.prog 19:=fun w0 S=>hisC.lift (QpI w0 S) (by decide) (fun x _=>Xb x) (fun _=>rfl) (fun _ _ _ _ _ _ h _=>⟨Qln h,Qhr h,rfl,rfl⟩)
def QiB:TCon Sh Nat Unit where
 pre z t:=t<4
 args t:=[.c (.v (.int .i64 t))]
 ok _ _ _:=True
 next z _ _:=z
 val _ z t _:=sv (.int .i64 (z.w t).does)
 new _ _ _ _:=[]
 len:=0
structure StpOK (z:Sh) (t:Nat):Prop where
 t4:t<4
 ok:stOK z t
 pre:(z.w t).does≠0->Qa8 (z.wst t)
def Qii:TCon Sh Nat Unit where
 pre z t:=StpOK z t
 args t:=[.c (.v (.int .i64 t))]
 ok _ _ _:=True
 next z t _:=z.step t
 val _ z t _:=QL z t
 new _ _ _ _:=[]
 len:=0
def oneA:TCon Sh Nat Value where
 pre z t:=t<4
 args t:=[.c (.v (.int .i64 t))]
 ok _ _ _:=True
 next z _ _:=z
 val _ z t r:=.t [.c (.v r),.c (.v .nilIface)]
 new _ _ _ _:=[]
 len:=0
theorem lt4 {t:Nat}(h:t<4):t=0\/t=1\/t=2\/t=3:=by omega
theorem Qfi {X Y α χ:Type}{c:TCon Y α χ}{L:X->List SB}{y:X->Y}{good:X->Prop}{P:Program}{w0:World}{S:Nat->Prop}{f:FuncId}{a:α}(h:∀z,¬c.pre z a):c.Does L y good P w0 S f a:=fun _ z _ _ hp _ _=>absurd hp (h z)
theorem doesH:(Con.mem QiB.sh).holds Tryz.prog 21:=fun w0 S=>TCon.high_of (QhS w0 S).1 fun t=>by
 by_cases h:t<4
 · rcases lt4 h with rfl|rfl|rfl|rfl
   · exact (Qmz 0).does_of QiB (QhS w0 S) (by decide) (fun x _=>Xb x) () 0 rfl rfl (fun _ _=>trivial) (fun _ _ _ _ _ _ _ _=>⟨(),trivial,rfl,rfl,rfl,rfl⟩)
   · exact (Qmz 1).does_of QiB (QmC w0 S) (by decide) (fun x _=>Xb x) () 1 rfl rfl (fun _ _=>trivial) (fun _ _ _ _ _ _ _ _=>⟨(),trivial,rfl,rfl,rfl,rfl⟩)
   · exact (Qmz 2).does_of QiB (QmB w0 S) (by decide) (fun x _=>Xb x) () 2 rfl rfl (fun _ _=>trivial) (fun _ _ _ _ _ _ _ _=>⟨(),trivial,rfl,rfl,rfl,rfl⟩)
   · exact (Qmz 3).does_of QiB (QmA w0 S) (by decide) (fun x _=>Xb x) () 3 rfl rfl (fun _ _=>trivial) (fun _ _ _ _ _ _ _ _=>⟨(),trivial,rfl,rfl,rfl,rfl⟩)
 · exact Qfi fun _=>h
theorem stepH:(Con.mem Qii.sh).holds Tryz.prog 30:=fun w0 S=>TCon.high_of (QiR w0 S).1 fun t=>by
 by_cases h:t<4
 · rcases lt4 h with rfl|rfl|rfl|rfl
   · exact (stC 0).does_of Qii (QiR w0 S) (by decide) (fun x _=>Xb x) () 0 rfl rfl (fun _ h=>⟨h.ok,h.pre⟩) (fun _ _ _ _ _ _ _ _=>⟨(),trivial,rfl,rfl,rfl,rfl⟩)
   · exact (stC 1).does_of Qii (Qnk w0 S) (by decide) (fun x _=>Xb x) () 1 rfl rfl (fun _ h=>⟨h.ok,h.pre⟩) (fun _ _ _ _ _ _ _ _=>⟨(),trivial,rfl,rfl,rfl,rfl⟩)
   · exact (stC 2).does_of Qii (Qnj w0 S) (by decide) (fun x _=>Xb x) () 2 rfl rfl (fun _ h=>⟨h.ok,h.pre⟩) (fun _ _ _ _ _ _ _ _=>⟨(),trivial,rfl,rfl,rfl,rfl⟩)
   · exact (stC 3).does_of Qii (Qni w0 S) (by decide) (fun x _=>Xb x) () 3 rfl rfl (fun _ h=>⟨h.ok,h.pre⟩) (fun _ _ _ _ _ _ _ _=>⟨(),trivial,rfl,rfl,rfl,rfl⟩)
 · exact Qfi fun _ hp=>h hp.t4
theorem oneH:(Con.mem oneA.sh).holds Tryz.prog 46:=fun w0 S=>TCon.high_of (Qi7 w0 S).1 fun t=>by
 by_cases h:t<4
 · rcases lt4 h with rfl|rfl|rfl|rfl
   · exact (oneC 0).does_of oneA (Qi7 w0 S) (by decide) (fun x _=>Xb x) () 0 rfl rfl (fun _ _=>trivial) (fun _ _ _ _ ρ _ _ _=>⟨.pointer (some ⟨ρ 3,0,none⟩),trivial,rfl,rfl,rfl,rfl⟩)
   · exact (oneC 1).does_of oneA (QnK w0 S) (by decide) (fun x _=>Xb x) () 1 rfl rfl (fun _ _=>trivial) (fun _ _ _ _ ρ _ _ _=>⟨.pointer (some ⟨ρ 4,0,none⟩),trivial,rfl,rfl,rfl,rfl⟩)
   · exact (oneC 2).does_of oneA (QnJ w0 S) (by decide) (fun x _=>Xb x) () 2 rfl rfl (fun _ _=>trivial) (fun _ _ _ _ ρ _ _ _=>⟨.pointer (some ⟨ρ 5,0,none⟩),trivial,rfl,rfl,rfl,rfl⟩)
   · exact (oneC 3).does_of oneA (QnI w0 S) (by decide) (fun x _=>Xb x) () 3 rfl rfl (fun _ _=>trivial) (fun _ _ _ _ ρ _ _ _=>⟨.pointer (some ⟨ρ 6,0,none⟩),trivial,rfl,rfl,rfl,rfl⟩)
 · exact Qfi fun _=>h
structure CallOK (z:Sh):Prop where
 st0:0<=z.steps
 st1:z.steps<100000000
 h:z.hist.length<=1000000000
 tog:∀t,t<4->z.tog t=0\/z.tog t=1
def callA:TCon Sh (Int × OpA) Unit where
 pre z a:=CallOK z
 args a:=[.c (.v (.int .i64 a.1)),.a [.one (.v (.int .i64 a.2.k)),.one (.v (.int .i64 a.2.key)),.one (.v (.int .i64 a.2.x))]]
 ok _ _ _:=True
 next z a _:=bif inT a.1 then z.call a.1.toNat a.2.k a.2.key a.2.x else z
 val _ z a _:=.o (.c (.v (bif inT a.1 then (bif (z.w a.1.toNat).does==0 then (bif opOk a.2.k a.2.key a.2.x then .nilIface else .iface 97 (.int .i64 1))else .iface 97 (.int .i64 6))else .iface 97 (.int .i64 2))))
 new _ _ _ _:=[]
 len:=0
theorem QpZ:(Con.mem callA.sh).holds Tryz.prog 23:=fun w0 S=>TCon.high_of (Qjv w0 S).1 fun ⟨a,o⟩=>by
 by_cases h:0<=a/\a<4
 · obtain⟨t,rfl⟩:=Int.eq_ofNat_of_zero_le h.1
   rcases lt4 (t:=t) (by omega)with rfl|rfl|rfl|rfl
   · exact (clC 0).does_of callA (Qjv w0 S) (by decide) (fun x _=>Xb x) o _ rfl rfl (fun _ h=>⟨⟨h.st0,h.st1⟩,h.h,h.tog 0 (by decide)⟩) (fun _ _ _ _ _ _ _ _=>⟨(),trivial,rfl,rfl,rfl,rfl⟩)
   · exact (clC 1).does_of callA (QoB w0 S) (by decide) (fun x _=>Xb x) o _ rfl rfl (fun _ h=>⟨⟨h.st0,h.st1⟩,h.h,h.tog 1 (by decide)⟩) (fun _ _ _ _ _ _ _ _=>⟨(),trivial,rfl,rfl,rfl,rfl⟩)
   · exact (clC 2).does_of callA (QoA w0 S) (by decide) (fun x _=>Xb x) o _ rfl rfl (fun _ h=>⟨⟨h.st0,h.st1⟩,h.h,h.tog 2 (by decide)⟩) (fun _ _ _ _ _ _ _ _=>⟨(),trivial,rfl,rfl,rfl,rfl⟩)
   · exact (clC 3).does_of callA (Qoz w0 S) (by decide) (fun x _=>Xb x) o _ rfl rfl (fun _ h=>⟨⟨h.st0,h.st1⟩,h.h,h.tog 3 (by decide)⟩) (fun _ _ _ _ _ _ _ _=>⟨(),trivial,rfl,rfl,rfl,rfl⟩)
 · have hb:inT a=false:=decide_eq_false h
   refine calX.does_of callA (Qoy w0 S) (by decide) (fun x _=>Xb x) (a,o) (a,o) rfl rfl (fun _ _=>(by show a<0\/4<=a;omega)) (fun z _ _ _ _ _ _ _=>⟨(),trivial,?_,?_,rfl,rfl⟩)
   · show (bif inT a then _ else _)=z.z
     rw[hb];rfl
   · show (SV.o (.c (.v (bif inT a then _ else _)))).den _=_
     rw[hb];rfl
structure RunOK (z:Sh) (t:Nat) (n:Int):Prop where
 ok:0<=n->n<=1000->∀k:Nat,(k:Int)<n->stOK (z.run t k) t/\(((z.run t k).w t).does≠0->Qa8 ((z.run t k).wst t))
def runN:TCon Sh (Nat × Int) Unit where
 pre z a:=a.1<4/\RunOK z a.1 a.2
 args a:=[.c (.v (.int .i64 a.1)),.c (.v (.int .i64 a.2))]
 ok _ _ _:=True
 next z a _:=z.run a.1 (bif runB a.2 then a.2.toNat else 0)
 val _ z a _:=.t [.c (.v (.int .i64 (bif runB a.2 then ((z.ran a.1 a.2.toNat:Nat):Int)else 0))),.c (.v (bif runB a.2 then .nilIface else .iface 97 (.int .i64 1)))]
 new _ _ _ _:=[]
 len:=0
structure RunG (z:Sh) (t:Nat) (n:Int) where
 k:Nat
 F:List Nat
 hk:k<=n.toNat
 hr:z.ran t n.toNat=k+(z.run t k).ran t (n.toNat-k)
def Qo0 (z:Sh) (t:Nat) (n:Int):Ann where
 σ:=RunG z t n
 I g:=([(0,.o (.c (.p 0 0))),(1,sv (.int .i64 t)),(2,sv (.int .i64 n)),(27,sv (.int .i64 n)),(28,sv (.int .i64 g.k))],[.abs (Qr shM ShS.z ShS.good (z.run t g.k)) g.F])
 dec g:=n.toNat-g.k
 pi env M:=[0]
 nz:=[]
theorem Qny {z:Sh}{t:Nat}{m:Nat}(h:(z.w t).does≠0):z.ran t (m+1)=(z.step t).ran t m+1:=if_neg h
theorem QiW (z:Sh) (t k:Nat):z.run t (k+1)=(z.run t k).step t:=by rw[Qin];rfl
theorem QiZ:(Con.mem runN.sh).holds Tryz.prog 24:=by
 intro w0 S
 refine Qa (Γ:=[(46,.mem oneA.sh),(21,.mem QiB.sh),(30,.mem Qii.sh)]) (fun _=>noW) Tryz.func24 rfl (by kernel_rfl) Qf Qc (fun w S' _ _=>.cons (oneH w S') (.cons (doesH w S') (.cons (stepH w S') (.nil _ _ _)))) runN.sh (fun s=>[(24,[(0,Qo0 s.1 s.2.1.1 s.2.1.2)])]) (fun x0 h=>by cases h) (fun s ρ w _ _ _=>Qh w _) [] (fun _ M=>[0]) 600 ?_
 rintro⟨z,⟨t,n⟩,F⟩ W ⟨ht,h1⟩ -
 refine⟨rfl,?_⟩
 dsimp only
 refine Qj (q:=∃(s:Sh × Nat × List Nat),[aP 0 0,aI ↑t]=[aP 0 0,aI (↑s.2.1:Int)]/\[SB.abs (Qr shM ShS.z ShS.good z) F]=[SB.abs (Qr shM ShS.z ShS.good s.1) s.2.2]/\s.2.1<4/\∀(x:List Nat × Value),True->bif decide (n<(0:Int))then endN (TCon.sh runN) [] (fun (x:SV) (M:List SB)=>[0]) (z,(t,n),F) (SV.t [aI 0,SA.c (.v (.iface 97 (Value.int .i64 (1:Int))))]) [SB.abs (Qr shM ShS.z ShS.good s.1) x.1]else bif decide (n>(1000:Int))then endN (TCon.sh runN) [] (fun (x:SV) (M:List SB)=>[0]) (z,(t,n),F) (SV.t [aI 0,SA.c (.v (.iface 97 (Value.int .i64 (1:Int))))]) [SB.abs (Qr shM ShS.z ShS.good s.1) x.1]else (∃(s0:Ann.σ (Qo0 z t n)),(eS (aP 0 0) (aP 0 0)/\eS (aI ↑t) (aI ↑t)/\eS (aI n) (aI n)/\eS (aI n) (aI n)/\eS (aI 0) (aI ↑s0.1)/\True)/\[SB.abs (Qr shM ShS.z ShS.good s.1) x.1]=[SB.abs (Qr shM ShS.z ShS.good (Sh.run z t s0.1)) s0.2])/\∀(s:RunG z t n),bif decide ((↑s.1:Int)<n)then ∃(s_1:Sh × Nat × List Nat),[aP 0 0,aI ↑t]=[aP 0 0,aI (↑s_1.2.1:Int)]/\[SB.abs (Qr shM ShS.z ShS.good (Sh.run z t s.1)) s.2]=[SB.abs (Qr shM ShS.z ShS.good s_1.1) s_1.2.2]/\s_1.2.1<4/\∀(x:List Nat × Unit),True->bif (Sh.w s_1.1 s_1.2.1).2==(0:Int)then endN (TCon.sh runN) [] (fun (x:SV) (M:List SB)=>[0]) (z,(t,n),F) (SV.t [aI ↑s.1,SA.c (.v Value.nilIface)]) [SB.abs (Qr shM ShS.z ShS.good s_1.1) x.1]else ∃(s_2:Sh × Nat × List Nat),[aP 0 0,aI ↑t]=[aP 0 0,aI (↑s_2.2.1:Int)]/\[SB.abs (Qr shM ShS.z ShS.good s_1.1) x.1]=[SB.abs (Qr shM ShS.z ShS.good s_2.1) s_2.2.2]/\StpOK s_2.1 s_2.2.1/\∀(x:List Nat × Unit),True->∃(s':RunG z t n),((eS (aP 0 0) (aP 0 0)/\eS (aI ↑t) (aI ↑t)/\eS (aI n) (aI n)/\eS (aI n) (aI n)/\eS (aI (IntKind.wrap .i64 ((↑s.1:Int)+(1:Int)))) (aI ↑s'.1)/\True)/\[SB.abs (Qr shM ShS.z ShS.good (Sh.step s_2.1 s_2.2.1)) x.1]=[SB.abs (Qr shM ShS.z ShS.good (Sh.run z t s'.1)) s'.2])/\Int.toNat n-s'.1<Int.toNat n-s.1 else endN (TCon.sh runN) [] (fun (x:SV) (M:List SB)=>[0]) (z,(t,n),F) (SV.t [aI n,SA.c (.v Value.nilIface)]) [SB.abs (Qr shM ShS.z ShS.good (Sh.run z t s.1)) s.2]) (by kernel_rfl) ?_
 have h1:RunOK z t n:=h1
 have ht:t<4:=ht
 have bad (hb:runB n=false) (G:List Nat):endN runN.sh [] (fun _ _=>[0]) (z,(t,n),F) (SV.t [SA.c (SC.v (.int .i64 0)),SA.c (SC.v (.iface 97 (.int .i64 1)))]) [SB.abs (Qr shM ShS.z ShS.good z) G]:=by
  refine Qi rfl ⟨G,()⟩ trivial rfl ?_ ?_
  · show _=SV.ren _ (.t [.c (.v (.int .i64 (bif runB n then _ else _))),.c (.v (bif runB n then _ else _))])
    rw[hb];rfl
  · show _=[SB.abs (Qr shM ShS.z ShS.good (z.run t (bif runB n then n.toNat else 0))) G].map _
    rw[hb];rfl
 have fin (hb:runB n=true) {k:Nat}(hk:k<=n.toNat) (hr:z.ran t n.toNat=k+(z.run t k).ran t (n.toNat-k)) (hd:k=n.toNat\/((z.run t k).w t).does=0) (G:List Nat):endN runN.sh [] (fun _ _=>[0]) (z,(t,n),F) (SV.t [SA.c (SC.v (.int .i64 (k:Int))),SA.c (SC.v .nilIface)]) [SB.abs (Qr shM ShS.z ShS.good (z.run t k)) G]:=by
  have e:z.ran t n.toNat=k/\z.run t n.toNat=z.run t k:=by
   rcases hd with rfl|hd
   · rw[Nat.sub_self]at hr;exact⟨hr,rfl⟩
   · have a:=QiX t (n.toNat-k) hd
     rw[a.2]at hr
     refine⟨hr,?_⟩
     have b:=Qin t k (n.toNat-k) z
     rw[show k+(n.toNat-k)=n.toNat by omega,a.1]at b;exact b
  refine Qi rfl ⟨G,()⟩ trivial rfl ?_ ?_
  · show _=SV.ren _ (.t [.c (.v (.int .i64 (bif runB n then ((z.ran t n.toNat:Nat):Int)else _))),.c (.v (bif runB n then _ else _))])
    rw[hb,e.1];rfl
  · show _=[SB.abs (Qr shM ShS.z ShS.good (z.run t (bif runB n then n.toNat else 0))) G].map _
    rw[hb]
    show _=[SB.abs (Qr shM ShS.z ShS.good (z.run t n.toNat)) G].map _
    rw[e.2];rfl
 refine⟨(z,t,F),rfl,rfl,ht,fun x _=>Qo (fun hlt=>bad (decide_eq_false (by omega)) x.1) (fun hge=>Qo (fun hgt=>bad (decide_eq_false (by omega)) x.1) (fun hle=>?_))⟩
 have hb:runB n=true:=decide_eq_true (by omega)
 refine⟨⟨⟨0,x.1,Nat.zero_le _,(by rw[Nat.zero_add,Nat.sub_zero];rfl)⟩,⟨rfl,rfl,rfl,rfl,rfl,trivial⟩,rfl⟩,?_⟩
 rintro⟨k,G,hk,hr⟩
 dsimp only at hk hr ⊢
 refine Qo (fun hlt=>?_) (fun hge=>?_)
 · refine⟨(z.run t k,t,G),rfl,rfl,ht,fun x1 _=>QU (fun hd=>fin hb hk hr (.inr hd) x1.1) (fun hd=>?_)⟩
   have hok:=h1.ok (by omega) (by omega) k (by omega)
   have hr':z.ran t n.toNat=k+1+(z.run t (k+1)).ran t (n.toNat-(k+1)):=by
    rw[hr,QiW,show n.toNat-k=(n.toNat-(k+1))+1 by omega,Qny (z:=z.run t k) (t:=t) hd];omega
   exact⟨(z.run t k,t,x1.1),rfl,rfl,⟨ht,hok.1,hok.2⟩,fun x2 _=>⟨⟨k+1,x2.1,by omega,hr'⟩,⟨⟨rfl,rfl,rfl,rfl,svI (sucI (by omega)),trivial⟩,congrArg (fun s=>[SB.abs (Qr shM ShS.z ShS.good s) x2.1]) (QiW z t k).symm⟩,by dsimp only;omega⟩⟩
 · obtain hkn:k=n.toNat:=by omega
   have:=fin hb hk hr (.inl hkn) G
   rw[show (k:Int)=n by omega]at this;exact this
def QjW:TCon Sh (Int × Int) Unit where
 pre z a:=inT a.1=true->RunOK z a.1.toNat a.2
 args a:=[.c (.v (.int .i64 a.1)),.c (.v (.int .i64 a.2))]
 ok _ _ _:=True
 next z a _:=z.runA a.1 a.2
 val _ z a _:=.t [.c (.v (.int .i64 (bif inT a.1 then (bif runB a.2 then ((z.ran a.1.toNat a.2.toNat:Nat):Int)else 0)else 0))),.c (.v (bif inT a.1 then (bif runB a.2 then .nilIface else .iface 97 (.int .i64 1))else .iface 97 (.int .i64 2)))]
 new _ _ _ _:=[]
 len:=0
def runX:TCon Sh (Int × Int) Unit where
 pre z a:=a.1<0\/4<=a.1
 args a:=[.c (.v (.int .i64 a.1)),.c (.v (.int .i64 a.2))]
 ok _ _ _:=True
 next z a _:=z
 val _ z a _:=.t [.c (.v (.int .i64 0)),.c (.v (.iface 97 (.int .i64 2)))]
 new _ _ _ _:=[]
 len:=0
theorem Qnt:(Con.mem runX.sh).holds Tryz.prog 24:=by
 intro w0 S
 refine Qa (Γ:=[(46,.pure QgZ)]) (fun _=>noW) Tryz.func24 rfl (by kernel_rfl) Qf Qc (fun w S' _ _=>.cons (Qi6 w _) (.nil _ _ _)) runX.sh (fun s=>[]) (fun x0 h=>by cases h) (fun s ρ w _ _ _=>Qh w _) [] (fun _ M=>[0]) 600 ?_
 rintro⟨z,⟨a,n⟩,F⟩ W h1 -
 refine⟨rfl,?_⟩
 refine Qj (q:=(a<(0:Int)\/(4:Int)<=a)/\endN (TCon.sh runX) [] (fun (x:SV) (M:List SB)=>[0]) (z,(a,n),F) (SV.t [aI 0,SA.c (.v (.iface 97 (Value.int .i64 (2:Int))))]) [SB.abs (Qr shM ShS.z ShS.good z) F]) (by kernel_rfl) ?_
 have h1:a<0\/4<=a:=h1
 exact⟨h1,Qi rfl ⟨F,()⟩ trivial rfl rfl rfl⟩
theorem runH:(Con.mem QjW.sh).holds Tryz.prog 24:=fun w0 S=>TCon.high_of (QiZ w0 S).1 fun ⟨a,n⟩=>by
 intro ρ z F w hp hK HM
 by_cases h:0<=a/\a<4
 · have hb:inT a=true:=decide_eq_true h
   obtain⟨t,rfl⟩:=Int.eq_ofNat_of_zero_le h.1
   have ht:t<4:=by omega
   have hp':RunOK z t n:=by have:=hp hb;rw[Int.toNat_natCast]at this;exact this
   have:=(QiZ w0 S).2.2 ρ (z,(t,n),F) w ⟨ht,hp'⟩ hK HM
   have e1:z.runA t n=z.run t (bif runB n then n.toNat else 0):=by unfold Sh.runA;rw[hb,Int.toNat_natCast];rfl
   have e2:QjW.val 1 z ((t:Int),n) ()=runN.val 1 z (t,n) ():=by
    show SV.t [.c (.v (.int .i64 (bif inT t then (bif runB n then ((z.ran (t:Int).toNat n.toNat:Nat):Int)else 0)else 0))),.c (.v (bif inT t then _ else _))]=_
    rw[hb,Int.toNat_natCast];rfl
   refine this.mono ?_
   rintro e w' ⟨⟨G,⟨⟩⟩,ρ',h1,h2,h3,h4,h5⟩
   refine⟨⟨G,()⟩,ρ',trivial,h2,rfl,?_,?_⟩
   · rw[e2];exact h4
   · show Mem w _ (denM ρ' 0 (.abs (Qr shM ShS.z ShS.good (z.runA t n)) G::[])) w'
     rw[e1];exact h5
 · have hb:inT a=false:=decide_eq_false h
   have:=(Qnt w0 S).2.2 ρ (z,(a,n),F) w (by show a<0\/4<=a;omega) hK HM
   have e1:z.runA a n=z:=by unfold Sh.runA;rw[hb];rfl
   have e2:QjW.val 1 z (a,n) ()=runX.val 1 z (a,n) ():=by
    show SV.t [.c (.v (.int .i64 (bif inT a then _ else 0))),.c (.v (bif inT a then _ else _))]=_
    rw[hb];rfl
   refine this.mono ?_
   rintro e w' ⟨⟨G,⟨⟩⟩,ρ',h1,h2,h3,h4,h5⟩
   refine⟨⟨G,()⟩,ρ',trivial,h2,rfl,?_,?_⟩
   · rw[e2];exact h4
   · show Mem w _ (denM ρ' 0 (.abs (Qr shM ShS.z ShS.good (z.runA a n)) G::[])) w'
     rw[e1];exact h5
end
section
open Go.RowKit
structure NewS where
 k:Int
def Qg1:MCon where
 σ:=NewS
 χ:=ShS
 pre s:=1<=s.k/\s.k<=6
 args s:=[.c (.v (.int .i64 s.k))]
 mem _:=[]
 ok s x:=x.good/\x.z=Sh.new s.k
 val _ _:=.t [.c (.p 0 0),.c (.v .nilIface)]
 mem' _ x:=shM x
 k:=0
 len:=17
 det:=none
 find _ _:=some []
def msAt (M:List SB) (b:Nat):List Nat:=match getB M b with
 |.cells l _=>match segGet l 0,segGet l 1 with
  |some (.p m _),some (.p s _)=>[b,m,s]
  |_,_=>[]
 |_=>[]
def newM (k:Int) (f:Nat->Int):List SB:=[.cells [.one (.p 1 0),.one (.p 2 0),.one (.v (.pointer none)),.one (.v (.pointer none)),.one (.v (.pointer none)),.one (.v (.pointer none)),.ints (.int .i64) 4 (fun _=>0),.one (.v (.int .i64 0)),.one (.v (.slice none 0 0)),.one (.v (.slice none 0 0))] 89,ramB (fun _=>0),stoB { Sto.new with now:=f },.cells [.ints (.int .u64) 32 (fL (Rec.new k).words)] 60]
structure NewG where
 i:Nat
 hi:i<=32
def Qo2 (k:Int):Ann where
 σ:=NewG
 I g:=([(4,.o (.c (.p 3 0))),(6,.o (.c (.p 0 0))),(24,.o (.a [.ints (.int .u64) 32 (fL (Rec.new k).words)])),(25,sv (.int .i64 g.i))],
   [.cells [.one (.p 1 0),.one (.p 2 0),.one (.v (.pointer none)),.one (.v (.pointer none)),.one (.v (.pointer none)),.one (.v (.pointer none)),.ints (.int .i64) 4 (fun _=>0),.one (.v (.int .i64 0)),.one (.v (.slice none 0 0)),.one (.v (.slice none 0 0))] 89,ramB (fun _=>0),stoB { Sto.new with now:=XU k g.i },.cells [.ints (.int .u64) 32 (fL (Rec.new k).words)] 60])
 dec g:=32-g.i
 pi env M:=msAt M (blkE env 6)++[blkE env 4]
 nz:=[]
abbrev nzE (b:Nat):NZ:=.blk b 11 35 9 [.int .i64,.int .i64,.int .i64,.int .i64,.int .i64,.int .i64,.int .i64,.int .i64,.int .i64]
abbrev nzVd (b:Nat):NZ:=.blk b 12 102 7 [.int .u64,.int .i64,.int .i64,.int .i64,.int .i64,.int .i64,.int .i64]
abbrev nzWA (b:Nat):NZ:=.blk b 41 173 5 [.int .i64,.int .i64,.int .i64,.int .i64,.int .i64]
abbrev nzWD (b:Nat):NZ:=.blk b 42 65 6 [.int .i64,.int .i64,.int .i64,.int .i64,.int .i64,.int .i64]
structure QaO where
 s:Sto
 n:Nat
def QhV:MCon:=dcon QaO (fun s=>s.n<9) (fun s=>[.c (.p 0 0),.c (.v (.int .i64 (s.n:Int)))]) (fun s=>[stoB s.s]) (fun s=>.o (.c (.v .nilIface))) (fun s=>[stoB (s.s.evict s.n)]) 1 (fun args _=>some (blkA args))
theorem QjH:(Con.mem QhV).holds Tryz.prog 66:=by
 intro w0 S
 have h:=Qhj w0 S
 refine⟨h.1,fun x0 hx s x=>⟨rfl,trivial⟩,fun ρ ⟨s,n⟩ w hp hK HM=>(h.2.2 ρ ⟨s,n⟩ w trivial hK HM).mono ?_⟩
 have hp:n<9:=hp
 have e1:decide ((0:Int)<=(n:Int)/\(n:Int)<9)=true:=decide_eq_true (by omega)
 have ev:Qby.val ⟨s,n⟩ ()=.o (.c (.v .nilIface)):=by
  show SV.o (.c (.v (bif decide ((0:Int)<=(n:Int)/\(n:Int)<9)then _ else _)))=_
  rw[e1];rfl
 have em:Qby.mem' ⟨s,n⟩ ()=[stoB (s.evict n)]:=by
  show [stoB (bif decide ((0:Int)<=(n:Int)/\(n:Int)<9)then s.evict (n:Int).toNat else s)]=_
  rw[e1,Int.toNat_natCast];rfl
 rintro e w' ⟨⟨⟩,ρ',h1,h2,h3,h4,h5⟩
 refine⟨(),ρ',trivial,h2,rfl,?_,?_⟩
 · rw[h4,ev];rfl
 · rw[em]at h5;exact h5
theorem evict4 (k:Int) {A:Sto}(hA:A={ Sto.new with now:=XU k 32 }):(((A.evict 1).evict 2).evict 3).evict 4={ Sto.new with now:=XU k 32,good:=XU k 32 }:=by
 have e2:((((A.evict 1).evict 2).evict 3).evict 4).good=XU k 32:=funext fun j=>by
  subst hA
  show (bif decide (j/8=4)then XU k 32 j else bif decide (j/8=3)then XU k 32 j else bif decide (j/8=2)then XU k 32 j else bif decide (j/8=1)then XU k 32 j else 0)=XU k 32 j
  by_cases h:8<=j/\j<40
  · rcases (show j/8=1\/j/8=2\/j/8=3\/j/8=4 by omega)with h|h|h|h<;>rw[h]<;>rfl
  · rw[Qck k j (by omega),decide_eq_false (show ¬j/8=4 by omega),decide_eq_false (show ¬j/8=3 by omega),decide_eq_false (show ¬j/8=2 by omega),decide_eq_false (show ¬j/8=1 by omega)];rfl
 show (⟨A.now,((((A.evict 1).evict 2).evict 3).evict 4).good,A.want,A.fl,A.fe⟩:Sto)=_
 rw[e2,hA]
def Qpo:SV->List SB->List Nat
 |.t [.c (.p b _),_],M=>shAt M b
 |_,_=>[]
def newS0 (k:Int):ShS:=⟨Sh.new k,fun _=>⟨0,0,false,fun _ _=>0,0,0,false,fun _ _=>0⟩,0,0,false,fun _ _=>0,0,0,false,fun _ _=>0⟩
theorem Qj2 (k:Int):(newS0 k).good:=⟨fun t _=>⟨⟨Nat.le_refl _,Nat.le_refl _⟩,fun i hi=>absurd hi (Nat.not_lt_zero _),⟨Nat.le_refl _,Nat.le_refl _⟩,fun i hi=>absurd hi (Nat.not_lt_zero _)⟩,Nat.le_refl _,Nat.le_refl _,IsR.nil _ _ _ _,Nat.le_refl _,Nat.le_refl _,IsR.nil _ _ _ _⟩
attribute [local irreducible] endN
theorem QnO (k:Int) {S:Sto}(hS:S={ Sto.new with now:=XU k 32,good:=XU k 32 }):endN Qg1 [nzE 0,nzVd 0,nzWA 4,nzWD 4,nzWA 5,nzWD 5,nzWA 6,nzWD 6,nzWA 7,nzWD 7] Qpo ⟨k⟩ (.t [.c (.p 0 0),.c (.v .nilIface)])
 [.cells [.one (.p 1 0),.one (.p 2 0),.one (.p 4 0),.one (.p 5 0),.one (.p 6 0),.one (.p 7 0),.ints (.int .i64) 4 (fun _=>0),.one (.v (.int .i64 0)),.one (.v (.slice none 0 0)),.one (.v (.slice none 0 0))] 89,ramB (fun _=>0),stoB S,.cells [.ints (.int .u64) 32 (fL (Rec.new k).words)] 60,.cells [.one (.v (.int .i64 0)),.one (.v (.int .i64 0)),.one (.v (.int .i64 0)),.one (.v (.int .i64 0)),.one (.v (.int .i64 0)),.one (.v (.int .i64 0)),.one (.v (.bool false)),.one (.v (.int .i64 0)),.one (.v (.int .u64 0)),.ints (.int .u64) 32 (fun _=>0),.one (.v (.slice none 0 0)),.one (.v (.slice none 0 0)),.ints (.int .u64) 3 (fun _=>0),.one (.v (.int .i64 0)),.one (.v (.int .i64 0)),.one (.v (.int .i64 0))] 95,.cells [.one (.v (.int .i64 1)),.one (.v (.int .i64 0)),.one (.v (.int .i64 0)),.one (.v (.int .i64 0)),.one (.v (.int .i64 0)),.one (.v (.int .i64 0)),.one (.v (.bool false)),.one (.v (.int .i64 0)),.one (.v (.int .u64 0)),.ints (.int .u64) 32 (fun _=>0),.one (.v (.slice none 0 0)),.one (.v (.slice none 0 0)),.ints (.int .u64) 3 (fun _=>0),.one (.v (.int .i64 0)),.one (.v (.int .i64 0)),.one (.v (.int .i64 0))] 95,.cells [.one (.v (.int .i64 2)),.one (.v (.int .i64 0)),.one (.v (.int .i64 0)),.one (.v (.int .i64 0)),.one (.v (.int .i64 0)),.one (.v (.int .i64 0)),.one (.v (.bool false)),.one (.v (.int .i64 0)),.one (.v (.int .u64 0)),.ints (.int .u64) 32 (fun _=>0),.one (.v (.slice none 0 0)),.one (.v (.slice none 0 0)),.ints (.int .u64) 3 (fun _=>0),.one (.v (.int .i64 0)),.one (.v (.int .i64 0)),.one (.v (.int .i64 0))] 95,.cells [.one (.v (.int .i64 3)),.one (.v (.int .i64 0)),.one (.v (.int .i64 0)),.one (.v (.int .i64 0)),.one (.v (.int .i64 0)),.one (.v (.int .i64 0)),.one (.v (.bool false)),.one (.v (.int .i64 0)),.one (.v (.int .u64 0)),.ints (.int .u64) 32 (fun _=>0),.one (.v (.slice none 0 0)),.one (.v (.slice none 0 0)),.ints (.int .u64) 3 (fun _=>0),.one (.v (.int .i64 0)),.one (.v (.int .i64 0)),.one (.v (.int .i64 0))] 95]:=by
 refine Qi (x':=.t [.c (.p 0 0),.c (.v .nilIface)]) (M':=[.cells [.one (.p 1 0),.one (.p 2 0),.one (.p 4 0),.one (.p 5 0),.one (.p 6 0),.one (.p 7 0),.ints (.int .i64) 4 (fun _=>0),.one (.v (.int .i64 0)),.one (.so 8 0 9 0 0 false),.one (.so 9 0 7 0 0 false)] 89,ramB (fun _=>0),stoB S,.cells [.ints (.int .u64) 32 (fL (Rec.new k).words)] 60,.cells [.one (.v (.int .i64 0)),.one (.v (.int .i64 0)),.one (.v (.int .i64 0)),.one (.v (.int .i64 0)),.one (.v (.int .i64 0)),.one (.v (.int .i64 0)),.one (.v (.bool false)),.one (.v (.int .i64 0)),.one (.v (.int .u64 0)),.ints (.int .u64) 32 (fun _=>0),.one (.so 10 0 5 0 0 false),.one (.so 11 0 6 0 0 false),.ints (.int .u64) 3 (fun _=>0),.one (.v (.int .i64 0)),.one (.v (.int .i64 0)),.one (.v (.int .i64 0))] 95,.cells [.one (.v (.int .i64 1)),.one (.v (.int .i64 0)),.one (.v (.int .i64 0)),.one (.v (.int .i64 0)),.one (.v (.int .i64 0)),.one (.v (.int .i64 0)),.one (.v (.bool false)),.one (.v (.int .i64 0)),.one (.v (.int .u64 0)),.ints (.int .u64) 32 (fun _=>0),.one (.so 12 0 5 0 0 false),.one (.so 13 0 6 0 0 false),.ints (.int .u64) 3 (fun _=>0),.one (.v (.int .i64 0)),.one (.v (.int .i64 0)),.one (.v (.int .i64 0))] 95,.cells [.one (.v (.int .i64 2)),.one (.v (.int .i64 0)),.one (.v (.int .i64 0)),.one (.v (.int .i64 0)),.one (.v (.int .i64 0)),.one (.v (.int .i64 0)),.one (.v (.bool false)),.one (.v (.int .i64 0)),.one (.v (.int .u64 0)),.ints (.int .u64) 32 (fun _=>0),.one (.so 14 0 5 0 0 false),.one (.so 15 0 6 0 0 false),.ints (.int .u64) 3 (fun _=>0),.one (.v (.int .i64 0)),.one (.v (.int .i64 0)),.one (.v (.int .i64 0))] 95,.cells [.one (.v (.int .i64 3)),.one (.v (.int .i64 0)),.one (.v (.int .i64 0)),.one (.v (.int .i64 0)),.one (.v (.int .i64 0)),.one (.v (.int .i64 0)),.one (.v (.bool false)),.one (.v (.int .i64 0)),.one (.v (.int .u64 0)),.ints (.int .u64) 32 (fun _=>0),.one (.so 16 0 5 0 0 false),.one (.so 17 0 6 0 0 false),.ints (.int .u64) 3 (fun _=>0),.one (.v (.int .i64 0)),.one (.v (.int .i64 0)),.one (.v (.int .i64 0))] 95,evB 0 0 (fun _ _=>0),vdB 0 0 (fun _ _=>0),wkA 0 0 (fun _ _=>0),wkD 0 0 (fun _ _=>0),wkA 0 0 (fun _ _=>0),wkD 0 0 (fun _ _=>0),wkA 0 0 (fun _ _=>0),wkD 0 0 (fun _ _=>0),wkA 0 0 (fun _ _=>0),wkD 0 0 (fun _ _=>0)]) (by kernel_rfl) (newS0 k) ⟨Qj2 k,rfl⟩ (by kernel_rfl) (by kernel_rfl) ?_
 subst hS
 kernel_rfl
theorem QnP:(Con.mem Qg1).holds Tryz.prog 43:=by
 intro w0 S
 refine Qa (Γ:=[(63,.pure Qde),(64,.mem QdF),(65,.mem Xp),(66,.mem QhV)]) (fun _=>noW) Tryz.func43 rfl (by kernel_rfl) Qf Qc (fun w S' _ _=>.cons (Qnw w _) (.cons (QjG w S') (.cons (XY w S') (.cons (QjH w S') (.nil _ _ _))))) Qg1 (fun s=>[(43,[(0,Qo2 s.k)])]) (fun x0 h=>by cases h) (fun s ρ w _ _ _=>Qh w _) [nzE 0,nzVd 0,nzWA 4,nzWD 4,nzWA 5,nzWD 5,nzWA 6,nzWD 6,nzWA 7,nzWD 7] Qpo 900 ?_
 rintro⟨k⟩ W ⟨h1,h6⟩ -
 refine⟨rfl,?_⟩
 refine Qj (q:=((1:Int)<=k/\k<=(6:Int))/\∃(s:Unit),([]:List SA)=[]/\eN/\True/\∀(x:Unit),True->(∃(s0:Ann.σ (Qo2 k)),(eS (aP 0 0) (aP 0 0)/\eS (aP 3 0) (aP 3 0)/\eS (SA.a [nU 32 (fL (Rec.words (Rec.new k)))]) (SA.a [nU 32 (fL (Rec.words (Rec.new k)))])/\eS (aI 0) (aI ↑s0.1)/\True)/\[SB.cells [sP 1 0,sP 2 0,Seg.one (.v (.pointer none)),Seg.one (.v (.pointer none)),Seg.one (.v (.pointer none)),Seg.one (.v (.pointer none)),nI 4 zF,sI 0,Seg.one (.v (.slice none 0 0)),Seg.one (.v (.slice none 0 0))] 89,SB.cells [nU 16 zF] 124,SB.cells [nU 72 Sto.new.1,nU 72 Sto.new.2,nB 36 Sto.new.3,sI 0,sI 0] 133,SB.cells [nU 32 (fL (Rec.words (Rec.new k)))] 60]=[SB.cells [sP 1 0,sP 2 0,Seg.one (.v (.pointer none)),Seg.one (.v (.pointer none)),Seg.one (.v (.pointer none)),Seg.one (.v (.pointer none)),nI 4 zF,sI 0,Seg.one (.v (.slice none 0 0)),Seg.one (.v (.slice none 0 0))] 89,SB.cells [nU 16 zF] 124,SB.cells [nU 72 (XU k s0.1),nU 72 Sto.new.2,nB 36 Sto.new.3,sI 0,sI 0] 133,SB.cells [nU 32 (fL (Rec.words (Rec.new k)))] 60])/\∀(s:NewG),bif decide ((↑s.1:Int)<(32:Int))then (iR (↑s.1:Int) (32:Int))/\∃(s_1:Xf),[aP 2 0,aI (IntKind.wrap .i64 ((8:Int)+(↑s.1:Int))),aU (fL (Rec.words (Rec.new k)) (Int.toNat (↑s.1:Int)))]=[aP 2 0,aI s_1.2,aU s_1.3]/\[SB.cells [nU 72 (XU k s.1),nU 72 Sto.new.2,nB 36 Sto.new.3,sI 0,sI 0] 133]=[stoB (Xf.s s_1)]/\(iR s_1.2 (72:Int))/\∀(x:Unit),True->∃(s':NewG),((eS (aP 3 0) (aP 3 0)/\eS (aP 0 0) (aP 0 0)/\eS (SA.a [nU 32 (fL (Rec.words (Rec.new k)))]) (SA.a [nU 32 (fL (Rec.words (Rec.new k)))])/\eS (aI (IntKind.wrap .i64 ((↑s.1:Int)+(1:Int)))) (aI ↑s'.1)/\True)/\[SB.cells [sP 1 0,sP 2 0,Seg.one (.v (.pointer none)),Seg.one (.v (.pointer none)),Seg.one (.v (.pointer none)),Seg.one (.v (.pointer none)),nI 4 zF,sI 0,Seg.one (.v (.slice none 0 0)),Seg.one (.v (.slice none 0 0))] 89,SB.cells [nU 16 zF] 124,stoB (Sto.save (Xf.s s_1) (Int.toNat (Xf.a s_1)) (Xf.x s_1)),SB.cells [nU 32 (fL (Rec.words (Rec.new k)))] 60]=[SB.cells [sP 1 0,sP 2 0,Seg.one (.v (.pointer none)),Seg.one (.v (.pointer none)),Seg.one (.v (.pointer none)),Seg.one (.v (.pointer none)),nI 4 zF,sI 0,Seg.one (.v (.slice none 0 0)),Seg.one (.v (.slice none 0 0))] 89,SB.cells [nU 16 zF] 124,SB.cells [nU 72 (XU k s'.1),nU 72 Sto.new.2,nB 36 Sto.new.3,sI 0,sI 0] 133,SB.cells [nU 32 (fL (Rec.words (Rec.new k)))] 60])/\32-s'.1<32-s.1 else ∃(s_1:QaO),[aP 2 0,aI 1]=[aP 2 0,aI ↑s_1.2]/\[SB.cells [nU 72 (XU k s.1),nU 72 Sto.new.2,nB 36 Sto.new.3,sI 0,sI 0] 133]=[stoB (QaO.s s_1)]/\s_1.2<9/\∀(x:Unit),True->∃(s:QaO),[aP 2 0,aI 2]=[aP 2 0,aI ↑s.2]/\[stoB (Sto.evict (QaO.s s_1) (QaO.n s_1))]=[stoB (QaO.s s)]/\s.2<9/\∀(x:Unit),True->∃(s_2:QaO),[aP 2 0,aI 3]=[aP 2 0,aI ↑s_2.2]/\[stoB (Sto.evict (QaO.s s) (QaO.n s))]=[stoB (QaO.s s_2)]/\s_2.2<9/\∀(x:Unit),True->∃(s:QaO),[aP 2 0,aI 4]=[aP 2 0,aI ↑s.2]/\[stoB (Sto.evict (QaO.s s_2) (QaO.n s_2))]=[stoB (QaO.s s)]/\s.2<9/\∀(x:Unit),True->i04/\(iR (1:Int) (4:Int))/\(iR (2:Int) (4:Int))/\(iR (3:Int) (4:Int))/\endN Qg1 [nzE 0,nzVd 0,nzWA 4,nzWD 4,nzWA 5,nzWD 5,nzWA 6,nzWD 6,nzWA 7,nzWD 7] Qpo (NewS.mk k) (SV.t [aP 0 0,SA.c (.v Value.nilIface)]) [SB.cells [sP 1 0,sP 2 0,sP 4 0,sP 5 0,sP 6 0,sP 7 0,nI 4 zF,sI 0,Seg.one (.v (.slice none 0 0)),Seg.one (.v (.slice none 0 0))] 89,SB.cells [nU 16 zF] 124,stoB (Sto.evict (QaO.s s) (QaO.n s)),SB.cells [nU 32 (fL (Rec.words (Rec.new k)))] 60,SB.cells [sI 0,sI 0,sI 0,sI 0,sI 0,sI 0,sB false,sI 0,sU 0,nU 32 zF,Seg.one (.v (.slice none 0 0)),Seg.one (.v (.slice none 0 0)),nU 3 zF,sI 0,sI 0,sI 0] 95,SB.cells [sI 1,sI 0,sI 0,sI 0,sI 0,sI 0,sB false,sI 0,sU 0,nU 32 zF,Seg.one (.v (.slice none 0 0)),Seg.one (.v (.slice none 0 0)),nU 3 zF,sI 0,sI 0,sI 0] 95,SB.cells [sI 2,sI 0,sI 0,sI 0,sI 0,sI 0,sB false,sI 0,sU 0,nU 32 zF,Seg.one (.v (.slice none 0 0)),Seg.one (.v (.slice none 0 0)),nU 3 zF,sI 0,sI 0,sI 0] 95,SB.cells [sI 3,sI 0,sI 0,sI 0,sI 0,sI 0,sB false,sI 0,sU 0,nU 32 zF,Seg.one (.v (.slice none 0 0)),Seg.one (.v (.slice none 0 0)),nU 3 zF,sI 0,sI 0,sI 0] 95]) (by kernel_rfl) ?_
 have h1:1<=k:=h1
 have h6:k<=6:=h6
 refine⟨⟨h1,h6⟩,(),rfl,rfl,trivial,fun _ _=>⟨⟨⟨0,by decide⟩,⟨rfl,rfl,rfl,rfl,trivial⟩,?_⟩,?_⟩⟩
 · exact congrArg (newM k) (Qkd k).symm
 rintro⟨i,hi⟩
 dsimp only at hi ⊢
 refine Qo (fun hlt=>?_) (fun hge=>?_)
 · have ea:IntKind.wrap .i64 (8+(i:Int))=((8+i:Nat):Int):=by rw[QC (by omega) (by omega)];omega
   rw[ea]
   exact⟨⟨by omega,by omega⟩,⟨{ Sto.new with now:=XU k i },((8+i:Nat):Int),fL (Rec.new k).words i⟩,rfl,rfl,⟨(by omega:(0:Int)<=((8+i:Nat):Int)),(by omega:((8+i:Nat):Int)<72)⟩,fun _ _=>⟨⟨i+1,by omega⟩,⟨⟨rfl,rfl,rfl,svI (sucI (by omega)),trivial⟩,congrArg (newM k) (Qke k i)⟩,by dsimp only;omega⟩⟩
 · obtain rfl:i=32:=by omega
   obtain⟨A,hA⟩:∃A:Sto,A={ Sto.new with now:=XU k 32 }:=⟨_,rfl⟩
   exact⟨⟨A,1⟩,rfl,by rw[hA];rfl,(by decide:1<9),fun _ _=>⟨⟨A.evict 1,2⟩,rfl,rfl,(by decide:2<9),fun _ _=>⟨⟨(A.evict 1).evict 2,3⟩,rfl,rfl,(by decide:3<9),fun _ _=>⟨⟨((A.evict 1).evict 2).evict 3,4⟩,rfl,rfl,(by decide:4<9),fun _ _=>⟨⟨by decide,by decide⟩,⟨by decide,by decide⟩,⟨by decide,by decide⟩,⟨by decide,by decide⟩,QnO k (evict4 k hA)⟩⟩⟩⟩⟩
def Qg2:MCon where
 σ:=NewS
 χ:=List Nat
 pre s:=1<=s.k/\s.k<=6
 args s:=[.c (.v (.int .i64 s.k))]
 mem _:=[]
 ok _ _:=True
 val _ _:=.t [.c (.p 0 0),.c (.v .nilIface)]
 mem' s F:=[.abs (Qr shM ShS.z ShS.good (Sh.new s.k)) F]
 k:=0
 len:=1
 det:=none
 find _ _:=some []
theorem newH:(Con.mem Qg2).holds Tryz.prog 43:=by
 intro w0 S
 have h:=QnP w0 S
 refine⟨h.1,fun x0 h=>(by cases h),fun ρ s w hp hK HM=>(h.2.2 ρ s w hp hK HM).mono ?_⟩
 rintro e w' ⟨x,ρ',⟨hg,hz⟩,hag,hlen,rfl,HM'⟩
 have HM':Mem w (feet (denM ρ 0 [])) (denM ρ' 0 (shM x)) w':=HM'
 refine⟨feetL (denM ρ' 0 (shM x)),ρ',trivial,fun i hi=>absurd hi (Nat.not_lt_zero _),rfl,rfl,?_⟩
 show Mem w (feet (denM ρ 0 [])) [En.abs (ρ' 0) (Qr shM ShS.z ShS.good (Sh.new s.k)) (feetL (denM ρ' 0 (shM x)))] w'
 refine⟨HM'.kept,fun e he=>?_,fun e he g hg=>?_,List.pairwise_singleton _ _⟩
 · obtain rfl:=List.mem_singleton.1 he
   exact⟨x,ρ',hz,hg,rfl,⟨Kept.refl _ _,fun e he=>HM'.holds e he,fun e he g hg=>.inl ⟨e,he,hg⟩,HM'.dist⟩,fun g=>(feetL_iff _ g).symm⟩
 · obtain rfl:=List.mem_singleton.1 he
   obtain⟨e',he',hf'⟩:=(feetL_iff _ g).1 hg
   exact HM'.own e' he' g hf'
end
section
open Go.RowKit
def craC:TCon Sh Int Unit where
 pre z l:=QiL z l
 args l:=[.c (.v (.int .u64 l))]
 ok _ _ _:=True
 next z l _:=z.crash l
 val _ _ _ _:=.t []
 new _ _ _ _:=[]
 len:=0
abbrev Q3:MCon:=craC.low shM ShS.z ShS.good 17 7 Qci
structure CraG (z:Sh) (l:Int) where
 n:Nat
 mh:Nat
 ch:Nat
 nh:Bool
 zh:Nat->Nat->Int
 hn:n<=z.deeds.length
 hu:upTo (Qt l z.s 0) (z.deeds.take n)=upTo (Qt l z.s 0) z.deeds
 lh:Nat
 hl:lh=z.hist.length+1
 h1:lh<=mh
 h2:mh<=ch
 h:IsE zh (z.hist++[⟨3,0,0,0,0,0,0,0,z.steps+1⟩])
def Qo6 (s:ShS) (l:Int):Ann where
 σ:=CraG s.z l
 I g:=([(0,.o (.c (.p 0 0))),(4,sv (.int .i64 (Qt l s.z.s 0))),(5,sv (.int .i64 ((g.n:Int)-1)))],
   shX (putF (fun _=>0) 1 (Qt l s.z.s 0)) (s.z.s.crash l) s.z.w s.z.tog (s.z.steps+1) s.r g.lh g.mh g.ch g.nh g.zh g.n s.mv s.cv s.nv s.zv)
 dec g:=g.n
 pi env M:=shAt M 0
 nz:=[]
theorem Qk3 {l:List Vd}{n:Nat}(h0:0<n) (hn:n<=l.length):l.take n=l.take (n-1)++[l.getD (n-1) Vd.nil]:=by
 obtain⟨m,rfl⟩:∃m,n=m+1:=⟨n-1,by omega⟩
 rw[Nat.add_sub_cancel,List.take_add_one,List.getElem?_eq_getElem (by omega),Option.toList_some,List.getD_eq_getElem?_getD,List.getElem?_eq_getElem (by omega)];rfl
theorem Qpd {v:Int}{l:List Vd}{d:Vd}(h:v<d.ver):upTo v (l++[d])=upTo v l:=by
 unfold upTo
 rw[List.reverse_append]
 show (List.dropWhile _ (d::l.reverse)).reverse=_
 rw[List.dropWhile_cons_of_pos (by simpa using h)]
theorem Qpc {v:Int}{l:List Vd}{d:Vd}(h:¬v<d.ver):upTo v (l++[d])=l++[d]:=by
 unfold upTo
 rw[List.reverse_append]
 show (List.dropWhile _ (d::l.reverse)).reverse=_
 rw[List.dropWhile_cons_of_neg (by simpa using h),List.reverse_cons,List.reverse_reverse]
def agW (a:Bool) (w:Wk):Wk:=bif a then Wk.call w.th w.k w.key w.x w.tog true else w
def agR (a:Bool) (r:WkR):WkR:=bif a then ⟨0,0,false,fun _ _=>0,0,0,false,fun _ _=>0⟩else r
def agH (a:Bool) (w:Wk):Prop:=if a then w.does≠0 else w.does=0
theorem QeB {a:Bool}{w:Wk}(h:agH a w):w.again=agW a w:=by
 unfold Wk.again
 cases a
 · exact if_pos h
 · exact if_neg h
theorem QeW {a:Bool}{w:Wk}{r:WkR}(h:(wkS w r).good):(wkS (agW a w) (agR a r)).good:=by
 cases a
 · exact h
 · exact⟨⟨Nat.le_refl _,Nat.le_refl _⟩,fun i hi=>absurd hi (Nat.not_lt_zero _),⟨Nat.le_refl _,Nat.le_refl _⟩,fun i hi=>absurd hi (Nat.not_lt_zero _)⟩
def sel4 {α:Type}(x0 x1 x2 x3:α):Nat->α
 |0=>x0
 |1=>x1
 |2=>x2
 |_=>x3
theorem QB {z:Sh}{r:Nat->WkR}{mh ch:Nat}{nh:Bool}{zh:Nat->Nat->Int}{mv cv:Nat}{nv:Bool}{zv:Nat->Nat->Int}{l:Int}(h0:(⟨z,r,mh,ch,nh,zh,mv,cv,nv,zv⟩:ShS).good)
 {n lh mh' ch':Nat}{nh':Bool}{zh':Nat->Nat->Int}(hn:n<=z.deeds.length) (hz:z.deeds.take n=upTo (Qt l z.s 0) z.deeds) (hl:lh=z.hist.length+1) (g1:lh<=mh') (g2:mh'<=ch') (g3:IsE zh' (z.hist++[⟨3,0,0,0,0,0,0,0,z.steps+1⟩]))
 {a0 a1 a2 a3:Bool}{M:List SB}(hc:(nodB (shAt M 0)&&QaT M.length (shAt M 0)&&idB 0 7 (shAt M 0))=true)
 (hM:(shAt M 0).map (getB M)=(shX (putF (fun _=>0) 1 (Qt l z.s 0)) (z.s.crash l) (sel4 (agW a0 (z.w 0)) (agW a1 (z.w 1)) (agW a2 (z.w 2)) (agW a3 (z.w 3))) z.tog (z.steps+1) (sel4 (agR a0 (r 0)) (agR a1 (r 1)) (agR a2 (r 2)) (agR a3 (r 3))) lh mh' ch' nh' zh' n mv cv nv zv).map (SB.ren (ofL (shAt M 0))))
 (e0:agH a0 (z.w 0)) (e1:agH a1 (z.w 1)) (e2:agH a2 (z.w 2)) (e3:agH a3 (z.w 3)):
 endN Q3 [] (fun (x:SV) (M:List SB)=>shAt M 0) (⟨z,r,mh,ch,nh,zh,mv,cv,nv,zv⟩,l) (SV.t []) M:=by
 have hw:=h0.w
 have v1:=h0.v1
 have v2:=h0.v2
 dsimp only at hw v1 v2
 refine Qi rfl ⟨⟨z.crash l,sel4 (agR a0 (r 0)) (agR a1 (r 1)) (agR a2 (r 2)) (agR a3 (r 3)),mh',ch',nh',zh',mv,cv,nv,zv⟩,()⟩ ⟨⟨fun t ht=>?_,?_,g2,g3,?_,v2,?_⟩,rfl,trivial⟩ ?_ rfl ?_
 · rcases (show t=0\/t=1\/t=2\/t=3 by omega)with rfl|rfl|rfl|rfl
   · show (wkS ((z.w 0).again) (agR a0 (r 0))).good
     rw[QeB e0];exact QeW (hw 0 (by decide))
   · show (wkS ((z.w 1).again) (agR a1 (r 1))).good
     rw[QeB e1];exact QeW (hw 1 (by decide))
   · show (wkS ((z.w 2).again) (agR a2 (r 2))).good
     rw[QeB e2];exact QeW (hw 2 (by decide))
   · show (wkS ((z.w 3).again) (agR a3 (r 3))).good
     rw[QeB e3];exact QeW (hw 3 (by decide))
 · show (z.hist++[_]).length<=mh'
   rw[List.length_append]
   show z.hist.length+1<=mh'
   omega
 · show (upTo (Qt l z.s 0) z.deeds).length<=mv
   rw[<- hz,List.length_take];omega
 · show IsV zv (upTo (Qt l z.s 0) z.deeds)
   rw[<- hz];exact IsR.take h0.v n
 · simp only[Bool.and_eq_true]at hc ⊢
   exact⟨⟨⟨hc,rfl⟩,rfl⟩,rfl⟩
 · refine hM.trans (congrArg (List.map _) ?_)
   show _=shX (putF (fun _=>0) 1 (Qt l z.s 0)) (z.s.crash l) (fun t=>(z.w t).again) z.tog (z.steps+1) (sel4 (agR a0 (r 0)) (agR a1 (r 1)) (agR a2 (r 2)) (agR a3 (r 3))) (z.hist++[_]).length mh' ch' nh' zh' (upTo (Qt l z.s 0) z.deeds).length mv cv nv zv++[]
   rw[<- hz,List.length_take,Nat.min_eq_left hn,List.length_append,List.append_nil,hl]
   dsimp only[shX]
   rw[QeB e0,QeB e1,QeB e2,QeB e3];rfl
theorem QpQ:(Con.mem Q3).holds Tryz.prog 42:=by
 intro w0 S
 refine Qa (Γ:=[(60,.mem (QdG true)),(61,.mem QeV),(26,.inl Tryz.f26 (Tryz.f26.body.getD .skip)),(49,.mem QJ),(62,.mem Xh),(47,.mem (Qbo true))]) (fun _=>noW) Tryz.func42 rfl (by kernel_rfl) Qf Qc (fun w S' _ _=>.cons (Qhk w S') (.cons (QmM w S') (.cons ⟨by kernel_rfl,rfl,rfl⟩ (.cons (QN w S') (.cons (Qaa w S') (.cons (QmP w S') (.nil _ _ _))))))) Q3 (fun s=>[(42,[(0,Qo6 s.1 s.2)])]) (fun x0 h=>by cases h) (fun s ρ w _ _ _=>Qh w _) [] (fun _ M=>shAt M 0) 600 ?_
 rintro⟨⟨z,r,mh,ch,nh,zh,mv,cv,nv,zv⟩,l⟩ W ⟨h0,h1⟩ -
 refine⟨rfl,?_⟩
 dsimp only
 refine Qj (q:=dP Tryz.f42 1 17 [⟨11,[17],[15,18],[],true⟩,⟨10,[],[17],[17],false⟩,xE 9,xR 8 0,xF 7 0,xF 6 0,xF 5 0,⟨4,[0],[],[15],false⟩,xF 3 0,xF 2 0,xF 1 0,xF 0 0]/\((List.length z.6<=mh/\ch=ch)/\(1<=1/\1=1)/\List.length z.6+1<=68719476736)/\∀(c:Nat),List.length z.6+1<=c->dP Tryz.f42 1 17 [⟨14,[],[0],[1,2,3,4,5,6,18,16],false⟩,xF 13 0,xF 12 0,⟨11,[17],[15,18],[18],true⟩,⟨10,[],[17],[17],false⟩,xE 9,xR 8 0,xF 7 0,xF 6 0,xF 5 0,⟨4,[0],[],[15],false⟩,xF 3 0,xF 2 0,xF 1 0,xF 0 0]/\∃(s:QbA),[aP 2 0,aU l]=[aP 2 0,aU s.2]/\[stoB (Sh.s z)]=[stoB (QbA.s s)]/\U64 s.2/\∀(x:Unit),True->∃(s_1:Nat->Int),[aP 1 0]=[aP 1 0]/\[ramB z.1]=[ramB s_1]/\True/\∀(x:Unit),True->∃(s_2:Qu),[aP 2 0,aI 0]=[aP 2 0,aI s_2.2]/\[stoB (bif true then Sto.crash (QbA.s s) (QbA.l s)else have __src:=crTo s 9;Sto.mk (Sto.now __src) (Sto.good __src) (zF) (Sto.fl __src) (Sto.fe __src))]=[stoB (Qu.s s_2)]/\(iR s_2.2 (72:Int))/\∀(x:Unit),True->∃(s:QaY),[aP 1 0,aI 1,aU (IntKind.wrap .u64 (IntKind.wrap .i64 ((Qu.s s_2).1 (Int.toNat s_2.2))))]=[aP 1 0,aI s.2,aU s.3]/\[SB.cells [nU 16 zF] 124]=[ramB s.1]/\(iR s.2 (16:Int))/\∀(x:Unit),True->List.length z.7<=cv/\(∃(s0:Ann.σ (Qo6 (ShS.mk z r mh ch nh zh mv cv nv zv) l)),(eS (aP 0 0) (aP 0 0)/\eS (aI (IntKind.wrap .i64 ((Qu.s s_2).1 (Int.toNat s_2.2)))) (aI (Qt l z.2 0))/\eS (aI (IntKind.wrap .i64 ((↑(List.length z.7):Int)-(1:Int)))) (aI ((↑s0.1:Int)-(1:Int)))/\True)/\(shI (shD z.4 (IntKind.wrap .i64 (z.5+(1:Int))) 18 (List.length z.6+1) c nh 16 (List.length z.7) cv nv) (putF s.1 (Int.toNat s.2) s.3) (Qu.s s_2) (stX (Sh.w z) r) (stA r) (stD r) (evB (List.length z.6+1) c fun (i j:Nat)=>bif Nat.ble (i+1) (List.length z.6)then zh i j else match List.get?Internal (match List.get?Internal [[(3:Int),(0:Int),(0:Int),(0:Int),(0:Int),(0:Int),(0:Int),(0:Int),IntKind.wrap .i64 (z.5+(1:Int))]] (0+(i-List.length z.6))with|some x=>x|none=>[]) j with|some x=>x|none=>(0:Int)) (vdB mv cv zv) [])=(shI (shD z.4 (z.5+(1:Int)) 18 s0.8 s0.3 s0.4 16 s0.1 cv nv) (putF (zF) 1 (Qt l z.2 0)) (Sto.crash (Sh.s z) l) (stX (Sh.w z) r) (stA r) (stD r) (evB s0.2 s0.3 s0.5) (vdB mv cv zv) []))/\∀(s:CraG z l),bif decide ((↑s.1:Int)-(1:Int)>=(0:Int))then ((0:Int)<=(↑s.1:Int)-(1:Int)/\(↑s.1:Int)-(1:Int)<(↑s.1:Int)/\0+s.1<=cv)/\0+Int.toNat ((↑s.1:Int)-(1:Int))<mv/\bif decide (zv (0+Int.toNat ((↑s.1:Int)-(1:Int))) 0>IntKind.wrap .u64 (Qt l z.2 0))then ((0:Int)<=(↑s.1:Int)-(1:Int)/\(↑s.1:Int)-(1:Int)<=(↑cv:Int))/\∃(s':CraG z l),((eS (aP 0 0) (aP 0 0)/\eS (aI (Qt l z.2 0)) (aI (Qt l z.2 0))/\eS (aI (IntKind.wrap .i64 ((↑s.1:Int)-(1:Int)-(1:Int)))) (aI ((↑s'.1:Int)-(1:Int)))/\True)/\(shI (shD z.4 (z.5+(1:Int)) 15 s.8 s.3 s.4 16 (Int.toNat ((↑s.1:Int)-(1:Int))) cv nv) (putF (zF) 1 (Qt l z.2 0)) (Sto.crash (Sh.s z) l) (stX (Sh.w z) r) (stA r) (stD r) (evB s.2 s.3 s.5) (vdB mv cv zv) [])=(shI (shD z.4 (z.5+(1:Int)) 15 s'.8 s'.3 s'.4 16 s'.1 cv nv) (putF (zF) 1 (Qt l z.2 0)) (Sto.crash (Sh.s z) l) (stX (Sh.w z) r) (stA r) (stD r) (evB s'.2 s'.3 s'.5) (vdB mv cv zv) []))/\s'.1<s.1 else i04/\bif (Sh.w z 0).2 != (0:Int)then ∃(s_3:Qb),[aP 3 0,SA.a [sI (Sh.w z 0).3,sI (Sh.w z 0).4,sI (Sh.w z 0).5],aI (Sh.w z 0).6,aB true]=[aP 3 0,SA.a [sI s_3.2,sI s_3.3,sI s_3.4],aI s_3.5,aB true]/\[wkR 7 8 (Sh.w z 0) (r 0),waR (r 0),wdR (r 0)]=[wkC 7 8 (WkS.w (Qb.s s_3)) (Qb.s s_3).3 (Qb.s s_3).4 (Qb.s s_3).7 (Qb.s s_3).8,wkA (Qb.s s_3).2 (Qb.s s_3).3 (Qb.s s_3).5,wkD (Qb.s s_3).6 (Qb.s s_3).7 (Qb.s s_3).9]/\True/\∀(x:Unit),True->dP Tryz.f42 14 17 [⟨9,[],[3,7,8,17,18],[17,18],false⟩,xR 8 3,xF 7 3,xF 6 3,xF 5 3,xR 4 3,xF 3 3,xF 2 3,xF 1 3,xF 0 3]/\(iR (1:Int) (4:Int))/\bif (Sh.w z 1).2 != (0:Int)then ∃(s_4:Qb),[aP 4 0,SA.a [sI (Sh.w z 1).3,sI (Sh.w z 1).4,sI (Sh.w z 1).5],aI (Sh.w z 1).6,aB true]=[aP 4 0,SA.a [sI s_4.2,sI s_4.3,sI s_4.4],aI s_4.5,aB true]/\[wkR 9 10 (Sh.w z 1) (r 1),waR (r 1),wdR (r 1)]=[wkC 9 10 (WkS.w (Qb.s s_4)) (Qb.s s_4).3 (Qb.s s_4).4 (Qb.s s_4).7 (Qb.s s_4).8,wkA (Qb.s s_4).2 (Qb.s s_4).3 (Qb.s s_4).5,wkD (Qb.s s_4).6 (Qb.s s_4).7 (Qb.s s_4).9]/\True/\∀(x:Unit),True->dP Tryz.f42 14 19 [⟨9,[],[4,9,10,19,20],[19,20],false⟩,xR 8 4,xF 7 4,xF 6 4,xF 5 4,xR 4 4,xF 3 4,xF 2 4,xF 1 4,xF 0 4]/\(iR (2:Int) (4:Int))/\bif (Sh.w z 2).2 != (0:Int)then ∃(s_5:Qb),[aP 5 0,SA.a [sI (Sh.w z 2).3,sI (Sh.w z 2).4,sI (Sh.w z 2).5],aI (Sh.w z 2).6,aB true]=[aP 5 0,SA.a [sI s_5.2,sI s_5.3,sI s_5.4],aI s_5.5,aB true]/\[wkR 11 12 (Sh.w z 2) (r 2),waR (r 2),wdR (r 2)]=[wkC 11 12 (WkS.w (Qb.s s_5)) (Qb.s s_5).3 (Qb.s s_5).4 (Qb.s s_5).7 (Qb.s s_5).8,wkA (Qb.s s_5).2 (Qb.s s_5).3 (Qb.s s_5).5,wkD (Qb.s s_5).6 (Qb.s s_5).7 (Qb.s s_5).9]/\True/\∀(x:Unit),True->dP Tryz.f42 14 21 [⟨9,[],[5,11,12,21,22],[21,22],false⟩,xR 8 5,xF 7 5,xF 6 5,xF 5 5,xR 4 5,xF 3 5,xF 2 5,xF 1 5,xF 0 5]/\(iR (3:Int) (4:Int))/\bif (Sh.w z 3).2 != (0:Int)then ∃(s_6:Qb),[aP 6 0,SA.a [sI (Sh.w z 3).3,sI (Sh.w z 3).4,sI (Sh.w z 3).5],aI (Sh.w z 3).6,aB true]=[aP 6 0,SA.a [sI s_6.2,sI s_6.3,sI s_6.4],aI s_6.5,aB true]/\[wkR 13 14 (Sh.w z 3) (r 3),waR (r 3),wdR (r 3)]=[wkC 13 14 (WkS.w (Qb.s s_6)) (Qb.s s_6).3 (Qb.s s_6).4 (Qb.s s_6).7 (Qb.s s_6).8,wkA (Qb.s s_6).2 (Qb.s s_6).3 (Qb.s s_6).5,wkD (Qb.s s_6).6 (Qb.s s_6).7 (Qb.s s_6).9]/\True/\∀(x:Unit),True->dP Tryz.f42 14 23 [⟨9,[],[6,13,14,23,24],[23,24],false⟩,xR 8 6,xF 7 6,xF 6 6,xF 5 6,xR 4 6,xF 3 6,xF 2 6,xF 1 6,xF 0 6]/\endN Q3 [] (fun (x:SV) (M:List SB)=>shAt M 0) (ShS.mk z r mh ch nh zh mv cv nv zv,l) (SV.t []) (shI (shD z.4 (z.5+(1:Int)) 15 s.8 s.3 s.4 16 s.1 cv nv) (putF (zF) 1 (Qt l z.2 0)) (Sto.crash (Sh.s z) l) (setF (setF (setF (setF (stX (Sh.w z) r) 0 (wkZ 17 18 (wcA s_3))) 1 (wkZ 19 20 (wcA s_4))) 2 (wkZ 21 22 (wcA s_5))) 3 (wkZ 23 24 (wcA s_6))) (setF (setF (setF (setF (stA r) 0 SB.gone) 1 SB.gone) 2 SB.gone) 3 SB.gone) (setF (setF (setF (setF (stD r) 0 SB.gone) 1 SB.gone) 2 SB.gone) 3 SB.gone) (evB s.2 s.3 s.5) (vdB mv cv zv) [wa0,wd0,wa0,wd0,wa0,wd0,wa0,wd0])else endN Q3 [] (fun (x:SV) (M:List SB)=>shAt M 0) (ShS.mk z r mh ch nh zh mv cv nv zv,l) (SV.t []) (shI (shD z.4 (z.5+(1:Int)) 15 s.8 s.3 s.4 16 s.1 cv nv) (putF (zF) 1 (Qt l z.2 0)) (Sto.crash (Sh.s z) l) (setF (setF (setF (stX (Sh.w z) r) 0 (wkZ 17 18 (wcA s_3))) 1 (wkZ 19 20 (wcA s_4))) 2 (wkZ 21 22 (wcA s_5))) (setF (setF (setF (stA r) 0 SB.gone) 1 SB.gone) 2 SB.gone) (setF (setF (setF (stD r) 0 SB.gone) 1 SB.gone) 2 SB.gone) (evB s.2 s.3 s.5) (vdB mv cv zv) [wa0,wd0,wa0,wd0,wa0,wd0])else (iR (3:Int) (4:Int))/\bif (Sh.w z 3).2 != (0:Int)then ∃(s_5:Qb),[aP 6 0,SA.a [sI (Sh.w z 3).3,sI (Sh.w z 3).4,sI (Sh.w z 3).5],aI (Sh.w z 3).6,aB true]=[aP 6 0,SA.a [sI s_5.2,sI s_5.3,sI s_5.4],aI s_5.5,aB true]/\[wkR 13 14 (Sh.w z 3) (r 3),waR (r 3),wdR (r 3)]=[wkC 13 14 (WkS.w (Qb.s s_5)) (Qb.s s_5).3 (Qb.s s_5).4 (Qb.s s_5).7 (Qb.s s_5).8,wkA (Qb.s s_5).2 (Qb.s s_5).3 (Qb.s s_5).5,wkD (Qb.s s_5).6 (Qb.s s_5).7 (Qb.s s_5).9]/\True/\∀(x:Unit),True->dP Tryz.f42 14 21 [⟨9,[],[6,13,14,21,22],[21,22],false⟩,xR 8 6,xF 7 6,xF 6 6,xF 5 6,xR 4 6,xF 3 6,xF 2 6,xF 1 6,xF 0 6]/\endN Q3 [] (fun (x:SV) (M:List SB)=>shAt M 0) (ShS.mk z r mh ch nh zh mv cv nv zv,l) (SV.t []) (shI (shD z.4 (z.5+(1:Int)) 15 s.8 s.3 s.4 16 s.1 cv nv) (putF (zF) 1 (Qt l z.2 0)) (Sto.crash (Sh.s z) l) (setF (setF (setF (stX (Sh.w z) r) 0 (wkZ 17 18 (wcA s_3))) 1 (wkZ 19 20 (wcA s_4))) 3 (wkZ 21 22 (wcA s_5))) (setF (setF (setF (stA r) 0 SB.gone) 1 SB.gone) 3 SB.gone) (setF (setF (setF (stD r) 0 SB.gone) 1 SB.gone) 3 SB.gone) (evB s.2 s.3 s.5) (vdB mv cv zv) [wa0,wd0,wa0,wd0,wa0,wd0])else endN Q3 [] (fun (x:SV) (M:List SB)=>shAt M 0) (ShS.mk z r mh ch nh zh mv cv nv zv,l) (SV.t []) (shI (shD z.4 (z.5+(1:Int)) 15 s.8 s.3 s.4 16 s.1 cv nv) (putF (zF) 1 (Qt l z.2 0)) (Sto.crash (Sh.s z) l) (setF (setF (stX (Sh.w z) r) 0 (wkZ 17 18 (wcA s_3))) 1 (wkZ 19 20 (wcA s_4))) (setF (setF (stA r) 0 SB.gone) 1 SB.gone) (setF (setF (stD r) 0 SB.gone) 1 SB.gone) (evB s.2 s.3 s.5) (vdB mv cv zv) [wa0,wd0,wa0,wd0])else (iR (2:Int) (4:Int))/\bif (Sh.w z 2).2 != (0:Int)then ∃(s_4:Qb),[aP 5 0,SA.a [sI (Sh.w z 2).3,sI (Sh.w z 2).4,sI (Sh.w z 2).5],aI (Sh.w z 2).6,aB true]=[aP 5 0,SA.a [sI s_4.2,sI s_4.3,sI s_4.4],aI s_4.5,aB true]/\[wkR 11 12 (Sh.w z 2) (r 2),waR (r 2),wdR (r 2)]=[wkC 11 12 (WkS.w (Qb.s s_4)) (Qb.s s_4).3 (Qb.s s_4).4 (Qb.s s_4).7 (Qb.s s_4).8,wkA (Qb.s s_4).2 (Qb.s s_4).3 (Qb.s s_4).5,wkD (Qb.s s_4).6 (Qb.s s_4).7 (Qb.s s_4).9]/\True/\∀(x:Unit),True->dP Tryz.f42 14 19 [⟨9,[],[5,11,12,19,20],[19,20],false⟩,xR 8 5,xF 7 5,xF 6 5,xF 5 5,xR 4 5,xF 3 5,xF 2 5,xF 1 5,xF 0 5]/\(iR (3:Int) (4:Int))/\bif (Sh.w z 3).2 != (0:Int)then ∃(s_5:Qb),[aP 6 0,SA.a [sI (Sh.w z 3).3,sI (Sh.w z 3).4,sI (Sh.w z 3).5],aI (Sh.w z 3).6,aB true]=[aP 6 0,SA.a [sI s_5.2,sI s_5.3,sI s_5.4],aI s_5.5,aB true]/\[wkR 13 14 (Sh.w z 3) (r 3),waR (r 3),wdR (r 3)]=[wkC 13 14 (WkS.w (Qb.s s_5)) (Qb.s s_5).3 (Qb.s s_5).4 (Qb.s s_5).7 (Qb.s s_5).8,wkA (Qb.s s_5).2 (Qb.s s_5).3 (Qb.s s_5).5,wkD (Qb.s s_5).6 (Qb.s s_5).7 (Qb.s s_5).9]/\True/\∀(x:Unit),True->dP Tryz.f42 14 21 [⟨9,[],[6,13,14,21,22],[21,22],false⟩,xR 8 6,xF 7 6,xF 6 6,xF 5 6,xR 4 6,xF 3 6,xF 2 6,xF 1 6,xF 0 6]/\endN Q3 [] (fun (x:SV) (M:List SB)=>shAt M 0) (ShS.mk z r mh ch nh zh mv cv nv zv,l) (SV.t []) (shI (shD z.4 (z.5+(1:Int)) 15 s.8 s.3 s.4 16 s.1 cv nv) (putF (zF) 1 (Qt l z.2 0)) (Sto.crash (Sh.s z) l) (setF (setF (setF (stX (Sh.w z) r) 0 (wkZ 17 18 (wcA s_3))) 2 (wkZ 19 20 (wcA s_4))) 3 (wkZ 21 22 (wcA s_5))) (setF (setF (setF (stA r) 0 SB.gone) 2 SB.gone) 3 SB.gone) (setF (setF (setF (stD r) 0 SB.gone) 2 SB.gone) 3 SB.gone) (evB s.2 s.3 s.5) (vdB mv cv zv) [wa0,wd0,wa0,wd0,wa0,wd0])else endN Q3 [] (fun (x:SV) (M:List SB)=>shAt M 0) (ShS.mk z r mh ch nh zh mv cv nv zv,l) (SV.t []) (shI (shD z.4 (z.5+(1:Int)) 15 s.8 s.3 s.4 16 s.1 cv nv) (putF (zF) 1 (Qt l z.2 0)) (Sto.crash (Sh.s z) l) (setF (setF (stX (Sh.w z) r) 0 (wkZ 17 18 (wcA s_3))) 2 (wkZ 19 20 (wcA s_4))) (setF (setF (stA r) 0 SB.gone) 2 SB.gone) (setF (setF (stD r) 0 SB.gone) 2 SB.gone) (evB s.2 s.3 s.5) (vdB mv cv zv) [wa0,wd0,wa0,wd0])else (iR (3:Int) (4:Int))/\bif (Sh.w z 3).2 != (0:Int)then ∃(s_4:Qb),[aP 6 0,SA.a [sI (Sh.w z 3).3,sI (Sh.w z 3).4,sI (Sh.w z 3).5],aI (Sh.w z 3).6,aB true]=[aP 6 0,SA.a [sI s_4.2,sI s_4.3,sI s_4.4],aI s_4.5,aB true]/\[wkR 13 14 (Sh.w z 3) (r 3),waR (r 3),wdR (r 3)]=[wkC 13 14 (WkS.w (Qb.s s_4)) (Qb.s s_4).3 (Qb.s s_4).4 (Qb.s s_4).7 (Qb.s s_4).8,wkA (Qb.s s_4).2 (Qb.s s_4).3 (Qb.s s_4).5,wkD (Qb.s s_4).6 (Qb.s s_4).7 (Qb.s s_4).9]/\True/\∀(x:Unit),True->dP Tryz.f42 14 19 [⟨9,[],[6,13,14,19,20],[19,20],false⟩,xR 8 6,xF 7 6,xF 6 6,xF 5 6,xR 4 6,xF 3 6,xF 2 6,xF 1 6,xF 0 6]/\endN Q3 [] (fun (x:SV) (M:List SB)=>shAt M 0) (ShS.mk z r mh ch nh zh mv cv nv zv,l) (SV.t []) (shI (shD z.4 (z.5+(1:Int)) 15 s.8 s.3 s.4 16 s.1 cv nv) (putF (zF) 1 (Qt l z.2 0)) (Sto.crash (Sh.s z) l) (setF (setF (stX (Sh.w z) r) 0 (wkZ 17 18 (wcA s_3))) 3 (wkZ 19 20 (wcA s_4))) (setF (setF (stA r) 0 SB.gone) 3 SB.gone) (setF (setF (stD r) 0 SB.gone) 3 SB.gone) (evB s.2 s.3 s.5) (vdB mv cv zv) [wa0,wd0,wa0,wd0])else endN Q3 [] (fun (x:SV) (M:List SB)=>shAt M 0) (ShS.mk z r mh ch nh zh mv cv nv zv,l) (SV.t []) (shI (shD z.4 (z.5+(1:Int)) 15 s.8 s.3 s.4 16 s.1 cv nv) (putF (zF) 1 (Qt l z.2 0)) (Sto.crash (Sh.s z) l) (setF (stX (Sh.w z) r) 0 (wkZ 17 18 (wcA s_3))) (setF (stA r) 0 SB.gone) (setF (stD r) 0 SB.gone) (evB s.2 s.3 s.5) (vdB mv cv zv) [wa0,wd0])else (iR (1:Int) (4:Int))/\bif (Sh.w z 1).2 != (0:Int)then ∃(s_3:Qb),[aP 4 0,SA.a [sI (Sh.w z 1).3,sI (Sh.w z 1).4,sI (Sh.w z 1).5],aI (Sh.w z 1).6,aB true]=[aP 4 0,SA.a [sI s_3.2,sI s_3.3,sI s_3.4],aI s_3.5,aB true]/\[wkR 9 10 (Sh.w z 1) (r 1),waR (r 1),wdR (r 1)]=[wkC 9 10 (WkS.w (Qb.s s_3)) (Qb.s s_3).3 (Qb.s s_3).4 (Qb.s s_3).7 (Qb.s s_3).8,wkA (Qb.s s_3).2 (Qb.s s_3).3 (Qb.s s_3).5,wkD (Qb.s s_3).6 (Qb.s s_3).7 (Qb.s s_3).9]/\True/\∀(x:Unit),True->dP Tryz.f42 14 17 [⟨9,[],[4,9,10,17,18],[17,18],false⟩,xR 8 4,xF 7 4,xF 6 4,xF 5 4,xR 4 4,xF 3 4,xF 2 4,xF 1 4,xF 0 4]/\(iR (2:Int) (4:Int))/\bif (Sh.w z 2).2 != (0:Int)then ∃(s_4:Qb),[aP 5 0,SA.a [sI (Sh.w z 2).3,sI (Sh.w z 2).4,sI (Sh.w z 2).5],aI (Sh.w z 2).6,aB true]=[aP 5 0,SA.a [sI s_4.2,sI s_4.3,sI s_4.4],aI s_4.5,aB true]/\[wkR 11 12 (Sh.w z 2) (r 2),waR (r 2),wdR (r 2)]=[wkC 11 12 (WkS.w (Qb.s s_4)) (Qb.s s_4).3 (Qb.s s_4).4 (Qb.s s_4).7 (Qb.s s_4).8,wkA (Qb.s s_4).2 (Qb.s s_4).3 (Qb.s s_4).5,wkD (Qb.s s_4).6 (Qb.s s_4).7 (Qb.s s_4).9]/\True/\∀(x:Unit),True->dP Tryz.f42 14 19 [⟨9,[],[5,11,12,19,20],[19,20],false⟩,xR 8 5,xF 7 5,xF 6 5,xF 5 5,xR 4 5,xF 3 5,xF 2 5,xF 1 5,xF 0 5]/\(iR (3:Int) (4:Int))/\bif (Sh.w z 3).2 != (0:Int)then ∃(s_5:Qb),[aP 6 0,SA.a [sI (Sh.w z 3).3,sI (Sh.w z 3).4,sI (Sh.w z 3).5],aI (Sh.w z 3).6,aB true]=[aP 6 0,SA.a [sI s_5.2,sI s_5.3,sI s_5.4],aI s_5.5,aB true]/\[wkR 13 14 (Sh.w z 3) (r 3),waR (r 3),wdR (r 3)]=[wkC 13 14 (WkS.w (Qb.s s_5)) (Qb.s s_5).3 (Qb.s s_5).4 (Qb.s s_5).7 (Qb.s s_5).8,wkA (Qb.s s_5).2 (Qb.s s_5).3 (Qb.s s_5).5,wkD (Qb.s s_5).6 (Qb.s s_5).7 (Qb.s s_5).9]/\True/\∀(x:Unit),True->dP Tryz.f42 14 21 [⟨9,[],[6,13,14,21,22],[21,22],false⟩,xR 8 6,xF 7 6,xF 6 6,xF 5 6,xR 4 6,xF 3 6,xF 2 6,xF 1 6,xF 0 6]/\endN Q3 [] (fun (x:SV) (M:List SB)=>shAt M 0) (ShS.mk z r mh ch nh zh mv cv nv zv,l) (SV.t []) (shI (shD z.4 (z.5+(1:Int)) 15 s.8 s.3 s.4 16 s.1 cv nv) (putF (zF) 1 (Qt l z.2 0)) (Sto.crash (Sh.s z) l) (setF (setF (setF (stX (Sh.w z) r) 1 (wkZ 17 18 (wcA s_3))) 2 (wkZ 19 20 (wcA s_4))) 3 (wkZ 21 22 (wcA s_5))) (setF (setF (setF (stA r) 1 SB.gone) 2 SB.gone) 3 SB.gone) (setF (setF (setF (stD r) 1 SB.gone) 2 SB.gone) 3 SB.gone) (evB s.2 s.3 s.5) (vdB mv cv zv) [wa0,wd0,wa0,wd0,wa0,wd0])else endN Q3 [] (fun (x:SV) (M:List SB)=>shAt M 0) (ShS.mk z r mh ch nh zh mv cv nv zv,l) (SV.t []) (shI (shD z.4 (z.5+(1:Int)) 15 s.8 s.3 s.4 16 s.1 cv nv) (putF (zF) 1 (Qt l z.2 0)) (Sto.crash (Sh.s z) l) (setF (setF (stX (Sh.w z) r) 1 (wkZ 17 18 (wcA s_3))) 2 (wkZ 19 20 (wcA s_4))) (setF (setF (stA r) 1 SB.gone) 2 SB.gone) (setF (setF (stD r) 1 SB.gone) 2 SB.gone) (evB s.2 s.3 s.5) (vdB mv cv zv) [wa0,wd0,wa0,wd0])else (iR (3:Int) (4:Int))/\bif (Sh.w z 3).2 != (0:Int)then ∃(s_4:Qb),[aP 6 0,SA.a [sI (Sh.w z 3).3,sI (Sh.w z 3).4,sI (Sh.w z 3).5],aI (Sh.w z 3).6,aB true]=[aP 6 0,SA.a [sI s_4.2,sI s_4.3,sI s_4.4],aI s_4.5,aB true]/\[wkR 13 14 (Sh.w z 3) (r 3),waR (r 3),wdR (r 3)]=[wkC 13 14 (WkS.w (Qb.s s_4)) (Qb.s s_4).3 (Qb.s s_4).4 (Qb.s s_4).7 (Qb.s s_4).8,wkA (Qb.s s_4).2 (Qb.s s_4).3 (Qb.s s_4).5,wkD (Qb.s s_4).6 (Qb.s s_4).7 (Qb.s s_4).9]/\True/\∀(x:Unit),True->dP Tryz.f42 14 19 [⟨9,[],[6,13,14,19,20],[19,20],false⟩,xR 8 6,xF 7 6,xF 6 6,xF 5 6,xR 4 6,xF 3 6,xF 2 6,xF 1 6,xF 0 6]/\endN Q3 [] (fun (x:SV) (M:List SB)=>shAt M 0) (ShS.mk z r mh ch nh zh mv cv nv zv,l) (SV.t []) (shI (shD z.4 (z.5+(1:Int)) 15 s.8 s.3 s.4 16 s.1 cv nv) (putF (zF) 1 (Qt l z.2 0)) (Sto.crash (Sh.s z) l) (setF (setF (stX (Sh.w z) r) 1 (wkZ 17 18 (wcA s_3))) 3 (wkZ 19 20 (wcA s_4))) (setF (setF (stA r) 1 SB.gone) 3 SB.gone) (setF (setF (stD r) 1 SB.gone) 3 SB.gone) (evB s.2 s.3 s.5) (vdB mv cv zv) [wa0,wd0,wa0,wd0])else endN Q3 [] (fun (x:SV) (M:List SB)=>shAt M 0) (ShS.mk z r mh ch nh zh mv cv nv zv,l) (SV.t []) (shI (shD z.4 (z.5+(1:Int)) 15 s.8 s.3 s.4 16 s.1 cv nv) (putF (zF) 1 (Qt l z.2 0)) (Sto.crash (Sh.s z) l) (setF (stX (Sh.w z) r) 1 (wkZ 17 18 (wcA s_3))) (setF (stA r) 1 SB.gone) (setF (stD r) 1 SB.gone) (evB s.2 s.3 s.5) (vdB mv cv zv) [wa0,wd0])else (iR (2:Int) (4:Int))/\bif (Sh.w z 2).2 != (0:Int)then ∃(s_3:Qb),[aP 5 0,SA.a [sI (Sh.w z 2).3,sI (Sh.w z 2).4,sI (Sh.w z 2).5],aI (Sh.w z 2).6,aB true]=[aP 5 0,SA.a [sI s_3.2,sI s_3.3,sI s_3.4],aI s_3.5,aB true]/\[wkR 11 12 (Sh.w z 2) (r 2),waR (r 2),wdR (r 2)]=[wkC 11 12 (WkS.w (Qb.s s_3)) (Qb.s s_3).3 (Qb.s s_3).4 (Qb.s s_3).7 (Qb.s s_3).8,wkA (Qb.s s_3).2 (Qb.s s_3).3 (Qb.s s_3).5,wkD (Qb.s s_3).6 (Qb.s s_3).7 (Qb.s s_3).9]/\True/\∀(x:Unit),True->dP Tryz.f42 14 17 [⟨9,[],[5,11,12,17,18],[17,18],false⟩,xR 8 5,xF 7 5,xF 6 5,xF 5 5,xR 4 5,xF 3 5,xF 2 5,xF 1 5,xF 0 5]/\(iR (3:Int) (4:Int))/\bif (Sh.w z 3).2 != (0:Int)then ∃(s_4:Qb),[aP 6 0,SA.a [sI (Sh.w z 3).3,sI (Sh.w z 3).4,sI (Sh.w z 3).5],aI (Sh.w z 3).6,aB true]=[aP 6 0,SA.a [sI s_4.2,sI s_4.3,sI s_4.4],aI s_4.5,aB true]/\[wkR 13 14 (Sh.w z 3) (r 3),waR (r 3),wdR (r 3)]=[wkC 13 14 (WkS.w (Qb.s s_4)) (Qb.s s_4).3 (Qb.s s_4).4 (Qb.s s_4).7 (Qb.s s_4).8,wkA (Qb.s s_4).2 (Qb.s s_4).3 (Qb.s s_4).5,wkD (Qb.s s_4).6 (Qb.s s_4).7 (Qb.s s_4).9]/\True/\∀(x:Unit),True->dP Tryz.f42 14 19 [⟨9,[],[6,13,14,19,20],[19,20],false⟩,xR 8 6,xF 7 6,xF 6 6,xF 5 6,xR 4 6,xF 3 6,xF 2 6,xF 1 6,xF 0 6]/\endN Q3 [] (fun (x:SV) (M:List SB)=>shAt M 0) (ShS.mk z r mh ch nh zh mv cv nv zv,l) (SV.t []) (shI (shD z.4 (z.5+(1:Int)) 15 s.8 s.3 s.4 16 s.1 cv nv) (putF (zF) 1 (Qt l z.2 0)) (Sto.crash (Sh.s z) l) (setF (setF (stX (Sh.w z) r) 2 (wkZ 17 18 (wcA s_3))) 3 (wkZ 19 20 (wcA s_4))) (setF (setF (stA r) 2 SB.gone) 3 SB.gone) (setF (setF (stD r) 2 SB.gone) 3 SB.gone) (evB s.2 s.3 s.5) (vdB mv cv zv) [wa0,wd0,wa0,wd0])else endN Q3 [] (fun (x:SV) (M:List SB)=>shAt M 0) (ShS.mk z r mh ch nh zh mv cv nv zv,l) (SV.t []) (shI (shD z.4 (z.5+(1:Int)) 15 s.8 s.3 s.4 16 s.1 cv nv) (putF (zF) 1 (Qt l z.2 0)) (Sto.crash (Sh.s z) l) (setF (stX (Sh.w z) r) 2 (wkZ 17 18 (wcA s_3))) (setF (stA r) 2 SB.gone) (setF (stD r) 2 SB.gone) (evB s.2 s.3 s.5) (vdB mv cv zv) [wa0,wd0])else (iR (3:Int) (4:Int))/\bif (Sh.w z 3).2 != (0:Int)then ∃(s_3:Qb),[aP 6 0,SA.a [sI (Sh.w z 3).3,sI (Sh.w z 3).4,sI (Sh.w z 3).5],aI (Sh.w z 3).6,aB true]=[aP 6 0,SA.a [sI s_3.2,sI s_3.3,sI s_3.4],aI s_3.5,aB true]/\[wkR 13 14 (Sh.w z 3) (r 3),waR (r 3),wdR (r 3)]=[wkC 13 14 (WkS.w (Qb.s s_3)) (Qb.s s_3).3 (Qb.s s_3).4 (Qb.s s_3).7 (Qb.s s_3).8,wkA (Qb.s s_3).2 (Qb.s s_3).3 (Qb.s s_3).5,wkD (Qb.s s_3).6 (Qb.s s_3).7 (Qb.s s_3).9]/\True/\∀(x:Unit),True->dP Tryz.f42 14 17 [⟨9,[],[6,13,14,17,18],[17,18],false⟩,xR 8 6,xF 7 6,xF 6 6,xF 5 6,xR 4 6,xF 3 6,xF 2 6,xF 1 6,xF 0 6]/\endN Q3 [] (fun (x:SV) (M:List SB)=>shAt M 0) (ShS.mk z r mh ch nh zh mv cv nv zv,l) (SV.t []) (shI (shD z.4 (z.5+(1:Int)) 15 s.8 s.3 s.4 16 s.1 cv nv) (putF (zF) 1 (Qt l z.2 0)) (Sto.crash (Sh.s z) l) (setF (stX (Sh.w z) r) 3 (wkZ 17 18 (wcA s_3))) (setF (stA r) 3 SB.gone) (setF (stD r) 3 SB.gone) (evB s.2 s.3 s.5) (vdB mv cv zv) [wa0,wd0])else endN Q3 [] (fun (x:SV) (M:List SB)=>shAt M 0) (ShS.mk z r mh ch nh zh mv cv nv zv,l) (SV.t []) (shI (shD z.4 (z.5+(1:Int)) 15 s.8 s.3 s.4 16 s.1 cv nv) (putF (zF) 1 (Qt l z.2 0)) (Sto.crash (Sh.s z) l) (stX (Sh.w z) r) (stA r) (stD r) (evB s.2 s.3 s.5) (vdB mv cv zv) [])else i04/\bif (Sh.w z 0).2 != (0:Int)then ∃(s_3:Qb),[aP 3 0,SA.a [sI (Sh.w z 0).3,sI (Sh.w z 0).4,sI (Sh.w z 0).5],aI (Sh.w z 0).6,aB true]=[aP 3 0,SA.a [sI s_3.2,sI s_3.3,sI s_3.4],aI s_3.5,aB true]/\[wkR 7 8 (Sh.w z 0) (r 0),waR (r 0),wdR (r 0)]=[wkC 7 8 (WkS.w (Qb.s s_3)) (Qb.s s_3).3 (Qb.s s_3).4 (Qb.s s_3).7 (Qb.s s_3).8,wkA (Qb.s s_3).2 (Qb.s s_3).3 (Qb.s s_3).5,wkD (Qb.s s_3).6 (Qb.s s_3).7 (Qb.s s_3).9]/\True/\∀(x:Unit),True->dP Tryz.f42 14 17 [⟨9,[],[3,7,8,17,18],[17,18],false⟩,xR 8 3,xF 7 3,xF 6 3,xF 5 3,xR 4 3,xF 3 3,xF 2 3,xF 1 3,xF 0 3]/\(iR (1:Int) (4:Int))/\bif (Sh.w z 1).2 != (0:Int)then ∃(s_4:Qb),[aP 4 0,SA.a [sI (Sh.w z 1).3,sI (Sh.w z 1).4,sI (Sh.w z 1).5],aI (Sh.w z 1).6,aB true]=[aP 4 0,SA.a [sI s_4.2,sI s_4.3,sI s_4.4],aI s_4.5,aB true]/\[wkR 9 10 (Sh.w z 1) (r 1),waR (r 1),wdR (r 1)]=[wkC 9 10 (WkS.w (Qb.s s_4)) (Qb.s s_4).3 (Qb.s s_4).4 (Qb.s s_4).7 (Qb.s s_4).8,wkA (Qb.s s_4).2 (Qb.s s_4).3 (Qb.s s_4).5,wkD (Qb.s s_4).6 (Qb.s s_4).7 (Qb.s s_4).9]/\True/\∀(x:Unit),True->dP Tryz.f42 14 19 [⟨9,[],[4,9,10,19,20],[19,20],false⟩,xR 8 4,xF 7 4,xF 6 4,xF 5 4,xR 4 4,xF 3 4,xF 2 4,xF 1 4,xF 0 4]/\(iR (2:Int) (4:Int))/\bif (Sh.w z 2).2 != (0:Int)then ∃(s_5:Qb),[aP 5 0,SA.a [sI (Sh.w z 2).3,sI (Sh.w z 2).4,sI (Sh.w z 2).5],aI (Sh.w z 2).6,aB true]=[aP 5 0,SA.a [sI s_5.2,sI s_5.3,sI s_5.4],aI s_5.5,aB true]/\[wkR 11 12 (Sh.w z 2) (r 2),waR (r 2),wdR (r 2)]=[wkC 11 12 (WkS.w (Qb.s s_5)) (Qb.s s_5).3 (Qb.s s_5).4 (Qb.s s_5).7 (Qb.s s_5).8,wkA (Qb.s s_5).2 (Qb.s s_5).3 (Qb.s s_5).5,wkD (Qb.s s_5).6 (Qb.s s_5).7 (Qb.s s_5).9]/\True/\∀(x:Unit),True->dP Tryz.f42 14 21 [⟨9,[],[5,11,12,21,22],[21,22],false⟩,xR 8 5,xF 7 5,xF 6 5,xF 5 5,xR 4 5,xF 3 5,xF 2 5,xF 1 5,xF 0 5]/\(iR (3:Int) (4:Int))/\bif (Sh.w z 3).2 != (0:Int)then ∃(s_6:Qb),[aP 6 0,SA.a [sI (Sh.w z 3).3,sI (Sh.w z 3).4,sI (Sh.w z 3).5],aI (Sh.w z 3).6,aB true]=[aP 6 0,SA.a [sI s_6.2,sI s_6.3,sI s_6.4],aI s_6.5,aB true]/\[wkR 13 14 (Sh.w z 3) (r 3),waR (r 3),wdR (r 3)]=[wkC 13 14 (WkS.w (Qb.s s_6)) (Qb.s s_6).3 (Qb.s s_6).4 (Qb.s s_6).7 (Qb.s s_6).8,wkA (Qb.s s_6).2 (Qb.s s_6).3 (Qb.s s_6).5,wkD (Qb.s s_6).6 (Qb.s s_6).7 (Qb.s s_6).9]/\True/\∀(x:Unit),True->dP Tryz.f42 14 23 [⟨9,[],[6,13,14,23,24],[23,24],false⟩,xR 8 6,xF 7 6,xF 6 6,xF 5 6,xR 4 6,xF 3 6,xF 2 6,xF 1 6,xF 0 6]/\endN Q3 [] (fun (x:SV) (M:List SB)=>shAt M 0) (ShS.mk z r mh ch nh zh mv cv nv zv,l) (SV.t []) (shI (shD z.4 (z.5+(1:Int)) 15 s.8 s.3 s.4 16 s.1 cv nv) (putF (zF) 1 (Qt l z.2 0)) (Sto.crash (Sh.s z) l) (setF (setF (setF (setF (stX (Sh.w z) r) 0 (wkZ 17 18 (wcA s_3))) 1 (wkZ 19 20 (wcA s_4))) 2 (wkZ 21 22 (wcA s_5))) 3 (wkZ 23 24 (wcA s_6))) (setF (setF (setF (setF (stA r) 0 SB.gone) 1 SB.gone) 2 SB.gone) 3 SB.gone) (setF (setF (setF (setF (stD r) 0 SB.gone) 1 SB.gone) 2 SB.gone) 3 SB.gone) (evB s.2 s.3 s.5) (vdB mv cv zv) [wa0,wd0,wa0,wd0,wa0,wd0,wa0,wd0])else endN Q3 [] (fun (x:SV) (M:List SB)=>shAt M 0) (ShS.mk z r mh ch nh zh mv cv nv zv,l) (SV.t []) (shI (shD z.4 (z.5+(1:Int)) 15 s.8 s.3 s.4 16 s.1 cv nv) (putF (zF) 1 (Qt l z.2 0)) (Sto.crash (Sh.s z) l) (setF (setF (setF (stX (Sh.w z) r) 0 (wkZ 17 18 (wcA s_3))) 1 (wkZ 19 20 (wcA s_4))) 2 (wkZ 21 22 (wcA s_5))) (setF (setF (setF (stA r) 0 SB.gone) 1 SB.gone) 2 SB.gone) (setF (setF (setF (stD r) 0 SB.gone) 1 SB.gone) 2 SB.gone) (evB s.2 s.3 s.5) (vdB mv cv zv) [wa0,wd0,wa0,wd0,wa0,wd0])else (iR (3:Int) (4:Int))/\bif (Sh.w z 3).2 != (0:Int)then ∃(s_5:Qb),[aP 6 0,SA.a [sI (Sh.w z 3).3,sI (Sh.w z 3).4,sI (Sh.w z 3).5],aI (Sh.w z 3).6,aB true]=[aP 6 0,SA.a [sI s_5.2,sI s_5.3,sI s_5.4],aI s_5.5,aB true]/\[wkR 13 14 (Sh.w z 3) (r 3),waR (r 3),wdR (r 3)]=[wkC 13 14 (WkS.w (Qb.s s_5)) (Qb.s s_5).3 (Qb.s s_5).4 (Qb.s s_5).7 (Qb.s s_5).8,wkA (Qb.s s_5).2 (Qb.s s_5).3 (Qb.s s_5).5,wkD (Qb.s s_5).6 (Qb.s s_5).7 (Qb.s s_5).9]/\True/\∀(x:Unit),True->dP Tryz.f42 14 21 [⟨9,[],[6,13,14,21,22],[21,22],false⟩,xR 8 6,xF 7 6,xF 6 6,xF 5 6,xR 4 6,xF 3 6,xF 2 6,xF 1 6,xF 0 6]/\endN Q3 [] (fun (x:SV) (M:List SB)=>shAt M 0) (ShS.mk z r mh ch nh zh mv cv nv zv,l) (SV.t []) (shI (shD z.4 (z.5+(1:Int)) 15 s.8 s.3 s.4 16 s.1 cv nv) (putF (zF) 1 (Qt l z.2 0)) (Sto.crash (Sh.s z) l) (setF (setF (setF (stX (Sh.w z) r) 0 (wkZ 17 18 (wcA s_3))) 1 (wkZ 19 20 (wcA s_4))) 3 (wkZ 21 22 (wcA s_5))) (setF (setF (setF (stA r) 0 SB.gone) 1 SB.gone) 3 SB.gone) (setF (setF (setF (stD r) 0 SB.gone) 1 SB.gone) 3 SB.gone) (evB s.2 s.3 s.5) (vdB mv cv zv) [wa0,wd0,wa0,wd0,wa0,wd0])else endN Q3 [] (fun (x:SV) (M:List SB)=>shAt M 0) (ShS.mk z r mh ch nh zh mv cv nv zv,l) (SV.t []) (shI (shD z.4 (z.5+(1:Int)) 15 s.8 s.3 s.4 16 s.1 cv nv) (putF (zF) 1 (Qt l z.2 0)) (Sto.crash (Sh.s z) l) (setF (setF (stX (Sh.w z) r) 0 (wkZ 17 18 (wcA s_3))) 1 (wkZ 19 20 (wcA s_4))) (setF (setF (stA r) 0 SB.gone) 1 SB.gone) (setF (setF (stD r) 0 SB.gone) 1 SB.gone) (evB s.2 s.3 s.5) (vdB mv cv zv) [wa0,wd0,wa0,wd0])else (iR (2:Int) (4:Int))/\bif (Sh.w z 2).2 != (0:Int)then ∃(s_4:Qb),[aP 5 0,SA.a [sI (Sh.w z 2).3,sI (Sh.w z 2).4,sI (Sh.w z 2).5],aI (Sh.w z 2).6,aB true]=[aP 5 0,SA.a [sI s_4.2,sI s_4.3,sI s_4.4],aI s_4.5,aB true]/\[wkR 11 12 (Sh.w z 2) (r 2),waR (r 2),wdR (r 2)]=[wkC 11 12 (WkS.w (Qb.s s_4)) (Qb.s s_4).3 (Qb.s s_4).4 (Qb.s s_4).7 (Qb.s s_4).8,wkA (Qb.s s_4).2 (Qb.s s_4).3 (Qb.s s_4).5,wkD (Qb.s s_4).6 (Qb.s s_4).7 (Qb.s s_4).9]/\True/\∀(x:Unit),True->dP Tryz.f42 14 19 [⟨9,[],[5,11,12,19,20],[19,20],false⟩,xR 8 5,xF 7 5,xF 6 5,xF 5 5,xR 4 5,xF 3 5,xF 2 5,xF 1 5,xF 0 5]/\(iR (3:Int) (4:Int))/\bif (Sh.w z 3).2 != (0:Int)then ∃(s_5:Qb),[aP 6 0,SA.a [sI (Sh.w z 3).3,sI (Sh.w z 3).4,sI (Sh.w z 3).5],aI (Sh.w z 3).6,aB true]=[aP 6 0,SA.a [sI s_5.2,sI s_5.3,sI s_5.4],aI s_5.5,aB true]/\[wkR 13 14 (Sh.w z 3) (r 3),waR (r 3),wdR (r 3)]=[wkC 13 14 (WkS.w (Qb.s s_5)) (Qb.s s_5).3 (Qb.s s_5).4 (Qb.s s_5).7 (Qb.s s_5).8,wkA (Qb.s s_5).2 (Qb.s s_5).3 (Qb.s s_5).5,wkD (Qb.s s_5).6 (Qb.s s_5).7 (Qb.s s_5).9]/\True/\∀(x:Unit),True->dP Tryz.f42 14 21 [⟨9,[],[6,13,14,21,22],[21,22],false⟩,xR 8 6,xF 7 6,xF 6 6,xF 5 6,xR 4 6,xF 3 6,xF 2 6,xF 1 6,xF 0 6]/\endN Q3 [] (fun (x:SV) (M:List SB)=>shAt M 0) (ShS.mk z r mh ch nh zh mv cv nv zv,l) (SV.t []) (shI (shD z.4 (z.5+(1:Int)) 15 s.8 s.3 s.4 16 s.1 cv nv) (putF (zF) 1 (Qt l z.2 0)) (Sto.crash (Sh.s z) l) (setF (setF (setF (stX (Sh.w z) r) 0 (wkZ 17 18 (wcA s_3))) 2 (wkZ 19 20 (wcA s_4))) 3 (wkZ 21 22 (wcA s_5))) (setF (setF (setF (stA r) 0 SB.gone) 2 SB.gone) 3 SB.gone) (setF (setF (setF (stD r) 0 SB.gone) 2 SB.gone) 3 SB.gone) (evB s.2 s.3 s.5) (vdB mv cv zv) [wa0,wd0,wa0,wd0,wa0,wd0])else endN Q3 [] (fun (x:SV) (M:List SB)=>shAt M 0) (ShS.mk z r mh ch nh zh mv cv nv zv,l) (SV.t []) (shI (shD z.4 (z.5+(1:Int)) 15 s.8 s.3 s.4 16 s.1 cv nv) (putF (zF) 1 (Qt l z.2 0)) (Sto.crash (Sh.s z) l) (setF (setF (stX (Sh.w z) r) 0 (wkZ 17 18 (wcA s_3))) 2 (wkZ 19 20 (wcA s_4))) (setF (setF (stA r) 0 SB.gone) 2 SB.gone) (setF (setF (stD r) 0 SB.gone) 2 SB.gone) (evB s.2 s.3 s.5) (vdB mv cv zv) [wa0,wd0,wa0,wd0])else (iR (3:Int) (4:Int))/\bif (Sh.w z 3).2 != (0:Int)then ∃(s_4:Qb),[aP 6 0,SA.a [sI (Sh.w z 3).3,sI (Sh.w z 3).4,sI (Sh.w z 3).5],aI (Sh.w z 3).6,aB true]=[aP 6 0,SA.a [sI s_4.2,sI s_4.3,sI s_4.4],aI s_4.5,aB true]/\[wkR 13 14 (Sh.w z 3) (r 3),waR (r 3),wdR (r 3)]=[wkC 13 14 (WkS.w (Qb.s s_4)) (Qb.s s_4).3 (Qb.s s_4).4 (Qb.s s_4).7 (Qb.s s_4).8,wkA (Qb.s s_4).2 (Qb.s s_4).3 (Qb.s s_4).5,wkD (Qb.s s_4).6 (Qb.s s_4).7 (Qb.s s_4).9]/\True/\∀(x:Unit),True->dP Tryz.f42 14 19 [⟨9,[],[6,13,14,19,20],[19,20],false⟩,xR 8 6,xF 7 6,xF 6 6,xF 5 6,xR 4 6,xF 3 6,xF 2 6,xF 1 6,xF 0 6]/\endN Q3 [] (fun (x:SV) (M:List SB)=>shAt M 0) (ShS.mk z r mh ch nh zh mv cv nv zv,l) (SV.t []) (shI (shD z.4 (z.5+(1:Int)) 15 s.8 s.3 s.4 16 s.1 cv nv) (putF (zF) 1 (Qt l z.2 0)) (Sto.crash (Sh.s z) l) (setF (setF (stX (Sh.w z) r) 0 (wkZ 17 18 (wcA s_3))) 3 (wkZ 19 20 (wcA s_4))) (setF (setF (stA r) 0 SB.gone) 3 SB.gone) (setF (setF (stD r) 0 SB.gone) 3 SB.gone) (evB s.2 s.3 s.5) (vdB mv cv zv) [wa0,wd0,wa0,wd0])else endN Q3 [] (fun (x:SV) (M:List SB)=>shAt M 0) (ShS.mk z r mh ch nh zh mv cv nv zv,l) (SV.t []) (shI (shD z.4 (z.5+(1:Int)) 15 s.8 s.3 s.4 16 s.1 cv nv) (putF (zF) 1 (Qt l z.2 0)) (Sto.crash (Sh.s z) l) (setF (stX (Sh.w z) r) 0 (wkZ 17 18 (wcA s_3))) (setF (stA r) 0 SB.gone) (setF (stD r) 0 SB.gone) (evB s.2 s.3 s.5) (vdB mv cv zv) [wa0,wd0])else (iR (1:Int) (4:Int))/\bif (Sh.w z 1).2 != (0:Int)then ∃(s_3:Qb),[aP 4 0,SA.a [sI (Sh.w z 1).3,sI (Sh.w z 1).4,sI (Sh.w z 1).5],aI (Sh.w z 1).6,aB true]=[aP 4 0,SA.a [sI s_3.2,sI s_3.3,sI s_3.4],aI s_3.5,aB true]/\[wkR 9 10 (Sh.w z 1) (r 1),waR (r 1),wdR (r 1)]=[wkC 9 10 (WkS.w (Qb.s s_3)) (Qb.s s_3).3 (Qb.s s_3).4 (Qb.s s_3).7 (Qb.s s_3).8,wkA (Qb.s s_3).2 (Qb.s s_3).3 (Qb.s s_3).5,wkD (Qb.s s_3).6 (Qb.s s_3).7 (Qb.s s_3).9]/\True/\∀(x:Unit),True->dP Tryz.f42 14 17 [⟨9,[],[4,9,10,17,18],[17,18],false⟩,xR 8 4,xF 7 4,xF 6 4,xF 5 4,xR 4 4,xF 3 4,xF 2 4,xF 1 4,xF 0 4]/\(iR (2:Int) (4:Int))/\bif (Sh.w z 2).2 != (0:Int)then ∃(s_4:Qb),[aP 5 0,SA.a [sI (Sh.w z 2).3,sI (Sh.w z 2).4,sI (Sh.w z 2).5],aI (Sh.w z 2).6,aB true]=[aP 5 0,SA.a [sI s_4.2,sI s_4.3,sI s_4.4],aI s_4.5,aB true]/\[wkR 11 12 (Sh.w z 2) (r 2),waR (r 2),wdR (r 2)]=[wkC 11 12 (WkS.w (Qb.s s_4)) (Qb.s s_4).3 (Qb.s s_4).4 (Qb.s s_4).7 (Qb.s s_4).8,wkA (Qb.s s_4).2 (Qb.s s_4).3 (Qb.s s_4).5,wkD (Qb.s s_4).6 (Qb.s s_4).7 (Qb.s s_4).9]/\True/\∀(x:Unit),True->dP Tryz.f42 14 19 [⟨9,[],[5,11,12,19,20],[19,20],false⟩,xR 8 5,xF 7 5,xF 6 5,xF 5 5,xR 4 5,xF 3 5,xF 2 5,xF 1 5,xF 0 5]/\(iR (3:Int) (4:Int))/\bif (Sh.w z 3).2 != (0:Int)then ∃(s_5:Qb),[aP 6 0,SA.a [sI (Sh.w z 3).3,sI (Sh.w z 3).4,sI (Sh.w z 3).5],aI (Sh.w z 3).6,aB true]=[aP 6 0,SA.a [sI s_5.2,sI s_5.3,sI s_5.4],aI s_5.5,aB true]/\[wkR 13 14 (Sh.w z 3) (r 3),waR (r 3),wdR (r 3)]=[wkC 13 14 (WkS.w (Qb.s s_5)) (Qb.s s_5).3 (Qb.s s_5).4 (Qb.s s_5).7 (Qb.s s_5).8,wkA (Qb.s s_5).2 (Qb.s s_5).3 (Qb.s s_5).5,wkD (Qb.s s_5).6 (Qb.s s_5).7 (Qb.s s_5).9]/\True/\∀(x:Unit),True->dP Tryz.f42 14 21 [⟨9,[],[6,13,14,21,22],[21,22],false⟩,xR 8 6,xF 7 6,xF 6 6,xF 5 6,xR 4 6,xF 3 6,xF 2 6,xF 1 6,xF 0 6]/\endN Q3 [] (fun (x:SV) (M:List SB)=>shAt M 0) (ShS.mk z r mh ch nh zh mv cv nv zv,l) (SV.t []) (shI (shD z.4 (z.5+(1:Int)) 15 s.8 s.3 s.4 16 s.1 cv nv) (putF (zF) 1 (Qt l z.2 0)) (Sto.crash (Sh.s z) l) (setF (setF (setF (stX (Sh.w z) r) 1 (wkZ 17 18 (wcA s_3))) 2 (wkZ 19 20 (wcA s_4))) 3 (wkZ 21 22 (wcA s_5))) (setF (setF (setF (stA r) 1 SB.gone) 2 SB.gone) 3 SB.gone) (setF (setF (setF (stD r) 1 SB.gone) 2 SB.gone) 3 SB.gone) (evB s.2 s.3 s.5) (vdB mv cv zv) [wa0,wd0,wa0,wd0,wa0,wd0])else endN Q3 [] (fun (x:SV) (M:List SB)=>shAt M 0) (ShS.mk z r mh ch nh zh mv cv nv zv,l) (SV.t []) (shI (shD z.4 (z.5+(1:Int)) 15 s.8 s.3 s.4 16 s.1 cv nv) (putF (zF) 1 (Qt l z.2 0)) (Sto.crash (Sh.s z) l) (setF (setF (stX (Sh.w z) r) 1 (wkZ 17 18 (wcA s_3))) 2 (wkZ 19 20 (wcA s_4))) (setF (setF (stA r) 1 SB.gone) 2 SB.gone) (setF (setF (stD r) 1 SB.gone) 2 SB.gone) (evB s.2 s.3 s.5) (vdB mv cv zv) [wa0,wd0,wa0,wd0])else (iR (3:Int) (4:Int))/\bif (Sh.w z 3).2 != (0:Int)then ∃(s_4:Qb),[aP 6 0,SA.a [sI (Sh.w z 3).3,sI (Sh.w z 3).4,sI (Sh.w z 3).5],aI (Sh.w z 3).6,aB true]=[aP 6 0,SA.a [sI s_4.2,sI s_4.3,sI s_4.4],aI s_4.5,aB true]/\[wkR 13 14 (Sh.w z 3) (r 3),waR (r 3),wdR (r 3)]=[wkC 13 14 (WkS.w (Qb.s s_4)) (Qb.s s_4).3 (Qb.s s_4).4 (Qb.s s_4).7 (Qb.s s_4).8,wkA (Qb.s s_4).2 (Qb.s s_4).3 (Qb.s s_4).5,wkD (Qb.s s_4).6 (Qb.s s_4).7 (Qb.s s_4).9]/\True/\∀(x:Unit),True->dP Tryz.f42 14 19 [⟨9,[],[6,13,14,19,20],[19,20],false⟩,xR 8 6,xF 7 6,xF 6 6,xF 5 6,xR 4 6,xF 3 6,xF 2 6,xF 1 6,xF 0 6]/\endN Q3 [] (fun (x:SV) (M:List SB)=>shAt M 0) (ShS.mk z r mh ch nh zh mv cv nv zv,l) (SV.t []) (shI (shD z.4 (z.5+(1:Int)) 15 s.8 s.3 s.4 16 s.1 cv nv) (putF (zF) 1 (Qt l z.2 0)) (Sto.crash (Sh.s z) l) (setF (setF (stX (Sh.w z) r) 1 (wkZ 17 18 (wcA s_3))) 3 (wkZ 19 20 (wcA s_4))) (setF (setF (stA r) 1 SB.gone) 3 SB.gone) (setF (setF (stD r) 1 SB.gone) 3 SB.gone) (evB s.2 s.3 s.5) (vdB mv cv zv) [wa0,wd0,wa0,wd0])else endN Q3 [] (fun (x:SV) (M:List SB)=>shAt M 0) (ShS.mk z r mh ch nh zh mv cv nv zv,l) (SV.t []) (shI (shD z.4 (z.5+(1:Int)) 15 s.8 s.3 s.4 16 s.1 cv nv) (putF (zF) 1 (Qt l z.2 0)) (Sto.crash (Sh.s z) l) (setF (stX (Sh.w z) r) 1 (wkZ 17 18 (wcA s_3))) (setF (stA r) 1 SB.gone) (setF (stD r) 1 SB.gone) (evB s.2 s.3 s.5) (vdB mv cv zv) [wa0,wd0])else (iR (2:Int) (4:Int))/\bif (Sh.w z 2).2 != (0:Int)then ∃(s_3:Qb),[aP 5 0,SA.a [sI (Sh.w z 2).3,sI (Sh.w z 2).4,sI (Sh.w z 2).5],aI (Sh.w z 2).6,aB true]=[aP 5 0,SA.a [sI s_3.2,sI s_3.3,sI s_3.4],aI s_3.5,aB true]/\[wkR 11 12 (Sh.w z 2) (r 2),waR (r 2),wdR (r 2)]=[wkC 11 12 (WkS.w (Qb.s s_3)) (Qb.s s_3).3 (Qb.s s_3).4 (Qb.s s_3).7 (Qb.s s_3).8,wkA (Qb.s s_3).2 (Qb.s s_3).3 (Qb.s s_3).5,wkD (Qb.s s_3).6 (Qb.s s_3).7 (Qb.s s_3).9]/\True/\∀(x:Unit),True->dP Tryz.f42 14 17 [⟨9,[],[5,11,12,17,18],[17,18],false⟩,xR 8 5,xF 7 5,xF 6 5,xF 5 5,xR 4 5,xF 3 5,xF 2 5,xF 1 5,xF 0 5]/\(iR (3:Int) (4:Int))/\bif (Sh.w z 3).2 != (0:Int)then ∃(s_4:Qb),[aP 6 0,SA.a [sI (Sh.w z 3).3,sI (Sh.w z 3).4,sI (Sh.w z 3).5],aI (Sh.w z 3).6,aB true]=[aP 6 0,SA.a [sI s_4.2,sI s_4.3,sI s_4.4],aI s_4.5,aB true]/\[wkR 13 14 (Sh.w z 3) (r 3),waR (r 3),wdR (r 3)]=[wkC 13 14 (WkS.w (Qb.s s_4)) (Qb.s s_4).3 (Qb.s s_4).4 (Qb.s s_4).7 (Qb.s s_4).8,wkA (Qb.s s_4).2 (Qb.s s_4).3 (Qb.s s_4).5,wkD (Qb.s s_4).6 (Qb.s s_4).7 (Qb.s s_4).9]/\True/\∀(x:Unit),True->dP Tryz.f42 14 19 [⟨9,[],[6,13,14,19,20],[19,20],false⟩,xR 8 6,xF 7 6,xF 6 6,xF 5 6,xR 4 6,xF 3 6,xF 2 6,xF 1 6,xF 0 6]/\endN Q3 [] (fun (x:SV) (M:List SB)=>shAt M 0) (ShS.mk z r mh ch nh zh mv cv nv zv,l) (SV.t []) (shI (shD z.4 (z.5+(1:Int)) 15 s.8 s.3 s.4 16 s.1 cv nv) (putF (zF) 1 (Qt l z.2 0)) (Sto.crash (Sh.s z) l) (setF (setF (stX (Sh.w z) r) 2 (wkZ 17 18 (wcA s_3))) 3 (wkZ 19 20 (wcA s_4))) (setF (setF (stA r) 2 SB.gone) 3 SB.gone) (setF (setF (stD r) 2 SB.gone) 3 SB.gone) (evB s.2 s.3 s.5) (vdB mv cv zv) [wa0,wd0,wa0,wd0])else endN Q3 [] (fun (x:SV) (M:List SB)=>shAt M 0) (ShS.mk z r mh ch nh zh mv cv nv zv,l) (SV.t []) (shI (shD z.4 (z.5+(1:Int)) 15 s.8 s.3 s.4 16 s.1 cv nv) (putF (zF) 1 (Qt l z.2 0)) (Sto.crash (Sh.s z) l) (setF (stX (Sh.w z) r) 2 (wkZ 17 18 (wcA s_3))) (setF (stA r) 2 SB.gone) (setF (stD r) 2 SB.gone) (evB s.2 s.3 s.5) (vdB mv cv zv) [wa0,wd0])else (iR (3:Int) (4:Int))/\bif (Sh.w z 3).2 != (0:Int)then ∃(s_3:Qb),[aP 6 0,SA.a [sI (Sh.w z 3).3,sI (Sh.w z 3).4,sI (Sh.w z 3).5],aI (Sh.w z 3).6,aB true]=[aP 6 0,SA.a [sI s_3.2,sI s_3.3,sI s_3.4],aI s_3.5,aB true]/\[wkR 13 14 (Sh.w z 3) (r 3),waR (r 3),wdR (r 3)]=[wkC 13 14 (WkS.w (Qb.s s_3)) (Qb.s s_3).3 (Qb.s s_3).4 (Qb.s s_3).7 (Qb.s s_3).8,wkA (Qb.s s_3).2 (Qb.s s_3).3 (Qb.s s_3).5,wkD (Qb.s s_3).6 (Qb.s s_3).7 (Qb.s s_3).9]/\True/\∀(x:Unit),True->dP Tryz.f42 14 17 [⟨9,[],[6,13,14,17,18],[17,18],false⟩,xR 8 6,xF 7 6,xF 6 6,xF 5 6,xR 4 6,xF 3 6,xF 2 6,xF 1 6,xF 0 6]/\endN Q3 [] (fun (x:SV) (M:List SB)=>shAt M 0) (ShS.mk z r mh ch nh zh mv cv nv zv,l) (SV.t []) (shI (shD z.4 (z.5+(1:Int)) 15 s.8 s.3 s.4 16 s.1 cv nv) (putF (zF) 1 (Qt l z.2 0)) (Sto.crash (Sh.s z) l) (setF (stX (Sh.w z) r) 3 (wkZ 17 18 (wcA s_3))) (setF (stA r) 3 SB.gone) (setF (stD r) 3 SB.gone) (evB s.2 s.3 s.5) (vdB mv cv zv) [wa0,wd0])else endN Q3 [] (fun (x:SV) (M:List SB)=>shAt M 0) (ShS.mk z r mh ch nh zh mv cv nv zv,l) (SV.t []) (shI (shD z.4 (z.5+(1:Int)) 15 s.8 s.3 s.4 16 s.1 cv nv) (putF (zF) 1 (Qt l z.2 0)) (Sto.crash (Sh.s z) l) (stX (Sh.w z) r) (stA r) (stD r) (evB s.2 s.3 s.5) (vdB mv cv zv) [])) (by kernel_rfl) ?_
 have h0:(⟨z,r,mh,ch,nh,zh,mv,cv,nv,zv⟩:ShS).good:=h0
 have h1:QiL z l:=h1
 have hst0:=h1.st0
 have hst1:=h1.st1
 have hhl:=h1.h
 have hdl:=h1.d
 have hv0:=h1.v0
 have hv1:=h1.v1
 have q1:=h0.h1
 have q2:=h0.h2
 have p1:=h0.v1
 have p2:=h0.v2
 dsimp only at q1 q2 p1 p2
 have es:IntKind.wrap .i64 (z.steps+1)=z.steps+1:=QC (by omega) (by omega)
 have ev:IntKind.wrap .i64 ((z.s.crash l).now (Int.toNat 0))=Qt l z.s 0:=QC (by show -9223372036854775808<=Qt l z.s 0;omega) (by show Qt l z.s 0<=9223372036854775807;omega)
 have eu:IntKind.wrap .u64 (Qt l z.s 0)=Qt l z.s 0:=QaF (by omega) (by omega)
 rw[es]
 refine⟨Qd (by kernel_rfl),⟨⟨q1,rfl⟩,⟨Nat.le_refl _,rfl⟩,by omega⟩,fun c hc=>⟨Qd (by kernel_rfl),⟨z.s,l⟩,rfl,rfl,h1.lu,fun _ _=>⟨z.m,rfl,rfl,trivial,fun _ _=>⟨⟨z.s.crash l,0⟩,rfl,rfl,⟨(by decide:(0:Int)<=0),(by decide:(0:Int)<72)⟩,fun _ _=>?_⟩⟩⟩⟩
 dsimp only
 rw[ev,eu]
 refine⟨⟨fun _=>0,1,Qt l z.s 0⟩,rfl,rfl,⟨(by decide:(0:Int)<=1),(by decide:(1:Int)<16)⟩,fun _ _=>⟨Nat.le_trans p1 p2,⟨⟨z.deeds.length,z.hist.length+1,c,nh,_,Nat.le_refl _,by rw[List.take_length],z.hist.length+1,rfl,Nat.le_refl _,hc,?_⟩,⟨rfl,rfl,svI (QC (by omega) (by omega)),trivial⟩,rfl⟩,?_⟩⟩
 · refine h0.h.snoc (fun j hj k _=>catT hj) (fun j hj=>?_)
   refine catF.trans ?_
   rw[Nat.sub_self]
   match j,hj with
   |0,_=>rfl
   |1,_=>rfl
   |2,_=>rfl
   |3,_=>rfl
   |4,_=>rfl
   |5,_=>rfl
   |6,_=>rfl
   |7,_=>rfl
   |8,_=>rfl
 rintro⟨n,mh',ch',nh',zh',hn,hu,lh,hl,g1,g2,g3⟩
 dsimp only at hn hu hl g1 g2 g3 ⊢
 refine Qo (fun hge=>?_) (fun hlt=>?_)
 · have en:((n:Int)-1).toNat=n-1:=by omega
   have hz0:zv (0+((n:Int)-1).toNat) 0=(z.deeds.getD (n-1) Vd.nil).ver:=by rw[Nat.zero_add,en];exact h0.v (n-1) (by show n-1<z.deeds.length;omega) 0 (by decide)
   have ht:=Qk3 (l:=z.deeds) (n:=n) (by omega) hn
   refine⟨⟨by omega,by omega,by omega⟩,by omega,Qo (fun hgt=>?_) (fun hle=>?_)⟩
   · rw[hz0]at hgt
     refine⟨⟨by omega,by omega⟩,⟨((n:Int)-1).toNat,mh',ch',nh',zh',by omega,?_,lh,hl,g1,g2,g3⟩,⟨⟨rfl,rfl,svI (show IntKind.wrap .i64 ((n:Int)-1-1)=(((n:Int)-1).toNat:Int)-1 by rw[QC (by omega) (by omega)];omega),trivial⟩,rfl⟩,by dsimp only;omega⟩
     rw[en,<- hu,ht,Qpd hgt]
   · rw[hz0]at hle
     have hz:z.deeds.take n=upTo (Qt l z.s 0) z.deeds:=by rw[<- hu,ht];exact (Qpc (by omega)).symm
     exact⟨⟨by decide,by decide⟩,QA (fun k0=>⟨⟨wkS (z.w 0) (r 0),(z.w 0).k,(z.w 0).key,(z.w 0).x,(z.w 0).tog⟩,rfl,rfl,trivial,fun _ _=>⟨Qd (by kernel_rfl),⟨⟨by decide,by decide⟩,QA (fun k1=>⟨⟨wkS (z.w 1) (r 1),(z.w 1).k,(z.w 1).key,(z.w 1).x,(z.w 1).tog⟩,rfl,rfl,trivial,fun _ _=>⟨Qd (by kernel_rfl),⟨⟨by decide,by decide⟩,QA (fun k2=>⟨⟨wkS (z.w 2) (r 2),(z.w 2).k,(z.w 2).key,(z.w 2).x,(z.w 2).tog⟩,rfl,rfl,trivial,fun _ _=>⟨Qd (by kernel_rfl),⟨⟨by decide,by decide⟩,QA (fun k3=>⟨⟨wkS (z.w 3) (r 3),(z.w 3).k,(z.w 3).key,(z.w 3).x,(z.w 3).tog⟩,rfl,rfl,trivial,fun _ _=>⟨Qd (by kernel_rfl),QB h0 hn hz hl g1 g2 g3 (a0:=true) (a1:=true) (a2:=true) (a3:=true) rfl rfl k0 k1 k2 k3⟩⟩) (fun k3=>QB h0 hn hz hl g1 g2 g3 (a0:=true) (a1:=true) (a2:=true) (a3:=false) rfl rfl k0 k1 k2 k3)⟩⟩⟩) (fun k2=>⟨⟨by decide,by decide⟩,QA (fun k3=>⟨⟨wkS (z.w 3) (r 3),(z.w 3).k,(z.w 3).key,(z.w 3).x,(z.w 3).tog⟩,rfl,rfl,trivial,fun _ _=>⟨Qd (by kernel_rfl),QB h0 hn hz hl g1 g2 g3 (a0:=true) (a1:=true) (a2:=false) (a3:=true) rfl rfl k0 k1 k2 k3⟩⟩) (fun k3=>QB h0 hn hz hl g1 g2 g3 (a0:=true) (a1:=true) (a2:=false) (a3:=false) rfl rfl k0 k1 k2 k3)⟩)⟩⟩⟩) (fun k1=>⟨⟨by decide,by decide⟩,QA (fun k2=>⟨⟨wkS (z.w 2) (r 2),(z.w 2).k,(z.w 2).key,(z.w 2).x,(z.w 2).tog⟩,rfl,rfl,trivial,fun _ _=>⟨Qd (by kernel_rfl),⟨⟨by decide,by decide⟩,QA (fun k3=>⟨⟨wkS (z.w 3) (r 3),(z.w 3).k,(z.w 3).key,(z.w 3).x,(z.w 3).tog⟩,rfl,rfl,trivial,fun _ _=>⟨Qd (by kernel_rfl),QB h0 hn hz hl g1 g2 g3 (a0:=true) (a1:=false) (a2:=true) (a3:=true) rfl rfl k0 k1 k2 k3⟩⟩) (fun k3=>QB h0 hn hz hl g1 g2 g3 (a0:=true) (a1:=false) (a2:=true) (a3:=false) rfl rfl k0 k1 k2 k3)⟩⟩⟩) (fun k2=>⟨⟨by decide,by decide⟩,QA (fun k3=>⟨⟨wkS (z.w 3) (r 3),(z.w 3).k,(z.w 3).key,(z.w 3).x,(z.w 3).tog⟩,rfl,rfl,trivial,fun _ _=>⟨Qd (by kernel_rfl),QB h0 hn hz hl g1 g2 g3 (a0:=true) (a1:=false) (a2:=false) (a3:=true) rfl rfl k0 k1 k2 k3⟩⟩) (fun k3=>QB h0 hn hz hl g1 g2 g3 (a0:=true) (a1:=false) (a2:=false) (a3:=false) rfl rfl k0 k1 k2 k3)⟩)⟩)⟩⟩⟩) (fun k0=>⟨⟨by decide,by decide⟩,QA (fun k1=>⟨⟨wkS (z.w 1) (r 1),(z.w 1).k,(z.w 1).key,(z.w 1).x,(z.w 1).tog⟩,rfl,rfl,trivial,fun _ _=>⟨Qd (by kernel_rfl),⟨⟨by decide,by decide⟩,QA (fun k2=>⟨⟨wkS (z.w 2) (r 2),(z.w 2).k,(z.w 2).key,(z.w 2).x,(z.w 2).tog⟩,rfl,rfl,trivial,fun _ _=>⟨Qd (by kernel_rfl),⟨⟨by decide,by decide⟩,QA (fun k3=>⟨⟨wkS (z.w 3) (r 3),(z.w 3).k,(z.w 3).key,(z.w 3).x,(z.w 3).tog⟩,rfl,rfl,trivial,fun _ _=>⟨Qd (by kernel_rfl),QB h0 hn hz hl g1 g2 g3 (a0:=false) (a1:=true) (a2:=true) (a3:=true) rfl rfl k0 k1 k2 k3⟩⟩) (fun k3=>QB h0 hn hz hl g1 g2 g3 (a0:=false) (a1:=true) (a2:=true) (a3:=false) rfl rfl k0 k1 k2 k3)⟩⟩⟩) (fun k2=>⟨⟨by decide,by decide⟩,QA (fun k3=>⟨⟨wkS (z.w 3) (r 3),(z.w 3).k,(z.w 3).key,(z.w 3).x,(z.w 3).tog⟩,rfl,rfl,trivial,fun _ _=>⟨Qd (by kernel_rfl),QB h0 hn hz hl g1 g2 g3 (a0:=false) (a1:=true) (a2:=false) (a3:=true) rfl rfl k0 k1 k2 k3⟩⟩) (fun k3=>QB h0 hn hz hl g1 g2 g3 (a0:=false) (a1:=true) (a2:=false) (a3:=false) rfl rfl k0 k1 k2 k3)⟩)⟩⟩⟩) (fun k1=>⟨⟨by decide,by decide⟩,QA (fun k2=>⟨⟨wkS (z.w 2) (r 2),(z.w 2).k,(z.w 2).key,(z.w 2).x,(z.w 2).tog⟩,rfl,rfl,trivial,fun _ _=>⟨Qd (by kernel_rfl),⟨⟨by decide,by decide⟩,QA (fun k3=>⟨⟨wkS (z.w 3) (r 3),(z.w 3).k,(z.w 3).key,(z.w 3).x,(z.w 3).tog⟩,rfl,rfl,trivial,fun _ _=>⟨Qd (by kernel_rfl),QB h0 hn hz hl g1 g2 g3 (a0:=false) (a1:=false) (a2:=true) (a3:=true) rfl rfl k0 k1 k2 k3⟩⟩) (fun k3=>QB h0 hn hz hl g1 g2 g3 (a0:=false) (a1:=false) (a2:=true) (a3:=false) rfl rfl k0 k1 k2 k3)⟩⟩⟩) (fun k2=>⟨⟨by decide,by decide⟩,QA (fun k3=>⟨⟨wkS (z.w 3) (r 3),(z.w 3).k,(z.w 3).key,(z.w 3).x,(z.w 3).tog⟩,rfl,rfl,trivial,fun _ _=>⟨Qd (by kernel_rfl),QB h0 hn hz hl g1 g2 g3 (a0:=false) (a1:=false) (a2:=false) (a3:=true) rfl rfl k0 k1 k2 k3⟩⟩) (fun k3=>QB h0 hn hz hl g1 g2 g3 (a0:=false) (a1:=false) (a2:=false) (a3:=false) rfl rfl k0 k1 k2 k3)⟩)⟩)⟩)⟩
 · obtain rfl:n=0:=by omega
   have hz:z.deeds.take 0=upTo (Qt l z.s 0) z.deeds:=by rw[<- hu];rfl
   exact⟨⟨by decide,by decide⟩,QA (fun k0=>⟨⟨wkS (z.w 0) (r 0),(z.w 0).k,(z.w 0).key,(z.w 0).x,(z.w 0).tog⟩,rfl,rfl,trivial,fun _ _=>⟨Qd (by kernel_rfl),⟨⟨by decide,by decide⟩,QA (fun k1=>⟨⟨wkS (z.w 1) (r 1),(z.w 1).k,(z.w 1).key,(z.w 1).x,(z.w 1).tog⟩,rfl,rfl,trivial,fun _ _=>⟨Qd (by kernel_rfl),⟨⟨by decide,by decide⟩,QA (fun k2=>⟨⟨wkS (z.w 2) (r 2),(z.w 2).k,(z.w 2).key,(z.w 2).x,(z.w 2).tog⟩,rfl,rfl,trivial,fun _ _=>⟨Qd (by kernel_rfl),⟨⟨by decide,by decide⟩,QA (fun k3=>⟨⟨wkS (z.w 3) (r 3),(z.w 3).k,(z.w 3).key,(z.w 3).x,(z.w 3).tog⟩,rfl,rfl,trivial,fun _ _=>⟨Qd (by kernel_rfl),QB h0 hn hz hl g1 g2 g3 (a0:=true) (a1:=true) (a2:=true) (a3:=true) rfl rfl k0 k1 k2 k3⟩⟩) (fun k3=>QB h0 hn hz hl g1 g2 g3 (a0:=true) (a1:=true) (a2:=true) (a3:=false) rfl rfl k0 k1 k2 k3)⟩⟩⟩) (fun k2=>⟨⟨by decide,by decide⟩,QA (fun k3=>⟨⟨wkS (z.w 3) (r 3),(z.w 3).k,(z.w 3).key,(z.w 3).x,(z.w 3).tog⟩,rfl,rfl,trivial,fun _ _=>⟨Qd (by kernel_rfl),QB h0 hn hz hl g1 g2 g3 (a0:=true) (a1:=true) (a2:=false) (a3:=true) rfl rfl k0 k1 k2 k3⟩⟩) (fun k3=>QB h0 hn hz hl g1 g2 g3 (a0:=true) (a1:=true) (a2:=false) (a3:=false) rfl rfl k0 k1 k2 k3)⟩)⟩⟩⟩) (fun k1=>⟨⟨by decide,by decide⟩,QA (fun k2=>⟨⟨wkS (z.w 2) (r 2),(z.w 2).k,(z.w 2).key,(z.w 2).x,(z.w 2).tog⟩,rfl,rfl,trivial,fun _ _=>⟨Qd (by kernel_rfl),⟨⟨by decide,by decide⟩,QA (fun k3=>⟨⟨wkS (z.w 3) (r 3),(z.w 3).k,(z.w 3).key,(z.w 3).x,(z.w 3).tog⟩,rfl,rfl,trivial,fun _ _=>⟨Qd (by kernel_rfl),QB h0 hn hz hl g1 g2 g3 (a0:=true) (a1:=false) (a2:=true) (a3:=true) rfl rfl k0 k1 k2 k3⟩⟩) (fun k3=>QB h0 hn hz hl g1 g2 g3 (a0:=true) (a1:=false) (a2:=true) (a3:=false) rfl rfl k0 k1 k2 k3)⟩⟩⟩) (fun k2=>⟨⟨by decide,by decide⟩,QA (fun k3=>⟨⟨wkS (z.w 3) (r 3),(z.w 3).k,(z.w 3).key,(z.w 3).x,(z.w 3).tog⟩,rfl,rfl,trivial,fun _ _=>⟨Qd (by kernel_rfl),QB h0 hn hz hl g1 g2 g3 (a0:=true) (a1:=false) (a2:=false) (a3:=true) rfl rfl k0 k1 k2 k3⟩⟩) (fun k3=>QB h0 hn hz hl g1 g2 g3 (a0:=true) (a1:=false) (a2:=false) (a3:=false) rfl rfl k0 k1 k2 k3)⟩)⟩)⟩⟩⟩) (fun k0=>⟨⟨by decide,by decide⟩,QA (fun k1=>⟨⟨wkS (z.w 1) (r 1),(z.w 1).k,(z.w 1).key,(z.w 1).x,(z.w 1).tog⟩,rfl,rfl,trivial,fun _ _=>⟨Qd (by kernel_rfl),⟨⟨by decide,by decide⟩,QA (fun k2=>⟨⟨wkS (z.w 2) (r 2),(z.w 2).k,(z.w 2).key,(z.w 2).x,(z.w 2).tog⟩,rfl,rfl,trivial,fun _ _=>⟨Qd (by kernel_rfl),⟨⟨by decide,by decide⟩,QA (fun k3=>⟨⟨wkS (z.w 3) (r 3),(z.w 3).k,(z.w 3).key,(z.w 3).x,(z.w 3).tog⟩,rfl,rfl,trivial,fun _ _=>⟨Qd (by kernel_rfl),QB h0 hn hz hl g1 g2 g3 (a0:=false) (a1:=true) (a2:=true) (a3:=true) rfl rfl k0 k1 k2 k3⟩⟩) (fun k3=>QB h0 hn hz hl g1 g2 g3 (a0:=false) (a1:=true) (a2:=true) (a3:=false) rfl rfl k0 k1 k2 k3)⟩⟩⟩) (fun k2=>⟨⟨by decide,by decide⟩,QA (fun k3=>⟨⟨wkS (z.w 3) (r 3),(z.w 3).k,(z.w 3).key,(z.w 3).x,(z.w 3).tog⟩,rfl,rfl,trivial,fun _ _=>⟨Qd (by kernel_rfl),QB h0 hn hz hl g1 g2 g3 (a0:=false) (a1:=true) (a2:=false) (a3:=true) rfl rfl k0 k1 k2 k3⟩⟩) (fun k3=>QB h0 hn hz hl g1 g2 g3 (a0:=false) (a1:=true) (a2:=false) (a3:=false) rfl rfl k0 k1 k2 k3)⟩)⟩⟩⟩) (fun k1=>⟨⟨by decide,by decide⟩,QA (fun k2=>⟨⟨wkS (z.w 2) (r 2),(z.w 2).k,(z.w 2).key,(z.w 2).x,(z.w 2).tog⟩,rfl,rfl,trivial,fun _ _=>⟨Qd (by kernel_rfl),⟨⟨by decide,by decide⟩,QA (fun k3=>⟨⟨wkS (z.w 3) (r 3),(z.w 3).k,(z.w 3).key,(z.w 3).x,(z.w 3).tog⟩,rfl,rfl,trivial,fun _ _=>⟨Qd (by kernel_rfl),QB h0 hn hz hl g1 g2 g3 (a0:=false) (a1:=false) (a2:=true) (a3:=true) rfl rfl k0 k1 k2 k3⟩⟩) (fun k3=>QB h0 hn hz hl g1 g2 g3 (a0:=false) (a1:=false) (a2:=true) (a3:=false) rfl rfl k0 k1 k2 k3)⟩⟩⟩) (fun k2=>⟨⟨by decide,by decide⟩,QA (fun k3=>⟨⟨wkS (z.w 3) (r 3),(z.w 3).k,(z.w 3).key,(z.w 3).x,(z.w 3).tog⟩,rfl,rfl,trivial,fun _ _=>⟨Qd (by kernel_rfl),QB h0 hn hz hl g1 g2 g3 (a0:=false) (a1:=false) (a2:=false) (a3:=true) rfl rfl k0 k1 k2 k3⟩⟩) (fun k3=>QB h0 hn hz hl g1 g2 g3 (a0:=false) (a1:=false) (a2:=false) (a3:=false) rfl rfl k0 k1 k2 k3)⟩)⟩)⟩)⟩
end
section
def PosV (z:Sh):Prop:=∀d∈z.deeds,0<=d.ver
theorem Qne {v:Int}{l:List Vd}{d:Vd}(h:d∈upTo v l):d∈l:=by
 unfold upTo at h
 rw[List.mem_reverse]at h
 exact List.mem_reverse.1 ((List.dropWhile_sublist _).subset h)
section
variable {K:Int}{z:Sh}{g:Gh}{t:Nat}
end
end
section
section
variable {K:Int}{z:Sh}{g:Gh}{t:Nat}
end
end
section
def mvAt (z:Nat->Nat->Int) (i:Nat):Mv:=⟨z i 0,z i 1,z i 2,z i 3,z i 4,z i 5,z i 6⟩
def mvL (z:Nat->Nat->Int) (n:Nat):List Mv:=(List.range n).map (mvAt z)
theorem Qdt (z:Nat->Nat->Int) (i:Nat):mvL z (i+1)=mvL z i++[mvAt z i]:=by unfold mvL;rw[List.range_succ,List.map_append];rfl
theorem QlM (z:Nat->Nat->Int) (n:Nat):(mvL z n).length=n:=by unfold mvL;rw[List.length_map,List.length_range]
end
section
open Go.RowKit
def mvK:Nat->IntKind:=fun j=>bif Nat.beq j 6 then .u64 else .i64
def MvIn (W:World) (a:Option Addr) (n c:Nat) (z:Nat->Nat->Int):Prop:=Rws 7 mvK W a n c z/\∀i,i<n->U64 (z i 6)
end
section
structure FinI (K:Int) (z:Sh) (g:Gh):Prop where
 i:ShInv K z g
 p:PosV z
 s:(z.hist.length:Int)<=z.steps
section
variable {K:Int}{z:Sh}{g:Gh}{t:Nat}
theorem ShInv.now (I:ShInv K z g):0<=z.s.now 0:=by
 have h1:=I.gl.now0
 have h2:=I.gl.v0
 have h3:=I.gl.vd
 omega
theorem QpK (F:FinI K z g) (ht:t<4) (hs:z.steps<100000000):∃g',FinI K (z.step t) g':=by
 unfold Sh.step
 split
 · exact⟨g,F⟩
 · rename_i hn
   have I':=Qix F.i ht hs hn
   have h0:=I'.now
   have e:(z.stepped t).s=(Qg (z.wst t)).1.s:=by
    unfold Sh.stepped
    dsimp only
    split<;>split<;>rfl
   rw[e]at h0
   have e2:(z.stepped t).deeds=z.deeds\/(z.stepped t).deeds=z.deeds++(Qg (z.wst t)).1.w.deeds.map (Vd.mk ((Qg (z.wst t)).1.s.now 0)):=by
    unfold Sh.stepped
    dsimp only
    split<;>split<;>first|exact .inl rfl|exact .inr rfl
   have e3:(z.stepped t).steps=z.steps+1:=by
    unfold Sh.stepped
    dsimp only
    split<;>split<;>rfl
   have e4:(z.stepped t).hist.length<=z.hist.length+1:=by
    unfold Sh.stepped
    dsimp only
    split<;>split<;>first|exact Nat.le_succ _|(show (z.hist++[_]).length<=_;rw[List.length_append];exact Nat.le_refl _)
   refine⟨_,I',fun d hd=>?_,by have:=F.s;omega⟩
   rcases e2 with e2|e2
   · rw[e2]at hd;exact F.p d hd
   · rw[e2]at hd
     rcases List.mem_append.1 hd with hd|hd
     · exact F.p d hd
     · obtain⟨x,-,rfl⟩:=List.mem_map.1 hd
       exact h0
theorem Qjn (ht:t<4):∀(n:Nat) {z:Sh}{g:Gh},FinI K z g->z.steps+n<100000000->∃g',FinI K (z.run t n) g'
 |0,z,g,F,_=>⟨g,F⟩
 |n+1,z,g,F,hs=>by
  obtain⟨g',F'⟩:=QpK F ht (by omega)
  have:=(QfU z t).2
  exact Qjn ht n F' (by omega)
theorem Qmu (F:FinI K z g) (ht:t<4) (k key x:Int):FinI K (z.call t k key x) g:=by
 refine⟨Qn0 F.i ht k key x,?_,?_⟩
 · unfold Sh.call
   split<;>exact F.p
 · have:=F.s
   unfold Sh.call
   split
   · show ((z.hist++[_]).length:Int)<=z.steps+1
     rw[List.length_append,List.length_singleton];omega
   · exact F.s
theorem Qoc (F:FinI K z g) (l:Int):FinI K (z.evict l) g:=by
 refine⟨Ql9 F.i l,?_,?_⟩
 · unfold Sh.evict
   split<;>exact F.p
 · unfold Sh.evict
   split<;>exact F.s
theorem Qod (F:FinI K z g) (l:Int):∃g',FinI K (z.crash l) g':=by
 have hp:PosV (z.crash l):=fun d hd=>F.p d (Qne hd)
 have hs:((z.crash l).hist.length:Int)<=(z.crash l).steps:=by
  have:=F.s
  show ((z.hist++[_]).length:Int)<=z.steps+1
  rw[List.length_append,List.length_singleton];omega
 rcases inv_crash F.i l with⟨-,h,-⟩|⟨-,-,-,h,-⟩
 · exact⟨_,h,hp,hs⟩
 · exact⟨_,h,hp,hs⟩
theorem QpL (F:FinI K z g) (hs:z.steps<90000000) (t n:Int):∃g',FinI K (z.runA t n) g':=by
 unfold Sh.runA
 cases hb:inT t
 · exact⟨g,F⟩
 · rw[cond_true]
   cases hc:runB n
   · exact⟨g,F⟩
   · have h2:=of_decide_eq_true hc
     exact Qjn (QgH hb).2.2 n.toNat F (by omega)
theorem QpM (F:FinI K z g) (hs:z.steps<90000000) (m:Mv):∃g',FinI K (z.move m) g':=by
 unfold Sh.move
 split
 · unfold Sh.callA
   cases hb:inT m.t
   · exact⟨g,F⟩
   · exact⟨g,Qmu F (QgH hb).2.2 _ _ _⟩
 split
 · exact QpL F hs _ _
 split
 · exact⟨g,Qoc F _⟩
 split
 · exact Qod F _
 · exact⟨g,F⟩
theorem QoW {K:Int}(h1:1<=K) (h6:K<=6):FinI K (Sh.new K) (Gh.new K):=⟨QpH h1 h6,fun d hd=>(by cases hd),Int.le_refl 0⟩
theorem QgR {K:Int}(h1:1<=K) (h6:K<=6):∀(n:Nat) (l:List Mv),l.length=n->n<=80000->∃g,FinI K (QW K l) g/\(QW K l).steps<=1000*(n:Int)
 |0,l,hl,_=>by
  have:=List.length_eq_zero_iff.1 hl
  subst this
  exact⟨_,QoW h1 h6,Int.le_refl 0⟩
 |n+1,l,hl,hn=>by
  obtain⟨l',m,rfl⟩:∃l' m,l=l'++[m]:=⟨l.dropLast,l.getLast (by intro h;rw[h]at hl;cases hl),(List.dropLast_concat_getLast _).symm⟩
  rw[List.length_append,List.length_singleton]at hl
  obtain⟨g,F,hs⟩:=QgR h1 h6 n l' (by omega) (by omega)
  rw[Qd7]
  obtain⟨g',F'⟩:=QpM F (by omega) m
  have:=Qj3 (QW K l') m
  exact⟨g',F',by omega⟩
theorem FinI.steps0 (F:FinI K z g):0<=z.steps:=by have:=F.s;omega
theorem FinI.lens (F:FinI K z g) (hs:z.steps<100000000):z.hist.length<=1000000000/\z.deeds.length<=1000000000:=by
 have h1:=F.s
 have h2:=F.i.gl.cb
 omega
theorem QoZ:∀(l:List Ask) (r:Rec),(bD r l).length<=l.length
 |[],r=>Nat.le_refl _
 |a::l,r=>by
  show (bDs r a++bD (Xz r a) l).length<=l.length+1
  rw[List.length_append]
  have:=QoZ l (Xz r a)
  have h2:(bDs r a).length<=1:=by
   unfold bDs
   cases bOpen r a
   · exact Nat.zero_le _
   · exact Nat.le_refl _
  omega
theorem FinI.stOK (F:FinI K z g) (ht:t<4) (hs:z.steps<100000000):stOK z t:=by
 have hl:=F.lens hs
 refine⟨F.steps0,hs,hl.1,hl.2,(F.i.th t ht).th,fun h11=>?_⟩
 have O:=F.i.ho t ht ⟨by omega,by omega⟩
 obtain⟨hG,hD,-,-⟩:=O.nx (by omega) (by omega)
 have e:(Qg (z.wst t)).1.w.deeds=(z.w t).deeds:=by simp[Qg,XN,Sh.wst,h11]
 rw[e,hD]
 have h4:=hG.len
 have:=QoZ (z.w t).asks g.R
 omega
theorem FinI.craOK (F:FinI K z g) (hs:z.steps<100000000) {l:Int}(hu:U64 l):QiL z l:=by
 have hl:=F.lens hs
 have G:=F.i.gl
 have h0:=G.v0
 have hd:=G.vd
 have hv:Qt l z.s 0=g.dv\/Qt l z.s 0=g.V:=by
  rcases land_mix l z.s 0 with h|h
  · rw[h];exact G.good0
  · rw[h];exact .inr G.now0
 have hb:=G.vb
 exact⟨F.steps0,hs,hl.1,hl.2,hu,by omega,by omega,fun d hd=>⟨F.p d hd,by have:=G.topR d hd;omega⟩⟩
end
end
section
open Go.RowKit
theorem craH:(Con.mem craC.sh).holds Tryz.prog 42:=fun w0 S=>craC.lift (QpQ w0 S) (by decide) (fun x _=>Xb x) (fun _=>rfl) (fun _ _ _ _ _ _ _ _=>⟨rfl,rfl,rfl,rfl⟩)
structure PlS where
 k:Int
 a:Option Addr
 n:Nat
 c:Nat
 z:Nat->Nat->Int
def QgW (W:World):MCon where
 σ:=PlS
 χ:=List Nat
 pre s:=(1<=s.k/\s.k<=6)/\s.n<=3000/\Rws 7 mvK W s.a s.n s.c s.z/\∀i,i<s.n->U64 (s.z i 6)
 args s:=[.c (.v (.int .i64 s.k)),.c (.r s.a s.n s.c s.n 7 mvK s.z)]
 mem s:=[]
 ok s x:=True
 val s x:=.t [.c (.p 0 0),.c (.v .nilIface)]
 mem' s x:=[.abs (Qr shM ShS.z ShS.good (QW s.k (mvL s.z s.n))) x]
 k:=0
 len:=1
 det:=none
 find args M:=some []
structure PlG (s:PlS) where
 i:Nat
 F:List Nat
 hi:i<=s.n
def Qm2 (s:PlS):Ann where
 σ:=PlG s
 I g:=([(6,.o (.c (.p 0 0))),(18,.o (.c (.r s.a s.n s.c s.n 7 mvK s.z))),(19,sv (.int .i64 s.n)),(20,sv (.int .i64 g.i))],[.abs (Qr shM ShS.z ShS.good (QW s.k (mvL s.z g.i))) g.F])
 dec g:=s.n-g.i
 pi env _:=[blkE env 6]
 nz:=[]
theorem CallOK.of {K:Int}{z:Sh}{g:Gh}(F:FinI K z g) (hs:z.steps<100000000):CallOK z:=⟨F.steps0,hs,(F.lens hs).1,fun t ht=>(F.i.th t ht).tg01⟩
theorem StpOK.of {K:Int}{z:Sh}{g:Gh}{t:Nat}(F:FinI K z g) (ht:t<4) (hs:z.steps<100000000):StpOK z t:=⟨ht,F.stOK ht hs,fun hn=>QjI F.i ht (by have:=F.i.gl.vb;omega) hn⟩
theorem RunOK.of {K:Int}{z:Sh}{g:Gh}{t:Nat}(F:FinI K z g) (ht:t<4) (hs:z.steps<90000000) (n:Int):RunOK z t n:=⟨fun h0 h1 k hk=>by
 obtain⟨g',F'⟩:=Qjn ht k F (by omega)
 have:=(Qdn t k z).2
 have S:=StpOK.of F' ht (by omega)
 exact⟨S.ok,S.pre⟩⟩
theorem QnA (W:World):(Con.mem (QgW W)).holdsAt Tryz.prog W (fun _=>False) 45:=by
 refine Qa (Γ:=[(43,.mem Qg2),(23,.mem callA.sh),(24,.mem QjW.sh),(67,.mem evC.sh),(42,.mem craC.sh)]) (fun w=>w) Tryz.func45 rfl (by kernel_rfl) Qf Qc (fun w S' _ _=>.cons (newH w _) (.cons (QpZ w _) (.cons (runH w _) (.cons (evH w _) (.cons (craH w _) (.nil _ _ _)))))) (QgW W) (fun s=>[(45,[(0,Qm2 s)])]) (fun x0 h=>by cases h)
  (fun s ρ w _ _ _=>OldOk.none w) [] (fun x M=>match x with
  |.t [.c (.p b _),_]=>[b]
  |_=>[]) 600 ?_
 rintro⟨k,a,n,c,z⟩ w ⟨⟨h1,h6⟩,hn,hr,hu⟩ hK
 refine⟨rfl,?_⟩
 have hr:=Rws.below hr (hK.below (Nat.le_refl _) (fun _ h=>h.elim))
 refine Qj (q:=∃(s:NewS),[aI k]=[aI s.1]/\eN/\((1:Int)<=s.1/\s.1<=(6:Int))/\∀(x:List Nat),True->(∃(s0:Ann.σ (Qm2 (PlS.mk k a n c z))),(eS (aP 0 0) (aP 0 0)/\eS (SA.c (.r a n c n 7 (fun (j:Nat)=>bif Nat.beq j 6 then .u64 else .i64) z)) (SA.c (.r a n c n 7 (fun (j:Nat)=>bif Nat.beq j 6 then .u64 else .i64) z))/\eS (aI ↑n) (aI ↑n)/\eS (aI 0) (aI ↑s0.1)/\True)/\[SB.abs (Qr shM ShS.z ShS.good (Sh.new s.1)) x]=[SB.abs (Qr shM ShS.z ShS.good (QW k (mvL z s0.1))) s0.2])/\∀(s:PlG (PlS.mk k a n c z)),bif decide ((↑s.1:Int)<(↑n:Int))then (Rws 7 mvK w a n c z/\(0:Int)<=(↑s.1:Int)/\(↑s.1:Int)<(↑n:Int)/\Int.toNat (↑s.1:Int)<n)/\(Rws 7 (fun (j:Nat)=>bif Nat.beq j 6 then .u64 else .i64) w a n c z/\Int.toNat (↑s.1:Int)<n)/\bif z (Int.toNat (↑s.1:Int)) 0==(1:Int)then ∃(s_1:Sh × (Int × OpA) × List Nat),[aP 0 0,aI (z (Int.toNat (↑s.1:Int)) 1),SA.a [sI (z (Int.toNat (↑s.1:Int)) 2),sI (z (Int.toNat (↑s.1:Int)) 3),sI (z (Int.toNat (↑s.1:Int)) 4)]]=[aP 0 0,aI s_1.2.1.1,SA.a [sI s_1.2.1.2.1,sI s_1.2.1.2.2,sI s_1.2.1.2.3]]/\[SB.abs (Qr shM ShS.z ShS.good (QW k (mvL z s.1))) s.2]=[SB.abs (Qr shM ShS.z ShS.good s_1.1) s_1.2.2]/\CallOK s_1.1/\∀(x:List Nat × Unit),True->∃(s':PlG (PlS.mk k a n c z)),((eS (aP 0 0) (aP 0 0)/\eS (SA.c (.r a n c n 7 (fun (j:Nat)=>bif Nat.beq j 6 then .u64 else .i64) z)) (SA.c (.r a n c n 7 (fun (j:Nat)=>bif Nat.beq j 6 then .u64 else .i64) z))/\eS (aI ↑n) (aI ↑n)/\eS (aI (IntKind.wrap .i64 ((↑s.1:Int)+(1:Int)))) (aI ↑s'.1)/\True)/\[SB.abs (Qr shM ShS.z ShS.good (bif inT s_1.2.1.1 then Sh.call s_1.1 (Int.toNat s_1.2.1.1) s_1.2.1.2.1 s_1.2.1.2.2 s_1.2.1.2.3 else s_1.1)) x.1]=[SB.abs (Qr shM ShS.z ShS.good (QW k (mvL z s'.1))) s'.2])/\n-s'.1<n-s.1 else bif z (Int.toNat (↑s.1:Int)) 0==(2:Int)then ∃(s_1:Sh × (Int × Int) × List Nat),[aP 0 0,aI (z (Int.toNat (↑s.1:Int)) 1),aI (z (Int.toNat (↑s.1:Int)) 5)]=[aP 0 0,aI s_1.2.1.1,aI s_1.2.1.2]/\[SB.abs (Qr shM ShS.z ShS.good (QW k (mvL z s.1))) s.2]=[SB.abs (Qr shM ShS.z ShS.good s_1.1) s_1.2.2]/\(inT s_1.2.1.1=true->RunOK s_1.1 (Int.toNat s_1.2.1.1) s_1.2.1.2)/\∀(x:List Nat × Unit),True->∃(s':PlG (PlS.mk k a n c z)),((eS (aP 0 0) (aP 0 0)/\eS (SA.c (.r a n c n 7 (fun (j:Nat)=>bif Nat.beq j 6 then .u64 else .i64) z)) (SA.c (.r a n c n 7 (fun (j:Nat)=>bif Nat.beq j 6 then .u64 else .i64) z))/\eS (aI ↑n) (aI ↑n)/\eS (aI (IntKind.wrap .i64 ((↑s.1:Int)+(1:Int)))) (aI ↑s'.1)/\True)/\[SB.abs (Qr shM ShS.z ShS.good (Sh.runA s_1.1 s_1.2.1.1 s_1.2.1.2)) x.1]=[SB.abs (Qr shM ShS.z ShS.good (QW k (mvL z s'.1))) s'.2])/\n-s'.1<n-s.1 else bif z (Int.toNat (↑s.1:Int)) 0==(3:Int)then ∃(s_1:Sh × Int × List Nat),[aP 0 0,aI (z (Int.toNat (↑s.1:Int)) 5)]=[aP 0 0,aI s_1.2.1]/\[SB.abs (Qr shM ShS.z ShS.good (QW k (mvL z s.1))) s.2]=[SB.abs (Qr shM ShS.z ShS.good s_1.1) s_1.2.2]/\True/\∀(x:List Nat × Unit),True->∃(s':PlG (PlS.mk k a n c z)),((eS (aP 0 0) (aP 0 0)/\eS (SA.c (.r a n c n 7 (fun (j:Nat)=>bif Nat.beq j 6 then .u64 else .i64) z)) (SA.c (.r a n c n 7 (fun (j:Nat)=>bif Nat.beq j 6 then .u64 else .i64) z))/\eS (aI ↑n) (aI ↑n)/\eS (aI (IntKind.wrap .i64 ((↑s.1:Int)+(1:Int)))) (aI ↑s'.1)/\True)/\[SB.abs (Qr shM ShS.z ShS.good (Sh.evict s_1.1 s_1.2.1)) x.1]=[SB.abs (Qr shM ShS.z ShS.good (QW k (mvL z s'.1))) s'.2])/\n-s'.1<n-s.1 else bif z (Int.toNat (↑s.1:Int)) 0==(4:Int)then ∃(s_1:Sh × Int × List Nat),[aP 0 0,aU (z (Int.toNat (↑s.1:Int)) 6)]=[aP 0 0,aU s_1.2.1]/\[SB.abs (Qr shM ShS.z ShS.good (QW k (mvL z s.1))) s.2]=[SB.abs (Qr shM ShS.z ShS.good s_1.1) s_1.2.2]/\QiL s_1.1 s_1.2.1/\∀(x:List Nat × Unit),True->∃(s':PlG (PlS.mk k a n c z)),((eS (aP 0 0) (aP 0 0)/\eS (SA.c (.r a n c n 7 (fun (j:Nat)=>bif Nat.beq j 6 then .u64 else .i64) z)) (SA.c (.r a n c n 7 (fun (j:Nat)=>bif Nat.beq j 6 then .u64 else .i64) z))/\eS (aI ↑n) (aI ↑n)/\eS (aI (IntKind.wrap .i64 ((↑s.1:Int)+(1:Int)))) (aI ↑s'.1)/\True)/\[SB.abs (Qr shM ShS.z ShS.good (Sh.crash s_1.1 s_1.2.1)) x.1]=[SB.abs (Qr shM ShS.z ShS.good (QW k (mvL z s'.1))) s'.2])/\n-s'.1<n-s.1 else ∃(s':PlG (PlS.mk k a n c z)),((eS (aP 0 0) (aP 0 0)/\eS (SA.c (.r a n c n 7 (fun (j:Nat)=>bif Nat.beq j 6 then .u64 else .i64) z)) (SA.c (.r a n c n 7 (fun (j:Nat)=>bif Nat.beq j 6 then .u64 else .i64) z))/\eS (aI ↑n) (aI ↑n)/\eS (aI (IntKind.wrap .i64 ((↑s.1:Int)+(1:Int)))) (aI ↑s'.1)/\True)/\[SB.abs (Qr shM ShS.z ShS.good (QW k (mvL z s.1))) s.2]=[SB.abs (Qr shM ShS.z ShS.good (QW k (mvL z s'.1))) s'.2])/\n-s'.1<n-s.1 else endN (QgW W) [] (fun (x:SV) (M:List SB)=>match x with|SV.t [SA.c (.p b off),head]=>[b]|x=>[]) (PlS.mk k a n c z) (SV.t [aP 0 0,SA.c (.v Value.nilIface)]) [SB.abs (Qr shM ShS.z ShS.good (QW k (mvL z s.1))) s.2]) (by kernel_rfl) ?_
 have h1:1<=k:=h1
 have h6:k<=6:=h6
 have hn:n<=3000:=hn
 have hu:∀i,i<n->U64 (z i 6):=hu
 refine⟨⟨k⟩,rfl,rfl,⟨h1,h6⟩,fun x _=>⟨⟨⟨0,x,Nat.zero_le _⟩,⟨rfl,rfl,rfl,rfl,trivial⟩,rfl⟩,?_⟩⟩
 rintro⟨i,F,hi⟩
 have hi:i<=n:=hi
 dsimp only
 rw[Int.toNat_natCast]
 obtain⟨g,Fi,hs⟩:=QgR h1 h6 i (mvL z i) (QlM z i) (by omega)
 have hs2:(QW k (mvL z i)).steps<100000000:=by omega
 have enx:QW k (mvL z (i+1))=(QW k (mvL z i)).move (mvAt z i):=by rw[Qdt,Qd7]
 refine Qo (fun hlt=>?_) (fun hge=>?_)
 · have hlt':i<n:=by omega
   have go (S:Sh) (G:List Nat) (e:S=QW k (mvL z (i+1))):[SB.abs (Qr shM ShS.z ShS.good S) G]=[SB.abs (Qr shM ShS.z ShS.good (QW k (mvL z (i+1)))) G]:=by rw[e]
   refine⟨⟨hr,by omega,hlt,hlt'⟩,⟨hr,hlt'⟩,QU (fun hk=>?_) (fun hk1=>QU (fun hk=>?_) (fun hk2=>QU (fun hk=>?_) (fun hk3=>QU (fun hk=>?_) (fun hk4=>?_))))⟩
   · exact⟨(QW k (mvL z i),(z i 1,⟨z i 2,z i 3,z i 4⟩),F),rfl,rfl,CallOK.of Fi hs2,fun y _=>⟨⟨i+1,y.1,hlt'⟩,⟨⟨rfl,rfl,rfl,svI (sucI (by omega)),trivial⟩,go _ _ (by rw[enx];exact (if_pos hk).symm)⟩,by dsimp only;omega⟩⟩
   · exact⟨(QW k (mvL z i),(z i 1,z i 5),F),rfl,rfl,fun ht=>RunOK.of Fi (QgH ht).2.2 (by omega) _,fun y _=>⟨⟨i+1,y.1,hlt'⟩,⟨⟨rfl,rfl,rfl,svI (sucI (by omega)),trivial⟩,go _ _ (by rw[enx];exact ((if_neg hk1).trans (if_pos hk)).symm)⟩,by dsimp only;omega⟩⟩
   · exact⟨(QW k (mvL z i),z i 5,F),rfl,rfl,trivial,fun y _=>⟨⟨i+1,y.1,hlt'⟩,⟨⟨rfl,rfl,rfl,svI (sucI (by omega)),trivial⟩,go _ _ (by rw[enx];exact ((if_neg hk1).trans ((if_neg hk2).trans (if_pos hk))).symm)⟩,by dsimp only;omega⟩⟩
   · exact⟨(QW k (mvL z i),z i 6,F),rfl,rfl,Fi.craOK (by omega) (hu i hlt'),fun y _=>⟨⟨i+1,y.1,hlt'⟩,⟨⟨rfl,rfl,rfl,svI (sucI (by omega)),trivial⟩,go _ _ (by rw[enx];exact ((if_neg hk1).trans ((if_neg hk2).trans ((if_neg hk3).trans (if_pos hk)))).symm)⟩,by dsimp only;omega⟩⟩
   · exact⟨⟨i+1,F,hlt'⟩,⟨⟨rfl,rfl,rfl,svI (sucI (by omega)),trivial⟩,go _ _ (by rw[enx];exact ((if_neg hk1).trans ((if_neg hk2).trans ((if_neg hk3).trans (if_neg hk4)))).symm)⟩,by dsimp only;omega⟩
 · obtain rfl:i=n:=by omega
   exact Qi rfl F trivial rfl rfl rfl
structure EqRS (α:Type) where
 l:List α
 m:Nat
 c:Nat
 nn:Bool
 z:Nat->Nat->Int
 m2:Nat
 c2:Nat
 nn2:Bool
 z2:Nat->Nat->Int
structure EqRG {α:Type}(s:EqRS α) where
 i:Nat
 hi:i<=s.l.length
def QfB:MCon:=dcon (EqRS Dd) (fun s=>s.l.length<=1000000000/\(s.l.length<=s.m/\s.m<=s.c)/\IsR 6 Dd.at Dd.nil s.z s.l/\(s.l.length<=s.m2/\s.m2<=s.c2)/\IsR 6 Dd.at Dd.nil s.z2 s.l)
 (fun s=>[.c (.so 0 0 6 s.l.length s.c s.nn),.c (.so 1 0 6 s.l.length s.c2 s.nn2)]) (fun s=>[wkD s.m s.c s.z,wkD s.m2 s.c2 s.z2]) (fun s=>sv (.bool true)) (fun s=>[wkD s.m s.c s.z,wkD s.m2 s.c2 s.z2]) 2 (fun args _=>some (blkA args))
def Qm5 (s:EqRS Dd):Ann where
 σ:=EqRG s
 I g:=([(0,.o (.c (.so 0 0 6 s.l.length s.c s.nn))),(1,.o (.c (.so 1 0 6 s.l.length s.c2 s.nn2))),(12,sv (.int .i64 s.l.length)),(13,sv (.int .i64 g.i))],[wkD s.m s.c s.z,wkD s.m2 s.c2 s.z2])
 dec g:=s.l.length-g.i
 pi _ _:=[0,1]
 nz:=[]
theorem eqrD_con:(Con.mem QfB).holds Tryz.prog 33:=by
 intro w0 S
 refine Qa (Γ:=[]) (fun _=>noW) Tryz.func33 rfl (by kernel_rfl) Qf Qc (fun _ _ _ _=>.nil _ _ _) QfB (fun s=>[(33,[(0,Qm5 s)])]) (fun x0 h s x=>⟨rfl,trivial⟩) (fun s ρ w _ _ _=>Qh w _) [] (fun _ M=>[0,1]) 400 ?_
 rintro⟨l,m,c,nn,z,m2,c2,nn2,z2⟩ w ⟨h0,h1,h2,h3,h4⟩ -
 refine⟨rfl,?_⟩
 dsimp only at h0 h1 h2 h3 h4
 refine Qj (q:=List.length l<=c/\List.length l<=c2/\bif (↑(List.length l):Int) != (↑(List.length l):Int)then endN QfB [] (fun (x:SV) (M:List SB)=>[0,1]) (EqRS.mk l m c nn z m2 c2 nn2 z2) (SV.o (aB false)) [SB.rows 65 kI6 6 m c z,SB.rows 65 kI6 6 m2 c2 z2]else List.length l<=c/\(∃(s0:Ann.σ (Qm5 (EqRS.mk l m c nn z m2 c2 nn2 z2))),(eS (SA.c (.so 0 0 6 (List.length l) c nn)) (SA.c (.so 0 0 6 (List.length l) c nn))/\eS (SA.c (.so 1 0 6 (List.length l) c2 nn2)) (SA.c (.so 1 0 6 (List.length l) c2 nn2))/\eS (aI (↑(List.length l):Int)) (aI (↑(List.length l):Int))/\eS (aI 0) (aI ↑s0.1)/\True)/\[SB.rows 65 kI6 6 m c z,SB.rows 65 kI6 6 m2 c2 z2]=[SB.rows 65 kI6 6 m c z,SB.rows 65 kI6 6 m2 c2 z2])/\∀(s:EqRG (EqRS.mk l m c nn z m2 c2 nn2 z2)),bif decide ((↑s.1:Int)<(↑(List.length l):Int))then ((0:Int)<=(↑s.1:Int)/\(↑s.1:Int)<(↑(List.length l):Int)/\0+List.length l<=c)/\0+Int.toNat (↑s.1:Int)<m/\((0:Int)<=(↑s.1:Int)/\(↑s.1:Int)<(↑(List.length l):Int)/\0+List.length l<=c2)/\0+Int.toNat (↑s.1:Int)<m2/\dP Tryz.f33 6 2 [xE 8,xR 7 1,xF 6 1,xE 5,xF 4 1,xR 3 0,xF 2 0,xE 1,xF 0 0]/\bif bif bif z (0+Int.toNat (↑s.1:Int)) 0==z2 (0+Int.toNat (↑s.1:Int)) 0 then bif z (0+Int.toNat (↑s.1:Int)) 1==z2 (0+Int.toNat (↑s.1:Int)) 1 then bif z (0+Int.toNat (↑s.1:Int)) 2==z2 (0+Int.toNat (↑s.1:Int)) 2 then bif z (0+Int.toNat (↑s.1:Int)) 3==z2 (0+Int.toNat (↑s.1:Int)) 3 then bif z (0+Int.toNat (↑s.1:Int)) 4==z2 (0+Int.toNat (↑s.1:Int)) 4 then bif z (0+Int.toNat (↑s.1:Int)) 5==z2 (0+Int.toNat (↑s.1:Int)) 5 then true else false else false else false else false else false else false then false else true then endN QfB [] (fun (x:SV) (M:List SB)=>[0,1]) (EqRS.mk l m c nn z m2 c2 nn2 z2) (SV.o (aB false)) [SB.rows 65 kI6 6 m c z,SB.rows 65 kI6 6 m2 c2 z2]else ∃(s':EqRG (EqRS.mk l m c nn z m2 c2 nn2 z2)),((eS (SA.c (.so 0 0 6 (List.length l) c nn)) (SA.c (.so 0 0 6 (List.length l) c nn))/\eS (SA.c (.so 1 0 6 (List.length l) c2 nn2)) (SA.c (.so 1 0 6 (List.length l) c2 nn2))/\eS (aI (↑(List.length l):Int)) (aI (↑(List.length l):Int))/\eS (aI (IntKind.wrap .i64 ((↑s.1:Int)+(1:Int)))) (aI ↑s'.1)/\True)/\[SB.rows 65 kI6 6 m c z,SB.rows 65 kI6 6 m2 c2 z2]=[SB.rows 65 kI6 6 m c z,SB.rows 65 kI6 6 m2 c2 z2])/\List.length l-s'.1<List.length l-s.1 else endN QfB [] (fun (x:SV) (M:List SB)=>[0,1]) (EqRS.mk l m c nn z m2 c2 nn2 z2) (SV.o (aB true)) [SB.rows 65 kI6 6 m c z,SB.rows 65 kI6 6 m2 c2 z2]) (by kernel_rfl) ?_
 have he:=IsR.eq h2 h4
 refine⟨by omega,by omega,QA (fun h=>absurd rfl h) (fun _=>⟨by omega,⟨⟨0,Nat.zero_le _⟩,⟨rfl,rfl,rfl,rfl,trivial⟩,rfl⟩,?_⟩)⟩
 rintro⟨i,hi⟩
 dsimp only at hi ⊢
 refine Qo (fun hlt=>?_) (fun hge=>⟨(),trivial,rfl,rfl⟩)
 have hlt':i<l.length:=by omega
 rw[Int.toNat_natCast,Nat.zero_add i,he i hlt' 0 (by decide),he i hlt' 1 (by decide),he i hlt' 2 (by decide),he i hlt' 3 (by decide),he i hlt' 4 (by decide),he i hlt' 5 (by decide)]
 exact⟨⟨by omega,by omega,by omega⟩,by omega,⟨by omega,by omega,by omega⟩,by omega,Qd (by kernel_rfl),Xr (fun h=>absurd h (by simp)) (fun _=>⟨⟨i+1,hlt'⟩,⟨⟨rfl,rfl,rfl,svI (sucI (by omega)),trivial⟩,rfl⟩,by dsimp only;omega⟩)⟩
def QfA:MCon:=dcon (EqRS Ev) (fun s=>s.l.length<=1000000000/\(s.l.length<=s.m/\s.m<=s.c)/\IsR 9 Ev.at Ev.nil s.z s.l/\(s.l.length<=s.m2/\s.m2<=s.c2)/\IsR 9 Ev.at Ev.nil s.z2 s.l)
 (fun s=>[.c (.so 0 0 9 s.l.length s.c s.nn),.c (.so 1 0 9 s.l.length s.c2 s.nn2)]) (fun s=>[evB s.m s.c s.z,evB s.m2 s.c2 s.z2]) (fun s=>sv (.bool true)) (fun s=>[evB s.m s.c s.z,evB s.m2 s.c2 s.z2]) 2 (fun args _=>some (blkA args))
def Qm4 (s:EqRS Ev):Ann where
 σ:=EqRG s
 I g:=([(0,.o (.c (.so 0 0 9 s.l.length s.c s.nn))),(1,.o (.c (.so 1 0 9 s.l.length s.c2 s.nn2))),(12,sv (.int .i64 s.l.length)),(13,sv (.int .i64 g.i))],[evB s.m s.c s.z,evB s.m2 s.c2 s.z2])
 dec g:=s.l.length-g.i
 pi _ _:=[0,1]
 nz:=[]
theorem eqrE_con:(Con.mem QfA).holds Tryz.prog 31:=by
 intro w0 S
 refine Qa (Γ:=[]) (fun _=>noW) Tryz.func31 rfl (by kernel_rfl) Qf Qc (fun _ _ _ _=>.nil _ _ _) QfA (fun s=>[(31,[(0,Qm4 s)])]) (fun x0 h s x=>⟨rfl,trivial⟩) (fun s ρ w _ _ _=>Qh w _) [] (fun _ M=>[0,1]) 400 ?_
 rintro⟨l,m,c,nn,z,m2,c2,nn2,z2⟩ w ⟨h0,h1,h2,h3,h4⟩ -
 refine⟨rfl,?_⟩
 dsimp only at h0 h1 h2 h3 h4
 refine Qj (q:=List.length l<=c/\List.length l<=c2/\bif (↑(List.length l):Int) != (↑(List.length l):Int)then endN QfA [] (fun (x:SV) (M:List SB)=>[0,1]) (EqRS.mk l m c nn z m2 c2 nn2 z2) (SV.o (aB false)) [SB.rows 35 kI9 9 m c z,SB.rows 35 kI9 9 m2 c2 z2]else List.length l<=c/\(∃(s0:Ann.σ (Qm4 (EqRS.mk l m c nn z m2 c2 nn2 z2))),(eS (SA.c (.so 0 0 9 (List.length l) c nn)) (SA.c (.so 0 0 9 (List.length l) c nn))/\eS (SA.c (.so 1 0 9 (List.length l) c2 nn2)) (SA.c (.so 1 0 9 (List.length l) c2 nn2))/\eS (aI (↑(List.length l):Int)) (aI (↑(List.length l):Int))/\eS (aI 0) (aI ↑s0.1)/\True)/\[SB.rows 35 kI9 9 m c z,SB.rows 35 kI9 9 m2 c2 z2]=[SB.rows 35 kI9 9 m c z,SB.rows 35 kI9 9 m2 c2 z2])/\∀(s:EqRG (EqRS.mk l m c nn z m2 c2 nn2 z2)),bif decide ((↑s.1:Int)<(↑(List.length l):Int))then ((0:Int)<=(↑s.1:Int)/\(↑s.1:Int)<(↑(List.length l):Int)/\0+List.length l<=c)/\0+Int.toNat (↑s.1:Int)<m/\((0:Int)<=(↑s.1:Int)/\(↑s.1:Int)<(↑(List.length l):Int)/\0+List.length l<=c2)/\0+Int.toNat (↑s.1:Int)<m2/\dP Tryz.f31 6 2 [xE 8,xR 7 1,xF 6 1,xE 5,xF 4 1,xR 3 0,xF 2 0,xE 1,xF 0 0]/\bif bif bif z (0+Int.toNat (↑s.1:Int)) 0==z2 (0+Int.toNat (↑s.1:Int)) 0 then bif z (0+Int.toNat (↑s.1:Int)) 1==z2 (0+Int.toNat (↑s.1:Int)) 1 then bif z (0+Int.toNat (↑s.1:Int)) 2==z2 (0+Int.toNat (↑s.1:Int)) 2 then bif z (0+Int.toNat (↑s.1:Int)) 3==z2 (0+Int.toNat (↑s.1:Int)) 3 then bif z (0+Int.toNat (↑s.1:Int)) 4==z2 (0+Int.toNat (↑s.1:Int)) 4 then bif z (0+Int.toNat (↑s.1:Int)) 5==z2 (0+Int.toNat (↑s.1:Int)) 5 then bif z (0+Int.toNat (↑s.1:Int)) 6==z2 (0+Int.toNat (↑s.1:Int)) 6 then bif z (0+Int.toNat (↑s.1:Int)) 7==z2 (0+Int.toNat (↑s.1:Int)) 7 then bif z (0+Int.toNat (↑s.1:Int)) 8==z2 (0+Int.toNat (↑s.1:Int)) 8 then true else false else false else false else false else false else false else false else false else false then false else true then endN QfA [] (fun (x:SV) (M:List SB)=>[0,1]) (EqRS.mk l m c nn z m2 c2 nn2 z2) (SV.o (aB false)) [SB.rows 35 kI9 9 m c z,SB.rows 35 kI9 9 m2 c2 z2]else ∃(s':EqRG (EqRS.mk l m c nn z m2 c2 nn2 z2)),((eS (SA.c (.so 0 0 9 (List.length l) c nn)) (SA.c (.so 0 0 9 (List.length l) c nn))/\eS (SA.c (.so 1 0 9 (List.length l) c2 nn2)) (SA.c (.so 1 0 9 (List.length l) c2 nn2))/\eS (aI (↑(List.length l):Int)) (aI (↑(List.length l):Int))/\eS (aI (IntKind.wrap .i64 ((↑s.1:Int)+(1:Int)))) (aI ↑s'.1)/\True)/\[SB.rows 35 kI9 9 m c z,SB.rows 35 kI9 9 m2 c2 z2]=[SB.rows 35 kI9 9 m c z,SB.rows 35 kI9 9 m2 c2 z2])/\List.length l-s'.1<List.length l-s.1 else endN QfA [] (fun (x:SV) (M:List SB)=>[0,1]) (EqRS.mk l m c nn z m2 c2 nn2 z2) (SV.o (aB true)) [SB.rows 35 kI9 9 m c z,SB.rows 35 kI9 9 m2 c2 z2]) (by kernel_rfl) ?_
 have he:=IsR.eq h2 h4
 refine⟨by omega,by omega,QA (fun h=>absurd rfl h) (fun _=>⟨by omega,⟨⟨0,Nat.zero_le _⟩,⟨rfl,rfl,rfl,rfl,trivial⟩,rfl⟩,?_⟩)⟩
 rintro⟨i,hi⟩
 dsimp only at hi ⊢
 refine Qo (fun hlt=>?_) (fun hge=>⟨(),trivial,rfl,rfl⟩)
 have hlt':i<l.length:=by omega
 rw[Int.toNat_natCast,Nat.zero_add i,he i hlt' 0 (by decide),he i hlt' 1 (by decide),he i hlt' 2 (by decide),he i hlt' 3 (by decide),he i hlt' 4 (by decide),he i hlt' 5 (by decide),he i hlt' 6 (by decide),he i hlt' 7 (by decide),he i hlt' 8 (by decide)]
 exact⟨⟨by omega,by omega,by omega⟩,by omega,⟨by omega,by omega,by omega⟩,by omega,Qd (by kernel_rfl),Xr (fun h=>absurd h (by simp)) (fun _=>⟨⟨i+1,hlt'⟩,⟨⟨rfl,rfl,rfl,svI (sucI (by omega)),trivial⟩,rfl⟩,by dsimp only;omega⟩)⟩
theorem TCon.weak {X Y α χ:Type}(c c':TCon Y α χ) {L:X->List SB}{y:X->Y}{good:X->Prop}{P:Program}{f:FuncId}(h:(Con.mem (c.high L y good)).holds P f)
 (e:c'={ c with pre:=c'.pre,val:=c'.val }) (hp:∀z a,c'.pre z a->c.pre z a) (hv:∀n z a r,c'.pre z a->c'.val n z a r=c.val n z a r):(Con.mem (c'.high L y good)).holds P f:=by
 obtain⟨pre',args',ok',next',val',new',len'⟩:=c'
 dsimp only at e hp hv
 injection e with _ e1 e2 e3 _ e4 e5
 subst e1 e2 e3 e4 e5
 intro w0 S
 have h:=h w0 S
 refine⟨h.1,fun x0 h=>(by cases h),fun ρ s w hpp hK HM=>(h.2.2 ρ s w (hp _ _ hpp) hK HM).mono ?_⟩
 rintro e w' ⟨x,ρ',h1,h2,h3,h4,h5⟩
 refine⟨x,ρ',h1,h2,h3,?_,h5⟩
 rw[h4]
 show Ending.returned ((c.val 1 s.1 s.2.1 x.2).den ρ')=Ending.returned ((val' 1 s.1 s.2.1 x.2).den ρ')
 rw[hv 1 s.1 s.2.1 x.2 hpp]
def QpY:TCon Sh (Int × OpA) Unit where
 pre z a:=CallOK z/\(inT a.1=true/\(z.w a.1.toNat).does=0/\opOk a.2.k a.2.key a.2.x=true)
 args a:=[.c (.v (.int .i64 a.1)),.a [.one (.v (.int .i64 a.2.k)),.one (.v (.int .i64 a.2.key)),.one (.v (.int .i64 a.2.x))]]
 ok _ _ _:=True
 next z a _:=bif inT a.1 then z.call a.1.toNat a.2.k a.2.key a.2.x else z
 val _ z a _:=.o (.c (.v .nilIface))
 new _ _ _ _:=[]
 len:=0
theorem callNH:(Con.mem QpY.sh).holds Tryz.prog 23:=TCon.weak callA QpY QpZ rfl (fun z a h=>h.1) (fun n z a r h=>by
 obtain⟨h1,h2,h3⟩:=h.2
 show SV.o (.c (.v .nilIface))=.o (.c (.v (bif inT a.1 then (bif (z.w a.1.toNat).does==0 then (bif opOk a.2.k a.2.key a.2.x then .nilIface else _)else _)else _)))
 rw[h1,h3,show ((z.w a.1.toNat).does==0)=true from beq_iff_eq.2 h2];rfl)
def runG:TCon Sh (Int × Int) Unit where
 pre z a:=(inT a.1=true->RunOK z a.1.toNat a.2)/\(inT a.1=true/\runB a.2=true)
 args a:=[.c (.v (.int .i64 a.1)),.c (.v (.int .i64 a.2))]
 ok _ _ _:=True
 next z a _:=z.runA a.1 a.2
 val _ z a _:=.t [.c (.v (.int .i64 (z.ran a.1.toNat a.2.toNat:Nat))),.c (.v .nilIface)]
 new _ _ _ _:=[]
 len:=0
theorem runGH:(Con.mem runG.sh).holds Tryz.prog 24:=TCon.weak QjW runG runH rfl (fun z a h=>h.1) (fun n z a r h=>by
 obtain⟨h1,h2⟩:=h.2
 show SV.t [.c (.v (.int .i64 _)),.c (.v .nilIface)]=.t [.c (.v (.int .i64 (bif inT a.1 then (bif runB a.2 then _ else 0)else 0))),.c (.v (bif inT a.1 then (bif runB a.2 then .nilIface else _)else _))]
 rw[h1,h2];rfl)
def QgU:PCon:=⟨fun args=>match args with
 |[]=>True
 |_=>False,fun _=>sv (.bool true),fun _=>none⟩
theorem shops_con:(Con.pure QgU).holds Tryz.prog 15:=by
 refine Qx (AG:=[]) (Γ:=[(43,.mem Qg2),(44,.pure Qjr),(23,.mem QpY.sh),(24,.mem runG.sh),(42,.mem craC.sh),(26,.mem verC.sh),(27,.mem ddsC.sh),(19,.mem hisC.sh),(21,.mem QiB.sh)]) Tryz.func15 rfl (by kernel_rfl) Qf Qc
  (fun W=>.cons (newH W _) (.cons (Qpu W _) (.cons (callNH W _) (.cons (runGH W _) (.cons (craH W _) (.cons (verH W _) (.cons (ddsH W _) (.cons (hisH W _) (.cons (doesH W _) (.nil _ _ _)))))))))) QgU 400 ?_
 intro W args hp
 unfold QgU at hp;dsimp only at hp;split at hp
 case h_2=>exact hp.elim
 refine⟨rfl,?_⟩
 refine Qj (q:=∃(s:NewS),[aI 1]=[aI s.1]/\eN/\((1:Int)<=s.1/\s.1<=(6:Int))/\∀(x:List Nat),True->True/\∃(s_1:Sh × (Int × OpA) × List Nat),[aP 0 0,aI 0,SA.a [sI 1,sI 0,sI 3]]=[aP 0 0,aI s_1.2.1.1,SA.a [sI s_1.2.1.2.1,sI s_1.2.1.2.2,sI s_1.2.1.2.3]]/\[SB.abs (Qr shM ShS.z ShS.good (Sh.new s.1)) x]=[SB.abs (Qr shM ShS.z ShS.good s_1.1) s_1.2.2]/\(CallOK s_1.1/\inT s_1.2.1.1=true/\(Sh.w s_1.1 (Int.toNat s_1.2.1.1)).2=(0:Int)/\opOk s_1.2.1.2.1 s_1.2.1.2.2 s_1.2.1.2.3=true)/\∀(x:List Nat × Unit),True->∃(s:Sh × (Int × Int) × List Nat),[aP 0 0,aI 0,aI 200]=[aP 0 0,aI s.2.1.1,aI s.2.1.2]/\[SB.abs (Qr shM ShS.z ShS.good (bif inT s_1.2.1.1 then Sh.call s_1.1 (Int.toNat s_1.2.1.1) s_1.2.1.2.1 s_1.2.1.2.2 s_1.2.1.2.3 else s_1.1)) x.1]=[SB.abs (Qr shM ShS.z ShS.good s.1) s.2.2]/\((inT s.2.1.1=true->RunOK s.1 (Int.toNat s.2.1.1) s.2.1.2)/\inT s.2.1.1=true/\runB s.2.1.2=true)/\∀(x:List Nat × Unit),True->∃(s_2:Sh × Int × List Nat),[aP 0 0,aU 0]=[aP 0 0,aU s_2.2.1]/\[SB.abs (Qr shM ShS.z ShS.good (Sh.runA s.1 s.2.1.1 s.2.1.2)) x.1]=[SB.abs (Qr shM ShS.z ShS.good s_2.1) s_2.2.2]/\QiL s_2.1 s_2.2.1/\∀(x:List Nat × Unit),True->bif (↑(Sh.ran s.1 (Int.toNat s.2.1.1) (Int.toNat s.2.1.2)):Int)==(84:Int)then ∃(s:Sh × Unit × List Nat),[aP 0 0]=[aP 0 0]/\[SB.abs (Qr shM ShS.z ShS.good (Sh.crash s_2.1 s_2.2.1)) x.1]=[SB.abs (Qr shM ShS.z ShS.good s.1) s.2.2]/\((0:Int)<=(Sh.s s.1).1 0/\(Sh.s s.1).1 0<(1000000000:Int))/\∀(x:List Nat × Unit),True->bif (Sh.s s.1).1 0==(1:Int)then ∃(s_3:Sh × Unit × List Nat),[aP 0 0]=[aP 0 0]/\[SB.abs (Qr shM ShS.z ShS.good s.1) x.1]=[SB.abs (Qr shM ShS.z ShS.good s_3.1) s_3.2.2]/\List.length s_3.1.7<=1000000000/\∀(x:List Nat × RwR),(List.length s_3.1.7<=x.2.1/\x.2.1<=x.2.2)/\IsR 6 Dd.at Dd.nil x.2.4 (List.map (fun (self:Vd)=>self.2) s_3.1.7)->List.length s_3.1.7<=x.2.2/\bif (↑(List.length s_3.1.7):Int)==(1:Int)then ∃(s:Sh × Unit × List Nat),[aP 0 0]=[aP 0 0]/\[SB.abs (Qr shM ShS.z ShS.good s_3.1) x.1]=[SB.abs (Qr shM ShS.z ShS.good s.1) s.2.2]/\List.length s.1.6<=1000000000/\∀(x:List Nat × RwR),(List.length s.1.6<=x.2.1/\x.2.1<=x.2.2)/\IsE x.2.4 s.1.6->List.length s.1.6<=x.2.2/\bif (↑(List.length s.1.6):Int)==(3:Int)then ∃(s_4:Sh × Nat × List Nat),[aP 0 0,aI 0]=[aP 0 0,aI (↑s_4.2.1:Int)]/\[SB.abs (Qr shM ShS.z ShS.good s.1) x.1]=[SB.abs (Qr shM ShS.z ShS.good s_4.1) s_4.2.2]/\s_4.2.1<4/\∀(x:List Nat × Unit),True->SV.o (aB ((Sh.w s_4.1 s_4.2.1).2==(0:Int)))=SV.o (aB true)/\true=true else SV.o (aB false)=SV.o (aB true)/\true=true else SV.o (aB false)=SV.o (aB true)/\true=true else SV.o (aB false)=SV.o (aB true)/\true=true else SV.o (aB false)=SV.o (aB true)/\true=true) (by kernel_rfl) ?_
 have l1:((Sh.new 1).call 0 1 0 3).ran 0 200=84:=by kernel_rfl
 have l2:((((Sh.new 1).call 0 1 0 3).run 0 200).crash 0).s.now 0=1:=by kernel_rfl
 have l3:((((Sh.new 1).call 0 1 0 3).run 0 200).crash 0).deeds.length=1:=by kernel_rfl
 have l4:((((Sh.new 1).call 0 1 0 3).run 0 200).crash 0).hist.length=3:=by kernel_rfl
 have l5:(((((Sh.new 1).call 0 1 0 3).run 0 200).crash 0).w 0).does=0:=by kernel_rfl
 have F0:=QoW (K:=1) (by decide) (by decide)
 have s1:((Sh.new 1).call 0 1 0 3).steps<=1:=(Qgf (Sh.new 1) 0 1 0 3).2
 have F1:=Qmu F0 (t:=0) (by decide) 1 0 3
 have hst:=(Qdn 0 200 ((Sh.new 1).call 0 1 0 3)).2
 obtain⟨g,Fg⟩:=Qjn (t:=0) (by decide) 200 F1 (by omega)
 obtain⟨z1,hz1⟩:∃z1,z1=(Sh.new 1).call 0 1 0 3:=⟨_,rfl⟩
 rw[<- hz1]at l1 l2 l3 l4 l5 Fg hst s1 F1
 have er:z1.runA 0 200=z1.run 0 200:=by unfold Sh.runA;rw[show inT 0=true from rfl,show runB 200=true from rfl];rfl
 obtain⟨z2,hz2⟩:∃z2,z2=z1.run 0 200:=⟨_,rfl⟩
 rw[<- hz2]at l2 l3 l4 l5 Fg hst
 obtain⟨z3,hz3⟩:∃z3,z3=z2.crash 0:=⟨_,rfl⟩
 rw[<- hz3]at l2 l3 l4 l5
 have go {S T:Sh}(G:List Nat) (e:S=T):[SB.abs (Qr shM ShS.z ShS.good S) G]=[SB.abs (Qr shM ShS.z ShS.good T) G]:=by rw[e]
 have c0:CallOK (Sh.new 1):=CallOK.of F0 (by show (0:Int)<100000000;decide)
 have c1:RunOK z1 0 200:=RunOK.of F1 (by decide) (by omega) 200
 have c2:QiL z2 0:=Fg.craOK (by omega) ⟨by decide,by decide⟩
 have q1:((z1.ran (Int.toNat 0) (Int.toNat 200):Nat):Int)=84:=by
  rw[show z1.ran (Int.toNat 0) (Int.toNat 200)=84 from l1];rfl
 exact⟨⟨1⟩,rfl,rfl,⟨by decide,by decide⟩,fun x _=>⟨trivial,(Sh.new 1,(0,⟨1,0,3⟩),x),rfl,rfl,⟨c0,rfl,rfl,(by decide:opOk 1 0 3=true)⟩,fun y _=>⟨(z1,(0,200),y.1),rfl,go y.1 hz1.symm,⟨fun _=>c1,rfl,rfl⟩,fun y _=>⟨(z2,0,y.1),rfl,go y.1 (er.trans hz2.symm),c2,fun y _=>QU
  (fun _=>⟨(z3,(),y.1),rfl,go y.1 hz3.symm,⟨by show 0<=z3.s.now 0;omega,by show z3.s.now 0<1000000000;omega⟩,fun y _=>QU
   (fun _=>⟨(z3,(),y.1),rfl,rfl,by show z3.deeds.length<=1000000000;omega,fun y hy=>⟨Nat.le_trans hy.1.1 hy.1.2,QU
    (fun _=>⟨(z3,(),y.1),rfl,rfl,by show z3.hist.length<=1000000000;omega,fun y hy=>⟨Nat.le_trans hy.1.1 hy.1.2,QU
     (fun _=>⟨(z3,0,y.1),rfl,rfl,by show 0<4;decide,fun y _=>⟨by rw[show (((z3.w 0).does==0):Bool)=true from beq_iff_eq.2 l5],rfl⟩⟩)
     (fun h=>absurd (by show ((z3.hist.length:Nat):Int)=3;omega) h)⟩⟩)
    (fun h=>absurd (by show ((z3.deeds.length:Nat):Int)=1;omega) h)⟩⟩)
   (fun h=>absurd (by show z3.s.now 0=1;omega) h)⟩)
  (fun h=>absurd q1 h)⟩⟩⟩⟩
theorem abGo {S T:Sh}(G:List Nat) (e:S=T):[SB.abs (Qr shM ShS.z ShS.good S) G]=[SB.abs (Qr shM ShS.z ShS.good T) G]:=by rw[e]
def eqDs (l:List Vd) (a b:RwR):EqRS Dd:=⟨l.map Vd.d,a.m,a.c,a.nn,a.z,b.m,b.c,b.nn,b.z⟩
theorem eqDs_args (l:List Vd) (i j:Nat) (a b:RwR):[SA.c (.so i 0 6 l.length a.c a.nn),SA.c (.so j 0 6 l.length b.c b.nn)]=[SA.c (.so i 0 6 (eqDs l a b).l.length a.c a.nn),SA.c (.so j 0 6 (eqDs l a b).l.length b.c b.nn)]:=by
 show _=[SA.c (.so i 0 6 (l.map Vd.d).length a.c a.nn),SA.c (.so j 0 6 (l.map Vd.d).length b.c b.nn)]
 rw[List.length_map]
theorem eqDs_pre {l:List Vd}{a b:RwR}(h:l.length<=1000000000) (ha:(l.length<=a.m/\a.m<=a.c)/\IsR 6 Dd.at Dd.nil a.z (l.map Vd.d)) (hb:(l.length<=b.m/\b.m<=b.c)/\IsR 6 Dd.at Dd.nil b.z (l.map Vd.d)):
 (eqDs l a b).l.length<=1000000000/\((eqDs l a b).l.length<=a.m/\a.m<=a.c)/\IsR 6 Dd.at Dd.nil a.z (eqDs l a b).l/\((eqDs l a b).l.length<=b.m/\b.m<=b.c)/\IsR 6 Dd.at Dd.nil b.z (eqDs l a b).l:=by
 have e:(eqDs l a b).l.length=l.length:=List.length_map _
 rw[e];exact⟨h,ha.1,ha.2,hb.1,hb.2⟩
def eqEs (l:List Ev) (a b:RwR):EqRS Ev:=⟨l,a.m,a.c,a.nn,a.z,b.m,b.c,b.nn,b.z⟩
theorem FinI.ver {K:Int}{z:Sh}{g:Gh}(F:FinI K z g) (hs:z.steps<100000000):0<=z.s.now 0/\z.s.now 0<1000000000:=by
 have h1:=F.i.now
 have h2:=F.i.gl.vb
 have h3:=F.i.gl.now0
 omega
end
section
section
variable {K:Int}{z:Sh}{g:Gh}{t:Nat}
end
end
section
section
variable {K:Int}{z:Sh}{g:Gh}{t:Nat}
end
end
section
section
variable {K:Int}{z:Sh}{g:Gh}{t:Nat}
end
end
section
open Go.ChangeShapes Go.WideShapes Go.RowKit
theorem lOwn:ownKnob Tryz.prog.godebug=none:=by kernel_rfl
theorem lEt:Tryz.prog.globalNamed "errors.errorType" =some 0:=by kernel_rfl
theorem lRt:(Tryz.prog.cutTypes.find? (·.1 == "internal/reflectlite.rtype")).map (·.2)=some 211:=by kernel_rfl
theorem lSize:Tryz.prog.types.size=262:=by kernel_rfl
theorem lRow:((List.range 262).filter fun t=>Tryz.prog.rowNamed t [101,114,114,111,114])=[40]:=by kernel_rfl
abbrev laidL:List (String × DataW Unit):=[("errors.errorType",Rows.laid_errors_errorType)]
abbrev ErrType (W:World):Prop:=W.cell? ⟨0,0,none⟩=some (.iface 211 (.agg #[.pointer (some ⟨1,40,none⟩)]))
theorem handle_of_laid {W:World}(h:laidMetH Tryz.prog laidL W):ErrType W:=by
 have h':laidMet Tryz.prog [] W/\handlesMet Tryz.prog laidL W:=h
 obtain⟨name,u,ty,e1,e2,e3,e4,e5⟩:=h'.2 _ (List.mem_singleton.2 rfl)
 have en:name=[101,114,114,111,114]:=(Option.some.inj e1).symm
 subst en
 obtain rfl:=Option.some.inj (lRt.symm.trans e2)
 have hm:ty∈(List.range 262).filter fun t=>Tryz.prog.rowNamed t [101,114,114,111,114]:=List.mem_filter.2 ⟨List.mem_range.2 (by rw[<- lSize];exact e3),e4⟩
 rw[lRow]at hm
 obtain rfl:=List.mem_singleton.1 hm
 have hh:typeHandle Tryz.prog 40=.pointer (some ⟨1,40,none⟩):=by kernel_rfl
 rw[hh]at e5
 simpa using World.var?_cell lEt e5 0
noncomputable def laidWorld (os:Os):World:=
 let w0:=World.holding Tryz.prog os ⟨#[],#[],[]⟩
 { w0 with heap:=w0.heap.modify 0 fun
  |.cells _ t frozen=>.cells #[.iface 211 (.agg #[.pointer (some ⟨1,40,none⟩)])] t frozen
  |o=>o }
theorem laidWorld_met (os:Os) (args:Array Value):laidMetH Tryz.prog laidL ((laidWorld os).forCall (fun _ _=>0) ⟨#[],args,[]⟩).memory:=
 laidMetH_of_parts (laidMet_nil _ _) (by kernel_rfl)
end
section
open Go.ChangeShapes Go.WideShapes Go.Deep Go.ChangeAt
theorem blk_lt {w:World}{b o:Nat}{v:Value}(h:w.cell? ⟨b,o,none⟩=some v):b<w.heap.size:=by
 unfold World.cell? at h
 by_cases hb:b<w.heap.size
 · exact hb
 · simp[Array.getElem?_eq_none (Nat.le_of_not_lt hb)]at h
theorem one_int {H:Type}{enc:TypeId × Value->H}{w:World}{base:Nat}{spare:Nat->Bool}{held:Bool}{n:Nat}{t:TypeId}{k:IntKind}{v:Value}{y:Option (DataW H × List MemPlace)}(ht:Tryz.prog.underlying t=some (.int k))
 (h:DataW.trod enc Tryz.prog w base spare held n t [v]=y) (hy:y.isSome):∃z,v=.int k z/\(Lit.int k z).wf=true:=by
 obtain⟨x,rfl⟩:=Option.isSome_iff_exists.1 hy
 obtain⟨z,h1,-,h2⟩:=DataW.trod_int ht h
 simp at h1
 exact⟨z,h1,h2⟩
theorem u64_of_wf {x:Int}(h:(Lit.int .u64 x).wf=true):U64 x:=by
 have h2:(decide ((0:Int)<=x)&&decide (x<=18446744073709551615))=true:=h
 simp only[Bool.and_eq_true,decide_eq_true_eq]at h2
 exact⟨h2.1,by omega⟩
theorem cellsOp_of {H:Type}{enc:TypeId × Value->H}{w:World}{base:Nat}{spare:Nat->Bool}{held:Bool}{n:Nat}{cs:List Value}{y:Option (DataW H × List MemPlace)}
 (h:DataW.trod enc Tryz.prog w base spare held n 31 cs=y) (hy:y.isSome):
 ∃z0 z1 z2:Int,cs=[.int .i64 z0,.int .i64 z1,.int .i64 z2]/\(Lit.int .i64 z0).wf=true/\(Lit.int .i64 z1).wf=true/\(Lit.int .i64 z2).wf=true:=by
 obtain⟨x,rfl⟩:=Option.isSome_iff_exists.1 hy
 obtain⟨ys,n',-,-,hlen,hyl,hf⟩:=DataW.trod_struct Tryz.underlying31 h
 have hc:Tryz.prog.cellsOf 31=3:=by kernel_rfl
 have hc_int:Tryz.prog.cellsOf 3=1:=by kernel_rfl
 rw[hc]at hlen
 match cs,hlen with
 |[v0,v1,v2],_=>
  have hyl':ys.length=3:=hyl
  have g0:DataW.trod enc Tryz.prog w base spare held n' 3 (([v0,v1,v2].drop 0).take (Tryz.prog.cellsOf 3))=ys[0]?:=hf 0 _ rfl
  rw[hc_int]at g0
  dsimp only[List.drop,List.take]at g0
  have g1:DataW.trod enc Tryz.prog w base spare held n' 3 (([v0,v1,v2].drop 1).take (Tryz.prog.cellsOf 3))=ys[1]?:=hf 1 _ rfl
  rw[hc_int]at g1
  dsimp only[List.drop,List.take]at g1
  have g2:DataW.trod enc Tryz.prog w base spare held n' 3 (([v0,v1,v2].drop 2).take (Tryz.prog.cellsOf 3))=ys[2]?:=hf 2 _ rfl
  rw[hc_int]at g2
  dsimp only[List.drop,List.take]at g2
  obtain⟨z0,rfl,w0⟩:=one_int Tryz.underlying3 g0 (by simp[hyl'])
  obtain⟨z1,rfl,w1⟩:=one_int Tryz.underlying3 g1 (by simp[hyl'])
  obtain⟨z2,rfl,w2⟩:=one_int Tryz.underlying3 g2 (by simp[hyl'])
  exact⟨z0,z1,z2,rfl,w0,w1,w2⟩
theorem cellsMove_of {H:Type}{enc:TypeId × Value->H}{w:World}{base:Nat}{spare:Nat->Bool}{held:Bool}{n:Nat}{cs:List Value}{y:Option (DataW H × List MemPlace)}
 (h:DataW.trod enc Tryz.prog w base spare held n 54 cs=y) (hy:y.isSome):
 ∃z0 z1 z2 z3 z4 z5 z6:Int,cs=[.int .i64 z0,.int .i64 z1,.int .i64 z2,.int .i64 z3,.int .i64 z4,.int .i64 z5,.int .u64 z6]/\(Lit.int .i64 z0).wf=true/\(Lit.int .i64 z1).wf=true/\(Lit.int .i64 z2).wf=true/\(Lit.int .i64 z3).wf=true/\(Lit.int .i64 z4).wf=true/\(Lit.int .i64 z5).wf=true/\(Lit.int .u64 z6).wf=true:=by
 obtain⟨x,rfl⟩:=Option.isSome_iff_exists.1 hy
 obtain⟨ys,n',-,-,hlen,hyl,hf⟩:=DataW.trod_struct Tryz.underlying54 h
 have hc:Tryz.prog.cellsOf 54=7:=by kernel_rfl
 have hc_int:Tryz.prog.cellsOf 3=1:=by kernel_rfl
 have hc_Op:Tryz.prog.cellsOf 31=3:=by kernel_rfl
 have hc_u64:Tryz.prog.cellsOf 52=1:=by kernel_rfl
 rw[hc]at hlen
 match cs,hlen with
 |[v0,v1,v2,v3,v4,v5,v6],_=>
  have hyl':ys.length=5:=hyl
  have g0:DataW.trod enc Tryz.prog w base spare held n' 3 (([v0,v1,v2,v3,v4,v5,v6].drop 0).take (Tryz.prog.cellsOf 3))=ys[0]?:=hf 0 _ rfl
  rw[hc_int]at g0
  dsimp only[List.drop,List.take]at g0
  have g1:DataW.trod enc Tryz.prog w base spare held n' 3 (([v0,v1,v2,v3,v4,v5,v6].drop 1).take (Tryz.prog.cellsOf 3))=ys[1]?:=hf 1 _ rfl
  rw[hc_int]at g1
  dsimp only[List.drop,List.take]at g1
  have g2:DataW.trod enc Tryz.prog w base spare held n' 31 (([v0,v1,v2,v3,v4,v5,v6].drop 2).take (Tryz.prog.cellsOf 31))=ys[2]?:=hf 2 _ rfl
  rw[hc_Op]at g2
  dsimp only[List.drop,List.take]at g2
  have g3:DataW.trod enc Tryz.prog w base spare held n' 3 (([v0,v1,v2,v3,v4,v5,v6].drop 5).take (Tryz.prog.cellsOf 3))=ys[3]?:=hf 3 _ rfl
  rw[hc_int]at g3
  dsimp only[List.drop,List.take]at g3
  have g4:DataW.trod enc Tryz.prog w base spare held n' 52 (([v0,v1,v2,v3,v4,v5,v6].drop 6).take (Tryz.prog.cellsOf 52))=ys[4]?:=hf 4 _ rfl
  rw[hc_u64]at g4
  dsimp only[List.drop,List.take]at g4
  obtain⟨z0,rfl,w0⟩:=one_int Tryz.underlying3 g0 (by simp[hyl'])
  obtain⟨z1,rfl,w1⟩:=one_int Tryz.underlying3 g1 (by simp[hyl'])
  obtain⟨z2,z3,z4,he2,w2,w3,w4⟩:=cellsOp_of g2 (by simp[hyl'])
  simp only[List.cons.injEq,and_true]at he2
  obtain⟨rfl,rfl,rfl⟩:=he2
  obtain⟨z5,rfl,w5⟩:=one_int Tryz.underlying3 g3 (by simp[hyl'])
  obtain⟨z6,rfl,w6⟩:=one_int Tryz.underlying52 g4 (by simp[hyl'])
  exact⟨z0,z1,z2,z3,z4,z5,z6,rfl,w0,w1,w2,w3,w4,w5,w6⟩
theorem rowsMove_of {H:Type}{enc:TypeId × Value->H}{w:World}{base:Nat}{spare:Nat->Bool}{held:Bool}{a0:Option Addr}{len0 cap0:Nat}{d0:DataW H}{p0:List MemPlace}
 (h:DataW.Trod enc Tryz.prog w base spare held 22 (.slice a0 len0 cap0) d0 p0):∃f,MvIn w a0 len0 cap0 f:=by
 obtain⟨fuel,hf⟩:=h
 have hc:Tryz.prog.cellsOf 54=7:=by kernel_rfl
 rcases open_slice Tryz.underlying22 hf with⟨hcs,-⟩|⟨a,len,cap,m,n,D,Pl,hcs,hb,hl,hm,hmm,hx,hi⟩
 · simp[Value.cells]at hcs
   obtain⟨rfl,rfl,rfl⟩:=hcs
   exact⟨fun _ _=>0,⟨Nat.le_refl _,by omega,.inl rfl⟩,fun i hi=>absurd hi (Nat.not_lt_zero _)⟩
 · simp[Value.cells]at hcs
   obtain⟨rfl,rfl,rfl⟩:=hcs
   unfold maxLen at hm
   rw[hc]at hi
   have hi':∀i,i<len0->∃z:Nat->Int,∀j,j<7->w.cell? (a.add (i*7+j))=some (.int (mvK j) (z j))/\(Lit.int (mvK j) (z j)).wf=true:=by
    intro i hil
    obtain⟨cs,h1,h2⟩:=hi i (by rw[hmm];split<;>omega)
    obtain⟨z0,z1,z2,z3,z4,z5,z6,rfl,w0,w1,w2,w3,w4,w5,w6⟩:=cellsMove_of h2 (by rfl)
    obtain⟨-,-,hat⟩:=World.cells?_some h1
    refine⟨fun j=>[z0,z1,z2,z3,z4,z5,z6].getD j 0,fun j hj=>?_⟩
    rw[<- Go.Deep.add_add,hat j (by simpa using hj)]
    match j,hj with
    |0,_=>exact⟨rfl,w0⟩
    |1,_=>exact⟨rfl,w1⟩
    |2,_=>exact⟨rfl,w2⟩
    |3,_=>exact⟨rfl,w3⟩
    |4,_=>exact⟨rfl,w4⟩
    |5,_=>exact⟨rfl,w5⟩
    |6,_=>exact⟨rfl,w6⟩
   by_cases h0:len0=0
   · subst h0;exact⟨fun _ _=>0,⟨Nat.zero_le _,by omega,.inl rfl⟩,fun i hi=>absurd hi (Nat.not_lt_zero _)⟩
   · obtain⟨z,hz⟩:=hi' 0 (by omega)
     obtain⟨b,off,spot⟩:=a
     have hspot:spot=none:=by simpa [Addr.add] using World.cell?_spot (hz 0 (by omega)).1
     subst hspot
     have hadd:∀i,(⟨b,off,none⟩:Addr).add i=⟨b,off+i,none⟩:=fun i=>by
      unfold Addr.add;split
      · subst i;rfl
      · rfl
     classical
     let F:Nat->Nat->Int:=fun i=>if h:i<len0 then Classical.choose (hi' i h)else fun _=>0
     refine⟨F,⟨hl,by omega,.inr ⟨b,off,rfl,?_,fun j hj i hi0=>?_⟩⟩,fun j hj=>?_⟩
     · have:=(hz 0 (by omega)).1;rw[hadd]at this;exact blk_lt this
     · have hF:F j=Classical.choose (hi' j hj):=by simp only[F,dif_pos hj]
       obtain⟨c1,c2⟩:=Classical.choose_spec (hi' j hj) i hi0
       rw[<- hF]at c1 c2
       rw[hadd,<- Nat.add_assoc]at c1
       exact⟨c1,trivial⟩
     · have hF:F j=Classical.choose (hi' j hj):=by simp only[F,dif_pos hj]
       have c2:=(Classical.choose_spec (hi' j hj) 6 (by decide)).2
       rw[<- hF]at c2
       exact u64_of_wf c2
theorem aggOp_of {H:Type}{enc:TypeId × Value->H}{w:World}{base b0:Nat}{spare:Nat->Bool}{held:Bool}{v:Value}{d:DataW H}{p:List MemPlace}
 (hv:Value.okWide Tryz.prog w .any b0 31 v) (h:DataW.Trod enc Tryz.prog w base spare held 31 v d p):
 ∃z0 z1 z2:Int,v=.agg #[.int .i64 z0,.int .i64 z1,.int .i64 z2]/\(Lit.int .i64 z0).wf=true/\(Lit.int .i64 z1).wf=true/\(Lit.int .i64 z2).wf=true:=by
 obtain⟨cs,rfl,hs⟩:=okWide_struct Tryz.underlying31 hv
 obtain⟨fuel,hf⟩:=h
 obtain⟨z0,z1,z2,hc,w0,w1,w2⟩:=cellsOp_of hf (by rfl)
 refine⟨z0,z1,z2,?_,w0,w1,w2⟩
 have:cs.toList=[.int .i64 z0,.int .i64 z1,.int .i64 z2]:=hc
 rw[<- Array.toArray_toList (xs:=cs),this]
end
section
open Go.RowKit
theorem TCon.weakD {X Y α χ:Type}(c c':TCon Y α χ) {L:X->List SB}{y:X->Y}{good:X->Prop}{P:Program}{f:FuncId}(h:(Con.mem (c.high L y good)).holds P f)
 (e:c'={ c with pre:=c'.pre,val:=c'.val }) (hp:∀z a,c'.pre z a->c.pre z a) (hv:∀n z a r ρ,(c'.val n z a r).den ρ=(c.val n z a r).den ρ):(Con.mem (c'.high L y good)).holds P f:=by
 obtain⟨pre',args',ok',next',val',new',len'⟩:=c'
 dsimp only at e hp hv
 injection e with _ e1 e2 e3 _ e4 e5
 subst e1 e2 e3 e4 e5
 intro w0 S
 have h:=h w0 S
 refine⟨h.1,fun x0 h=>(by cases h),fun ρ s w hpp hK HM=>(h.2.2 ρ s w (hp _ _ hpp) hK HM).mono ?_⟩
 rintro e w' ⟨x,ρ',h1,h2,h3,h4,h5⟩
 refine⟨x,ρ',h1,h2,h3,?_,h5⟩
 rw[h4]
 show Ending.returned ((c.val 1 s.1 s.2.1 x.2).den ρ')=Ending.returned ((val' 1 s.1 s.2.1 x.2).den ρ')
 rw[hv 1 s.1 s.2.1 x.2 ρ']
def stepQ:TCon Sh Nat Unit where
 pre z t:=StpOK z t
 args t:=[.c (.v (.int .i64 t))]
 ok _ _ _:=True
 next z t _:=z.step t
 val _ z t _:=.t [ansA (bif QeD z t then (Qg (z.wst t)).1.w.oc else 0) (bif QeD z t then (Qg (z.wst t)).1.w.ov else 0),.c (.v (.bool (QeD z t))),.c (.q ((z.w t).does==0) 97 (.int .i64 8))]
 new _ _ _ _:=[]
 len:=0
theorem stepQH:(Con.mem stepQ.sh).holds Tryz.prog 30:=TCon.weakD Qii stepQ stepH rfl (fun z a h=>h) (fun n z a r ρ=>rfl)
end
section
open Go.RowKit Go.Lib
abbrev Qe6 (m c:Nat) (z:Nat->Nat->Int):SB:=.rows 54 [.int .i64,.int .i64,.int .i64,.int .i64,.int .i64,.int .i64,.int .u64] 7 m c z
def QgK:Go.Shelf.Ren:=⟨fun|4=>54|n=>n,fun|22=>22|25=>54|3=>3|4=>4|9=>9|20=>20|0=>0|n=>n,fun|n=>n⟩
theorem Qjk:Go.Proofs.Lays8.n4 Tryz.prog QgK:={
 mixed:=by kernel_rfl
 f4:=⟨ "slices.Grow[[]gristmill/script.Move,gristmill/script.Move]",by decide,Tryz.func54.trans (congrArg some (by kernel_rfl))⟩
 t0:=Tryz.underlying0
 a0:=Tryz.isAgg0
 z0:=Tryz.sizeOf0
 v0:=Tryz.zeroValue0
 t3:=Tryz.underlying3
 a3:=Tryz.isAgg3
 z3:=Tryz.sizeOf3
 v3:=Tryz.zeroValue3
 t4:=Tryz.underlying4
 a4:=Tryz.isAgg4
 z4:=Tryz.sizeOf4
 v4:=Tryz.zeroValue4
 t9:=Tryz.underlying9
 a9:=Tryz.isAgg9
 z9:=Tryz.sizeOf9
 v9:=Tryz.zeroValue9
 t20:=Tryz.underlying20
 a20:=Tryz.isAgg20
 z20:=Tryz.sizeOf20
 v20:=Tryz.zeroValue20
 t22:=Tryz.underlying22
 a22:=Tryz.isAgg22
 z22:=Tryz.sizeOf22
 v22:=Tryz.zeroValue22 }
structure GrRM where
 c:Nat
 nn:Bool
def Qjs:RCon where
 σ:=Nat
 χ:=GrRM
 pre n:=n<=1000
 args n:=[.c (.v (.slice none 0 0)),.c (.v (.int .i64 (n:Int)))]
 mem _:=[]
 ok _ _:=True
 val _ x:=.o (.c (.so 0 0 7 0 x.c x.nn))
 new _ x:=[Qe6 0 x.c (fun _ _=>0)]
 len:=1
 det:=none
 find _ _:=some []
theorem growM_con:(Con.rd Qjs).holds Tryz.prog 54:=by
 intro w0 S
 refine⟨by kernel_rfl,(fun x0 h=>by cases h),fun ρ (n:Nat) w hp _ _=>?_⟩
 have hn:n<=1000:=hp
 rcases Nat.eq_zero_or_pos n with h0|h0
 · subst h0
   refine (Any8.slices_Grow_room Qjk none 0 0 0 w (Nat.le_refl _) (by decide) (by decide) (Nat.le_refl _)).mono fun e w' ⟨he,hw⟩=>?_
   subst hw
   exact⟨⟨0,false⟩,ρ,trivial,fun i hi=>absurd hi (Nat.not_lt_zero _),rfl,he,⟨Kept.refl _ _,fun f hf=>by
    obtain rfl:=List.mem_singleton.1 hf
    exact⟨Nat.le_refl _,rfl,fun h=>absurd h (Nat.lt_irrefl _)⟩,fun f hf g hg=>by
    obtain rfl:=List.mem_singleton.1 hf
    exact absurd hg.1 (Nat.lt_irrefl _),List.pairwise_singleton _ _⟩⟩
 · have hs:(Tryz.prog.info? 54).map (·.size)=some 7:=by kernel_rfl
   have hz:(Tryz.prog.info? 54).bind (·.zero)=some (.agg #[.int .i64 0,.int .i64 0,.int .i64 0,.int .i64 0,.int .i64 0,.int .i64 0,.int .u64 0]):=by kernel_rfl
   have hb:(Tryz.prog.info? 54).map (·.bytes)=some 56:=by kernel_rfl
   cases hq:Tryz.prog.info? 54 with
   |none=>rw[hq]at hs;cases hs
   |some i0=>
    rw[hq]at hs hz hb
    simp only[Option.map_some,Option.some.injEq,Option.bind_some]at hs hz hb
    refine (Any8.slices_Grow_grow Qjk i0 _ hq hz (by omega) none 0 0 n [] w (Nat.le_refl _) (by omega) (by rw[hb];omega) (by omega) (by simp) (fun _=>rfl) (fun a h=>by cases h)).mono fun e w' ⟨he,hw⟩=>?_
    have hG1:=grownCap_ge w (0+n) 0 (QgK.t 25)
    have hG2:=grownCap_le_maxLen w (0+n) 0 (QgK.t 25) (by unfold maxLen;omega)
    rw[hw]
    generalize grownCap w (0+n) 0 (QgK.t 25)=G at *
    refine⟨⟨G,true⟩,fun _=>w.heap.size,trivial,fun i hi=>absurd hi (Nat.not_lt_zero _),rfl,?_,⟨.of_below (((Below.refl _ _).drew).alloc (Nat.le_refl _) _),fun f hf=>?_,fun f hf g hg=>?_,List.pairwise_singleton _ _⟩⟩
    · rw[he]
      have e0:(bif (G-0).beq 0 then (0:Nat)else 0*7)=0:=by cases (G-0).beq 0<;>rfl
      simp only[Qjs,SV.den,SA.den,SC.den,Bool.not_true,Bool.and_false,cond_false,e0]
      rfl
    · obtain rfl:=List.mem_singleton.1 hf
      exact⟨Nat.zero_le _,rfl,fun _=>⟨_,Blk.newA w.drew _ _,by simp[size_zeroCells,Value.cells];omega,rfl,hG2⟩⟩
    · obtain rfl:=List.mem_singleton.1 hf
      obtain⟨-,rfl⟩:=hg
      exact .inr (Nat.le_refl _)
structure PlO where
 k:Int
 n:Nat
 m:Nat
 c:Nat
 nn:Bool
 z:Nat->Nat->Int
def QgV:MCon where
 σ:=PlO
 χ:=List Nat
 pre s:=(1<=s.k/\s.k<=6)/\s.n<=3000/\(s.n<=s.m/\s.m<=s.c)/\∀i,i<s.n->U64 (s.z i 6)
 args s:=[.c (.v (.int .i64 s.k)),.c (.so 0 0 7 s.n s.c s.nn)]
 mem s:=[Qe6 s.m s.c s.z]
 ok s x:=True
 val s x:=.t [.c (.p 1 0),.c (.v .nilIface)]
 mem' s x:=[Qe6 s.m s.c s.z,.abs (Qr shM ShS.z ShS.good (QW s.k (mvL s.z s.n))) x]
 k:=1
 len:=2
 det:=none
 find args M:=match args with
  |[_,.c (.so b _ _ _ _ _)]=>some [b]
  |_=>none
def Qoq (W:World):MCon:={ QgW W with find:=fun args _=>match args with
    |[_,.c (.r _ _ _ _ _ _ _)]=>some []
    |_=>none }
theorem playR_con (W:World):(Con.mem (Qoq W)).holdsAt Tryz.prog W (fun _=>False) 45:=QnA W
structure PlOG (s:PlO) where
 i:Nat
 F:List Nat
 hi:i<=s.n
def Qjz (s:PlO):Ann where
 σ:=PlOG s
 I g:=([(6,.o (.c (.p 1 0))),(18,.o (.c (.so 0 0 7 s.n s.c s.nn))),(19,sv (.int .i64 s.n)),(20,sv (.int .i64 g.i))],[Qe6 s.m s.c s.z,.abs (Qr shM ShS.z ShS.good (QW s.k (mvL s.z g.i))) g.F])
 dec g:=s.n-g.i
 pi env _:=[0,blkE env 6]
 nz:=[]
theorem playO_con:(Con.mem QgV).holds Tryz.prog 45:=by
 intro w0 S
 refine Qa (Γ:=[(43,.mem Qg2),(23,.mem callA.sh),(24,.mem QjW.sh),(67,.mem evC.sh),(42,.mem craC.sh)]) (fun _=>noW) Tryz.func45 rfl (by kernel_rfl) Qf Qc (fun w S' _ _=>.cons (newH w _) (.cons (QpZ w _) (.cons (runH w _) (.cons (evH w _) (.cons (craH w _) (.nil _ _ _)))))) QgV (fun s=>[(45,[(0,Qjz s)])]) (fun x0 h=>by cases h)
  (fun s ρ w _ _ _=>Qh w _) [] (fun x M=>match x with
  |.t [.c (.p b _),_]=>[0,b]
  |_=>[]) 600 ?_
 rintro⟨k,n,m,c,nn,z⟩ w ⟨⟨h1,h6⟩,hn,hm,hu⟩ -
 refine⟨rfl,?_⟩
 refine Qj (q:=∃(s:NewS),[aI k]=[aI s.1]/\eN/\((1:Int)<=s.1/\s.1<=(6:Int))/\∀(x:List Nat),True->n<=c/\(∃(s0:Ann.σ (Qjz (PlO.mk k n m c nn z))),(eS (aP 1 0) (aP 1 0)/\eS (SA.c (.so 0 0 7 n c nn)) (SA.c (.so 0 0 7 n c nn))/\eS (aI ↑n) (aI ↑n)/\eS (aI 0) (aI ↑s0.1)/\True)/\[SB.rows 54 [.int .i64,.int .i64,.int .i64,.int .i64,.int .i64,.int .i64,.int .u64] 7 m c z,SB.abs (Qr shM ShS.z ShS.good (Sh.new s.1)) x]=[SB.rows 54 [.int .i64,.int .i64,.int .i64,.int .i64,.int .i64,.int .i64,.int .u64] 7 m c z,SB.abs (Qr shM ShS.z ShS.good (QW k (mvL z s0.1))) s0.2])/\∀(s:PlOG (PlO.mk k n m c nn z)),bif decide ((↑s.1:Int)<(↑n:Int))then ((0:Int)<=(↑s.1:Int)/\(↑s.1:Int)<(↑n:Int)/\0+n<=c)/\0+Int.toNat (↑s.1:Int)<m/\bif z (0+Int.toNat (↑s.1:Int)) 0==(1:Int)then ∃(s_1:Sh × (Int × OpA) × List Nat),[aP 1 0,aI (z (0+Int.toNat (↑s.1:Int)) 1),SA.a [sI (z (0+Int.toNat (↑s.1:Int)) 2),sI (z (0+Int.toNat (↑s.1:Int)) 3),sI (z (0+Int.toNat (↑s.1:Int)) 4)]]=[aP 1 0,aI s_1.2.1.1,SA.a [sI s_1.2.1.2.1,sI s_1.2.1.2.2,sI s_1.2.1.2.3]]/\[SB.abs (Qr shM ShS.z ShS.good (QW k (mvL z s.1))) s.2]=[SB.abs (Qr shM ShS.z ShS.good s_1.1) s_1.2.2]/\CallOK s_1.1/\∀(x:List Nat × Unit),True->∃(s':PlOG (PlO.mk k n m c nn z)),((eS (aP 1 0) (aP 1 0)/\eS (SA.c (.so 0 0 7 n c nn)) (SA.c (.so 0 0 7 n c nn))/\eS (aI ↑n) (aI ↑n)/\eS (aI (IntKind.wrap .i64 ((↑s.1:Int)+(1:Int)))) (aI ↑s'.1)/\True)/\[SB.rows 54 [.int .i64,.int .i64,.int .i64,.int .i64,.int .i64,.int .i64,.int .u64] 7 m c z,SB.abs (Qr shM ShS.z ShS.good (bif inT s_1.2.1.1 then Sh.call s_1.1 (Int.toNat s_1.2.1.1) s_1.2.1.2.1 s_1.2.1.2.2 s_1.2.1.2.3 else s_1.1)) x.1]=[SB.rows 54 [.int .i64,.int .i64,.int .i64,.int .i64,.int .i64,.int .i64,.int .u64] 7 m c z,SB.abs (Qr shM ShS.z ShS.good (QW k (mvL z s'.1))) s'.2])/\n-s'.1<n-s.1 else bif z (0+Int.toNat (↑s.1:Int)) 0==(2:Int)then ∃(s_1:Sh × (Int × Int) × List Nat),[aP 1 0,aI (z (0+Int.toNat (↑s.1:Int)) 1),aI (z (0+Int.toNat (↑s.1:Int)) 5)]=[aP 1 0,aI s_1.2.1.1,aI s_1.2.1.2]/\[SB.abs (Qr shM ShS.z ShS.good (QW k (mvL z s.1))) s.2]=[SB.abs (Qr shM ShS.z ShS.good s_1.1) s_1.2.2]/\(inT s_1.2.1.1=true->RunOK s_1.1 (Int.toNat s_1.2.1.1) s_1.2.1.2)/\∀(x:List Nat × Unit),True->∃(s':PlOG (PlO.mk k n m c nn z)),((eS (aP 1 0) (aP 1 0)/\eS (SA.c (.so 0 0 7 n c nn)) (SA.c (.so 0 0 7 n c nn))/\eS (aI ↑n) (aI ↑n)/\eS (aI (IntKind.wrap .i64 ((↑s.1:Int)+(1:Int)))) (aI ↑s'.1)/\True)/\[SB.rows 54 [.int .i64,.int .i64,.int .i64,.int .i64,.int .i64,.int .i64,.int .u64] 7 m c z,SB.abs (Qr shM ShS.z ShS.good (Sh.runA s_1.1 s_1.2.1.1 s_1.2.1.2)) x.1]=[SB.rows 54 [.int .i64,.int .i64,.int .i64,.int .i64,.int .i64,.int .i64,.int .u64] 7 m c z,SB.abs (Qr shM ShS.z ShS.good (QW k (mvL z s'.1))) s'.2])/\n-s'.1<n-s.1 else bif z (0+Int.toNat (↑s.1:Int)) 0==(3:Int)then ∃(s_1:Sh × Int × List Nat),[aP 1 0,aI (z (0+Int.toNat (↑s.1:Int)) 5)]=[aP 1 0,aI s_1.2.1]/\[SB.abs (Qr shM ShS.z ShS.good (QW k (mvL z s.1))) s.2]=[SB.abs (Qr shM ShS.z ShS.good s_1.1) s_1.2.2]/\True/\∀(x:List Nat × Unit),True->∃(s':PlOG (PlO.mk k n m c nn z)),((eS (aP 1 0) (aP 1 0)/\eS (SA.c (.so 0 0 7 n c nn)) (SA.c (.so 0 0 7 n c nn))/\eS (aI ↑n) (aI ↑n)/\eS (aI (IntKind.wrap .i64 ((↑s.1:Int)+(1:Int)))) (aI ↑s'.1)/\True)/\[SB.rows 54 [.int .i64,.int .i64,.int .i64,.int .i64,.int .i64,.int .i64,.int .u64] 7 m c z,SB.abs (Qr shM ShS.z ShS.good (Sh.evict s_1.1 s_1.2.1)) x.1]=[SB.rows 54 [.int .i64,.int .i64,.int .i64,.int .i64,.int .i64,.int .i64,.int .u64] 7 m c z,SB.abs (Qr shM ShS.z ShS.good (QW k (mvL z s'.1))) s'.2])/\n-s'.1<n-s.1 else bif z (0+Int.toNat (↑s.1:Int)) 0==(4:Int)then ∃(s_1:Sh × Int × List Nat),[aP 1 0,aU (z (0+Int.toNat (↑s.1:Int)) 6)]=[aP 1 0,aU s_1.2.1]/\[SB.abs (Qr shM ShS.z ShS.good (QW k (mvL z s.1))) s.2]=[SB.abs (Qr shM ShS.z ShS.good s_1.1) s_1.2.2]/\QiL s_1.1 s_1.2.1/\∀(x:List Nat × Unit),True->∃(s':PlOG (PlO.mk k n m c nn z)),((eS (aP 1 0) (aP 1 0)/\eS (SA.c (.so 0 0 7 n c nn)) (SA.c (.so 0 0 7 n c nn))/\eS (aI ↑n) (aI ↑n)/\eS (aI (IntKind.wrap .i64 ((↑s.1:Int)+(1:Int)))) (aI ↑s'.1)/\True)/\[SB.rows 54 [.int .i64,.int .i64,.int .i64,.int .i64,.int .i64,.int .i64,.int .u64] 7 m c z,SB.abs (Qr shM ShS.z ShS.good (Sh.crash s_1.1 s_1.2.1)) x.1]=[SB.rows 54 [.int .i64,.int .i64,.int .i64,.int .i64,.int .i64,.int .i64,.int .u64] 7 m c z,SB.abs (Qr shM ShS.z ShS.good (QW k (mvL z s'.1))) s'.2])/\n-s'.1<n-s.1 else ∃(s':PlOG (PlO.mk k n m c nn z)),((eS (aP 1 0) (aP 1 0)/\eS (SA.c (.so 0 0 7 n c nn)) (SA.c (.so 0 0 7 n c nn))/\eS (aI ↑n) (aI ↑n)/\eS (aI (IntKind.wrap .i64 ((↑s.1:Int)+(1:Int)))) (aI ↑s'.1)/\True)/\[SB.rows 54 [.int .i64,.int .i64,.int .i64,.int .i64,.int .i64,.int .i64,.int .u64] 7 m c z,SB.abs (Qr shM ShS.z ShS.good (QW k (mvL z s.1))) s.2]=[SB.rows 54 [.int .i64,.int .i64,.int .i64,.int .i64,.int .i64,.int .i64,.int .u64] 7 m c z,SB.abs (Qr shM ShS.z ShS.good (QW k (mvL z s'.1))) s'.2])/\n-s'.1<n-s.1 else endN QgV [] (fun (x:SV) (M:List SB)=>match x with|SV.t [SA.c (.p b off),head]=>[0,b]|x=>[]) (PlO.mk k n m c nn z) (SV.t [aP 1 0,SA.c (.v Value.nilIface)]) [SB.rows 54 [.int .i64,.int .i64,.int .i64,.int .i64,.int .i64,.int .i64,.int .u64] 7 m c z,SB.abs (Qr shM ShS.z ShS.good (QW k (mvL z s.1))) s.2]) (by kernel_rfl) ?_
 have h1:1<=k:=h1
 have h6:k<=6:=h6
 have hn:n<=3000:=hn
 have hm:n<=m/\m<=c:=hm
 have hu:∀i,i<n->U64 (z i 6):=hu
 refine⟨⟨k⟩,rfl,rfl,⟨h1,h6⟩,fun x _=>⟨Nat.le_trans hm.1 hm.2,⟨⟨0,x,Nat.zero_le _⟩,⟨rfl,rfl,rfl,rfl,trivial⟩,rfl⟩,?_⟩⟩
 rintro⟨i,F,hi⟩
 have hi:i<=n:=hi
 dsimp only
 have e0:0+(i:Int).toNat=i:=by rw[Int.toNat_natCast,Nat.zero_add]
 rw[e0]
 obtain⟨g,Fi,hs⟩:=QgR h1 h6 i (mvL z i) (QlM z i) (by omega)
 have hs2:(QW k (mvL z i)).steps<100000000:=by omega
 have enx:QW k (mvL z (i+1))=(QW k (mvL z i)).move (mvAt z i):=by rw[Qdt,Qd7]
 refine Qo (fun hlt=>?_) (fun hge=>?_)
 · have hlt':i<n:=by omega
   have go (S:Sh) (G:List Nat) (e:S=QW k (mvL z (i+1))):[Qe6 m c z,SB.abs (Qr shM ShS.z ShS.good S) G]=[Qe6 m c z,SB.abs (Qr shM ShS.z ShS.good (QW k (mvL z (i+1)))) G]:=by rw[e]
   refine⟨⟨by omega,hlt,by omega⟩,by omega,QU (fun hk=>?_) (fun hk1=>QU (fun hk=>?_) (fun hk2=>QU (fun hk=>?_) (fun hk3=>QU (fun hk=>?_) (fun hk4=>?_))))⟩
   · exact⟨(QW k (mvL z i),(z i 1,⟨z i 2,z i 3,z i 4⟩),F),rfl,rfl,CallOK.of Fi hs2,fun y _=>⟨⟨i+1,y.1,hlt'⟩,⟨⟨rfl,rfl,rfl,svI (sucI (by omega)),trivial⟩,go _ _ (by rw[enx];exact (if_pos hk).symm)⟩,by dsimp only;omega⟩⟩
   · exact⟨(QW k (mvL z i),(z i 1,z i 5),F),rfl,rfl,fun ht=>RunOK.of Fi (QgH ht).2.2 (by omega) _,fun y _=>⟨⟨i+1,y.1,hlt'⟩,⟨⟨rfl,rfl,rfl,svI (sucI (by omega)),trivial⟩,go _ _ (by rw[enx];exact ((if_neg hk1).trans (if_pos hk)).symm)⟩,by dsimp only;omega⟩⟩
   · exact⟨(QW k (mvL z i),z i 5,F),rfl,rfl,trivial,fun y _=>⟨⟨i+1,y.1,hlt'⟩,⟨⟨rfl,rfl,rfl,svI (sucI (by omega)),trivial⟩,go _ _ (by rw[enx];exact ((if_neg hk1).trans ((if_neg hk2).trans (if_pos hk))).symm)⟩,by dsimp only;omega⟩⟩
   · exact⟨(QW k (mvL z i),z i 6,F),rfl,rfl,Fi.craOK (by omega) (hu i hlt'),fun y _=>⟨⟨i+1,y.1,hlt'⟩,⟨⟨rfl,rfl,rfl,svI (sucI (by omega)),trivial⟩,go _ _ (by rw[enx];exact ((if_neg hk1).trans ((if_neg hk2).trans ((if_neg hk3).trans (if_pos hk)))).symm)⟩,by dsimp only;omega⟩⟩
   · exact⟨⟨i+1,F,hlt'⟩,⟨⟨rfl,rfl,rfl,svI (sucI (by omega)),trivial⟩,go _ _ (by rw[enx];exact ((if_neg hk1).trans ((if_neg hk2).trans ((if_neg hk3).trans (if_neg hk4)))).symm)⟩,by dsimp only;omega⟩
 · obtain rfl:i=n:=by omega
   exact Qi rfl F trivial rfl rfl rfl
end
section
def Sto.wg (s:Sto) (g:Nat->Int):Sto:={ s with good:=g }
def Sh.wg (z:Sh) (g:Nat->Int):Sh:={ z with s:=z.s.wg g }
theorem Qnm (z:WSt) (g:Nat->Int):∃g',Qg { z with s:=z.s.wg g }=({ (Qg z).1 with s:=(Qg z).1.s.wg g' },(Qg z).2):=by
 obtain⟨w,m,s⟩:=z
 unfold Qg
 dsimp only
 split
 · exact⟨g,rfl⟩
 split
 · refine⟨g,?_⟩
   unfold sayP
   dsimp only
   split
   · rfl
   split
   · rfl
   split<;>rfl
 split
 · refine⟨g,?_⟩
   unfold Qar
   dsimp only
   split
   · rfl
   split
   · rfl
   split
   · split<;>rfl
   · rfl
 split
 · unfold XN
   dsimp only
   split
   · exact⟨g,rfl⟩
   split
   · exact⟨g,rfl⟩
   split
   · exact⟨_,rfl⟩
   split
   · exact⟨g,rfl⟩
   split
   · exact⟨g,rfl⟩
   · exact⟨_,rfl⟩
 split
 · refine⟨g,?_⟩
   unfold Qbl
   dsimp only
   split
   · rfl
   split<;>rfl
 · refine⟨g,?_⟩
   unfold Q1
   dsimp only
   split
   · rfl
   split
   · rfl
   split
   · rfl
   split
   · rfl
   show (if m 1=w.v/\Qn (w.seen 0) w.th=w.tog then _ else _)=_
   split<;>rfl
theorem Qpj (z:Sh) (g:Nat->Int) (t:Nat):∃g',(z.wg g).step t=(z.step t).wg g':=by
 unfold Sh.step
 show ∃g',(if (z.w t).does=0 then z.wg g else (z.wg g).stepped t)=_
 split
 · exact⟨g,rfl⟩
 · obtain⟨g',h⟩:=Qnm (z.wst t) g
   refine⟨g',?_⟩
   have e:(z.wg g).wst t={ z.wst t with s:=(z.wst t).s.wg g }:=rfl
   unfold Sh.stepped
   dsimp only
   rw[e,h]
   show (if (Qg (z.wst t)).2=true then Sh.answered (if (z.w t).does=11 then _ else _) t _ else (if (z.w t).does=11 then _ else _))=_
   split<;>split<;>rfl
theorem QoP (t:Nat):∀(n:Nat) (z:Sh) (g:Nat->Int),∃g',(z.wg g).run t n=(z.run t n).wg g'
 |0,z,g=>⟨g,rfl⟩
 |n+1,z,g=>by
  obtain⟨g1,h1⟩:=Qpj z g t
  obtain⟨g2,h2⟩:=QoP t n (z.step t) g1
  exact⟨g2,by show ((z.wg g).step t).run t n=((z.step t).run t n).wg g2;rw[h1,h2]⟩
theorem QpE (z:Sh) (g:Nat->Int) (m:Mv) (h:m.kind≠4):∃g',(z.wg g).move m=(z.move m).wg g':=by
 unfold Sh.move
 split
 · refine⟨g,?_⟩
   unfold Sh.callA
   cases inT m.t
   · rfl
   · rw[cond_true,cond_true]
     unfold Sh.call
     by_cases hc:(z.w m.t.toNat).does=0/\opOk m.k m.key m.x=true
     · rw[if_pos (by exact hc),if_pos hc];rfl
     · rw[if_neg (by exact hc),if_neg hc]
 split
 · unfold Sh.runA
   cases inT m.t
   · exact⟨g,rfl⟩
   · exact QoP _ _ z g
 split
 · unfold Sh.evict
   by_cases hc:0<=m.n/\m.n<9
   · rw[if_pos hc,if_pos hc];exact⟨_,rfl⟩
   · rw[if_neg hc,if_neg hc];exact⟨g,rfl⟩
 · exact⟨g,rfl⟩
theorem Qoe (z:Sh) (m:Mv) (h:m.kind=3):∃g',z.move m=z.wg g':=by
 unfold Sh.move
 rw[if_neg (by omega),if_neg (by omega),if_pos h]
 unfold Sh.evict
 split
 · exact⟨_,rfl⟩
 · exact⟨z.s.good,rfl⟩
theorem Qd6:∀(l:List Mv) (z z':Sh) (g:Nat->Int),z'=z.wg g->(∀m∈l,m.kind≠4)->∃g',l.foldl Sh.move z'=((l.filter fun m=>!(m.kind==3)).foldl Sh.move z).wg g'
 |[],z,z',g,e,_=>⟨g,e⟩
 |m::l,z,z',g,e,h=>by
  subst e
  have h4:=h m List.mem_cons_self
  by_cases h3:m.kind=3
  · obtain⟨g1,e1⟩:=Qoe (z.wg g) m h3
    obtain⟨g2,e2⟩:=Qd6 l z ((z.wg g).move m) g1 (by rw[e1];rfl) (fun m hm=>h m (List.mem_cons_of_mem _ hm))
    refine⟨g2,?_⟩
    rw[List.foldl_cons,e2,List.filter_cons_of_neg (by simp[h3])]
  · obtain⟨g1,e1⟩:=QpE z g m h4
    obtain⟨g2,e2⟩:=Qd6 l (z.move m) ((z.wg g).move m) g1 e1 (fun m hm=>h m (List.mem_cons_of_mem _ hm))
    refine⟨g2,?_⟩
    rw[List.foldl_cons,e2,List.filter_cons_of_pos (by simpa using h3),List.foldl_cons]
theorem quiet (K:Int) (l:List Mv) (h:∀m∈l,m.kind≠4):∃g,QW K l=(QW K (l.filter fun m=>!(m.kind==3))).wg g:=Qd6 l (Sh.new K) (Sh.new K) (Sh.new K).s.good rfl h
theorem Qla (z:Sh) (t:Nat):z.hist <+: (z.step t).hist:=by
 unfold Sh.step
 split
 · exact List.prefix_refl _
 · unfold Sh.stepped
   dsimp only
   split<;>split<;>first|exact List.prefix_refl _|exact List.prefix_append _ _
theorem QiY (t:Nat):∀(n:Nat) (z:Sh),z.hist <+: (z.run t n).hist
 |0,z=>List.prefix_refl _
 |n+1,z=>(Qla z t).trans (QiY t n (z.step t))
theorem QlN (z:Sh) (m:Mv):z.hist <+: (z.move m).hist:=by
 unfold Sh.move
 split
 · unfold Sh.callA
   cases inT m.t
   · exact List.prefix_refl _
   · rw[cond_true]
     unfold Sh.call
     split
     · exact List.prefix_append _ _
     · exact List.prefix_refl _
 split
 · unfold Sh.runA
   cases inT m.t
   · exact List.prefix_refl _
   · exact QiY _ _ z
 split
 · unfold Sh.evict
   split<;>exact List.prefix_refl _
 split
 · exact List.prefix_append _ _
 · exact List.prefix_refl _
theorem later (K:Int) (l m:List Mv):(QW K l).hist <+: (QW K (l++m)).hist:=by
 unfold QW
 rw[List.foldl_append]
 generalize l.foldl Sh.move (Sh.new K)=z
 induction m generalizing z with
 |nil=>exact List.prefix_refl _
 |cons a m ih=>exact (QlN z a).trans (ih (z.move a))
end
section
open Go.RowKit
def Qdf (v:Int):PCon:=⟨fun args=>match args with
 |[.a [.one (.v (.int .i64 x0)),.one (.v (.int .i64 x1)),.one (.v (.int .i64 x2)),.one (.v (.int .i64 x3)),.one (.v (.int .i64 x4)),.one (.v (.int .i64 x5)),.one (.v (.int .u64 x6))]]=>True
 |_=>False,fun args=>match args with
 |[.a (.one (.v (.int .i64 x0))::_)]=>sv (.bool (x0==v))
 |_=>sv undef,fun _=>none⟩
theorem cloQ1_con:(Con.pure (Qdf 4)).holds Tryz.prog 34:=by
 refine Qx (AG:=[]) (Γ:=[]) Tryz.func34 rfl (by kernel_rfl) Qf Qc (fun _=>GamOk.nil _ _ _) (Qdf 4) 400 ?_
 intro W args hp
 unfold Qdf at hp;dsimp only at hp;split at hp
 case h_2=>exact hp.elim
 rename_i x0 x1 x2 x3 x4 x5 x6
 refine⟨rfl,?_⟩
 refine Qj (q:=SV.o (aB (x0==(4:Int)))=SV.o (aB (x0==(4:Int)))/\true=true) (by kernel_rfl) ?_
 exact⟨rfl,rfl⟩
theorem QmL:(Con.pure (Qdf 3)).holds Tryz.prog 37:=by
 refine Qx (AG:=[]) (Γ:=[]) Tryz.func37 rfl (by kernel_rfl) Qf Qc (fun _=>GamOk.nil _ _ _) (Qdf 3) 400 ?_
 intro W args hp
 unfold Qdf at hp;dsimp only at hp;split at hp
 case h_2=>exact hp.elim
 rename_i x0 x1 x2 x3 x4 x5 x6
 refine⟨rfl,?_⟩
 refine Qj (q:=SV.o (aB (x0==(3:Int)))=SV.o (aB (x0==(3:Int)))/\true=true) (by kernel_rfl) ?_
 exact⟨rfl,rfl⟩
structure MvQ where
 a:Option Addr
 n:Nat
 c:Nat
 z:Nat->Nat->Int
structure IdQG (s:MvQ) where
 i:Nat
 hi:i<=s.n
 h:∀j,j<i->s.z j 0≠4
def annIdQ (s:MvQ):Ann where
 σ:=IdQG s
 I g:=([(0,.o (.c (.r s.a s.n s.c s.n 7 mvK s.z))),(1,.o (.c (.v (.func (.func 34) #[] #[])))),(7,sv (.int .i64 s.n)),(8,sv (.int .i64 g.i))],[])
 dec g:=s.n-g.i
 pi _ _:=[]
 nz:=[]
structure MvR where
 m:Nat
 c:Nat
 nn:Bool
 z:Nat->Nat->Int
def Qg5 (W:World):MCon where
 σ:=MvQ
 χ:=MvR
 pre s:=s.n<=1000/\Rws 7 mvK W s.a s.n s.c s.z
 args s:=[.c (.r s.a s.n s.c s.n 7 mvK s.z)]
 mem s:=[]
 ok s x:=(s.n<=x.m/\x.m<=x.c)/\∀i,i<s.n->∀j,x.z i j=s.z i j
 val s x:=.o (.c (.so 0 0 7 s.n x.c x.nn))
 mem' s x:=[Qe6 x.m x.c x.z]
 k:=0
 len:=1
 det:=none
 find args M:=some []
theorem cloM_con (W:World):(Con.mem (Qg5 W)).holdsAt Tryz.prog W (fun _=>False) 36:=by
 refine Qa (Γ:=[]) (fun w=>w) Tryz.func36 rfl (by kernel_rfl) Qf Qc (fun w S' _ _=>.nil _ _ _) (Qg5 W) (fun s=>[]) (fun x0 h=>by cases h)
  (fun s ρ w _ _ _=>OldOk.none w) [.tmp 0 54 7 [.int .i64,.int .i64,.int .i64,.int .i64,.int .i64,.int .i64,.int .u64]] (fun v M=>match v with
  |.o (.c (.so b _ _ _ _ _))=>[b]
  |_=>[]) 400 ?_
 rintro⟨a,n,c,z⟩ w ⟨hn,hr⟩ hK
 refine⟨rfl,?_⟩
 have hr:=Rws.below hr (hK.below (Nat.le_refl _) (fun _ h=>h.elim))
 dsimp only at hn hr
 refine Qj (q:=bif Option.isNone a then endN (Qg5 W) [NZ.tmp 0 54 7 [.int .i64,.int .i64,.int .i64,.int .i64,.int .i64,.int .i64,.int .u64]] (fun (v:SV) (M:List SB)=>match v with|SV.o (SA.c (.so b lo sz n c nn))=>[b]|x=>[]) (MvQ.mk a n c z) (SV.o (SA.c (.v (.slice none 0 0)))) []else ((0<=0/\0=0)/\(Rws (TyI.size (TyI.str [sI 0,sI 0,sI 0,sI 0,sI 0,sI 0,sU 0] [(0,1,false),(1,1,false),(2,3,true),(5,1,false),(6,1,false)])) (fun (j:Nat)=>bif Nat.beq j 6 then .u64 else .i64) w a n c z/\n<=n)/\0+n<=68719476736)/\∀(c_1:Nat),0+n<=c_1->endN (Qg5 W) [NZ.tmp 0 54 7 [.int .i64,.int .i64,.int .i64,.int .i64,.int .i64,.int .i64,.int .u64]] (fun (v:SV) (M:List SB)=>match v with|SV.o (SA.c (.so b lo sz n c nn))=>[b]|x=>[]) (MvQ.mk a n c z) (SV.o (SA.c (.so 1 0 7 (0+n) c_1 true))) [SB.gone,SB.rows 54 [.int .i64,.int .i64,.int .i64,.int .i64,.int .i64,.int .i64,.int .u64] 7 (0+n) c_1 fun (i j:Nat)=>z i j]) (by kernel_rfl) ?_
 refine Q0 (fun hf=>?_) (fun hf=>⟨⟨⟨Nat.le_refl _,rfl⟩,⟨hr,Nat.le_refl _⟩,by omega⟩,fun c1 hc1=>?_⟩)
 · have h0:n=0:=by
    rcases hr.2.2 with h|⟨b,off,e,-⟩
    · exact h
    · rw[e]at hf;cases hf
   subst h0
   exact Qi rfl ⟨0,0,false,fun _ _=>0⟩ ⟨⟨Nat.le_refl _,Nat.le_refl _⟩,fun i hi=>absurd hi (Nat.not_lt_zero _)⟩ rfl rfl rfl
 · rw[Nat.zero_add]at hc1 ⊢
   exact Qi rfl ⟨n,c1,true,fun i j=>z i j⟩ ⟨⟨Nat.le_refl _,hc1⟩,fun _ _ _=>rfl⟩ rfl rfl rfl
structure MvO where
 n:Nat
 m:Nat
 c:Nat
 nn:Bool
 z:Nat->Nat->Int
structure DelR where
 k:Nat
 z:Nat->Nat->Int
def notE (m:Mv):Bool:=!(m.kind==3)
def QhX:MCon where
 σ:=MvO
 χ:=DelR
 pre s:=s.n<=1000/\s.n<=s.m/\s.m<=s.c
 args s:=[.c (.so 0 0 7 s.n s.c s.nn),.c (.v (.func (.func 37) #[] #[]))]
 mem s:=[Qe6 s.m s.c s.z]
 ok s x:=x.k<=s.n/\mvL x.z x.k=(mvL s.z s.n).filter notE
 val s x:=.o (.c (.so 0 0 7 x.k s.c s.nn))
 mem' s x:=[Qe6 s.m s.c x.z]
 k:=1
 len:=1
 det:=none
 find args M:=match args with
  |[.c (.so b _ _ _ _ _),_]=>some [b]
  |_=>none
structure DiG (s:MvO) where
 i:Nat
 hi:i<=s.n
 h:∀j,j<i->s.z j 0≠3
def annDi (s:MvO):Ann where
 σ:=DiG s
 I g:=([(0,.o (.c (.so 0 0 7 s.n s.c s.nn))),(1,.o (.c (.v (.func (.func 37) #[] #[])))),(7,sv (.int .i64 s.n)),(8,sv (.int .i64 g.i))],[Qe6 s.m s.c s.z])
 dec g:=s.n-g.i
 pi _ _:=[0]
 nz:=[]
structure DeG (s:MvO) where
 i:Nat
 j:Nat
 z:Nat->Nat->Int
 hi:i<j
 hj:j<=s.n
 h:mvL z i=(mvL s.z j).filter notE
 r:∀q,j<=q->mvAt z q=mvAt s.z q
def annDe (s:MvO):Ann where
 σ:=DeG s
 I g:=([(0,.o (.c (.so 0 0 7 s.n s.c s.nn))),(1,.o (.c (.v (.func (.func 37) #[] #[])))),(5,sv (.int .i64 g.i)),(6,sv (.int .i64 g.j))],[Qe6 s.m s.c g.z])
 dec g:=s.n-g.j
 pi _ _:=[0]
 nz:=[]
theorem QhC {z z2:Nat->Nat->Int}{n:Nat}(h:∀q,q<n->mvAt z q=mvAt z2 q):mvL z n=mvL z2 n:=List.map_congr_left fun q hq=>h q (List.mem_range.1 hq)
theorem QoT {z:Nat->Nat->Int}{n:Nat}(h:∀j,j<n->z j 0≠3):(mvL z n).filter notE=mvL z n:=by
 refine List.filter_eq_self.2 fun a ha=>?_
 obtain⟨j,hj,rfl⟩:=List.mem_map.1 ha
 have:=h j (List.mem_range.1 hj)
 simpa [notE,mvAt] using this
theorem QoS {z:Nat->Nat->Int}{n:Nat}(h:z n 0=3):(mvL z (n+1)).filter notE=(mvL z n).filter notE:=by
 rw[Qdt,List.filter_append,List.filter_cons_of_neg (by simp[notE,mvAt,h]),List.filter_nil,List.append_nil]
theorem mv_in {z:Nat->Nat->Int}{n:Nat}(h:z n 0≠3):(mvL z (n+1)).filter notE=(mvL z n).filter notE++[mvAt z n]:=by
 rw[Qdt,List.filter_append,List.filter_cons_of_pos (by simpa [notE,mvAt] using h),List.filter_nil]
theorem QoN {z2 z3:Nat->Nat->Int}{i j:Nat}(h:z3=fun a b=>bif (match Nat.beq a i with|false=>false|true=>Nat.ble b 6)then (match List.get?Internal [z2 j 0,z2 j 1,z2 j 2,z2 j 3,z2 j 4,z2 j 5,z2 j 6] b with|some x=>x|none=>0)else z2 a b):mvAt z3 i=mvAt z2 j/\∀q,q≠i->mvAt z3 q=mvAt z2 q:=by
 subst h
 constructor
 · unfold mvAt
   simp only[show Nat.beq i i=true from Nat.beq_refl i];rfl
 · intro q hq
   unfold mvAt
   simp only[nbeq hq,cond_false]
theorem del_con:(Con.mem QhX).holds Tryz.prog 35:=by
 intro w0 S
 refine Qa (Γ:=[(50,.inl Tryz.f50 (Tryz.f50.body.getD .skip)),(37,.pure (Qdf 3))]) (fun _=>noW) Tryz.func35 rfl (by kernel_rfl) Qf Qc (fun w S' _ _=>.cons ⟨by kernel_rfl,rfl,rfl⟩ (.cons (QmL w S') (.nil _ _ _))) QhX (fun s=>[(50,[(0,annDi s)]),(35,[(0,annDe s)])]) (fun x0 h=>by cases h)
  (fun s ρ w _ _ _=>Qh w _) [] (fun v M=>[0]) 600 ?_
 rintro⟨n,m,c,nn,z⟩ w ⟨hn,hm,hc⟩ -
 refine⟨rfl,?_⟩
 dsimp only at hn hm hc
 refine Qj (q:=n<=c/\(∃(s0:Ann.σ (annDi (MvO.mk n m c nn z))),(eS (SA.c (.so 0 0 7 n c nn)) (SA.c (.so 0 0 7 n c nn))/\eS (SA.c (.v (.func (Fn.func 37) (Array.mk []) (Array.mk [])))) (SA.c (.v (.func (Fn.func 37) (Array.mk []) (Array.mk []))))/\eS (aI ↑n) (aI ↑n)/\eS (aI 0) (aI ↑s0.1)/\True)/\[SB.rows 54 [.int .i64,.int .i64,.int .i64,.int .i64,.int .i64,.int .i64,.int .u64] 7 m c z]=[SB.rows 54 [.int .i64,.int .i64,.int .i64,.int .i64,.int .i64,.int .i64,.int .u64] 7 m c z])/\∀(s:DiG (MvO.mk n m c nn z)),bif decide ((↑s.1:Int)<(↑n:Int))then ((0:Int)<=(↑s.1:Int)/\(↑s.1:Int)<(↑n:Int)/\0+n<=c)/\0+Int.toNat (↑s.1:Int)<m/\True/\bif z (0+Int.toNat (↑s.1:Int)) 0==(3:Int)then bif (↑s.1:Int)==(-1:Int)then endN QhX [] (fun (v:SV) (M:List SB)=>[0]) (MvO.mk n m c nn z) (SV.o (SA.c (.so 0 0 7 n c nn))) [SB.rows 54 [.int .i64,.int .i64,.int .i64,.int .i64,.int .i64,.int .i64,.int .u64] 7 m c z]else (∃(s0:Ann.σ (annDe (MvO.mk n m c nn z))),(eS (SA.c (.so 0 0 7 n c nn)) (SA.c (.so 0 0 7 n c nn))/\eS (SA.c (.v (.func (Fn.func 37) (Array.mk []) (Array.mk [])))) (SA.c (.v (.func (Fn.func 37) (Array.mk []) (Array.mk []))))/\eS (aI ↑s.1) (aI ↑s0.1)/\eS (aI (IntKind.wrap .i64 ((↑s.1:Int)+(1:Int)))) (aI ↑s0.2)/\True)/\[SB.rows 54 [.int .i64,.int .i64,.int .i64,.int .i64,.int .i64,.int .i64,.int .u64] 7 m c z]=[SB.rows 54 [.int .i64,.int .i64,.int .i64,.int .i64,.int .i64,.int .i64,.int .u64] 7 m c s0.3])/\∀(s:DeG (MvO.mk n m c nn z)),n<=c/\bif decide ((↑s.2:Int)<(↑n:Int))then ((0:Int)<=(↑s.2:Int)/\(↑s.2:Int)<(↑n:Int)/\0+n<=c)/\0+Int.toNat (↑s.2:Int)<m/\True/\bif bif s.3 (0+Int.toNat (↑s.2:Int)) 0==(3:Int)then false else true then ((0:Int)<=(↑s.1:Int)/\(↑s.1:Int)<(↑n:Int)/\0+n<=c)/\0+Int.toNat (↑s.1:Int)<m/\∃(s':DeG (MvO.mk n m c nn z)),((eS (SA.c (.so 0 0 7 n c nn)) (SA.c (.so 0 0 7 n c nn))/\eS (SA.c (.v (.func (Fn.func 37) (Array.mk []) (Array.mk [])))) (SA.c (.v (.func (Fn.func 37) (Array.mk []) (Array.mk []))))/\eS (aI (IntKind.wrap .i64 ((↑s.1:Int)+(1:Int)))) (aI ↑s'.1)/\eS (aI (IntKind.wrap .i64 ((↑s.2:Int)+(1:Int)))) (aI ↑s'.2)/\True)/\[SB.rows 54 [.int .i64,.int .i64,.int .i64,.int .i64,.int .i64,.int .i64,.int .u64] 7 m c fun (i j:Nat)=>bif match Nat.beq i (0+Int.toNat (↑s.1:Int))with|false=>false|true=>Nat.ble j 6 then match List.get?Internal [s.3 (0+Int.toNat (↑s.2:Int)) 0,s.3 (0+Int.toNat (↑s.2:Int)) 1,s.3 (0+Int.toNat (↑s.2:Int)) 2,s.3 (0+Int.toNat (↑s.2:Int)) 3,s.3 (0+Int.toNat (↑s.2:Int)) 4,s.3 (0+Int.toNat (↑s.2:Int)) 5,s.3 (0+Int.toNat (↑s.2:Int)) 6] j with|some x=>x|none=>(0:Int)else s.3 i j]=[SB.rows 54 [.int .i64,.int .i64,.int .i64,.int .i64,.int .i64,.int .i64,.int .u64] 7 m c s'.3])/\n-s'.2<n-s.2 else ∃(s':DeG (MvO.mk n m c nn z)),((eS (SA.c (.so 0 0 7 n c nn)) (SA.c (.so 0 0 7 n c nn))/\eS (SA.c (.v (.func (Fn.func 37) (Array.mk []) (Array.mk [])))) (SA.c (.v (.func (Fn.func 37) (Array.mk []) (Array.mk []))))/\eS (aI ↑s.1) (aI ↑s'.1)/\eS (aI (IntKind.wrap .i64 ((↑s.2:Int)+(1:Int)))) (aI ↑s'.2)/\True)/\[SB.rows 54 [.int .i64,.int .i64,.int .i64,.int .i64,.int .i64,.int .i64,.int .u64] 7 m c s.3]=[SB.rows 54 [.int .i64,.int .i64,.int .i64,.int .i64,.int .i64,.int .i64,.int .u64] 7 m c s'.3])/\n-s'.2<n-s.2 else ((0:Int)<=(↑s.1:Int)/\(↑s.1:Int)<=(↑n:Int)/\(↑n:Int)<=(↑c:Int)/\(0=0\/(↑s.1:Int)<(↑c:Int)))/\(0<Int.toNat (↑n:Int)-Int.toNat (↑s.1:Int)/\0+Int.toNat (↑s.1:Int)+(Int.toNat (↑n:Int)-Int.toNat (↑s.1:Int))<=m/\c=c)/\((0:Int)<=(↑s.1:Int)/\(↑s.1:Int)<=(↑c:Int))/\endN QhX [] (fun (v:SV) (M:List SB)=>[0]) (MvO.mk n m c nn z) (SV.o (SA.c (.so 0 0 7 (Int.toNat (↑s.1:Int)) c nn))) [SB.rows 54 [.int .i64,.int .i64,.int .i64,.int .i64,.int .i64,.int .i64,.int .u64] 7 m c fun (i j:Nat)=>bif match Nat.ble (0+Int.toNat (↑s.1:Int)) i with|false=>false|true=>Nat.ble (i+1) (0+Int.toNat (↑s.1:Int)+(Int.toNat (↑n:Int)-Int.toNat (↑s.1:Int)))then (0:Int)else s.3 i j]else ∃(s':DiG (MvO.mk n m c nn z)),((eS (SA.c (.so 0 0 7 n c nn)) (SA.c (.so 0 0 7 n c nn))/\eS (SA.c (.v (.func (Fn.func 37) (Array.mk []) (Array.mk [])))) (SA.c (.v (.func (Fn.func 37) (Array.mk []) (Array.mk []))))/\eS (aI ↑n) (aI ↑n)/\eS (aI (IntKind.wrap .i64 ((↑s.1:Int)+(1:Int)))) (aI ↑s'.1)/\True)/\[SB.rows 54 [.int .i64,.int .i64,.int .i64,.int .i64,.int .i64,.int .i64,.int .u64] 7 m c z]=[SB.rows 54 [.int .i64,.int .i64,.int .i64,.int .i64,.int .i64,.int .i64,.int .u64] 7 m c z])/\n-s'.1<n-s.1 else endN QhX [] (fun (v:SV) (M:List SB)=>[0]) (MvO.mk n m c nn z) (SV.o (SA.c (.so 0 0 7 n c nn))) [SB.rows 54 [.int .i64,.int .i64,.int .i64,.int .i64,.int .i64,.int .i64,.int .u64] 7 m c z]) (by kernel_rfl) ?_
 have e0 (j:Nat):0+(j:Int).toNat=j:=by rw[Int.toNat_natCast,Nat.zero_add]
 refine⟨Nat.le_trans hm hc,⟨⟨0,Nat.zero_le _,fun j hj=>absurd hj (Nat.not_lt_zero _)⟩,⟨rfl,rfl,rfl,rfl,trivial⟩,rfl⟩,?_⟩
 rintro⟨i,hi,hp⟩
 dsimp only at hi hp ⊢
 rw[e0 i]
 refine Qo (fun hlt=>?_) (fun hge=>?_)
 · have hlt':i<n:=by omega
   refine⟨⟨by omega,hlt,by omega⟩,by omega,trivial,QU (fun h3=>QU (fun h=>absurd h (by omega)) (fun _=>?_)) (fun h3=>⟨⟨i+1,hlt',fun j hj=>?_⟩,⟨⟨rfl,rfl,rfl,svI (sucI (by omega)),trivial⟩,rfl⟩,by dsimp only;omega⟩)⟩
   · refine⟨⟨⟨i,i+1,z,Nat.lt_succ_self _,hlt',by rw[QoS h3,QoT hp],fun _ _=>rfl⟩,⟨rfl,rfl,rfl,svI (sucI (by omega)),trivial⟩,rfl⟩,?_⟩
     rintro⟨i2,j,z2,hij,hjn,hz,hr⟩
     dsimp only at hij hjn hz hr ⊢
     rw[e0 j,e0 i2]
     refine⟨Nat.le_trans hm hc,Qo (fun hlt2=>?_) (fun hge2=>?_)⟩
     · have ek:z2 j 0=z j 0:=congrArg Mv.kind (hr j (Nat.le_refl _))
       refine⟨⟨by omega,hlt2,by omega⟩,by omega,trivial,Qgg (fun h3=>?_) (fun h3=>⟨⟨i2,j+1,z2,by omega,(by show j+1<=n;omega),by rw[QoS (ek.symm.trans h3)];exact hz,fun q hq=>hr q (by omega)⟩,⟨⟨rfl,rfl,rfl,svI (sucI (by omega)),trivial⟩,rfl⟩,by dsimp only;omega⟩)⟩
       refine⟨⟨by omega,by omega,by omega⟩,by omega,⟨i2+1,j+1,_,by omega,(by show j+1<=n;omega),?_,?_⟩,⟨⟨rfl,rfl,svI (sucI (by omega)),svI (sucI (by omega)),trivial⟩,rfl⟩,by dsimp only;omega⟩
       · have u:=QoN (z2:=z2) (i:=i2) (j:=j) rfl
         rw[Qdt,mv_in (fun h=>h3 (ek.trans h)),<- hz]
         exact congr (congrArg HAppend.hAppend (QhC fun q hq=>u.2 q (by omega))) (congrArg (fun m=>[m]) (u.1.trans (hr j (Nat.le_refl _))))
       · intro q hq
         exact ((QoN (z2:=z2) (i:=i2) (j:=j) rfl).2 q (by omega)).trans (hr q (by omega))
     · have hjn':j=n:=by omega
       subst hjn'
       refine⟨⟨by omega,by omega,by omega,.inl rfl⟩,⟨by omega,by omega,rfl⟩,⟨by omega,by omega⟩,?_⟩
       rw[Int.toNat_natCast i2,Int.toNat_natCast j]
       refine Qi rfl ⟨i2,_⟩ ⟨by show i2<=j;omega,?_⟩ rfl rfl rfl
       rw[<- hz]
       refine QhC fun q hq=>?_
       have hq:q<i2:=hq
       have hb:Nat.ble i2 q=false:=by
        cases h:Nat.ble i2 q
        · rfl
        · exact absurd (Nat.le_of_ble_eq_true h) (by omega)
       unfold mvAt
       simp only[hb]
   · by_cases e:j=i
     · subst e;exact h3
     · exact hp j (by omega)
 · obtain rfl:i=n:=by omega
   exact Qi rfl ⟨i,z⟩ ⟨Nat.le_refl _,(QoT hp).symm⟩ rfl rfl rfl
end
end Go.Proofs.YtinijfhoenajkaaGreatDoor
