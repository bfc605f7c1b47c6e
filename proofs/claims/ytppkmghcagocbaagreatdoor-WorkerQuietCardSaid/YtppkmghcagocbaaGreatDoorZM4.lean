/- What the proof leans on, gathered. -/
import Derived.Test.YtppkmghcagocbaaGreatDoorZM3
namespace Go.Proofs.YtppkmghcagocbaaGreatDoor
set_option linter.unusedVariables false
set_option maxRecDepth 100000
set_option maxHeartbeats 8000000
section
open Go.RowKit
def Qmf (z:WSt):Prop:=0<=z.w.i/\z.w.i<32/\(0<=z.w.v/\z.w.v<18446744073709551616) /\
 (z.w.does=6->z.w.i<4/\(0<=z.w.r 26/\z.w.r 26<16)/\(0<=z.m (3+2*z.w.i.toNat)/\z.m (3+2*z.w.i.toNat)<=2)/\z.w.allOK) /\
 (z.w.does=7->z.w.i<4/\(0<=z.m (2+2*z.w.i.toNat)/\z.m (2+2*z.w.i.toNat)<18446744073709551616)/\(∃l a,z.w.asks=l++[a]) /\
  Wk.allOK { z.w with asks:=Q9 z.w.asks (z.m (2+2*z.w.i.toNat)/281474976710656%65536) (z.m (2+2*z.w.i.toNat)/4294967296%65536) (z.m (2+2*z.w.i.toNat)%4294967296) })
abbrev nzW:NZ:=.blk 0 41 106 5 [.int .i64,.int .i64,.int .i64,.int .i64,.int .i64]
def Xy (d:Int):MCon where
 σ:=WlS
 χ:=WkS
 pre s:=s.s.w.does=d/\s.s.w.th<4/\s.s.good/\Qmf s.z
 args s:=[.c (.p 0 0),.c (.p 1 0),.c (.p 2 0)]
 mem s:=wkM 3 4 s.s s.z
 ok s x:=x.w.sim (Xt s.z).w/\x.good
 val _ _:=.t []
 mem' s x:=wkM 3 4 x ⟨x.w,s.m,s.t⟩
 k:=3
 len:=5
 det:=none
 find:=Qb9
theorem QoM {s0 s1 s2 s3 s4 s5 s6 s7 s8 s9 s11 s12 s13 s14 s15:Seg}{x lo sz n m c T:Nat}{nn:Bool}(h:n=m):
 SB.cells [s0,s1,s2,s3,s4,s5,s6,s7,s8,s9,.one (.so x lo sz n c nn),s11,s12,s13,s14,s15] T=SB.cells [s0,s1,s2,s3,s4,s5,s6,s7,s8,s9,.one (.so x lo sz m c nn),s11,s12,s13,s14,s15] T:=by rw[h]
theorem l3 {α:Type}{a b c a' b' c':α}(h0:a=a') (h1:b=b') (h2:c=c'):[a,b,c]=[a',b',c']:=by rw[h0,h1,h2]
theorem l5 {α:Type}{a b c d e a' b' c' d' e':α}(h0:a=a') (h1:b=b') (h2:c=c') (h3:d=d') (h4:e=e'):[a,b,c,d,e]=[a',b',c',d',e']:=by rw[h0,h1,h2,h3,h4]
theorem nbeqF {a b:Nat}(h:a≠b):Nat.beq a b=false:=by
 cases hb:Nat.beq a b
 · rfl
 · exact absurd (Nat.eq_of_beq_eq_true hb) h
theorem QlF {a b:Nat}(h:a=b):Nat.beq a b=true:=by subst h;exact Nat.beq_refl a
theorem QdA {w:Wk}{ma ca:Nat}{na:Bool}{za:Nat->Nat->Int}{md cd:Nat}{nd:Bool}{zd:Nat->Nat->Int}(n d:Int) (h:(⟨w,ma,ca,na,za,md,cd,nd,zd⟩:WkS).good):(⟨w.next n d,ma,ca,na,za,md,cd,nd,zd⟩:WkS).good:=by
 unfold Wk.next;split<;>exact h
theorem Qh0 {w:Wk}(n d:Int) (h:w.th<4):(w.next n d).th<4:=by
 unfold Wk.next;split<;>exact h
theorem Qek {w:Wk}(n d:Int) (h:w.allOK):(w.next n d).allOK:=by
 unfold Wk.next;split<;>exact h
theorem Qmj:(Con.mem (Xy 4)).holds Tryz.prog 27:=by
 intro w0 S
 refine Qc (Γ:=[(18,.mem Q1),(14,.mem Q0),(42,.pure Xq),(43,.mem Qag),(44,.pure Xb),(46,.pure QgL),(45,.mem QdL)]) (fun _=>noW) Tryz.func27 rfl (by kernel_rfl) Qd Qb (fun w S' _ _=>.cons (Xp w S') (.cons (Xd w S') (.cons (Xr w S') (.cons (Qav w S') (.cons (Qbd w S') (.cons (QiS w S') (.cons (QgW w S') (.nil _ _ _)))))))) (Xy 4) (fun _=>[]) (fun x0 h=>by cases h) (fun s ρ w _ _ _=>Qm w _) [nzW] (rpW 3) 400 ?_
 rintro⟨⟨⟨th,does,k,key,x,tog,said,i,v,r,asks,deeds,seen,oc,ov,whn⟩,ma,ca,na,za,md,cd,nd,zd⟩,m,t⟩ W ⟨h0,h1,h2,h3,h4,h5,h6,h7⟩ -
 refine⟨rfl,?_⟩
 dsimp only at h0 h1 h3 h4 h5 h6 h7
 subst h0
 refine Qj (q:=∃(s:QaX),[aP 1 0,aI 1]=[aP 1 0,aI s.2]/\[ramB m]=[ramB s.1]/\(iR s.2 (16:Int))/\∀(x_1:Unit),True->endN (Xy (4:Int)) [nzW] (rpW 3) (WlS.mk (WkS.mk (Wk.mk th (4:Int) k key x tog said i v r asks deeds seen oc ov whn) ma ca na za md cd nd zd) m t) (SV.t []) [SB.cells [sI ↑th,sI 5,sI k,sI key,sI x,sI tog,sB said,sI 0,sU (s.1 (Int.toNat s.2)),nU 32 r,Seg.one (.v (.slice none 0 0)),sS 4 0 6 (List.length deeds) cd nd,nU 3 seen,sI oc,sI ov,sI whn] 42,ramB s.1,stoB (WlS.t (WlS.mk (WkS.mk (Wk.mk th (4:Int) k key x tog said i v r asks deeds seen oc ov whn) ma ca na za md cd nd zd) m t)),wkA ma ca za,wkD md cd zd]) (by kernel_rfl) ?_
 obtain⟨ga,gb,gc⟩:=h2
 exact⟨⟨m,1⟩,rfl,rfl,⟨(by decide:(0:Int)<=1),(by decide:(1:Int)<16)⟩,fun _ _=>Qu rfl ⟨⟨th,5,k,key,x,tog,said,0,m 1,r,[],deeds,seen,oc,ov,whn⟩,0,0,false,fun _ _=>0,md,cd,nd,zd⟩ ⟨⟨rfl,rfl⟩,⟨⟨Nat.le_refl _,Nat.le_refl _⟩,fun i hi=>absurd hi (Nat.not_lt_zero _),gc⟩⟩ rfl rfl rfl⟩
theorem Qmi:(Con.mem (Xy 5)).holds Tryz.prog 27:=by
 intro w0 S
 refine Qc (Γ:=[(18,.mem Q1),(14,.mem Q0),(42,.pure Xq),(43,.mem Qag),(44,.pure Xb),(46,.pure QgL),(45,.mem QdL)]) (fun _=>noW) Tryz.func27 rfl (by kernel_rfl) Qd Qb (fun w S' _ _=>.cons (Xp w S') (.cons (Xd w S') (.cons (Xr w S') (.cons (Qav w S') (.cons (Qbd w S') (.cons (QiS w S') (.cons (QgW w S') (.nil _ _ _)))))))) (Xy 5) (fun _=>[]) (fun x0 h=>by cases h) (fun s ρ w _ _ _=>Qm w _) [] (rpW 3) 400 ?_
 rintro⟨⟨⟨th,does,k,key,x,tog,said,i,v,r,asks,deeds,seen,oc,ov,whn⟩,ma,ca,na,za,md,cd,nd,zd⟩,m,t⟩ W ⟨h0,h1,h2,h3,h4,h5,h6,h7⟩ -
 refine⟨rfl,?_⟩
 dsimp only at h0 h1 h3 h4 h5 h6 h7
 subst h0
 refine Qj (q:=(iR v (18446744073709551616:Int))/\∃(s:QB),[aP 2 0,aI (IntKind.wrap .i64 ((↑(Qn v):Int)+i))]=[aP 2 0,aI s.2]/\[stoB (WlS.t (WlS.mk (WkS.mk (Wk.mk th (5:Int) k key x tog said i v r asks deeds seen oc ov whn) ma ca na za md cd nd zd) m t))]=[stoB (QB.s s)]/\(iR s.2 (72:Int))/\∀(x_1:Unit),True->(iR i (32:Int))/\Int.toNat i<32/\dP Tryz.f27 5 5 [⟨23,[],[0],[3,4],false⟩,xF 22 0,xF 21 0,xF 20 0,xE 19,xE 18,xE 17,⟨16,[],[2],[],false⟩,xE 15,xR 14 0,xF 13 0,xF 12 0,xF 11 0,xE 10,xR 9 0,xF 8 0,xF 7 0,xF 6 0,xF 5 2,xR 4 0,xF 3 0,xF 2 0,xF 1 0,xF 0 0]/\∃(s_1:WnS),[aP 0 0,aI 32,aI 6]=[aP 0 0,aI s_1.2,aI s_1.3]/\[SB.cells [sI ↑th,sI 5,sI k,sI key,sI x,sI tog,sB said,sI i,sU v,nU 32 fun (i_1:Nat)=>bif Nat.beq i_1 (Int.toNat i)then (QB.s s).1 (Int.toNat s.2)else r i_1,sS 3 0 5 (List.length asks) ca na,sS 4 0 6 (List.length deeds) cd nd,nU 3 seen,sI oc,sI ov,sI whn] 42,wkA ma ca za,wkD md cd zd]=[wkC 3 4 (WkS.w (WnS.s s_1)) (WnS.s s_1).3 (WnS.s s_1).4 (WnS.s s_1).7 (WnS.s s_1).8,wkA (WnS.s s_1).2 (WnS.s s_1).3 (WnS.s s_1).5,wkD (WnS.s s_1).6 (WnS.s s_1).7 (WnS.s s_1).9]/\((0:Int)<=(WkS.w (WnS.s s_1)).8/\(WkS.w (WnS.s s_1)).8<(1000:Int))/\∀(x_2:Unit),True->endN (Xy (5:Int)) [] (rpW 3) (WlS.mk (WkS.mk (Wk.mk th (5:Int) k key x tog said i v r asks deeds seen oc ov whn) ma ca na za md cd nd zd) m t) (SV.t []) [wkC 3 4 (Wk.next (WkS.w (WnS.s s_1)) (WnS.n s_1) (WnS.d s_1)) (WnS.s s_1).3 (WnS.s s_1).4 (WnS.s s_1).7 (WnS.s s_1).8,ramB m,stoB (QB.s s),wkA (WnS.s s_1).2 (WnS.s s_1).3 (WnS.s s_1).5,wkD (WnS.s s_1).6 (WnS.s s_1).7 (WnS.s s_1).9]) (by kernel_rfl) ?_
 have hb:Qn v=8\/Qn v=40:=by unfold Qn;omega
 have e:IntKind.wrap .i64 ((Qn v:Int)+i)=((Qn v+i.toNat:Nat):Int):=by rw[QI (by omega) (by omega)];omega
 have e2:(0:Int)<=((Qn v+i.toNat:Nat):Int):=by omega
 have e3:((Qn v+i.toNat:Nat):Int)<72:=by omega
 have e5:i<1000:=by omega
 rw[e]
 exact⟨h5,⟨t,((Qn v+i.toNat:Nat):Int)⟩,rfl,rfl,⟨e2,e3⟩,fun _ _=>⟨⟨h3,h4⟩,by omega,Qk (by kernel_rfl),⟨⟨⟨th,5,k,key,x,tog,said,i,v,putF r i.toNat (t.now (Qn v+i.toNat)),asks,deeds,seen,oc,ov,whn⟩,ma,ca,na,za,md,cd,nd,zd⟩,32,6⟩,rfl,rfl,⟨h3,e5⟩,fun _ _=>Qu rfl ⟨Wk.next ⟨th,5,k,key,x,tog,said,i,v,putF r i.toNat (t.now (Qn v+i.toNat)),asks,deeds,seen,oc,ov,whn⟩ 32 6,ma,ca,na,za,md,cd,nd,zd⟩ ⟨⟨rfl,rfl⟩,QdA 32 6 h2⟩ rfl rfl rfl⟩⟩
theorem Qmh:(Con.mem (Xy 6)).holds Tryz.prog 27:=by
 intro w0 S
 refine Qc (Γ:=[(18,.mem Q1),(14,.mem Q0),(42,.pure Xq),(43,.mem Qag),(44,.pure Xb),(46,.pure QgL),(45,.mem QdL)]) (fun _=>noW) Tryz.func27 rfl (by kernel_rfl) Qd Qb (fun w S' _ _=>.cons (Xp w S') (.cons (Xd w S') (.cons (Xr w S') (.cons (Qav w S') (.cons (Qbd w S') (.cons (QiS w S') (.cons (QgW w S') (.nil _ _ _)))))))) (Xy 6) (fun _=>[]) (fun x0 h=>by cases h) (fun s ρ w _ _ _=>Qm w _) [] (rpW 3) 400 ?_
 rintro⟨⟨⟨th,does,k,key,x,tog,said,i,v,r,asks,deeds,seen,oc,ov,whn⟩,ma,ca,na,za,md,cd,nd,zd⟩,m,t⟩ W ⟨h0,h1,h2,h3,h4,h5,h6,h7⟩ -
 refine⟨rfl,?_⟩
 dsimp only at h0 h1 h3 h4 h5 h6 h7
 subst h0
 refine Qj (q:=∃(s:QaX),[aP 1 0,aI (IntKind.wrap .i64 (IntKind.wrap .i64 ((2:Int)+IntKind.wrap .i64 ((2:Int)*i))+(1:Int)))]=[aP 1 0,aI s.2]/\[ramB m]=[ramB s.1]/\(iR s.2 (16:Int))/\∀(x_1:Unit),True->bif s.1 (Int.toNat s.2) != (0:Int)then (32=32/\(0:Int)<=i/\i<(4:Int)/\(0:Int)<=r 26/\r 26<(16:Int))/\dP Tryz.f27 9 5 [xE 16,xE 15,xE 14,xR 13 0,xF 12 0,xF 11 0,xF 10 0,xR 9 0,xF 8 0,xF 7 0,xF 6 0,xE 5,xE 4,xE 3,xE 2,xE 1,xE 0]/\bif IntKind.wrap .i64 (IntKind.wrap .u64 (s.1 (Int.toNat s.2)-(1:Int))) != Qh (r 26) (Int.toNat i)then dP Tryz.f27 10 5 [⟨14,[5],[3,6],[],true⟩,⟨13,[],[5],[5],false⟩,xE 12,xE 11,xE 10,xE 9,xR 8 0,xF 7 0,xF 6 0,xF 5 0,⟨4,[0],[],[3],false⟩,xF 3 0,xF 2 0,xF 1 0,xF 0 0]/\((List.length asks<=ma/\ca=ca)/\(1<=1/\1=1)/\List.length asks+1<=68719476736)/\∀(c:Nat),List.length asks+1<=c->dP Tryz.f27 10 5 [⟨17,[],[0],[6,4],false⟩,xF 16 0,xF 15 0,⟨14,[5],[3,6],[6],true⟩,⟨13,[],[5],[5],false⟩,xE 12,xE 11,xE 10,xE 9,xR 8 0,xF 7 0,xF 6 0,xF 5 0,⟨4,[0],[],[3],false⟩,xF 3 0,xF 2 0,xF 1 0,xF 0 0]/\endN (Xy (6:Int)) [] (rpW 3) (WlS.mk (WkS.mk (Wk.mk th (6:Int) k key x tog said i v r asks deeds seen oc ov whn) ma ca na za md cd nd zd) m t) (SV.t []) [SB.cells [sI ↑th,sI 7,sI k,sI key,sI x,sI tog,sB said,sI i,sU v,nU 32 r,sS 6 0 5 (List.length asks+1) c na,sS 4 0 6 (List.length deeds) cd nd,nU 3 seen,sI oc,sI ov,sI whn] 42,ramB s.1,stoB (WlS.t (WlS.mk (WkS.mk (Wk.mk th (6:Int) k key x tog said i v r asks deeds seen oc ov whn) ma ca na za md cd nd zd) m t)),SB.gone,wkD md cd zd,wkA 1 1 fun (i_1 j:Nat)=>match List.get?Internal (match List.get?Internal [[i,IntKind.wrap .i64 (IntKind.wrap .u64 (s.1 (Int.toNat s.2)-(1:Int))),(0:Int),(0:Int),(0:Int)]] i_1 with|some x=>x|none=>[]) j with|some x=>x|none=>(0:Int),wkA (List.length asks+1) c fun (i_1 j:Nat)=>bif Nat.ble (i_1+1) (List.length asks)then za i_1 j else match List.get?Internal (match List.get?Internal [[i,IntKind.wrap .i64 (IntKind.wrap .u64 (s.1 (Int.toNat s.2)-(1:Int))),(0:Int),(0:Int),(0:Int)]] (0+(i_1-List.length asks))with|some x=>x|none=>[]) j with|some x=>x|none=>(0:Int)]else ∃(s_1:WnS),[aP 0 0,aI 4,aI 8]=[aP 0 0,aI s_1.2,aI s_1.3]/\[SB.cells [sI ↑th,sI 6,sI k,sI key,sI x,sI tog,sB said,sI i,sU v,nU 32 r,sS 3 0 5 (List.length asks) ca na,sS 4 0 6 (List.length deeds) cd nd,nU 3 seen,sI oc,sI ov,sI whn] 42,wkA ma ca za,wkD md cd zd]=[wkC 3 4 (WkS.w (WnS.s s_1)) (WnS.s s_1).3 (WnS.s s_1).4 (WnS.s s_1).7 (WnS.s s_1).8,wkA (WnS.s s_1).2 (WnS.s s_1).3 (WnS.s s_1).5,wkD (WnS.s s_1).6 (WnS.s s_1).7 (WnS.s s_1).9]/\((0:Int)<=(WkS.w (WnS.s s_1)).8/\(WkS.w (WnS.s s_1)).8<(1000:Int))/\∀(x_2:Unit),True->∃(s_2:WkS),[aP 0 0]=[aP 0 0]/\[wkC 3 4 (Wk.next (WkS.w (WnS.s s_1)) (WnS.n s_1) (WnS.d s_1)) (WnS.s s_1).3 (WnS.s s_1).4 (WnS.s s_1).7 (WnS.s s_1).8,wkA (WnS.s s_1).2 (WnS.s s_1).3 (WnS.s s_1).5,wkD (WnS.s s_1).6 (WnS.s s_1).7 (WnS.s s_1).9]=[wkC 3 4 (WkS.w s_2) s_2.3 s_2.4 s_2.7 s_2.8,wkA s_2.2 s_2.3 s_2.5,wkD s_2.6 s_2.7 s_2.9]/\((WkS.w s_2).1<4/\((List.length (WkS.w s_2).11<=s_2.2/\s_2.2<=s_2.3)/\IsA s_2.5 (WkS.w s_2).11/\(List.length (WkS.w s_2).12<=s_2.6/\s_2.6<=s_2.7)/\IsD s_2.9 (WkS.w s_2).12)/\((WkS.w s_2).2=(8:Int)->Wk.allOK s_2.1))/\∀(x_3:WkS),Wk.sim x_3.1 (Wk.all s_2.1)/\(List.length (WkS.w x_3).11<=x_3.2/\x_3.2<=x_3.3)/\IsA x_3.5 (WkS.w x_3).11/\(List.length (WkS.w x_3).12<=x_3.6/\x_3.6<=x_3.7)/\IsD x_3.9 (WkS.w x_3).12->endN (Xy (6:Int)) [] (rpW 3) (WlS.mk (WkS.mk (Wk.mk th (6:Int) k key x tog said i v r asks deeds seen oc ov whn) ma ca na za md cd nd zd) m t) (SV.t []) [wkC 5 6 (WkS.w x_3) x_3.3 x_3.4 x_3.7 x_3.8,ramB s.1,stoB (WlS.t (WlS.mk (WkS.mk (Wk.mk th (6:Int) k key x tog said i v r asks deeds seen oc ov whn) ma ca na za md cd nd zd) m t)),SB.gone,SB.gone,wkA x_3.2 x_3.3 x_3.5,wkD x_3.6 x_3.7 x_3.9]else dP Tryz.f27 9 5 [xE 16,xE 15,xE 14,xE 13,xE 12,xE 11,xE 10,xE 9,xE 8,xE 7,xE 6,xE 5,xE 4,xE 3,xE 2,xE 1,xE 0]/\∃(s_1:WnS),[aP 0 0,aI 4,aI 8]=[aP 0 0,aI s_1.2,aI s_1.3]/\[SB.cells [sI ↑th,sI 6,sI k,sI key,sI x,sI tog,sB said,sI i,sU v,nU 32 r,sS 3 0 5 (List.length asks) ca na,sS 4 0 6 (List.length deeds) cd nd,nU 3 seen,sI oc,sI ov,sI whn] 42,wkA ma ca za,wkD md cd zd]=[wkC 3 4 (WkS.w (WnS.s s_1)) (WnS.s s_1).3 (WnS.s s_1).4 (WnS.s s_1).7 (WnS.s s_1).8,wkA (WnS.s s_1).2 (WnS.s s_1).3 (WnS.s s_1).5,wkD (WnS.s s_1).6 (WnS.s s_1).7 (WnS.s s_1).9]/\((0:Int)<=(WkS.w (WnS.s s_1)).8/\(WkS.w (WnS.s s_1)).8<(1000:Int))/\∀(x_2:Unit),True->∃(s_2:WkS),[aP 0 0]=[aP 0 0]/\[wkC 3 4 (Wk.next (WkS.w (WnS.s s_1)) (WnS.n s_1) (WnS.d s_1)) (WnS.s s_1).3 (WnS.s s_1).4 (WnS.s s_1).7 (WnS.s s_1).8,wkA (WnS.s s_1).2 (WnS.s s_1).3 (WnS.s s_1).5,wkD (WnS.s s_1).6 (WnS.s s_1).7 (WnS.s s_1).9]=[wkC 3 4 (WkS.w s_2) s_2.3 s_2.4 s_2.7 s_2.8,wkA s_2.2 s_2.3 s_2.5,wkD s_2.6 s_2.7 s_2.9]/\((WkS.w s_2).1<4/\((List.length (WkS.w s_2).11<=s_2.2/\s_2.2<=s_2.3)/\IsA s_2.5 (WkS.w s_2).11/\(List.length (WkS.w s_2).12<=s_2.6/\s_2.6<=s_2.7)/\IsD s_2.9 (WkS.w s_2).12)/\((WkS.w s_2).2=(8:Int)->Wk.allOK s_2.1))/\∀(x_3:WkS),Wk.sim x_3.1 (Wk.all s_2.1)/\(List.length (WkS.w x_3).11<=x_3.2/\x_3.2<=x_3.3)/\IsA x_3.5 (WkS.w x_3).11/\(List.length (WkS.w x_3).12<=x_3.6/\x_3.6<=x_3.7)/\IsD x_3.9 (WkS.w x_3).12->endN (Xy (6:Int)) [] (rpW 3) (WlS.mk (WkS.mk (Wk.mk th (6:Int) k key x tog said i v r asks deeds seen oc ov whn) ma ca na za md cd nd zd) m t) (SV.t []) [wkC 5 6 (WkS.w x_3) x_3.3 x_3.4 x_3.7 x_3.8,ramB s.1,stoB (WlS.t (WlS.mk (WkS.mk (Wk.mk th (6:Int) k key x tog said i v r asks deeds seen oc ov whn) ma ca na za md cd nd zd) m t)),SB.gone,SB.gone,wkA x_3.2 x_3.3 x_3.5,wkD x_3.6 x_3.7 x_3.9]) (by kernel_rfl) ?_
 obtain⟨h8,⟨r0,r1⟩,⟨m0,m1⟩,ha⟩:=h6 rfl
 have e:IntKind.wrap .i64 (IntKind.wrap .i64 (2+IntKind.wrap .i64 (2*i))+1)=((3+2*i.toNat:Nat):Int):=by rw[QI (x:=2*i) (by omega) (by omega),QI (x:=2+2*i) (by omega) (by omega),QI (by omega) (by omega)];omega
 have e2:(0:Int)<=((3+2*i.toNat:Nat):Int):=by omega
 have e3:((3+2*i.toNat:Nat):Int)<16:=by omega
 have e5:i<1000:=by omega
 have hth:th<4:=h1
 have hl:asks.length<=4:=ha.2.1
 have hg:=h2
 rw[e]
 have hshut (hn:¬(m (3+2*i.toNat)≠0/\m (3+2*i.toNat)-1≠Qh (r 26) i.toNat)):Xt ⟨⟨th,6,k,key,x,tog,said,i,v,r,asks,deeds,seen,oc,ov,whn⟩,m,t⟩=⟨(Wk.next ⟨th,6,k,key,x,tog,said,i,v,r,asks,deeds,seen,oc,ov,whn⟩ 4 8).all,m,t⟩:=by
  unfold Xt
  rw[if_neg (by show ¬(6:Int)=4;decide),if_neg (by show ¬(6:Int)=5;decide),if_pos rfl,if_neg hn]
 refine⟨⟨m,((3+2*i.toNat:Nat):Int)⟩,rfl,rfl,⟨e2,e3⟩,fun _ _=>?_⟩
 show bif m (3+2*i.toNat) != 0 then _ else _
 refine Qah (fun hm=>?_) (fun hm=>?_)
 · have e6:IntKind.wrap .i64 (IntKind.wrap .u64 (m (3+2*i.toNat)-1))=m (3+2*i.toNat)-1:=by rw[QaK (x:=m (3+2*i.toNat)-1) (by omega) (by omega),QI (by omega) (by omega)]
   refine⟨⟨rfl,h3,h8,r0,r1⟩,Qk (by kernel_rfl),?_⟩
   show bif IntKind.wrap .i64 (IntKind.wrap .u64 (m (3+2*i.toNat)-1)) != Qh (r 26) i.toNat then _ else _
   rw[e6]
   refine Qah (fun ho=>?_) (fun ho=>?_)
   · obtain⟨⟨ga,gb⟩,gc,gd⟩:=h2
     have hopen:Xt ⟨⟨th,6,k,key,x,tog,said,i,v,r,asks,deeds,seen,oc,ov,whn⟩,m,t⟩=⟨⟨th,7,k,key,x,tog,said,i,v,r,asks++[⟨i.toNat,m (3+2*i.toNat)-1,0,0,0⟩],deeds,seen,oc,ov,whn⟩,m,t⟩:=by
      unfold Xt
      rw[if_neg (by show ¬(6:Int)=4;decide),if_neg (by show ¬(6:Int)=5;decide),if_pos rfl,if_pos ⟨hm,ho⟩]
     have el:asks.length+1=(asks++[⟨i.toNat,m (3+2*i.toNat)-1,0,0,0⟩]:List Ask).length:=by rw[List.length_append];rfl
     refine⟨Qk (by kernel_rfl),⟨⟨ga,rfl⟩,⟨Nat.le_refl _,rfl⟩,by omega⟩,fun c hc=>⟨Qk (by kernel_rfl),Qu rfl ⟨⟨th,7,k,key,x,tog,said,i,v,r,asks++[⟨i.toNat,m (3+2*i.toNat)-1,0,0,0⟩],deeds,seen,oc,ov,whn⟩,asks.length+1,c,na,_,md,cd,nd,zd⟩ ⟨by show Wk.sim _ (Xt ⟨⟨th,6,k,key,x,tog,said,i,v,r,asks,deeds,seen,oc,ov,whn⟩,m,t⟩).w;rw[hopen];exact Wk.sim_rfl _,⟨⟨by rw[<- el];exact Nat.le_refl _,hc⟩,?_,gd⟩⟩ rfl rfl (l5 (QoM el) rfl rfl rfl rfl)⟩⟩
     refine IsA.snoc gc (fun j hj k=>catT hj) ⟨?_,?_,?_,?_,?_⟩
     · refine catF.trans ?_
       rw[Nat.sub_self];show i=(i.toNat:Int);omega
     · refine catF.trans ?_
       rw[Nat.sub_self];exact e6
     all_goals exact catF.trans (by rw[Nat.sub_self];rfl)
   · refine⟨⟨⟨⟨th,6,k,key,x,tog,said,i,v,r,asks,deeds,seen,oc,ov,whn⟩,ma,ca,na,za,md,cd,nd,zd⟩,4,8⟩,rfl,rfl,⟨h3,e5⟩,fun _ _=>⟨⟨Wk.next ⟨th,6,k,key,x,tog,said,i,v,r,asks,deeds,seen,oc,ov,whn⟩ 4 8,ma,ca,na,za,md,cd,nd,zd⟩,rfl,rfl,⟨Qh0 4 8 hth,QdA 4 8 hg,fun _=>Qek 4 8 ha⟩,?_⟩⟩
     rintro⟨w2,ma2,ca2,na2,za2,md2,cd2,nd2,zd2⟩ ⟨hs,hg2⟩
     exact Qu rfl ⟨w2,ma2,ca2,na2,za2,md2,cd2,nd2,zd2⟩ ⟨by show Wk.sim _ (Xt ⟨⟨th,6,k,key,x,tog,said,i,v,r,asks,deeds,seen,oc,ov,whn⟩,m,t⟩).w;rw[hshut (fun h=>h.2 ho)];exact hs,hg2⟩ rfl rfl rfl
 · refine⟨Qk (by kernel_rfl),⟨⟨⟨th,6,k,key,x,tog,said,i,v,r,asks,deeds,seen,oc,ov,whn⟩,ma,ca,na,za,md,cd,nd,zd⟩,4,8⟩,rfl,rfl,⟨h3,e5⟩,fun _ _=>⟨⟨Wk.next ⟨th,6,k,key,x,tog,said,i,v,r,asks,deeds,seen,oc,ov,whn⟩ 4 8,ma,ca,na,za,md,cd,nd,zd⟩,rfl,rfl,⟨Qh0 4 8 hth,QdA 4 8 hg,fun _=>Qek 4 8 ha⟩,?_⟩⟩
   rintro⟨w2,ma2,ca2,na2,za2,md2,cd2,nd2,zd2⟩ ⟨hs,hg2⟩
   exact Qu rfl ⟨w2,ma2,ca2,na2,za2,md2,cd2,nd2,zd2⟩ ⟨by show Wk.sim _ (Xt ⟨⟨th,6,k,key,x,tog,said,i,v,r,asks,deeds,seen,oc,ov,whn⟩,m,t⟩).w;rw[hshut (fun h=>h.1 hm)];exact hs,hg2⟩ rfl rfl rfl
theorem Qmg:(Con.mem (Xy 7)).holds Tryz.prog 27:=by
 intro w0 S
 refine Qc (Γ:=[(18,.mem Q1),(14,.mem Q0),(42,.pure Xq),(43,.mem Qag),(44,.pure Xb),(46,.pure QgL),(45,.mem QdL)]) (fun _=>noW) Tryz.func27 rfl (by kernel_rfl) Qd Qb (fun w S' _ _=>.cons (Xp w S') (.cons (Xd w S') (.cons (Xr w S') (.cons (Qav w S') (.cons (Qbd w S') (.cons (QiS w S') (.cons (QgW w S') (.nil _ _ _)))))))) (Xy 7) (fun _=>[]) (fun x0 h=>by cases h) (fun s ρ w _ _ _=>Qm w _) [] (rpW 3) 400 ?_
 rintro⟨⟨⟨th,does,k,key,x,tog,said,i,v,r,asks,deeds,seen,oc,ov,whn⟩,ma,ca,na,za,md,cd,nd,zd⟩,m,t⟩ W ⟨h0,h1,h2,h3,h4,h5,h6,h7⟩ -
 refine⟨rfl,?_⟩
 dsimp only at h0 h1 h3 h4 h5 h6 h7
 subst h0
 refine Qj (q:=∃(s:QaX),[aP 1 0,aI (IntKind.wrap .i64 ((2:Int)+IntKind.wrap .i64 ((2:Int)*i)))]=[aP 1 0,aI s.2]/\[ramB m]=[ramB s.1]/\(iR s.2 (16:Int))/\∀(x_1:Unit),True->List.length asks<=ca/\((0:Int)<=s.1 (Int.toNat s.2)/\s.1 (Int.toNat s.2)<(18446744073709551616:Int)/\opOk (s.1 (Int.toNat s.2)/(281474976710656:Int)%(65536:Int)) (s.1 (Int.toNat s.2)/(4294967296:Int)%(65536:Int)) (s.1 (Int.toNat s.2)%(4294967296:Int))=true)/\((0:Int)<=IntKind.wrap .i64 ((↑(List.length asks):Int)-(1:Int))/\IntKind.wrap .i64 ((↑(List.length asks):Int)-(1:Int))<(↑(List.length asks):Int)/\0+List.length asks<=ca)/\0+Int.toNat (IntKind.wrap .i64 ((↑(List.length asks):Int)-(1:Int)))<ma/\dP Tryz.f27 16 5 [⟨17,[],[3],[],false⟩,xF 16 3,xF 15 3,xE 14,xE 13,xE 12,xE 11,xE 10,xE 9,xE 8,⟨7,[0],[],[3],false⟩,xF 6 0,xF 5 0,xF 4 0,⟨3,[0],[],[3],false⟩,xF 2 0,xF 1 0,xF 0 0]/\∃(s_1:WnS),[aP 0 0,aI 4,aI 8]=[aP 0 0,aI s_1.2,aI s_1.3]/\[SB.cells [sI ↑th,sI 6,sI k,sI key,sI x,sI tog,sB said,sI i,sU v,nU 32 r,sS 3 0 5 (List.length asks) ca na,sS 4 0 6 (List.length deeds) cd nd,nU 3 seen,sI oc,sI ov,sI whn] 42,wkA ma ca fun (i j:Nat)=>bif match Nat.beq i (0+Int.toNat (IntKind.wrap .i64 ((↑(List.length asks):Int)-(1:Int))))with|false=>false|true=>match Nat.ble 2 j with|false=>false|true=>Nat.ble j 4 then match List.get?Internal [s.1 (Int.toNat s.2)/(281474976710656:Int)%(65536:Int),s.1 (Int.toNat s.2)/(4294967296:Int)%(65536:Int),s.1 (Int.toNat s.2)%(4294967296:Int)] (match match j with|0=>0|Nat.succ a=>a with|0=>0|Nat.succ a=>a)with|some x=>x|none=>(0:Int)else za i j,wkD md cd zd]=[wkC 3 4 (WkS.w (WnS.s s_1)) (WnS.s s_1).3 (WnS.s s_1).4 (WnS.s s_1).7 (WnS.s s_1).8,wkA (WnS.s s_1).2 (WnS.s s_1).3 (WnS.s s_1).5,wkD (WnS.s s_1).6 (WnS.s s_1).7 (WnS.s s_1).9]/\((0:Int)<=(WkS.w (WnS.s s_1)).8/\(WkS.w (WnS.s s_1)).8<(1000:Int))/\∀(x_2:Unit),True->∃(s_2:WkS),[aP 0 0]=[aP 0 0]/\[wkC 3 4 (Wk.next (WkS.w (WnS.s s_1)) (WnS.n s_1) (WnS.d s_1)) (WnS.s s_1).3 (WnS.s s_1).4 (WnS.s s_1).7 (WnS.s s_1).8,wkA (WnS.s s_1).2 (WnS.s s_1).3 (WnS.s s_1).5,wkD (WnS.s s_1).6 (WnS.s s_1).7 (WnS.s s_1).9]=[wkC 3 4 (WkS.w s_2) s_2.3 s_2.4 s_2.7 s_2.8,wkA s_2.2 s_2.3 s_2.5,wkD s_2.6 s_2.7 s_2.9]/\((WkS.w s_2).1<4/\((List.length (WkS.w s_2).11<=s_2.2/\s_2.2<=s_2.3)/\IsA s_2.5 (WkS.w s_2).11/\(List.length (WkS.w s_2).12<=s_2.6/\s_2.6<=s_2.7)/\IsD s_2.9 (WkS.w s_2).12)/\((WkS.w s_2).2=(8:Int)->Wk.allOK s_2.1))/\∀(x_3:WkS),Wk.sim x_3.1 (Wk.all s_2.1)/\(List.length (WkS.w x_3).11<=x_3.2/\x_3.2<=x_3.3)/\IsA x_3.5 (WkS.w x_3).11/\(List.length (WkS.w x_3).12<=x_3.6/\x_3.6<=x_3.7)/\IsD x_3.9 (WkS.w x_3).12->endN (Xy (7:Int)) [] (rpW 3) (WlS.mk (WkS.mk (Wk.mk th (7:Int) k key x tog said i v r asks deeds seen oc ov whn) ma ca na za md cd nd zd) m t) (SV.t []) [wkC 5 6 (WkS.w x_3) x_3.3 x_3.4 x_3.7 x_3.8,ramB s.1,stoB (WlS.t (WlS.mk (WkS.mk (Wk.mk th (7:Int) k key x tog said i v r asks deeds seen oc ov whn) ma ca na za md cd nd zd) m t)),SB.gone,SB.gone,wkA x_3.2 x_3.3 x_3.5,wkD x_3.6 x_3.7 x_3.9]) (by kernel_rfl) ?_
 obtain⟨h8,⟨m0,m1⟩,⟨l,a,hla⟩,ha⟩:=h7 rfl
 have e:IntKind.wrap .i64 (2+IntKind.wrap .i64 (2*i))=((2+2*i.toNat:Nat):Int):=by rw[QI (x:=2*i) (by omega) (by omega),QI (by omega) (by omega)];omega
 have e2:(0:Int)<=((2+2*i.toNat:Nat):Int):=by omega
 have e3:((2+2*i.toNat:Nat):Int)<16:=by omega
 have e5:i<1000:=by omega
 have hth:th<4:=h1
 have hll:asks.length=l.length+1:=by rw[hla,List.length_append];rfl
 have hsl:=QaA l a (m (2+2*i.toNat)/281474976710656%65536) (m (2+2*i.toNat)/4294967296%65536) (m (2+2*i.toNat)%4294967296)
 rw[<- hla]at hsl
 have el:asks.length=(Q9 asks (m (2+2*i.toNat)/281474976710656%65536) (m (2+2*i.toNat)/4294967296%65536) (m (2+2*i.toNat)%4294967296)).length:=by rw[hsl,List.length_append];exact hll
 have hop:opOk (m (2+2*i.toNat)/281474976710656%65536) (m (2+2*i.toNat)/4294967296%65536) (m (2+2*i.toNat)%4294967296)=true:=
  (ha.1 ⟨a.t,a.g,m (2+2*i.toNat)/281474976710656%65536,m (2+2*i.toNat)/4294967296%65536,m (2+2*i.toNat)%4294967296⟩ (by show _∈Q9 _ _ _ _;rw[hsl];exact List.mem_append_right _ List.mem_cons_self)).2.2
 have hl4:asks.length<=4:=by rw[el];exact ha.2.1
 have e6:IntKind.wrap .i64 ((asks.length:Int)-1)=(l.length:Int):=by rw[QI (by omega) (by omega)];omega
 obtain⟨⟨ga,gb⟩,gc,gd⟩:=h2
 dsimp only at ga gb gc gd
 have hgath:Xt ⟨⟨th,7,k,key,x,tog,said,i,v,r,asks,deeds,seen,oc,ov,whn⟩,m,t⟩=⟨(Wk.next ⟨th,6,k,key,x,tog,said,i,v,r,Q9 asks (m (2+2*i.toNat)/281474976710656%65536) (m (2+2*i.toNat)/4294967296%65536) (m (2+2*i.toNat)%4294967296),deeds,seen,oc,ov,whn⟩ 4 8).all,m,t⟩:=by
  unfold Xt
  rw[if_neg (by show ¬(7:Int)=4;decide),if_neg (by show ¬(7:Int)=5;decide),if_neg (by show ¬(7:Int)=6;decide)]
 rw[e,e6]
 have hg (z':Nat->Nat->Int) (hz:∀j,j<l.length->∀q,z' j q=za j q) (h0:z' l.length 0=za l.length 0) (h1:z' l.length 1=za l.length 1) (h2:z' l.length 2=m (2+2*i.toNat)/281474976710656%65536) (h3:z' l.length 3=m (2+2*i.toNat)/4294967296%65536) (h4:z' l.length 4=m (2+2*i.toNat)%4294967296):
  (⟨⟨th,6,k,key,x,tog,said,i,v,r,Q9 asks (m (2+2*i.toNat)/281474976710656%65536) (m (2+2*i.toNat)/4294967296%65536) (m (2+2*i.toNat)%4294967296),deeds,seen,oc,ov,whn⟩,ma,ca,na,z',md,cd,nd,zd⟩:WkS).good:=by
  refine⟨⟨by show (Q9 _ _ _ _).length<=_;rw[<- el];exact ga,gb⟩,?_,gd⟩
  show IsA z' (Q9 _ _ _ _)
  rw[hsl]
  rw[hla]at gc
  have g2:=gc l.length (by rw[List.length_append];exact Nat.lt_succ_self _)
  rw[show (l++[a]).getD l.length Ask.nil=a by simp[List.getD_eq_getElem?_getD]]at g2
  have gl:IsA za l:=fun j hj=>by
   have:=gc j (by rw[List.length_append];exact Nat.lt_succ_of_lt hj)
   rw[show (l++[a]).getD j Ask.nil=l.getD j Ask.nil by simp[List.getD_eq_getElem?_getD,List.getElem?_append_left hj]]at this
   exact this
  exact IsA.snoc gl hz ⟨h0.trans g2.1,h1.trans g2.2.1,h2,h3,h4⟩
 refine⟨⟨m,((2+2*i.toNat:Nat):Int)⟩,rfl,rfl,⟨e2,e3⟩,fun _ _=>⟨by omega,⟨m0,m1,hop⟩,⟨by omega,by omega,by omega⟩,by omega,Qk (by kernel_rfl),⟨⟨⟨th,6,k,key,x,tog,said,i,v,r,Q9 asks (m (2+2*i.toNat)/281474976710656%65536) (m (2+2*i.toNat)/4294967296%65536) (m (2+2*i.toNat)%4294967296),deeds,seen,oc,ov,whn⟩,ma,ca,na,_,md,cd,nd,zd⟩,4,8⟩,rfl,l3 (QoM el) rfl rfl,⟨h3,e5⟩,fun _ _=>⟨⟨Wk.next ⟨th,6,k,key,x,tog,said,i,v,r,Q9 asks (m (2+2*i.toNat)/281474976710656%65536) (m (2+2*i.toNat)/4294967296%65536) (m (2+2*i.toNat)%4294967296),deeds,seen,oc,ov,whn⟩ 4 8,ma,ca,na,_,md,cd,nd,zd⟩,rfl,rfl,⟨Qh0 4 8 hth,QdA 4 8 (hg _ ?_ ?_ ?_ ?_ ?_ ?_),fun _=>Qek 4 8 ha⟩,?_⟩⟩⟩
 · intro j hj q
   show (bif (match Nat.beq j (0+l.length)with|false=>false|true=>_)then _ else za j q)=za j q
   rw[show Nat.beq j (0+l.length)=false from nbeqF (by omega)]
   rfl
 · show (bif (match Nat.beq l.length (0+l.length)with|false=>false|true=>_)then _ else za l.length 0)=za l.length 0
   rw[show Nat.beq l.length (0+l.length)=true from QlF (by omega)]
   rfl
 · show (bif (match Nat.beq l.length (0+l.length)with|false=>false|true=>_)then _ else za l.length 1)=za l.length 1
   rw[show Nat.beq l.length (0+l.length)=true from QlF (by omega)]
   rfl
 · show (bif (match Nat.beq l.length (0+l.length)with|false=>false|true=>_)then _ else za l.length 2)=_
   rw[show Nat.beq l.length (0+l.length)=true from QlF (by omega)]
   rfl
 · show (bif (match Nat.beq l.length (0+l.length)with|false=>false|true=>_)then _ else za l.length 3)=_
   rw[show Nat.beq l.length (0+l.length)=true from QlF (by omega)]
   rfl
 · show (bif (match Nat.beq l.length (0+l.length)with|false=>false|true=>_)then _ else za l.length 4)=_
   rw[show Nat.beq l.length (0+l.length)=true from QlF (by omega)]
   rfl
 rintro⟨w2,ma2,ca2,na2,za2,md2,cd2,nd2,zd2⟩ ⟨hs,hg2⟩
 exact Qu rfl ⟨w2,ma2,ca2,na2,za2,md2,cd2,nd2,zd2⟩ ⟨by show Wk.sim _ (Xt ⟨⟨th,7,k,key,x,tog,said,i,v,r,asks,deeds,seen,oc,ov,whn⟩,m,t⟩).w;rw[hgath];exact hs,hg2⟩ rfl rfl rfl
def QaN (d:Int):MCon:=dcon WlS (fun s=>s.s.w.does=d/\0<=s.s.w.v/\s.s.w.v<1000000000) (fun s=>[.c (.p 0 0),.c (.p 1 0)]) (fun s=>[wkC 2 3 s.s.w s.s.ca s.s.na s.s.cd s.s.nd,ramB s.m,wkA s.s.ma s.s.ca s.s.za,wkD s.s.md s.s.cd s.s.zd])
 (fun s=>sv (.bool (XT s.z).2)) (fun s=>[wkC 2 3 (XT s.z).1.w s.s.ca s.s.na s.s.cd s.s.nd,ramB (XT s.z).1.m,wkA s.s.ma s.s.ca s.s.za,wkD s.s.md s.s.cd s.s.zd]) 4 Qb9
theorem Qkz:(Con.mem (QaN 14)).holds Tryz.prog 29:=by
 intro w0 S
 refine Qc (Γ:=[(40,.mem Xk)]) (fun _=>noW) Tryz.func29 rfl (by kernel_rfl) Qd Qb (fun w S' _ _=>.cons (Qap w S') (.nil _ _ _)) (QaN 14) (fun _=>[]) (fun x0 h s x=>⟨rfl,trivial⟩) (fun s ρ w _ _ _=>Qm w _) [] (Qi 4) 400 ?_
 rintro⟨⟨⟨th,does,k,key,x,tog,said,i,v,r,asks,deeds,seen,oc,ov,whn⟩,ma,ca,na,za,md,cd,nd,zd⟩,m,t⟩ W ⟨h0,h1,h2⟩ -
 refine⟨rfl,?_⟩
 dsimp only at h0 h1 h2
 subst h0
 refine Qj (q:=∃(s:Qbv),[aP 1 0,aI 1,aU (IntKind.wrap .u64 (v+(1:Int)))]=[aP 1 0,aI s.2,aU s.3]/\[ramB m]=[ramB s.1]/\(iR s.2 (16:Int))/\∀(x_1:Unit),True->endN (QaN (14:Int)) [] (Qi 4) (WlS.mk (WkS.mk (Wk.mk th (14:Int) k key x tog said i v r asks deeds seen oc ov whn) ma ca na za md cd nd zd) m t) (SV.o (aB false)) [SB.cells [sI ↑th,sI 15,sI k,sI key,sI x,sI tog,sB said,sI i,sU v,nU 32 r,sS 2 0 5 (List.length asks) ca na,sS 3 0 6 (List.length deeds) cd nd,nU 3 seen,sI oc,sI ov,sI whn] 42,ramB (putF s.1 (Int.toNat s.2) s.3),wkA ma ca za,wkD md cd zd]) (by kernel_rfl) ?_
 rw[QaK (x:=v+1) (by omega) (by omega)]
 exact⟨⟨m,1,v+1⟩,rfl,rfl,⟨(by decide:(0:Int)<=1),(by decide:(1:Int)<16)⟩,fun _ _=>⟨(),trivial,rfl,rfl⟩⟩
theorem Qky:(Con.mem (QaN 15)).holds Tryz.prog 29:=by
 intro w0 S
 refine Qc (Γ:=[(40,.mem Xk)]) (fun _=>noW) Tryz.func29 rfl (by kernel_rfl) Qd Qb (fun w S' _ _=>.cons (Qap w S') (.nil _ _ _)) (QaN 15) (fun _=>[]) (fun x0 h s x=>⟨rfl,trivial⟩) (fun s ρ w _ _ _=>Qm w _) [] (Qi 4) 400 ?_
 rintro⟨⟨⟨th,does,k,key,x,tog,said,i,v,r,asks,deeds,seen,oc,ov,whn⟩,ma,ca,na,za,md,cd,nd,zd⟩,m,t⟩ W ⟨h0,h1,h2⟩ -
 refine⟨rfl,?_⟩
 dsimp only at h0 h1 h2
 subst h0
 refine Qj (q:=∃(s:Qbv),[aP 1 0,aI 0,aU 0]=[aP 1 0,aI s.2,aU s.3]/\[ramB m]=[ramB s.1]/\(iR s.2 (16:Int))/\∀(x_1:Unit),True->endN (QaN (15:Int)) [] (Qi 4) (WlS.mk (WkS.mk (Wk.mk th (15:Int) k key x tog said i v r asks deeds seen oc ov whn) ma ca na za md cd nd zd) m t) (SV.o (aB false)) [SB.cells [sI ↑th,sI 16,sI k,sI key,sI x,sI tog,sB said,sI i,sU v,nU 32 r,sS 2 0 5 (List.length asks) ca na,sS 3 0 6 (List.length deeds) cd nd,nU 3 seen,sI oc,sI ov,sI whn] 42,ramB (putF s.1 (Int.toNat s.2) s.3),wkA ma ca za,wkD md cd zd]) (by kernel_rfl) ?_
 exact⟨⟨m,0,0⟩,rfl,rfl,⟨(by decide:(0:Int)<=0),(by decide:(0:Int)<16)⟩,fun _ _=>⟨(),trivial,rfl,rfl⟩⟩
theorem Qkx:(Con.mem (QaN 16)).holds Tryz.prog 29:=by
 intro w0 S
 refine Qc (Γ:=[(40,.mem Xk)]) (fun _=>noW) Tryz.func29 rfl (by kernel_rfl) Qd Qb (fun w S' _ _=>.cons (Qap w S') (.nil _ _ _)) (QaN 16) (fun _=>[]) (fun x0 h s x=>⟨rfl,trivial⟩) (fun s ρ w _ _ _=>Qm w _) [] (Qi 4) 400 ?_
 rintro⟨⟨⟨th,does,k,key,x,tog,said,i,v,r,asks,deeds,seen,oc,ov,whn⟩,ma,ca,na,za,md,cd,nd,zd⟩,m,t⟩ W ⟨h0,h1,h2⟩ -
 refine⟨rfl,?_⟩
 dsimp only at h0 h1 h2
 subst h0
 refine Qj (q:=endN (QaN (16:Int)) [] (Qi 4) (WlS.mk (WkS.mk (Wk.mk th (16:Int) k key x tog said i v r asks deeds seen oc ov whn) ma ca na za md cd nd zd) m t) (SV.o (aB true)) [SB.cells [sI ↑th,sI 0,sI k,sI key,sI x,sI tog,sB said,sI i,sU v,nU 32 r,sS 2 0 5 (List.length asks) ca na,sS 3 0 6 (List.length deeds) cd nd,nU 3 seen,sI oc,sI ov,sI whn] 42,ramB m,wkA ma ca za,wkD md cd zd]) (by kernel_rfl) ?_
 exact⟨(),trivial,rfl,rfl⟩
def QbJ (d:Int):MCon:=dcon WlS (fun s=>s.s.w.does=d/\s.s.w.th<4/\opOk s.s.w.k s.s.w.key s.s.w.x=true/\(s.s.w.tog=0\/s.s.w.tog=1)) (fun s=>[.c (.p 0 0),.c (.p 1 0)]) (fun s=>[wkC 2 3 s.s.w s.s.ca s.s.na s.s.cd s.s.nd,ramB s.m,wkA s.s.ma s.s.ca s.s.za,wkD s.s.md s.s.cd s.s.zd])
 (fun s=>.t []) (fun s=>[wkC 2 3 (sayP s.z).w s.s.ca s.s.na s.s.cd s.s.nd,ramB (sayP s.z).m,wkA s.s.ma s.s.ca s.s.za,wkD s.s.md s.s.cd s.s.zd]) 4 Qb9
theorem Qns:(Con.mem (QbJ 1)).holds Tryz.prog 26:=by
 intro w0 S
 refine Qc (Γ:=[(40,.mem Xk),(41,.mem XI),(39,.pure Qcp)]) (fun _=>noW) Tryz.func26 rfl (by kernel_rfl) Qd Qb (fun w S' _ _=>.cons (Qap w S') (.cons (Qc6 w S') (.cons (Qgc w S') (.nil _ _ _)))) (QbJ 1) (fun _=>[]) (fun x0 h s x=>⟨rfl,trivial⟩) (fun s ρ w _ _ _=>Qm w _) [] (Qi 4) 400 ?_
 rintro⟨⟨⟨th,does,k,key,x,tog,said,i,v,r,asks,deeds,seen,oc,ov,whn⟩,ma,ca,na,za,md,cd,nd,zd⟩,m,t⟩ W ⟨h0,h1,h2,h3⟩ -
 refine⟨rfl,?_⟩
 dsimp only at h0 h1 h2 h3
 subst h0
 refine Qj (q:=opOk k key x=true/\∃(s:Qbv),[aP 1 0,aI (IntKind.wrap .i64 ((2:Int)+IntKind.wrap .i64 ((2:Int)*(↑th:Int)))),aU (opW k key x)]=[aP 1 0,aI s.2,aU s.3]/\[ramB m]=[ramB s.1]/\(iR s.2 (16:Int))/\∀(x_1:Unit),True->endN (QbJ (1:Int)) [] (Qi 4) (WlS.mk (WkS.mk (Wk.mk th (1:Int) k key x tog said i v r asks deeds seen oc ov whn) ma ca na za md cd nd zd) m t) (SV.t []) [SB.cells [sI ↑th,sI 2,sI k,sI key,sI x,sI tog,sB said,sI i,sU v,nU 32 r,sS 2 0 5 (List.length asks) ca na,sS 3 0 6 (List.length deeds) cd nd,nU 3 seen,sI oc,sI ov,sI whn] 42,ramB (putF s.1 (Int.toNat s.2) s.3),wkA ma ca za,wkD md cd zd]) (by kernel_rfl) ?_
 have e:IntKind.wrap .i64 (2+IntKind.wrap .i64 (2*(th:Int)))=((2+2*th:Nat):Int):=by rw[QI (x:=2*(th:Int)) (by omega) (by omega),QI (by omega) (by omega)];omega
 rw[e]
 exact⟨h2,⟨m,((2+2*th:Nat):Int),opW k key x⟩,rfl,rfl,⟨(by omega:(0:Int)<=((2+2*th:Nat):Int)),(by omega:((2+2*th:Nat):Int)<16)⟩,fun _ _=>⟨(),trivial,rfl,rfl⟩⟩
theorem Qnr:(Con.mem (QbJ 2)).holds Tryz.prog 26:=by
 intro w0 S
 refine Qc (Γ:=[(40,.mem Xk),(41,.mem XI),(39,.pure Qcp)]) (fun _=>noW) Tryz.func26 rfl (by kernel_rfl) Qd Qb (fun w S' _ _=>.cons (Qap w S') (.cons (Qc6 w S') (.cons (Qgc w S') (.nil _ _ _)))) (QbJ 2) (fun _=>[]) (fun x0 h s x=>⟨rfl,trivial⟩) (fun s ρ w _ _ _=>Qm w _) [] (Qi 4) 400 ?_
 rintro⟨⟨⟨th,does,k,key,x,tog,said,i,v,r,asks,deeds,seen,oc,ov,whn⟩,ma,ca,na,za,md,cd,nd,zd⟩,m,t⟩ W ⟨h0,h1,h2,h3⟩ -
 refine⟨rfl,?_⟩
 dsimp only at h0 h1 h2 h3
 subst h0
 refine Qj (q:=∃(s:Qbv),[aP 1 0,aI (IntKind.wrap .i64 (IntKind.wrap .i64 ((2:Int)+IntKind.wrap .i64 ((2:Int)*(↑th:Int)))+(1:Int))),aU (IntKind.wrap .u64 (IntKind.wrap .u64 tog+(1:Int)))]=[aP 1 0,aI s.2,aU s.3]/\[ramB m]=[ramB s.1]/\(iR s.2 (16:Int))/\∀(x_1:Unit),True->dP Tryz.f26 5 4 [⟨14,[],[1],[],false⟩,xE 13,xE 12,xR 11 0,xF 10 0,xF 9 0,xF 8 0,xE 7,xE 6,xE 5,xR 4 0,xF 3 0,xF 2 0,xF 1 0,xF 0 1]/\endN (QbJ (2:Int)) [] (Qi 4) (WlS.mk (WkS.mk (Wk.mk th (2:Int) k key x tog said i v r asks deeds seen oc ov whn) ma ca na za md cd nd zd) m t) (SV.t []) [SB.cells [sI ↑th,sI 3,sI k,sI key,sI x,sI tog,sB true,sI i,sU v,nU 32 r,sS 2 0 5 (List.length asks) ca na,sS 3 0 6 (List.length deeds) cd nd,nU 3 seen,sI oc,sI ov,sI whn] 42,ramB (putF s.1 (Int.toNat s.2) s.3),wkA ma ca za,wkD md cd zd]) (by kernel_rfl) ?_
 have e:IntKind.wrap .i64 (IntKind.wrap .i64 (2+IntKind.wrap .i64 (2*(th:Int)))+1)=((3+2*th:Nat):Int):=by rw[QI (x:=2*(th:Int)) (by omega) (by omega),QI (x:=2+2*(th:Int)) (by omega) (by omega),QI (by omega) (by omega)];omega
 have e2:IntKind.wrap .u64 (IntKind.wrap .u64 tog+1)=tog+1:=by rw[QaK (x:=tog) (by omega) (by omega)];exact QaK (by omega) (by omega)
 rw[e,e2]
 exact⟨⟨m,((3+2*th:Nat):Int),tog+1⟩,rfl,rfl,⟨(by omega:(0:Int)<=((3+2*th:Nat):Int)),(by omega:((3+2*th:Nat):Int)<16)⟩,fun _ _=>⟨Qk (by kernel_rfl),(),trivial,rfl,rfl⟩⟩
theorem Qnq:(Con.mem (QbJ 3)).holds Tryz.prog 26:=by
 intro w0 S
 refine Qc (Γ:=[(40,.mem Xk),(41,.mem XI),(39,.pure Qcp)]) (fun _=>noW) Tryz.func26 rfl (by kernel_rfl) Qd Qb (fun w S' _ _=>.cons (Qap w S') (.cons (Qc6 w S') (.cons (Qgc w S') (.nil _ _ _)))) (QbJ 3) (fun _=>[]) (fun x0 h s x=>⟨rfl,trivial⟩) (fun s ρ w _ _ _=>Qm w _) [] (Qi 4) 400 ?_
 rintro⟨⟨⟨th,does,k,key,x,tog,said,i,v,r,asks,deeds,seen,oc,ov,whn⟩,ma,ca,na,za,md,cd,nd,zd⟩,m,t⟩ W ⟨h0,h1,h2,h3⟩ -
 refine⟨rfl,?_⟩
 dsimp only at h0 h1 h2 h3
 subst h0
 refine Qj (q:=∃(s:QcS),[aP 1 0,aI 0,aU 0,aU (IntKind.wrap .u64 (IntKind.wrap .u64 (↑th:Int)+(1:Int)))]=[aP 1 0,aI s.2,aU s.3,aU s.4]/\[ramB m]=[ramB s.1]/\(iR s.2 (16:Int))/\∀(x_1:Unit),True->bif bif s.1 (Int.toNat s.2)==s.3 then false else true then endN (QbJ (3:Int)) [] (Qi 4) (WlS.mk (WkS.mk (Wk.mk th (3:Int) k key x tog said i v r asks deeds seen oc ov whn) ma ca na za md cd nd zd) m t) (SV.t []) [SB.cells [sI ↑th,sI 17,sI k,sI key,sI x,sI tog,sB said,sI i,sU v,nU 32 r,sS 2 0 5 (List.length asks) ca na,sS 3 0 6 (List.length deeds) cd nd,nU 3 seen,sI oc,sI ov,sI whn] 42,ramB (bif s.1 (Int.toNat s.2)==s.3 then putF s.1 (Int.toNat s.2) s.4 else s.1),wkA ma ca za,wkD md cd zd]else endN (QbJ (3:Int)) [] (Qi 4) (WlS.mk (WkS.mk (Wk.mk th (3:Int) k key x tog said i v r asks deeds seen oc ov whn) ma ca na za md cd nd zd) m t) (SV.t []) [SB.cells [sI ↑th,sI 4,sI k,sI key,sI x,sI tog,sB said,sI i,sU v,nU 32 r,sS 2 0 5 (List.length asks) ca na,sS 3 0 6 (List.length deeds) cd nd,nU 3 seen,sI oc,sI ov,sI whn] 42,ramB (bif s.1 (Int.toNat s.2)==s.3 then putF s.1 (Int.toNat s.2) s.4 else s.1),wkA ma ca za,wkD md cd zd]) (by kernel_rfl) ?_
 have e2:IntKind.wrap .u64 (IntKind.wrap .u64 (th:Int)+1)=(th:Int)+1:=by rw[QaK (x:=(th:Int)) (by omega) (by omega)];exact QaK (by omega) (by omega)
 rw[e2]
 refine⟨⟨m,0,0,(th:Int)+1⟩,rfl,rfl,⟨(by decide:(0:Int)<=0),(by decide:(0:Int)<16)⟩,fun _ _=>?_⟩
 show bif bif m 0==0 then false else true then _ else _
 refine QhJ (fun h=>⟨(),trivial,rfl,?_⟩) (fun h=>⟨(),trivial,rfl,?_⟩)
 · have hl:sayP ⟨⟨th,3,k,key,x,tog,said,i,v,r,asks,deeds,seen,oc,ov,whn⟩,m,t⟩=⟨⟨th,17,k,key,x,tog,said,i,v,r,asks,deeds,seen,oc,ov,whn⟩,m,t⟩:=by
    rw[say3 _ rfl,if_neg h]
   show [_,ramB (bif m 0==0 then putF m 0 ((th:Int)+1)else m),_,_]=[wkC 2 3 (sayP _).w ca na cd nd,ramB (sayP _).m,_,_]
   rw[hl,show (m 0==0)=false from beq_eq_false_iff_ne.2 h];rfl
 · have hl:sayP ⟨⟨th,3,k,key,x,tog,said,i,v,r,asks,deeds,seen,oc,ov,whn⟩,m,t⟩=⟨⟨th,4,k,key,x,tog,said,i,v,r,asks,deeds,seen,oc,ov,whn⟩,putF m 0 ((th:Int)+1),t⟩:=by
    rw[say3 _ rfl,if_pos h]
   show [_,ramB (bif m 0==0 then putF m 0 ((th:Int)+1)else m),_,_]=[wkC 2 3 (sayP _).w ca na cd nd,ramB (sayP _).m,_,_]
   rw[hl,show (m 0==0)=true from beq_iff_eq.2 h];rfl
def QN (d:Int):MCon:=dcon WlS (fun s=>s.s.w.does=d/\s.s.w.th<4/\(0<=s.s.w.v/\s.s.w.v<1000000000)/\(0<=s.s.w.i/\s.s.w.i<32/\(d=9->s.s.w.i<4))/\(0<=s.t.fl/\s.t.fl<1000000000)/\(0<=s.t.fe/\s.t.fe<1000000000)) (fun s=>[.c (.p 0 0),.c (.p 1 0)]) (fun s=>[wkC 2 3 s.s.w s.s.ca s.s.na s.s.cd s.s.nd,stoB s.t,wkA s.s.ma s.s.ca s.s.za,wkD s.s.md s.s.cd s.s.zd])
 (fun s=>.t []) (fun s=>[wkC 2 3 (Xf s.z).w s.s.ca s.s.na s.s.cd s.s.nd,stoB (Xf s.z).s,wkA s.s.ma s.s.ca s.s.za,wkD s.s.md s.s.cd s.s.zd]) 4 Qb9
theorem QlU:(Con.mem (QN 8)).holds Tryz.prog 28:=by
 intro w0 S
 refine Qc (Γ:=[(25,.mem Xj),(47,.mem QU),(48,.mem Q7),(42,.pure Xq),(43,.mem Qag)]) (fun _=>noW) Tryz.func28 rfl (by kernel_rfl) Qd Qb (fun w S' _ _=>.cons (XQ w S') (.cons (XW w S') (.cons (XX w S') (.cons (Xr w S') (.cons (Qav w S') (.nil _ _ _)))))) (QN 8) (fun _=>[]) (fun x0 h s x=>⟨rfl,trivial⟩) (fun s ρ w _ _ _=>Qm w _) [] (Qi 4) 400 ?_
 rintro⟨⟨⟨th,does,k,key,x,tog,said,i,v,r,asks,deeds,seen,oc,ov,whn⟩,ma,ca,na,za,md,cd,nd,zd⟩,m,t⟩ W ⟨h0,h1,h2,h3,h4,h5⟩ -
 refine⟨rfl,?_⟩
 dsimp only at h0 h1 h2 h3 h4 h5
 subst h0
 refine Qj (q:=((0:Int)<=IntKind.wrap .u64 (v+(1:Int))/\IntKind.wrap .u64 (v+(1:Int))<(18446744073709551616:Int))/\(iR i (32:Int))/\Int.toNat i<32/\∃(s:Qv),[aP 1 0,aI (IntKind.wrap .i64 ((↑(Qn (IntKind.wrap .u64 (v+(1:Int)))):Int)+i)),aU (r (Int.toNat i))]=[aP 1 0,aI s.2,aU s.3]/\[stoB t]=[stoB (Qv.s s)]/\(iR s.2 (72:Int))/\∀(x_1:Unit),True->dP Tryz.f28 2 4 [⟨21,[],[1],[],false⟩,xR 20 0,xF 19 0,xF 18 0,xF 17 0,xR 16 0,xF 15 0,xF 14 0,xF 13 0,xF 12 0,xE 11,xR 10 0,xF 9 0,xF 8 0,xF 7 0,xE 6,xE 5,xR 4 0,xF 3 0,xF 2 0,xF 1 0,xF 0 1]/\∃(s_1:WnS),[aP 0 0,aI 32,aI 9]=[aP 0 0,aI s_1.2,aI s_1.3]/\[SB.cells [sI ↑th,sI 8,sI k,sI key,sI x,sI tog,sB said,sI i,sU v,nU 32 r,sS 2 0 5 (List.length asks) ca na,sS 3 0 6 (List.length deeds) cd nd,nU 3 seen,sI oc,sI ov,sI whn] 42,wkA ma ca za,wkD md cd zd]=[wkC 2 3 (WkS.w (WnS.s s_1)) (WnS.s s_1).3 (WnS.s s_1).4 (WnS.s s_1).7 (WnS.s s_1).8,wkA (WnS.s s_1).2 (WnS.s s_1).3 (WnS.s s_1).5,wkD (WnS.s s_1).6 (WnS.s s_1).7 (WnS.s s_1).9]/\((0:Int)<=(WkS.w (WnS.s s_1)).8/\(WkS.w (WnS.s s_1)).8<(1000:Int))/\∀(x_2:Unit),True->endN (QN (8:Int)) [] (Qi 4) (WlS.mk (WkS.mk (Wk.mk th (8:Int) k key x tog said i v r asks deeds seen oc ov whn) ma ca na za md cd nd zd) m t) (SV.t []) [wkC 2 3 (Wk.next (WkS.w (WnS.s s_1)) (WnS.n s_1) (WnS.d s_1)) (WnS.s s_1).3 (WnS.s s_1).4 (WnS.s s_1).7 (WnS.s s_1).8,stoB (Sto.save (Qv.s s) (Int.toNat (Qv.a s)) (Qv.x s)),wkA (WnS.s s_1).2 (WnS.s s_1).3 (WnS.s s_1).5,wkD (WnS.s s_1).6 (WnS.s s_1).7 (WnS.s s_1).9]) (by kernel_rfl) ?_
 have hv:IntKind.wrap .u64 (v+1)=v+1:=QaK (by omega) (by omega)
 have hb:Qn (v+1)=8\/Qn (v+1)=40:=by unfold Qn;omega
 have e:IntKind.wrap .i64 ((Qn (v+1):Int)+i)=((Qn (v+1)+i.toNat:Nat):Int):=by rw[QI (by omega) (by omega)];omega
 have e2:(0:Int)<=((Qn (v+1)+i.toNat:Nat):Int):=by omega
 have e3:((Qn (v+1)+i.toNat:Nat):Int)<72:=by omega
 have e4:(0:Int)<=i:=by omega
 have e5:i<1000:=by omega
 rw[hv,e]
 exact⟨⟨by omega,by omega⟩,⟨by omega,by omega⟩,by omega,⟨t,((Qn (v+1)+i.toNat:Nat):Int),r i.toNat⟩,rfl,rfl,⟨e2,e3⟩,fun _ _=>⟨Qk (by kernel_rfl),⟨⟨⟨th,8,k,key,x,tog,said,i,v,r,asks,deeds,seen,oc,ov,whn⟩,ma,ca,na,za,md,cd,nd,zd⟩,32,9⟩,rfl,rfl,⟨e4,e5⟩,fun _ _=>⟨(),trivial,rfl,rfl⟩⟩⟩
theorem QlT:(Con.mem (QN 9)).holds Tryz.prog 28:=by
 intro w0 S
 refine Qc (Γ:=[(25,.mem Xj),(47,.mem QU),(48,.mem Q7),(42,.pure Xq),(43,.mem Qag)]) (fun _=>noW) Tryz.func28 rfl (by kernel_rfl) Qd Qb (fun w S' _ _=>.cons (XQ w S') (.cons (XW w S') (.cons (XX w S') (.cons (Xr w S') (.cons (Qav w S') (.nil _ _ _)))))) (QN 9) (fun _=>[]) (fun x0 h s x=>⟨rfl,trivial⟩) (fun s ρ w _ _ _=>Qm w _) [] (Qi 4) 400 ?_
 rintro⟨⟨⟨th,does,k,key,x,tog,said,i,v,r,asks,deeds,seen,oc,ov,whn⟩,ma,ca,na,za,md,cd,nd,zd⟩,m,t⟩ W ⟨h0,h1,h2,h3,h4,h5⟩ -
 refine⟨rfl,?_⟩
 dsimp only at h0 h1 h2 h3 h4 h5
 subst h0
 refine Qj (q:=((0:Int)<=IntKind.wrap .u64 (v+(1:Int))/\IntKind.wrap .u64 (v+(1:Int))<(18446744073709551616:Int))/\(8:Int)≠(0:Int)/\∃(s:QM),[aP 1 0,aI ↑th,aI (IntKind.wrap .i64 (IntKind.wrap .i64 (Int.tdiv (↑(Qn (IntKind.wrap .u64 (v+(1:Int)))):Int) (8:Int))+i))]=[aP 1 0,aI s.2,aI s.3]/\[stoB t]=[stoB (QM.s s)]/\((iR s.2 (4:Int))/\(iR s.3 (9:Int))/\(0:Int)<=(QM.s s).4/\(QM.s s).4<(1000000000:Int))/\∀(x_1:Unit),True->dP Tryz.f28 5 4 [⟨17,[],[1],[],false⟩,xE 16,xR 15 0,xF 14 0,xF 13 0,xF 12 0,xE 11,xE 10,xE 9,xR 8 0,xF 7 0,xF 6 0,xF 5 0,xR 4 0,xF 3 0,xF 2 0,xF 1 0,xF 0 1]/\∃(s_1:WnS),[aP 0 0,aI 4,aI 10]=[aP 0 0,aI s_1.2,aI s_1.3]/\[SB.cells [sI ↑th,sI 9,sI k,sI key,sI x,sI tog,sB said,sI i,sU v,nU 32 r,sS 2 0 5 (List.length asks) ca na,sS 3 0 6 (List.length deeds) cd nd,nU 3 seen,sI oc,sI ov,sI whn] 42,wkA ma ca za,wkD md cd zd]=[wkC 2 3 (WkS.w (WnS.s s_1)) (WnS.s s_1).3 (WnS.s s_1).4 (WnS.s s_1).7 (WnS.s s_1).8,wkA (WnS.s s_1).2 (WnS.s s_1).3 (WnS.s s_1).5,wkD (WnS.s s_1).6 (WnS.s s_1).7 (WnS.s s_1).9]/\((0:Int)<=(WkS.w (WnS.s s_1)).8/\(WkS.w (WnS.s s_1)).8<(1000:Int))/\∀(x_2:Unit),True->endN (QN (9:Int)) [] (Qi 4) (WlS.mk (WkS.mk (Wk.mk th (9:Int) k key x tog said i v r asks deeds seen oc ov whn) ma ca na za md cd nd zd) m t) (SV.t []) [wkC 2 3 (Wk.next (WkS.w (WnS.s s_1)) (WnS.n s_1) (WnS.d s_1)) (WnS.s s_1).3 (WnS.s s_1).4 (WnS.s s_1).7 (WnS.s s_1).8,stoB (Sto.flush (QM.s s) (Int.toNat (QM.t s)) (Int.toNat (QM.l s))),wkA (WnS.s s_1).2 (WnS.s s_1).3 (WnS.s s_1).5,wkD (WnS.s s_1).6 (WnS.s s_1).7 (WnS.s s_1).9]) (by kernel_rfl) ?_
 have hv:IntKind.wrap .u64 (v+1)=v+1:=QaK (by omega) (by omega)
 have hb:Qn (v+1)=8\/Qn (v+1)=40:=by unfold Qn;omega
 have hi:=h3.2.2 rfl
 have e:IntKind.wrap .i64 (IntKind.wrap .i64 (Int.tdiv (Qn (v+1):Int) 8)+i)=((Qn (v+1)/8+i.toNat:Nat):Int):=by
  rw[Int.tdiv_eq_ediv_of_nonneg (by omega),QI (x:=(Qn (v+1):Int)/8) (by omega) (by omega),QI (by omega) (by omega)];omega
 have e0:(0:Int)<=th:=by omega
 have e1:(th:Int)<4:=by omega
 have e2:(0:Int)<=((Qn (v+1)/8+i.toNat:Nat):Int):=by omega
 have e3:((Qn (v+1)/8+i.toNat:Nat):Int)<9:=by omega
 have e4:(0:Int)<=i:=by omega
 have e5:i<1000:=by omega
 rw[hv,e]
 exact⟨⟨by omega,by omega⟩,by decide,⟨t,th,((Qn (v+1)/8+i.toNat:Nat):Int)⟩,rfl,rfl,⟨⟨e0,e1⟩,⟨e2,e3⟩,h4⟩,fun _ _=>⟨Qk (by kernel_rfl),⟨⟨⟨th,9,k,key,x,tog,said,i,v,r,asks,deeds,seen,oc,ov,whn⟩,ma,ca,na,za,md,cd,nd,zd⟩,4,10⟩,rfl,rfl,⟨e4,e5⟩,fun _ _=>⟨(),trivial,rfl,rfl⟩⟩⟩
theorem Qj7:(Con.mem (QN 10)).holds Tryz.prog 28:=by
 intro w0 S
 refine Qc (Γ:=[(25,.mem Xj),(47,.mem QU),(48,.mem Q7),(42,.pure Xq),(43,.mem Qag)]) (fun _=>noW) Tryz.func28 rfl (by kernel_rfl) Qd Qb (fun w S' _ _=>.cons (XQ w S') (.cons (XW w S') (.cons (XX w S') (.cons (Xr w S') (.cons (Qav w S') (.nil _ _ _)))))) (QN 10) (fun _=>[]) (fun x0 h s x=>⟨rfl,trivial⟩) (fun s ρ w _ _ _=>Qm w _) [] (Qi 4) 400 ?_
 rintro⟨⟨⟨th,does,k,key,x,tog,said,i,v,r,asks,deeds,seen,oc,ov,whn⟩,ma,ca,na,za,md,cd,nd,zd⟩,m,t⟩ W ⟨h0,h1,h2,h3,h4,h5⟩ -
 refine⟨rfl,?_⟩
 dsimp only at h0 h1 h2 h3 h4 h5
 subst h0
 refine Qj (q:=∃(s:QT),[aP 1 0,aI ↑th]=[aP 1 0,aI s.2]/\[stoB t]=[stoB (QT.s s)]/\((iR s.2 (4:Int))/\(0:Int)<=(QT.s s).5/\(QT.s s).5<(1000000000:Int))/\∀(x_1:Unit),True->endN (QN (10:Int)) [] (Qi 4) (WlS.mk (WkS.mk (Wk.mk th (10:Int) k key x tog said i v r asks deeds seen oc ov whn) ma ca na za md cd nd zd) m t) (SV.t []) [SB.cells [sI ↑th,sI 11,sI k,sI key,sI x,sI tog,sB said,sI i,sU v,nU 32 r,sS 2 0 5 (List.length asks) ca na,sS 3 0 6 (List.length deeds) cd nd,nU 3 seen,sI oc,sI ov,sI whn] 42,stoB (Sto.fence (QT.s s) (Int.toNat (QT.t s))),wkA ma ca za,wkD md cd zd]) (by kernel_rfl) ?_
 have e0:(0:Int)<=th:=by omega
 have e1:(th:Int)<4:=by omega
 exact⟨⟨t,(th:Int)⟩,rfl,rfl,⟨⟨e0,e1⟩,h5⟩,fun _ _=>⟨(),trivial,rfl,rfl⟩⟩
theorem Qj6:(Con.mem (QN 11)).holds Tryz.prog 28:=by
 intro w0 S
 refine Qc (Γ:=[(25,.mem Xj),(47,.mem QU),(48,.mem Q7),(42,.pure Xq),(43,.mem Qag)]) (fun _=>noW) Tryz.func28 rfl (by kernel_rfl) Qd Qb (fun w S' _ _=>.cons (XQ w S') (.cons (XW w S') (.cons (XX w S') (.cons (Xr w S') (.cons (Qav w S') (.nil _ _ _)))))) (QN 11) (fun _=>[]) (fun x0 h s x=>⟨rfl,trivial⟩) (fun s ρ w _ _ _=>Qm w _) [] (Qi 4) 400 ?_
 rintro⟨⟨⟨th,does,k,key,x,tog,said,i,v,r,asks,deeds,seen,oc,ov,whn⟩,ma,ca,na,za,md,cd,nd,zd⟩,m,t⟩ W ⟨h0,h1,h2,h3,h4,h5⟩ -
 refine⟨rfl,?_⟩
 dsimp only at h0 h1 h2 h3 h4 h5
 subst h0
 refine Qj (q:=∃(s:Qv),[aP 1 0,aI 0,aU (IntKind.wrap .u64 (v+(1:Int)))]=[aP 1 0,aI s.2,aU s.3]/\[stoB t]=[stoB (Qv.s s)]/\(iR s.2 (72:Int))/\∀(x_1:Unit),True->endN (QN (11:Int)) [] (Qi 4) (WlS.mk (WkS.mk (Wk.mk th (11:Int) k key x tog said i v r asks deeds seen oc ov whn) ma ca na za md cd nd zd) m t) (SV.t []) [SB.cells [sI ↑th,sI 12,sI k,sI key,sI x,sI tog,sB said,sI i,sU v,nU 32 r,sS 2 0 5 (List.length asks) ca na,sS 3 0 6 (List.length deeds) cd nd,nU 3 seen,sI oc,sI ov,sI whn] 42,stoB (Sto.save (Qv.s s) (Int.toNat (Qv.a s)) (Qv.x s)),wkA ma ca za,wkD md cd zd]) (by kernel_rfl) ?_
 have hv:IntKind.wrap .u64 (v+1)=v+1:=QaK (by omega) (by omega)
 rw[hv]
 exact⟨⟨t,0,v+1⟩,rfl,rfl,⟨(by decide:(0:Int)<=0),(by decide:(0:Int)<72)⟩,fun _ _=>⟨(),trivial,rfl,rfl⟩⟩
theorem Qj5:(Con.mem (QN 12)).holds Tryz.prog 28:=by
 intro w0 S
 refine Qc (Γ:=[(25,.mem Xj),(47,.mem QU),(48,.mem Q7),(42,.pure Xq),(43,.mem Qag)]) (fun _=>noW) Tryz.func28 rfl (by kernel_rfl) Qd Qb (fun w S' _ _=>.cons (XQ w S') (.cons (XW w S') (.cons (XX w S') (.cons (Xr w S') (.cons (Qav w S') (.nil _ _ _)))))) (QN 12) (fun _=>[]) (fun x0 h s x=>⟨rfl,trivial⟩) (fun s ρ w _ _ _=>Qm w _) [] (Qi 4) 400 ?_
 rintro⟨⟨⟨th,does,k,key,x,tog,said,i,v,r,asks,deeds,seen,oc,ov,whn⟩,ma,ca,na,za,md,cd,nd,zd⟩,m,t⟩ W ⟨h0,h1,h2,h3,h4,h5⟩ -
 refine⟨rfl,?_⟩
 dsimp only at h0 h1 h2 h3 h4 h5
 subst h0
 refine Qj (q:=∃(s:QM),[aP 1 0,aI ↑th,aI 0]=[aP 1 0,aI s.2,aI s.3]/\[stoB t]=[stoB (QM.s s)]/\((iR s.2 (4:Int))/\(iR s.3 (9:Int))/\(0:Int)<=(QM.s s).4/\(QM.s s).4<(1000000000:Int))/\∀(x_1:Unit),True->endN (QN (12:Int)) [] (Qi 4) (WlS.mk (WkS.mk (Wk.mk th (12:Int) k key x tog said i v r asks deeds seen oc ov whn) ma ca na za md cd nd zd) m t) (SV.t []) [SB.cells [sI ↑th,sI 13,sI k,sI key,sI x,sI tog,sB said,sI i,sU v,nU 32 r,sS 2 0 5 (List.length asks) ca na,sS 3 0 6 (List.length deeds) cd nd,nU 3 seen,sI oc,sI ov,sI whn] 42,stoB (Sto.flush (QM.s s) (Int.toNat (QM.t s)) (Int.toNat (QM.l s))),wkA ma ca za,wkD md cd zd]) (by kernel_rfl) ?_
 have e0:(0:Int)<=th:=by omega
 have e1:(th:Int)<4:=by omega
 exact⟨⟨t,th,0⟩,rfl,rfl,⟨⟨e0,e1⟩,⟨(by decide:(0:Int)<=0),(by decide:(0:Int)<9)⟩,h4⟩,fun _ _=>⟨(),trivial,rfl,rfl⟩⟩
theorem Qj4:(Con.mem (QN 13)).holds Tryz.prog 28:=by
 intro w0 S
 refine Qc (Γ:=[(25,.mem Xj),(47,.mem QU),(48,.mem Q7),(42,.pure Xq),(43,.mem Qag)]) (fun _=>noW) Tryz.func28 rfl (by kernel_rfl) Qd Qb (fun w S' _ _=>.cons (XQ w S') (.cons (XW w S') (.cons (XX w S') (.cons (Xr w S') (.cons (Qav w S') (.nil _ _ _)))))) (QN 13) (fun _=>[]) (fun x0 h s x=>⟨rfl,trivial⟩) (fun s ρ w _ _ _=>Qm w _) [] (Qi 4) 400 ?_
 rintro⟨⟨⟨th,does,k,key,x,tog,said,i,v,r,asks,deeds,seen,oc,ov,whn⟩,ma,ca,na,za,md,cd,nd,zd⟩,m,t⟩ W ⟨h0,h1,h2,h3,h4,h5⟩ -
 refine⟨rfl,?_⟩
 dsimp only at h0 h1 h2 h3 h4 h5
 subst h0
 refine Qj (q:=∃(s:QT),[aP 1 0,aI ↑th]=[aP 1 0,aI s.2]/\[stoB t]=[stoB (QT.s s)]/\((iR s.2 (4:Int))/\(0:Int)<=(QT.s s).5/\(QT.s s).5<(1000000000:Int))/\∀(x_1:Unit),True->endN (QN (13:Int)) [] (Qi 4) (WlS.mk (WkS.mk (Wk.mk th (13:Int) k key x tog said i v r asks deeds seen oc ov whn) ma ca na za md cd nd zd) m t) (SV.t []) [SB.cells [sI ↑th,sI 14,sI k,sI key,sI x,sI tog,sB said,sI i,sU v,nU 32 r,sS 2 0 5 (List.length asks) ca na,sS 3 0 6 (List.length deeds) cd nd,nU 3 seen,sI oc,sI ov,sI whn] 42,stoB (Sto.fence (QT.s s) (Int.toNat (QT.t s))),wkA ma ca za,wkD md cd zd]) (by kernel_rfl) ?_
 have e0:(0:Int)<=th:=by omega
 have e1:(th:Int)<4:=by omega
 exact⟨⟨t,(th:Int)⟩,rfl,rfl,⟨⟨e0,e1⟩,h5⟩,fun _ _=>⟨(),trivial,rfl,rfl⟩⟩
def XO (z:WSt):Prop:=(0<=z.w.does/\z.w.does<=21) /\
 (z.w.does<=3->opOk z.w.k z.w.key z.w.x=true/\(z.w.tog=0\/z.w.tog=1)) /\
 (4<=z.w.does/\z.w.does<=7->Qmf z) /\
 (8<=z.w.does/\z.w.does<=13->(0<=z.w.v/\z.w.v<1000000000)/\(0<=z.w.i/\z.w.i<32/\(z.w.does=9->z.w.i<4))/\(0<=z.s.fl/\z.s.fl<1000000000)/\(0<=z.s.fe/\z.s.fe<1000000000)) /\
 (14<=z.w.does/\z.w.does<=16->0<=z.w.v/\z.w.v<1000000000) /\
 (17<=z.w.does->(0<=z.w.v/\z.w.v<18446744073709551616)/\(0<=z.w.seen 0/\z.w.seen 0<16)/\(0<=z.w.seen 2/\z.w.seen 2<=9223372036854775807)/\U64 (z.w.seen 1) /\
  (z.w.does=21->(z.m 1=z.w.v/\Qh (z.w.seen 0) z.w.th=z.w.tog)->Q2 (z.w.seen 1/4294967296%4294967296) (z.w.seen 1%4294967296)=true\/z.w.seen 1=0))
def QpC:MCon where
 σ:=WlS
 χ:=WkS
 pre s:=s.s.w.th<4/\s.s.good/\XO s.z
 args s:=[.c (.p 0 0),.c (.p 1 0),.c (.p 2 0)]
 mem s:=wkM 3 4 s.s s.z
 ok s x:=x.w.sim (Qe s.z).1.w/\x.good
 val s x:=sv (.bool (Qe s.z).2)
 mem' s x:=wkM 3 4 x ⟨x.w,(Qe s.z).1.m,(Qe s.z).1.s⟩
 k:=3
 len:=5
 det:=none
 find:=Qb9
def Qg (d:Int):MCon where
 σ:=WlS
 χ:=WkS
 pre s:=s.s.w.does=d/\s.s.w.th<4/\s.s.good/\XO s.z
 args s:=[.c (.p 0 0),.c (.p 1 0),.c (.p 2 0)]
 mem s:=wkM 3 4 s.s s.z
 ok s x:=x.w.sim (Qe s.z).1.w/\x.good
 val s x:=sv (.bool (Qe s.z).2)
 mem' s x:=wkM 3 4 x ⟨x.w,(Qe s.z).1.m,(Qe s.z).1.s⟩
 k:=3
 len:=5
 det:=none
 find:=Qb9
theorem QaZ (z:WSt):(Xf z).w.asks=z.w.asks/\(Xf z).w.deeds=z.w.deeds:=by
 unfold Xf Wk.next
 repeat' split
 all_goals exact⟨rfl,rfl⟩
theorem QeX (z:WSt):(sayP z).w.asks=z.w.asks/\(sayP z).w.deeds=z.w.deeds:=by
 unfold sayP
 repeat' split
 all_goals exact⟨rfl,rfl⟩
theorem sayP_s (z:WSt):(sayP z).s=z.s:=by
 unfold sayP
 repeat' split
 all_goals rfl
theorem Qi6 (z:WSt):(Xt z).m=z.m/\(Xt z).s=z.s:=by
 unfold Xt
 repeat' split
 all_goals exact⟨rfl,rfl⟩
theorem Qef (z:WSt):(XT z).1.w.asks=z.w.asks/\(XT z).1.w.deeds=z.w.deeds:=by
 unfold XT
 repeat' split
 all_goals exact⟨rfl,rfl⟩
theorem QbC (z:WSt):(QP z).1.w.asks=z.w.asks/\(QP z).1.w.deeds=z.w.deeds:=by
 unfold QP
 repeat' split
 all_goals exact⟨rfl,rfl⟩
theorem QX {w w':Wk}{ma ca:Nat}{na:Bool}{za:Nat->Nat->Int}{md cd:Nat}{nd:Bool}{zd:Nat->Nat->Int}(h:(⟨w,ma,ca,na,za,md,cd,nd,zd⟩:WkS).good) (e:w'.asks=w.asks/\w'.deeds=w.deeds):(⟨w',ma,ca,na,za,md,cd,nd,zd⟩:WkS).good:=by
 unfold WkS.good at *
 dsimp only at *
 rw[e.1,e.2];exact h
theorem Qg4:(Con.mem (Qg 0)).holds Tryz.prog 12:=by
 intro w0 S
 refine Qc (Γ:=[]) (fun _=>noW) Tryz.func12 rfl (by kernel_rfl) Qd Qb (fun w S' _ _=>.nil _ _ _) (Qg 0) (fun _=>[]) (fun x0 h=>by cases h) (fun s ρ w _ _ _=>Qm w _) [] (rpW 3) 400 ?_
 rintro⟨⟨⟨th,does,k,key,x,tog,said,i,v,r,asks,deeds,seen,oc,ov,whn⟩,ma,ca,na,za,md,cd,nd,zd⟩,m,t⟩ W ⟨h0,h1,h2,h3⟩ -
 refine⟨rfl,?_⟩
 dsimp only at h0 h1
 subst h0
 refine Qj (q:=endN (Qg (0:Int)) [] (rpW 3) (WlS.mk (WkS.mk (Wk.mk th (0:Int) k key x tog said i v r asks deeds seen oc ov whn) ma ca na za md cd nd zd) m t) (SV.o (aB false)) [SB.cells [sI ↑th,sI 0,sI k,sI key,sI x,sI tog,sB said,sI i,sU v,nU 32 r,sS 3 0 5 (List.length asks) ca na,sS 4 0 6 (List.length deeds) cd nd,nU 3 seen,sI oc,sI ov,sI whn] 42,ramB m,stoB (WlS.t (WlS.mk (WkS.mk (Wk.mk th (0:Int) k key x tog said i v r asks deeds seen oc ov whn) ma ca na za md cd nd zd) m t)),wkA ma ca za,wkD md cd zd]) (by kernel_rfl) ?_
 exact Qu rfl ⟨⟨th,0,k,key,x,tog,said,i,v,r,asks,deeds,seen,oc,ov,whn⟩,ma,ca,na,za,md,cd,nd,zd⟩ ⟨⟨rfl,rfl⟩,h2⟩ rfl rfl rfl
theorem Qlb:(Con.mem (Qg 1)).holds Tryz.prog 12:=by
 intro w0 S
 refine Qc (Γ:=[(26,.mem (QbJ 1))]) (fun _=>noW) Tryz.func12 rfl (by kernel_rfl) Qd Qb (fun w S' _ _=>.cons (Qns w S') (.nil _ _ _)) (Qg 1) (fun _=>[]) (fun x0 h=>by cases h) (fun s ρ w _ _ _=>Qm w _) [] (rpW 3) 400 ?_
 rintro⟨⟨⟨th,does,k,key,x,tog,said,i,v,r,asks,deeds,seen,oc,ov,whn⟩,ma,ca,na,za,md,cd,nd,zd⟩,m,t⟩ W ⟨h0,h1,h2,h3⟩ -
 refine⟨rfl,?_⟩
 dsimp only at h0 h1
 subst h0
 refine Qj (q:=∃(s:WlS),[aP 0 0,aP 1 0]=[aP 0 0,aP 1 0]/\[SB.cells [sI ↑th,sI 1,sI k,sI key,sI x,sI tog,sB said,sI i,sU v,nU 32 r,sS 3 0 5 (List.length asks) ca na,sS 4 0 6 (List.length deeds) cd nd,nU 3 seen,sI oc,sI ov,sI whn] 42,ramB m,wkA ma ca za,wkD md cd zd]=[wkC 3 4 (WkS.w (WlS.s s)) (WlS.s s).3 (WlS.s s).4 (WlS.s s).7 (WlS.s s).8,ramB s.2,wkA (WlS.s s).2 (WlS.s s).3 (WlS.s s).5,wkD (WlS.s s).6 (WlS.s s).7 (WlS.s s).9]/\((WkS.w (WlS.s s)).2=(1:Int)/\(WkS.w (WlS.s s)).1<4/\opOk (WkS.w (WlS.s s)).3 (WkS.w (WlS.s s)).4 (WkS.w (WlS.s s)).5=true/\((WkS.w (WlS.s s)).6=(0:Int)\/(WkS.w (WlS.s s)).6=(1:Int)))/\∀(x_1:Unit),True->endN (Qg (1:Int)) [] (rpW 3) (WlS.mk (WkS.mk (Wk.mk th (1:Int) k key x tog said i v r asks deeds seen oc ov whn) ma ca na za md cd nd zd) m t) (SV.o (aB false)) [wkC 3 4 (WSt.w (sayP (WlS.z s))) (WlS.s s).3 (WlS.s s).4 (WlS.s s).7 (WlS.s s).8,ramB (sayP (WlS.z s)).2,stoB (WlS.t (WlS.mk (WkS.mk (Wk.mk th (1:Int) k key x tog said i v r asks deeds seen oc ov whn) ma ca na za md cd nd zd) m t)),wkA (WlS.s s).2 (WlS.s s).3 (WlS.s s).5,wkD (WlS.s s).6 (WlS.s s).7 (WlS.s s).9]) (by kernel_rfl) ?_
 obtain⟨-,h5,-,-,-,-⟩:=h3
 have h6:=h5 (by show (1:Int)<=3;decide)
 exact⟨⟨⟨⟨th,1,k,key,x,tog,said,i,v,r,asks,deeds,seen,oc,ov,whn⟩,ma,ca,na,za,md,cd,nd,zd⟩,m,t⟩,rfl,rfl,⟨rfl,h1,h6⟩,fun _ _=>Qu rfl ⟨(sayP ⟨⟨th,1,k,key,x,tog,said,i,v,r,asks,deeds,seen,oc,ov,whn⟩,m,t⟩).w,ma,ca,na,za,md,cd,nd,zd⟩ ⟨⟨rfl,rfl⟩,QX h2 (QeX _)⟩ rfl rfl rfl⟩
theorem Qla:(Con.mem (Qg 2)).holds Tryz.prog 12:=by
 intro w0 S
 refine Qc (Γ:=[(26,.mem (QbJ 2))]) (fun _=>noW) Tryz.func12 rfl (by kernel_rfl) Qd Qb (fun w S' _ _=>.cons (Qnr w S') (.nil _ _ _)) (Qg 2) (fun _=>[]) (fun x0 h=>by cases h) (fun s ρ w _ _ _=>Qm w _) [] (rpW 3) 400 ?_
 rintro⟨⟨⟨th,does,k,key,x,tog,said,i,v,r,asks,deeds,seen,oc,ov,whn⟩,ma,ca,na,za,md,cd,nd,zd⟩,m,t⟩ W ⟨h0,h1,h2,h3⟩ -
 refine⟨rfl,?_⟩
 dsimp only at h0 h1
 subst h0
 refine Qj (q:=∃(s:WlS),[aP 0 0,aP 1 0]=[aP 0 0,aP 1 0]/\[SB.cells [sI ↑th,sI 2,sI k,sI key,sI x,sI tog,sB said,sI i,sU v,nU 32 r,sS 3 0 5 (List.length asks) ca na,sS 4 0 6 (List.length deeds) cd nd,nU 3 seen,sI oc,sI ov,sI whn] 42,ramB m,wkA ma ca za,wkD md cd zd]=[wkC 3 4 (WkS.w (WlS.s s)) (WlS.s s).3 (WlS.s s).4 (WlS.s s).7 (WlS.s s).8,ramB s.2,wkA (WlS.s s).2 (WlS.s s).3 (WlS.s s).5,wkD (WlS.s s).6 (WlS.s s).7 (WlS.s s).9]/\((WkS.w (WlS.s s)).2=(2:Int)/\(WkS.w (WlS.s s)).1<4/\opOk (WkS.w (WlS.s s)).3 (WkS.w (WlS.s s)).4 (WkS.w (WlS.s s)).5=true/\((WkS.w (WlS.s s)).6=(0:Int)\/(WkS.w (WlS.s s)).6=(1:Int)))/\∀(x_1:Unit),True->endN (Qg (2:Int)) [] (rpW 3) (WlS.mk (WkS.mk (Wk.mk th (2:Int) k key x tog said i v r asks deeds seen oc ov whn) ma ca na za md cd nd zd) m t) (SV.o (aB false)) [wkC 3 4 (WSt.w (sayP (WlS.z s))) (WlS.s s).3 (WlS.s s).4 (WlS.s s).7 (WlS.s s).8,ramB (sayP (WlS.z s)).2,stoB (WlS.t (WlS.mk (WkS.mk (Wk.mk th (2:Int) k key x tog said i v r asks deeds seen oc ov whn) ma ca na za md cd nd zd) m t)),wkA (WlS.s s).2 (WlS.s s).3 (WlS.s s).5,wkD (WlS.s s).6 (WlS.s s).7 (WlS.s s).9]) (by kernel_rfl) ?_
 obtain⟨-,h5,-,-,-,-⟩:=h3
 have h6:=h5 (by show (2:Int)<=3;decide)
 exact⟨⟨⟨⟨th,2,k,key,x,tog,said,i,v,r,asks,deeds,seen,oc,ov,whn⟩,ma,ca,na,za,md,cd,nd,zd⟩,m,t⟩,rfl,rfl,⟨rfl,h1,h6⟩,fun _ _=>Qu rfl ⟨(sayP ⟨⟨th,2,k,key,x,tog,said,i,v,r,asks,deeds,seen,oc,ov,whn⟩,m,t⟩).w,ma,ca,na,za,md,cd,nd,zd⟩ ⟨⟨rfl,rfl⟩,QX h2 (QeX _)⟩ rfl rfl rfl⟩
theorem Qk9:(Con.mem (Qg 3)).holds Tryz.prog 12:=by
 intro w0 S
 refine Qc (Γ:=[(26,.mem (QbJ 3))]) (fun _=>noW) Tryz.func12 rfl (by kernel_rfl) Qd Qb (fun w S' _ _=>.cons (Qnq w S') (.nil _ _ _)) (Qg 3) (fun _=>[]) (fun x0 h=>by cases h) (fun s ρ w _ _ _=>Qm w _) [] (rpW 3) 400 ?_
 rintro⟨⟨⟨th,does,k,key,x,tog,said,i,v,r,asks,deeds,seen,oc,ov,whn⟩,ma,ca,na,za,md,cd,nd,zd⟩,m,t⟩ W ⟨h0,h1,h2,h3⟩ -
 refine⟨rfl,?_⟩
 dsimp only at h0 h1
 subst h0
 refine Qj (q:=∃(s:WlS),[aP 0 0,aP 1 0]=[aP 0 0,aP 1 0]/\[SB.cells [sI ↑th,sI 3,sI k,sI key,sI x,sI tog,sB said,sI i,sU v,nU 32 r,sS 3 0 5 (List.length asks) ca na,sS 4 0 6 (List.length deeds) cd nd,nU 3 seen,sI oc,sI ov,sI whn] 42,ramB m,wkA ma ca za,wkD md cd zd]=[wkC 3 4 (WkS.w (WlS.s s)) (WlS.s s).3 (WlS.s s).4 (WlS.s s).7 (WlS.s s).8,ramB s.2,wkA (WlS.s s).2 (WlS.s s).3 (WlS.s s).5,wkD (WlS.s s).6 (WlS.s s).7 (WlS.s s).9]/\((WkS.w (WlS.s s)).2=(3:Int)/\(WkS.w (WlS.s s)).1<4/\opOk (WkS.w (WlS.s s)).3 (WkS.w (WlS.s s)).4 (WkS.w (WlS.s s)).5=true/\((WkS.w (WlS.s s)).6=(0:Int)\/(WkS.w (WlS.s s)).6=(1:Int)))/\∀(x_1:Unit),True->endN (Qg (3:Int)) [] (rpW 3) (WlS.mk (WkS.mk (Wk.mk th (3:Int) k key x tog said i v r asks deeds seen oc ov whn) ma ca na za md cd nd zd) m t) (SV.o (aB false)) [wkC 3 4 (WSt.w (sayP (WlS.z s))) (WlS.s s).3 (WlS.s s).4 (WlS.s s).7 (WlS.s s).8,ramB (sayP (WlS.z s)).2,stoB (WlS.t (WlS.mk (WkS.mk (Wk.mk th (3:Int) k key x tog said i v r asks deeds seen oc ov whn) ma ca na za md cd nd zd) m t)),wkA (WlS.s s).2 (WlS.s s).3 (WlS.s s).5,wkD (WlS.s s).6 (WlS.s s).7 (WlS.s s).9]) (by kernel_rfl) ?_
 obtain⟨-,h5,-,-,-,-⟩:=h3
 have h6:=h5 (by show (3:Int)<=3;decide)
 exact⟨⟨⟨⟨th,3,k,key,x,tog,said,i,v,r,asks,deeds,seen,oc,ov,whn⟩,ma,ca,na,za,md,cd,nd,zd⟩,m,t⟩,rfl,rfl,⟨rfl,h1,h6⟩,fun _ _=>Qu rfl ⟨(sayP ⟨⟨th,3,k,key,x,tog,said,i,v,r,asks,deeds,seen,oc,ov,whn⟩,m,t⟩).w,ma,ca,na,za,md,cd,nd,zd⟩ ⟨⟨rfl,rfl⟩,QX h2 (QeX _)⟩ rfl rfl (l5 rfl rfl (congrArg stoB (sayP_s ⟨⟨th,3,k,key,x,tog,said,i,v,r,asks,deeds,seen,oc,ov,whn⟩,m,t⟩).symm) rfl rfl)⟩
theorem Qk8:(Con.mem (Qg 4)).holds Tryz.prog 12:=by
 intro w0 S
 refine Qc (Γ:=[(27,.mem (Xy 4))]) (fun _=>noW) Tryz.func12 rfl (by kernel_rfl) Qd Qb (fun w S' _ _=>.cons (Qmj w S') (.nil _ _ _)) (Qg 4) (fun _=>[]) (fun x0 h=>by cases h) (fun s ρ w _ _ _=>Qm w _) [] (rpW 3) 400 ?_
 rintro⟨⟨⟨th,does,k,key,x,tog,said,i,v,r,asks,deeds,seen,oc,ov,whn⟩,ma,ca,na,za,md,cd,nd,zd⟩,m,t⟩ W ⟨h0,h1,h2,h3⟩ -
 refine⟨rfl,?_⟩
 dsimp only at h0 h1
 subst h0
 refine Qj (q:=∃(s:WlS),[aP 0 0,aP 1 0,aP 2 0]=[aP 0 0,aP 1 0,aP 2 0]/\[SB.cells [sI ↑th,sI 4,sI k,sI key,sI x,sI tog,sB said,sI i,sU v,nU 32 r,sS 3 0 5 (List.length asks) ca na,sS 4 0 6 (List.length deeds) cd nd,nU 3 seen,sI oc,sI ov,sI whn] 42,ramB m,stoB (WlS.t (WlS.mk (WkS.mk (Wk.mk th (4:Int) k key x tog said i v r asks deeds seen oc ov whn) ma ca na za md cd nd zd) m t)),wkA ma ca za,wkD md cd zd]=[wkC 3 4 (WkS.w (WlS.s s)) (WlS.s s).3 (WlS.s s).4 (WlS.s s).7 (WlS.s s).8,ramB s.2,stoB (WlS.t s),wkA (WlS.s s).2 (WlS.s s).3 (WlS.s s).5,wkD (WlS.s s).6 (WlS.s s).7 (WlS.s s).9]/\((WkS.w (WlS.s s)).2=(4:Int)/\(WkS.w (WlS.s s)).1<4/\((List.length (WkS.w (WlS.s s)).11<=(WlS.s s).2/\(WlS.s s).2<=(WlS.s s).3)/\IsA (WlS.s s).5 (WkS.w (WlS.s s)).11/\(List.length (WkS.w (WlS.s s)).12<=(WlS.s s).6/\(WlS.s s).6<=(WlS.s s).7)/\IsD (WlS.s s).9 (WkS.w (WlS.s s)).12)/\(0:Int)<=(WkS.w (WlS.s s)).8/\(WkS.w (WlS.s s)).8<(32:Int)/\((0:Int)<=(WkS.w (WlS.s s)).9/\(WkS.w (WlS.s s)).9<(18446744073709551616:Int))/\((WkS.w (WlS.s s)).2=(6:Int)->(WkS.w (WlS.s s)).8<(4:Int)/\((0:Int)<=(WkS.w (WlS.s s)).10 26/\(WkS.w (WlS.s s)).10 26<(16:Int))/\((0:Int)<=s.2 (3+2*Int.toNat (WkS.w (WlS.s s)).8)/\s.2 (3+2*Int.toNat (WkS.w (WlS.s s)).8)<=(2:Int))/\Wk.allOK (WlS.s s).1)/\((WkS.w (WlS.s s)).2=(7:Int)->(WkS.w (WlS.s s)).8<(4:Int)/\((0:Int)<=s.2 (2+2*Int.toNat (WkS.w (WlS.s s)).8)/\s.2 (2+2*Int.toNat (WkS.w (WlS.s s)).8)<(18446744073709551616:Int))/\(∃(l:List Ask),∃(a:Ask),(WkS.w (WlS.s s)).11=List.append l [a])/\Wk.allOK (Wk.mk (WkS.w (WlS.s s)).1 (WkS.w (WlS.s s)).2 (WkS.w (WlS.s s)).3 (WkS.w (WlS.s s)).4 (WkS.w (WlS.s s)).5 (WkS.w (WlS.s s)).6 (WkS.w (WlS.s s)).7 (WkS.w (WlS.s s)).8 (WkS.w (WlS.s s)).9 (WkS.w (WlS.s s)).10 (Q9 (WkS.w (WlS.s s)).11 (s.2 (2+2*Int.toNat (WkS.w (WlS.s s)).8)/(281474976710656:Int)%(65536:Int)) (s.2 (2+2*Int.toNat (WkS.w (WlS.s s)).8)/(4294967296:Int)%(65536:Int)) (s.2 (2+2*Int.toNat (WkS.w (WlS.s s)).8)%(4294967296:Int))) (WkS.w (WlS.s s)).12 (WkS.w (WlS.s s)).13 (WkS.w (WlS.s s)).14 (WkS.w (WlS.s s)).15 (WkS.w (WlS.s s)).16)))/\∀(x_1:WkS),Wk.sim x_1.1 (Xt (WlS.z s)).1/\(List.length (WkS.w x_1).11<=x_1.2/\x_1.2<=x_1.3)/\IsA x_1.5 (WkS.w x_1).11/\(List.length (WkS.w x_1).12<=x_1.6/\x_1.6<=x_1.7)/\IsD x_1.9 (WkS.w x_1).12->endN (Qg (4:Int)) [] (rpW 3) (WlS.mk (WkS.mk (Wk.mk th (4:Int) k key x tog said i v r asks deeds seen oc ov whn) ma ca na za md cd nd zd) m t) (SV.o (aB false)) [wkC 5 6 (WkS.w x_1) x_1.3 x_1.4 x_1.7 x_1.8,ramB s.2,stoB (WlS.t s),SB.gone,SB.gone,wkA x_1.2 x_1.3 x_1.5,wkD x_1.6 x_1.7 x_1.9]) (by kernel_rfl) ?_
 obtain⟨-,-,h5,-⟩:=h3
 refine⟨⟨⟨⟨th,4,k,key,x,tog,said,i,v,r,asks,deeds,seen,oc,ov,whn⟩,ma,ca,na,za,md,cd,nd,zd⟩,m,t⟩,rfl,rfl,⟨rfl,h1,h2,h5 ⟨by show (4:Int)<=4;decide,by show (4:Int)<=7;decide⟩⟩,?_⟩
 rintro⟨w2,ma2,ca2,na2,za2,md2,cd2,nd2,zd2⟩ ⟨hs,hg2⟩
 exact Qu rfl ⟨w2,ma2,ca2,na2,za2,md2,cd2,nd2,zd2⟩ ⟨hs,hg2⟩ rfl rfl rfl
theorem Qk7:(Con.mem (Qg 5)).holds Tryz.prog 12:=by
 intro w0 S
 refine Qc (Γ:=[(27,.mem (Xy 5))]) (fun _=>noW) Tryz.func12 rfl (by kernel_rfl) Qd Qb (fun w S' _ _=>.cons (Qmi w S') (.nil _ _ _)) (Qg 5) (fun _=>[]) (fun x0 h=>by cases h) (fun s ρ w _ _ _=>Qm w _) [] (rpW 3) 400 ?_
 rintro⟨⟨⟨th,does,k,key,x,tog,said,i,v,r,asks,deeds,seen,oc,ov,whn⟩,ma,ca,na,za,md,cd,nd,zd⟩,m,t⟩ W ⟨h0,h1,h2,h3⟩ -
 refine⟨rfl,?_⟩
 dsimp only at h0 h1
 subst h0
 refine Qj (q:=∃(s:WlS),[aP 0 0,aP 1 0,aP 2 0]=[aP 0 0,aP 1 0,aP 2 0]/\[SB.cells [sI ↑th,sI 5,sI k,sI key,sI x,sI tog,sB said,sI i,sU v,nU 32 r,sS 3 0 5 (List.length asks) ca na,sS 4 0 6 (List.length deeds) cd nd,nU 3 seen,sI oc,sI ov,sI whn] 42,ramB m,stoB (WlS.t (WlS.mk (WkS.mk (Wk.mk th (5:Int) k key x tog said i v r asks deeds seen oc ov whn) ma ca na za md cd nd zd) m t)),wkA ma ca za,wkD md cd zd]=[wkC 3 4 (WkS.w (WlS.s s)) (WlS.s s).3 (WlS.s s).4 (WlS.s s).7 (WlS.s s).8,ramB s.2,stoB (WlS.t s),wkA (WlS.s s).2 (WlS.s s).3 (WlS.s s).5,wkD (WlS.s s).6 (WlS.s s).7 (WlS.s s).9]/\((WkS.w (WlS.s s)).2=(5:Int)/\(WkS.w (WlS.s s)).1<4/\((List.length (WkS.w (WlS.s s)).11<=(WlS.s s).2/\(WlS.s s).2<=(WlS.s s).3)/\IsA (WlS.s s).5 (WkS.w (WlS.s s)).11/\(List.length (WkS.w (WlS.s s)).12<=(WlS.s s).6/\(WlS.s s).6<=(WlS.s s).7)/\IsD (WlS.s s).9 (WkS.w (WlS.s s)).12)/\(0:Int)<=(WkS.w (WlS.s s)).8/\(WkS.w (WlS.s s)).8<(32:Int)/\((0:Int)<=(WkS.w (WlS.s s)).9/\(WkS.w (WlS.s s)).9<(18446744073709551616:Int))/\((WkS.w (WlS.s s)).2=(6:Int)->(WkS.w (WlS.s s)).8<(4:Int)/\((0:Int)<=(WkS.w (WlS.s s)).10 26/\(WkS.w (WlS.s s)).10 26<(16:Int))/\((0:Int)<=s.2 (3+2*Int.toNat (WkS.w (WlS.s s)).8)/\s.2 (3+2*Int.toNat (WkS.w (WlS.s s)).8)<=(2:Int))/\Wk.allOK (WlS.s s).1)/\((WkS.w (WlS.s s)).2=(7:Int)->(WkS.w (WlS.s s)).8<(4:Int)/\((0:Int)<=s.2 (2+2*Int.toNat (WkS.w (WlS.s s)).8)/\s.2 (2+2*Int.toNat (WkS.w (WlS.s s)).8)<(18446744073709551616:Int))/\(∃(l:List Ask),∃(a:Ask),(WkS.w (WlS.s s)).11=List.append l [a])/\Wk.allOK (Wk.mk (WkS.w (WlS.s s)).1 (WkS.w (WlS.s s)).2 (WkS.w (WlS.s s)).3 (WkS.w (WlS.s s)).4 (WkS.w (WlS.s s)).5 (WkS.w (WlS.s s)).6 (WkS.w (WlS.s s)).7 (WkS.w (WlS.s s)).8 (WkS.w (WlS.s s)).9 (WkS.w (WlS.s s)).10 (Q9 (WkS.w (WlS.s s)).11 (s.2 (2+2*Int.toNat (WkS.w (WlS.s s)).8)/(281474976710656:Int)%(65536:Int)) (s.2 (2+2*Int.toNat (WkS.w (WlS.s s)).8)/(4294967296:Int)%(65536:Int)) (s.2 (2+2*Int.toNat (WkS.w (WlS.s s)).8)%(4294967296:Int))) (WkS.w (WlS.s s)).12 (WkS.w (WlS.s s)).13 (WkS.w (WlS.s s)).14 (WkS.w (WlS.s s)).15 (WkS.w (WlS.s s)).16)))/\∀(x_1:WkS),Wk.sim x_1.1 (Xt (WlS.z s)).1/\(List.length (WkS.w x_1).11<=x_1.2/\x_1.2<=x_1.3)/\IsA x_1.5 (WkS.w x_1).11/\(List.length (WkS.w x_1).12<=x_1.6/\x_1.6<=x_1.7)/\IsD x_1.9 (WkS.w x_1).12->endN (Qg (5:Int)) [] (rpW 3) (WlS.mk (WkS.mk (Wk.mk th (5:Int) k key x tog said i v r asks deeds seen oc ov whn) ma ca na za md cd nd zd) m t) (SV.o (aB false)) [wkC 5 6 (WkS.w x_1) x_1.3 x_1.4 x_1.7 x_1.8,ramB s.2,stoB (WlS.t s),SB.gone,SB.gone,wkA x_1.2 x_1.3 x_1.5,wkD x_1.6 x_1.7 x_1.9]) (by kernel_rfl) ?_
 obtain⟨-,-,h5,-⟩:=h3
 refine⟨⟨⟨⟨th,5,k,key,x,tog,said,i,v,r,asks,deeds,seen,oc,ov,whn⟩,ma,ca,na,za,md,cd,nd,zd⟩,m,t⟩,rfl,rfl,⟨rfl,h1,h2,h5 ⟨by show (4:Int)<=5;decide,by show (5:Int)<=7;decide⟩⟩,?_⟩
 rintro⟨w2,ma2,ca2,na2,za2,md2,cd2,nd2,zd2⟩ ⟨hs,hg2⟩
 exact Qu rfl ⟨w2,ma2,ca2,na2,za2,md2,cd2,nd2,zd2⟩ ⟨hs,hg2⟩ rfl rfl rfl
theorem Qk6:(Con.mem (Qg 6)).holds Tryz.prog 12:=by
 intro w0 S
 refine Qc (Γ:=[(27,.mem (Xy 6))]) (fun _=>noW) Tryz.func12 rfl (by kernel_rfl) Qd Qb (fun w S' _ _=>.cons (Qmh w S') (.nil _ _ _)) (Qg 6) (fun _=>[]) (fun x0 h=>by cases h) (fun s ρ w _ _ _=>Qm w _) [] (rpW 3) 400 ?_
 rintro⟨⟨⟨th,does,k,key,x,tog,said,i,v,r,asks,deeds,seen,oc,ov,whn⟩,ma,ca,na,za,md,cd,nd,zd⟩,m,t⟩ W ⟨h0,h1,h2,h3⟩ -
 refine⟨rfl,?_⟩
 dsimp only at h0 h1
 subst h0
 refine Qj (q:=∃(s:WlS),[aP 0 0,aP 1 0,aP 2 0]=[aP 0 0,aP 1 0,aP 2 0]/\[SB.cells [sI ↑th,sI 6,sI k,sI key,sI x,sI tog,sB said,sI i,sU v,nU 32 r,sS 3 0 5 (List.length asks) ca na,sS 4 0 6 (List.length deeds) cd nd,nU 3 seen,sI oc,sI ov,sI whn] 42,ramB m,stoB (WlS.t (WlS.mk (WkS.mk (Wk.mk th (6:Int) k key x tog said i v r asks deeds seen oc ov whn) ma ca na za md cd nd zd) m t)),wkA ma ca za,wkD md cd zd]=[wkC 3 4 (WkS.w (WlS.s s)) (WlS.s s).3 (WlS.s s).4 (WlS.s s).7 (WlS.s s).8,ramB s.2,stoB (WlS.t s),wkA (WlS.s s).2 (WlS.s s).3 (WlS.s s).5,wkD (WlS.s s).6 (WlS.s s).7 (WlS.s s).9]/\((WkS.w (WlS.s s)).2=(6:Int)/\(WkS.w (WlS.s s)).1<4/\((List.length (WkS.w (WlS.s s)).11<=(WlS.s s).2/\(WlS.s s).2<=(WlS.s s).3)/\IsA (WlS.s s).5 (WkS.w (WlS.s s)).11/\(List.length (WkS.w (WlS.s s)).12<=(WlS.s s).6/\(WlS.s s).6<=(WlS.s s).7)/\IsD (WlS.s s).9 (WkS.w (WlS.s s)).12)/\(0:Int)<=(WkS.w (WlS.s s)).8/\(WkS.w (WlS.s s)).8<(32:Int)/\((0:Int)<=(WkS.w (WlS.s s)).9/\(WkS.w (WlS.s s)).9<(18446744073709551616:Int))/\((WkS.w (WlS.s s)).2=(6:Int)->(WkS.w (WlS.s s)).8<(4:Int)/\((0:Int)<=(WkS.w (WlS.s s)).10 26/\(WkS.w (WlS.s s)).10 26<(16:Int))/\((0:Int)<=s.2 (3+2*Int.toNat (WkS.w (WlS.s s)).8)/\s.2 (3+2*Int.toNat (WkS.w (WlS.s s)).8)<=(2:Int))/\Wk.allOK (WlS.s s).1)/\((WkS.w (WlS.s s)).2=(7:Int)->(WkS.w (WlS.s s)).8<(4:Int)/\((0:Int)<=s.2 (2+2*Int.toNat (WkS.w (WlS.s s)).8)/\s.2 (2+2*Int.toNat (WkS.w (WlS.s s)).8)<(18446744073709551616:Int))/\(∃(l:List Ask),∃(a:Ask),(WkS.w (WlS.s s)).11=List.append l [a])/\Wk.allOK (Wk.mk (WkS.w (WlS.s s)).1 (WkS.w (WlS.s s)).2 (WkS.w (WlS.s s)).3 (WkS.w (WlS.s s)).4 (WkS.w (WlS.s s)).5 (WkS.w (WlS.s s)).6 (WkS.w (WlS.s s)).7 (WkS.w (WlS.s s)).8 (WkS.w (WlS.s s)).9 (WkS.w (WlS.s s)).10 (Q9 (WkS.w (WlS.s s)).11 (s.2 (2+2*Int.toNat (WkS.w (WlS.s s)).8)/(281474976710656:Int)%(65536:Int)) (s.2 (2+2*Int.toNat (WkS.w (WlS.s s)).8)/(4294967296:Int)%(65536:Int)) (s.2 (2+2*Int.toNat (WkS.w (WlS.s s)).8)%(4294967296:Int))) (WkS.w (WlS.s s)).12 (WkS.w (WlS.s s)).13 (WkS.w (WlS.s s)).14 (WkS.w (WlS.s s)).15 (WkS.w (WlS.s s)).16)))/\∀(x_1:WkS),Wk.sim x_1.1 (Xt (WlS.z s)).1/\(List.length (WkS.w x_1).11<=x_1.2/\x_1.2<=x_1.3)/\IsA x_1.5 (WkS.w x_1).11/\(List.length (WkS.w x_1).12<=x_1.6/\x_1.6<=x_1.7)/\IsD x_1.9 (WkS.w x_1).12->endN (Qg (6:Int)) [] (rpW 3) (WlS.mk (WkS.mk (Wk.mk th (6:Int) k key x tog said i v r asks deeds seen oc ov whn) ma ca na za md cd nd zd) m t) (SV.o (aB false)) [wkC 5 6 (WkS.w x_1) x_1.3 x_1.4 x_1.7 x_1.8,ramB s.2,stoB (WlS.t s),SB.gone,SB.gone,wkA x_1.2 x_1.3 x_1.5,wkD x_1.6 x_1.7 x_1.9]) (by kernel_rfl) ?_
 obtain⟨-,-,h5,-⟩:=h3
 refine⟨⟨⟨⟨th,6,k,key,x,tog,said,i,v,r,asks,deeds,seen,oc,ov,whn⟩,ma,ca,na,za,md,cd,nd,zd⟩,m,t⟩,rfl,rfl,⟨rfl,h1,h2,h5 ⟨by show (4:Int)<=6;decide,by show (6:Int)<=7;decide⟩⟩,?_⟩
 rintro⟨w2,ma2,ca2,na2,za2,md2,cd2,nd2,zd2⟩ ⟨hs,hg2⟩
 exact Qu rfl ⟨w2,ma2,ca2,na2,za2,md2,cd2,nd2,zd2⟩ ⟨hs,hg2⟩ rfl rfl (l5 rfl (congrArg ramB (Qi6 ⟨⟨th,6,k,key,x,tog,said,i,v,r,asks,deeds,seen,oc,ov,whn⟩,m,t⟩).1.symm) (congrArg stoB (Qi6 ⟨⟨th,6,k,key,x,tog,said,i,v,r,asks,deeds,seen,oc,ov,whn⟩,m,t⟩).2.symm) rfl rfl)
theorem Qk5:(Con.mem (Qg 7)).holds Tryz.prog 12:=by
 intro w0 S
 refine Qc (Γ:=[(27,.mem (Xy 7))]) (fun _=>noW) Tryz.func12 rfl (by kernel_rfl) Qd Qb (fun w S' _ _=>.cons (Qmg w S') (.nil _ _ _)) (Qg 7) (fun _=>[]) (fun x0 h=>by cases h) (fun s ρ w _ _ _=>Qm w _) [] (rpW 3) 400 ?_
 rintro⟨⟨⟨th,does,k,key,x,tog,said,i,v,r,asks,deeds,seen,oc,ov,whn⟩,ma,ca,na,za,md,cd,nd,zd⟩,m,t⟩ W ⟨h0,h1,h2,h3⟩ -
 refine⟨rfl,?_⟩
 dsimp only at h0 h1
 subst h0
 refine Qj (q:=∃(s:WlS),[aP 0 0,aP 1 0,aP 2 0]=[aP 0 0,aP 1 0,aP 2 0]/\[SB.cells [sI ↑th,sI 7,sI k,sI key,sI x,sI tog,sB said,sI i,sU v,nU 32 r,sS 3 0 5 (List.length asks) ca na,sS 4 0 6 (List.length deeds) cd nd,nU 3 seen,sI oc,sI ov,sI whn] 42,ramB m,stoB (WlS.t (WlS.mk (WkS.mk (Wk.mk th (7:Int) k key x tog said i v r asks deeds seen oc ov whn) ma ca na za md cd nd zd) m t)),wkA ma ca za,wkD md cd zd]=[wkC 3 4 (WkS.w (WlS.s s)) (WlS.s s).3 (WlS.s s).4 (WlS.s s).7 (WlS.s s).8,ramB s.2,stoB (WlS.t s),wkA (WlS.s s).2 (WlS.s s).3 (WlS.s s).5,wkD (WlS.s s).6 (WlS.s s).7 (WlS.s s).9]/\((WkS.w (WlS.s s)).2=(7:Int)/\(WkS.w (WlS.s s)).1<4/\((List.length (WkS.w (WlS.s s)).11<=(WlS.s s).2/\(WlS.s s).2<=(WlS.s s).3)/\IsA (WlS.s s).5 (WkS.w (WlS.s s)).11/\(List.length (WkS.w (WlS.s s)).12<=(WlS.s s).6/\(WlS.s s).6<=(WlS.s s).7)/\IsD (WlS.s s).9 (WkS.w (WlS.s s)).12)/\(0:Int)<=(WkS.w (WlS.s s)).8/\(WkS.w (WlS.s s)).8<(32:Int)/\((0:Int)<=(WkS.w (WlS.s s)).9/\(WkS.w (WlS.s s)).9<(18446744073709551616:Int))/\((WkS.w (WlS.s s)).2=(6:Int)->(WkS.w (WlS.s s)).8<(4:Int)/\((0:Int)<=(WkS.w (WlS.s s)).10 26/\(WkS.w (WlS.s s)).10 26<(16:Int))/\((0:Int)<=s.2 (3+2*Int.toNat (WkS.w (WlS.s s)).8)/\s.2 (3+2*Int.toNat (WkS.w (WlS.s s)).8)<=(2:Int))/\Wk.allOK (WlS.s s).1)/\((WkS.w (WlS.s s)).2=(7:Int)->(WkS.w (WlS.s s)).8<(4:Int)/\((0:Int)<=s.2 (2+2*Int.toNat (WkS.w (WlS.s s)).8)/\s.2 (2+2*Int.toNat (WkS.w (WlS.s s)).8)<(18446744073709551616:Int))/\(∃(l:List Ask),∃(a:Ask),(WkS.w (WlS.s s)).11=List.append l [a])/\Wk.allOK (Wk.mk (WkS.w (WlS.s s)).1 (WkS.w (WlS.s s)).2 (WkS.w (WlS.s s)).3 (WkS.w (WlS.s s)).4 (WkS.w (WlS.s s)).5 (WkS.w (WlS.s s)).6 (WkS.w (WlS.s s)).7 (WkS.w (WlS.s s)).8 (WkS.w (WlS.s s)).9 (WkS.w (WlS.s s)).10 (Q9 (WkS.w (WlS.s s)).11 (s.2 (2+2*Int.toNat (WkS.w (WlS.s s)).8)/(281474976710656:Int)%(65536:Int)) (s.2 (2+2*Int.toNat (WkS.w (WlS.s s)).8)/(4294967296:Int)%(65536:Int)) (s.2 (2+2*Int.toNat (WkS.w (WlS.s s)).8)%(4294967296:Int))) (WkS.w (WlS.s s)).12 (WkS.w (WlS.s s)).13 (WkS.w (WlS.s s)).14 (WkS.w (WlS.s s)).15 (WkS.w (WlS.s s)).16)))/\∀(x_1:WkS),Wk.sim x_1.1 (Xt (WlS.z s)).1/\(List.length (WkS.w x_1).11<=x_1.2/\x_1.2<=x_1.3)/\IsA x_1.5 (WkS.w x_1).11/\(List.length (WkS.w x_1).12<=x_1.6/\x_1.6<=x_1.7)/\IsD x_1.9 (WkS.w x_1).12->endN (Qg (7:Int)) [] (rpW 3) (WlS.mk (WkS.mk (Wk.mk th (7:Int) k key x tog said i v r asks deeds seen oc ov whn) ma ca na za md cd nd zd) m t) (SV.o (aB false)) [wkC 5 6 (WkS.w x_1) x_1.3 x_1.4 x_1.7 x_1.8,ramB s.2,stoB (WlS.t s),SB.gone,SB.gone,wkA x_1.2 x_1.3 x_1.5,wkD x_1.6 x_1.7 x_1.9]) (by kernel_rfl) ?_
 obtain⟨-,-,h5,-⟩:=h3
 refine⟨⟨⟨⟨th,7,k,key,x,tog,said,i,v,r,asks,deeds,seen,oc,ov,whn⟩,ma,ca,na,za,md,cd,nd,zd⟩,m,t⟩,rfl,rfl,⟨rfl,h1,h2,h5 ⟨by show (4:Int)<=7;decide,by show (7:Int)<=7;decide⟩⟩,?_⟩
 rintro⟨w2,ma2,ca2,na2,za2,md2,cd2,nd2,zd2⟩ ⟨hs,hg2⟩
 exact Qu rfl ⟨w2,ma2,ca2,na2,za2,md2,cd2,nd2,zd2⟩ ⟨hs,hg2⟩ rfl rfl rfl
theorem Qk4:(Con.mem (Qg 8)).holds Tryz.prog 12:=by
 intro w0 S
 refine Qc (Γ:=[(28,.mem (QN 8))]) (fun _=>noW) Tryz.func12 rfl (by kernel_rfl) Qd Qb (fun w S' _ _=>.cons (QlU w S') (.nil _ _ _)) (Qg 8) (fun _=>[]) (fun x0 h=>by cases h) (fun s ρ w _ _ _=>Qm w _) [] (rpW 3) 400 ?_
 rintro⟨⟨⟨th,does,k,key,x,tog,said,i,v,r,asks,deeds,seen,oc,ov,whn⟩,ma,ca,na,za,md,cd,nd,zd⟩,m,t⟩ W ⟨h0,h1,h2,h3⟩ -
 refine⟨rfl,?_⟩
 dsimp only at h0 h1
 subst h0
 refine Qj (q:=∃(s:WlS),[aP 0 0,aP 2 0]=[aP 0 0,aP 2 0]/\[SB.cells [sI ↑th,sI 8,sI k,sI key,sI x,sI tog,sB said,sI i,sU v,nU 32 r,sS 3 0 5 (List.length asks) ca na,sS 4 0 6 (List.length deeds) cd nd,nU 3 seen,sI oc,sI ov,sI whn] 42,stoB (WlS.t (WlS.mk (WkS.mk (Wk.mk th (8:Int) k key x tog said i v r asks deeds seen oc ov whn) ma ca na za md cd nd zd) m t)),wkA ma ca za,wkD md cd zd]=[wkC 3 4 (WkS.w (WlS.s s)) (WlS.s s).3 (WlS.s s).4 (WlS.s s).7 (WlS.s s).8,stoB (WlS.t s),wkA (WlS.s s).2 (WlS.s s).3 (WlS.s s).5,wkD (WlS.s s).6 (WlS.s s).7 (WlS.s s).9]/\((WkS.w (WlS.s s)).2=(8:Int)/\(WkS.w (WlS.s s)).1<4/\((0:Int)<=(WkS.w (WlS.s s)).9/\(WkS.w (WlS.s s)).9<(1000000000:Int))/\((0:Int)<=(WkS.w (WlS.s s)).8/\(WkS.w (WlS.s s)).8<(32:Int)/\((8:Int)=(9:Int)->(WkS.w (WlS.s s)).8<(4:Int)))/\((0:Int)<=(WlS.t s).4/\(WlS.t s).4<(1000000000:Int))/\(0:Int)<=(WlS.t s).5/\(WlS.t s).5<(1000000000:Int))/\∀(x_1:Unit),True->endN (Qg (8:Int)) [] (rpW 3) (WlS.mk (WkS.mk (Wk.mk th (8:Int) k key x tog said i v r asks deeds seen oc ov whn) ma ca na za md cd nd zd) m t) (SV.o (aB false)) [wkC 3 4 (WSt.w (Xf (WlS.z s))) (WlS.s s).3 (WlS.s s).4 (WlS.s s).7 (WlS.s s).8,ramB m,stoB (WSt.s (Xf (WlS.z s))),wkA (WlS.s s).2 (WlS.s s).3 (WlS.s s).5,wkD (WlS.s s).6 (WlS.s s).7 (WlS.s s).9]) (by kernel_rfl) ?_
 obtain⟨-,-,-,h5,-,-⟩:=h3
 have h6:=h5 ⟨by show (8:Int)<=8;decide,by show (8:Int)<=13;decide⟩
 exact⟨⟨⟨⟨th,8,k,key,x,tog,said,i,v,r,asks,deeds,seen,oc,ov,whn⟩,ma,ca,na,za,md,cd,nd,zd⟩,m,t⟩,rfl,rfl,⟨rfl,h1,h6⟩,fun _ _=>Qu rfl ⟨(Xf ⟨⟨th,8,k,key,x,tog,said,i,v,r,asks,deeds,seen,oc,ov,whn⟩,m,t⟩).w,ma,ca,na,za,md,cd,nd,zd⟩ ⟨⟨rfl,rfl⟩,QX h2 (QaZ _)⟩ rfl rfl rfl⟩
theorem Qk3:(Con.mem (Qg 9)).holds Tryz.prog 12:=by
 intro w0 S
 refine Qc (Γ:=[(28,.mem (QN 9))]) (fun _=>noW) Tryz.func12 rfl (by kernel_rfl) Qd Qb (fun w S' _ _=>.cons (QlT w S') (.nil _ _ _)) (Qg 9) (fun _=>[]) (fun x0 h=>by cases h) (fun s ρ w _ _ _=>Qm w _) [] (rpW 3) 400 ?_
 rintro⟨⟨⟨th,does,k,key,x,tog,said,i,v,r,asks,deeds,seen,oc,ov,whn⟩,ma,ca,na,za,md,cd,nd,zd⟩,m,t⟩ W ⟨h0,h1,h2,h3⟩ -
 refine⟨rfl,?_⟩
 dsimp only at h0 h1
 subst h0
 refine Qj (q:=∃(s:WlS),[aP 0 0,aP 2 0]=[aP 0 0,aP 2 0]/\[SB.cells [sI ↑th,sI 9,sI k,sI key,sI x,sI tog,sB said,sI i,sU v,nU 32 r,sS 3 0 5 (List.length asks) ca na,sS 4 0 6 (List.length deeds) cd nd,nU 3 seen,sI oc,sI ov,sI whn] 42,stoB (WlS.t (WlS.mk (WkS.mk (Wk.mk th (9:Int) k key x tog said i v r asks deeds seen oc ov whn) ma ca na za md cd nd zd) m t)),wkA ma ca za,wkD md cd zd]=[wkC 3 4 (WkS.w (WlS.s s)) (WlS.s s).3 (WlS.s s).4 (WlS.s s).7 (WlS.s s).8,stoB (WlS.t s),wkA (WlS.s s).2 (WlS.s s).3 (WlS.s s).5,wkD (WlS.s s).6 (WlS.s s).7 (WlS.s s).9]/\((WkS.w (WlS.s s)).2=(9:Int)/\(WkS.w (WlS.s s)).1<4/\((0:Int)<=(WkS.w (WlS.s s)).9/\(WkS.w (WlS.s s)).9<(1000000000:Int))/\((0:Int)<=(WkS.w (WlS.s s)).8/\(WkS.w (WlS.s s)).8<(32:Int)/\((9:Int)=(9:Int)->(WkS.w (WlS.s s)).8<(4:Int)))/\((0:Int)<=(WlS.t s).4/\(WlS.t s).4<(1000000000:Int))/\(0:Int)<=(WlS.t s).5/\(WlS.t s).5<(1000000000:Int))/\∀(x_1:Unit),True->endN (Qg (9:Int)) [] (rpW 3) (WlS.mk (WkS.mk (Wk.mk th (9:Int) k key x tog said i v r asks deeds seen oc ov whn) ma ca na za md cd nd zd) m t) (SV.o (aB false)) [wkC 3 4 (WSt.w (Xf (WlS.z s))) (WlS.s s).3 (WlS.s s).4 (WlS.s s).7 (WlS.s s).8,ramB m,stoB (WSt.s (Xf (WlS.z s))),wkA (WlS.s s).2 (WlS.s s).3 (WlS.s s).5,wkD (WlS.s s).6 (WlS.s s).7 (WlS.s s).9]) (by kernel_rfl) ?_
 obtain⟨-,-,-,h5,-,-⟩:=h3
 have h6:=h5 ⟨by show (8:Int)<=9;decide,by show (9:Int)<=13;decide⟩
 exact⟨⟨⟨⟨th,9,k,key,x,tog,said,i,v,r,asks,deeds,seen,oc,ov,whn⟩,ma,ca,na,za,md,cd,nd,zd⟩,m,t⟩,rfl,rfl,⟨rfl,h1,h6⟩,fun _ _=>Qu rfl ⟨(Xf ⟨⟨th,9,k,key,x,tog,said,i,v,r,asks,deeds,seen,oc,ov,whn⟩,m,t⟩).w,ma,ca,na,za,md,cd,nd,zd⟩ ⟨⟨rfl,rfl⟩,QX h2 (QaZ _)⟩ rfl rfl rfl⟩
theorem QjL:(Con.mem (Qg 10)).holds Tryz.prog 12:=by
 intro w0 S
 refine Qc (Γ:=[(28,.mem (QN 10))]) (fun _=>noW) Tryz.func12 rfl (by kernel_rfl) Qd Qb (fun w S' _ _=>.cons (Qj7 w S') (.nil _ _ _)) (Qg 10) (fun _=>[]) (fun x0 h=>by cases h) (fun s ρ w _ _ _=>Qm w _) [] (rpW 3) 400 ?_
 rintro⟨⟨⟨th,does,k,key,x,tog,said,i,v,r,asks,deeds,seen,oc,ov,whn⟩,ma,ca,na,za,md,cd,nd,zd⟩,m,t⟩ W ⟨h0,h1,h2,h3⟩ -
 refine⟨rfl,?_⟩
 dsimp only at h0 h1
 subst h0
 refine Qj (q:=∃(s:WlS),[aP 0 0,aP 2 0]=[aP 0 0,aP 2 0]/\[SB.cells [sI ↑th,sI 10,sI k,sI key,sI x,sI tog,sB said,sI i,sU v,nU 32 r,sS 3 0 5 (List.length asks) ca na,sS 4 0 6 (List.length deeds) cd nd,nU 3 seen,sI oc,sI ov,sI whn] 42,stoB (WlS.t (WlS.mk (WkS.mk (Wk.mk th (10:Int) k key x tog said i v r asks deeds seen oc ov whn) ma ca na za md cd nd zd) m t)),wkA ma ca za,wkD md cd zd]=[wkC 3 4 (WkS.w (WlS.s s)) (WlS.s s).3 (WlS.s s).4 (WlS.s s).7 (WlS.s s).8,stoB (WlS.t s),wkA (WlS.s s).2 (WlS.s s).3 (WlS.s s).5,wkD (WlS.s s).6 (WlS.s s).7 (WlS.s s).9]/\((WkS.w (WlS.s s)).2=(10:Int)/\(WkS.w (WlS.s s)).1<4/\((0:Int)<=(WkS.w (WlS.s s)).9/\(WkS.w (WlS.s s)).9<(1000000000:Int))/\((0:Int)<=(WkS.w (WlS.s s)).8/\(WkS.w (WlS.s s)).8<(32:Int)/\((10:Int)=(9:Int)->(WkS.w (WlS.s s)).8<(4:Int)))/\((0:Int)<=(WlS.t s).4/\(WlS.t s).4<(1000000000:Int))/\(0:Int)<=(WlS.t s).5/\(WlS.t s).5<(1000000000:Int))/\∀(x_1:Unit),True->endN (Qg (10:Int)) [] (rpW 3) (WlS.mk (WkS.mk (Wk.mk th (10:Int) k key x tog said i v r asks deeds seen oc ov whn) ma ca na za md cd nd zd) m t) (SV.o (aB false)) [wkC 3 4 (WSt.w (Xf (WlS.z s))) (WlS.s s).3 (WlS.s s).4 (WlS.s s).7 (WlS.s s).8,ramB m,stoB (WSt.s (Xf (WlS.z s))),wkA (WlS.s s).2 (WlS.s s).3 (WlS.s s).5,wkD (WlS.s s).6 (WlS.s s).7 (WlS.s s).9]) (by kernel_rfl) ?_
 obtain⟨-,-,-,h5,-,-⟩:=h3
 have h6:=h5 ⟨by show (8:Int)<=10;decide,by show (10:Int)<=13;decide⟩
 exact⟨⟨⟨⟨th,10,k,key,x,tog,said,i,v,r,asks,deeds,seen,oc,ov,whn⟩,ma,ca,na,za,md,cd,nd,zd⟩,m,t⟩,rfl,rfl,⟨rfl,h1,h6⟩,fun _ _=>Qu rfl ⟨(Xf ⟨⟨th,10,k,key,x,tog,said,i,v,r,asks,deeds,seen,oc,ov,whn⟩,m,t⟩).w,ma,ca,na,za,md,cd,nd,zd⟩ ⟨⟨rfl,rfl⟩,QX h2 (QaZ _)⟩ rfl rfl rfl⟩
theorem QjK:(Con.mem (Qg 11)).holds Tryz.prog 12:=by
 intro w0 S
 refine Qc (Γ:=[(28,.mem (QN 11))]) (fun _=>noW) Tryz.func12 rfl (by kernel_rfl) Qd Qb (fun w S' _ _=>.cons (Qj6 w S') (.nil _ _ _)) (Qg 11) (fun _=>[]) (fun x0 h=>by cases h) (fun s ρ w _ _ _=>Qm w _) [] (rpW 3) 400 ?_
 rintro⟨⟨⟨th,does,k,key,x,tog,said,i,v,r,asks,deeds,seen,oc,ov,whn⟩,ma,ca,na,za,md,cd,nd,zd⟩,m,t⟩ W ⟨h0,h1,h2,h3⟩ -
 refine⟨rfl,?_⟩
 dsimp only at h0 h1
 subst h0
 refine Qj (q:=∃(s:WlS),[aP 0 0,aP 2 0]=[aP 0 0,aP 2 0]/\[SB.cells [sI ↑th,sI 11,sI k,sI key,sI x,sI tog,sB said,sI i,sU v,nU 32 r,sS 3 0 5 (List.length asks) ca na,sS 4 0 6 (List.length deeds) cd nd,nU 3 seen,sI oc,sI ov,sI whn] 42,stoB (WlS.t (WlS.mk (WkS.mk (Wk.mk th (11:Int) k key x tog said i v r asks deeds seen oc ov whn) ma ca na za md cd nd zd) m t)),wkA ma ca za,wkD md cd zd]=[wkC 3 4 (WkS.w (WlS.s s)) (WlS.s s).3 (WlS.s s).4 (WlS.s s).7 (WlS.s s).8,stoB (WlS.t s),wkA (WlS.s s).2 (WlS.s s).3 (WlS.s s).5,wkD (WlS.s s).6 (WlS.s s).7 (WlS.s s).9]/\((WkS.w (WlS.s s)).2=(11:Int)/\(WkS.w (WlS.s s)).1<4/\((0:Int)<=(WkS.w (WlS.s s)).9/\(WkS.w (WlS.s s)).9<(1000000000:Int))/\((0:Int)<=(WkS.w (WlS.s s)).8/\(WkS.w (WlS.s s)).8<(32:Int)/\((11:Int)=(9:Int)->(WkS.w (WlS.s s)).8<(4:Int)))/\((0:Int)<=(WlS.t s).4/\(WlS.t s).4<(1000000000:Int))/\(0:Int)<=(WlS.t s).5/\(WlS.t s).5<(1000000000:Int))/\∀(x_1:Unit),True->endN (Qg (11:Int)) [] (rpW 3) (WlS.mk (WkS.mk (Wk.mk th (11:Int) k key x tog said i v r asks deeds seen oc ov whn) ma ca na za md cd nd zd) m t) (SV.o (aB false)) [wkC 3 4 (WSt.w (Xf (WlS.z s))) (WlS.s s).3 (WlS.s s).4 (WlS.s s).7 (WlS.s s).8,ramB m,stoB (WSt.s (Xf (WlS.z s))),wkA (WlS.s s).2 (WlS.s s).3 (WlS.s s).5,wkD (WlS.s s).6 (WlS.s s).7 (WlS.s s).9]) (by kernel_rfl) ?_
 obtain⟨-,-,-,h5,-,-⟩:=h3
 have h6:=h5 ⟨by show (8:Int)<=11;decide,by show (11:Int)<=13;decide⟩
 exact⟨⟨⟨⟨th,11,k,key,x,tog,said,i,v,r,asks,deeds,seen,oc,ov,whn⟩,ma,ca,na,za,md,cd,nd,zd⟩,m,t⟩,rfl,rfl,⟨rfl,h1,h6⟩,fun _ _=>Qu rfl ⟨(Xf ⟨⟨th,11,k,key,x,tog,said,i,v,r,asks,deeds,seen,oc,ov,whn⟩,m,t⟩).w,ma,ca,na,za,md,cd,nd,zd⟩ ⟨⟨rfl,rfl⟩,QX h2 (QaZ _)⟩ rfl rfl rfl⟩
theorem QjJ:(Con.mem (Qg 12)).holds Tryz.prog 12:=by
 intro w0 S
 refine Qc (Γ:=[(28,.mem (QN 12))]) (fun _=>noW) Tryz.func12 rfl (by kernel_rfl) Qd Qb (fun w S' _ _=>.cons (Qj5 w S') (.nil _ _ _)) (Qg 12) (fun _=>[]) (fun x0 h=>by cases h) (fun s ρ w _ _ _=>Qm w _) [] (rpW 3) 400 ?_
 rintro⟨⟨⟨th,does,k,key,x,tog,said,i,v,r,asks,deeds,seen,oc,ov,whn⟩,ma,ca,na,za,md,cd,nd,zd⟩,m,t⟩ W ⟨h0,h1,h2,h3⟩ -
 refine⟨rfl,?_⟩
 dsimp only at h0 h1
 subst h0
 refine Qj (q:=∃(s:WlS),[aP 0 0,aP 2 0]=[aP 0 0,aP 2 0]/\[SB.cells [sI ↑th,sI 12,sI k,sI key,sI x,sI tog,sB said,sI i,sU v,nU 32 r,sS 3 0 5 (List.length asks) ca na,sS 4 0 6 (List.length deeds) cd nd,nU 3 seen,sI oc,sI ov,sI whn] 42,stoB (WlS.t (WlS.mk (WkS.mk (Wk.mk th (12:Int) k key x tog said i v r asks deeds seen oc ov whn) ma ca na za md cd nd zd) m t)),wkA ma ca za,wkD md cd zd]=[wkC 3 4 (WkS.w (WlS.s s)) (WlS.s s).3 (WlS.s s).4 (WlS.s s).7 (WlS.s s).8,stoB (WlS.t s),wkA (WlS.s s).2 (WlS.s s).3 (WlS.s s).5,wkD (WlS.s s).6 (WlS.s s).7 (WlS.s s).9]/\((WkS.w (WlS.s s)).2=(12:Int)/\(WkS.w (WlS.s s)).1<4/\((0:Int)<=(WkS.w (WlS.s s)).9/\(WkS.w (WlS.s s)).9<(1000000000:Int))/\((0:Int)<=(WkS.w (WlS.s s)).8/\(WkS.w (WlS.s s)).8<(32:Int)/\((12:Int)=(9:Int)->(WkS.w (WlS.s s)).8<(4:Int)))/\((0:Int)<=(WlS.t s).4/\(WlS.t s).4<(1000000000:Int))/\(0:Int)<=(WlS.t s).5/\(WlS.t s).5<(1000000000:Int))/\∀(x_1:Unit),True->endN (Qg (12:Int)) [] (rpW 3) (WlS.mk (WkS.mk (Wk.mk th (12:Int) k key x tog said i v r asks deeds seen oc ov whn) ma ca na za md cd nd zd) m t) (SV.o (aB false)) [wkC 3 4 (WSt.w (Xf (WlS.z s))) (WlS.s s).3 (WlS.s s).4 (WlS.s s).7 (WlS.s s).8,ramB m,stoB (WSt.s (Xf (WlS.z s))),wkA (WlS.s s).2 (WlS.s s).3 (WlS.s s).5,wkD (WlS.s s).6 (WlS.s s).7 (WlS.s s).9]) (by kernel_rfl) ?_
 obtain⟨-,-,-,h5,-,-⟩:=h3
 have h6:=h5 ⟨by show (8:Int)<=12;decide,by show (12:Int)<=13;decide⟩
 exact⟨⟨⟨⟨th,12,k,key,x,tog,said,i,v,r,asks,deeds,seen,oc,ov,whn⟩,ma,ca,na,za,md,cd,nd,zd⟩,m,t⟩,rfl,rfl,⟨rfl,h1,h6⟩,fun _ _=>Qu rfl ⟨(Xf ⟨⟨th,12,k,key,x,tog,said,i,v,r,asks,deeds,seen,oc,ov,whn⟩,m,t⟩).w,ma,ca,na,za,md,cd,nd,zd⟩ ⟨⟨rfl,rfl⟩,QX h2 (QaZ _)⟩ rfl rfl rfl⟩
theorem QjI:(Con.mem (Qg 13)).holds Tryz.prog 12:=by
 intro w0 S
 refine Qc (Γ:=[(28,.mem (QN 13))]) (fun _=>noW) Tryz.func12 rfl (by kernel_rfl) Qd Qb (fun w S' _ _=>.cons (Qj4 w S') (.nil _ _ _)) (Qg 13) (fun _=>[]) (fun x0 h=>by cases h) (fun s ρ w _ _ _=>Qm w _) [] (rpW 3) 400 ?_
 rintro⟨⟨⟨th,does,k,key,x,tog,said,i,v,r,asks,deeds,seen,oc,ov,whn⟩,ma,ca,na,za,md,cd,nd,zd⟩,m,t⟩ W ⟨h0,h1,h2,h3⟩ -
 refine⟨rfl,?_⟩
 dsimp only at h0 h1
 subst h0
 refine Qj (q:=∃(s:WlS),[aP 0 0,aP 2 0]=[aP 0 0,aP 2 0]/\[SB.cells [sI ↑th,sI 13,sI k,sI key,sI x,sI tog,sB said,sI i,sU v,nU 32 r,sS 3 0 5 (List.length asks) ca na,sS 4 0 6 (List.length deeds) cd nd,nU 3 seen,sI oc,sI ov,sI whn] 42,stoB (WlS.t (WlS.mk (WkS.mk (Wk.mk th (13:Int) k key x tog said i v r asks deeds seen oc ov whn) ma ca na za md cd nd zd) m t)),wkA ma ca za,wkD md cd zd]=[wkC 3 4 (WkS.w (WlS.s s)) (WlS.s s).3 (WlS.s s).4 (WlS.s s).7 (WlS.s s).8,stoB (WlS.t s),wkA (WlS.s s).2 (WlS.s s).3 (WlS.s s).5,wkD (WlS.s s).6 (WlS.s s).7 (WlS.s s).9]/\((WkS.w (WlS.s s)).2=(13:Int)/\(WkS.w (WlS.s s)).1<4/\((0:Int)<=(WkS.w (WlS.s s)).9/\(WkS.w (WlS.s s)).9<(1000000000:Int))/\((0:Int)<=(WkS.w (WlS.s s)).8/\(WkS.w (WlS.s s)).8<(32:Int)/\((13:Int)=(9:Int)->(WkS.w (WlS.s s)).8<(4:Int)))/\((0:Int)<=(WlS.t s).4/\(WlS.t s).4<(1000000000:Int))/\(0:Int)<=(WlS.t s).5/\(WlS.t s).5<(1000000000:Int))/\∀(x_1:Unit),True->endN (Qg (13:Int)) [] (rpW 3) (WlS.mk (WkS.mk (Wk.mk th (13:Int) k key x tog said i v r asks deeds seen oc ov whn) ma ca na za md cd nd zd) m t) (SV.o (aB false)) [wkC 3 4 (WSt.w (Xf (WlS.z s))) (WlS.s s).3 (WlS.s s).4 (WlS.s s).7 (WlS.s s).8,ramB m,stoB (WSt.s (Xf (WlS.z s))),wkA (WlS.s s).2 (WlS.s s).3 (WlS.s s).5,wkD (WlS.s s).6 (WlS.s s).7 (WlS.s s).9]) (by kernel_rfl) ?_
 obtain⟨-,-,-,h5,-,-⟩:=h3
 have h6:=h5 ⟨by show (8:Int)<=13;decide,by show (13:Int)<=13;decide⟩
 exact⟨⟨⟨⟨th,13,k,key,x,tog,said,i,v,r,asks,deeds,seen,oc,ov,whn⟩,ma,ca,na,za,md,cd,nd,zd⟩,m,t⟩,rfl,rfl,⟨rfl,h1,h6⟩,fun _ _=>Qu rfl ⟨(Xf ⟨⟨th,13,k,key,x,tog,said,i,v,r,asks,deeds,seen,oc,ov,whn⟩,m,t⟩).w,ma,ca,na,za,md,cd,nd,zd⟩ ⟨⟨rfl,rfl⟩,QX h2 (QaZ _)⟩ rfl rfl rfl⟩
theorem QjH:(Con.mem (Qg 14)).holds Tryz.prog 12:=by
 intro w0 S
 refine Qc (Γ:=[(29,.mem (QaN 14))]) (fun _=>noW) Tryz.func12 rfl (by kernel_rfl) Qd Qb (fun w S' _ _=>.cons (Qkz w S') (.nil _ _ _)) (Qg 14) (fun _=>[]) (fun x0 h=>by cases h) (fun s ρ w _ _ _=>Qm w _) [] (rpW 3) 400 ?_
 rintro⟨⟨⟨th,does,k,key,x,tog,said,i,v,r,asks,deeds,seen,oc,ov,whn⟩,ma,ca,na,za,md,cd,nd,zd⟩,m,t⟩ W ⟨h0,h1,h2,h3⟩ -
 refine⟨rfl,?_⟩
 dsimp only at h0 h1
 subst h0
 refine Qj (q:=∃(s:WlS),[aP 0 0,aP 1 0]=[aP 0 0,aP 1 0]/\[SB.cells [sI ↑th,sI 14,sI k,sI key,sI x,sI tog,sB said,sI i,sU v,nU 32 r,sS 3 0 5 (List.length asks) ca na,sS 4 0 6 (List.length deeds) cd nd,nU 3 seen,sI oc,sI ov,sI whn] 42,ramB m,wkA ma ca za,wkD md cd zd]=[wkC 3 4 (WkS.w (WlS.s s)) (WlS.s s).3 (WlS.s s).4 (WlS.s s).7 (WlS.s s).8,ramB s.2,wkA (WlS.s s).2 (WlS.s s).3 (WlS.s s).5,wkD (WlS.s s).6 (WlS.s s).7 (WlS.s s).9]/\((WkS.w (WlS.s s)).2=(14:Int)/\(0:Int)<=(WkS.w (WlS.s s)).9/\(WkS.w (WlS.s s)).9<(1000000000:Int))/\∀(x_1:Unit),True->endN (Qg (14:Int)) [] (rpW 3) (WlS.mk (WkS.mk (Wk.mk th (14:Int) k key x tog said i v r asks deeds seen oc ov whn) ma ca na za md cd nd zd) m t) (SV.o (aB (XT (WlS.z s)).2)) [wkC 3 4 (WSt.w (Prod.fst (XT (WlS.z s)))) (WlS.s s).3 (WlS.s s).4 (WlS.s s).7 (WlS.s s).8,ramB (Prod.fst (XT (WlS.z s))).2,stoB (WlS.t (WlS.mk (WkS.mk (Wk.mk th (14:Int) k key x tog said i v r asks deeds seen oc ov whn) ma ca na za md cd nd zd) m t)),wkA (WlS.s s).2 (WlS.s s).3 (WlS.s s).5,wkD (WlS.s s).6 (WlS.s s).7 (WlS.s s).9]) (by kernel_rfl) ?_
 obtain⟨-,-,-,-,h5,-⟩:=h3
 have h6:=h5 ⟨by show (14:Int)<=14;decide,by show (14:Int)<=16;decide⟩
 exact⟨⟨⟨⟨th,14,k,key,x,tog,said,i,v,r,asks,deeds,seen,oc,ov,whn⟩,ma,ca,na,za,md,cd,nd,zd⟩,m,t⟩,rfl,rfl,⟨rfl,h6⟩,fun _ _=>Qu rfl ⟨(XT ⟨⟨th,14,k,key,x,tog,said,i,v,r,asks,deeds,seen,oc,ov,whn⟩,m,t⟩).1.w,ma,ca,na,za,md,cd,nd,zd⟩ ⟨⟨rfl,rfl⟩,QX h2 (Qef _)⟩ rfl rfl rfl⟩
theorem QjG:(Con.mem (Qg 15)).holds Tryz.prog 12:=by
 intro w0 S
 refine Qc (Γ:=[(29,.mem (QaN 15))]) (fun _=>noW) Tryz.func12 rfl (by kernel_rfl) Qd Qb (fun w S' _ _=>.cons (Qky w S') (.nil _ _ _)) (Qg 15) (fun _=>[]) (fun x0 h=>by cases h) (fun s ρ w _ _ _=>Qm w _) [] (rpW 3) 400 ?_
 rintro⟨⟨⟨th,does,k,key,x,tog,said,i,v,r,asks,deeds,seen,oc,ov,whn⟩,ma,ca,na,za,md,cd,nd,zd⟩,m,t⟩ W ⟨h0,h1,h2,h3⟩ -
 refine⟨rfl,?_⟩
 dsimp only at h0 h1
 subst h0
 refine Qj (q:=∃(s:WlS),[aP 0 0,aP 1 0]=[aP 0 0,aP 1 0]/\[SB.cells [sI ↑th,sI 15,sI k,sI key,sI x,sI tog,sB said,sI i,sU v,nU 32 r,sS 3 0 5 (List.length asks) ca na,sS 4 0 6 (List.length deeds) cd nd,nU 3 seen,sI oc,sI ov,sI whn] 42,ramB m,wkA ma ca za,wkD md cd zd]=[wkC 3 4 (WkS.w (WlS.s s)) (WlS.s s).3 (WlS.s s).4 (WlS.s s).7 (WlS.s s).8,ramB s.2,wkA (WlS.s s).2 (WlS.s s).3 (WlS.s s).5,wkD (WlS.s s).6 (WlS.s s).7 (WlS.s s).9]/\((WkS.w (WlS.s s)).2=(15:Int)/\(0:Int)<=(WkS.w (WlS.s s)).9/\(WkS.w (WlS.s s)).9<(1000000000:Int))/\∀(x_1:Unit),True->endN (Qg (15:Int)) [] (rpW 3) (WlS.mk (WkS.mk (Wk.mk th (15:Int) k key x tog said i v r asks deeds seen oc ov whn) ma ca na za md cd nd zd) m t) (SV.o (aB (XT (WlS.z s)).2)) [wkC 3 4 (WSt.w (Prod.fst (XT (WlS.z s)))) (WlS.s s).3 (WlS.s s).4 (WlS.s s).7 (WlS.s s).8,ramB (Prod.fst (XT (WlS.z s))).2,stoB (WlS.t (WlS.mk (WkS.mk (Wk.mk th (15:Int) k key x tog said i v r asks deeds seen oc ov whn) ma ca na za md cd nd zd) m t)),wkA (WlS.s s).2 (WlS.s s).3 (WlS.s s).5,wkD (WlS.s s).6 (WlS.s s).7 (WlS.s s).9]) (by kernel_rfl) ?_
 obtain⟨-,-,-,-,h5,-⟩:=h3
 have h6:=h5 ⟨by show (14:Int)<=15;decide,by show (15:Int)<=16;decide⟩
 exact⟨⟨⟨⟨th,15,k,key,x,tog,said,i,v,r,asks,deeds,seen,oc,ov,whn⟩,ma,ca,na,za,md,cd,nd,zd⟩,m,t⟩,rfl,rfl,⟨rfl,h6⟩,fun _ _=>Qu rfl ⟨(XT ⟨⟨th,15,k,key,x,tog,said,i,v,r,asks,deeds,seen,oc,ov,whn⟩,m,t⟩).1.w,ma,ca,na,za,md,cd,nd,zd⟩ ⟨⟨rfl,rfl⟩,QX h2 (Qef _)⟩ rfl rfl rfl⟩
theorem QjF:(Con.mem (Qg 16)).holds Tryz.prog 12:=by
 intro w0 S
 refine Qc (Γ:=[(29,.mem (QaN 16))]) (fun _=>noW) Tryz.func12 rfl (by kernel_rfl) Qd Qb (fun w S' _ _=>.cons (Qkx w S') (.nil _ _ _)) (Qg 16) (fun _=>[]) (fun x0 h=>by cases h) (fun s ρ w _ _ _=>Qm w _) [] (rpW 3) 400 ?_
 rintro⟨⟨⟨th,does,k,key,x,tog,said,i,v,r,asks,deeds,seen,oc,ov,whn⟩,ma,ca,na,za,md,cd,nd,zd⟩,m,t⟩ W ⟨h0,h1,h2,h3⟩ -
 refine⟨rfl,?_⟩
 dsimp only at h0 h1
 subst h0
 refine Qj (q:=∃(s:WlS),[aP 0 0,aP 1 0]=[aP 0 0,aP 1 0]/\[SB.cells [sI ↑th,sI 16,sI k,sI key,sI x,sI tog,sB said,sI i,sU v,nU 32 r,sS 3 0 5 (List.length asks) ca na,sS 4 0 6 (List.length deeds) cd nd,nU 3 seen,sI oc,sI ov,sI whn] 42,ramB m,wkA ma ca za,wkD md cd zd]=[wkC 3 4 (WkS.w (WlS.s s)) (WlS.s s).3 (WlS.s s).4 (WlS.s s).7 (WlS.s s).8,ramB s.2,wkA (WlS.s s).2 (WlS.s s).3 (WlS.s s).5,wkD (WlS.s s).6 (WlS.s s).7 (WlS.s s).9]/\((WkS.w (WlS.s s)).2=(16:Int)/\(0:Int)<=(WkS.w (WlS.s s)).9/\(WkS.w (WlS.s s)).9<(1000000000:Int))/\∀(x_1:Unit),True->endN (Qg (16:Int)) [] (rpW 3) (WlS.mk (WkS.mk (Wk.mk th (16:Int) k key x tog said i v r asks deeds seen oc ov whn) ma ca na za md cd nd zd) m t) (SV.o (aB (XT (WlS.z s)).2)) [wkC 3 4 (WSt.w (Prod.fst (XT (WlS.z s)))) (WlS.s s).3 (WlS.s s).4 (WlS.s s).7 (WlS.s s).8,ramB (Prod.fst (XT (WlS.z s))).2,stoB (WlS.t (WlS.mk (WkS.mk (Wk.mk th (16:Int) k key x tog said i v r asks deeds seen oc ov whn) ma ca na za md cd nd zd) m t)),wkA (WlS.s s).2 (WlS.s s).3 (WlS.s s).5,wkD (WlS.s s).6 (WlS.s s).7 (WlS.s s).9]) (by kernel_rfl) ?_
 obtain⟨-,-,-,-,h5,-⟩:=h3
 have h6:=h5 ⟨by show (14:Int)<=16;decide,by show (16:Int)<=16;decide⟩
 exact⟨⟨⟨⟨th,16,k,key,x,tog,said,i,v,r,asks,deeds,seen,oc,ov,whn⟩,ma,ca,na,za,md,cd,nd,zd⟩,m,t⟩,rfl,rfl,⟨rfl,h6⟩,fun _ _=>Qu rfl ⟨(XT ⟨⟨th,16,k,key,x,tog,said,i,v,r,asks,deeds,seen,oc,ov,whn⟩,m,t⟩).1.w,ma,ca,na,za,md,cd,nd,zd⟩ ⟨⟨rfl,rfl⟩,QX h2 (Qef _)⟩ rfl rfl rfl⟩
theorem QjE:(Con.mem (Qg 17)).holds Tryz.prog 12:=by
 intro w0 S
 refine Qc (Γ:=[(30,.mem (Q4 17))]) (fun _=>noW) Tryz.func12 rfl (by kernel_rfl) Qd Qb (fun w S' _ _=>.cons (Qj0 w S') (.nil _ _ _)) (Qg 17) (fun _=>[]) (fun x0 h=>by cases h) (fun s ρ w _ _ _=>Qm w _) [] (rpW 3) 400 ?_
 rintro⟨⟨⟨th,does,k,key,x,tog,said,i,v,r,asks,deeds,seen,oc,ov,whn⟩,ma,ca,na,za,md,cd,nd,zd⟩,m,t⟩ W ⟨h0,h1,h2,h3⟩ -
 refine⟨rfl,?_⟩
 dsimp only at h0 h1
 subst h0
 refine Qj (q:=∃(s:WlS),[aP 0 0,aP 1 0,aP 2 0]=[aP 0 0,aP 1 0,aP 2 0]/\[SB.cells [sI ↑th,sI 17,sI k,sI key,sI x,sI tog,sB said,sI i,sU v,nU 32 r,sS 3 0 5 (List.length asks) ca na,sS 4 0 6 (List.length deeds) cd nd,nU 3 seen,sI oc,sI ov,sI whn] 42,ramB m,stoB (WlS.t (WlS.mk (WkS.mk (Wk.mk th (17:Int) k key x tog said i v r asks deeds seen oc ov whn) ma ca na za md cd nd zd) m t)),wkA ma ca za,wkD md cd zd]=[wkC 3 4 (WkS.w (WlS.s s)) (WlS.s s).3 (WlS.s s).4 (WlS.s s).7 (WlS.s s).8,ramB s.2,stoB (WlS.t s),wkA (WlS.s s).2 (WlS.s s).3 (WlS.s s).5,wkD (WlS.s s).6 (WlS.s s).7 (WlS.s s).9]/\((WkS.w (WlS.s s)).2=(17:Int)/\(WkS.w (WlS.s s)).1<4/\((0:Int)<=(WkS.w (WlS.s s)).9/\(WkS.w (WlS.s s)).9<(18446744073709551616:Int))/\((0:Int)<=(WkS.w (WlS.s s)).13 0/\(WkS.w (WlS.s s)).13 0<(16:Int))/\((0:Int)<=(WkS.w (WlS.s s)).13 2/\(WkS.w (WlS.s s)).13 2<=(9223372036854775807:Int))/\U64 ((WkS.w (WlS.s s)).13 1)/\((WkS.w (WlS.s s)).2=(21:Int)->s.2 1=(WkS.w (WlS.s s)).9/\Qh ((WkS.w (WlS.s s)).13 0) (WkS.w (WlS.s s)).1=(WkS.w (WlS.s s)).6->Q2 ((WkS.w (WlS.s s)).13 1/(4294967296:Int)%(4294967296:Int)) ((WkS.w (WlS.s s)).13 1%(4294967296:Int))=true\/(WkS.w (WlS.s s)).13 1=(0:Int)))/\∀(x_1:Unit),True->endN (Qg (17:Int)) [] (rpW 3) (WlS.mk (WkS.mk (Wk.mk th (17:Int) k key x tog said i v r asks deeds seen oc ov whn) ma ca na za md cd nd zd) m t) (SV.o (aB (QP (WlS.z s)).2)) [wkC 3 4 (WSt.w (Prod.fst (QP (WlS.z s)))) (WlS.s s).3 (WlS.s s).4 (WlS.s s).7 (WlS.s s).8,ramB (Prod.fst (QP (WlS.z s))).2,stoB (WSt.s (Prod.fst (QP (WlS.z s)))),wkA (WlS.s s).2 (WlS.s s).3 (WlS.s s).5,wkD (WlS.s s).6 (WlS.s s).7 (WlS.s s).9]) (by kernel_rfl) ?_
 obtain⟨-,-,-,-,-,h5⟩:=h3
 have h6:=h5 (by show (17:Int)<=17;decide)
 exact⟨⟨⟨⟨th,17,k,key,x,tog,said,i,v,r,asks,deeds,seen,oc,ov,whn⟩,ma,ca,na,za,md,cd,nd,zd⟩,m,t⟩,rfl,rfl,⟨rfl,h1,h6⟩,fun _ _=>Qu rfl ⟨(QP ⟨⟨th,17,k,key,x,tog,said,i,v,r,asks,deeds,seen,oc,ov,whn⟩,m,t⟩).1.w,ma,ca,na,za,md,cd,nd,zd⟩ ⟨⟨rfl,rfl⟩,QX h2 (QbC _)⟩ rfl rfl rfl⟩
theorem QjD:(Con.mem (Qg 18)).holds Tryz.prog 12:=by
 intro w0 S
 refine Qc (Γ:=[(30,.mem (Q4 18))]) (fun _=>noW) Tryz.func12 rfl (by kernel_rfl) Qd Qb (fun w S' _ _=>.cons (QjZ w S') (.nil _ _ _)) (Qg 18) (fun _=>[]) (fun x0 h=>by cases h) (fun s ρ w _ _ _=>Qm w _) [] (rpW 3) 400 ?_
 rintro⟨⟨⟨th,does,k,key,x,tog,said,i,v,r,asks,deeds,seen,oc,ov,whn⟩,ma,ca,na,za,md,cd,nd,zd⟩,m,t⟩ W ⟨h0,h1,h2,h3⟩ -
 refine⟨rfl,?_⟩
 dsimp only at h0 h1
 subst h0
 refine Qj (q:=∃(s:WlS),[aP 0 0,aP 1 0,aP 2 0]=[aP 0 0,aP 1 0,aP 2 0]/\[SB.cells [sI ↑th,sI 18,sI k,sI key,sI x,sI tog,sB said,sI i,sU v,nU 32 r,sS 3 0 5 (List.length asks) ca na,sS 4 0 6 (List.length deeds) cd nd,nU 3 seen,sI oc,sI ov,sI whn] 42,ramB m,stoB (WlS.t (WlS.mk (WkS.mk (Wk.mk th (18:Int) k key x tog said i v r asks deeds seen oc ov whn) ma ca na za md cd nd zd) m t)),wkA ma ca za,wkD md cd zd]=[wkC 3 4 (WkS.w (WlS.s s)) (WlS.s s).3 (WlS.s s).4 (WlS.s s).7 (WlS.s s).8,ramB s.2,stoB (WlS.t s),wkA (WlS.s s).2 (WlS.s s).3 (WlS.s s).5,wkD (WlS.s s).6 (WlS.s s).7 (WlS.s s).9]/\((WkS.w (WlS.s s)).2=(18:Int)/\(WkS.w (WlS.s s)).1<4/\((0:Int)<=(WkS.w (WlS.s s)).9/\(WkS.w (WlS.s s)).9<(18446744073709551616:Int))/\((0:Int)<=(WkS.w (WlS.s s)).13 0/\(WkS.w (WlS.s s)).13 0<(16:Int))/\((0:Int)<=(WkS.w (WlS.s s)).13 2/\(WkS.w (WlS.s s)).13 2<=(9223372036854775807:Int))/\U64 ((WkS.w (WlS.s s)).13 1)/\((WkS.w (WlS.s s)).2=(21:Int)->s.2 1=(WkS.w (WlS.s s)).9/\Qh ((WkS.w (WlS.s s)).13 0) (WkS.w (WlS.s s)).1=(WkS.w (WlS.s s)).6->Q2 ((WkS.w (WlS.s s)).13 1/(4294967296:Int)%(4294967296:Int)) ((WkS.w (WlS.s s)).13 1%(4294967296:Int))=true\/(WkS.w (WlS.s s)).13 1=(0:Int)))/\∀(x_1:Unit),True->endN (Qg (18:Int)) [] (rpW 3) (WlS.mk (WkS.mk (Wk.mk th (18:Int) k key x tog said i v r asks deeds seen oc ov whn) ma ca na za md cd nd zd) m t) (SV.o (aB (QP (WlS.z s)).2)) [wkC 3 4 (WSt.w (Prod.fst (QP (WlS.z s)))) (WlS.s s).3 (WlS.s s).4 (WlS.s s).7 (WlS.s s).8,ramB (Prod.fst (QP (WlS.z s))).2,stoB (WSt.s (Prod.fst (QP (WlS.z s)))),wkA (WlS.s s).2 (WlS.s s).3 (WlS.s s).5,wkD (WlS.s s).6 (WlS.s s).7 (WlS.s s).9]) (by kernel_rfl) ?_
 obtain⟨-,-,-,-,-,h5⟩:=h3
 have h6:=h5 (by show (17:Int)<=18;decide)
 exact⟨⟨⟨⟨th,18,k,key,x,tog,said,i,v,r,asks,deeds,seen,oc,ov,whn⟩,ma,ca,na,za,md,cd,nd,zd⟩,m,t⟩,rfl,rfl,⟨rfl,h1,h6⟩,fun _ _=>Qu rfl ⟨(QP ⟨⟨th,18,k,key,x,tog,said,i,v,r,asks,deeds,seen,oc,ov,whn⟩,m,t⟩).1.w,ma,ca,na,za,md,cd,nd,zd⟩ ⟨⟨rfl,rfl⟩,QX h2 (QbC _)⟩ rfl rfl rfl⟩
theorem QjC:(Con.mem (Qg 19)).holds Tryz.prog 12:=by
 intro w0 S
 refine Qc (Γ:=[(30,.mem (Q4 19))]) (fun _=>noW) Tryz.func12 rfl (by kernel_rfl) Qd Qb (fun w S' _ _=>.cons (QjY w S') (.nil _ _ _)) (Qg 19) (fun _=>[]) (fun x0 h=>by cases h) (fun s ρ w _ _ _=>Qm w _) [] (rpW 3) 400 ?_
 rintro⟨⟨⟨th,does,k,key,x,tog,said,i,v,r,asks,deeds,seen,oc,ov,whn⟩,ma,ca,na,za,md,cd,nd,zd⟩,m,t⟩ W ⟨h0,h1,h2,h3⟩ -
 refine⟨rfl,?_⟩
 dsimp only at h0 h1
 subst h0
 refine Qj (q:=∃(s:WlS),[aP 0 0,aP 1 0,aP 2 0]=[aP 0 0,aP 1 0,aP 2 0]/\[SB.cells [sI ↑th,sI 19,sI k,sI key,sI x,sI tog,sB said,sI i,sU v,nU 32 r,sS 3 0 5 (List.length asks) ca na,sS 4 0 6 (List.length deeds) cd nd,nU 3 seen,sI oc,sI ov,sI whn] 42,ramB m,stoB (WlS.t (WlS.mk (WkS.mk (Wk.mk th (19:Int) k key x tog said i v r asks deeds seen oc ov whn) ma ca na za md cd nd zd) m t)),wkA ma ca za,wkD md cd zd]=[wkC 3 4 (WkS.w (WlS.s s)) (WlS.s s).3 (WlS.s s).4 (WlS.s s).7 (WlS.s s).8,ramB s.2,stoB (WlS.t s),wkA (WlS.s s).2 (WlS.s s).3 (WlS.s s).5,wkD (WlS.s s).6 (WlS.s s).7 (WlS.s s).9]/\((WkS.w (WlS.s s)).2=(19:Int)/\(WkS.w (WlS.s s)).1<4/\((0:Int)<=(WkS.w (WlS.s s)).9/\(WkS.w (WlS.s s)).9<(18446744073709551616:Int))/\((0:Int)<=(WkS.w (WlS.s s)).13 0/\(WkS.w (WlS.s s)).13 0<(16:Int))/\((0:Int)<=(WkS.w (WlS.s s)).13 2/\(WkS.w (WlS.s s)).13 2<=(9223372036854775807:Int))/\U64 ((WkS.w (WlS.s s)).13 1)/\((WkS.w (WlS.s s)).2=(21:Int)->s.2 1=(WkS.w (WlS.s s)).9/\Qh ((WkS.w (WlS.s s)).13 0) (WkS.w (WlS.s s)).1=(WkS.w (WlS.s s)).6->Q2 ((WkS.w (WlS.s s)).13 1/(4294967296:Int)%(4294967296:Int)) ((WkS.w (WlS.s s)).13 1%(4294967296:Int))=true\/(WkS.w (WlS.s s)).13 1=(0:Int)))/\∀(x_1:Unit),True->endN (Qg (19:Int)) [] (rpW 3) (WlS.mk (WkS.mk (Wk.mk th (19:Int) k key x tog said i v r asks deeds seen oc ov whn) ma ca na za md cd nd zd) m t) (SV.o (aB (QP (WlS.z s)).2)) [wkC 3 4 (WSt.w (Prod.fst (QP (WlS.z s)))) (WlS.s s).3 (WlS.s s).4 (WlS.s s).7 (WlS.s s).8,ramB (Prod.fst (QP (WlS.z s))).2,stoB (WSt.s (Prod.fst (QP (WlS.z s)))),wkA (WlS.s s).2 (WlS.s s).3 (WlS.s s).5,wkD (WlS.s s).6 (WlS.s s).7 (WlS.s s).9]) (by kernel_rfl) ?_
 obtain⟨-,-,-,-,-,h5⟩:=h3
 have h6:=h5 (by show (17:Int)<=19;decide)
 exact⟨⟨⟨⟨th,19,k,key,x,tog,said,i,v,r,asks,deeds,seen,oc,ov,whn⟩,ma,ca,na,za,md,cd,nd,zd⟩,m,t⟩,rfl,rfl,⟨rfl,h1,h6⟩,fun _ _=>Qu rfl ⟨(QP ⟨⟨th,19,k,key,x,tog,said,i,v,r,asks,deeds,seen,oc,ov,whn⟩,m,t⟩).1.w,ma,ca,na,za,md,cd,nd,zd⟩ ⟨⟨rfl,rfl⟩,QX h2 (QbC _)⟩ rfl rfl rfl⟩
theorem QjB:(Con.mem (Qg 20)).holds Tryz.prog 12:=by
 intro w0 S
 refine Qc (Γ:=[(30,.mem (Q4 20))]) (fun _=>noW) Tryz.func12 rfl (by kernel_rfl) Qd Qb (fun w S' _ _=>.cons (QjX w S') (.nil _ _ _)) (Qg 20) (fun _=>[]) (fun x0 h=>by cases h) (fun s ρ w _ _ _=>Qm w _) [] (rpW 3) 400 ?_
 rintro⟨⟨⟨th,does,k,key,x,tog,said,i,v,r,asks,deeds,seen,oc,ov,whn⟩,ma,ca,na,za,md,cd,nd,zd⟩,m,t⟩ W ⟨h0,h1,h2,h3⟩ -
 refine⟨rfl,?_⟩
 dsimp only at h0 h1
 subst h0
 refine Qj (q:=∃(s:WlS),[aP 0 0,aP 1 0,aP 2 0]=[aP 0 0,aP 1 0,aP 2 0]/\[SB.cells [sI ↑th,sI 20,sI k,sI key,sI x,sI tog,sB said,sI i,sU v,nU 32 r,sS 3 0 5 (List.length asks) ca na,sS 4 0 6 (List.length deeds) cd nd,nU 3 seen,sI oc,sI ov,sI whn] 42,ramB m,stoB (WlS.t (WlS.mk (WkS.mk (Wk.mk th (20:Int) k key x tog said i v r asks deeds seen oc ov whn) ma ca na za md cd nd zd) m t)),wkA ma ca za,wkD md cd zd]=[wkC 3 4 (WkS.w (WlS.s s)) (WlS.s s).3 (WlS.s s).4 (WlS.s s).7 (WlS.s s).8,ramB s.2,stoB (WlS.t s),wkA (WlS.s s).2 (WlS.s s).3 (WlS.s s).5,wkD (WlS.s s).6 (WlS.s s).7 (WlS.s s).9]/\((WkS.w (WlS.s s)).2=(20:Int)/\(WkS.w (WlS.s s)).1<4/\((0:Int)<=(WkS.w (WlS.s s)).9/\(WkS.w (WlS.s s)).9<(18446744073709551616:Int))/\((0:Int)<=(WkS.w (WlS.s s)).13 0/\(WkS.w (WlS.s s)).13 0<(16:Int))/\((0:Int)<=(WkS.w (WlS.s s)).13 2/\(WkS.w (WlS.s s)).13 2<=(9223372036854775807:Int))/\U64 ((WkS.w (WlS.s s)).13 1)/\((WkS.w (WlS.s s)).2=(21:Int)->s.2 1=(WkS.w (WlS.s s)).9/\Qh ((WkS.w (WlS.s s)).13 0) (WkS.w (WlS.s s)).1=(WkS.w (WlS.s s)).6->Q2 ((WkS.w (WlS.s s)).13 1/(4294967296:Int)%(4294967296:Int)) ((WkS.w (WlS.s s)).13 1%(4294967296:Int))=true\/(WkS.w (WlS.s s)).13 1=(0:Int)))/\∀(x_1:Unit),True->endN (Qg (20:Int)) [] (rpW 3) (WlS.mk (WkS.mk (Wk.mk th (20:Int) k key x tog said i v r asks deeds seen oc ov whn) ma ca na za md cd nd zd) m t) (SV.o (aB (QP (WlS.z s)).2)) [wkC 3 4 (WSt.w (Prod.fst (QP (WlS.z s)))) (WlS.s s).3 (WlS.s s).4 (WlS.s s).7 (WlS.s s).8,ramB (Prod.fst (QP (WlS.z s))).2,stoB (WSt.s (Prod.fst (QP (WlS.z s)))),wkA (WlS.s s).2 (WlS.s s).3 (WlS.s s).5,wkD (WlS.s s).6 (WlS.s s).7 (WlS.s s).9]) (by kernel_rfl) ?_
 obtain⟨-,-,-,-,-,h5⟩:=h3
 have h6:=h5 (by show (17:Int)<=20;decide)
 exact⟨⟨⟨⟨th,20,k,key,x,tog,said,i,v,r,asks,deeds,seen,oc,ov,whn⟩,ma,ca,na,za,md,cd,nd,zd⟩,m,t⟩,rfl,rfl,⟨rfl,h1,h6⟩,fun _ _=>Qu rfl ⟨(QP ⟨⟨th,20,k,key,x,tog,said,i,v,r,asks,deeds,seen,oc,ov,whn⟩,m,t⟩).1.w,ma,ca,na,za,md,cd,nd,zd⟩ ⟨⟨rfl,rfl⟩,QX h2 (QbC _)⟩ rfl rfl rfl⟩
theorem QjA:(Con.mem (Qg 21)).holds Tryz.prog 12:=by
 intro w0 S
 refine Qc (Γ:=[(30,.mem (Q4 21))]) (fun _=>noW) Tryz.func12 rfl (by kernel_rfl) Qd Qb (fun w S' _ _=>.cons (QjW w S') (.nil _ _ _)) (Qg 21) (fun _=>[]) (fun x0 h=>by cases h) (fun s ρ w _ _ _=>Qm w _) [] (rpW 3) 400 ?_
 rintro⟨⟨⟨th,does,k,key,x,tog,said,i,v,r,asks,deeds,seen,oc,ov,whn⟩,ma,ca,na,za,md,cd,nd,zd⟩,m,t⟩ W ⟨h0,h1,h2,h3⟩ -
 refine⟨rfl,?_⟩
 dsimp only at h0 h1
 subst h0
 refine Qj (q:=∃(s:WlS),[aP 0 0,aP 1 0,aP 2 0]=[aP 0 0,aP 1 0,aP 2 0]/\[SB.cells [sI ↑th,sI 21,sI k,sI key,sI x,sI tog,sB said,sI i,sU v,nU 32 r,sS 3 0 5 (List.length asks) ca na,sS 4 0 6 (List.length deeds) cd nd,nU 3 seen,sI oc,sI ov,sI whn] 42,ramB m,stoB (WlS.t (WlS.mk (WkS.mk (Wk.mk th (21:Int) k key x tog said i v r asks deeds seen oc ov whn) ma ca na za md cd nd zd) m t)),wkA ma ca za,wkD md cd zd]=[wkC 3 4 (WkS.w (WlS.s s)) (WlS.s s).3 (WlS.s s).4 (WlS.s s).7 (WlS.s s).8,ramB s.2,stoB (WlS.t s),wkA (WlS.s s).2 (WlS.s s).3 (WlS.s s).5,wkD (WlS.s s).6 (WlS.s s).7 (WlS.s s).9]/\((WkS.w (WlS.s s)).2=(21:Int)/\(WkS.w (WlS.s s)).1<4/\((0:Int)<=(WkS.w (WlS.s s)).9/\(WkS.w (WlS.s s)).9<(18446744073709551616:Int))/\((0:Int)<=(WkS.w (WlS.s s)).13 0/\(WkS.w (WlS.s s)).13 0<(16:Int))/\((0:Int)<=(WkS.w (WlS.s s)).13 2/\(WkS.w (WlS.s s)).13 2<=(9223372036854775807:Int))/\U64 ((WkS.w (WlS.s s)).13 1)/\((WkS.w (WlS.s s)).2=(21:Int)->s.2 1=(WkS.w (WlS.s s)).9/\Qh ((WkS.w (WlS.s s)).13 0) (WkS.w (WlS.s s)).1=(WkS.w (WlS.s s)).6->Q2 ((WkS.w (WlS.s s)).13 1/(4294967296:Int)%(4294967296:Int)) ((WkS.w (WlS.s s)).13 1%(4294967296:Int))=true\/(WkS.w (WlS.s s)).13 1=(0:Int)))/\∀(x_1:Unit),True->endN (Qg (21:Int)) [] (rpW 3) (WlS.mk (WkS.mk (Wk.mk th (21:Int) k key x tog said i v r asks deeds seen oc ov whn) ma ca na za md cd nd zd) m t) (SV.o (aB (QP (WlS.z s)).2)) [wkC 3 4 (WSt.w (Prod.fst (QP (WlS.z s)))) (WlS.s s).3 (WlS.s s).4 (WlS.s s).7 (WlS.s s).8,ramB (Prod.fst (QP (WlS.z s))).2,stoB (WSt.s (Prod.fst (QP (WlS.z s)))),wkA (WlS.s s).2 (WlS.s s).3 (WlS.s s).5,wkD (WlS.s s).6 (WlS.s s).7 (WlS.s s).9]) (by kernel_rfl) ?_
 obtain⟨-,-,-,-,-,h5⟩:=h3
 have h6:=h5 (by show (17:Int)<=21;decide)
 exact⟨⟨⟨⟨th,21,k,key,x,tog,said,i,v,r,asks,deeds,seen,oc,ov,whn⟩,ma,ca,na,za,md,cd,nd,zd⟩,m,t⟩,rfl,rfl,⟨rfl,h1,h6⟩,fun _ _=>Qu rfl ⟨(QP ⟨⟨th,21,k,key,x,tog,said,i,v,r,asks,deeds,seen,oc,ov,whn⟩,m,t⟩).1.w,ma,ca,na,za,md,cd,nd,zd⟩ ⟨⟨rfl,rfl⟩,QX h2 (QbC _)⟩ rfl rfl rfl⟩
theorem Qnl:(Con.mem QpC).holds Tryz.prog 12:=by
 intro w0 S
 refine⟨(Qg4 w0 S).1,fun x0 h=>absurd h (by intro h;cases h),fun ρ s w hp hk hm=>?_⟩
 have hd:s.s.w.does=0\/s.s.w.does=1\/s.s.w.does=2\/s.s.w.does=3\/s.s.w.does=4\/s.s.w.does=5\/s.s.w.does=6\/s.s.w.does=7\/s.s.w.does=8\/s.s.w.does=9\/s.s.w.does=10\/s.s.w.does=11\/s.s.w.does=12\/s.s.w.does=13\/s.s.w.does=14\/s.s.w.does=15\/s.s.w.does=16\/s.s.w.does=17\/s.s.w.does=18\/s.s.w.does=19\/s.s.w.does=20\/s.s.w.does=21:=by
  have:=hp.2.2.1
  show s.z.w.does=0\/s.z.w.does=1\/s.z.w.does=2\/s.z.w.does=3\/s.z.w.does=4\/s.z.w.does=5\/s.z.w.does=6\/s.z.w.does=7\/s.z.w.does=8\/s.z.w.does=9\/s.z.w.does=10\/s.z.w.does=11\/s.z.w.does=12\/s.z.w.does=13\/s.z.w.does=14\/s.z.w.does=15\/s.z.w.does=16\/s.z.w.does=17\/s.z.w.does=18\/s.z.w.does=19\/s.z.w.does=20\/s.z.w.does=21
  omega
 rcases hd with h|h|h|h|h|h|h|h|h|h|h|h|h|h|h|h|h|h|h|h|h|h
 · exact (Qg4 w0 S).2.2 ρ s w ⟨h,hp⟩ hk hm
 · exact (Qlb w0 S).2.2 ρ s w ⟨h,hp⟩ hk hm
 · exact (Qla w0 S).2.2 ρ s w ⟨h,hp⟩ hk hm
 · exact (Qk9 w0 S).2.2 ρ s w ⟨h,hp⟩ hk hm
 · exact (Qk8 w0 S).2.2 ρ s w ⟨h,hp⟩ hk hm
 · exact (Qk7 w0 S).2.2 ρ s w ⟨h,hp⟩ hk hm
 · exact (Qk6 w0 S).2.2 ρ s w ⟨h,hp⟩ hk hm
 · exact (Qk5 w0 S).2.2 ρ s w ⟨h,hp⟩ hk hm
 · exact (Qk4 w0 S).2.2 ρ s w ⟨h,hp⟩ hk hm
 · exact (Qk3 w0 S).2.2 ρ s w ⟨h,hp⟩ hk hm
 · exact (QjL w0 S).2.2 ρ s w ⟨h,hp⟩ hk hm
 · exact (QjK w0 S).2.2 ρ s w ⟨h,hp⟩ hk hm
 · exact (QjJ w0 S).2.2 ρ s w ⟨h,hp⟩ hk hm
 · exact (QjI w0 S).2.2 ρ s w ⟨h,hp⟩ hk hm
 · exact (QjH w0 S).2.2 ρ s w ⟨h,hp⟩ hk hm
 · exact (QjG w0 S).2.2 ρ s w ⟨h,hp⟩ hk hm
 · exact (QjF w0 S).2.2 ρ s w ⟨h,hp⟩ hk hm
 · exact (QjE w0 S).2.2 ρ s w ⟨h,hp⟩ hk hm
 · exact (QjD w0 S).2.2 ρ s w ⟨h,hp⟩ hk hm
 · exact (QjC w0 S).2.2 ρ s w ⟨h,hp⟩ hk hm
 · exact (QjB w0 S).2.2 ρ s w ⟨h,hp⟩ hk hm
 · exact (QjA w0 S).2.2 ρ s w ⟨h,hp⟩ hk hm
structure QoJ where
 s:WkS
 k:Int
 key:Int
 x:Int
 tog:Int
abbrev nzV:NZ:=.blk 0 42 60 6 [.int .i64,.int .i64,.int .i64,.int .i64,.int .i64,.int .i64]
def Qdh (b:Bool):MCon where
 σ:=QoJ
 χ:=Unit
 pre s:=True
 args s:=[.c (.p 0 0),.a [.one (.v (.int .i64 s.k)),.one (.v (.int .i64 s.key)),.one (.v (.int .i64 s.x))],.c (.v (.int .i64 s.tog)),.c (.v (.bool b))]
 mem s:=[wkC 1 2 s.s.w s.s.ca s.s.na s.s.cd s.s.nd,wkA s.s.ma s.s.ca s.s.za,wkD s.s.md s.s.cd s.s.zd]
 ok s x:=True
 val _ _:=.t []
 mem' s x:=[wkC 1 2 (Wk.call s.s.w.th s.k s.key s.x s.tog b) 0 false 0 false,wkA 0 0 (fun _ _=>0),wkD 0 0 (fun _ _=>0)]
 k:=1
 len:=3
 det:=some ()
 find:=Qb9
theorem QmH:(Con.mem (Qdh false)).holds Tryz.prog 11:=by
 intro w0 S
 refine Qc (Γ:=[]) (fun _=>noW) Tryz.func11 rfl (by kernel_rfl) Qd Qb (fun w S' _ _=>.nil _ _ _) (Qdh false) (fun _=>[]) (fun x0 h s x=>⟨rfl,trivial⟩) (fun s ρ w _ _ _=>Qm w _) [nzW,nzV] (rpW 1) 400 ?_
 rintro⟨⟨w,ma,ca,na,za,md,cd,nd,zd⟩,k1,key1,x1,tog1⟩ W - -
 refine⟨rfl,?_⟩
 refine Qj (q:=dP Tryz.f11 1 4 [⟨9,[],[0],[],false⟩,xF 8 0,xE 7,xE 6,xR 5 3,xR 4 0,xF 3 0,xF 2 0,xF 1 0,xF 0 0]/\endN (Qdh false) [nzW,nzV] (rpW 1) (QoJ.mk (WkS.mk w ma ca na za md cd nd zd) k1 key1 x1 tog1) (SV.t []) [SB.cells [sI (↑w.1:Int),sI 1,sI k1,sI key1,sI x1,sI tog1,sB false,sI 0,sU 0,nU 32 zF,Seg.one (.v (.slice none 0 0)),Seg.one (.v (.slice none 0 0)),nU 3 zF,sI 0,sI 0,sI 0] 42,SB.rows 106 kI5 5 ma ca za,SB.rows 60 kI6 6 md cd zd,SB.cells [sI k1,sI key1,sI x1] 32]) (by kernel_rfl) ?_
 exact⟨Qk (by kernel_rfl),Qu rfl () trivial rfl rfl rfl⟩
theorem QmI:(Con.mem (Qdh true)).holds Tryz.prog 11:=by
 intro w0 S
 refine Qc (Γ:=[]) (fun _=>noW) Tryz.func11 rfl (by kernel_rfl) Qd Qb (fun w S' _ _=>.nil _ _ _) (Qdh true) (fun _=>[]) (fun x0 h s x=>⟨rfl,trivial⟩) (fun s ρ w _ _ _=>Qm w _) [nzW,nzV] (rpW 1) 400 ?_
 rintro⟨⟨w,ma,ca,na,za,md,cd,nd,zd⟩,k1,key1,x1,tog1⟩ W - -
 refine⟨rfl,?_⟩
 refine Qj (q:=dP Tryz.f11 1 4 [⟨9,[],[0],[],false⟩,xF 8 0,xE 7,xE 6,xR 5 3,xR 4 0,xF 3 0,xF 2 0,xF 1 0,xF 0 0]/\endN (Qdh true) [nzW,nzV] (rpW 1) (QoJ.mk (WkS.mk w ma ca na za md cd nd zd) k1 key1 x1 tog1) (SV.t []) [SB.cells [sI (↑w.1:Int),sI 17,sI k1,sI key1,sI x1,sI tog1,sB false,sI 0,sU 0,nU 32 zF,Seg.one (.v (.slice none 0 0)),Seg.one (.v (.slice none 0 0)),nU 3 zF,sI 0,sI 0,sI 0] 42,SB.rows 106 kI5 5 ma ca za,SB.rows 60 kI6 6 md cd zd,SB.cells [sI k1,sI key1,sI x1] 32]) (by kernel_rfl) ?_
 exact⟨Qk (by kernel_rfl),Qu rfl () trivial rfl rfl rfl⟩
abbrev wcA (s:QoJ):Wk:=Wk.call s.s.w.th s.k s.key s.x s.tog true
def QdF:MCon where
 σ:=Unit
 χ:=Unit
 pre _:=True
 args _:=[]
 mem _:=[]
 ok _ _:=True
 val _ _:=.o (.c (.p 0 0))
 mem' _ _:=[stoB Sto.new]
 k:=0
 len:=1
 det:=some ()
 find _ _:=some []
theorem Qjv:(Con.mem QdF).holds Tryz.prog 24:=by
 intro w0 S
 refine Qc (Γ:=[]) (fun _=>noW) Tryz.func24 rfl (by kernel_rfl) Qd Qb (fun w S' _ _=>.nil _ _ _) QdF (fun _=>[]) (fun x0 h s x=>⟨rfl,trivial⟩) (fun s ρ w _ _ _=>Qm w _) [] (fun _ _=>[0]) 400 ?_
 rintro⟨⟩ W - -
 refine⟨rfl,?_⟩
 refine Qj (q:=endN QdF [] (fun (x:SV) (x_1:List SB)=>[0]) PUnit.unit (SV.o (aP 0 0)) [SB.cells [nU 72 zF,nU 72 zF,nB 36 zF,sI 0,sI 0] 85]) (by kernel_rfl) ?_
 exact⟨(),trivial,rfl,rfl⟩
def QgM:MCon where
 σ:=Int
 χ:=Unit
 pre k:=1<=k/\k<=6
 args k:=[.c (.v (.int .i64 k))]
 mem _:=[]
 ok _ _:=True
 val _ _:=.t [.c (.p 0 0),.c (.p 1 0),.c (.v (.bool true))]
 mem' k _:=[ramB (fun _=>0),stoB { Sto.new with now:=Qas k 32 }]
 k:=0
 len:=2
 det:=some ()
 find _ _:=some []
structure LaG where
 i:Nat
 hi:i<=32
def Qm7 (k:Int):Ann where
 σ:=LaG
 I g:=([(7,.o (.c (.p 0 0))),(22,.o (.a [.ints (.int .u64) 32 (fL (Rec.new k).words)])),(23,sv (.int .i64 g.i))],[stoB { Sto.new with now:=Qas k g.i }])
 dec g:=32-g.i
 pi env _:=[blkE env 7]
 nz:=[]
theorem QnX:(Con.mem QgM).holds Tryz.prog 9:=by
 intro w0 S
 refine Qc (Γ:=[(23,.pure Qdg),(24,.mem QdF),(25,.mem Xj)]) (fun _=>noW) Tryz.func9 rfl (by kernel_rfl) Qd Qb (fun w S' _ _=>.cons (Qnv w S') (.cons (Qjv w S') (.cons (XQ w S') (.nil _ _ _)))) QgM (fun k=>[(9,[(0,Qm7 k)])]) (fun x0 h s x=>⟨rfl,trivial⟩) (fun s ρ w _ _ _=>Qm w _) [] (fun v _=>match v with
  |.t [.c (.p b _),.c (.p d _),_]=>[b,d]
  |_=>[]) 400 ?_
 refine fun (k:Int) W hk _=>⟨rfl,?_⟩
 refine Qj (q:=((1:Int)<=k/\k<=(6:Int))/\∃(s:Unit),([]:List SA)=[]/\eN/\True/\∀(x:Unit),True->(∃(s0:Ann.σ (Qm7 k)),(eS (aP 1 0) (aP 1 0)/\eS (SA.a [nU 32 (fL (Rec.words (Rec.new k)))]) (SA.a [nU 32 (fL (Rec.words (Rec.new k)))])/\eS (aI 0) (aI ↑s0.1)/\True)/\[SB.cells [nU 72 Sto.new.1,nU 72 Sto.new.2,nB 36 Sto.new.3,sI 0,sI 0] 85]=[SB.cells [nU 72 (Qas k s0.1),nU 72 Sto.new.2,nB 36 Sto.new.3,sI 0,sI 0] 85])/\∀(s:LaG),bif decide ((↑s.1:Int)<(32:Int))then (iR (↑s.1:Int) (32:Int))/\∃(s_1:Qv),[aP 0 0,aI (IntKind.wrap .i64 ((8:Int)+(↑s.1:Int))),aU (fL (Rec.words (Rec.new k)) (Int.toNat (↑s.1:Int)))]=[aP 0 0,aI s_1.2,aU s_1.3]/\[SB.cells [nU 72 (Qas k s.1),nU 72 Sto.new.2,nB 36 Sto.new.3,sI 0,sI 0] 85]=[SB.cells [nU 72 (Qv.s s_1).1,nU 72 (Qv.s s_1).2,nB 36 (Qv.s s_1).3,sI (Qv.s s_1).4,sI (Qv.s s_1).5] 85]/\(iR s_1.2 (72:Int))/\∀(x:Unit),True->∃(s':LaG),((eS (aP 0 0) (aP 0 0)/\eS (SA.a [nU 32 (fL (Rec.words (Rec.new k)))]) (SA.a [nU 32 (fL (Rec.words (Rec.new k)))])/\eS (aI (IntKind.wrap .i64 ((↑s.1:Int)+(1:Int)))) (aI ↑s'.1)/\True)/\[SB.cells [nU 72 (Sto.save (Qv.s s_1) (Int.toNat (Qv.a s_1)) (Qv.x s_1)).1,nU 72 (Sto.save (Qv.s s_1) (Int.toNat (Qv.a s_1)) (Qv.x s_1)).2,nB 36 (Sto.save (Qv.s s_1) (Int.toNat (Qv.a s_1)) (Qv.x s_1)).3,sI (Sto.save (Qv.s s_1) (Int.toNat (Qv.a s_1)) (Qv.x s_1)).4,sI (Sto.save (Qv.s s_1) (Int.toNat (Qv.a s_1)) (Qv.x s_1)).5] 85]=[SB.cells [nU 72 (Qas k s'.1),nU 72 Sto.new.2,nB 36 Sto.new.3,sI 0,sI 0] 85])/\32-s'.1<32-s.1 else endN QgM [] (fun (v:SV) (x:List SB)=>match v with|SV.t [SA.c (.p b off),SA.c (.p d off_1),head]=>[b,d]|x=>[]) k (SV.t [aP 1 0,aP 0 0,aB true]) [SB.cells [nU 72 (Qas k s.1),nU 72 Sto.new.2,nB 36 Sto.new.3,sI 0,sI 0] 85,SB.cells [nU 16 zF] 72]) (by kernel_rfl) ?_
 refine⟨hk,(),rfl,rfl,trivial,fun _ _=>⟨⟨⟨0,by decide⟩,⟨rfl,rfl,rfl,trivial⟩,?_⟩,?_⟩⟩
 · show _=[SB.cells [_,_,_,_,_] _]
   rw[Qj2];rfl
 rintro⟨i,hi⟩
 dsimp only
 have e:i<32->IntKind.wrap .i64 (8+(i:Int))=((8+i:Nat):Int):=fun h=>by rw[QI (by omega) (by omega)];omega
 refine Qp (fun h=>?_) (fun h=>?_)
 · have h:i<32:=by omega
   rw[e h,Int.toNat_natCast]
   refine⟨⟨by omega,by omega⟩,⟨{ Sto.new with now:=Qas k i },((8+i:Nat):Int),fL (Rec.new k).words i⟩,rfl,rfl,⟨(by omega:(0:Int)<=((8+i:Nat):Int)),(by omega:((8+i:Nat):Int)<72)⟩,fun _ _=>⟨⟨i+1,by omega⟩,⟨⟨rfl,rfl,svI (sucI (by omega)),trivial⟩,?_⟩,by dsimp only;omega⟩⟩
   show [SB.cells [.ints (.int .u64) 72 (putF (Qas k i) (Int.toNat ((8+i:Nat):Int)) (fL (Rec.new k).words i)),_,_,_,_] _]=_
   rw[Int.toNat_natCast,Qj3];rfl
 · obtain rfl:i=32:=by omega
   exact Qu rfl () trivial rfl rfl rfl
end
section
def lgC (k:Int) (l:List Dd):Nat->List Int
 |0=>List.replicate 17 0
 |i+1=>(objR k (lgC k l i) (l.getD i Dd.nil).k (l.getD i Dd.nil).key (l.getD i Dd.nil).x).1
structure LgB (k:Int) (l:List Dd) (i:Nat):Prop where
 op:opOk (l.getD i Dd.nil).k (l.getD i Dd.nil).key (l.getD i Dd.nil).x=true
 c:(objR k (lgC k l i) (l.getD i Dd.nil).k (l.getD i Dd.nil).key (l.getD i Dd.nil).x).2.1=(l.getD i Dd.nil).c
 v:(objR k (lgC k l i) (l.getD i Dd.nil).k (l.getD i Dd.nil).key (l.getD i Dd.nil).x).2.2=(l.getD i Dd.nil).v
def Legal (k:Int) (l:List Dd):Prop:=∀i,i<l.length->LgB k l i
theorem QoQ {k:Int}{l:List Dd}(h1:1<=k) (h6:k<=6) (h:Legal k l):∀i,i<=l.length->Qbl k (lgC k l i)
 |0,_=>Qd7 k h1 h6
 |i+1,hi=>Qid (QoQ h1 h6 h i (by omega)) _ _ _ (h i hi).op
theorem QaC {α:Type}{l m:List α}{d:α}{i:Nat}(h:i<l.length):(l++m).getD i d=l.getD i d:=by
 simp only[List.getD_eq_getElem?_getD,List.getElem?_append_left h]
theorem Qa0 {α:Type}{l m:List α}{d:α}{i:Nat}:(l++m).getD (l.length+i) d=m.getD i d:=by
 simp only[List.getD_eq_getElem?_getD,List.getElem?_append_right (Nat.le_add_right _ _),Nat.add_sub_cancel_left]
theorem QcG (k:Int) (l m:List Dd):∀i,i<=l.length->lgC k (l++m) i=lgC k l i
 |0,_=>rfl
 |i+1,hi=>by simp only[lgC];rw[QcG k l m i (by omega),QaC hi]
theorem LgB.left {k:Int}{l m:List Dd}{i:Nat}(hi:i<l.length) (h:LgB k l i):LgB k (l++m) i:=
 ⟨by rw[QaC hi];exact h.op,by rw[QaC hi,QcG k l m i (by omega)];exact h.c,by rw[QaC hi,QcG k l m i (by omega)];exact h.v⟩
theorem Legal.snoc {k:Int}{l:List Dd}{d:Dd}(h:Legal k l) (ho:opOk d.k d.key d.x=true) (hc:(objR k (lgC k l l.length) d.k d.key d.x).2.1=d.c) (hv:(objR k (lgC k l l.length) d.k d.key d.x).2.2=d.v):
 Legal k (l++[d])/\lgC k (l++[d]) (l++[d]).length=(objR k (lgC k l l.length) d.k d.key d.x).1:=by
 have e:(l++[d]).getD l.length Dd.nil=d:=by have:=Qa0 (l:=l) (m:=[d]) (d:=Dd.nil) (i:=0);rw[Nat.add_zero]at this;exact this
 refine⟨fun i hi=>?_,?_⟩
 · rw[List.length_append,List.length_singleton]at hi
   by_cases h1:i<l.length
   · exact (h i h1).left h1
   · obtain rfl:i=l.length:=by omega
     exact⟨by rw[e];exact ho,by rw[e,QcG k l [d] _ (Nat.le_refl _)];exact hc,by rw[e,QcG k l [d] _ (Nat.le_refl _)];exact hv⟩
 · rw[List.length_append,List.length_singleton]
   simp only[lgC]
   rw[e,QcG k l [d] _ (Nat.le_refl _)]
theorem Qix {B:Int}{r:Rec}{a:Ask}{l:List Dd}(h:RecOK B r) (ha:a.ok) (hl:Legal r.kind l) (hc:lgC r.kind l l.length=r.obj):
 Legal r.kind (l++bDs r a)/\lgC r.kind (l++bDs r a) (l++bDs r a).length=(Xv r a).obj:=by
 unfold bDs Xv
 cases bOpen r a
 · rw[cond_false,cond_false,List.append_nil];exact⟨hl,hc⟩
 · rw[cond_true,cond_true]
   have:=hl.snoc (d:=Qbk r a) ha.2.2 (by rw[hc];rfl) (by rw[hc];rfl)
   refine⟨this.1,this.2.trans ?_⟩
   rw[hc];rfl
theorem QmQ (r:Rec) (a:Ask):(Xv r a).cnt=r.cnt+(bDs r a).length:=by
 unfold Xv bDs
 cases bOpen r a
 · rw[cond_false,cond_false];simp
 · rfl
structure Vd where
 ver:Int
 d:Dd
def Vd.nil:Vd:=⟨0,Dd.nil⟩
structure Ev where
 kind:Int
 t:Int
 k:Int
 key:Int
 x:Int
 c:Int
 v:Int
 whn:Int
 step:Int
def setF {α:Type}(f:Nat->α) (t:Nat) (x:α):Nat->α:=fun i=>bif Nat.beq i t then x else f i
theorem Qf {α:Type}(f:Nat->α) (t:Nat) (x:α):setF f t x t=x:=by unfold setF;rw[Nat.beq_refl t];rfl
theorem QR {α:Type}(f:Nat->α) {t u:Nat}(x:α) (h:u≠t):setF f t x u=f u:=by
 unfold setF
 cases hb:Nat.beq u t
 · rfl
 · exact absurd (Nat.eq_of_beq_eq_true hb) h
structure Sh where
 m:Nat->Int
 s:Sto
 w:Nat->Wk
 tog:Nat->Int
 steps:Int
 hist:List Ev
 deeds:List Vd
def Wk.new (t:Nat):Wk:=⟨t,0,0,0,0,0,false,0,0,fun _=>0,[],[],fun _=>0,0,0,0⟩
def Sh.new (k:Int):Sh:=⟨fun _=>0,{ Sto.new with now:=Qas k 32,good:=Qas k 32 },Wk.new,fun _=>0,0,[],[]⟩
def Sh.called (z:Sh) (t:Nat) (k key x:Int):Sh:={ z with w:=setF z.w t (Wk.call (z.w t).th k key x (1-z.tog t) false),steps:=z.steps+1,hist:=z.hist++[⟨1,t,k,key,x,0,0,0,z.steps+1⟩] }
def Sh.call (z:Sh) (t:Nat) (k key x:Int):Sh:=if (z.w t).does=0/\opOk k key x=true then z.called t k key x else z
def Sh.wst (z:Sh) (t:Nat):WSt:=⟨z.w t,z.m,z.s⟩
def Sh.moved (z:Sh) (t:Nat) (r:WSt):Sh:={ z with m:=r.m,s:=r.s,w:=setF z.w t r.w,steps:=z.steps+1 }
def Sh.counted (z:Sh) (l:List Dd):Sh:={ z with deeds:=z.deeds++l.map (Vd.mk (z.s.now 0)) }
def Sh.answered (z:Sh) (t:Nat) (w:Wk):Sh:={ z with tog:=putF z.tog t w.tog,hist:=z.hist++[⟨2,t,w.k,w.key,w.x,w.oc,w.ov,w.whn,z.steps⟩] }
def Sh.stepped (z:Sh) (t:Nat):Sh:=
 let r:=Qe (z.wst t)
 let z1:=z.moved t r.1
 let z2:=if (z.w t).does=11 then z1.counted r.1.w.deeds else z1
 if r.2 then z2.answered t r.1.w else z2
def Sh.step (z:Sh) (t:Nat):Sh:=if (z.w t).does=0 then z else z.stepped t
def Sh.run (z:Sh) (t:Nat):Nat->Sh
 |0=>z
 |n+1=>(z.step t).run t n
def Sh.ran (z:Sh) (t:Nat):Nat->Nat
 |0=>0
 |n+1=>if (z.w t).does=0 then 0 else (z.step t).ran t n+1
def cntT (t:Nat) (D:List Vd):Nat:=D.countP fun d=>d.d.t==(t:Int)
def LastD (D:List Vd) (t:Nat) (a n:Int):Prop:=
 (cntT t D=0/\a=0/\n=0)\/∃i:Nat,n=(i:Int)+1/\i<D.length/\(D.getD i Vd.nil).d.t=t/\QQ (D.getD i Vd.nil).d.c (D.getD i Vd.nil).d.v/\a=ansW (D.getD i Vd.nil).d.c (D.getD i Vd.nil).d.v/\∀j,i<j->j<D.length->(D.getD j Vd.nil).d.t≠t
structure Sum (K:Int) (R:Rec) (D:List Vd):Prop where
 ok:RecOK D.length R
 kind:R.kind=K
 cnt:R.cnt=D.length
 legal:Legal K (D.map Vd.d)
 obj:lgC K (D.map Vd.d) D.length=R.obj
 th:∀d∈D,d.d.t<4
 each:∀t,t<4->LastD D t (R.ans.getD t 0) (R.whn.getD t 0)
 bit:∀t,t<4->Qh R.tog t=(cntT t D:Int)%2
theorem Sum.new {K:Int}(h1:1<=K) (h6:K<=6):Sum K (Rec.new K) [] where
 ok:=RecOK.new h1 h6
 kind:=rfl
 cnt:=rfl
 legal:=fun i hi=>absurd hi (Nat.not_lt_zero _)
 obj:=rfl
 th:=fun d hd=>by cases hd
 each:=fun t ht=>.inl ⟨rfl,by
  rcases (show t=0\/t=1\/t=2\/t=3 by omega)with rfl|rfl|rfl|rfl<;>exact⟨rfl,rfl⟩⟩
 bit:=fun t ht=>by
  rcases (show t=0\/t=1\/t=2\/t=3 by omega)with rfl|rfl|rfl|rfl<;>rfl
theorem QhH (t:Nat) (D:List Vd) (d:Vd):cntT t (D++[d])=cntT t D+(if d.d.t=t then 1 else 0):=by
 unfold cntT
 rw[List.countP_append,List.countP_singleton]
 by_cases h:d.d.t=t
 · rw[if_pos h,if_pos (by simpa using h)]
 · rw[if_neg h,if_neg (by simpa using h)]
theorem LastD.snoc {D:List Vd}{t:Nat}{a n:Int}(h:LastD D t a n) {d:Vd}(hd:d.d.t≠t):LastD (D++[d]) t a n:=by
 rcases h with⟨h0,h1⟩|⟨i,h1,h2,h3,h4,h5,h6⟩
 · exact .inl ⟨by rw[QhH,h0,if_neg hd],h1⟩
 · have e:(D++[d]).getD i Vd.nil=D.getD i Vd.nil:=QaC h2
   refine .inr ⟨i,h1,by rw[List.length_append];omega,by rw[e];exact h3,by rw[e];exact h4,by rw[e];exact h5,fun j hj hl=>?_⟩
   rcases getD_snoc (d:=Vd.nil) hl with⟨a,b⟩|⟨a,b⟩
   · rw[b];exact h6 j hj a
   · rw[b];exact hd
theorem Sum.snoc {K:Int}{R:Rec}{D:List Vd}(h:Sum K R D) {a:Ask}(ha:a.ok) (ho:bOpen R a=true) (v:Int):Sum K (Xv R a) (D++[⟨v,Qbk R a⟩]):=by
 have e1:Xv R a=R.done a.t a.k a.key a.x:=by unfold Xv;rw[ho];rfl
 have ed:bDs R a=[Qbk R a]:=by unfold bDs;rw[ho];rfl
 have hk:=h.kind
 have hA:=(Qc8 h.ok.ok a.k a.key a.x ha.2.2).1
 have hlen:(D++[(⟨v,Qbk R a⟩:Vd)]).length=D.length+1:=by rw[List.length_append];rfl
 have hc:((D++[(⟨v,Qbk R a⟩:Vd)]).length:Int)=D.length+1:=by rw[hlen];omega
 have hl:=Qix (l:=D.map Vd.d) h.ok ha (by rw[hk];exact h.legal) (by rw[hk,List.length_map];exact h.obj)
 rw[ed,hk]at hl
 have em:(D++[(⟨v,Qbk R a⟩:Vd)]).map Vd.d=D.map Vd.d++[Qbk R a]:=by rw[List.map_append];rfl
 have eg:(D++[(⟨v,Qbk R a⟩:Vd)]).getD D.length Vd.nil=⟨v,Qbk R a⟩:=by
  have:=Qa0 (l:=D) (m:=[(⟨v,Qbk R a⟩:Vd)]) (d:=Vd.nil) (i:=0);rw[Nat.add_zero]at this;exact this
 refine⟨by rw[hc];exact QcR h.ok ha,by rw[QkJ];exact hk,by rw[QmQ,ed,h.cnt,hc];rfl,by rw[em];exact hl.1,?_,fun d hd=>?_,fun t ht=>?_,fun t ht=>?_⟩
 · rw[em]
   have:=hl.2
   rw[List.length_append,List.length_map]at this
   rw[hlen];exact this
 · rcases List.mem_append.1 hd with hd|hd
   · exact h.th d hd
   · obtain rfl:=List.mem_singleton.1 hd;have h1:=ha.1;show (a.t:Int)<4;omega
 · rw[e1]
   show LastD _ t ((R.ans.set a.t _).getD t 0) ((R.whn.set a.t _).getD t 0)
   rw[QaD _ _ _ _ (by rw[h.ok.a4];exact ha.1),QaD _ _ _ _ (by rw[h.ok.w4];exact ha.1)]
   by_cases et:t=a.t
   · rw[if_pos et,if_pos et]
     exact .inr ⟨D.length,by rw[h.cnt],by rw[hlen];omega,by rw[eg];exact congrArg (fun q:Nat=>(q:Int)) et.symm,by rw[eg];exact hA,by rw[eg];rfl,fun j h1 h2=>by omega⟩
   · rw[if_neg et,if_neg et]
     exact (h.each t ht).snoc (fun e=>et (by have e:(a.t:Int)=t:=e;omega))
 · have h1:=QbO h.ok ha t ht
   have h2:=h.bit t ht
   have h3:=h.bit a.t ha.1
   rw[h1,QhH]
   have hb:Qh R.tog a.t≠a.g:=by simpa [bOpen] using ho
   by_cases et:t=a.t
   · subst et
     rw[if_pos rfl]
     show a.g=((cntT a.t D+(if (a.t:Int)=(a.t:Int)then 1 else 0):Nat):Int)%2
     rw[if_pos rfl]
     have:=ha.2.1;omega
   · rw[if_neg et]
     show _=((cntT t D+(if (a.t:Int)=(t:Int)then 1 else 0):Nat):Int)%2
     rw[if_neg (fun e=>et (by omega))];exact h2
theorem Sum.batch {K:Int}(v:Int):∀ {m:List Ask}{R:Rec}{D:List Vd},Sum K R D->AsksOK m->Sum K (bR R m) (D++(bD R m).map (Vd.mk v))
 |[],R,D,h,_=>by simp only[bD,bR,List.map_nil,List.append_nil];exact h
 |a::m,R,D,h,ha=>by
  show Sum K (bR (Xv R a) m) (D++(bDs R a++bD (Xv R a) m).map (Vd.mk v))
  cases ho:bOpen R a
  · have hs:=Qf8 ho
    rw[hs.1,hs.2];exact Sum.batch v h ha.tail
  · have h1:=h.snoc (ha a List.mem_cons_self) ho v
    have ed:bDs R a=[Qbk R a]:=by unfold bDs;rw[ho];rfl
    have:=Sum.batch v (m:=m) h1 ha.tail
    rw[ed,List.map_append,<- List.append_assoc];exact this
theorem Sum.at {K:Int}{R:Rec}{D:List Vd}(h:Sum K R D) {v:Int}(h0:0<=v) (h1:v<=1099511627776):Sum K (R.at v) D:=
 ⟨h.ok.at h0 h1,h.kind,h.cnt,h.legal,h.obj,h.th,h.each,h.bit⟩
theorem QeP:∀ {m:List Ask}{B:Int}{R:Rec},RecOK B R->AsksOK m->∀t,t<4->(∀a∈m,a.t≠t)->(bR R m).ans.getD t 0=R.ans.getD t 0/\(bR R m).whn.getD t 0=R.whn.getD t 0/\Qh (bR R m).tog t=Qh R.tog t
 |[],_,_,_,_,_,_,_=>⟨rfl,rfl,rfl⟩
 |a::m,B,R,h,ha,t,ht,hn=>by
  have h1:=QeP (m:=m) (QcR h (ha a List.mem_cons_self)) ha.tail t ht (fun b hb=>hn b (List.mem_cons_of_mem _ hb))
  have h2:=QbO h (ha a List.mem_cons_self) t ht
  have hne:t≠a.t:=fun e=>hn a List.mem_cons_self e.symm
  rw[if_neg hne]at h2
  have h3:(Xv R a).ans.getD t 0=R.ans.getD t 0/\(Xv R a).whn.getD t 0=R.whn.getD t 0:=by
   unfold Xv
   cases bOpen R a
   · exact⟨rfl,rfl⟩
   · show (R.ans.set a.t _).getD t 0=_/\(R.whn.set a.t _).getD t 0=_
     have ha1:=(ha a List.mem_cons_self).1
     rw[QaD _ _ _ _ (by rw[h.a4];exact ha1),QaD _ _ _ _ (by rw[h.w4];exact ha1),if_neg hne,if_neg hne]
     exact⟨rfl,rfl⟩
  exact⟨h1.1.trans h3.1,h1.2.1.trans h3.2,h1.2.2.trans h2⟩
structure Gh where
 V:Int
 R:Rec
 dv:Int
 Q:Rec
 n:Nat
def HasRec (f:Nat->Int) (v:Int) (R:Rec):Prop:=∀i,i<32->f (Qn v+i)=fL R.words i
def SlotOK (f:Nat->Int) (b:Nat):Prop:=(0<=f (b+26)/\f (b+26)<16)/\∀t,t<4->U64 (f (b+18+t))/\0<=f (b+22+t)/\f (b+22+t)<=9223372036854775807
def SlotsOK (f:Nat->Int):Prop:=SlotOK f 8/\SlotOK f 40
structure Glob (K:Int) (z:Sh) (g:Gh):Prop where
 k1:1<=K
 k6:K<=6
 v0:0<=g.dv
 vd:g.V=g.dv\/g.V=g.dv+1
 now0:z.s.now 0=g.V
 good0:z.s.good 0=g.dv\/z.s.good 0=g.V
 done:z.m 1=g.dv
 same:g.V=g.dv->g.R=g.Q/\g.n=z.deeds.length
 sumR:Sum K g.R z.deeds
 verR:g.R.ver=g.V
 topR:∀d∈z.deeds,d.ver<=g.V
 nle:g.n<=z.deeds.length
 sumQ:Sum K g.Q (z.deeds.take g.n)
 verQ:g.Q.ver=g.dv
 topQ:∀d∈z.deeds.take g.n,d.ver<=g.dv
 lateQ:∀d∈z.deeds.drop g.n,d.ver=g.dv+1
 nowR:HasRec z.s.now g.V g.R
 goodR:HasRec z.s.good g.V g.R
 nowQ:HasRec z.s.now g.dv g.Q
 goodQ:HasRec z.s.good g.dv g.Q
 rNow:SlotsOK z.s.now
 rGood:SlotsOK z.s.good
 vb:g.V<=z.steps
 cb:(z.deeds.length:Int)<=4*z.steps
 fl0:0<=z.s.fl
 fl1:z.s.fl<=z.steps
 fe0:0<=z.s.fe
 fe1:z.s.fe<=z.steps
structure Told (R:Rec) (t:Nat) (w:Wk):Prop where
 bit:Qh R.tog t=w.tog
 ok:QQ w.oc w.ov
 ans:R.ans.getD t 0=ansW w.oc w.ov
 whn:R.whn.getD t 0=w.whn
structure ThB (g:Gh) (t:Nat) (w:Wk) (tg mo ms:Int):Prop where
 th:w.th=t
 d0:0<=w.does
 d21:w.does<=21
 tg01:tg=0\/tg=1
 one:tg=1->g.Q.whn.getD t 0≠0
 v0:0<=w.v
 v1:w.v<=g.dv
 ii:w.does<=4\/10<=w.does->w.i=0
 se0:0<=w.seen 0/\w.seen 0<16
 se1:U64 (w.seen 1)
 se2:0<=w.seen 2/\w.seen 2<=9223372036854775807
 idle:w.does=0->Qh g.R.tog t=tg/\Qh g.Q.tog t=tg/\(ms=0\/ms=tg+1)
 op:w.does≠0->opOk w.k w.key w.x=true
 tog:w.does≠0->w.tog=1-tg
 qr:w.does≠0->Qh g.Q.tog t=w.tog->Qh g.R.tog t=w.tog
 uns:w.does≠0->w.said=false->ms=0\/(ms=tg+1/\Qh g.R.tog t=tg/\Qh g.Q.tog t=tg)
 sai:w.does≠0->w.said=true->ms=w.tog+1/\mo=opW w.k w.key w.x
 two:w.does=2->mo=opW w.k w.key w.x
 s12:w.does=1\/w.does=2->w.said=false
 s3:3<=w.does->w.does<=16->w.said=true
 lk2:19<=w.does->w.v=g.dv->w.seen 0=g.Q.tog
 lk3:20<=w.does->w.v=g.dv->w.seen 1=g.Q.ans.getD t 0
 lk4:21<=w.does->w.v=g.dv->w.seen 2=g.Q.whn.getD t 0
 rep:w.does=16->Told g.Q t w/\Told g.R t w
structure Want (W:Nat->Wk) (R:Rec) (a:Ask):Prop where
 t4:a.t<4
 act:(W a.t).does≠0
 said:(W a.t).said=true
 tog:(W a.t).tog=a.g
 k:(W a.t).k=a.k
 key:(W a.t).key=a.key
 x:(W a.t).x=a.x
 opn:Qh R.tog a.t≠a.g
structure Gath (W:Nat->Wk) (R:Rec) (h:Nat) (l:List Ask) (i:Nat):Prop where
 asc:l.Pairwise (fun a b=>a.t<b.t)
 lt:∀a∈l,a.t<i
 want:∀a∈l,Want W R a
 own:h<i->Qh R.tog h=(W h).tog\/∃a∈l,a.t=h
def Xm (w:Wk):Prop:=4<=w.does/\w.does<=15
structure HoldOK (g:Gh) (h:Nat) (W:Nat->Wk) (s:Sto):Prop where
 ver:(W h).does≠4->(W h).does<=14->(W h).v=g.dv
 low:(W h).does<=11\/(W h).does=15->g.V=g.dv
 mid:12<=(W h).does->(W h).does<=14->g.V=g.dv+1
 i0:(W h).does<=9->0<=(W h).i
 i5:(W h).does=5->(W h).i<32/\(W h).asks=[]/\∀j:Nat,(j:Int)<(W h).i->(W h).r j=fL g.R.words j
 i6:(W h).does=6->(W h).i<4/\(∀j,j<32->(W h).r j=fL g.R.words j)/\Gath W g.R h (W h).asks (W h).i.toNat
 i7:(W h).does=7->(W h).i<4/\(∀j,j<32->(W h).r j=fL g.R.words j)/\∃l,(W h).asks=l++[⟨(W h).i.toNat,(W (W h).i.toNat).tog,0,0,0⟩]/\Gath W g.R h l (W h).i.toNat /\
  (W (W h).i.toNat).does≠0/\(W (W h).i.toNat).said=true/\Qh g.R.tog (W h).i.toNat≠(W (W h).i.toNat).tog
 nx:8<=(W h).does->(W h).does<=11->Gath W g.R h (W h).asks 4/\(W h).deeds=bD g.R (W h).asks/\(∀j,j<32->(W h).r j=fL (bDo g.R (W h).asks).words j)/\Told (bDo g.R (W h).asks) h (W h)
 i8:(W h).does=8->(W h).i<32/\∀j:Nat,(j:Int)<(W h).i->s.now (Qn (g.V+1)+j)=fL (bDo g.R (W h).asks).words j
 i9:(W h).does=9->(W h).i<4/\HasRec s.now (g.V+1) (bDo g.R (W h).asks)/\∀l:Nat,(l:Int)<(W h).i->s.want (9*h+(Qn (g.V+1)/8+l))≠0
 i10:(W h).does=10->HasRec s.now (g.V+1) (bDo g.R (W h).asks)/\∀l:Nat,l<4->s.want (9*h+(Qn (g.V+1)/8+l))≠0
 i11:(W h).does=11->HasRec s.now (g.V+1) (bDo g.R (W h).asks)/\HasRec s.good (g.V+1) (bDo g.R (W h).asks)
 told:12<=(W h).does->(W h).does<=15->Told g.R h (W h)
 i13:(W h).does=13->s.want (9*h)≠0
 i14:14<=(W h).does->(W h).does<=15->s.good 0=g.V
structure ShInv (K:Int) (z:Sh) (g:Gh):Prop where
 gl:Glob K z g
 th:∀t,t<4->ThB g t (z.w t) (z.tog t) (z.m (2+2*t)) (z.m (3+2*t))
 lk:(z.m 0=0/\∀t:Nat,t<4->¬Xm (z.w t))\/∃h:Nat,h<4/\z.m 0=(h:Int)+1/\Xm (z.w h)/\∀t:Nat,t<4->t≠h->¬Xm (z.w t)
 mid:g.V=g.dv+1->∃h,h<4/\12<=(z.w h).does/\(z.w h).does<=14
 ho:∀h,h<4->Xm (z.w h)->HoldOK g h z.w z.s
def QkN (R:Rec) (t:Nat) (w w':Wk):Prop:=w.does≠0->w.said=true->Qh R.tog t≠w.tog->w'.does≠0/\w'.said=true/\w'.tog=w.tog/\w'.k=w.k/\w'.key=w.key/\w'.x=w.x
theorem Want.other {W:Nat->Wk}{R:Rec}{a:Ask}(H:Want W R a) {t:Nat}{w':Wk}(hk:QkN R t (W t) w'):Want (setF W t w') R a:=by
 by_cases e:a.t=t
 · have h1:=hk (by rw[<- e];exact H.act) (by rw[<- e];exact H.said) (by rw[<- e,H.tog];exact H.opn)
   have e2:setF W t w' a.t=w':=by rw[e];exact Qf W t w'
   refine⟨H.t4,?_,?_,?_,?_,?_,?_,H.opn⟩<;>rw[e2]
   · exact h1.1
   · exact h1.2.1
   · rw[h1.2.2.1,<- e];exact H.tog
   · rw[h1.2.2.2.1,<- e];exact H.k
   · rw[h1.2.2.2.2.1,<- e];exact H.key
   · rw[h1.2.2.2.2.2,<- e];exact H.x
 · have e2:setF W t w' a.t=W a.t:=QR W w' e
   exact⟨H.t4,by rw[e2];exact H.act,by rw[e2];exact H.said,by rw[e2];exact H.tog,by rw[e2];exact H.k,by rw[e2];exact H.key,by rw[e2];exact H.x,H.opn⟩
theorem Gath.other {W:Nat->Wk}{R:Rec}{h:Nat}{l:List Ask}{i:Nat}(H:Gath W R h l i) {t:Nat}{w':Wk}(hk:QkN R t (W t) w') (ho:h=t->w'.tog=(W t).tog):Gath (setF W t w') R h l i:=by
 refine⟨H.asc,H.lt,fun a ha=>(H.want a ha).other hk,fun hi=>?_⟩
 have e:(setF W t w' h).tog=(W h).tog:=by
  by_cases e:h=t
  · subst e;rw[Qf];exact ho rfl
  · rw[QR W w' e]
 rw[e];exact H.own hi
theorem HoldOK.other {g:Gh}{h:Nat}{W:Nat->Wk}{s:Sto}(H:HoldOK g h W s) {t:Nat}(ht:h≠t) {w':Wk}(hk:QkN g.R t (W t) w'):HoldOK g h (setF W t w') s:=by
 have e:setF W t w' h=W h:=QR W w' ht
 refine⟨?_,?_,?_,?_,?_,?_,?_,?_,?_,?_,?_,?_,?_,?_,?_⟩<;>rw[e]
 · exact H.ver
 · exact H.low
 · exact H.mid
 · exact H.i0
 · exact H.i5
 · intro hd
   have:=H.i6 hd
   exact⟨this.1,this.2.1,this.2.2.other hk (fun e=>absurd e ht)⟩
 · intro hd
   obtain⟨h1,h2,l,h3,h4,h5,h6,h7⟩:=H.i7 hd
   by_cases ei:(W h).i.toNat=t
   · have hq:=hk (by rw[<- ei];exact h5) (by rw[<- ei];exact h6) (by rw[<- ei];exact h7)
     have e2:setF W t w' (W h).i.toNat=w':=by rw[ei];exact Qf W t w'
     have e3:w'.tog=(W (W h).i.toNat).tog:=by rw[hq.2.2.1,ei]
     exact⟨h1,h2,l,by rw[e2,e3];exact h3,h4.other hk (fun e=>absurd e ht),by rw[e2];exact hq.1,by rw[e2];exact hq.2.1,by rw[e2,e3];exact h7⟩
   · have e2:setF W t w' (W h).i.toNat=W (W h).i.toNat:=QR W w' ei
     exact⟨h1,h2,l,by rw[e2];exact h3,h4.other hk (fun e=>absurd e ht),by rw[e2];exact h5,by rw[e2];exact h6,by rw[e2];exact h7⟩
 · intro a b
   have:=H.nx a b
   exact⟨this.1.other hk (fun e=>absurd e ht),this.2⟩
 · exact H.i8
 · exact H.i9
 · exact H.i10
 · exact H.i11
 · exact H.told
 · exact H.i13
 · exact H.i14
def LockOK (m0:Int) (W:Nat->Wk):Prop:=(m0=0/\∀t:Nat,t<4->¬Xm (W t))\/∃h:Nat,h<4/\m0=(h:Int)+1/\Xm (W h)/\∀t:Nat,t<4->t≠h->¬Xm (W t)
theorem LockOK.keep {m0:Int}{W:Nat->Wk}(H:LockOK m0 W) {t:Nat}{w':Wk}(hh:Xm w'↔Xm (W t)):LockOK m0 (setF W t w'):=by
 have e (u:Nat):Xm (setF W t w' u)↔Xm (W u):=by
  by_cases e:u=t
  · subst e;rw[Qf];exact hh
  · rw[QR W w' e]
 rcases H with⟨h1,h2⟩|⟨h,h1,h2,h3,h4⟩
 · exact .inl ⟨h1,fun u hu hx=>h2 u hu ((e u).1 hx)⟩
 · exact .inr ⟨h,h1,h2,(e h).2 h3,fun u hu hne hx=>h4 u hu hne ((e u).1 hx)⟩
theorem LockOK.one {m0:Int}{W:Nat->Wk}(H:LockOK m0 W) {t:Nat}(ht:t<4) (h:Xm (W t)):m0=(t:Int)+1/\∀u,u<4->u≠t->¬Xm (W u):=by
 rcases H with⟨h1,h2⟩|⟨u,h1,h2,h3,h4⟩
 · exact absurd h (h2 t ht)
 · by_cases e:t=u
   · subst e;exact⟨h2,h4⟩
   · exact absurd h (h4 t ht e)
theorem ShInv.local {K:Int}{z:Sh}{g:Gh}(H:ShInv K z g) {t:Nat}(ht:t<4) {w':Wk}{m':Nat->Int}{st:Int}{hs:List Ev}(hst:z.steps<=st)
 (h1:m' 1=z.m 1) (hm:∀u,u<4->u≠t->m' (2+2*u)=z.m (2+2*u)/\m' (3+2*u)=z.m (3+2*u))
 (tg':Int) (hb:ThB g t w' tg' (m' (2+2*t)) (m' (3+2*t)))
 (hk:QkN g.R t (z.w t) w') (hl:LockOK (m' 0) (setF z.w t w')) (hd:¬(12<=(z.w t).does/\(z.w t).does<=14))
 (ho:Xm w'->HoldOK g t (setF z.w t w') z.s):ShInv K { z with w:=setF z.w t w',m:=m',tog:=putF z.tog t tg',steps:=st,hist:=hs } g:=by
 refine⟨?_,fun u hu=>?_,hl,fun hv=>?_,fun u hu hh=>?_⟩
 · have G:=H.gl
   exact⟨G.k1,G.k6,G.v0,G.vd,G.now0,G.good0,h1.trans G.done,G.same,G.sumR,G.verR,G.topR,G.nle,G.sumQ,G.verQ,G.topQ,G.lateQ,G.nowR,G.goodR,G.nowQ,G.goodQ,G.rNow,G.rGood,Int.le_trans G.vb hst,by have:=G.cb;dsimp only;omega,G.fl0,Int.le_trans G.fl1 hst,G.fe0,Int.le_trans G.fe1 hst⟩
 · show ThB g u (setF z.w t w' u) (putF z.tog t tg' u) (m' (2+2*u)) (m' (3+2*u))
   by_cases e:u=t
   · subst e;rw[Qf,QW];exact hb
   · rw[QR z.w w' e,Qs z.tog tg' e,(hm u hu e).1,(hm u hu e).2];exact H.th u hu
 · obtain⟨h,h4,a,b⟩:=H.mid hv
   have e:h≠t:=fun e=>hd (by rw[<- e];exact⟨a,b⟩)
   exact⟨h,h4,by show 12<=(setF z.w t w' h).does;rw[QR z.w w' e];exact a,by show (setF z.w t w' h).does<=14;rw[QR z.w w' e];exact b⟩
 · show HoldOK g u (setF z.w t w') z.s
   by_cases e:u=t
   · subst e
     exact ho (by have:Xm (setF z.w u w' u):=hh;rw[Qf]at this;exact this)
   · have h2:Xm (setF z.w t w' u):=hh
     rw[QR z.w w' e]at h2
     exact (H.ho u hu h2).other e hk
theorem Qhi (f:Nat->Int) (t:Nat):putF f t (f t)=f:=funext fun i=>by
 by_cases e:i=t
 · subst e;rw[QW]
 · rw[Qs f _ e]
end
section
theorem Qo {z:Sh}{t:Nat}{r:WSt}(hd:(z.w t).does≠11) (e:Qe (z.wst t)=(r,false)):z.stepped t=z.moved t r:=by
 unfold Sh.stepped
 rw[e]
 dsimp only
 rw[if_neg hd];rfl
theorem Qa8 {z:Sh}{t:Nat}{r:WSt}(hd:(z.w t).does≠11) (e:Qe (z.wst t)=(r,true)):z.stepped t=(z.moved t r).answered t r.w:=by
 unfold Sh.stepped
 rw[e]
 dsimp only
 rw[if_neg hd];rfl
theorem ShInv.moved {K:Int}{z:Sh}{g:Gh}(H:ShInv K z g) {t:Nat}(ht:t<4) {w':Wk}{m':Nat->Int}(h1:m' 1=z.m 1) (hm:∀u,u<4->u≠t->m' (2+2*u)=z.m (2+2*u)/\m' (3+2*u)=z.m (3+2*u))
 (hb:ThB g t w' (z.tog t) (m' (2+2*t)) (m' (3+2*t))) (hk:QkN g.R t (z.w t) w') (hl:LockOK (m' 0) (setF z.w t w')) (hd:¬(12<=(z.w t).does/\(z.w t).does<=14))
 (ho:Xm w'->HoldOK g t (setF z.w t w') z.s):ShInv K (z.moved t ⟨w',m',z.s⟩) g:=by
 have:=H.local ht (st:=z.steps+1) (hs:=z.hist) (by omega) h1 hm (z.tog t) hb hk hl hd ho
 rw[Qhi]at this;exact this
theorem ThB.busy {g:Gh}{t:Nat}{w w':Wk}{tg mo ms:Int}(T:ThB g t w tg mo ms) (h3:3<=w.does) (h15:w.does<=15) (e:w'.th=w.th/\w'.tog=w.tog/\w'.said=w.said/\w'.k=w.k/\w'.key=w.key/\w'.x=w.x/\w'.seen=w.seen) (hv:0<=w'.v/\w'.v<=g.dv) {d:Int}(hd:w'.does=d) (hi:d<=4\/10<=d->w'.i=0) (k3:3<=d) (k15:d<=15):ThB g t w' tg mo ms:=by
 subst hd
 obtain⟨e1,e2,e3,e4,e5,e6,e7⟩:=e
 exact
  { th:=e1.trans T.th,d0:=by omega,d21:=by omega,tg01:=T.tg01,one:=T.one,v0:=hv.1,v1:=hv.2,ii:=hi,se0:=by rw[e7];exact T.se0,se1:=by rw[e7];exact T.se1,se2:=by rw[e7];exact T.se2
    idle:=by intros;omega
    op:=fun _=>by rw[e4,e5,e6];exact T.op (by omega)
    tog:=fun _=>by rw[e2];exact T.tog (by omega)
    qr:=fun _=>by rw[e2];exact T.qr (by omega)
    uns:=fun _ hs=>by rw[e3,T.s3 h3 (by omega)]at hs;cases hs
    sai:=fun _ hs=>by rw[e2,e4,e5,e6];exact T.sai (by omega) (by rw[<- e3];exact hs)
    two:=by intros;omega
    s12:=by intros;omega
    s3:=fun _ _=>by rw[e3];exact T.s3 h3 (by omega)
    lk2:=by intros;omega
    lk3:=by intros;omega
    lk4:=by intros;omega
    rep:=by intros;omega }
section
variable {g:Gh}{h:Nat}{W:Nat->Wk}{s:Sto}
theorem hold4 (hd:(W h).does=4) (hV:g.V=g.dv) (hi:0<=(W h).i):HoldOK g h W s:=by
 exact { ver:=by intros;omega,low:=fun _=>hV,mid:=by intros;omega,i0:=fun _=>hi,i5:=by intros;omega,i6:=by intros;omega,i7:=by intros;omega,nx:=by intros;omega,i8:=by intros;omega,i9:=by intros;omega,i10:=by intros;omega,i11:=by intros;omega,told:=by intros;omega,i13:=by intros;omega,i14:=by intros;omega }
theorem hold5 (hd:(W h).does=5) (hV:g.V=g.dv) (hv:(W h).v=g.dv) (hi:0<=(W h).i) (h5:(W h).i<32/\(W h).asks=[]/\∀j:Nat,(j:Int)<(W h).i->(W h).r j=fL g.R.words j):HoldOK g h W s:=by
 exact { ver:=fun _ _=>hv,low:=fun _=>hV,mid:=by intros;omega,i0:=fun _=>hi,i5:=fun _=>h5,i6:=by intros;omega,i7:=by intros;omega,nx:=by intros;omega,i8:=by intros;omega,i9:=by intros;omega,i10:=by intros;omega,i11:=by intros;omega,told:=by intros;omega,i13:=by intros;omega,i14:=by intros;omega }
theorem hold6 (hd:(W h).does=6) (hV:g.V=g.dv) (hv:(W h).v=g.dv) (hi:0<=(W h).i) (h6:(W h).i<4/\(∀j,j<32->(W h).r j=fL g.R.words j)/\Gath W g.R h (W h).asks (W h).i.toNat):HoldOK g h W s:=by
 exact { ver:=fun _ _=>hv,low:=fun _=>hV,mid:=by intros;omega,i0:=fun _=>hi,i5:=by intros;omega,i6:=fun _=>h6,i7:=by intros;omega,nx:=by intros;omega,i8:=by intros;omega,i9:=by intros;omega,i10:=by intros;omega,i11:=by intros;omega,told:=by intros;omega,i13:=by intros;omega,i14:=by intros;omega }
theorem hold7 (hd:(W h).does=7) (hV:g.V=g.dv) (hv:(W h).v=g.dv) (hi:0<=(W h).i) (h7:(W h).i<4/\(∀j,j<32->(W h).r j=fL g.R.words j)/\∃l,(W h).asks=l++[⟨(W h).i.toNat,(W (W h).i.toNat).tog,0,0,0⟩]/\Gath W g.R h l (W h).i.toNat /\
 (W (W h).i.toNat).does≠0/\(W (W h).i.toNat).said=true/\Qh g.R.tog (W h).i.toNat≠(W (W h).i.toNat).tog):HoldOK g h W s:=by
 exact { ver:=fun _ _=>hv,low:=fun _=>hV,mid:=by intros;omega,i0:=fun _=>hi,i5:=by intros;omega,i6:=by intros;omega,i7:=fun _=>h7,nx:=by intros;omega,i8:=by intros;omega,i9:=by intros;omega,i10:=by intros;omega,i11:=by intros;omega,told:=by intros;omega,i13:=by intros;omega,i14:=by intros;omega }
abbrev QdT (g:Gh) (h:Nat) (W:Nat->Wk):Prop:=Gath W g.R h (W h).asks 4/\(W h).deeds=bD g.R (W h).asks/\(∀j,j<32->(W h).r j=fL (bDo g.R (W h).asks).words j)/\Told (bDo g.R (W h).asks) h (W h)
theorem hold8 (hd:(W h).does=8) (hV:g.V=g.dv) (hv:(W h).v=g.dv) (hi:0<=(W h).i) (hn:QdT g h W) (h8:(W h).i<32/\∀j:Nat,(j:Int)<(W h).i->s.now (Qn (g.V+1)+j)=fL (bDo g.R (W h).asks).words j):HoldOK g h W s:=by
 exact { ver:=fun _ _=>hv,low:=fun _=>hV,mid:=by intros;omega,i0:=fun _=>hi,i5:=by intros;omega,i6:=by intros;omega,i7:=by intros;omega,nx:=fun _ _=>hn,i8:=fun _=>h8,i9:=by intros;omega,i10:=by intros;omega,i11:=by intros;omega,told:=by intros;omega,i13:=by intros;omega,i14:=by intros;omega }
theorem hold9 (hd:(W h).does=9) (hV:g.V=g.dv) (hv:(W h).v=g.dv) (hi:0<=(W h).i) (hn:QdT g h W) (h9:(W h).i<4/\HasRec s.now (g.V+1) (bDo g.R (W h).asks)/\∀l:Nat,(l:Int)<(W h).i->s.want (9*h+(Qn (g.V+1)/8+l))≠0):HoldOK g h W s:=by
 exact { ver:=fun _ _=>hv,low:=fun _=>hV,mid:=by intros;omega,i0:=fun _=>hi,i5:=by intros;omega,i6:=by intros;omega,i7:=by intros;omega,nx:=fun _ _=>hn,i8:=by intros;omega,i9:=fun _=>h9,i10:=by intros;omega,i11:=by intros;omega,told:=by intros;omega,i13:=by intros;omega,i14:=by intros;omega }
theorem hold10 (hd:(W h).does=10) (hV:g.V=g.dv) (hv:(W h).v=g.dv) (hn:QdT g h W) (h10:HasRec s.now (g.V+1) (bDo g.R (W h).asks)/\∀l:Nat,l<4->s.want (9*h+(Qn (g.V+1)/8+l))≠0):HoldOK g h W s:=by
 exact { ver:=fun _ _=>hv,low:=fun _=>hV,mid:=by intros;omega,i0:=by intros;omega,i5:=by intros;omega,i6:=by intros;omega,i7:=by intros;omega,nx:=fun _ _=>hn,i8:=by intros;omega,i9:=by intros;omega,i10:=fun _=>h10,i11:=by intros;omega,told:=by intros;omega,i13:=by intros;omega,i14:=by intros;omega }
theorem hold11 (hd:(W h).does=11) (hV:g.V=g.dv) (hv:(W h).v=g.dv) (hn:QdT g h W) (h11:HasRec s.now (g.V+1) (bDo g.R (W h).asks)/\HasRec s.good (g.V+1) (bDo g.R (W h).asks)):HoldOK g h W s:=by
 exact { ver:=fun _ _=>hv,low:=fun _=>hV,mid:=by intros;omega,i0:=by intros;omega,i5:=by intros;omega,i6:=by intros;omega,i7:=by intros;omega,nx:=fun _ _=>hn,i8:=by intros;omega,i9:=by intros;omega,i10:=by intros;omega,i11:=fun _=>h11,told:=by intros;omega,i13:=by intros;omega,i14:=by intros;omega }
theorem hold12 (hd:(W h).does=12) (hV:g.V=g.dv+1) (hv:(W h).v=g.dv) (ht:Told g.R h (W h)):HoldOK g h W s:=by
 exact { ver:=fun _ _=>hv,low:=by intros;omega,mid:=fun _ _=>hV,i0:=by intros;omega,i5:=by intros;omega,i6:=by intros;omega,i7:=by intros;omega,nx:=by intros;omega,i8:=by intros;omega,i9:=by intros;omega,i10:=by intros;omega,i11:=by intros;omega,told:=fun _ _=>ht,i13:=by intros;omega,i14:=by intros;omega }
theorem hold13 (hd:(W h).does=13) (hV:g.V=g.dv+1) (hv:(W h).v=g.dv) (ht:Told g.R h (W h)) (hw:s.want (9*h)≠0):HoldOK g h W s:=by
 exact { ver:=fun _ _=>hv,low:=by intros;omega,mid:=fun _ _=>hV,i0:=by intros;omega,i5:=by intros;omega,i6:=by intros;omega,i7:=by intros;omega,nx:=by intros;omega,i8:=by intros;omega,i9:=by intros;omega,i10:=by intros;omega,i11:=by intros;omega,told:=fun _ _=>ht,i13:=fun _=>hw,i14:=by intros;omega }
theorem hold14 (hd:(W h).does=14) (hV:g.V=g.dv+1) (hv:(W h).v=g.dv) (ht:Told g.R h (W h)) (hg:s.good 0=g.V):HoldOK g h W s:=by
 exact { ver:=fun _ _=>hv,low:=by intros;omega,mid:=fun _ _=>hV,i0:=by intros;omega,i5:=by intros;omega,i6:=by intros;omega,i7:=by intros;omega,nx:=by intros;omega,i8:=by intros;omega,i9:=by intros;omega,i10:=by intros;omega,i11:=by intros;omega,told:=fun _ _=>ht,i13:=by intros;omega,i14:=fun _ _=>hg }
theorem hold15 (hd:(W h).does=15) (hV:g.V=g.dv) (ht:Told g.R h (W h)) (hg:s.good 0=g.V):HoldOK g h W s:=by
 exact { ver:=by intros;omega,low:=fun _=>hV,mid:=by intros;omega,i0:=by intros;omega,i5:=by intros;omega,i6:=by intros;omega,i7:=by intros;omega,nx:=by intros;omega,i8:=by intros;omega,i9:=by intros;omega,i10:=by intros;omega,i11:=by intros;omega,told:=fun _ _=>ht,i13:=by intros;omega,i14:=fun _ _=>hg }
end
theorem ThB.go {g:Gh}{t:Nat}{w w':Wk}{tg mo ms mo' ms':Int}(T:ThB g t w tg mo ms) (hn:w.does≠0) {d:Int}(hd:w'.does=d) (h0:0<d/\d<=21) (e:w'.th=w.th/\w'.tog=w.tog/\w'.k=w.k/\w'.key=w.key/\w'.x=w.x) (hv:0<=w'.v/\w'.v<=g.dv) (ii:d<=4\/10<=d->w'.i=0)
 (se:(0<=w'.seen 0/\w'.seen 0<16)/\U64 (w'.seen 1)/\0<=w'.seen 2/\w'.seen 2<=9223372036854775807)
 (uns:w'.said=false->ms'=0\/(ms'=tg+1/\Qh g.R.tog t=tg/\Qh g.Q.tog t=tg)) (sai:w'.said=true->ms'=w.tog+1/\mo'=opW w.k w.key w.x)
 (two:d=2->mo'=opW w.k w.key w.x) (s12:d=1\/d=2->w'.said=false) (s3:3<=d->d<=16->w'.said=true)
 (lk2:19<=d->w'.v=g.dv->w'.seen 0=g.Q.tog) (lk3:20<=d->w'.v=g.dv->w'.seen 1=g.Q.ans.getD t 0) (lk4:21<=d->w'.v=g.dv->w'.seen 2=g.Q.whn.getD t 0) (rep:d=16->Told g.Q t w'/\Told g.R t w'):ThB g t w' tg mo' ms':=by
 subst hd
 obtain⟨e1,e2,e4,e5,e6⟩:=e
 exact
  { th:=e1.trans T.th,d0:=by omega,d21:=by omega,tg01:=T.tg01,one:=T.one,v0:=hv.1,v1:=hv.2,ii:=ii,se0:=se.1,se1:=se.2.1,se2:=se.2.2
    idle:=by intros;omega
    op:=fun _=>by rw[e4,e5,e6];exact T.op hn
    tog:=fun _=>by rw[e2];exact T.tog hn
    qr:=fun _=>by rw[e2];exact T.qr hn
    uns:=fun _=>uns
    sai:=fun _ hs=>by rw[e2,e4,e5,e6];exact sai hs
    two:=fun h=>by rw[e4,e5,e6];exact two h
    s12:=s12
    s3:=s3
    lk2:=lk2
    lk3:=lk3
    lk4:=lk4
    rep:=rep }
theorem ThB.se {g:Gh}{t:Nat}{w:Wk}{tg mo ms:Int}(T:ThB g t w tg mo ms):(0<=w.seen 0/\w.seen 0<16)/\U64 (w.seen 1)/\0<=w.seen 2/\w.seen 2<=9223372036854775807:=⟨T.se0,T.se1,T.se2⟩
theorem Qt {w:Wk}{d:Int}(hd:w.does=d) (h:d<4\/15<d):¬Xm w:=fun hh=>by
 have:=hh.1
 have:=hh.2
 omega
theorem Qz {R:Rec}{t:Nat}{w w':Wk}{d:Int}(hd:w'.does=d) (h:d≠0) (e:w'.tog=w.tog/\w'.said=w.said/\w'.k=w.k/\w'.key=w.key/\w'.x=w.x):QkN R t w w':=
 fun _ hs _=>⟨by rw[hd];exact h,e.2.1.trans hs,e.1,e.2.2.1,e.2.2.2.1,e.2.2.2.2⟩
section
variable {K:Int}{z:Sh}{g:Gh}{t:Nat}
theorem Qn2 (H:ShInv K z g) (ht:t<4) (hd:(z.w t).does=1):ShInv K (z.stepped t) g:=by
 have T:=H.th t ht
 have hth:=T.th
 have e:Qe (z.wst t)=(⟨{ z.w t with does:=2 },putF z.m (2+2*t) (opW (z.w t).k (z.w t).key (z.w t).x),z.s⟩,false):=by
  simp[Qe,sayP,Sh.wst,hd,hth]
 rw[Qo (by omega) e]
 have hs:=T.s12 (.inl hd)
 refine H.moved ht (Qs _ _ (by omega)) (fun u hu hne=>⟨Qs _ _ (by omega),Qs _ _ (by omega)⟩) ?_ (fun _ hs'=>by rw[hs]at hs';cases hs') ?_ (by omega) (fun hh=>absurd hh (Qt (d:=2) rfl (.inl (by decide))))
 · rw[QW,Qs _ _ (show 3+2*t≠2+2*t by omega)]
   exact T.go (by omega) (d:=2) rfl ⟨by decide,by decide⟩ ⟨rfl,rfl,rfl,rfl,rfl⟩ ⟨T.v0,T.v1⟩ (fun _=>T.ii (by omega)) T.se (T.uns (by omega)) (fun h=>by have h:(z.w t).said=true:=h;rw[hs]at h;cases h) (fun _=>rfl) (fun _=>hs) (fun h=>absurd h (by decide)) (fun h=>absurd h (by decide)) (fun h=>absurd h (by decide)) (fun h=>absurd h (by decide)) (fun h=>absurd h (by decide))
 · rw[Qs _ _ (by omega)]
   exact LockOK.keep H.lk ⟨fun h=>absurd h (Qt (d:=2) rfl (.inl (by decide))),fun h=>absurd h (Qt hd (.inl (by decide)))⟩
theorem Qn1 (H:ShInv K z g) (ht:t<4) (hd:(z.w t).does=2):ShInv K (z.stepped t) g:=by
 have T:=H.th t ht
 have hth:=T.th
 have e:Qe (z.wst t)=(⟨{ z.w t with said:=true,does:=3 },putF z.m (3+2*t) ((z.w t).tog+1),z.s⟩,false):=by
  simp[Qe,sayP,Sh.wst,hd,hth]
 rw[Qo (by omega) e]
 have hs:=T.s12 (.inr hd)
 refine H.moved ht (Qs _ _ (by omega)) (fun u hu hne=>⟨Qs _ _ (by omega),Qs _ _ (by omega)⟩) ?_ (fun _ hs'=>by rw[hs]at hs';cases hs') ?_ (by omega) (fun hh=>absurd hh (Qt (d:=3) rfl (.inl (by decide))))
 · rw[QW,Qs _ _ (show 2+2*t≠3+2*t by omega)]
   exact T.go (by omega) (d:=3) rfl ⟨by decide,by decide⟩ ⟨rfl,rfl,rfl,rfl,rfl⟩ ⟨T.v0,T.v1⟩ (fun _=>T.ii (by omega)) T.se (fun h=>by cases h) (fun _=>⟨rfl,T.two hd⟩) (fun h=>absurd h (by decide)) (fun h=>absurd h (by decide)) (fun _ _=>rfl) (fun h=>absurd h (by decide)) (fun h=>absurd h (by decide)) (fun h=>absurd h (by decide)) (fun h=>absurd h (by decide))
 · rw[Qs _ _ (by omega)]
   exact LockOK.keep H.lk ⟨fun h=>absurd h (Qt (d:=3) rfl (.inl (by decide))),fun h=>absurd h (Qt hd (.inl (by decide)))⟩
theorem Qn0 (H:ShInv K z g) (ht:t<4) (hd:(z.w t).does=3):ShInv K (z.stepped t) g:=by
 have T:=H.th t ht
 have hth:=T.th
 have hs:=T.s3 (by omega) (by omega)
 by_cases h0:z.m 0=0
 · have e:Qe (z.wst t)=(⟨{ z.w t with does:=4 },putF z.m 0 ((t:Int)+1),z.s⟩,false):=by
    simp[Qe,sayP,Sh.wst,hd,hth,h0]
   rw[Qo (by omega) e]
   have hfree:∀u,u<4->¬Xm (z.w u):=by
    rcases H.lk with⟨-,h⟩|⟨h,-,h2,-⟩
    · exact h
    · omega
   refine H.moved ht (Qs _ _ (by omega)) (fun u hu hne=>⟨Qs _ _ (by omega),Qs _ _ (by omega)⟩) ?_ (Qz (d:=4) rfl (by decide) ⟨rfl,rfl,rfl,rfl,rfl⟩) ?_ (by omega) (fun hh=>?_)
   · rw[Qs _ _ (show 2+2*t≠0 by omega),Qs _ _ (show 3+2*t≠0 by omega)]
     exact T.go (by omega) (d:=4) rfl ⟨by decide,by decide⟩ ⟨rfl,rfl,rfl,rfl,rfl⟩ ⟨T.v0,T.v1⟩ (fun _=>T.ii (by omega)) T.se (T.uns (by omega)) (T.sai (by omega)) (fun h=>absurd h (by decide)) (fun h=>absurd h (by decide)) (fun _ _=>hs) (fun h=>absurd h (by decide)) (fun h=>absurd h (by decide)) (fun h=>absurd h (by decide)) (fun h=>absurd h (by decide))
   · rw[QW]
     refine .inr ⟨t,ht,rfl,by rw[Qf];exact⟨by show (4:Int)<=4;decide,by show (4:Int)<=15;decide⟩,fun u hu hne=>?_⟩
     rw[QR _ _ hne];exact hfree u hu
   · have hV:g.V=g.dv:=by
      rcases H.gl.vd with h|h
      · exact h
      · obtain⟨u,hu,a,b⟩:=H.mid h
        exact absurd ⟨by omega,by omega⟩ (hfree u hu)
     exact hold4 (by rw[Qf]) hV (by rw[Qf];exact Int.le_of_eq (T.ii (by omega)).symm)
 · have e:Qe (z.wst t)=(⟨{ z.w t with does:=17 },z.m,z.s⟩,false):=by
    simp[Qe,sayP,Sh.wst,hd,hth,h0]
   rw[Qo (by omega) e]
   refine H.moved ht rfl (fun u hu hne=>⟨rfl,rfl⟩) ?_ (Qz (d:=17) rfl (by decide) ⟨rfl,rfl,rfl,rfl,rfl⟩) ?_ (by omega) (fun hh=>absurd hh (Qt (d:=17) rfl (.inr (by decide))))
   · exact T.go (by omega) (d:=17) rfl ⟨by decide,by decide⟩ ⟨rfl,rfl,rfl,rfl,rfl⟩ ⟨T.v0,T.v1⟩ (fun _=>T.ii (by omega)) T.se (T.uns (by omega)) (T.sai (by omega)) (fun h=>absurd h (by decide)) (fun h=>absurd h (by decide)) (fun _ h=>absurd h (by decide)) (fun h=>absurd h (by decide)) (fun h=>absurd h (by decide)) (fun h=>absurd h (by decide)) (fun h=>absurd h (by decide))
   · exact LockOK.keep H.lk ⟨fun h=>absurd h (Qt (d:=17) rfl (.inr (by decide))),fun h=>absurd h (Qt hd (.inl (by decide)))⟩
theorem Sum.told {D:List Vd}{R:Rec}(h:Sum K R D) (ht:t<4) (hb:Qh R.tog t=1\/R.whn.getD t 0≠0):∃c v,QQ c v/\R.ans.getD t 0=ansW c v/\R.whn.getD t 0≠0:=by
 rcases h.each t ht with⟨h0,h1,h2⟩|⟨i,h1,h2,h3,h4,h5,-⟩
 · rcases hb with hb|hb
   · rw[h.bit t ht,h0]at hb;exact absurd hb (by decide)
   · exact absurd h2 hb
 · exact⟨_,_,h4,h5,by omega⟩
theorem ShInv.toldQ (H:ShInv K z g) (ht:t<4) (hn:(z.w t).does≠0) (hb:Qh g.Q.tog t=(z.w t).tog):∃c v,QQ c v/\g.Q.ans.getD t 0=ansW c v/\g.Q.whn.getD t 0≠0:=by
 have T:=H.th t ht
 refine H.gl.sumQ.told ht ?_
 have:=T.tog hn
 rcases T.tg01 with h|h
 · exact .inl (by omega)
 · exact .inr (T.one h)
theorem Qa5 {B:Int}{R:Rec}(h:RecOK B R):fL R.words 26=R.tog:=(QoT R (Xs h.ok) h.a4 h.w4).2.2
theorem SlotsOK.at {f:Nat->Int}(h:SlotsOK f) (v:Int):SlotOK f (Qn v):=by
 have hb:Qn v=8\/Qn v=40:=by unfold Qn;omega
 rcases hb with e|e<;>rw[e]
 · exact h.1
 · exact h.2
theorem Qke (H:ShInv K z g) (ht:t<4) (hd:(z.w t).does=17):ShInv K (z.stepped t) g:=by
 have T:=H.th t ht
 have e:Qe (z.wst t)=(⟨{ z.w t with v:=z.m 1,does:=18 },z.m,z.s⟩,false):=by
  simp[Qe,QP,Sh.wst,hd]
 rw[Qo (by omega) e]
 refine H.moved ht rfl (fun u hu hne=>⟨rfl,rfl⟩) ?_ (Qz (d:=18) rfl (by decide) ⟨rfl,rfl,rfl,rfl,rfl⟩) ?_ (by omega) (fun hh=>absurd hh (Qt (d:=18) rfl (.inr (by decide))))
 · have hv:0<=z.m 1/\z.m 1<=g.dv:=by rw[H.gl.done];exact⟨H.gl.v0,Int.le_refl _⟩
   exact T.go (by omega) (d:=18) rfl ⟨by decide,by decide⟩ ⟨rfl,rfl,rfl,rfl,rfl⟩ hv (fun _=>T.ii (by omega)) T.se (T.uns (by omega)) (T.sai (by omega)) (fun h=>absurd h (by decide)) (fun h=>absurd h (by decide)) (fun _ h=>absurd h (by decide)) (fun h=>absurd h (by decide)) (fun h=>absurd h (by decide)) (fun h=>absurd h (by decide)) (fun h=>absurd h (by decide))
 · exact LockOK.keep H.lk ⟨fun h=>absurd h (Qt (d:=18) rfl (.inr (by decide))),fun h=>absurd h (Qt hd (.inr (by decide)))⟩
theorem Qkd (H:ShInv K z g) (ht:t<4) (hd:(z.w t).does=18):ShInv K (z.stepped t) g:=by
 have T:=H.th t ht
 have e:Qe (z.wst t)=(⟨{ z.w t with seen:=putF (z.w t).seen 0 (z.s.now (Qn (z.w t).v+26)),does:=19 },z.m,z.s⟩,false):=by
  simp[Qe,QP,Sh.wst,hd]
 rw[Qo (by omega) e]
 refine H.moved ht rfl (fun u hu hne=>⟨rfl,rfl⟩) ?_ (Qz (d:=19) rfl (by decide) ⟨rfl,rfl,rfl,rfl,rfl⟩) ?_ (by omega) (fun hh=>absurd hh (Qt (d:=19) rfl (.inr (by decide))))
 · refine T.go (by omega) (d:=19) rfl ⟨by decide,by decide⟩ ⟨rfl,rfl,rfl,rfl,rfl⟩ ⟨T.v0,T.v1⟩ (fun _=>T.ii (by omega)) ?_ (T.uns (by omega)) (T.sai (by omega)) (fun h=>absurd h (by decide)) (fun h=>absurd h (by decide)) (fun _ h=>absurd h (by decide)) (fun _ hv=>?_) (fun h=>absurd h (by decide)) (fun h=>absurd h (by decide)) (fun h=>absurd h (by decide))
   · dsimp only
     rw[QW,Qs _ _ (by decide),Qs _ _ (by decide)]
     exact⟨(H.gl.rNow.at _).1,T.se1,T.se2⟩
   · dsimp only at hv ⊢
     rw[QW,hv,H.gl.nowQ 26 (by decide),Qa5 H.gl.sumQ.ok]
 · exact LockOK.keep H.lk ⟨fun h=>absurd h (Qt (d:=19) rfl (.inr (by decide))),fun h=>absurd h (Qt hd (.inr (by decide)))⟩
theorem Qkc (H:ShInv K z g) (ht:t<4) (hd:(z.w t).does=19):ShInv K (z.stepped t) g:=by
 have T:=H.th t ht
 have hth:=T.th
 have e:Qe (z.wst t)=(⟨{ z.w t with seen:=putF (z.w t).seen 1 (z.s.now (Qn (z.w t).v+18+t)),does:=20 },z.m,z.s⟩,false):=by
  simp[Qe,QP,Sh.wst,hd,hth]
 rw[Qo (by omega) e]
 refine H.moved ht rfl (fun u hu hne=>⟨rfl,rfl⟩) ?_ (Qz (d:=20) rfl (by decide) ⟨rfl,rfl,rfl,rfl,rfl⟩) ?_ (by omega) (fun hh=>absurd hh (Qt (d:=20) rfl (.inr (by decide))))
 · refine T.go (by omega) (d:=20) rfl ⟨by decide,by decide⟩ ⟨rfl,rfl,rfl,rfl,rfl⟩ ⟨T.v0,T.v1⟩ (fun _=>T.ii (by omega)) ?_ (T.uns (by omega)) (T.sai (by omega)) (fun h=>absurd h (by decide)) (fun h=>absurd h (by decide)) (fun _ h=>absurd h (by decide)) (fun _ hv=>?_) (fun _ hv=>?_) (fun h=>absurd h (by decide)) (fun h=>absurd h (by decide))
   · dsimp only
     rw[Qs _ _ (by decide),QW,Qs _ _ (by decide)]
     exact⟨T.se0,((H.gl.rNow.at _).2 t ht).1,T.se2⟩
   · dsimp only at hv ⊢
     rw[Qs _ _ (by decide)];exact T.lk2 (by omega) hv
   · dsimp only at hv ⊢
     rw[QW,hv,Nat.add_assoc,H.gl.nowQ (18+t) (by omega),Qeu H.gl.sumQ.ok t ht];rfl
 · exact LockOK.keep H.lk ⟨fun h=>absurd h (Qt (d:=20) rfl (.inr (by decide))),fun h=>absurd h (Qt hd (.inr (by decide)))⟩
theorem Qkb (H:ShInv K z g) (ht:t<4) (hd:(z.w t).does=20):ShInv K (z.stepped t) g:=by
 have T:=H.th t ht
 have hth:=T.th
 have e:Qe (z.wst t)=(⟨{ z.w t with seen:=putF (z.w t).seen 2 (z.s.now (Qn (z.w t).v+22+t)),does:=21 },z.m,z.s⟩,false):=by
  simp[Qe,QP,Sh.wst,hd,hth]
 rw[Qo (by omega) e]
 refine H.moved ht rfl (fun u hu hne=>⟨rfl,rfl⟩) ?_ (Qz (d:=21) rfl (by decide) ⟨rfl,rfl,rfl,rfl,rfl⟩) ?_ (by omega) (fun hh=>absurd hh (Qt (d:=21) rfl (.inr (by decide))))
 · refine T.go (by omega) (d:=21) rfl ⟨by decide,by decide⟩ ⟨rfl,rfl,rfl,rfl,rfl⟩ ⟨T.v0,T.v1⟩ (fun _=>T.ii (by omega)) ?_ (T.uns (by omega)) (T.sai (by omega)) (fun h=>absurd h (by decide)) (fun h=>absurd h (by decide)) (fun _ h=>absurd h (by decide)) (fun _ hv=>?_) (fun _ hv=>?_) (fun _ hv=>?_) (fun h=>absurd h (by decide))
   · dsimp only
     rw[Qs _ _ (by decide),Qs _ _ (by decide),QW]
     exact⟨T.se0,T.se1,((H.gl.rNow.at _).2 t ht).2⟩
   · dsimp only at hv ⊢
     rw[Qs _ _ (by decide)];exact T.lk2 (by omega) hv
   · dsimp only at hv ⊢
     rw[Qs _ _ (by decide)];exact T.lk3 (by omega) hv
   · dsimp only at hv ⊢
     rw[QW,hv,Nat.add_assoc,H.gl.nowQ (22+t) (by omega),Qfv H.gl.sumQ.ok t ht];rfl
 · exact LockOK.keep H.lk ⟨fun h=>absurd h (Qt (d:=21) rfl (.inr (by decide))),fun h=>absurd h (Qt hd (.inr (by decide)))⟩
theorem ShInv.answer (H:ShInv K z g) (ht:t<4) (hn:(z.w t).does≠0) (hh:¬Xm (z.w t)) (hb:Qh g.Q.tog t=(z.w t).tog) {w':Wk}(e0:w'.does=0) (e:w'.th=(z.w t).th/\w'.tog=(z.w t).tog/\w'.seen=(z.w t).seen/\w'.v=(z.w t).v/\w'.i=(z.w t).i) (hi:(z.w t).i=0):
 ShInv K ((z.moved t ⟨w',z.m,z.s⟩).answered t w') g:=by
 have T:=H.th t ht
 obtain⟨e1,e2,e3,e4,e5⟩:=e
 have hr:=T.qr hn hb
 have hg:=T.tog hn
 obtain⟨c,v,-,-,hw⟩:=H.toldQ ht hn hb
 have:=H.local ht (w':=w') (m':=z.m) (st:=z.steps+1) (hs:=z.hist++[⟨2,t,w'.k,w'.key,w'.x,w'.oc,w'.ov,w'.whn,z.steps+1⟩]) (by omega) rfl (fun u hu hne=>⟨rfl,rfl⟩) w'.tog ?_ (fun _ _ h=>absurd hr h) (LockOK.keep H.lk ⟨fun h=>absurd h (Qt e0 (.inl (by decide))),fun h=>absurd h hh⟩) (fun h=>hh ⟨by omega,by omega⟩) (fun h=>absurd h (Qt e0 (.inl (by decide))))
 · exact this
 · exact
    { th:=e1.trans T.th,d0:=by omega,d21:=by omega
      tg01:=by have:=T.tg01;omega
      one:=fun _=>hw
      v0:=by rw[e4];exact T.v0
      v1:=by rw[e4];exact T.v1
      ii:=fun _=>e5.trans hi
      se0:=by rw[e3];exact T.se0
      se1:=by rw[e3];exact T.se1
      se2:=by rw[e3];exact T.se2
      idle:=fun _=>by
       refine⟨by rw[e2];exact hr,by rw[e2];exact hb,?_⟩
       cases hs:(z.w t).said
       · rcases T.uns hn hs with h|⟨-,-,h⟩
         · exact .inl h
         · exact absurd hb (by omega)
       · rw[e2];exact .inr (T.sai hn hs).1
      op:=by intros;omega
      tog:=by intros;omega
      qr:=by intros;omega
      uns:=by intros;omega
      sai:=by intros;omega
      two:=by intros;omega
      s12:=by intros;omega
      s3:=by intros;omega
      lk2:=by intros;omega
      lk3:=by intros;omega
      lk4:=by intros;omega
      rep:=by intros;omega }
theorem Qka (H:ShInv K z g) (ht:t<4) (hd:(z.w t).does=21):ShInv K (z.stepped t) g:=by
 have T:=H.th t ht
 have hth:=T.th
 by_cases hc:z.m 1=(z.w t).v/\Qh ((z.w t).seen 0) t=(z.w t).tog
 · have e:Qe (z.wst t)=(⟨{ z.w t with oc:=(z.w t).seen 1/4294967296%4294967296,ov:=(z.w t).seen 1%4294967296,whn:=(z.w t).seen 2,does:=0 },z.m,z.s⟩,true):=by
    have h1:(z.wst t).m 1=(z.wst t).w.v/\Qh ((z.wst t).w.seen 0) (z.wst t).w.th=(z.wst t).w.tog:=⟨hc.1,by show Qh ((z.w t).seen 0) (z.w t).th=_;rw[hth];exact hc.2⟩
    have h2:Qe (z.wst t)=QP (z.wst t):=by simp[Qe,Sh.wst,hd]
    rw[h2,Qfe _ hd,if_pos h1];rfl
   rw[Qa8 (by omega) e]
   have hv:(z.w t).v=g.dv:=by rw[<- hc.1];exact H.gl.done
   refine H.answer ht (by omega) (Qt hd (.inr (by decide))) ?_ rfl ⟨rfl,rfl,rfl,rfl,rfl⟩ (T.ii (by omega))
   rw[<- T.lk2 (by omega) hv];exact hc.2
 · have e:Qe (z.wst t)=(⟨{ z.w t with does:=if (z.w t).said then 3 else 1 },z.m,z.s⟩,false):=by
    have h1:¬((z.wst t).m 1=(z.wst t).w.v/\Qh ((z.wst t).w.seen 0) (z.wst t).w.th=(z.wst t).w.tog):=fun h=>hc ⟨h.1,by have h2:Qh ((z.w t).seen 0) (z.w t).th=_:=h.2;rw[hth]at h2;exact h2⟩
    have h2:Qe (z.wst t)=QP (z.wst t):=by simp[Qe,Sh.wst,hd]
    rw[h2,Qfe _ hd,if_neg h1];rfl
   rw[Qo (by omega) e]
   cases hs:(z.w t).said
   · rw[if_neg (by decide)]
     refine H.moved ht rfl (fun u hu hne=>⟨rfl,rfl⟩) ?_ (Qz (d:=1) rfl (by decide) ⟨rfl,rfl,rfl,rfl,rfl⟩) ?_ (by omega) (fun hh=>absurd hh (Qt (d:=1) rfl (.inl (by decide))))
     · exact T.go (by omega) (d:=1) rfl ⟨by decide,by decide⟩ ⟨rfl,rfl,rfl,rfl,rfl⟩ ⟨T.v0,T.v1⟩ (fun _=>T.ii (by omega)) T.se (T.uns (by omega)) (T.sai (by omega)) (fun h=>absurd h (by decide)) (fun _=>hs) (fun h=>absurd h (by decide)) (fun h=>absurd h (by decide)) (fun h=>absurd h (by decide)) (fun h=>absurd h (by decide)) (fun h=>absurd h (by decide))
     · exact LockOK.keep H.lk ⟨fun h=>absurd h (Qt (d:=1) rfl (.inl (by decide))),fun h=>absurd h (Qt hd (.inr (by decide)))⟩
   · rw[if_pos rfl]
     refine H.moved ht rfl (fun u hu hne=>⟨rfl,rfl⟩) ?_ (Qz (d:=3) rfl (by decide) ⟨rfl,rfl,rfl,rfl,rfl⟩) ?_ (by omega) (fun hh=>absurd hh (Qt (d:=3) rfl (.inl (by decide))))
     · exact T.go (by omega) (d:=3) rfl ⟨by decide,by decide⟩ ⟨rfl,rfl,rfl,rfl,rfl⟩ ⟨T.v0,T.v1⟩ (fun _=>T.ii (by omega)) T.se (T.uns (by omega)) (T.sai (by omega)) (fun h=>absurd h (by decide)) (fun h=>absurd h (by decide)) (fun _ _=>hs) (fun h=>absurd h (by decide)) (fun h=>absurd h (by decide)) (fun h=>absurd h (by decide)) (fun h=>absurd h (by decide))
     · exact LockOK.keep H.lk ⟨fun h=>absurd h (Qt (d:=3) rfl (.inl (by decide))),fun h=>absurd h (Qt hd (.inr (by decide)))⟩
theorem QlY (H:ShInv K z g) (ht:t<4) (hd:(z.w t).does=16):ShInv K (z.stepped t) g:=by
 have T:=H.th t ht
 have e:Qe (z.wst t)=(⟨{ z.w t with does:=0 },z.m,z.s⟩,true):=by
  simp[Qe,XT,Sh.wst,hd]
 rw[Qa8 (by omega) e]
 exact H.answer ht (by omega) (Qt hd (.inr (by decide))) (T.rep hd).1.bit rfl ⟨rfl,rfl,rfl,rfl,rfl⟩ (T.ii (by omega))
end
end
section
theorem QmT:∀ {l:List Ask}{lo n:Nat},l.Pairwise (fun a b=>a.t<b.t)->(∀a∈l,lo<=a.t/\a.t<n)->l.length<=n-lo
 |[],_,_,_,_=>Nat.zero_le _
 |a::l,lo,n,h,hb=>by
  rw[List.pairwise_cons]at h
  have h1:=hb a List.mem_cons_self
  have:=QmT (lo:=a.t+1) (n:=n) h.2 (fun b hm=>⟨h.1 b hm,(hb b (List.mem_cons_of_mem _ hm)).2⟩)
  rw[List.length_cons];omega
theorem Sum.whn_iff {K:Int}{R:Rec}{D:List Vd}(h:Sum K R D) {t:Nat}(ht:t<4):R.whn.getD t 0≠0↔cntT t D≠0:=by
 rcases h.each t ht with⟨h0,h1,h2⟩|⟨i,h1,h2,h3,h4,h5,-⟩
 · exact⟨fun h=>absurd h2 h,fun h=>absurd h0 h⟩
 · refine⟨fun _ h=>?_,fun _=>by omega⟩
   unfold cntT at h
   rw[List.countP_eq_zero]at h
   rw[List.getD_eq_getElem?_getD,List.getElem?_eq_getElem h2]at h3
   exact h _ (List.getElem_mem h2) (by simpa using h3)
theorem Qit (t:Nat) (D E:List Vd):cntT t (D++E)=cntT t D+cntT t E:=by unfold cntT;exact List.countP_append
theorem Sum.whn_mono {K:Int}{R R':Rec}{D E:List Vd}(h:Sum K R D) (h':Sum K R' (D++E)) {t:Nat}(ht:t<4) (hw:R.whn.getD t 0≠0):R'.whn.getD t 0≠0:=by
 rw[h'.whn_iff ht,Qit]
 have:=(h.whn_iff ht).1 hw
 omega
section
variable {K:Int}{z:Sh}{g:Gh}{t:Nat}
theorem Want.okA (H:ShInv K z g) {R:Rec}{a:Ask}(h:Want z.w R a):a.ok:=by
 have T:=H.th a.t h.t4
 refine⟨h.t4,?_,?_⟩
 · have h1:=T.tog h.act
   have h2:=T.tg01
   rw[h.tog]at h1
   omega
 · have:=T.op h.act
   rw[h.k,h.key,h.x]at this;exact this
theorem Gath.okA (H:ShInv K z g) {R:Rec}{h:Nat}{l:List Ask}{i:Nat}(hg:Gath z.w R h l i):AsksOK l:=fun a ha=>(hg.want a ha).okA H
theorem Gath.len {W:Nat->Wk}{R:Rec}{h:Nat}{l:List Ask}{i:Nat}(hg:Gath W R h l i):l.length<=i:=
 QmT (lo:=0) hg.asc (fun a ha=>⟨Nat.zero_le _,hg.lt a ha⟩)
theorem Gath.mine (H:ShInv K z g) {R:Rec}{D:List Vd}(hR:Sum K R D) (ht:t<4) {l:List Ask}(hg:Gath z.w R t l 4):Qh (bR R l).tog t=(z.w t).tog:=by
 have hok:=hg.okA H
 by_cases h:∃a∈l,a.t=t
 · obtain⟨a,ha,e⟩:=h
   have h1:=QgU hR.ok hok (hg.asc.imp (fun h=>Nat.ne_of_lt h)) a ha
   have h2:Qh (bR R l).tog a.t=a.g:=by simpa [bOpen] using h1
   rw[<- e,h2];exact ((hg.want a ha).tog).symm
 · rcases hg.own ht with h1|h1
   · rw[(QeP hR.ok hok t ht (fun a ha e=>h ⟨a,ha,e⟩)).2.2];exact h1
   · exact absurd h1 h
theorem Glob.next (G:Glob K z g) (hs:z.steps<100000000) {l:List Ask}(hok:AsksOK l):Sum K (bDo g.R l) (z.deeds++(bD g.R l).map (Vd.mk (g.V+1)))/\(bDo g.R l).ver=g.V+1:=by
 have h1:=G.sumR.batch (g.V+1) hok
 have h2:=QhO l g.R
 have h3:=G.verR
 have h4:=G.vb
 have h5:=G.v0
 have h6:=G.vd
 refine⟨h1.at (by omega) (by omega),?_⟩
 show (bR g.R l).ver+1=_
 omega
theorem QeS {f:Nat->Int}{R:Rec}{B:Int}(h:RecOK B R) (e:∀j,j<32->f j=fL R.words j):toN 32 f=R.words:=
 (Qdl e).trans (QaP (Rec.words_len h))
theorem Qhu (H:ShInv K z g) (ht:t<4) (hs:z.steps<100000000) {w0:Wk}(hd:6<=(z.w t).does) (hd2:(z.w t).does<=7) (hV:g.V=g.dv) (hv:(z.w t).v=g.dv) (hi:0<=(z.w t).i) (hi4:(z.w t).i<4) (hr:∀j,j<32->(z.w t).r j=fL g.R.words j)
 {l:List Ask}(h0:w0={ z.w t with asks:=l,does:=6 }) (hG:Gath z.w g.R t l ((z.w t).i.toNat+1)):ShInv K (z.moved t ⟨(Wk.next w0 4 8).all,z.m,z.s⟩) g:=by
 have T:=H.th t ht
 have hth:=T.th
 subst h0
 have hho:Xm (z.w t):=⟨by omega,by omega⟩
 unfold Wk.next
 by_cases e4:(z.w t).i+1=4
 · rw[if_pos (by exact e4)]
   have hrec:Qlp (z.w t).r=g.R:=QiP H.gl.sumR.ok (by have:=H.gl.cb;omega) (QeS H.gl.sumR.ok hr)
   unfold Wk.all
   rw[if_pos rfl]
   dsimp only
   rw[hrec]
   have hG4:Gath z.w g.R t l 4:=by rw[show (4:Nat)=(z.w t).i.toNat+1 by omega];exact hG
   have hok:=hG4.okA H
   have hN:=(H.gl.next hs hok).1
   have hbit:Qh (bDo g.R l).tog t=(z.w t).tog:=hG4.mine H H.gl.sumR ht
   have htold:∃c v,QQ c v/\(bDo g.R l).ans.getD t 0=ansW c v/\(bDo g.R l).whn.getD t 0≠0:=by
    refine hN.told ht ?_
    have h1:=T.tog (by omega)
    rcases T.tg01 with h|h
    · exact .inl (by rw[hbit];omega)
    · refine .inr (H.gl.sumR.whn_mono hN ht ?_)
      rw[(H.gl.same hV).1];exact T.one h
   obtain⟨c,v,hA,ha,-⟩:=htold
   have hc:=Qcx hA
   refine H.moved ht rfl (fun u hu hne=>⟨rfl,rfl⟩) ?_ (Qz (d:=8) rfl (by decide) ⟨rfl,rfl,rfl,rfl,rfl⟩) (LockOK.keep H.lk ⟨fun _=>hho,fun _=>⟨by show (4:Int)<=8;decide,by show (8:Int)<=15;decide⟩⟩) (by omega) (fun hh=>?_)
   · exact T.busy (by omega) (by omega) ⟨rfl,rfl,rfl,rfl,rfl,rfl,rfl⟩ ⟨T.v0,T.v1⟩ (d:=8) rfl (fun h=>absurd h (by decide)) (by decide) (by decide)
   · refine hold8 (by rw[Qf]) hV (by rw[Qf];exact hv) (by rw[Qf];exact Int.le_refl 0) ⟨?_,?_,?_,?_⟩ ?_
     · rw[Qf]
       exact hG4.other (Qz (d:=8) rfl (by decide) ⟨rfl,rfl,rfl,rfl,rfl⟩) (fun _=>rfl)
     · rw[Qf]
     · rw[Qf];exact fun j _=>rfl
     · rw[Qf]
       have ew:fL (bDo g.R l).words (18+t)=ansW c v:=(Qeu hN.ok t ht).trans ha
       refine⟨hbit,?_,?_,?_⟩
       · show QQ (fL (bDo g.R l).words (18+(z.w t).th)/4294967296%4294967296) (fL (bDo g.R l).words (18+(z.w t).th)%4294967296)
         rw[hth,ew,hc.1,hc.2.1];exact hA
       · show _=ansW (fL (bDo g.R l).words (18+(z.w t).th)/4294967296%4294967296) (fL (bDo g.R l).words (18+(z.w t).th)%4294967296)
         rw[hth,ew,hc.1,hc.2.1];exact ha
       · show _=fL (bDo g.R l).words (22+(z.w t).th)
         rw[hth,Qfv hN.ok t ht];rfl
     · rw[Qf]
       exact⟨by show (0:Int)<32;decide,fun j hj=>by have hj:(j:Int)<0:=hj;omega⟩
 · rw[if_neg (by exact e4),Wk.all_not (by show (6:Int)≠8;decide)]
   refine H.moved ht rfl (fun u hu hne=>⟨rfl,rfl⟩) ?_ (Qz (d:=6) rfl (by decide) ⟨rfl,rfl,rfl,rfl,rfl⟩) (LockOK.keep H.lk ⟨fun _=>hho,fun _=>⟨by show (4:Int)<=6;decide,by show (6:Int)<=15;decide⟩⟩) (by omega) (fun hh=>?_)
   · exact T.busy (by omega) (by omega) ⟨rfl,rfl,rfl,rfl,rfl,rfl,rfl⟩ ⟨T.v0,T.v1⟩ (d:=6) rfl (fun h=>absurd h (by decide)) (by decide) (by decide)
   · refine hold6 (by rw[Qf]) hV (by rw[Qf];exact hv) (by rw[Qf];show 0<=(z.w t).i+1;omega) ?_
     rw[Qf]
     refine⟨by show (z.w t).i+1<4;omega,hr,?_⟩
     show Gath _ g.R t l ((z.w t).i+1).toNat
     rw[show ((z.w t).i+1).toNat=(z.w t).i.toNat+1 by omega]
     exact hG.other (Qz (d:=6) rfl (by decide) ⟨rfl,rfl,rfl,rfl,rfl⟩) (fun _=>rfl)
theorem Ql4 (H:ShInv K z g) (ht:t<4) (hd:(z.w t).does=4):ShInv K (z.stepped t) g:=by
 have T:=H.th t ht
 have hho:Xm (z.w t):=⟨by omega,by omega⟩
 have O:=H.ho t ht hho
 have hV:=O.low (.inl (by omega))
 have e:Qe (z.wst t)=(⟨{ z.w t with v:=z.m 1,i:=0,does:=5,asks:=[] },z.m,z.s⟩,false):=by
  simp[Qe,Xt,Sh.wst,hd]
 rw[Qo (by omega) e]
 have hv:0<=z.m 1/\z.m 1<=g.dv:=by rw[H.gl.done];exact⟨H.gl.v0,Int.le_refl _⟩
 refine H.moved ht rfl (fun u hu hne=>⟨rfl,rfl⟩) ?_ (Qz (d:=5) rfl (by decide) ⟨rfl,rfl,rfl,rfl,rfl⟩) (LockOK.keep H.lk ⟨fun _=>hho,fun _=>⟨by show (4:Int)<=5;decide,by show (5:Int)<=15;decide⟩⟩) (by omega) (fun hh=>?_)
 · exact T.busy (by omega) (by omega) ⟨rfl,rfl,rfl,rfl,rfl,rfl,rfl⟩ hv (d:=5) rfl (fun h=>absurd h (by decide)) (by decide) (by decide)
 · refine hold5 (by rw[Qf]) hV (by rw[Qf];exact H.gl.done) (by rw[Qf];exact Int.le_refl 0) ?_
   rw[Qf]
   exact⟨by show (0:Int)<32;decide,rfl,fun j hj=>by have hj:(j:Int)<0:=hj;omega⟩
theorem Ql3 (H:ShInv K z g) (ht:t<4) (hd:(z.w t).does=5):ShInv K (z.stepped t) g:=by
 have T:=H.th t ht
 have hho:Xm (z.w t):=⟨by omega,by omega⟩
 have O:=H.ho t ht hho
 have hV:=O.low (.inl (by omega))
 have hv:=O.ver (by omega) (by omega)
 have hi:=O.i0 (by omega)
 obtain⟨h32,has,hr⟩:=O.i5 hd
 have e:Qe (z.wst t)=(⟨Wk.next { z.w t with r:=putF (z.w t).r (z.w t).i.toNat (z.s.now (Qn (z.w t).v+(z.w t).i.toNat)) } 32 6,z.m,z.s⟩,false):=by
  simp[Qe,Xt,Sh.wst,hd]
 rw[Qo (by omega) e]
 have hr':∀j:Nat,(j:Int)<(z.w t).i+1->putF (z.w t).r (z.w t).i.toNat (z.s.now (Qn (z.w t).v+(z.w t).i.toNat)) j=fL g.R.words j:=fun j hj=>by
  by_cases ej:j=(z.w t).i.toNat
  · subst ej
    rw[QW,hv,<- hV]
    exact H.gl.nowR _ (by omega)
  · rw[Qs _ _ ej];exact hr j (by omega)
 unfold Wk.next
 by_cases e4:(z.w t).i+1=32
 · rw[if_pos (by exact e4)]
   refine H.moved ht rfl (fun u hu hne=>⟨rfl,rfl⟩) ?_ (Qz (d:=6) rfl (by decide) ⟨rfl,rfl,rfl,rfl,rfl⟩) (LockOK.keep H.lk ⟨fun _=>hho,fun _=>⟨by show (4:Int)<=6;decide,by show (6:Int)<=15;decide⟩⟩) (by omega) (fun hh=>?_)
   · exact T.busy (by omega) (by omega) ⟨rfl,rfl,rfl,rfl,rfl,rfl,rfl⟩ ⟨T.v0,T.v1⟩ (d:=6) rfl (fun h=>absurd h (by decide)) (by decide) (by decide)
   · refine hold6 (by rw[Qf]) hV (by rw[Qf];exact hv) (by rw[Qf];exact Int.le_refl 0) ?_
     rw[Qf]
     refine⟨by show (0:Int)<4;decide,fun j hj=>hr' j (by omega),?_⟩
     show Gath _ g.R t (z.w t).asks 0
     rw[has]
     exact⟨List.Pairwise.nil,fun a ha=>(by cases ha),fun a ha=>(by cases ha),fun h=>absurd h (Nat.not_lt_zero _)⟩
 · rw[if_neg (by exact e4)]
   refine H.moved ht rfl (fun u hu hne=>⟨rfl,rfl⟩) ?_ (Qz (d:=5) hd (by decide) ⟨rfl,rfl,rfl,rfl,rfl⟩) (LockOK.keep H.lk ⟨fun _=>hho,fun _=>⟨by show (4:Int)<=(z.w t).does;omega,by show (z.w t).does<=15;omega⟩⟩) (by omega) (fun hh=>?_)
   · exact T.busy (by omega) (by omega) ⟨rfl,rfl,rfl,rfl,rfl,rfl,rfl⟩ ⟨T.v0,T.v1⟩ (d:=5) hd (fun h=>absurd h (by decide)) (by decide) (by decide)
   · refine hold5 (by rw[Qf];exact hd) hV (by rw[Qf];exact hv) (by rw[Qf];show 0<=(z.w t).i+1;omega) ?_
     rw[Qf]
     exact⟨by show (z.w t).i+1<32;omega,has,hr'⟩
theorem ShInv.wants (H:ShInv K z g) {u:Nat}(hu:u<4) (h0:z.m (3+2*u)≠0) (h1:z.m (3+2*u)-1≠Qh g.R.tog u):(z.w u).does≠0/\(z.w u).said=true/\z.m (3+2*u)-1=(z.w u).tog/\z.m (2+2*u)=opW (z.w u).k (z.w u).key (z.w u).x:=by
 have T:=H.th u hu
 have hn:(z.w u).does≠0:=fun h=>by
  obtain⟨a,-,b⟩:=T.idle h
  rcases b with b|b<;>omega
 cases hs:(z.w u).said
 · rcases T.uns hn hs with h|⟨h,h2,-⟩
   · exact absurd h h0
   · exact absurd h2 (by omega)
 · have:=T.sai hn hs
   exact⟨hn,rfl,by omega,this.2⟩
theorem Ql2 (H:ShInv K z g) (ht:t<4) (hs:z.steps<100000000) (hd:(z.w t).does=6):ShInv K (z.stepped t) g:=by
 have T:=H.th t ht
 have hho:Xm (z.w t):=⟨by omega,by omega⟩
 have O:=H.ho t ht hho
 have hV:=O.low (.inl (by omega))
 have hv:=O.ver (by omega) (by omega)
 have hi:=O.i0 (by omega)
 obtain⟨h4,hr,hG⟩:=O.i6 hd
 have h26:(z.w t).r 26=g.R.tog:=(hr 26 (by decide)).trans (Qa5 H.gl.sumR.ok)
 have hu:(z.w t).i.toNat<4:=by omega
 by_cases hc:z.m (3+2*(z.w t).i.toNat)≠0/\z.m (3+2*(z.w t).i.toNat)-1≠Qh ((z.w t).r 26) (z.w t).i.toNat
 · have e:Qe (z.wst t)=(⟨{ z.w t with asks:=(z.w t).asks++[⟨(z.w t).i.toNat,z.m (3+2*(z.w t).i.toNat)-1,0,0,0⟩],does:=7 },z.m,z.s⟩,false):=by
    have h2:Qe (z.wst t)=(Xt (z.wst t),false):=by simp[Qe,Sh.wst,hd]
    rw[h2]
    unfold Xt
    rw[if_neg (by show ¬(z.w t).does=4;omega),if_neg (by show ¬(z.w t).does=5;omega),if_pos (by exact hd),if_pos (by exact hc)];rfl
   rw[Qo (by omega) e]
   obtain⟨w1,w2,w3,w4⟩:=H.wants hu hc.1 (by rw[<- h26];exact hc.2)
   refine H.moved ht rfl (fun u hu hne=>⟨rfl,rfl⟩) ?_ (Qz (d:=7) rfl (by decide) ⟨rfl,rfl,rfl,rfl,rfl⟩) (LockOK.keep H.lk ⟨fun _=>hho,fun _=>⟨by show (4:Int)<=7;decide,by show (7:Int)<=15;decide⟩⟩) (by omega) (fun hh=>?_)
   · exact T.busy (by omega) (by omega) ⟨rfl,rfl,rfl,rfl,rfl,rfl,rfl⟩ ⟨T.v0,T.v1⟩ (d:=7) rfl (fun h=>absurd h (by decide)) (by decide) (by decide)
   · generalize hw':({ z.w t with asks:=(z.w t).asks++[⟨(z.w t).i.toNat,z.m (3+2*(z.w t).i.toNat)-1,0,0,0⟩],does:=7 }:Wk)=w'
     have f1:w'.does=7/\w'.v=(z.w t).v/\w'.i=(z.w t).i/\w'.r=(z.w t).r/\w'.asks=(z.w t).asks++[⟨(z.w t).i.toNat,z.m (3+2*(z.w t).i.toNat)-1,0,0,0⟩]/\w'.tog=(z.w t).tog/\w'.said=(z.w t).said/\w'.k=(z.w t).k/\w'.key=(z.w t).key/\w'.x=(z.w t).x:=by
      subst hw';exact⟨rfl,rfl,rfl,rfl,rfl,rfl,rfl,rfl,rfl,rfl⟩
     obtain⟨f1,f2,f3,f4,f5,f6,f7,f8,f9,f10⟩:=f1
     have key:(setF z.w t w' (z.w t).i.toNat).does≠0/\(setF z.w t w' (z.w t).i.toNat).said=true/\(setF z.w t w' (z.w t).i.toNat).tog=(z.w (z.w t).i.toNat).tog:=by
      by_cases eu:(z.w t).i.toNat=t
      · rw[eu,Qf,f1,f6,f7]
        rw[eu]at w2
        exact⟨by decide,w2,rfl⟩
      · rw[QR _ _ eu];exact⟨w1,w2,rfl⟩
     refine hold7 (by rw[Qf];exact f1) hV (by rw[Qf,f2];exact hv) (by rw[Qf,f3];exact hi) ?_
     rw[Qf,f3,f4,f5,key.2.2]
     exact⟨h4,hr,(z.w t).asks,by rw[w3],hG.other (Qz f1 (by decide) ⟨f6,f7,f8,f9,f10⟩) (fun _=>f6),key.1,key.2.1,by rw[<- w3,<- h26];exact fun h=>hc.2 h.symm⟩
 · have e:Qe (z.wst t)=(⟨(Wk.next (z.w t) 4 8).all,z.m,z.s⟩,false):=by
    have h2:Qe (z.wst t)=(Xt (z.wst t),false):=by simp[Qe,Sh.wst,hd]
    rw[h2]
    unfold Xt
    rw[if_neg (by show ¬(z.w t).does=4;omega),if_neg (by show ¬(z.w t).does=5;omega),if_pos (by exact hd),if_neg (by exact hc)];rfl
   rw[Qo (by omega) e]
   have h0:z.w t={ z.w t with asks:=(z.w t).asks,does:=6 }:=by rw[<- hd]
   refine Qhu H ht hs (by omega) (by omega) hV hv hi h4 hr h0 ⟨hG.asc,fun a ha=>Nat.lt_succ_of_lt (hG.lt a ha),hG.want,fun hlt=>?_⟩
   by_cases eu:(z.w t).i.toNat=t
   · refine .inl ?_
     have h1:=T.sai (by omega) (T.s3 (by omega) (by omega))
     have h2:=T.tog (by omega)
     have h3:=T.tg01
     rw[h26,eu]at hc
     refine Classical.byContradiction fun hne=>hc ⟨by omega,fun h=>hne (by omega)⟩
   · exact hG.own (by omega)
theorem Ql1 (H:ShInv K z g) (ht:t<4) (hs:z.steps<100000000) (hd:(z.w t).does=7):ShInv K (z.stepped t) g:=by
 have T:=H.th t ht
 have hho:Xm (z.w t):=⟨by omega,by omega⟩
 have O:=H.ho t ht hho
 have hV:=O.low (.inl (by omega))
 have hv:=O.ver (by omega) (by omega)
 have hi:=O.i0 (by omega)
 obtain⟨h4,hr,l,hl,hG,w1,w2,w3⟩:=O.i7 hd
 have hu:(z.w t).i.toNat<4:=by omega
 have U:=H.th _ hu
 have hop:=Qgm (U.op w1)
 have hmo:=(U.sai w1 w2).2
 have e:Qe (z.wst t)=(⟨(Wk.next { z.w t with asks:=l++[⟨(z.w t).i.toNat,(z.w (z.w t).i.toNat).tog,(z.w (z.w t).i.toNat).k,(z.w (z.w t).i.toNat).key,(z.w (z.w t).i.toNat).x⟩],does:=6 } 4 8).all,z.m,z.s⟩,false):=by
  have h2:Qe (z.wst t)=(Xt (z.wst t),false):=by simp[Qe,Sh.wst,hd]
  rw[h2]
  unfold Xt
  rw[if_neg (by show ¬(z.w t).does=4;omega),if_neg (by show ¬(z.w t).does=5;omega),if_neg (by show ¬(z.w t).does=6;omega)]
  show ((⟨(Wk.next { z.w t with asks:=Q9 (z.w t).asks (z.m (2+2*(z.w t).i.toNat)/281474976710656%65536) (z.m (2+2*(z.w t).i.toNat)/4294967296%65536) (z.m (2+2*(z.w t).i.toNat)%4294967296),does:=6 } 4 8).all,z.m,z.s⟩:WSt),false)=_
  rw[hl,QaA,hmo,hop.1,hop.2.1,hop.2.2.1]
 rw[Qo (by omega) e]
 refine Qhu H ht hs (by omega) (by omega) hV hv hi h4 hr rfl ⟨?_,fun a ha=>?_,fun a ha=>?_,fun hlt=>?_⟩
 · exact List.pairwise_append.2 ⟨hG.asc,List.pairwise_singleton _ _,fun a ha b hb=>by obtain rfl:=List.mem_singleton.1 hb;exact hG.lt a ha⟩
 · rcases List.mem_append.1 ha with ha|ha
   · exact Nat.lt_succ_of_lt (hG.lt a ha)
   · obtain rfl:=List.mem_singleton.1 ha;exact Nat.lt_succ_self _
 · rcases List.mem_append.1 ha with ha|ha
   · exact hG.want a ha
   · obtain rfl:=List.mem_singleton.1 ha;exact⟨hu,w1,w2,rfl,rfl,rfl,rfl,w3⟩
 · by_cases eu:(z.w t).i.toNat=t
   · exact .inr ⟨_,List.mem_append_right _ (List.mem_singleton.2 rfl),eu⟩
   · rcases hG.own (by omega)with h|⟨a,ha,h⟩
     · exact .inl h
     · exact .inr ⟨a,List.mem_append_left _ ha,h⟩
end
end
section
theorem QoB (v:Int):(Qn v=8/\Qn (v+1)=40)\/(Qn v=40/\Qn (v+1)=8):=by unfold Qn;omega
theorem QeO (v:Int):Qn v=8\/Qn v=40:=by unfold Qn;omega
theorem HasRec.put {f:Nat->Int}{v:Int}{R:Rec}(h:HasRec f v R) {a:Nat}{x:Int}(ha:∀i,i<32->a≠Qn v+i):HasRec (putF f a x) v R:=fun i hi=>by
 rw[Qs _ _ (fun e=>ha i hi e.symm)];exact h i hi
theorem SlotOK.put {f:Nat->Int}{b:Nat}(h:SlotOK f b) (hb:b=8\/b=40) {B:Int}{q:Rec}(hq:RecOK B q) (hB:B<=1099511627776) {v:Int}{i:Nat}(hi:i<32):SlotOK (putF f (Qn v+i) (fL q.words i)) b:=by
 have h1:=QeO v
 refine⟨?_,fun t ht=>⟨?_,?_⟩⟩
 · by_cases e:b+26=Qn v+i
   · obtain rfl:i=26:=by omega
     rw[e,QW,Qa5 hq];exact⟨hq.g0,hq.g1⟩
   · rw[Qs _ _ e];exact h.1
 · by_cases e:b+18+t=Qn v+i
   · obtain rfl:i=18+t:=by omega
     rw[e,QW];exact (QfR hq hB t ht).1
   · rw[Qs _ _ e];exact (h.2 t ht).1
 · by_cases e:b+22+t=Qn v+i
   · obtain rfl:i=22+t:=by omega
     rw[e,QW];exact (QfR hq hB t ht).2
   · rw[Qs _ _ e];exact (h.2 t ht).2
theorem SlotsOK.put {f:Nat->Int}(h:SlotsOK f) {B:Int}{q:Rec}(hq:RecOK B q) (hB:B<=1099511627776) {v:Int}{i:Nat}(hi:i<32):SlotsOK (putF f (Qn v+i) (fL q.words i)):=
 ⟨h.1.put (.inl rfl) hq hB hi,h.2.put (.inr rfl) hq hB hi⟩
theorem SlotsOK.put0 {f:Nat->Int}(h:SlotsOK f) (x:Int):SlotsOK (putF f 0 x):=by
 refine⟨⟨?_,fun t ht=>⟨?_,?_⟩⟩,⟨?_,fun t ht=>⟨?_,?_⟩⟩⟩<;>rw[Qs _ _ (by omega)]
 · exact h.1.1
 · exact (h.1.2 t ht).1
 · exact (h.1.2 t ht).2
 · exact h.2.1
 · exact (h.2.2 t ht).1
 · exact (h.2.2 t ht).2
theorem SlotOK.mix {f f1 f2:Nat->Int}{b:Nat}(h1:SlotOK f1 b) (h2:SlotOK f2 b) (h:∀i,f i=f1 i\/f i=f2 i):SlotOK f b:=by
 refine⟨?_,fun t ht=>⟨?_,?_⟩⟩
 · rcases h (b+26)with e|e<;>rw[e]
   · exact h1.1
   · exact h2.1
 · rcases h (b+18+t)with e|e<;>rw[e]
   · exact (h1.2 t ht).1
   · exact (h2.2 t ht).1
 · rcases h (b+22+t)with e|e<;>rw[e]
   · exact (h1.2 t ht).2
   · exact (h2.2 t ht).2
theorem SlotsOK.mix {f f1 f2:Nat->Int}(h1:SlotsOK f1) (h2:SlotsOK f2) (h:∀i,f i=f1 i\/f i=f2 i):SlotsOK f:=⟨h1.1.mix h2.1 h,h1.2.mix h2.2 h⟩
theorem HasRec.mix {f f1 f2:Nat->Int}{v:Int}{R:Rec}(h1:HasRec f1 v R) (h2:HasRec f2 v R) (h:∀i,f i=f1 i\/f i=f2 i):HasRec f v R:=fun i hi=>by
 rcases h (Qn v+i)with e|e<;>rw[e]
 · exact h1 i hi
 · exact h2 i hi
theorem Qoe (s:Sto) (t n:Nat) (i:Nat):s.firm t n i=s.good i\/s.firm t n i=s.now i:=by
 unfold Sto.firm
 cases decide (i/8<n) && !(s.want (9*t+i/8)==0)
 · exact .inl rfl
 · exact .inr rfl
theorem Qmq (s:Sto) (t i:Nat) (h:i<72) (hw:s.want (9*t+i/8)≠0):s.firm t 9 i=s.now i:=by
 unfold Sto.firm
 rw[decide_eq_true (by omega),show (s.want (9*t+i/8)==0)=false from beq_eq_false_iff_ne.2 hw];rfl
section
variable {K:Int}{z z':Sh}{g:Gh}{t:Nat}
theorem Glob.mix (G:Glob K z g) (hn:z'.s.now=z.s.now) (hg:∀i,z'.s.good i=z.s.good i\/z'.s.good i=z.s.now i) (hm:z'.m 1=z.m 1) (hd:z'.deeds=z.deeds) (hs:z.steps<=z'.steps) (f1:0<=z'.s.fl) (f2:z'.s.fl<=z'.steps) (f3:0<=z'.s.fe) (f4:z'.s.fe<=z'.steps):Glob K z' g where
 k1:=G.k1
 k6:=G.k6
 v0:=G.v0
 vd:=G.vd
 now0:=by rw[hn];exact G.now0
 good0:=by
  rcases hg 0 with h|h<;>rw[h]
  · exact G.good0
  · exact .inr G.now0
 done:=hm.trans G.done
 same:=by rw[hd];exact G.same
 sumR:=by rw[hd];exact G.sumR
 verR:=G.verR
 topR:=by rw[hd];exact G.topR
 nle:=by rw[hd];exact G.nle
 sumQ:=by rw[hd];exact G.sumQ
 verQ:=G.verQ
 topQ:=by rw[hd];exact G.topQ
 lateQ:=by rw[hd];exact G.lateQ
 nowR:=by rw[hn];exact G.nowR
 goodR:=G.goodR.mix G.nowR hg
 nowQ:=by rw[hn];exact G.nowQ
 goodQ:=G.goodQ.mix G.nowQ hg
 rNow:=by rw[hn];exact G.rNow
 rGood:=G.rGood.mix G.rNow hg
 vb:=Int.le_trans G.vb hs
 cb:=by rw[hd];have:=G.cb;omega
 fl0:=f1
 fl1:=f2
 fe0:=f3
 fe1:=f4
theorem ShInv.holder (H:ShInv K z g) (ht:t<4) (hh:Xm (z.w t)) {w':Wk}{s':Sto}{d:Int}(hd:w'.does=d) (h4:4<=d) (h15:d<=15) (G:Glob K (z.moved t ⟨w',z.m,s'⟩) g) (e:w'.th=(z.w t).th/\w'.tog=(z.w t).tog/\w'.said=(z.w t).said/\w'.k=(z.w t).k/\w'.key=(z.w t).key/\w'.x=(z.w t).x/\w'.seen=(z.w t).seen) (hv:w'.v=(z.w t).v) (hi:d<=4\/10<=d->w'.i=0)
 (hm:g.V=g.dv+1->12<=d/\d<=14) (O:HoldOK g t (setF z.w t w') s'):ShInv K (z.moved t ⟨w',z.m,s'⟩) g:=by
 have T:=H.th t ht
 have ho:=LockOK.one H.lk ht hh
 refine⟨G,fun u hu=>?_,LockOK.keep H.lk ⟨fun _=>hh,fun _=>⟨by show 4<=w'.does;omega,by show w'.does<=15;omega⟩⟩,fun hV=>?_,fun u hu hu'=>?_⟩
 · show ThB g u (setF z.w t w' u) (z.tog u) (z.m (2+2*u)) (z.m (3+2*u))
   by_cases eu:u=t
   · subst eu;rw[Qf]
     exact T.busy (by have:=hh.1;omega) hh.2 e (by rw[hv];exact⟨T.v0,T.v1⟩) hd hi (by omega) (by omega)
   · rw[QR _ _ eu];exact H.th u hu
 · have h:=hm hV
   exact⟨t,ht,by show 12<=(setF z.w t w' t).does;rw[Qf];omega,by show (setF z.w t w' t).does<=14;rw[Qf];omega⟩
 · by_cases eu:u=t
   · subst eu;exact O
   · have h2:Xm (setF z.w t w' u):=hu'
     rw[QR _ _ eu]at h2
     exact absurd h2 (ho.2 u hu eu)
theorem Glob.save (G:Glob K z g) (hs:z.steps<100000000) {w':Wk}{B:Int}{q:Rec}(hq:RecOK B q) (hB:B<=1099511627776) (hV:g.V=g.dv) {i:Nat}(hi:i<32):Glob K (z.moved t ⟨w',z.m,z.s.save (Qn (g.V+1)+i) (fL q.words i)⟩) g:=by
 have hb:=QoB g.V
 have hne:∀j,j<32->Qn (g.V+1)+i≠Qn g.V+j:=fun j hj=>by omega
 refine⟨G.k1,G.k6,G.v0,G.vd,?_,G.good0,G.done,G.same,G.sumR,G.verR,G.topR,G.nle,G.sumQ,G.verQ,G.topQ,G.lateQ,G.nowR.put hne,G.goodR,?_,G.goodQ,G.rNow.put hq hB hi,G.rGood,?_,?_,G.fl0,?_,G.fe0,?_⟩
 · show putF z.s.now _ _ 0=g.V
   rw[Qs _ _ (by omega)];exact G.now0
 · have:=G.nowQ
   refine this.put ?_
   rw[<- hV];exact hne
 · have:=G.vb;show g.V<=z.steps+1;omega
 · have:=G.cb;show (z.deeds.length:Int)<=4*(z.steps+1);omega
 · have:=G.fl1;show z.s.fl<=z.steps+1;omega
 · have:=G.fe1;show z.s.fe<=z.steps+1;omega
theorem Ql0 (H:ShInv K z g) (ht:t<4) (hs:z.steps<100000000) (hd:(z.w t).does=8):ShInv K (z.stepped t) g:=by
 have T:=H.th t ht
 have hho:Xm (z.w t):=⟨by omega,by omega⟩
 have O:=H.ho t ht hho
 have hV:=O.low (.inl (by omega))
 have hv:=O.ver (by omega) (by omega)
 have hi:=O.i0 (by omega)
 obtain⟨hG,hD,hr,hT⟩:=O.nx (by omega) (by omega)
 obtain⟨h32,hw⟩:=O.i8 hd
 have hN:=H.gl.next hs (hG.okA H)
 have hB:((z.deeds++(bD g.R (z.w t).asks).map (Vd.mk (g.V+1))).length:Int)<=1099511627776:=by
  have h1:=QoD (z.w t).asks g.R
  have h2:=hG.len
  have h3:=H.gl.cb
  rw[List.length_append,List.length_map];omega
 have e:Qe (z.wst t)=(⟨Wk.next (z.w t) 32 9,z.m,z.s.save (Qn (g.V+1)+(z.w t).i.toNat) (fL (bDo g.R (z.w t).asks).words (z.w t).i.toNat)⟩,false):=by
  have h2:Qe (z.wst t)=(Xf (z.wst t),false):=by simp[Qe,Sh.wst,hd]
  rw[h2]
  unfold Xf
  rw[if_pos (by exact hd)]
  show ((⟨Wk.next (z.w t) 32 9,z.m,z.s.save (Qn ((z.w t).v+1)+(z.w t).i.toNat) ((z.w t).r (z.w t).i.toNat)⟩:WSt),false)=_
  rw[hv,<- hV,hr _ (by omega)]
 rw[Qo (by omega) e]
 have G:=H.gl.save (t:=t) (w':=Wk.next (z.w t) 32 9) hs hN.1.ok hB hV (i:=(z.w t).i.toNat) (by omega)
 have hw':∀j:Nat,(j:Int)<(z.w t).i+1->putF z.s.now (Qn (g.V+1)+(z.w t).i.toNat) (fL (bDo g.R (z.w t).asks).words (z.w t).i.toNat) (Qn (g.V+1)+j)=fL (bDo g.R (z.w t).asks).words j:=fun j hj=>by
  by_cases ej:j=(z.w t).i.toNat
  · subst ej;rw[QW]
  · rw[Qs _ _ (by omega)];exact hw j (by omega)
 unfold Wk.next at G ⊢
 by_cases e4:(z.w t).i+1=32
 · rw[if_pos e4]at G ⊢
   refine H.holder ht hho (d:=9) rfl (by decide) (by decide) G ⟨rfl,rfl,rfl,rfl,rfl,rfl,rfl⟩ rfl (fun h=>absurd h (by decide)) (fun h=>absurd h (by omega)) ?_
   refine hold9 (by rw[Qf]) hV (by rw[Qf];exact hv) (by rw[Qf];exact Int.le_refl 0) ?_ ?_
   · unfold QdT
     rw[Qf]
     exact⟨hG.other (Qz (d:=9) rfl (by decide) ⟨rfl,rfl,rfl,rfl,rfl⟩) (fun _=>rfl),hD,hr,⟨hT.bit,hT.ok,hT.ans,hT.whn⟩⟩
   · rw[Qf]
     exact⟨by show (0:Int)<4;decide,fun j hj=>hw' j (by omega),fun l hl=>by have hl:(l:Int)<0:=hl;omega⟩
 · rw[if_neg e4]at G ⊢
   refine H.holder ht hho (d:=8) hd (by decide) (by decide) G ⟨rfl,rfl,rfl,rfl,rfl,rfl,rfl⟩ rfl (fun h=>absurd h (by decide)) (fun h=>absurd h (by omega)) ?_
   refine hold8 (by rw[Qf];exact hd) hV (by rw[Qf];exact hv) (by rw[Qf];show 0<=(z.w t).i+1;omega) ?_ ?_
   · unfold QdT
     rw[Qf]
     exact⟨hG.other (Qz (d:=8) hd (by decide) ⟨rfl,rfl,rfl,rfl,rfl⟩) (fun _=>rfl),hD,hr,⟨hT.bit,hT.ok,hT.ans,hT.whn⟩⟩
   · rw[Qf]
     exact⟨by show (z.w t).i+1<32;omega,hw'⟩
theorem Glob.flush (G:Glob K z g) {w':Wk}{l:Nat}:Glob K (z.moved t ⟨w',z.m,z.s.flush t l⟩) g:=
 G.mix rfl (fun _=>.inl rfl) rfl rfl (by show z.steps<=z.steps+1;omega) (by have:=G.fl0;show 0<=z.s.fl+1;omega) (by have:=G.fl1;show z.s.fl+1<=z.steps+1;omega) G.fe0 (by have:=G.fe1;show z.s.fe<=z.steps+1;omega)
theorem Glob.fence (G:Glob K z g) {w':Wk}:Glob K (z.moved t ⟨w',z.m,z.s.fence t⟩) g:=
 G.mix rfl (fun i=>Qoe z.s t 9 i) rfl rfl (by show z.steps<=z.steps+1;omega) G.fl0 (by have:=G.fl1;show z.s.fl<=z.steps+1;omega) (by have:=G.fe0;show 0<=z.s.fe+1;omega) (by have:=G.fe1;show z.s.fe+1<=z.steps+1;omega)
theorem QlZ (H:ShInv K z g) (ht:t<4) (hd:(z.w t).does=9):ShInv K (z.stepped t) g:=by
 have T:=H.th t ht
 have hth:=T.th
 have hho:Xm (z.w t):=⟨by omega,by omega⟩
 have O:=H.ho t ht hho
 have hV:=O.low (.inl (by omega))
 have hv:=O.ver (by omega) (by omega)
 have hi:=O.i0 (by omega)
 obtain⟨hG,hD,hr,hT⟩:=O.nx (by omega) (by omega)
 obtain⟨h4,hR,hw⟩:=O.i9 hd
 have e:Qe (z.wst t)=(⟨Wk.next (z.w t) 4 10,z.m,z.s.flush t (Qn (g.V+1)/8+(z.w t).i.toNat)⟩,false):=by
  have h2:Qe (z.wst t)=(Xf (z.wst t),false):=by simp[Qe,Sh.wst,hd]
  rw[h2]
  unfold Xf
  rw[if_neg (by show ¬(z.w t).does=8;omega),if_pos (by exact hd)]
  show ((⟨Wk.next (z.w t) 4 10,z.m,z.s.flush (z.w t).th (Qn ((z.w t).v+1)/8+(z.w t).i.toNat)⟩:WSt),false)=_
  rw[hv,<- hV,hth]
 rw[Qo (by omega) e]
 have G:=H.gl.flush (t:=t) (w':=Wk.next (z.w t) 4 10) (l:=Qn (g.V+1)/8+(z.w t).i.toNat)
 have hw':∀l:Nat,(l:Int)<(z.w t).i+1->putF z.s.want (9*t+(Qn (g.V+1)/8+(z.w t).i.toNat)) 1 (9*t+(Qn (g.V+1)/8+l))≠0:=fun l hl=>by
  by_cases ej:l=(z.w t).i.toNat
  · subst ej;rw[QW];decide
  · rw[Qs _ _ (by omega)];exact hw l (by omega)
 unfold Wk.next at G ⊢
 by_cases e4:(z.w t).i+1=4
 · rw[if_pos e4]at G ⊢
   refine H.holder ht hho (d:=10) rfl (by decide) (by decide) G ⟨rfl,rfl,rfl,rfl,rfl,rfl,rfl⟩ rfl (fun _=>rfl) (fun h=>absurd h (by omega)) ?_
   refine hold10 (by rw[Qf]) hV (by rw[Qf];exact hv) ?_ ?_
   · unfold QdT
     rw[Qf]
     exact⟨hG.other (Qz (d:=10) rfl (by decide) ⟨rfl,rfl,rfl,rfl,rfl⟩) (fun _=>rfl),hD,hr,⟨hT.bit,hT.ok,hT.ans,hT.whn⟩⟩
   · rw[Qf]
     exact⟨hR,fun l hl=>hw' l (by omega)⟩
 · rw[if_neg e4]at G ⊢
   refine H.holder ht hho (d:=9) hd (by decide) (by decide) G ⟨rfl,rfl,rfl,rfl,rfl,rfl,rfl⟩ rfl (fun h=>absurd h (by decide)) (fun h=>absurd h (by omega)) ?_
   refine hold9 (by rw[Qf];exact hd) hV (by rw[Qf];exact hv) (by rw[Qf];show 0<=(z.w t).i+1;omega) ?_ ?_
   · unfold QdT
     rw[Qf]
     exact⟨hG.other (Qz (d:=9) hd (by decide) ⟨rfl,rfl,rfl,rfl,rfl⟩) (fun _=>rfl),hD,hr,⟨hT.bit,hT.ok,hT.ans,hT.whn⟩⟩
   · rw[Qf]
     exact⟨by show (z.w t).i+1<4;omega,hR,hw'⟩
theorem Qki (H:ShInv K z g) (ht:t<4) (hd:(z.w t).does=10):ShInv K (z.stepped t) g:=by
 have T:=H.th t ht
 have hth:=T.th
 have hho:Xm (z.w t):=⟨by omega,by omega⟩
 have O:=H.ho t ht hho
 have hV:=O.low (.inl (by omega))
 have hv:=O.ver (by omega) (by omega)
 obtain⟨hG,hD,hr,hT⟩:=O.nx (by omega) (by omega)
 obtain⟨hR,hw⟩:=O.i10 hd
 have e:Qe (z.wst t)=(⟨{ z.w t with does:=11 },z.m,z.s.fence t⟩,false):=by
  simp[Qe,Xf,Sh.wst,hd,hth]
 rw[Qo (by omega) e]
 refine H.holder ht hho (d:=11) rfl (by decide) (by decide) H.gl.fence ⟨rfl,rfl,rfl,rfl,rfl,rfl,rfl⟩ rfl (fun _=>T.ii (by omega)) (fun h=>absurd h (by omega)) ?_
 refine hold11 (by rw[Qf]) hV (by rw[Qf];exact hv) ?_ ?_
 · unfold QdT
   rw[Qf]
   exact⟨hG.other (Qz (d:=11) rfl (by decide) ⟨rfl,rfl,rfl,rfl,rfl⟩) (fun _=>rfl),hD,hr,⟨hT.bit,hT.ok,hT.ans,hT.whn⟩⟩
 · rw[Qf]
   refine⟨hR,fun j hj=>?_⟩
   have hb:=QeO (g.V+1)
   have h8:(Qn (g.V+1)+j)/8=Qn (g.V+1)/8+j/8:=by omega
   show z.s.firm t 9 (Qn (g.V+1)+j)=_
   rw[Qmq z.s t _ (by omega) (by rw[h8];exact hw (j/8) (by omega))]
   exact hR j hj
theorem Qkg (H:ShInv K z g) (ht:t<4) (hd:(z.w t).does=12):ShInv K (z.stepped t) g:=by
 have T:=H.th t ht
 have hth:=T.th
 have hho:Xm (z.w t):=⟨by omega,by omega⟩
 have O:=H.ho t ht hho
 have hV:=O.mid (by omega) (by omega)
 have hv:=O.ver (by omega) (by omega)
 have hT:=O.told (by omega) (by omega)
 have e:Qe (z.wst t)=(⟨{ z.w t with does:=13 },z.m,z.s.flush t 0⟩,false):=by
  simp[Qe,Xf,Sh.wst,hd,hth]
 rw[Qo (by omega) e]
 refine H.holder ht hho (d:=13) rfl (by decide) (by decide) H.gl.flush ⟨rfl,rfl,rfl,rfl,rfl,rfl,rfl⟩ rfl (fun _=>T.ii (by omega)) (fun _=>⟨by decide,by decide⟩) ?_
 refine hold13 (by rw[Qf]) hV (by rw[Qf];exact hv) (by rw[Qf];exact⟨hT.bit,hT.ok,hT.ans,hT.whn⟩) ?_
 show putF z.s.want (9*t+0) 1 (9*t)≠0
 rw[Nat.add_zero,QW];decide
theorem Qkf (H:ShInv K z g) (ht:t<4) (hd:(z.w t).does=13):ShInv K (z.stepped t) g:=by
 have T:=H.th t ht
 have hth:=T.th
 have hho:Xm (z.w t):=⟨by omega,by omega⟩
 have O:=H.ho t ht hho
 have hV:=O.mid (by omega) (by omega)
 have hv:=O.ver (by omega) (by omega)
 have hT:=O.told (by omega) (by omega)
 have e:Qe (z.wst t)=(⟨{ z.w t with does:=14 },z.m,z.s.fence t⟩,false):=by
  simp[Qe,Xf,Sh.wst,hd,hth]
 rw[Qo (by omega) e]
 refine H.holder ht hho (d:=14) rfl (by decide) (by decide) H.gl.fence ⟨rfl,rfl,rfl,rfl,rfl,rfl,rfl⟩ rfl (fun _=>T.ii (by omega)) (fun _=>⟨by decide,by decide⟩) ?_
 refine hold14 (by rw[Qf]) hV (by rw[Qf];exact hv) (by rw[Qf];exact⟨hT.bit,hT.ok,hT.ans,hT.whn⟩) ?_
 show z.s.firm t 9 0=g.V
 rw[Qmq z.s t 0 (by decide) (by rw[show 9*t+0/8=9*t by omega];exact O.i13 hd)]
 exact H.gl.now0
theorem ThB.index {g:Gh}{u:Nat}{w:Wk}{tg mo ms:Int}(T:ThB g u w tg mo ms) {V':Int}{R':Rec}
 (h:(Qh R'.tog u=Qh g.R.tog u/\R'.ans.getD u 0=g.R.ans.getD u 0/\R'.whn.getD u 0=g.R.whn.getD u 0)\/(w.does≠0/\w.said=true/\Qh g.R.tog u≠w.tog/\Qh R'.tog u=w.tog)):ThB ⟨V',R',g.dv,g.Q,g.n⟩ u w tg mo ms:=by
 rcases h with⟨h1,h2,h3⟩|⟨h1,h2,h3,h4⟩
 · exact { T with
    idle:=fun h=>by rw[show (⟨V',R',g.dv,g.Q,g.n⟩:Gh).R=R' from rfl,h1];exact T.idle h
    qr:=fun h hq=>h1.trans (T.qr h hq)
    uns:=fun h hs=>by rw[show (⟨V',R',g.dv,g.Q,g.n⟩:Gh).R=R' from rfl,h1];exact T.uns h hs
    rep:=fun h=>⟨(T.rep h).1,⟨h1.trans (T.rep h).2.bit,(T.rep h).2.ok,h2.trans (T.rep h).2.ans,h3.trans (T.rep h).2.whn⟩⟩ }
 · exact { T with
    idle:=fun h=>absurd h h1
    qr:=fun _ _=>h4
    uns:=fun _ hs=>by rw[h2]at hs;cases hs
    rep:=fun h=>absurd (T.rep h).2.bit h3 }
theorem QbU {z:Sh}{t:Nat}{r:WSt}(hd:(z.w t).does=11) (e:Qe (z.wst t)=(r,false)):z.stepped t=(z.moved t r).counted r.w.deeds:=by
 unfold Sh.stepped
 rw[e]
 dsimp only
 rw[if_pos hd];rfl
theorem Qkh (H:ShInv K z g) (ht:t<4) (hs:z.steps<100000000) (hd:(z.w t).does=11):ShInv K (z.stepped t) ⟨g.V+1,bDo g.R (z.w t).asks,g.dv,g.Q,g.n⟩:=by
 have T:=H.th t ht
 have hth:=T.th
 have hho:Xm (z.w t):=⟨by omega,by omega⟩
 have O:=H.ho t ht hho
 have hV:=O.low (.inl (by omega))
 have hv:=O.ver (by omega) (by omega)
 have hone:=LockOK.one H.lk ht hho
 obtain⟨hG,hD,hr,hT⟩:=O.nx (by omega) (by omega)
 obtain⟨hR,hRg⟩:=O.i11 hd
 have hok:=hG.okA H
 have hN:=H.gl.next hs hok
 have e:Qe (z.wst t)=(⟨{ z.w t with does:=12 },z.m,z.s.save 0 ((z.w t).v+1)⟩,false):=by
  simp[Qe,Xf,Sh.wst,hd,hth]
 rw[QbU hd e]
 have hn0:putF z.s.now 0 ((z.w t).v+1) 0=g.V+1:=by rw[QW,hv,hV]
 have hdeeds:((z.moved t ⟨{ z.w t with does:=12 },z.m,z.s.save 0 ((z.w t).v+1)⟩).counted (z.w t).deeds).deeds=z.deeds++(bD g.R (z.w t).asks).map (Vd.mk (g.V+1)):=by
  show z.deeds++(z.w t).deeds.map (Vd.mk (putF z.s.now 0 ((z.w t).v+1) 0))=_
  rw[hn0,hD]
 have G:=H.gl
 obtain⟨hRQ,hn⟩:=G.same hV
 have hb1:=QeO (g.V+1)
 have hb0:=QeO g.dv
 have htake:(z.deeds++(bD g.R (z.w t).asks).map (Vd.mk (g.V+1))).take g.n=z.deeds.take g.n:=by
  rw[hn,List.take_left',List.take_length];rfl
 have hdrop:(z.deeds++(bD g.R (z.w t).asks).map (Vd.mk (g.V+1))).drop g.n=(bD g.R (z.w t).asks).map (Vd.mk (g.V+1)):=by
  rw[hn];exact List.drop_left' rfl
 have hle:(bD g.R (z.w t).asks).length<=4:=Nat.le_trans (QoD _ _) hG.len
 refine⟨?_,fun u hu=>?_,LockOK.keep H.lk ⟨fun _=>hho,fun _=>⟨by show (4:Int)<=12;decide,by show (12:Int)<=15;decide⟩⟩,fun _=>⟨t,ht,?_,?_⟩,fun u hu hu'=>?_⟩
 · exact
    { k1:=G.k1,k6:=G.k6,v0:=G.v0
      vd:=.inr (by show g.V+1=g.dv+1;omega)
      now0:=hn0
      good0:=.inl (by show z.s.good 0=g.dv;rcases G.good0 with h|h<;>omega)
      done:=G.done
      same:=fun h=>absurd h (by show ¬g.V+1=g.dv;omega)
      sumR:=by rw[hdeeds];exact hN.1
      verR:=hN.2
      topR:=by
       rw[hdeeds]
       intro d hd
       show d.ver<=g.V+1
       rcases List.mem_append.1 hd with hd|hd
       · have:=G.topR d hd;omega
       · obtain⟨x,-,rfl⟩:=List.mem_map.1 hd;exact Int.le_refl _
      nle:=by rw[hdeeds,List.length_append];show g.n<=_;omega
      sumQ:=by rw[hdeeds];show Sum K g.Q (List.take g.n _);rw[htake];exact G.sumQ
      verQ:=G.verQ
      topQ:=by rw[hdeeds];show ∀d∈List.take g.n _,_;rw[htake];exact G.topQ
      lateQ:=by
       rw[hdeeds]
       show ∀d∈List.drop g.n _,Vd.ver d=g.dv+1
       rw[hdrop]
       intro d hd
       obtain⟨x,-,rfl⟩:=List.mem_map.1 hd
       show g.V+1=g.dv+1
       omega
      nowR:=hR.put (fun i _=>by omega)
      goodR:=hRg
      nowQ:=G.nowQ.put (fun i _=>by omega)
      goodQ:=G.goodQ
      rNow:=G.rNow.put0 _
      rGood:=G.rGood
      vb:=by have:=G.vb;show g.V+1<=z.steps+1;omega
      cb:=by
       rw[hdeeds,List.length_append,List.length_map]
       have:=G.cb
       show _<=4*(z.steps+1)
       omega
      fl0:=G.fl0
      fl1:=by have:=G.fl1;show z.s.fl<=z.steps+1;omega
      fe0:=G.fe0
      fe1:=by have:=G.fe1;show z.s.fe<=z.steps+1;omega }
 · show ThB ⟨g.V+1,bDo g.R (z.w t).asks,g.dv,g.Q,g.n⟩ u (setF z.w t { z.w t with does:=12 } u) (z.tog u) (z.m (2+2*u)) (z.m (3+2*u))
   have hcase:(Qh (bDo g.R (z.w t).asks).tog u=Qh g.R.tog u/\(bDo g.R (z.w t).asks).ans.getD u 0=g.R.ans.getD u 0/\(bDo g.R (z.w t).asks).whn.getD u 0=g.R.whn.getD u 0)\/((z.w u).does≠0/\(z.w u).said=true/\Qh g.R.tog u≠(z.w u).tog/\Qh (bDo g.R (z.w t).asks).tog u=(z.w u).tog):=by
    by_cases hx:∃a∈(z.w t).asks,a.t=u
    · obtain⟨a,ha,rfl⟩:=hx
      have hw:=hG.want a ha
      have h1:=QgU G.sumR.ok hok (hG.asc.imp (fun h=>Nat.ne_of_lt h)) a ha
      have h2:Qh (bR g.R (z.w t).asks).tog a.t=a.g:=by simpa [bOpen] using h1
      exact .inr ⟨hw.act,hw.said,by rw[hw.tog];exact hw.opn,by rw[hw.tog];exact h2⟩
    · have:=QeP G.sumR.ok hok u hu (fun a ha e=>hx ⟨a,ha,e⟩)
      exact .inl ⟨this.2.2,this.1,this.2.1⟩
   by_cases eu:u=t
   · subst eu
     rw[Qf]
     have h1:=T.busy (w':={ z.w u with does:=12 }) (by omega) (by omega) ⟨rfl,rfl,rfl,rfl,rfl,rfl,rfl⟩ ⟨T.v0,T.v1⟩ (d:=12) rfl (fun _=>T.ii (by omega)) (by decide) (by decide)
     refine h1.index ?_
     rcases hcase with h|⟨a,b,c,d⟩
     · exact .inl h
     · exact .inr ⟨by show (12:Int)≠0;decide,b,c,d⟩
   · rw[QR _ _ eu];exact (H.th u hu).index hcase
 · show 12<=(setF z.w t { z.w t with does:=12 } t).does
   rw[Qf];exact Int.le_refl 12
 · show (setF z.w t { z.w t with does:=12 } t).does<=14
   rw[Qf];show (12:Int)<=14;decide
 · by_cases eu:u=t
   · subst eu
     exact hold12 (by show (setF z.w u _ u).does=12;rw[Qf]) (by show g.V+1=g.dv+1;omega) (by show (setF z.w u _ u).v=_;rw[Qf];exact hv) (by show Told _ u (setF z.w u _ u);rw[Qf];exact⟨hT.bit,hT.ok,hT.ans,hT.whn⟩)
   · have h2:Xm (setF z.w t { z.w t with does:=12 } u):=hu'
     rw[QR _ _ eu]at h2
     exact absurd h2 (hone.2 u hu eu)
theorem ThB.tell {g:Gh}{u:Nat}{w:Wk}{tg mo ms:Int}(T:ThB g u w tg mo ms) (hV:g.V=g.dv+1) {n:Nat}(h1:tg=1->g.R.whn.getD u 0≠0):ThB ⟨g.V,g.R,g.V,g.R,n⟩ u w tg mo ms:=
 { T with
   one:=h1
   v1:=by have:=T.v1;show w.v<=g.V;omega
   idle:=fun h=>⟨(T.idle h).1,(T.idle h).1,(T.idle h).2.2⟩
   qr:=fun _ h=>h
   uns:=fun h hs=>(T.uns h hs).imp id (fun h=>⟨h.1,h.2.1,h.2.1⟩)
   lk2:=fun _ h=>by have:=T.v1;have h:w.v=g.V:=h;omega
   lk3:=fun _ h=>by have:=T.v1;have h:w.v=g.V:=h;omega
   lk4:=fun _ h=>by have:=T.v1;have h:w.v=g.V:=h;omega
   rep:=fun h=>⟨(T.rep h).2,(T.rep h).2⟩ }
theorem Qkk (H:ShInv K z g) (ht:t<4) (hd:(z.w t).does=14):ShInv K (z.stepped t) ⟨g.V,g.R,g.V,g.R,z.deeds.length⟩:=by
 have T:=H.th t ht
 have hho:Xm (z.w t):=⟨by omega,by omega⟩
 have O:=H.ho t ht hho
 have hV:=O.mid (by omega) (by omega)
 have hv:=O.ver (by omega) (by omega)
 have hT:=O.told (by omega) (by omega)
 have hg:=O.i14 (by omega) (by omega)
 have hone:=LockOK.one H.lk ht hho
 have e:Qe (z.wst t)=(⟨{ z.w t with does:=15 },putF z.m 1 ((z.w t).v+1),z.s⟩,false):=by
  simp[Qe,XT,Sh.wst,hd]
 rw[Qo (by omega) e]
 have G:=H.gl
 have hone1:∀u,u<4->z.tog u=1->g.R.whn.getD u 0≠0:=fun u hu h1=>by
  have h2:Sum K g.R (z.deeds.take g.n++z.deeds.drop g.n):=by rw[List.take_append_drop];exact G.sumR
  exact G.sumQ.whn_mono h2 hu ((H.th u hu).one h1)
 refine⟨?_,fun u hu=>?_,?_,fun h=>absurd h (by show ¬g.V=g.V+1;omega),fun u hu hu'=>?_⟩
 · exact
    { k1:=G.k1,k6:=G.k6
      v0:=by have:=G.v0;show 0<=g.V;omega
      vd:=.inl rfl
      now0:=G.now0
      good0:=.inl hg
      done:=by show putF z.m 1 ((z.w t).v+1) 1=g.V;rw[QW];omega
      same:=fun _=>⟨rfl,rfl⟩
      sumR:=G.sumR
      verR:=G.verR
      topR:=G.topR
      nle:=Nat.le_refl _
      sumQ:=by show Sum K g.R (List.take z.deeds.length z.deeds);rw[List.take_length];exact G.sumR
      verQ:=G.verR
      topQ:=by show ∀d∈List.take z.deeds.length z.deeds,Vd.ver d<=g.V;rw[List.take_length];exact G.topR
      lateQ:=by show ∀d∈List.drop z.deeds.length z.deeds,Vd.ver d=g.V+1;rw[List.drop_length];intro d hd;cases hd
      nowR:=G.nowR
      goodR:=G.goodR
      nowQ:=G.nowR
      goodQ:=G.goodR
      rNow:=G.rNow
      rGood:=G.rGood
      vb:=by have:=G.vb;show g.V<=z.steps+1;omega
      cb:=by have:=G.cb;show (z.deeds.length:Int)<=4*(z.steps+1);omega
      fl0:=G.fl0
      fl1:=by have:=G.fl1;show z.s.fl<=z.steps+1;omega
      fe0:=G.fe0
      fe1:=by have:=G.fe1;show z.s.fe<=z.steps+1;omega }
 · show ThB ⟨g.V,g.R,g.V,g.R,z.deeds.length⟩ u (setF z.w t { z.w t with does:=15 } u) (z.tog u) (putF z.m 1 ((z.w t).v+1) (2+2*u)) (putF z.m 1 ((z.w t).v+1) (3+2*u))
   rw[Qs _ _ (by omega),Qs _ _ (by omega)]
   by_cases eu:u=t
   · subst eu
     rw[Qf]
     exact (T.busy (w':={ z.w u with does:=15 }) (by omega) (by omega) ⟨rfl,rfl,rfl,rfl,rfl,rfl,rfl⟩ ⟨T.v0,T.v1⟩ (d:=15) rfl (fun _=>T.ii (by omega)) (by decide) (by decide)).tell hV (hone1 u hu)
   · rw[QR _ _ eu];exact (H.th u hu).tell hV (hone1 u hu)
 · show LockOK (putF z.m 1 ((z.w t).v+1) 0) (setF z.w t { z.w t with does:=15 })
   rw[Qs _ _ (by decide)]
   exact LockOK.keep H.lk ⟨fun _=>hho,fun _=>⟨by show (4:Int)<=15;decide,by show (15:Int)<=15;decide⟩⟩
 · by_cases eu:u=t
   · subst eu
     exact hold15 (by show (setF z.w u _ u).does=15;rw[Qf]) rfl (by show Told _ u (setF z.w u _ u);rw[Qf];exact⟨hT.bit,hT.ok,hT.ans,hT.whn⟩) hg
   · have h2:Xm (setF z.w t { z.w t with does:=15 } u):=hu'
     rw[QR _ _ eu]at h2
     exact absurd h2 (hone.2 u hu eu)
theorem Qkj (H:ShInv K z g) (ht:t<4) (hd:(z.w t).does=15):ShInv K (z.stepped t) g:=by
 have T:=H.th t ht
 have hho:Xm (z.w t):=⟨by omega,by omega⟩
 have O:=H.ho t ht hho
 have hV:=O.low (.inr hd)
 have hT:=O.told (by omega) (by omega)
 have hone:=LockOK.one H.lk ht hho
 have e:Qe (z.wst t)=(⟨{ z.w t with does:=16 },putF z.m 0 0,z.s⟩,false):=by
  simp[Qe,XT,Sh.wst,hd]
 rw[Qo (by omega) e]
 have hR:g.R=g.Q:=(H.gl.same hV).1
 have hT2:Told g.R t { z.w t with does:=16 }:=⟨hT.bit,hT.ok,hT.ans,hT.whn⟩
 refine H.moved ht (Qs _ _ (by omega)) (fun u hu hne=>⟨Qs _ _ (by omega),Qs _ _ (by omega)⟩) ?_ (Qz (d:=16) rfl (by decide) ⟨rfl,rfl,rfl,rfl,rfl⟩) ?_ (by omega) (fun hh=>absurd hh (Qt (d:=16) rfl (.inr (by decide))))
 · rw[Qs _ _ (show 2+2*t≠0 by omega),Qs _ _ (show 3+2*t≠0 by omega)]
   exact T.go (by omega) (d:=16) rfl ⟨by decide,by decide⟩ ⟨rfl,rfl,rfl,rfl,rfl⟩ ⟨T.v0,T.v1⟩ (fun _=>T.ii (by omega)) T.se (T.uns (by omega)) (T.sai (by omega)) (fun h=>absurd h (by decide)) (fun h=>absurd h (by decide)) (fun _ _=>T.s3 (by omega) (by omega)) (fun h=>absurd h (by decide)) (fun h=>absurd h (by decide)) (fun h=>absurd h (by decide)) (fun _=>⟨by rw[<- hR];exact hT2,hT2⟩)
 · rw[QW]
   refine .inl ⟨rfl,fun u hu=>?_⟩
   by_cases eu:u=t
   · subst eu;rw[Qf];exact Qt (d:=16) rfl (.inr (by decide))
   · rw[QR _ _ eu];exact hone.2 u hu eu
end
end
section
theorem Qdx (k:Int) (i:Nat) (h:i<32):Qas k 32 (8+i)=fL (Rec.new k).words i:=by
 unfold Qas;rw[decide_eq_true (by omega),Nat.add_sub_cancel_left];rfl
theorem Qdw (k:Int) (i:Nat) (h:i<8\/40<=i):Qas k 32 i=0:=by
 unfold Qas;rw[decide_eq_false (by omega)];rfl
theorem base0:Qn 0=8:=rfl
theorem QiY {K:Int}(h1:1<=K) (h6:K<=6):SlotsOK (Qas K 32):=by
 have hq:=RecOK.new h1 h6
 refine⟨⟨?_,fun t ht=>⟨?_,?_⟩⟩,⟨?_,fun t ht=>⟨?_,?_⟩⟩⟩
 · rw[Qdx K 26 (by decide),Qa5 hq];exact⟨hq.g0,hq.g1⟩
 · rw[Nat.add_assoc,Qdx K (18+t) (by omega)];exact (QfR hq (by decide) t ht).1
 · rw[Nat.add_assoc,Qdx K (22+t) (by omega)];exact (QfR hq (by decide) t ht).2
 · rw[Qdw K _ (.inr (by omega))];decide
 · rw[Qdw K _ (.inr (by omega))];exact⟨by decide,by decide⟩
 · rw[Qdw K _ (.inr (by omega))];decide
def Gh.new (K:Int):Gh:=⟨0,Rec.new K,0,Rec.new K,0⟩
theorem Qpw {K:Int}(h1:1<=K) (h6:K<=6):ShInv K (Sh.new K) (Gh.new K):=by
 have hs:=Sum.new h1 h6
 have hr:HasRec (Qas K 32) 0 (Rec.new K):=fun i hi=>by rw[base0];exact Qdx K i hi
 have h0:Qas K 32 0=0:=Qdw K 0 (.inl (by decide))
 refine⟨?_,fun t ht=>?_,.inl ⟨rfl,fun t _=>Qt (d:=0) rfl (.inl (by decide))⟩,fun h=>absurd h (by show ¬(0:Int)=0+1;decide),fun h _ hh=>absurd hh (Qt (d:=0) rfl (.inl (by decide)))⟩
 · exact
    { k1:=h1,k6:=h6,v0:=Int.le_refl 0,vd:=.inl rfl,now0:=h0,good0:=.inl h0,done:=rfl,same:=fun _=>⟨rfl,rfl⟩
      sumR:=hs,verR:=rfl,topR:=fun d hd=>(by cases hd),nle:=Nat.le_refl _,sumQ:=hs,verQ:=rfl,topQ:=fun d hd=>(by cases hd),lateQ:=fun d hd=>(by cases hd)
      nowR:=hr,goodR:=hr,nowQ:=hr,goodQ:=hr,rNow:=QiY h1 h6,rGood:=QiY h1 h6,vb:=Int.le_refl 0,cb:=Int.le_refl 0,fl0:=Int.le_refl 0,fl1:=Int.le_refl 0,fe0:=Int.le_refl 0,fe1:=Int.le_refl 0 }
 · have hb:=hs.bit t ht
   exact
    { th:=rfl,d0:=Int.le_refl 0,d21:=by show (0:Int)<=21;decide,tg01:=.inl rfl,one:=fun h=>absurd h (by show ¬(0:Int)=1;decide),v0:=Int.le_refl 0,v1:=Int.le_refl 0,ii:=fun _=>rfl
      se0:=⟨by show (0:Int)<=0;decide,by show (0:Int)<16;decide⟩,se1:=⟨by show (0:Int)<=0;decide,by show (0:Int)<18446744073709551616;decide⟩,se2:=⟨by show (0:Int)<=0;decide,by show (0:Int)<=9223372036854775807;decide⟩
      idle:=fun _=>⟨hb,hb,.inl rfl⟩,op:=fun h=>absurd rfl h,tog:=fun h=>absurd rfl h,qr:=fun h=>absurd rfl h,uns:=fun h=>absurd rfl h,sai:=fun h=>absurd rfl h
      two:=fun h=>absurd h (by show ¬(0:Int)=2;decide),s12:=fun h=>absurd h (by show ¬((0:Int)=1\/(0:Int)=2);decide),s3:=fun h=>absurd h (by show ¬(3:Int)<=0;decide)
      lk2:=fun h=>absurd h (by show ¬(19:Int)<=0;decide),lk3:=fun h=>absurd h (by show ¬(20:Int)<=0;decide),lk4:=fun h=>absurd h (by show ¬(21:Int)<=0;decide),rep:=fun h=>absurd h (by show ¬(0:Int)=16;decide) }
section
variable {K:Int}{z:Sh}{g:Gh}{t:Nat}
theorem Qkl (H:ShInv K z g) (ht:t<4) (hd:(z.w t).does=0) {k key x:Int}(ho:opOk k key x=true):ShInv K (z.called t k key x) g:=by
 have T:=H.th t ht
 obtain⟨i1,i2,i3⟩:=T.idle hd
 have hg:=T.tg01
 have:=H.local ht (w':=Wk.call (z.w t).th k key x (1-z.tog t) false) (m':=z.m) (st:=z.steps+1) (hs:=z.hist++[⟨1,t,k,key,x,0,0,0,z.steps+1⟩]) (by omega) rfl (fun u hu hne=>⟨rfl,rfl⟩) (z.tog t) ?_ (fun h=>absurd hd h) (LockOK.keep H.lk ⟨fun h=>absurd h (Qt (d:=1) rfl (.inl (by decide))),fun h=>absurd h (Qt hd (.inl (by decide)))⟩) (by omega) (fun h=>absurd h (Qt (d:=1) rfl (.inl (by decide))))
 · rw[Qhi]at this;exact this
 · exact
    { th:=T.th,d0:=by show (0:Int)<=1;decide,d21:=by show (1:Int)<=21;decide,tg01:=hg,one:=T.one,v0:=Int.le_refl 0,v1:=H.gl.v0,ii:=fun _=>rfl
      se0:=⟨by show (0:Int)<=0;decide,by show (0:Int)<16;decide⟩,se1:=⟨by show (0:Int)<=0;decide,by show (0:Int)<18446744073709551616;decide⟩,se2:=⟨by show (0:Int)<=0;decide,by show (0:Int)<=9223372036854775807;decide⟩
      idle:=fun h=>absurd h (by show ¬(1:Int)=0;decide),op:=fun _=>ho,tog:=fun _=>rfl
      qr:=fun _ h=>absurd h (by show ¬Qh g.Q.tog t=1-z.tog t;omega)
      uns:=fun _ _=>i3.imp id (fun h=>⟨h,i1,i2⟩)
      sai:=fun _ h=>absurd h (by show ¬false=true;decide)
      two:=fun h=>absurd h (by show ¬(1:Int)=2;decide),s12:=fun _=>rfl,s3:=fun h=>absurd h (by show ¬(3:Int)<=1;decide)
      lk2:=fun h=>absurd h (by show ¬(19:Int)<=1;decide),lk3:=fun h=>absurd h (by show ¬(20:Int)<=1;decide),lk4:=fun h=>absurd h (by show ¬(21:Int)<=1;decide),rep:=fun h=>absurd h (by show ¬(1:Int)=16;decide) }
theorem Qn3 (H:ShInv K z g) (ht:t<4) (k key x:Int):ShInv K (z.call t k key x) g:=by
 unfold Sh.call
 split
 · rename_i h;exact Qkl H ht h.1 h.2
 · exact H
def Gh.step (g:Gh) (z:Sh) (t:Nat):Gh:=if (z.w t).does=11 then ⟨g.V+1,bDo g.R (z.w t).asks,g.dv,g.Q,g.n⟩else if (z.w t).does=14 then ⟨g.V,g.R,g.V,g.R,z.deeds.length⟩else g
theorem Qil (H:ShInv K z g) (ht:t<4) (hs:z.steps<100000000) (hn:(z.w t).does≠0):ShInv K (z.stepped t) (g.step z t):=by
 have T:=H.th t ht
 have h0:=T.d0
 have h1:=T.d21
 unfold Gh.step
 by_cases e11:(z.w t).does=11
 · rw[if_pos e11];exact Qkh H ht hs e11
 · rw[if_neg e11]
   by_cases e14:(z.w t).does=14
   · rw[if_pos e14];exact Qkk H ht e14
   · rw[if_neg e14]
     rcases (show (z.w t).does=1\/(z.w t).does=2\/(z.w t).does=3\/(z.w t).does=4\/(z.w t).does=5\/(z.w t).does=6\/(z.w t).does=7\/(z.w t).does=8\/(z.w t).does=9\/(z.w t).does=10\/(z.w t).does=12\/(z.w t).does=13\/(z.w t).does=15\/(z.w t).does=16\/(z.w t).does=17\/(z.w t).does=18\/(z.w t).does=19\/(z.w t).does=20\/(z.w t).does=21 by omega)with h|h|h|h|h|h|h|h|h|h|h|h|h|h|h|h|h|h|h
     · exact Qn2 H ht h
     · exact Qn1 H ht h
     · exact Qn0 H ht h
     · exact Ql4 H ht h
     · exact Ql3 H ht h
     · exact Ql2 H ht hs h
     · exact Ql1 H ht hs h
     · exact Ql0 H ht hs h
     · exact QlZ H ht h
     · exact Qki H ht h
     · exact Qkg H ht h
     · exact Qkf H ht h
     · exact Qkj H ht h
     · exact QlY H ht h
     · exact Qke H ht h
     · exact Qkd H ht h
     · exact Qkc H ht h
     · exact Qkb H ht h
     · exact Qka H ht h
end
end
section
section
variable {K:Int}{z:Sh}{g:Gh}{t:Nat}
theorem QnJ (H:ShInv K z g) {u:Nat}(hu:u<4):0<=z.m (3+2*u)/\z.m (3+2*u)<=2:=by
 have T:=H.th u hu
 have h1:=T.tg01
 by_cases hn:(z.w u).does=0
 · obtain⟨-,-,h|h⟩:=T.idle hn<;>omega
 · have h2:=T.tog hn
   cases hs:(z.w u).said
   · rcases T.uns hn hs with h|⟨h,-⟩<;>omega
   · have:=(T.sai hn hs).1;omega
theorem rec_ok (H:ShInv K z g) (hs:z.steps<100000000):RecOK 1099511000000 g.R/\g.R.ver<1000000000:=by
 have h1:=H.gl.cb
 have h2:=H.gl.verR
 have h3:=H.gl.vb
 exact⟨H.gl.sumR.ok.mono (by omega),by omega⟩
theorem Qjy (H:ShInv K z g) (ht:t<4) (hs:z.steps<100000000) (hn:(z.w t).does≠0):XO (z.wst t):=by
 have T:=H.th t ht
 have G:=H.gl
 have hvb:=G.vb
 have hvd:=G.vd
 have hv0:=T.v0
 have hv1:=T.v1
 have hR:=rec_ok H hs
 refine⟨⟨T.d0,T.d21⟩,fun _=>⟨T.op hn,?_⟩,fun hd=>?_,fun hd=>?_,fun hd=>?_,fun hd=>?_⟩
 · have h1:=T.tog hn
   have h2:=T.tg01
   show (z.w t).tog=0\/(z.w t).tog=1
   omega
 · obtain⟨d4,d7⟩:=hd
   have d4:4<=(z.w t).does:=d4
   have d7:(z.w t).does<=7:=d7
   have O:=H.ho t ht ⟨d4,by omega⟩
   have hi:=O.i0 (by omega)
   have hi32:(z.w t).i<32:=by
    rcases (show (z.w t).does=4\/(z.w t).does=5\/(z.w t).does=6\/(z.w t).does=7 by omega)with h|h|h|h
    · have:=T.ii (by omega);omega
    · exact (O.i5 h).1
    · have:=(O.i6 h).1;omega
    · have:=(O.i7 h).1;omega
   refine⟨hi,hi32,⟨hv0,by show (z.w t).v<_;omega⟩,fun h6=>?_,fun h7=>?_⟩
   · obtain⟨a,b,c⟩:=O.i6 h6
     have h26:(z.w t).r 26=g.R.tog:=(b 26 (by decide)).trans (Qa5 G.sumR.ok)
     refine⟨a,?_,QnJ H (by show (z.w t).i.toNat<4;omega),c.okA H,by have:=c.len;show (z.w t).asks.length<=4;omega,g.R,hR.1,hR.2,QeS G.sumR.ok b⟩
     show 0<=(z.w t).r 26/\(z.w t).r 26<16
     rw[h26];exact⟨G.sumR.ok.g0,G.sumR.ok.g1⟩
   · obtain⟨a,b,l,hl,hG,w1,w2,w3⟩:=O.i7 h7
     have hu:(z.w t).i.toNat<4:=by omega
     have U:=H.th _ hu
     have hop:=Qgm (U.op w1)
     have hmo:=(U.sai w1 w2).2
     refine⟨a,?_,⟨l,_,hl⟩,?_,?_,g.R,hR.1,hR.2,QeS G.sumR.ok b⟩
     · show 0<=z.m (2+2*(z.w t).i.toNat)/\z.m (2+2*(z.w t).i.toNat)<18446744073709551616
       rw[hmo];exact hop.2.2.2
     · show AsksOK (Q9 (z.w t).asks (z.m (2+2*(z.w t).i.toNat)/281474976710656%65536) (z.m (2+2*(z.w t).i.toNat)/4294967296%65536) (z.m (2+2*(z.w t).i.toNat)%4294967296))
       rw[hl,QaA,hmo,hop.1,hop.2.1,hop.2.2.1]
       intro x hx
       rcases List.mem_append.1 hx with hx|hx
       · exact hG.okA H x hx
       · obtain rfl:=List.mem_singleton.1 hx
         refine⟨hu,?_,U.op w1⟩
         have h1:=U.tog w1
         have h2:=U.tg01
         show (z.w (z.w t).i.toNat).tog=0\/(z.w (z.w t).i.toNat).tog=1
         omega
     · show (Q9 (z.w t).asks _ _ _).length<=4
       rw[hl,QaA,List.length_append]
       have:=hG.len
       show l.length+1<=4
       omega
 · obtain⟨d8,d13⟩:=hd
   have d8:8<=(z.w t).does:=d8
   have d13:(z.w t).does<=13:=d13
   have O:=H.ho t ht ⟨by omega,by omega⟩
   have f0:=G.fl0
   have f1:=G.fl1
   have f2:=G.fe0
   have f3:=G.fe1
   refine⟨⟨hv0,by show (z.w t).v<_;omega⟩,?_,⟨f0,by show z.s.fl<_;omega⟩,⟨f2,by show z.s.fe<_;omega⟩⟩
   show 0<=(z.w t).i/\(z.w t).i<32/\((z.w t).does=9->(z.w t).i<4)
   by_cases h8:(z.w t).does=8
   · have:=(O.i8 h8).1
     have:=O.i0 (by omega)
     omega
   · by_cases h9:(z.w t).does=9
     · have:=(O.i9 h9).1
       have:=O.i0 (by omega)
       omega
     · have:=T.ii (by omega)
       omega
 · exact⟨hv0,by show (z.w t).v<_;omega⟩
 · refine⟨⟨hv0,by show (z.w t).v<_;omega⟩,T.se0,T.se2,T.se1,fun h21 hc=>?_⟩
   have h21:(z.w t).does=21:=h21
   obtain⟨c1,c2⟩:=hc
   have c1:z.m 1=(z.w t).v:=c1
   have c2:Qh ((z.w t).seen 0) (z.w t).th=(z.w t).tog:=c2
   have hv:(z.w t).v=g.dv:=by rw[<- c1];exact G.done
   rw[T.th,T.lk2 (by omega) hv]at c2
   obtain⟨c,v,hA,ha,-⟩:=H.toldQ ht hn c2
   refine .inl ?_
   show Q2 ((z.w t).seen 1/4294967296%4294967296) ((z.w t).seen 1%4294967296)=true
   have hc:=Qcx hA
   rw[T.lk3 (by omega) hv,ha,hc.1,hc.2.1]
   exact (Qa4 _ _).2 hA
end
end
section
structure WkR where
 ma:Nat
 ca:Nat
 na:Bool
 za:Nat->Nat->Int
 md:Nat
 cd:Nat
 nd:Bool
 zd:Nat->Nat->Int
end
section
section
variable {z:Sh}{t:Nat}
theorem Qnm (h:(z.w t).does=11):(Qe (z.wst t)).2=false:=by simp[Qe,Sh.wst,h]
theorem Qnk (h:(z.w t).does≠0) (h11:(z.w t).does≠11) (hb:(Qe (z.wst t)).2=true):z.step t=(z.moved t (Qe (z.wst t)).1).answered t (Qe (z.wst t)).1.w:=by
 unfold Sh.step
 rw[if_neg h]
 exact Qa8 h11 (by rw[<- hb])
end
end
section
structure Cl where
 t:Int
 k:Int
 key:Int
 x:Int
 fr:Int
 to:Int
 whn:Int
 c:Int
 v:Int
def Cl.nil:Cl:=⟨0,0,0,0,0,0,0,0,0⟩
def Cl.end (i:Nat) (e:Ev) (c:Cl):Cl:=if c.t=e.t/\c.to=0 then { c with to:=(i:Int)+1,whn:=e.whn,c:=e.c,v:=e.v } else c
def Qf6 (l:List Cl) (i:Nat) (e:Ev):List Cl:=if e.kind=1 then l++[⟨e.t,e.k,e.key,e.x,(i:Int)+1,0,0,0,0⟩]else if e.kind=2 then l.map (Cl.end i e)else l
def clTo:List Ev->List Cl × Nat:=List.foldl (fun p e=>(Qf6 p.1 p.2 e,p.2+1)) ([],0)
def QA (h:List Ev):List Cl:=(clTo h).1
theorem Qou (h:List Ev):(clTo h).2=h.length:=by
 have key:∀(h:List Ev) (p:List Cl × Nat),(h.foldl (fun p e=>(Qf6 p.1 p.2 e,p.2+1)) p).2=p.2+h.length:=by
  intro h
  induction h with
  |nil=>intro p;rfl
  |cons e h ih=>intro p;rw[List.foldl_cons,ih,List.length_cons];dsimp only;omega
 have:=key h ([],0)
 unfold clTo;rw[this];exact Nat.zero_add _
theorem Qf4 (h:List Ev) (e:Ev):QA (h++[e])=Qf6 (QA h) h.length e:=by
 have e1:clTo (h++[e])=(Qf6 (clTo h).1 (clTo h).2 e,(clTo h).2+1):=by
  unfold clTo;rw[List.foldl_append];rfl
 unfold QA
 rw[e1,Qou]
theorem QiV {α:Type}{f:α->α}{l:List α}{d:α}{i:Nat}(h:i<l.length):(l.map f).getD i d=f (l.getD i d):=by
 simp[List.getD_eq_getElem?_getD,h]
structure EvOK (z:Sh) (g:Gh) (e:Ev):Prop where
 kind:e.kind=1\/e.kind=2\/e.kind=3
 t:e.kind≠3->∃t:Nat,t<4/\e.t=t
 op:e.kind≠3->opOk e.k e.key e.x=true
 s0:1<=e.step
 s1:e.step<=z.steps
 ans:e.kind=2->∃j:Nat,e.whn=(j:Int)+1/\j<g.n/\(z.deeds.getD j Vd.nil).d.c=e.c/\(z.deeds.getD j Vd.nil).d.v=e.v
structure Link (R:Rec) (of:List Nat) (t:Nat) (tog:Int) (i:Nat):Prop where
 yes:Qh R.tog t=tog->∃j:Nat,j<of.length/\R.whn.getD t 0=(j:Int)+1/\of.getD j 0=i
 no:Qh R.tog t≠tog->∀j,j<of.length->of.getD j 0≠i
structure HInv (z:Sh) (g:Gh) (of:List Nat):Prop where
 ln:of.length=z.deeds.length
 lt:∀j,j<of.length->of.getD j 0<(QA z.hist).length
 op:∀j,j<of.length->((QA z.hist).getD (of.getD j 0) Cl.nil).t=(z.deeds.getD j Vd.nil).d.t/\((QA z.hist).getD (of.getD j 0) Cl.nil).k=(z.deeds.getD j Vd.nil).d.k/\((QA z.hist).getD (of.getD j 0) Cl.nil).key=(z.deeds.getD j Vd.nil).d.key/\((QA z.hist).getD (of.getD j 0) Cl.nil).x=(z.deeds.getD j Vd.nil).d.x
 inj:∀j k,j<k->k<of.length->of.getD j 0≠of.getD k 0
 ans:∀i,i<(QA z.hist).length->((QA z.hist).getD i Cl.nil).to≠0->∃j:Nat,((QA z.hist).getD i Cl.nil).whn=(j:Int)+1/\j<g.n/\of.getD j 0=i/\(z.deeds.getD j Vd.nil).d.c=((QA z.hist).getD i Cl.nil).c/\(z.deeds.getD j Vd.nil).d.v=((QA z.hist).getD i Cl.nil).v
 opn:∀t,t<4->(z.w t).does≠0->∃i,i<(QA z.hist).length/\((QA z.hist).getD i Cl.nil).t=t/\((QA z.hist).getD i Cl.nil).to=0/\((QA z.hist).getD i Cl.nil).k=(z.w t).k/\((QA z.hist).getD i Cl.nil).key=(z.w t).key/\((QA z.hist).getD i Cl.nil).x=(z.w t).x/\Link g.R of t (z.w t).tog i/\Link g.Q (of.take g.n) t (z.w t).tog i
 uni:∀i i',i<(QA z.hist).length->i'<(QA z.hist).length->((QA z.hist).getD i Cl.nil).to=0->((QA z.hist).getD i' Cl.nil).to=0->((QA z.hist).getD i Cl.nil).t=((QA z.hist).getD i' Cl.nil).t->i=i'
 idl:∀t,t<4->(z.w t).does=0->∀i,i<(QA z.hist).length->((QA z.hist).getD i Cl.nil).t=t->((QA z.hist).getD i Cl.nil).to≠0
 th:∀i,i<(QA z.hist).length->∃t:Nat,t<4/\((QA z.hist).getD i Cl.nil).t=t
 rt:∀j k,j<k->k<of.length->((QA z.hist).getD (of.getD k 0) Cl.nil).to≠0->((QA z.hist).getD (of.getD j 0) Cl.nil).fr<=((QA z.hist).getD (of.getD k 0) Cl.nil).to
 tos:∀i,i<(QA z.hist).length->0<=((QA z.hist).getD i Cl.nil).to/\((QA z.hist).getD i Cl.nil).to<=z.hist.length/\1<=((QA z.hist).getD i Cl.nil).fr/\((QA z.hist).getD i Cl.nil).fr<=z.hist.length
 ev:∀e∈z.hist,EvOK z g e
 clk:z.hist.Pairwise (fun a b=>a.step<b.step)
 sl:(z.hist.length:Int)<=z.steps
theorem Qn8 (K:Int):HInv (Sh.new K) (Gh.new K) [] where
 ln:=rfl
 lt:=fun j hj=>absurd hj (Nat.not_lt_zero _)
 op:=fun j hj=>absurd hj (Nat.not_lt_zero _)
 inj:=fun j k _ hk=>absurd hk (Nat.not_lt_zero _)
 ans:=fun i hi=>absurd hi (Nat.not_lt_zero _)
 opn:=fun t _ h=>absurd rfl h
 uni:=fun i _ hi=>absurd hi (Nat.not_lt_zero _)
 idl:=fun _ _ _ i hi=>absurd hi (Nat.not_lt_zero _)
 th:=fun i hi=>absurd hi (Nat.not_lt_zero _)
 rt:=fun j k _ hk=>absurd hk (Nat.not_lt_zero _)
 tos:=fun i hi=>absurd hi (Nat.not_lt_zero _)
 ev:=fun e he=>(by cases he)
 clk:=List.Pairwise.nil
 sl:=Int.le_refl 0
theorem EvOK.mono {z z':Sh}{g g':Gh}{e:Ev}(h:EvOK z g e) (hs:z.steps<=z'.steps) (hn:g.n<=g'.n) (hd:∀j,j<g.n->z'.deeds.getD j Vd.nil=z.deeds.getD j Vd.nil):EvOK z' g' e:=
 ⟨h.kind,h.t,h.op,h.s0,Int.le_trans h.s1 hs,fun hk=>by
  obtain⟨j,h1,h2,h3,h4⟩:=h.ans hk
  exact⟨j,h1,Nat.lt_of_lt_of_le h2 hn,by rw[hd j h2];exact h3,by rw[hd j h2];exact h4⟩⟩
section
variable {z z':Sh}{g:Gh}{of:List Nat}
theorem HInv.same (H:HInv z g of) (hh:z'.hist=z.hist) (hd:z'.deeds=z.deeds) (hs:z.steps<=z'.steps) (hw:∀t,t<4->((z'.w t).does=0↔(z.w t).does=0)/\(z'.w t).tog=(z.w t).tog/\(z'.w t).k=(z.w t).k/\(z'.w t).key=(z.w t).key/\(z'.w t).x=(z.w t).x):HInv z' g of where
 ln:=by rw[hd];exact H.ln
 lt:=by rw[hh];exact H.lt
 op:=by rw[hh,hd];exact H.op
 inj:=H.inj
 ans:=by rw[hh,hd];exact H.ans
 opn:=fun t ht hn=>by
  obtain⟨h0,h1,h2,h3,h4⟩:=hw t ht
  rw[hh,h1,h2,h3,h4]
  exact H.opn t ht (fun h=>hn (h0.2 h))
 uni:=by rw[hh];exact H.uni
 idl:=fun t ht h=>by rw[hh];exact H.idl t ht ((hw t ht).1.1 h)
 th:=by rw[hh];exact H.th
 rt:=by rw[hh];exact H.rt
 tos:=by rw[hh];exact H.tos
 ev:=by rw[hh];exact fun e he=>(H.ev e he).mono hs (Nat.le_refl _) (fun j _=>by rw[hd])
 clk:=by rw[hh];exact H.clk
 sl:=by rw[hh];exact Int.le_trans H.sl hs
theorem HInv.tell (H:HInv z g of) (hn:g.n<=z.deeds.length) {V' dv':Int}:HInv z ⟨V',g.R,dv',g.R,z.deeds.length⟩ of:=
 { H with
   ans:=fun i hi h=>by
    obtain⟨j,a,b,c⟩:=H.ans i hi h
    exact⟨j,a,Nat.lt_of_lt_of_le b hn,c⟩
   opn:=fun t ht h=>by
    obtain⟨i,a,b,c,d,e,f,k,l⟩:=H.opn t ht h
    refine⟨i,a,b,c,d,e,f,k,?_⟩
    show Link g.R (of.take z.deeds.length) t _ i
    rw[<- H.ln,List.take_length];exact k
   ev:=fun e he=>(H.ev e he).mono (Int.le_refl _) hn (fun _ _=>rfl) }
end
end
section
section
variable {K:Int}{z:Sh}{g:Gh}{of:List Nat}{t:Nat}
theorem HInv.called (H:HInv z g of) (I:ShInv K z g) (ht:t<4) (hd:(z.w t).does=0) {k key x:Int}(ho:opOk k key x=true):HInv (z.called t k key x) g of:=by
 have hc:QA (z.called t k key x).hist=QA z.hist++[⟨t,k,key,x,(z.hist.length:Int)+1,0,0,0,0⟩]:=by
  show QA (z.hist++[_])=_
  rw[Qf4];unfold Qf6;rw[if_pos rfl]
 have hl:(QA (z.called t k key x).hist).length=(QA z.hist).length+1:=by rw[hc,List.length_append];rfl
 have hold:∀i,i<(QA z.hist).length->(QA (z.called t k key x).hist).getD i Cl.nil=(QA z.hist).getD i Cl.nil:=fun i hi=>by rw[hc];exact QaC hi
 have hnew:(QA (z.called t k key x).hist).getD (QA z.hist).length Cl.nil=⟨t,k,key,x,(z.hist.length:Int)+1,0,0,0,0⟩:=by
  rw[hc];have:=Qa0 (l:=QA z.hist) (m:=[(⟨t,k,key,x,(z.hist.length:Int)+1,0,0,0,0⟩:Cl)]) (d:=Cl.nil) (i:=0);rw[Nat.add_zero]at this;exact this
 have hcase:∀i,i<(QA (z.called t k key x).hist).length->i<(QA z.hist).length\/i=(QA z.hist).length:=fun i hi=>by omega
 have hhl:((z.called t k key x).hist.length:Int)=z.hist.length+1:=by show ((z.hist++[_]).length:Int)=_;rw[List.length_append];rfl
 have T:=I.th t ht
 obtain⟨i1,i2,-⟩:=T.idle hd
 have h01:=T.tg01
 have hsl:=H.sl
 have hw:∀u,u≠t->(z.called t k key x).w u=z.w u:=fun u hu=>QR _ _ hu
 have hwt:(z.called t k key x).w t=Wk.call (z.w t).th k key x (1-z.tog t) false:=Qf _ _ _
 refine⟨H.ln,fun j hj=>by rw[hl];exact Nat.lt_succ_of_lt (H.lt j hj),fun j hj=>by rw[hold _ (H.lt j hj)];exact H.op j hj,H.inj,fun i hi h=>?_,fun u hu hn=>?_,fun i i' hi hi' h h' e=>?_,fun u hu hn i hi e=>?_,fun i hi=>?_,fun j k' hjk hk h=>?_,fun i hi=>?_,?_,?_,?_⟩
 · rcases hcase i hi with h1|h1
   · rw[hold i h1]at h ⊢;exact H.ans i h1 h
   · rw[h1,hnew]at h;exact absurd rfl h
 · by_cases e:u=t
   · subst e
     refine⟨(QA z.hist).length,by omega,by rw[hnew],by rw[hnew],by rw[hnew,hwt];rfl,by rw[hnew,hwt];rfl,by rw[hnew,hwt];rfl,⟨fun h=>?_,fun _ j hj=>Nat.ne_of_lt (H.lt j hj)⟩,⟨fun h=>?_,fun _ j hj=>?_⟩⟩
     · rw[hwt]at h;exact absurd h (by show ¬Qh g.R.tog u=1-z.tog u;omega)
     · rw[hwt]at h;exact absurd h (by show ¬Qh g.Q.tog u=1-z.tog u;omega)
     · rw[List.length_take]at hj
       have:(of.take g.n).getD j 0=of.getD j 0:=by simp only[List.getD_eq_getElem?_getD,List.getElem?_take];rw[if_pos (by omega)]
       rw[this];exact Nat.ne_of_lt (H.lt j (by omega))
   · rw[hw u e]at hn ⊢
     obtain⟨i,a,b,c,d⟩:=H.opn u hu hn
     exact⟨i,by omega,by rw[hold i a];exact b,by rw[hold i a];exact c,by rw[hold i a];exact d⟩
 · rcases hcase i hi with h1|h1<;>rcases hcase i' hi' with h2|h2
   · rw[hold i h1]at h e;rw[hold i' h2]at h' e;exact H.uni i i' h1 h2 h h' e
   · rw[h2,hnew,hold i h1]at e;rw[hold i h1]at h;exact absurd h (H.idl t ht hd i h1 e)
   · rw[h1,hnew,hold i' h2]at e;rw[hold i' h2]at h';exact absurd h' (H.idl t ht hd i' h2 e.symm)
   · omega
 · by_cases eu:u=t
   · subst eu;rw[hwt]at hn;exact absurd hn (by show ¬(1:Int)=0;decide)
   · rw[hw u eu]at hn
     rcases hcase i hi with h1|h1
     · rw[hold i h1]at e ⊢;exact H.idl u hu hn i h1 e
     · rw[h1,hnew]at e;exact absurd e (by show ¬(t:Int)=u;omega)
 · rcases hcase i hi with h1|h1
   · rw[hold i h1];exact H.th i h1
   · rw[h1,hnew];exact⟨t,ht,rfl⟩
 · have h1:=H.lt j (by omega)
   have h2:=H.lt k' hk
   rw[hold _ h1,hold _ h2];rw[hold _ h2]at h;exact H.rt j k' hjk hk h
 · rcases hcase i hi with h1|h1
   · rw[hold i h1];have:=H.tos i h1;omega
   · rw[h1,hnew];dsimp only;omega
 · intro e he
   rcases List.mem_append.1 (show e∈z.hist++[_]from he)with he|he
   · exact (H.ev e he).mono (by show z.steps<=z.steps+1;omega) (Nat.le_refl _) (fun j _=>rfl)
   · obtain rfl:=List.mem_singleton.1 he
     exact⟨.inl rfl,fun _=>⟨t,ht,rfl⟩,fun _=>ho,by show (1:Int)<=z.steps+1;omega,by show z.steps+1<=z.steps+1;omega,fun h=>absurd h (by show ¬(1:Int)=2;decide)⟩
 · refine List.pairwise_append.2 ⟨H.clk,List.pairwise_singleton _ _,fun a ha b hb=>?_⟩
   obtain rfl:=List.mem_singleton.1 hb
   have:=(H.ev a ha).s1
   show a.step<z.steps+1
   omega
 · rw[hhl];show _<=z.steps+1;omega
theorem Qjk {c v c' v':Int}(h:QQ c v) (h':QQ c' v') (e:ansW c v=ansW c' v'):c=c'/\v=v':=by
 have a:=Qcx h
 have b:=Qcx h'
 rw[e]at a
 exact⟨a.1.symm.trans b.1,a.2.1.symm.trans b.2.1⟩
theorem HInv.answered (H:HInv z g of) (I:ShInv K z g) (ht:t<4) (hn:(z.w t).does≠0) {w':Wk}(hT:Told g.Q t w') (e0:w'.does=0) (e1:w'.tog=(z.w t).tog/\w'.k=(z.w t).k/\w'.key=(z.w t).key/\w'.x=(z.w t).x) {m':Nat->Int}{s':Sto}:HInv ((z.moved t ⟨w',m',s'⟩).answered t w') g of:=by
 obtain⟨i0,a0,b0,c0,d1,d2,d3,-,LQ⟩:=H.opn t ht hn
 have hhist:((z.moved t ⟨w',m',s'⟩).answered t w').hist=z.hist++[⟨2,t,w'.k,w'.key,w'.x,w'.oc,w'.ov,w'.whn,z.steps+1⟩]:=rfl
 generalize hz':(z.moved t ⟨w',m',s'⟩).answered t w'=z' at hhist ⊢
 have hdeeds:z'.deeds=z.deeds:=by rw[<- hz'];rfl
 have hsteps:z'.steps=z.steps+1:=by rw[<- hz'];rfl
 have hwt:z'.w t=w':=by rw[<- hz'];exact Qf _ _ _
 have hw:∀u,u≠t->z'.w u=z.w u:=fun u hu=>by rw[<- hz'];exact QR _ _ hu
 have hc:QA z'.hist=(QA z.hist).map (Cl.end z.hist.length ⟨2,t,w'.k,w'.key,w'.x,w'.oc,w'.ov,w'.whn,z.steps+1⟩):=by
  rw[hhist,Qf4];unfold Qf6;rw[if_neg (by show ¬(2:Int)=1;decide),if_pos rfl]
 have hl:(QA z'.hist).length=(QA z.hist).length:=by rw[hc,List.length_map]
 have hC:∀i,i<(QA z.hist).length->i≠i0->(QA z'.hist).getD i Cl.nil=(QA z.hist).getD i Cl.nil:=fun i hi hne=>by
  rw[hc,QiV hi]
  unfold Cl.end
  rw[if_neg]
  rintro⟨h1,h2⟩
  exact hne (H.uni i i0 hi a0 h2 c0 (by rw[b0];exact h1))
 have hC0:(QA z'.hist).getD i0 Cl.nil={ (QA z.hist).getD i0 Cl.nil with to:=(z.hist.length:Int)+1,whn:=w'.whn,c:=w'.oc,v:=w'.ov }:=by
  rw[hc,QiV a0]
  unfold Cl.end
  rw[if_pos ⟨b0,c0⟩]
 have hfr:∀i,i<(QA z.hist).length->((QA z'.hist).getD i Cl.nil).fr=((QA z.hist).getD i Cl.nil).fr/\((QA z'.hist).getD i Cl.nil).t=((QA z.hist).getD i Cl.nil).t/\((QA z'.hist).getD i Cl.nil).k=((QA z.hist).getD i Cl.nil).k/\((QA z'.hist).getD i Cl.nil).key=((QA z.hist).getD i Cl.nil).key/\((QA z'.hist).getD i Cl.nil).x=((QA z.hist).getD i Cl.nil).x:=fun i hi=>by
  by_cases e:i=i0
  · subst e;rw[hC0];exact⟨rfl,rfl,rfl,rfl,rfl⟩
  · rw[hC i hi e];exact⟨rfl,rfl,rfl,rfl,rfl⟩
 have hhl:(z'.hist.length:Int)=z.hist.length+1:=by rw[hhist,List.length_append];rfl
 have hsl:=H.sl
 obtain⟨j0,f1,f2,f3⟩:=LQ.yes (hT.bit.trans e1.1)
 have f1':j0<g.n/\j0<of.length:=by rw[List.length_take]at f1;omega
 have f3':of.getD j0 0=i0:=by rw[<- f3];simp only[List.getD_eq_getElem?_getD,List.getElem?_take];rw[if_pos f1'.1]
 have hD:(z.deeds.take g.n).getD j0 Vd.nil=z.deeds.getD j0 Vd.nil:=by simp only[List.getD_eq_getElem?_getD,List.getElem?_take];rw[if_pos f1'.1]
 have hcv:(z.deeds.getD j0 Vd.nil).d.c=w'.oc/\(z.deeds.getD j0 Vd.nil).d.v=w'.ov:=by
  rcases I.gl.sumQ.each t ht with⟨h0,h1,h2⟩|⟨i,h1,h2,h3,h4,h5,-⟩
  · omega
  · obtain rfl:i=j0:=by omega
    rw[hD]at h4 h5
    exact Qjk h4 hT.ok (h5.symm.trans hT.ans)
 have hwhn:w'.whn=(j0:Int)+1:=by rw[<- hT.whn];exact f2
 refine⟨by rw[hdeeds];exact H.ln,fun j hj=>by rw[hl];exact H.lt j hj,fun j hj=>?_,H.inj,fun i hi h=>?_,fun u hu hn'=>?_,fun i i' hi hi' h h' e=>?_,fun u hu hn' i hi e=>?_,fun i hi=>?_,fun j k' hjk hk h=>?_,fun i hi=>?_,?_,?_,?_⟩
 · have h1:=hfr _ (H.lt j hj)
   rw[h1.2.1,h1.2.2.1,h1.2.2.2.1,h1.2.2.2.2,hdeeds];exact H.op j hj
 · rw[hl]at hi
   by_cases e:i=i0
   · subst e
     rw[hC0,hdeeds]
     exact⟨j0,hwhn,f1'.1,f3',hcv.1,hcv.2⟩
   · rw[hC i hi e]at h ⊢
     rw[hdeeds];exact H.ans i hi h
 · by_cases e:u=t
   · subst e;rw[hwt]at hn';exact absurd e0 hn'
   · rw[hw u e]at hn' ⊢
     obtain⟨i,a,b,c,d⟩:=H.opn u hu hn'
     have hne:i≠i0:=fun h=>by rw[h,b0]at b;omega
     exact⟨i,by rw[hl];exact a,by rw[hC i a hne];exact b,by rw[hC i a hne];exact c,by rw[hC i a hne];exact d⟩
 · rw[hl]at hi hi'
   have n1:i≠i0:=fun h1=>by rw[h1,hC0]at h;exact absurd h (by show ¬(z.hist.length:Int)+1=0;omega)
   have n2:i'≠i0:=fun h1=>by rw[h1,hC0]at h';exact absurd h' (by show ¬(z.hist.length:Int)+1=0;omega)
   rw[hC i hi n1]at h e;rw[hC i' hi' n2]at h' e
   exact H.uni i i' hi hi' h h' e
 · rw[hl]at hi
   by_cases ei:i=i0
   · subst ei;rw[hC0];show ¬(z.hist.length:Int)+1=0;omega
   · rw[hC i hi ei]at e ⊢
     by_cases eu:u=t
     · subst eu
       intro h
       exact ei (H.uni i i0 hi a0 h c0 (by rw[b0];exact e))
     · rw[hw u eu]at hn';exact H.idl u hu hn' i hi e
 · rw[hl]at hi;rw[(hfr i hi).2.1];exact H.th i hi
 · have h1:=H.lt j (by omega)
   have h2:=H.lt k' hk
   rw[(hfr _ h1).1]
   by_cases e:of.getD k' 0=i0
   · rw[e,hC0]
     have:=H.tos _ h1
     show _<=(z.hist.length:Int)+1
     omega
   · rw[hC _ h2 e]at h ⊢;exact H.rt j k' hjk hk h
 · rw[hl]at hi
   rw[(hfr i hi).1,hhl]
   have:=H.tos i hi
   by_cases e:i=i0
   · subst e;rw[hC0];dsimp only;omega
   · rw[hC i hi e];omega
 · rw[hhist]
   intro e he
   rcases List.mem_append.1 he with he|he
   · exact (H.ev e he).mono (by omega) (Nat.le_refl _) (fun j _=>by rw[hdeeds])
   · obtain rfl:=List.mem_singleton.1 he
     refine⟨.inr (.inl rfl),fun _=>⟨t,ht,rfl⟩,fun _=>?_,by show (1:Int)<=z.steps+1;omega,by show z.steps+1<=z'.steps;omega,fun _=>⟨j0,hwhn,f1'.1,by rw[hdeeds];exact hcv.1,by rw[hdeeds];exact hcv.2⟩⟩
     show opOk w'.k w'.key w'.x=true
     rw[e1.2.1,e1.2.2.1,e1.2.2.2];exact (I.th t ht).op hn
 · rw[hhist]
   refine List.pairwise_append.2 ⟨H.clk,List.pairwise_singleton _ _,fun a ha b hb=>?_⟩
   obtain rfl:=List.mem_singleton.1 hb
   have:=(H.ev a ha).s1
   show a.step<z.steps+1
   omega
 · rw[hhl,hsteps];omega
theorem QoV:∀ {l:List Ask}{B:Int}{r:Rec},RecOK B r->AsksOK l->l.Pairwise (fun a b=>a.t≠b.t)->(∀a∈l,bOpen r a=true) ->
 (bD r l).length=l.length/\∀i,i<l.length->((bD r l).getD i Dd.nil).t=(l.getD i Ask.nil).t/\((bD r l).getD i Dd.nil).k=(l.getD i Ask.nil).k/\((bD r l).getD i Dd.nil).key=(l.getD i Ask.nil).key/\((bD r l).getD i Dd.nil).x=(l.getD i Ask.nil).x
 |[],B,r,_,_,_,_=>⟨rfl,fun i hi=>absurd hi (Nat.not_lt_zero _)⟩
 |a::l,B,r,h,ha,hp,ho=>by
  rw[List.pairwise_cons]at hp
  have h1:=ho a List.mem_cons_self
  have ed:bDs r a=[Qbk r a]:=by unfold bDs;rw[h1];rfl
  have e:bD r (a::l)=Qbk r a::bD (Xv r a) l:=by show bDs r a++bD (Xv r a) l=_;rw[ed];rfl
  have ih:=QoV (l:=l) (QcR h (ha a List.mem_cons_self)) ha.tail hp.2 (fun b hb=>by
   have hb1:=ho b (List.mem_cons_of_mem _ hb)
   have h2:=QbO h (ha a List.mem_cons_self) b.t (ha b (List.mem_cons_of_mem _ hb)).1
   rw[if_neg (fun e=>hp.1 b hb e.symm)]at h2
   unfold bOpen at hb1 ⊢
   rw[h2];exact hb1)
  rw[e]
  refine⟨by rw[List.length_cons,List.length_cons,ih.1],fun i hi=>?_⟩
  cases i with
  |zero=>exact⟨rfl,rfl,rfl,rfl⟩
  |succ i=>
   have:=ih.2 i (by rw[List.length_cons]at hi;omega)
   simpa using this
end
end
section
section
variable {K:Int}{z:Sh}{g:Gh}{of:List Nat}{t:Nat}
theorem HInv.indexed (H:HInv z g of) (I:ShInv K z g) (hs:z.steps<100000000) {z':Sh}{l:List Ask}{i4 h0:Nat}(hG:Gath z.w g.R h0 l i4) (hV:g.V=g.dv)
 (hh:z'.hist=z.hist) (hd:z'.deeds=z.deeds++(bD g.R l).map (Vd.mk (g.V+1))) (hst:z.steps<=z'.steps) (hw:∀t,t<4->((z'.w t).does=0↔(z.w t).does=0)/\(z'.w t).tog=(z.w t).tog/\(z'.w t).k=(z.w t).k/\(z'.w t).key=(z.w t).key/\(z'.w t).x=(z.w t).x) {V':Int}:
 ∃of',HInv z' ⟨V',bDo g.R l,g.dv,g.Q,g.n⟩ of':=by
 have hok:=hG.okA I
 have hne:l.Pairwise (fun a b=>a.t≠b.t):=hG.asc.imp (fun h=>Nat.ne_of_lt h)
 have hop:∀a∈l,bOpen g.R a=true:=fun a ha=>by
  have:=(hG.want a ha).opn
  unfold bOpen;simpa using this
 obtain⟨b1,b2⟩:=QoV I.gl.sumR.ok hok hne hop
 have hnn:g.n=z.deeds.length:=(I.gl.same hV).2
 have hN:=(I.gl.next hs hok).1
 have hex:∀t,∃i,t<4->(z.w t).does≠0->i<(QA z.hist).length/\((QA z.hist).getD i Cl.nil).t=t/\((QA z.hist).getD i Cl.nil).to=0/\((QA z.hist).getD i Cl.nil).k=(z.w t).k/\((QA z.hist).getD i Cl.nil).key=(z.w t).key/\((QA z.hist).getD i Cl.nil).x=(z.w t).x/\Link g.R of t (z.w t).tog i/\Link g.Q (of.take g.n) t (z.w t).tog i:=fun t=>by
  by_cases h:t<4/\(z.w t).does≠0
  · obtain⟨i,hi⟩:=H.opn t h.1 h.2
    exact⟨i,fun _ _=>hi⟩
  · exact⟨0,fun h1 h2=>absurd ⟨h1,h2⟩ h⟩
 obtain⟨ix,hix⟩:=Classical.axiomOfChoice hex
 have hW:∀i,i<l.length->Want z.w g.R (l.getD i Ask.nil):=fun i hi=>by
  rw[List.getD_eq_getElem?_getD,List.getElem?_eq_getElem hi];exact hG.want _ (List.getElem_mem hi)
 have hX:∀i,i<l.length->_:=fun i hi=>hix (l.getD i Ask.nil).t (hW i hi).t4 (hW i hi).act
 have hpair:∀i j,i<j->j<l.length->(l.getD i Ask.nil).t≠(l.getD j Ask.nil).t:=fun i j hij hj=>by
  have:=List.pairwise_iff_getElem.1 hne i j (by omega) hj hij
  simpa [List.getD_eq_getElem?_getD,List.getElem?_eq_getElem (show i<l.length by omega),List.getElem?_eq_getElem hj] using this
 have hlm:(l.map fun a=>ix a.t).length=l.length:=List.length_map _
 have oN:∀i,i<l.length->(of++l.map fun a=>ix a.t).getD (of.length+i) 0=ix (l.getD i Ask.nil).t:=fun i hi=>by
  rw[Qa0];simp[List.getD_eq_getElem?_getD,hi]
 have oO:∀j,j<of.length->(of++l.map fun a=>ix a.t).getD j 0=of.getD j 0:=fun j hj=>QaC hj
 have dO:∀j,j<z.deeds.length->(z.deeds++(bD g.R l).map (Vd.mk (g.V+1))).getD j Vd.nil=z.deeds.getD j Vd.nil:=fun j hj=>QaC hj
 have dN:∀i,i<l.length->((z.deeds++(bD g.R l).map (Vd.mk (g.V+1))).getD (z.deeds.length+i) Vd.nil).d=(bD g.R l).getD i Dd.nil:=fun i hi=>by
  rw[Qa0];simp[List.getD_eq_getElem?_getD,show i<(bD g.R l).length by omega]
 have hlen:(of++l.map fun a=>ix a.t).length=of.length+l.length:=by rw[List.length_append,hlm]
 have hdl:(z.deeds++(bD g.R l).map (Vd.mk (g.V+1))).length=z.deeds.length+l.length:=by rw[List.length_append,List.length_map,b1]
 have split:∀j,j<of.length+l.length->j<of.length\/∃i,i<l.length/\j=of.length+i:=fun j hj=>by
  by_cases h:j<of.length
  · exact .inl h
  · exact .inr ⟨j-of.length,by omega,by omega⟩
 have hol:=H.ln
 refine⟨of++l.map fun a=>ix a.t,by rw[hlen,hd,hdl,hol],fun j hj=>?_,fun j hj=>?_,fun j k hjk hk=>?_,fun i hi h=>?_,fun u hu hn=>?_,by rw[hh];exact H.uni,fun u hu hn=>by rw[hh];exact H.idl u hu ((hw u hu).1.1 hn),by rw[hh];exact H.th,fun j k hjk hk h=>?_,by rw[hh];exact H.tos,?_,by rw[hh];exact H.clk,by rw[hh];exact Int.le_trans H.sl hst⟩
 · rw[hlen]at hj;rw[hh]
   rcases split j hj with h|⟨i,hi,rfl⟩
   · rw[oO j h];exact H.lt j h
   · rw[oN i hi];exact (hX i hi).1
 · rw[hlen]at hj;rw[hh,hd]
   rcases split j hj with h|⟨i,hi,rfl⟩
   · rw[oO j h,dO j (by omega)];exact H.op j h
   · have e:=hX i hi
     have w:=hW i hi
     have b:=b2 i hi
     rw[oN i hi,hol,dN i hi,b.1,b.2.1,b.2.2.1,b.2.2.2]
     exact⟨e.2.1,e.2.2.2.1.trans w.k,e.2.2.2.2.1.trans w.key,e.2.2.2.2.2.1.trans w.x⟩
 · rw[hlen]at hk
   rcases split k hk with h|⟨i,hi,rfl⟩
   · rw[oO j (by omega),oO k h];exact H.inj j k hjk h
   · rw[oN i hi]
     rcases split j (by omega)with h2|⟨i2,hi2,rfl⟩
     · rw[oO j h2]
       exact (hX i hi).2.2.2.2.2.2.1.no (by rw[(hW i hi).tog];exact (hW i hi).opn) j h2
     · rw[oN i2 hi2]
       intro e
       have h1:=(hX i2 hi2).2.1
       rw[e,(hX i hi).2.1]at h1
       exact hpair i2 i (by omega) hi (by omega)
 · rw[hh]at hi h
   obtain⟨j,a,b,c,d,e⟩:=H.ans i hi h
   have b':j<g.n:=b
   exact⟨j,by rw[hh];exact a,b,by rw[oO j (by omega)];exact c,by rw[hd,dO j (by omega),hh];exact d,by rw[hd,dO j (by omega),hh];exact e⟩
 · obtain⟨w0,w1,w2,w3,w4⟩:=hw u hu
   have hn0:(z.w u).does≠0:=fun h=>hn (w0.2 h)
   obtain⟨i1,i2,i3,i4,i5,i6,i7,i8⟩:=hix u hu hn0
   refine⟨ix u,by rw[hh];exact i1,by rw[hh];exact i2,by rw[hh];exact i3,by rw[hh,w2];exact i4,by rw[hh,w3];exact i5,by rw[hh,w4];exact i6,?_,?_⟩
   · rw[w1]
     show Link (bDo g.R l) _ u _ _
     by_cases hx:∃i,i<l.length/\(l.getD i Ask.nil).t=u
     · obtain⟨p,hp,hpu⟩:=hx
       have hmem:l.getD p Ask.nil∈l:=by rw[List.getD_eq_getElem?_getD,List.getElem?_eq_getElem hp];exact List.getElem_mem hp
       have hbit:Qh (bR g.R l).tog u=(z.w u).tog:=by
        have h1:=QgU I.gl.sumR.ok hok hne _ hmem
        have h2:Qh (bR g.R l).tog (l.getD p Ask.nil).t=(l.getD p Ask.nil).g:=by simpa [bOpen] using h1
        rw[hpu]at h2
        have h3:=(hW p hp).tog
        rw[hpu]at h3
        rw[h2,h3]
       refine⟨fun _=>?_,fun h=>absurd hbit h⟩
       have hdp:((z.deeds++(bD g.R l).map (Vd.mk (g.V+1))).getD (z.deeds.length+p) Vd.nil).d.t=u:=by rw[dN p hp,(b2 p hp).1];exact congrArg (fun q:Nat=>(q:Int)) hpu
       rcases hN.each u hu with⟨h0,-,-⟩|⟨q,q1,q2,q3,q4,q5,q6⟩
       · exfalso
         unfold cntT at h0
         rw[List.countP_eq_zero]at h0
         have hlt:z.deeds.length+p<(z.deeds++(bD g.R l).map (Vd.mk (g.V+1))).length:=by omega
         have h2:=h0 _ (List.getElem_mem hlt)
         rw[List.getD_eq_getElem?_getD,List.getElem?_eq_getElem hlt]at hdp
         exact h2 (by simpa using hdp)
       · rw[hdl]at q2
         have hqp:q=z.deeds.length+p:=by
          rcases Nat.lt_trichotomy q (z.deeds.length+p)with h|h|h
          · exact absurd hdp (q6 _ h (by omega))
          · exact h
          · obtain⟨i',rfl⟩:∃i',q=z.deeds.length+i':=⟨q-z.deeds.length,by omega⟩
            rw[dN i' (by omega),(b2 i' (by omega)).1]at q3
            exact absurd (by omega) (hpair p i' (by omega) (by omega))
         exact⟨q,by rw[hlen];omega,q1,by rw[hqp,<- hol,oN p hp,hpu]⟩
     · have hnot:∀a∈l,a.t≠u:=fun a ha e=>by
        obtain⟨p,hp,rfl⟩:=List.mem_iff_getElem.1 ha
        exact hx ⟨p,hp,by rw[List.getD_eq_getElem?_getD,List.getElem?_eq_getElem hp];exact e⟩
       have hk:=QeP I.gl.sumR.ok hok u hu hnot
       refine⟨fun h=>?_,fun h j hj=>?_⟩
       · have h':Qh g.R.tog u=(z.w u).tog:=hk.2.2.symm.trans h
         obtain⟨j,c1,c2,c3⟩:=i7.yes h'
         exact⟨j,by rw[hlen];omega,hk.2.1.trans c2,by rw[oO j c1];exact c3⟩
       · have h':Qh g.R.tog u≠(z.w u).tog:=fun e=>h (hk.2.2.trans e)
         rw[hlen]at hj
         rcases split j hj with h2|⟨i',hi',rfl⟩
         · rw[oO j h2];exact i7.no h' j h2
         · rw[oN i' hi']
           intro e
           have h3:=(hX i' hi').2.1
           rw[e,i2]at h3
           exact hx ⟨i',hi',by omega⟩
   · rw[w1]
     show Link g.Q (List.take g.n _) u _ _
     have e1:(of++l.map fun a=>ix a.t).take g.n=of.take g.n:=by
      rw[hnn,<- hol,List.take_left',List.take_length];rfl
     rw[e1];exact i8
 · rw[hlen]at hk
   rw[hh]at h ⊢
   rcases split k hk with h2|⟨i,hi,rfl⟩
   · rw[oO k h2]at h ⊢;rw[oO j (by omega)];exact H.rt j k hjk h2 h
   · rw[oN i hi]at h;exact absurd (hX i hi).2.2.1 h
 · rw[hh]
   intro e he
   refine (H.ev e he).mono hst (Nat.le_refl _) (fun j hj=>?_)
   rw[hd,dO j (by omega)]
theorem Qcj (w:Wk) (n d:Int):(w.next n d).th=w.th/\(w.next n d).tog=w.tog/\(w.next n d).k=w.k/\(w.next n d).key=w.key/\(w.next n d).x=w.x:=by
 unfold Wk.next;split<;>exact⟨rfl,rfl,rfl,rfl,rfl⟩
theorem QdS (w:Wk):w.all.th=w.th/\w.all.tog=w.tog/\w.all.k=w.k/\w.all.key=w.key/\w.all.x=w.x/\w.all.does=w.does:=by
 unfold Wk.all;split<;>exact⟨rfl,rfl,rfl,rfl,rfl,rfl⟩
theorem QfL (z:WSt):(Qe z).1.w.th=z.w.th/\(Qe z).1.w.tog=z.w.tog/\(Qe z).1.w.k=z.w.k/\(Qe z).1.w.key=z.w.key/\(Qe z).1.w.x=z.w.x:=by
 unfold Qe
 split
 · exact⟨rfl,rfl,rfl,rfl,rfl⟩
 split
 · unfold sayP;repeat' split
   all_goals exact⟨rfl,rfl,rfl,rfl,rfl⟩
 split
 · unfold Xt
   split
   · exact⟨rfl,rfl,rfl,rfl,rfl⟩
   split
   · exact Qcj _ 32 6
   split
   · split
     · exact⟨rfl,rfl,rfl,rfl,rfl⟩
     · have a:=QdS (Wk.next z.w 4 8)
       have b:=Qcj z.w 4 8
       exact⟨a.1.trans b.1,a.2.1.trans b.2.1,a.2.2.1.trans b.2.2.1,a.2.2.2.1.trans b.2.2.2.1,a.2.2.2.2.1.trans b.2.2.2.2⟩
   · have a:=QdS (Wk.next { z.w with asks:=Q9 z.w.asks (z.m (2+2*z.w.i.toNat)/281474976710656%65536) (z.m (2+2*z.w.i.toNat)/4294967296%65536) (z.m (2+2*z.w.i.toNat)%4294967296),does:=6 } 4 8)
     have b:=Qcj { z.w with asks:=Q9 z.w.asks (z.m (2+2*z.w.i.toNat)/281474976710656%65536) (z.m (2+2*z.w.i.toNat)/4294967296%65536) (z.m (2+2*z.w.i.toNat)%4294967296),does:=6 } 4 8
     exact⟨a.1.trans b.1,a.2.1.trans b.2.1,a.2.2.1.trans b.2.2.1,a.2.2.2.1.trans b.2.2.2.1,a.2.2.2.2.1.trans b.2.2.2.2⟩
 split
 · unfold Xf
   split
   · exact Qcj z.w 32 9
   split
   · exact Qcj z.w 4 10
   repeat' split
   all_goals exact⟨rfl,rfl,rfl,rfl,rfl⟩
 split
 · unfold XT;repeat' split
   all_goals exact⟨rfl,rfl,rfl,rfl,rfl⟩
 · unfold QP;repeat' split
   all_goals exact⟨rfl,rfl,rfl,rfl,rfl⟩
theorem Qck {w:Wk}{n d:Int}(h:w.does≠0) (hd:d≠0):(w.next n d).does≠0:=by unfold Wk.next;split<;>assumption
theorem QfM (z:WSt) (h:z.w.does≠0) (hb:(Qe z).2=false):(Qe z).1.w.does≠0:=by
 unfold Qe at hb ⊢
 rw[if_neg h]at hb ⊢
 split
 · unfold sayP;repeat' split
   all_goals (first|(show ¬(2:Int)=0;decide)|(show ¬(3:Int)=0;decide)|(show ¬(4:Int)=0;decide)|(show ¬(17:Int)=0;decide))
 rename_i h1
 rw[if_neg h1]at hb
 split
 · unfold Xt
   split
   · show ¬(5:Int)=0;decide
   split
   · exact Qck h (by decide)
   split
   · split
     · show ¬(7:Int)=0;decide
     · show (Wk.all _).does≠0
       rw[(QdS _).2.2.2.2.2];exact Qck h (by decide)
   · show (Wk.all _).does≠0
     rw[(QdS _).2.2.2.2.2];exact Qck (by show ¬(6:Int)=0;decide) (by decide)
 rename_i h2
 rw[if_neg h2]at hb
 split
 · unfold Xf
   split
   · exact Qck h (by decide)
   split
   · exact Qck h (by decide)
   repeat' split
   all_goals (first|(show ¬(11:Int)=0;decide)|(show ¬(12:Int)=0;decide)|(show ¬(13:Int)=0;decide)|(show ¬(14:Int)=0;decide))
 rename_i h3
 rw[if_neg h3]at hb
 split
 · rename_i h4
   rw[if_pos h4]at hb
   unfold XT at hb ⊢
   split
   · show ¬(15:Int)=0;decide
   rename_i h5
   rw[if_neg h5]at hb
   split
   · show ¬(16:Int)=0;decide
   rename_i h6
   rw[if_neg h6]at hb;cases hb
 rename_i h4
 rw[if_neg h4]at hb
 unfold QP at hb ⊢
 split
 · show ¬(18:Int)=0;decide
 rename_i h5
 rw[if_neg h5]at hb
 split
 · show ¬(19:Int)=0;decide
 rename_i h6
 rw[if_neg h6]at hb
 split
 · show ¬(20:Int)=0;decide
 rename_i h7
 rw[if_neg h7]at hb
 split
 · show ¬(21:Int)=0;decide
 rename_i h8
 rw[if_neg h8]at hb
 split
 · rename_i h9
   rw[if_pos h9]at hb;cases hb
 · show ¬(if z.w.said then (3:Int)else 1)=0
   split<;>decide
theorem Qdj (I:ShInv K z g) (ht:t<4) (hn:(z.w t).does≠0) (hb:(Qe (z.wst t)).2=true):Told g.Q t (Qe (z.wst t)).1.w/\(Qe (z.wst t)).1.w.does=0/\(Qe (z.wst t)).1.m=z.m/\(Qe (z.wst t)).1.s=z.s/\((z.w t).does=16\/(z.w t).does=21):=by
 have T:=I.th t ht
 have h0:=T.d0
 have h21:=T.d21
 have hn':¬(z.wst t).w.does=0:=hn
 unfold Qe at hb ⊢
 rw[if_neg hn']at hb ⊢
 by_cases c1:(z.wst t).w.does<=3
 · rw[if_pos c1]at hb;cases hb
 rw[if_neg c1]at hb ⊢
 by_cases c2:(z.wst t).w.does<=7
 · rw[if_pos c2]at hb;cases hb
 rw[if_neg c2]at hb ⊢
 by_cases c3:(z.wst t).w.does<=13
 · rw[if_pos c3]at hb;cases hb
 rw[if_neg c3]at hb ⊢
 by_cases c4:(z.wst t).w.does<=16
 · rw[if_pos c4]at hb ⊢
   unfold XT at hb ⊢
   by_cases c5:(z.wst t).w.does=14
   · rw[if_pos c5]at hb;cases hb
   rw[if_neg c5]at hb ⊢
   by_cases c6:(z.wst t).w.does=15
   · rw[if_pos c6]at hb;cases hb
   rw[if_neg c6]at hb ⊢
   have h16:(z.w t).does=16:=by
    have a:¬(z.w t).does<=13:=c3
    have b:(z.w t).does<=16:=c4
    have c:¬(z.w t).does=14:=c5
    have d:¬(z.w t).does=15:=c6
    omega
   have:=(T.rep h16).1
   exact⟨⟨this.bit,this.ok,this.ans,this.whn⟩,rfl,rfl,rfl,.inl h16⟩
 · rw[if_neg c4]at hb ⊢
   unfold QP at hb ⊢
   by_cases c5:(z.wst t).w.does=17
   · rw[if_pos c5]at hb;cases hb
   rw[if_neg c5]at hb ⊢
   by_cases c6:(z.wst t).w.does=18
   · rw[if_pos c6]at hb;cases hb
   rw[if_neg c6]at hb ⊢
   by_cases c7:(z.wst t).w.does=19
   · rw[if_pos c7]at hb;cases hb
   rw[if_neg c7]at hb ⊢
   by_cases c8:(z.wst t).w.does=20
   · rw[if_pos c8]at hb;cases hb
   rw[if_neg c8]at hb ⊢
   by_cases c9:(z.wst t).m 1=(z.wst t).w.v/\Qh ((z.wst t).w.seen 0) (z.wst t).w.th=(z.wst t).w.tog
   · rw[if_pos c9]
     have e21:(z.w t).does=21:=by
      have a:¬(z.w t).does<=16:=c4
      have b:¬(z.w t).does=17:=c5
      have c:¬(z.w t).does=18:=c6
      have d:¬(z.w t).does=19:=c7
      have e:¬(z.w t).does=20:=c8
      omega
     obtain⟨d1,d2⟩:=c9
     have d1:z.m 1=(z.w t).v:=d1
     have d2:Qh ((z.w t).seen 0) (z.w t).th=(z.w t).tog:=d2
     have hv:(z.w t).v=g.dv:=by rw[<- d1];exact I.gl.done
     rw[T.th,T.lk2 (by omega) hv]at d2
     obtain⟨c,v,hA,ha,-⟩:=I.toldQ ht hn d2
     have hc:=Qcx hA
     have e1:(z.w t).seen 1=ansW c v:=(T.lk3 (by omega) hv).trans ha
     refine⟨⟨d2,?_,?_,?_⟩,rfl,rfl,rfl,.inr e21⟩
     · show QQ ((z.w t).seen 1/4294967296%4294967296) ((z.w t).seen 1%4294967296)
       rw[e1,hc.1,hc.2.1];exact hA
     · show _=ansW ((z.w t).seen 1/4294967296%4294967296) ((z.w t).seen 1%4294967296)
       rw[e1,hc.1,hc.2.1];exact ha
     · exact (T.lk4 (by omega) hv).symm
   · rw[if_neg c9]at hb;cases hb
def Fine (K:Int) (z:Sh) (g:Gh):Prop:=ShInv K z g/\∃of,HInv z g of
theorem Qog {K:Int}(h1:1<=K) (h6:K<=6):Fine K (Sh.new K) (Gh.new K):=⟨Qpw h1 h6,[],Qn8 K⟩
theorem Qfl (F:Fine K z g) (ht:t<4) (k key x:Int):Fine K (z.call t k key x) g:=by
 obtain⟨I,of,H⟩:=F
 refine⟨Qn3 I ht k key x,of,?_⟩
 unfold Sh.call
 split
 · rename_i h;exact H.called I ht h.1 h.2
 · exact H
theorem Qlj {α:Type}{f:Nat->α}{t:Nat}{x:α}{p:Nat->α->Prop}(h:p t x) (h2:∀u,u≠t->p u (f u)) (u:Nat):p u (setF f t x u):=by
 by_cases e:u=t
 · subst e;rw[Qf];exact h
 · rw[QR _ _ e];exact h2 u e
theorem QaE (F:Fine K z g) (ht:t<4) (hs:z.steps<100000000) (hn:(z.w t).does≠0):Fine K (z.stepped t) (g.step z t):=by
 obtain⟨I,of,H⟩:=F
 refine⟨Qil I ht hs hn,?_⟩
 have hsame:=QfL (z.wst t)
 have hw (hb:(Qe (z.wst t)).2=false):∀u,u<4->((setF z.w t (Qe (z.wst t)).1.w u).does=0↔(z.w u).does=0)/\(setF z.w t (Qe (z.wst t)).1.w u).tog=(z.w u).tog/\(setF z.w t (Qe (z.wst t)).1.w u).k=(z.w u).k/\(setF z.w t (Qe (z.wst t)).1.w u).key=(z.w u).key/\(setF z.w t (Qe (z.wst t)).1.w u).x=(z.w u).x:=fun u _=>
  Qlj (p:=fun u (w:Wk)=>(w.does=0↔(z.w u).does=0)/\w.tog=(z.w u).tog/\w.k=(z.w u).k/\w.key=(z.w u).key/\w.x=(z.w u).x)
   ⟨⟨fun h=>absurd h (QfM _ hn hb),fun h=>absurd h hn⟩,hsame.2.1,hsame.2.2.1,hsame.2.2.2.1,hsame.2.2.2.2⟩ (fun u _=>⟨Iff.rfl,rfl,rfl,rfl,rfl⟩) u
 unfold Gh.step
 by_cases e11:(z.w t).does=11
 · rw[if_pos e11]
   have hb:=Qnm e11
   have e:Qe (z.wst t)=((Qe (z.wst t)).1,false):=by rw[<- hb]
   rw[QbU e11 e]
   have hho:Xm (z.w t):=⟨by omega,by omega⟩
   have O:=I.ho t ht hho
   have hV:=O.low (.inl (by omega))
   have hv:=O.ver (by omega) (by omega)
   obtain⟨hG,hD,-,-⟩:=O.nx (by omega) (by omega)
   have e2:(Qe (z.wst t)).1=⟨{ z.w t with does:=12 },z.m,z.s.save 0 ((z.w t).v+1)⟩:=by
    have:Qe (z.wst t)=(⟨{ z.w t with does:=12 },z.m,z.s.save 0 ((z.w t).v+1)⟩,false):=by simp[Qe,Xf,Sh.wst,e11]
    rw[this]
   refine H.indexed I hs hG hV (z':=(z.moved t (Qe (z.wst t)).1).counted (Qe (z.wst t)).1.w.deeds) rfl ?_ (by show z.steps<=z.steps+1;omega) (hw hb)
   rw[e2]
   show z.deeds++(z.w t).deeds.map (Vd.mk (putF z.s.now 0 ((z.w t).v+1) 0))=_
   rw[hD,QW,hv,hV]
 · rw[if_neg e11]
   have hnoans:(Qe (z.wst t)).2=false->HInv (z.stepped t) g of:=fun hb=>by
    have e:Qe (z.wst t)=((Qe (z.wst t)).1,false):=by rw[<- hb]
    rw[Qo e11 e]
    exact H.same rfl rfl (by show z.steps<=z.steps+1;omega) (hw hb)
   by_cases e14:(z.w t).does=14
   · rw[if_pos e14]
     have hb:(Qe (z.wst t)).2=false:=by simp[Qe,XT,Sh.wst,e14]
     have H2:=hnoans hb
     have e:Qe (z.wst t)=((Qe (z.wst t)).1,false):=by rw[<- hb]
     have hdd:(z.stepped t).deeds=z.deeds:=by rw[Qo e11 e];rfl
     have:=H2.tell (by rw[hdd];exact I.gl.nle) (V':=g.V) (dv':=g.V)
     rw[hdd]at this
     exact⟨of,this⟩
   · rw[if_neg e14]
     cases hb:(Qe (z.wst t)).2
     · exact⟨of,hnoans hb⟩
     · obtain⟨hT,h0,hm,hss,-⟩:=Qdj I ht hn hb
       have e:Qe (z.wst t)=((Qe (z.wst t)).1,true):=by rw[<- hb]
       rw[Qa8 e11 e]
       exact⟨of,H.answered I ht hn hT h0 ⟨hsame.2.1,hsame.2.2.1,hsame.2.2.2.1,hsame.2.2.2.2⟩⟩
theorem Qhy (F:Fine K z g) (ht:t<4) (hs:z.steps<100000000):∃g',Fine K (z.step t) g':=by
 unfold Sh.step
 split
 · exact⟨g,F⟩
 · rename_i h;exact⟨_,QaE F ht hs h⟩
theorem QcA (z:Sh) (t:Nat):z.steps<=(z.step t).steps/\(z.step t).steps<=z.steps+1:=by
 unfold Sh.step
 split
 · omega
 · unfold Sh.stepped
   dsimp only
   split<;>split<;>(show z.steps<=z.steps+1/\z.steps+1<=z.steps+1;omega)
theorem Qhb (t:Nat):∀(n:Nat) (z:Sh),z.steps<=(z.run t n).steps/\(z.run t n).steps<=z.steps+n
 |0,z=>by show z.steps<=z.steps/\z.steps<=z.steps+((0:Nat):Int);omega
 |n+1,z=>by
  have h1:=QcA z t
  have h2:=Qhb t n (z.step t)
  show z.steps<=((z.step t).run t n).steps/\((z.step t).run t n).steps<=z.steps+((n+1:Nat):Int)
  omega
theorem Qi8 (ht:t<4):∀(n:Nat) {z:Sh}{g:Gh},Fine K z g->z.steps+n<100000000->∃g',Fine K (z.run t n) g'
 |0,z,g,F,_=>⟨g,F⟩
 |n+1,z,g,F,hs=>by
  obtain⟨g1,F1⟩:=Qhy F ht (by omega)
  have:=QcA z t
  exact Qi8 ht n F1 (by omega)
end
end
section
structure SoC where
 ms:Nat->Int
 mo:Nat->Int
 W:Nat->Wk
 tog:Nat->Int
 hist:List Ev
 deeds:List Vd
 R:Rec
 V:Int
def askB (R:Rec) (ms:Nat->Int) (u:Nat):Bool:=decide (ms u≠0/\ms u-1≠Qh R.tog u)
def QmS (ms mo:Nat->Int) (u:Nat):Ask:=⟨u,ms u-1,mo u/281474976710656%65536,mo u/4294967296%65536,mo u%4294967296⟩
def askL (R:Rec) (ms mo:Nat->Int):Nat->List Ask
 |0=>[]
 |i+1=>askL R ms mo i++(bif askB R ms i then [QmS ms mo i]else [])
def askN (R:Rec) (ms:Nat->Int) (i:Nat):Nat->Nat
 |0=>0
 |n+1=>(bif askB R ms i then 2 else 1)+askN R ms (i+1) n
def left (c:SoC) (w:Wk):Nat:=
 if w.does=3 then 77+askN c.R c.ms 0 4 else if w.does=4 then 76+askN c.R c.ms 0 4
 else if w.does=5 then 43+(32-w.i.toNat)+askN c.R c.ms 0 4 else if w.does=6 then 43+askN c.R c.ms w.i.toNat (4-w.i.toNat)
 else if w.does=7 then 44+askN c.R c.ms (w.i.toNat+1) (3-w.i.toNat)else if w.does=8 then 11+(32-w.i.toNat)
 else if w.does=9 then 7+(4-w.i.toNat)else (17-w.does).toNat
structure Solo (t:Nat) (c:SoC) (z:Sh) (g:Gh):Prop where
 d3:3<=(z.w t).does
 d16:(z.w t).does<=16
 ms:∀u,u<4->z.m (3+2*u)=c.ms u
 mo:∀u,u<4->z.m (2+2*u)=c.mo u
 free:(z.w t).does=3->z.m 0=0
 W:∀u,u≠t->z.w u=c.W u
 tog:z.tog=c.tog
 hist:z.hist=c.hist
 R0:(z.w t).does<=11->g.R=c.R/\g.V=c.V/\z.deeds=c.deeds
 R1:12<=(z.w t).does->g.R=bDo c.R (askL c.R c.ms c.mo 4)/\g.V=c.V+1/\z.deeds=c.deeds++(bD c.R (askL c.R c.ms c.mo 4)).map (Vd.mk (c.V+1))
 a6:(z.w t).does=6->(z.w t).asks=askL c.R c.ms c.mo (z.w t).i.toNat
 a7:(z.w t).does=7->(z.w t).asks=askL c.R c.ms c.mo (z.w t).i.toNat++[⟨(z.w t).i.toNat,c.ms (z.w t).i.toNat-1,0,0,0⟩]/\askB c.R c.ms (z.w t).i.toNat=true
 a8:8<=(z.w t).does->(z.w t).does<=11->(z.w t).asks=askL c.R c.ms c.mo 4
section
variable {K:Int}{z:Sh}{g:Gh}{t:Nat}{c:SoC}
theorem Solo.go (S:Solo t c z g) {w':Wk}{m':Nat->Int}{s':Sto}{g':Gh}{d:Int}(hd:w'.does=d) (k3:3<d) (k16:d<=16) (hm:∀a,2<=a->m' a=z.m a)
 (R0:d<=11->(z.w t).does<=11/\g'=g) (R1:12<=d->12<=(z.w t).does/\g'.R=g.R/\g'.V=g.V)
 (a6:d=6->w'.asks=askL c.R c.ms c.mo w'.i.toNat) (a7:d=7->w'.asks=askL c.R c.ms c.mo w'.i.toNat++[⟨w'.i.toNat,c.ms w'.i.toNat-1,0,0,0⟩]/\askB c.R c.ms w'.i.toNat=true) (a8:8<=d->d<=11->w'.asks=askL c.R c.ms c.mo 4):Solo t c (z.moved t ⟨w',m',s'⟩) g':=by
 subst hd
 have e:(z.moved t ⟨w',m',s'⟩).w t=w':=Qf _ _ _
 refine⟨by rw[e];omega,by rw[e];exact k16,fun u hu=>(hm _ (by omega)).trans (S.ms u hu),fun u hu=>(hm _ (by omega)).trans (S.mo u hu),fun h=>?_,fun u hu=>?_,S.tog,S.hist,fun h=>?_,fun h=>?_,fun h=>?_,fun h=>?_,fun h h2=>?_⟩
 · rw[e]at h;omega
 · exact (QR _ _ hu).trans (S.W u hu)
 · rw[e]at h
   obtain⟨a,rfl⟩:=R0 h
   exact S.R0 a
 · rw[e]at h
   obtain⟨a,b,c'⟩:=R1 h
   obtain⟨x,y,z'⟩:=S.R1 a
   exact⟨b.trans x,c'.trans y,z'⟩
 · rw[e]at h ⊢;exact a6 h
 · rw[e]at h ⊢;exact a7 h
 · rw[e]at h h2 ⊢;exact a8 h h2
theorem XS (c:SoC) (w:Wk) {d:Int}(h:w.does=d) (h10:10<=d):left c w=(17-d).toNat:=by
 subst h
 unfold left
 rw[if_neg (by omega),if_neg (by omega),if_neg (by omega),if_neg (by omega),if_neg (by omega),if_neg (by omega),if_neg (by omega)]
theorem Qpv (c:SoC) {w:Wk}(h:w.does=3):left c w=77+askN c.R c.ms 0 4:=by unfold left;rw[if_pos h]
theorem Qpu (c:SoC) {w:Wk}(h:w.does=4):left c w=76+askN c.R c.ms 0 4:=by unfold left;rw[if_neg (by omega),if_pos h]
theorem QnW (c:SoC) {w:Wk}(h:w.does=5):left c w=43+(32-w.i.toNat)+askN c.R c.ms 0 4:=by unfold left;rw[if_neg (by omega),if_neg (by omega),if_pos h]
theorem QnV (c:SoC) {w:Wk}(h:w.does=6):left c w=43+askN c.R c.ms w.i.toNat (4-w.i.toNat):=by unfold left;rw[if_neg (by omega),if_neg (by omega),if_neg (by omega),if_pos h]
theorem Qpt (c:SoC) {w:Wk}(h:w.does=7):left c w=44+askN c.R c.ms (w.i.toNat+1) (3-w.i.toNat):=by unfold left;rw[if_neg (by omega),if_neg (by omega),if_neg (by omega),if_neg (by omega),if_pos h]
theorem QnU (c:SoC) {w:Wk}(h:w.does=8):left c w=11+(32-w.i.toNat):=by unfold left;rw[if_neg (by omega),if_neg (by omega),if_neg (by omega),if_neg (by omega),if_neg (by omega),if_pos h]
theorem QnT (c:SoC) {w:Wk}(h:w.does=9):left c w=7+(4-w.i.toNat):=by unfold left;rw[if_neg (by omega),if_neg (by omega),if_neg (by omega),if_neg (by omega),if_neg (by omega),if_neg (by omega),if_pos h]
theorem Qar (z:Sh) (t:Nat) (r:WSt):(z.moved t r).w t=r.w:=Qf _ _ _
theorem Qg7 (S:Solo t c z g) (hd:6<=(z.w t).does) (hd2:(z.w t).does<=7) (hi:0<=(z.w t).i) (hi4:(z.w t).i<4) {w0:Wk}{l:List Ask}(h0:w0={ z.w t with asks:=l,does:=6 }) (hl:l=askL c.R c.ms c.mo ((z.w t).i.toNat+1)):
 Solo t c (z.moved t ⟨(Wk.next w0 4 8).all,z.m,z.s⟩) g/\left c ((Wk.next w0 4 8).all)=43+askN c.R c.ms ((z.w t).i.toNat+1) (3-(z.w t).i.toNat):=by
 subst h0
 have hA:∀w:Wk,w.all.asks=w.asks/\w.all.i=w.i:=fun w=>by unfold Wk.all;split<;>exact⟨rfl,rfl⟩
 have hD:∀w:Wk,w.all.does=w.does:=fun w=>(QdS w).2.2.2.2.2
 unfold Wk.next
 by_cases e4:(z.w t).i+1=4
 · rw[if_pos (by exact e4)]
   refine⟨S.go (d:=8) (hD _) (by decide) (by decide) (fun _ _=>rfl) (fun _=>⟨by omega,rfl⟩) (fun h=>absurd h (by decide)) (fun h=>absurd h (by decide)) (fun h=>absurd h (by decide)) (fun _ _=>?_),?_⟩
   · rw[(hA _).1];show l=_;rw[hl,show (z.w t).i.toNat+1=4 by omega]
   · rw[QnU c (hD _),(hA _).2]
     rw[show 3-(z.w t).i.toNat=0 by omega];rfl
 · rw[if_neg (by exact e4)]
   have ei:((z.w t).i+1).toNat=(z.w t).i.toNat+1:=by omega
   refine⟨S.go (d:=6) (hD _) (by decide) (by decide) (fun _ _=>rfl) (fun _=>⟨by omega,rfl⟩) (fun h=>absurd h (by decide)) (fun _=>?_) (fun h=>absurd h (by decide)) (fun h=>absurd h (by decide)),?_⟩
   · rw[(hA _).1,(hA _).2];show l=askL _ _ _ ((z.w t).i+1).toNat;rw[hl,ei]
   · rw[QnV c (hD _),(hA _).2]
     show 43+askN c.R c.ms ((z.w t).i+1).toNat (4-((z.w t).i+1).toNat)=_
     rw[ei,show 4-((z.w t).i.toNat+1)=3-(z.w t).i.toNat by omega]
theorem Qle (I:ShInv K z g) (S:Solo t c z g) (ht:t<4) (h15:(z.w t).does≠16):Solo t c (z.stepped t) (g.step z t)/\left c (z.w t)=left c ((z.stepped t).w t)+1:=by
 have T:=I.th t ht
 have hth:=T.th
 have s3:=S.d3
 have s16:=S.d16
 have hcase:(z.w t).does=3\/(z.w t).does=4\/(z.w t).does=5\/(z.w t).does=6\/(z.w t).does=7\/(z.w t).does=8\/(z.w t).does=9\/(z.w t).does=10\/(z.w t).does=11\/(z.w t).does=12\/(z.w t).does=13\/(z.w t).does=14\/(z.w t).does=15:=by omega
 have hg:(z.w t).does≠11->(z.w t).does≠14->g.step z t=g:=fun h1 h2=>by unfold Gh.step;rw[if_neg h1,if_neg h2]
 rcases hcase with hd|hd|hd|hd|hd|hd|hd|hd|hd|hd|hd|hd|hd
 · have e:Qe (z.wst t)=(⟨{ z.w t with does:=4 },putF z.m 0 ((t:Int)+1),z.s⟩,false):=by
    simp[Qe,sayP,Sh.wst,hd,hth,S.free hd]
   rw[Qo (by omega) e,hg (by omega) (by omega),Qar,Qpv c hd,Qpu c rfl]
   exact⟨S.go (d:=4) rfl (by decide) (by decide) (fun a ha=>Qs _ _ (by omega)) (fun _=>⟨by omega,rfl⟩) (fun h=>absurd h (by decide)) (fun h=>absurd h (by decide)) (fun h=>absurd h (by decide)) (fun h=>absurd h (by decide)),by omega⟩
 · have e:Qe (z.wst t)=(⟨{ z.w t with v:=z.m 1,i:=0,does:=5,asks:=[] },z.m,z.s⟩,false):=by
    simp[Qe,Xt,Sh.wst,hd]
   rw[Qo (by omega) e,hg (by omega) (by omega),Qar,Qpu c hd,QnW c rfl]
   exact⟨S.go (d:=5) rfl (by decide) (by decide) (fun a ha=>rfl) (fun _=>⟨by omega,rfl⟩) (fun h=>absurd h (by decide)) (fun h=>absurd h (by decide)) (fun h=>absurd h (by decide)) (fun h=>absurd h (by decide)),by show 76+_=43+(32-Int.toNat 0)+_+1;rw[show Int.toNat 0=0 from rfl];omega⟩
 all_goals have hho:Xm (z.w t):=⟨by omega,by omega⟩
 all_goals have O:=I.ho t ht hho
 · have hi:=O.i0 (by omega)
   obtain⟨h32,has,hr⟩:=O.i5 hd
   have e:Qe (z.wst t)=(⟨Wk.next { z.w t with r:=putF (z.w t).r (z.w t).i.toNat (z.s.now (Qn (z.w t).v+(z.w t).i.toNat)) } 32 6,z.m,z.s⟩,false):=by
    simp[Qe,Xt,Sh.wst,hd]
   rw[Qo (by omega) e,hg (by omega) (by omega),Qar,QnW c hd]
   unfold Wk.next
   by_cases e4:(z.w t).i+1=32
   · rw[if_pos (by exact e4),QnV c rfl]
     exact⟨S.go (d:=6) rfl (by decide) (by decide) (fun a ha=>rfl) (fun _=>⟨by omega,rfl⟩) (fun h=>absurd h (by decide)) (fun _=>has) (fun h=>absurd h (by decide)) (fun h=>absurd h (by decide)),by show 43+(32-(z.w t).i.toNat)+askN c.R c.ms 0 4=43+askN c.R c.ms 0 4+1;omega⟩
   · rw[if_neg (by exact e4)]
     exact⟨S.go (d:=5) hd (by decide) (by decide) (fun a ha=>rfl) (fun _=>⟨by omega,rfl⟩) (fun h=>absurd h (by decide)) (fun h=>absurd h (by decide)) (fun h=>absurd h (by decide)) (fun h=>absurd h (by decide)),Eq.trans (by show 43+(32-(z.w t).i.toNat)+askN c.R c.ms 0 4=43+(32-((z.w t).i+1).toNat)+askN c.R c.ms 0 4+1;omega) (congrArg (· +1) (QnW c (by exact hd))).symm⟩
 · have hi:=O.i0 (by omega)
   obtain⟨h4,hr,hG⟩:=O.i6 hd
   obtain⟨r1,r2,r3⟩:=S.R0 (by omega)
   have h26:(z.w t).r 26=c.R.tog:=by rw[<- r1];exact (hr 26 (by decide)).trans (Qa5 I.gl.sumR.ok)
   have hu:(z.w t).i.toNat<4:=by omega
   rw[hg (by omega) (by omega),QnV c hd,show 4-(z.w t).i.toNat=(3-(z.w t).i.toNat)+1 by omega]
   by_cases hc:z.m (3+2*(z.w t).i.toNat)≠0/\z.m (3+2*(z.w t).i.toNat)-1≠Qh ((z.w t).r 26) (z.w t).i.toNat
   · have e:Qe (z.wst t)=(⟨{ z.w t with asks:=(z.w t).asks++[⟨(z.w t).i.toNat,z.m (3+2*(z.w t).i.toNat)-1,0,0,0⟩],does:=7 },z.m,z.s⟩,false):=by
      have h2:Qe (z.wst t)=(Xt (z.wst t),false):=by simp[Qe,Sh.wst,hd]
      rw[h2]
      unfold Xt
      rw[if_neg (by show ¬(z.w t).does=4;omega),if_neg (by show ¬(z.w t).does=5;omega),if_pos (by exact hd),if_pos (by exact hc)];rfl
     have hop:askB c.R c.ms (z.w t).i.toNat=true:=by
      unfold askB;rw[<- S.ms _ hu,<- h26];exact decide_eq_true hc
     rw[Qo (by omega) e,Qar,Qpt c rfl]
     refine⟨S.go (d:=7) rfl (by decide) (by decide) (fun a ha=>rfl) (fun _=>⟨by omega,rfl⟩) (fun h=>absurd h (by decide)) (fun h=>absurd h (by decide)) (fun _=>⟨?_,hop⟩) (fun h=>absurd h (by decide)),?_⟩
     · show (z.w t).asks++_=_
       rw[S.a6 hd,S.ms _ hu]
     · simp only[askN];rw[hop,cond_true];omega
   · have e:Qe (z.wst t)=(⟨(Wk.next (z.w t) 4 8).all,z.m,z.s⟩,false):=by
      have h2:Qe (z.wst t)=(Xt (z.wst t),false):=by simp[Qe,Sh.wst,hd]
      rw[h2]
      unfold Xt
      rw[if_neg (by show ¬(z.w t).does=4;omega),if_neg (by show ¬(z.w t).does=5;omega),if_pos (by exact hd),if_neg (by exact hc)];rfl
     have hop:askB c.R c.ms (z.w t).i.toNat=false:=by
      unfold askB;rw[<- S.ms _ hu,<- h26];exact decide_eq_false hc
     have h0:z.w t={ z.w t with asks:=(z.w t).asks,does:=6 }:=by rw[<- hd]
     have:=Qg7 S (by omega) (by omega) hi h4 h0 (by simp only[askL];rw[hop,S.a6 hd];exact (List.append_nil _).symm)
     rw[Qo (by omega) e,Qar]
     refine⟨this.1,?_⟩
     rw[this.2]
     simp only[askN];rw[hop,cond_false];omega
 · have hi:=O.i0 (by omega)
   obtain⟨h4,hr,l,hl,-⟩:=O.i7 hd
   have hu:(z.w t).i.toNat<4:=by omega
   obtain⟨a1,a2⟩:=S.a7 hd
   have e:Qe (z.wst t)=(⟨(Wk.next { z.w t with asks:=askL c.R c.ms c.mo (z.w t).i.toNat++[QmS c.ms c.mo (z.w t).i.toNat],does:=6 } 4 8).all,z.m,z.s⟩,false):=by
    have h2:Qe (z.wst t)=(Xt (z.wst t),false):=by simp[Qe,Sh.wst,hd]
    rw[h2]
    unfold Xt
    rw[if_neg (by show ¬(z.w t).does=4;omega),if_neg (by show ¬(z.w t).does=5;omega),if_neg (by show ¬(z.w t).does=6;omega)]
    show ((⟨(Wk.next { z.w t with asks:=Q9 (z.w t).asks (z.m (2+2*(z.w t).i.toNat)/281474976710656%65536) (z.m (2+2*(z.w t).i.toNat)/4294967296%65536) (z.m (2+2*(z.w t).i.toNat)%4294967296),does:=6 } 4 8).all,z.m,z.s⟩:WSt),false)=_
    rw[a1,QaA,S.mo _ hu];rfl
   have:=Qg7 S (by omega) (by omega) hi h4 (l:=askL c.R c.ms c.mo (z.w t).i.toNat++[QmS c.ms c.mo (z.w t).i.toNat]) rfl (by simp only[askL];rw[a2];rfl)
   rw[Qo (by omega) e,hg (by omega) (by omega),Qar,Qpt c hd]
   exact⟨this.1,by rw[this.2];omega⟩
 · have hi:=O.i0 (by omega)
   obtain⟨h32,-⟩:=O.i8 hd
   have e:Qe (z.wst t)=(⟨Wk.next (z.w t) 32 9,z.m,z.s.save (Qn ((z.w t).v+1)+(z.w t).i.toNat) ((z.w t).r (z.w t).i.toNat)⟩,false):=by
    simp[Qe,Xf,Sh.wst,hd]
   rw[Qo (by omega) e,hg (by omega) (by omega),Qar,QnU c hd]
   unfold Wk.next
   by_cases e4:(z.w t).i+1=32
   · rw[if_pos e4,QnT c rfl]
     exact⟨S.go (d:=9) rfl (by decide) (by decide) (fun a ha=>rfl) (fun _=>⟨by omega,rfl⟩) (fun h=>absurd h (by decide)) (fun h=>absurd h (by decide)) (fun h=>absurd h (by decide)) (fun _ _=>S.a8 (by omega) (by omega)),by show _=7+(4-Int.toNat 0)+1;rw[show Int.toNat 0=0 from rfl];omega⟩
   · rw[if_neg e4]
     exact⟨S.go (d:=8) hd (by decide) (by decide) (fun a ha=>rfl) (fun _=>⟨by omega,rfl⟩) (fun h=>absurd h (by decide)) (fun h=>absurd h (by decide)) (fun h=>absurd h (by decide)) (fun _ _=>S.a8 (by omega) (by omega)),Eq.trans (by show 11+(32-(z.w t).i.toNat)=11+(32-((z.w t).i+1).toNat)+1;omega) (congrArg (· +1) (QnU c (by exact hd))).symm⟩
 · have hi:=O.i0 (by omega)
   obtain⟨h32,-⟩:=O.i9 hd
   have e:Qe (z.wst t)=(⟨Wk.next (z.w t) 4 10,z.m,z.s.flush t (Qn ((z.w t).v+1)/8+(z.w t).i.toNat)⟩,false):=by
    simp[Qe,Xf,Sh.wst,hd,hth]
   rw[Qo (by omega) e,hg (by omega) (by omega),Qar,QnT c hd]
   unfold Wk.next
   by_cases e4:(z.w t).i+1=4
   · rw[if_pos e4,XS c _ (d:=10) rfl (by decide)]
     exact⟨S.go (d:=10) rfl (by decide) (by decide) (fun a ha=>rfl) (fun _=>⟨by omega,rfl⟩) (fun h=>absurd h (by decide)) (fun h=>absurd h (by decide)) (fun h=>absurd h (by decide)) (fun _ _=>S.a8 (by omega) (by omega)),by show _=7+1;omega⟩
   · rw[if_neg e4]
     exact⟨S.go (d:=9) hd (by decide) (by decide) (fun a ha=>rfl) (fun _=>⟨by omega,rfl⟩) (fun h=>absurd h (by decide)) (fun h=>absurd h (by decide)) (fun h=>absurd h (by decide)) (fun _ _=>S.a8 (by omega) (by omega)),Eq.trans (by show 7+(4-(z.w t).i.toNat)=7+(4-((z.w t).i+1).toNat)+1;omega) (congrArg (· +1) (QnT c (by exact hd))).symm⟩
 · have e:Qe (z.wst t)=(⟨{ z.w t with does:=11 },z.m,z.s.fence t⟩,false):=by simp[Qe,Xf,Sh.wst,hd,hth]
   rw[Qo (by omega) e,hg (by omega) (by omega),Qar,XS c _ hd (by decide),XS c _ (d:=11) rfl (by decide)]
   exact⟨S.go (d:=11) rfl (by decide) (by decide) (fun a ha=>rfl) (fun _=>⟨by omega,rfl⟩) (fun h=>absurd h (by decide)) (fun h=>absurd h (by decide)) (fun h=>absurd h (by decide)) (fun _ _=>S.a8 (by omega) (by omega)),rfl⟩
 · have e:Qe (z.wst t)=(⟨{ z.w t with does:=12 },z.m,z.s.save 0 ((z.w t).v+1)⟩,false):=by simp[Qe,Xf,Sh.wst,hd]
   have hV:=O.low (.inl (by omega))
   have hv:=O.ver (by omega) (by omega)
   obtain⟨hG,hD,-,-⟩:=O.nx (by omega) (by omega)
   obtain⟨r1,r2,r3⟩:=S.R0 (by omega)
   have ha:=S.a8 (by omega) (by omega)
   have hgg:g.step z t=⟨g.V+1,bDo g.R (z.w t).asks,g.dv,g.Q,g.n⟩:=by unfold Gh.step;rw[if_pos hd]
   have ew:((z.moved t ⟨{ z.w t with does:=12 },z.m,z.s.save 0 ((z.w t).v+1)⟩).counted (z.w t).deeds).w t={ z.w t with does:=12 }:=Qf _ _ _
   rw[QbU hd e,hgg,XS c _ hd (by decide)]
   refine⟨⟨by rw[ew];show (3:Int)<=12;decide,by rw[ew];show (12:Int)<=16;decide,S.ms,S.mo,fun h=>?_,fun u hu=>(QR _ _ hu).trans (S.W u hu),S.tog,S.hist,fun h=>?_,fun _=>⟨?_,?_,?_⟩,fun h=>?_,fun h=>?_,fun h h2=>?_⟩,by rw[ew,XS c _ (d:=12) rfl (by decide)];rfl⟩
   · rw[ew]at h;exact absurd h (by show ¬(12:Int)=3;decide)
   · rw[ew]at h;exact absurd h (by show ¬(12:Int)<=11;decide)
   · show bDo g.R (z.w t).asks=_;rw[r1,ha]
   · show g.V+1=_;rw[r2]
   · show z.deeds++(z.w t).deeds.map (Vd.mk (putF z.s.now 0 ((z.w t).v+1) 0))=_
     rw[r3,hD,r1,ha,QW,hv,<- hV,r2]
   · rw[ew]at h;exact absurd h (by show ¬(12:Int)=6;decide)
   · rw[ew]at h;exact absurd h (by show ¬(12:Int)=7;decide)
   · rw[ew]at h2;exact absurd h2 (by show ¬(12:Int)<=11;decide)
 · have e:Qe (z.wst t)=(⟨{ z.w t with does:=13 },z.m,z.s.flush t 0⟩,false):=by simp[Qe,Xf,Sh.wst,hd,hth]
   rw[Qo (by omega) e,hg (by omega) (by omega),Qar,XS c _ hd (by decide),XS c _ (d:=13) rfl (by decide)]
   exact⟨S.go (d:=13) rfl (by decide) (by decide) (fun a ha=>rfl) (fun h=>absurd h (by decide)) (fun _=>⟨by omega,rfl,rfl⟩) (fun h=>absurd h (by decide)) (fun h=>absurd h (by decide)) (fun _ h=>absurd h (by decide)),rfl⟩
 · have e:Qe (z.wst t)=(⟨{ z.w t with does:=14 },z.m,z.s.fence t⟩,false):=by simp[Qe,Xf,Sh.wst,hd,hth]
   rw[Qo (by omega) e,hg (by omega) (by omega),Qar,XS c _ hd (by decide),XS c _ (d:=14) rfl (by decide)]
   exact⟨S.go (d:=14) rfl (by decide) (by decide) (fun a ha=>rfl) (fun h=>absurd h (by decide)) (fun _=>⟨by omega,rfl,rfl⟩) (fun h=>absurd h (by decide)) (fun h=>absurd h (by decide)) (fun _ h=>absurd h (by decide)),rfl⟩
 · have e:Qe (z.wst t)=(⟨{ z.w t with does:=15 },putF z.m 1 ((z.w t).v+1),z.s⟩,false):=by simp[Qe,XT,Sh.wst,hd]
   have hgg:g.step z t=⟨g.V,g.R,g.V,g.R,z.deeds.length⟩:=by unfold Gh.step;rw[if_neg (by omega),if_pos hd]
   rw[Qo (by omega) e,hgg,Qar,XS c _ hd (by decide),XS c _ (d:=15) rfl (by decide)]
   exact⟨S.go (d:=15) rfl (by decide) (by decide) (fun a ha=>Qs _ _ (by omega)) (fun h=>absurd h (by decide)) (fun _=>⟨by omega,rfl,rfl⟩) (fun h=>absurd h (by decide)) (fun h=>absurd h (by decide)) (fun _ h=>absurd h (by decide)),rfl⟩
 · have e:Qe (z.wst t)=(⟨{ z.w t with does:=16 },putF z.m 0 0,z.s⟩,false):=by simp[Qe,XT,Sh.wst,hd]
   rw[Qo (by omega) e,hg (by omega) (by omega),Qar,XS c _ hd (by decide),XS c _ (d:=16) rfl (by decide)]
   exact⟨S.go (d:=16) rfl (by decide) (by decide) (fun a ha=>Qs _ _ (by omega)) (fun h=>absurd h (by decide)) (fun _=>⟨by omega,rfl,rfl⟩) (fun h=>absurd h (by decide)) (fun h=>absurd h (by decide)) (fun _ h=>absurd h (by decide)),rfl⟩
theorem QeF (t:Nat):∀(n:Nat) {z:Sh},(z.w t).does=0->z.run t n=z/\z.ran t n=0
 |0,z,_=>⟨rfl,rfl⟩
 |n+1,z,h=>by
  have e:z.step t=z:=if_pos h
  refine⟨?_,if_pos h⟩
  show (z.step t).run t n=z
  rw[e];exact (QeF t n h).1
theorem Qgi (t:Nat):∀(n k:Nat) (z:Sh),z.run t (n+k)=(z.run t n).run t k
 |0,k,z=>by rw[Nat.zero_add];rfl
 |n+1,k,z=>by rw[Nat.add_right_comm];exact Qgi t n k (z.step t)
structure QpR (K:Int) (t:Nat) (c:SoC) (z:Sh) (g:Gh):Prop where
 fine:Fine K z g
 idle:(z.w t).does=0
 W:∀u,u≠t->z.w u=c.W u
 R:g.R=bDo c.R (askL c.R c.ms c.mo 4)
 V:g.V=c.V+1
 deeds:z.deeds=c.deeds++(bD c.R (askL c.R c.ms c.mo 4)).map (Vd.mk (c.V+1))
 ms:∀u,u<4->z.m (3+2*u)=c.ms u
 mo:∀u,u<4->z.m (2+2*u)=c.mo u
 hist:∃e:Ev,z.hist=c.hist++[e]/\e.kind=2/\e.t=t
theorem QiK (ht:t<4):∀(n:Nat) {z:Sh}{g:Gh},Fine K z g->Solo t c z g->left c (z.w t)=n->z.steps+n<100000000 ->
 ∃g',QpR K t c (z.run t n) g'/\∀k,n<=k->z.run t k=z.run t n/\z.ran t k=n
 |0,z,g,F,S,hl,_=>by
  exfalso
  have h3:=S.d3
  have h16:=S.d16
  rcases (show (z.w t).does=3\/(z.w t).does=4\/(z.w t).does=5\/(z.w t).does=6\/(z.w t).does=7\/(z.w t).does=8\/(z.w t).does=9\/10<=(z.w t).does by omega)with h|h|h|h|h|h|h|h
  · rw[Qpv c h]at hl;omega
  · rw[Qpu c h]at hl;omega
  · rw[QnW c h]at hl;omega
  · rw[QnV c h]at hl;omega
  · rw[Qpt c h]at hl;omega
  · rw[QnU c h]at hl;omega
  · rw[QnT c h]at hl;omega
  · rw[XS c _ rfl h]at hl;omega
 |n+1,z,g,F,S,hl,hs=>by
  have hn:(z.w t).does≠0:=by have:=S.d3;omega
  have est:z.step t=z.stepped t:=if_neg hn
  have hst:=QcA z t
  have F1:=QaE F ht (by omega) hn
  have er:∀k,z.run t (k+1)=(z.stepped t).run t k:=fun k=>by show (z.step t).run t k=_;rw[est]
  have ek:∀k,z.ran t (k+1)=(z.stepped t).ran t k+1:=fun k=>by show (if (z.w t).does=0 then 0 else (z.step t).ran t k+1)=_;rw[if_neg hn,est]
  by_cases h16:(z.w t).does=16
  · rw[XS c _ h16 (by decide)]at hl
    have hn0:n=0:=by have:(17-16:Int).toNat=1:=rfl;omega
    subst hn0
    have hb:(Qe (z.wst t)).2=true:=by simp[Qe,XT,Sh.wst,h16]
    obtain⟨-,h0,hm,hss,-⟩:=Qdj F.1 ht hn hb
    have e:Qe (z.wst t)=((Qe (z.wst t)).1,true):=by rw[<- hb]
    have e2:=Qa8 (by omega:(z.w t).does≠11) e
    have hg:g.step z t=g:=by unfold Gh.step;rw[if_neg (by omega),if_neg (by omega)]
    rw[hg]at F1
    have hidle:((z.stepped t).w t).does=0:=by rw[e2];show (setF z.w t (Qe (z.wst t)).1.w t).does=0;rw[Qf];exact h0
    obtain⟨r1,r2,r3⟩:=S.R1 (by omega)
    refine⟨g,⟨?_,?_,fun u hu=>?_,r1,r2,?_,fun u hu=>?_,fun u hu=>?_,?_⟩,fun k hk=>?_⟩
    · rw[er 0];exact F1
    · rw[er 0];exact hidle
    · rw[er 0]
      show (z.stepped t).w u=_
      rw[e2];exact (QR _ _ hu).trans (S.W u hu)
    · rw[er 0]
      show (z.stepped t).deeds=_
      rw[e2];exact r3
    · rw[er 0]
      show (z.stepped t).m _=_
      rw[e2];show (Qe (z.wst t)).1.m _=_;rw[hm];exact S.ms u hu
    · rw[er 0]
      show (z.stepped t).m _=_
      rw[e2];show (Qe (z.wst t)).1.m _=_;rw[hm];exact S.mo u hu
    · rw[er 0]
      show ∃e:Ev,(z.stepped t).hist=_/\_
      rw[e2]
      exact⟨_,by show z.hist++[_]=_;rw[S.hist],rfl,rfl⟩
    · obtain⟨k,rfl⟩:∃j,k=j+1:=⟨k-1,by omega⟩
      have:=QeF t k hidle
      rw[er k,ek k,er 0,this.1,this.2]
      exact⟨rfl,rfl⟩
  · obtain⟨S1,hl1⟩:=Qle F.1 S ht h16
    rw[est]at hst
    obtain⟨g',E,hk⟩:=QiK ht n F1 S1 (by omega) (by omega)
    refine⟨g',by rw[er n];exact E,fun k hkk=>?_⟩
    obtain⟨k,rfl⟩:∃j,k=j+1:=⟨k-1,by omega⟩
    have:=hk k (by omega)
    rw[er k,ek k,er n,this.1,this.2]
    exact⟨rfl,rfl⟩
end
end
section
theorem Qf7 (z:Sh) (t:Nat) (k key x:Int):z.steps<=(z.call t k key x).steps/\(z.call t k key x).steps<=z.steps+1:=by
 unfold Sh.call
 split
 · show z.steps<=z.steps+1/\z.steps+1<=z.steps+1;omega
 · omega
section
variable {K:Int}{z:Sh}{g:Gh}
end
end
section
def PosV (z:Sh):Prop:=∀d∈z.deeds,0<=d.ver
section
variable {K:Int}{z:Sh}{g:Gh}{t:Nat}
theorem Fine.now (F:Fine K z g):0<=z.s.now 0:=by
 have h1:=F.1.gl.now0
 have h2:=F.1.gl.v0
 have h3:=F.1.gl.vd
 omega
theorem Qny (F:Fine K z g) (p:PosV z) (ht:t<4) (hs:z.steps<100000000):PosV (z.step t):=by
 unfold Sh.step
 split
 · exact p
 · rename_i hn
   have h0:=(QaE F ht hs hn).now
   have e:(z.stepped t).s=(Qe (z.wst t)).1.s:=by
    unfold Sh.stepped
    dsimp only
    split<;>split<;>rfl
   rw[e]at h0
   have e2:(z.stepped t).deeds=z.deeds\/(z.stepped t).deeds=z.deeds++(Qe (z.wst t)).1.w.deeds.map (Vd.mk ((Qe (z.wst t)).1.s.now 0)):=by
    unfold Sh.stepped
    dsimp only
    split<;>split<;>first|exact .inl rfl|exact .inr rfl
   intro d hd
   rcases e2 with e2|e2
   · rw[e2]at hd;exact p d hd
   · rw[e2]at hd
     rcases List.mem_append.1 hd with hd|hd
     · exact p d hd
     · obtain⟨x,-,rfl⟩:=List.mem_map.1 hd
       exact h0
theorem Qh7 (ht:t<4):∀(n:Nat) {z:Sh}{g:Gh},Fine K z g->PosV z->z.steps+n<100000000->PosV (z.run t n)
 |0,z,g,_,p,_=>p
 |n+1,z,g,F,p,hs=>by
  obtain⟨g',F'⟩:=Qhy F ht (by omega)
  have:=(QcA z t).2
  exact Qh7 ht n F' (Qny F p ht (by omega)) (by omega)
structure Fin2 (K:Int) (z:Sh) (g:Gh):Prop where
 f:Fine K z g
 p:PosV z
theorem Qmr (ht:t<4) (n:Nat) (F:Fin2 K z g) (hs:z.steps+n<100000000):∃g',Fin2 K (z.run t n) g':=by
 obtain⟨g',F'⟩:=Qi8 ht n F.f hs
 exact⟨g',F',Qh7 ht n F.f F.p hs⟩
theorem Qi9 (F:Fin2 K z g) (ht:t<4) (k key x:Int):Fin2 K (z.call t k key x) g:=⟨Qfl F.f ht k key x,by
 unfold Sh.call
 split<;>exact F.p⟩
theorem Qpy {K:Int}(h1:1<=K) (h6:K<=6):Fin2 K (Sh.new K) (Gh.new K):=⟨Qog h1 h6,fun d hd=>by cases hd⟩
end
end
section
section
variable {K:Int}{z:Sh}{g:Gh}{t:Nat}
end
end
section
structure FinI (K:Int) (z:Sh) (g:Gh):Prop where
 i:ShInv K z g
 p:PosV z
 s:(z.hist.length:Int)<=z.steps
section
variable {K:Int}{z:Sh}{g:Gh}{t:Nat}
theorem Fin2.fi (F:Fin2 K z g):FinI K z g:=⟨F.f.1,F.p,by
 obtain⟨I,of,H⟩:=F.f
 exact H.sl⟩
end
end
section
section
variable {K:Int}{z:Sh}{g:Gh}{t:Nat}
theorem FinI.idle4 (F:FinI K z g) (h:∀u,u<4->(z.w u).does=0):z.m 0=0/\g.V=g.dv/\g.R=g.Q:=by
 refine⟨?_,?_⟩
 · rcases F.1.lk with⟨a,-⟩|⟨u,hu,-,hh,-⟩
   · exact a
   · have:=h u hu
     unfold Xm at hh;omega
 · have hV:g.V=g.dv:=by
    rcases F.1.gl.vd with e|e
    · exact e
    · obtain⟨u,hu,h12,h14⟩:=F.1.mid e
      have:=h u hu;omega
   exact⟨hV,(F.1.gl.same hV).1⟩
end
end
section
section
variable {K:Int}{z:Sh}{g:Gh}{t:Nat}
end
end
section
section
variable {K:Int}{z:Sh}{g:Gh}{t:Nat}
structure Alone (K:Int) (t:Nat) (a:Ask) (z:Sh) (g:Gh) (z':Sh) (g':Gh):Prop where
 fin:Fin2 K z' g'
 idle:(z'.w t).does=0
 W:∀u,u≠t->z'.w u=z.w u
 V:g'.V=g.V+1
 R:g'.R=bDo g.R [a]
 deeds:z'.deeds=z.deeds++(bD g.R [a]).map (Vd.mk (g.V+1))
 hist:∃e:Ev,z'.hist=z.hist++[⟨1,t,a.k,a.key,a.x,0,0,0,z.steps+1⟩]++[e]/\e.kind=2/\e.t=t
theorem askN4 (R:Rec) (ms:Nat->Int) (ht:t<4) (h1:askB R ms t=true) (h2:∀u,u<4->u≠t->askB R ms u=false):askN R ms 0 4=5:=by
 simp only[askN]
 rcases (show t=0\/t=1\/t=2\/t=3 by omega)with rfl|rfl|rfl|rfl
 · rw[h1,h2 (0+1) (by decide) (by decide),h2 (0+1+1) (by decide) (by decide),h2 (0+1+1+1) (by decide) (by decide)];rfl
 · rw[h2 0 (by decide) (by decide),show askB R ms (0+1)=true from h1,h2 (0+1+1) (by decide) (by decide),h2 (0+1+1+1) (by decide) (by decide)];rfl
 · rw[h2 0 (by decide) (by decide),h2 (0+1) (by decide) (by decide),show askB R ms (0+1+1)=true from h1,h2 (0+1+1+1) (by decide) (by decide)];rfl
 · rw[h2 0 (by decide) (by decide),h2 (0+1) (by decide) (by decide),h2 (0+1+1) (by decide) (by decide),show askB R ms (0+1+1+1)=true from h1];rfl
theorem askL4 (R:Rec) (ms mo:Nat->Int) (ht:t<4) (h1:askB R ms t=true) (h2:∀u,u<4->u≠t->askB R ms u=false):askL R ms mo 4=[QmS ms mo t]:=by
 simp only[askL]
 rcases (show t=0\/t=1\/t=2\/t=3 by omega)with rfl|rfl|rfl|rfl
 · rw[h1,h2 1 (by decide) (by decide),h2 2 (by decide) (by decide),h2 3 (by decide) (by decide)];rfl
 · rw[h1,h2 0 (by decide) (by decide),h2 2 (by decide) (by decide),h2 3 (by decide) (by decide)];rfl
 · rw[h1,h2 0 (by decide) (by decide),h2 1 (by decide) (by decide),h2 3 (by decide) (by decide)];rfl
 · rw[h1,h2 0 (by decide) (by decide),h2 1 (by decide) (by decide),h2 2 (by decide) (by decide)];rfl
structure Said (K:Int) (t:Nat) (a:Ask) (z:Sh) (g:Gh) (z3:Sh):Prop where
 f:Fine K z3 g
 does:(z3.w t).does=3
 W:∀u,u≠t->z3.w u=z.w u
 m0:z3.m 0=z.m 0
 ms:z3.m (3+2*t)=a.g+1
 mo:z3.m (2+2*t)=opW a.k a.key a.x
 om:∀i,i≠3+2*t->i≠2+2*t->z3.m i=z.m i
 s:z3.s=z.s
 deeds:z3.deeds=z.deeds
 hist:z3.hist=z.hist++[⟨1,t,a.k,a.key,a.x,0,0,0,z.steps+1⟩]
 steps:z3.steps=z.steps+3
 tog:z3.tog=z.tog
 wk:(z3.w t).tog=a.g/\(z3.w t).k=a.k/\(z3.w t).key=a.key/\(z3.w t).x=a.x/\(z3.w t).said=true
theorem Qpb (F:Fine K z g) (ht:t<4) (hi:(z.w t).does=0) {k key x:Int}(ho:opOk k key x=true) (hs:z.steps<90000000):
 Said K t ⟨t,1-z.tog t,k,key,x⟩ z g ((z.call t k key x).run t 2)/\((z.call t k key x).run t 1).w t≠z.w t:=by
 have T:=F.1.th t ht
 have hth:=T.th
 have e1:z.call t k key x=z.called t k key x:=if_pos ⟨hi,ho⟩
 have F1:=Qfl F ht k key x
 rw[e1]at F1 ⊢
 have w1:(z.called t k key x).w t=Wk.call (z.w t).th k key x (1-z.tog t) false:=Qf _ _ _
 rw[hth]at w1
 have W1:∀u,u≠t->(z.called t k key x).w u=z.w u:=fun u hu=>QR _ _ hu
 have d1:((z.called t k key x).w t).does=1:=by rw[w1];rfl
 generalize hz1:z.called t k key x=z1 at *
 have m1:z1.m=z.m:=by rw[<- hz1];rfl
 have s1:z1.s=z.s:=by rw[<- hz1];rfl
 have dd1:z1.deeds=z.deeds:=by rw[<- hz1];rfl
 have hh1:z1.hist=z.hist++[⟨1,t,k,key,x,0,0,0,z.steps+1⟩]:=by rw[<- hz1];rfl
 have st1:z1.steps=z.steps+1:=by rw[<- hz1];rfl
 have tg1:z1.tog=z.tog:=by rw[<- hz1];rfl
 have n1:(z1.w t).does≠0:=by omega
 have F2:=QaE F1 ht (by omega) n1
 have g1:g.step z1 t=g:=by unfold Gh.step;rw[if_neg (by omega),if_neg (by omega)]
 rw[g1]at F2
 have p1:Qe (z1.wst t)=(⟨{ z1.w t with does:=2 },putF z1.m (2+2*(z1.w t).th) (opW (z1.w t).k (z1.w t).key (z1.w t).x),z1.s⟩,false):=by simp[Qe,sayP,Sh.wst,d1]
 have q1:=Qo (by omega) p1
 have w2:(z1.stepped t).w t={ z1.w t with does:=2 }:=by rw[q1];exact Qf _ _ _
 have W2:∀u,u≠t->(z1.stepped t).w u=z1.w u:=fun u hu=>by rw[q1];exact QR _ _ hu
 have m2:(z1.stepped t).m=putF z1.m (2+2*t) (opW k key x):=by rw[q1,w1];rfl
 have s2:(z1.stepped t).s=z1.s:=by rw[q1];rfl
 have dd2:(z1.stepped t).deeds=z1.deeds:=by rw[q1];rfl
 have hh2:(z1.stepped t).hist=z1.hist:=by rw[q1];rfl
 have st2:(z1.stepped t).steps=z1.steps+1:=by rw[q1];rfl
 have tg2:(z1.stepped t).tog=z1.tog:=by rw[q1];rfl
 have er:z1.run t 2=(z1.stepped t).step t/\z1.run t 1=z1.stepped t:=by
  have:z1.step t=z1.stepped t:=if_neg n1
  exact⟨by show (z1.step t).step t=_;rw[this],this⟩
 rw[er.1,er.2]
 generalize hz2:z1.stepped t=z2 at *
 have d2:(z2.w t).does=2:=by rw[w2]
 have n2:(z2.w t).does≠0:=by omega
 have F3:=QaE F2 ht (by omega) n2
 have g2:g.step z2 t=g:=by unfold Gh.step;rw[if_neg (by omega),if_neg (by omega)]
 rw[g2]at F3
 have p2:Qe (z2.wst t)=(⟨{ z2.w t with said:=true,does:=3 },putF z2.m (3+2*(z2.w t).th) ((z2.w t).tog+1),z2.s⟩,false):=by simp[Qe,sayP,Sh.wst,d2]
 have q2:=Qo (by omega) p2
 have es:z2.step t=z2.stepped t:=if_neg n2
 rw[es]
 have w3:(z2.stepped t).w t={ z2.w t with said:=true,does:=3 }:=by rw[q2];exact Qf _ _ _
 have m3:(z2.stepped t).m=putF (putF z1.m (2+2*t) (opW k key x)) (3+2*t) (1-z.tog t+1):=by
  rw[q2]
  show putF z2.m (3+2*(z2.w t).th) ((z2.w t).tog+1)=_
  rw[w2,w1,m2];rfl
 refine⟨⟨F3,by rw[w3],fun u hu=>?_,?_,?_,?_,fun i h3 h2=>?_,?_,?_,?_,?_,?_,?_⟩,?_⟩
 · rw[q2];exact (QR _ _ hu).trans ((W2 u hu).trans (W1 u hu))
 · rw[m3,Qs _ _ (by omega),Qs _ _ (by omega),m1]
 · rw[m3,QW]
 · rw[m3,Qs _ _ (by omega),QW]
 · rw[m3,Qs _ _ h3,Qs _ _ h2,m1]
 · rw[q2];show z2.s=_;rw[s2,s1]
 · rw[q2];show z2.deeds=_;rw[dd2,dd1]
 · rw[q2];show z2.hist=_;rw[hh2,hh1]
 · rw[q2];show z2.steps+1=_;omega
 · rw[q2];show z2.tog=_;rw[tg2,tg1]
 · rw[w3,w2,w1];exact⟨rfl,rfl,rfl,rfl,rfl⟩
 · intro e
   have:=congrArg Wk.does e
   rw[d2]at this;omega
theorem Ql9 (I:ShInv K z g) {u:Nat}(hu:u<4) (hi:(z.w u).does=0):askB g.R (fun u=>z.m (3+2*u)) u=false:=by
 have T:=I.th u hu
 obtain⟨h1,-,h2⟩:=T.idle hi
 exact decide_eq_false (fun ⟨h3,h4⟩=>by
  rcases h2 with h2|h2
  · exact h3 h2
  · exact h4 (by show z.m (3+2*u)-1=_;rw[h2,h1];omega))
theorem QkK {R:Rec}{ms ms':Nat->Int}{u:Nat}(h:ms u=ms' u):askB R ms u=askB R ms' u:=by
 unfold askB
 exact decide_eq_decide.2 (by rw[h])
theorem Qlk (I:ShInv K z g) (ht:t<4) (hi:(z.w t).does=0) {ms:Nat->Int}(h:ms t=1-z.tog t+1):askB g.R ms t=true:=by
 have T:=I.th t ht
 obtain⟨h1,-,h2⟩:=T.idle hi
 have h3:=T.tg01
 exact decide_eq_true ⟨by omega,by rw[h1];omega⟩
theorem alone (F:Fin2 K z g) (ht:t<4) (hi:∀u,u<4->(z.w u).does=0) {k key x:Int}(ho:opOk k key x=true) (hs:z.steps<90000000):
 ∃g',Alone K t ⟨t,1-z.tog t,k,key,x⟩ z g ((z.call t k key x).run t 84) g'/\∀n,84<=n->(z.call t k key x).run t n=(z.call t k key x).run t 84/\(z.call t k key x).ran t n=84:=by
 obtain⟨Sd,-⟩:=Qpb F.f ht (hi t ht) ho hs
 have hfree:=(F.fi.idle4 hi).1
 obtain⟨z1,hz1⟩:∃z1,z1=z.call t k key x:=⟨_,rfl⟩
 rw[<- hz1]at Sd ⊢
 have P1:PosV z1:=by rw[hz1];exact (Qi9 F ht k key x).p
 have hFz1:Fine K z1 g:=by rw[hz1];exact Qfl F.f ht k key x
 have hst1:z1.steps<=z.steps+1:=by rw[hz1];exact (Qf7 z t k key x).2
 have r2:=Qgi t 2
 obtain⟨z3,hz3⟩:∃z3,z3=z1.run t 2:=⟨_,rfl⟩
 have er:∀n,z1.run t (n+2)=z3.run t n:=fun n=>by rw[hz3,Nat.add_comm n 2];exact Qgi t 2 n z1
 have en:∀n,z1.ran t (n+2)=z3.ran t n+2:=fun n=>by
  have d1:(z1.w t).does≠0:=fun e=>by
   have:=(QeF t 2 e).1
   have h3:=Sd.does
   rw[this]at h3;omega
  have d2:((z1.step t).w t).does≠0:=fun e=>by
   have:=(QeF t 1 e).1
   have h3:=Sd.does
   rw[show z1.run t 2=(z1.step t).run t 1 from rfl,this]at h3;omega
  show (if (z1.w t).does=0 then 0 else (z1.step t).ran t (n+1)+1)=_
  rw[if_neg d1]
  show (if ((z1.step t).w t).does=0 then 0 else ((z1.step t).step t).ran t n+1)+1=_
  rw[if_neg d2,hz3];rfl
 rw[<- hz3]at Sd
 obtain⟨c,hc⟩:∃c:SoC,c=⟨fun u=>z3.m (3+2*u),fun u=>z3.m (2+2*u),z3.w,z3.tog,z3.hist,z3.deeds,g.R,g.V⟩:=⟨_,rfl⟩
 have S:Solo t c z3 g:=by
  subst hc
  have hd:=Sd.does
  exact⟨by omega,by omega,fun _ _=>rfl,fun _ _=>rfl,fun _=>Sd.m0.trans hfree,fun _ _=>rfl,rfl,rfl,fun _=>⟨rfl,rfl,rfl⟩,fun h=>by omega,fun h=>by omega,fun h=>by omega,fun h=>by omega⟩
 have hB:askB c.R c.ms t=true:=by
  subst hc
  exact Qlk F.f.1 ht (hi t ht) Sd.ms
 have hN:∀u,u<4->u≠t->askB c.R c.ms u=false:=fun u hu hne=>by
  subst hc
  have:=Ql9 F.f.1 hu (hi u hu)
  exact (QkK (R:=g.R) (ms:=fun u=>z3.m (3+2*u)) (ms':=fun u=>z.m (3+2*u)) (Sd.om (3+2*u) (by omega) (by omega))).trans this
 have hl:left c (z3.w t)=82:=by rw[Qpv c Sd.does,askN4 c.R c.ms ht hB hN]
 have hL:askL c.R c.ms c.mo 4=[⟨t,1-z.tog t,k,key,x⟩]:=by
  rw[askL4 c.R c.ms c.mo ht hB hN]
  have hb:=Qgm ho
  subst hc
  unfold QmS
  dsimp only
  rw[Sd.ms,Sd.mo]
  dsimp only
  rw[hb.1,hb.2.1,hb.2.2.1,show 1-z.tog t+1-1=1-z.tog t by omega]
 have hst:=Sd.steps
 obtain⟨g',E,hk⟩:=QiK ht 82 Sd.f S hl (by omega)
 have eR:c.R=g.R:=by subst hc;rfl
 have eV:c.V=g.V:=by subst hc;rfl
 have eD:c.deeds=z.deeds:=by subst hc;exact Sd.deeds
 have eW:c.W=z3.w:=by subst hc;rfl
 have eH:c.hist=z3.hist:=by subst hc;rfl
 have h84:=er 82
 refine⟨g',⟨?_,?_,?_,?_,?_,?_,?_⟩,fun n hn=>?_⟩
 · exact⟨by rw[h84];exact E.fine,Qh7 ht 84 hFz1 P1 (by omega)⟩
 · rw[h84];exact E.idle
 · intro u hu;rw[h84,E.W u hu,eW];exact Sd.W u hu
 · rw[E.V,eV]
 · rw[E.R,hL,eR]
 · rw[h84,E.deeds,hL,eR,eV,eD]
 · obtain⟨e,h1,h2,h3⟩:=E.hist
   exact⟨e,by rw[h84,h1,eH,Sd.hist],h2,h3⟩
 · obtain⟨j,rfl⟩:∃j,n=j+2:=⟨n-2,by omega⟩
   have:=hk j (by omega)
   rw[er j,en j,h84,this.1,this.2];exact⟨rfl,rfl⟩
end
end
section
def Sto.wg (s:Sto) (g:Nat->Int):Sto:={ s with good:=g }
theorem QiH (z:WSt) (g:Nat->Int):∃g',Qe { z with s:=z.s.wg g }=({ (Qe z).1 with s:=(Qe z).1.s.wg g' },(Qe z).2):=by
 obtain⟨w,m,s⟩:=z
 unfold Qe
 dsimp only
 split
 · exact⟨g,rfl⟩
 split
 · refine⟨g,?_⟩
   unfold sayP
   dsimp only
   split
   · rfl
   split
   · rfl
   split<;>rfl
 split
 · refine⟨g,?_⟩
   unfold Xt
   dsimp only
   split
   · rfl
   split
   · rfl
   split
   · split<;>rfl
   · rfl
 split
 · unfold Xf
   dsimp only
   split
   · exact⟨g,rfl⟩
   split
   · exact⟨g,rfl⟩
   split
   · exact⟨_,rfl⟩
   split
   · exact⟨g,rfl⟩
   split
   · exact⟨g,rfl⟩
   · exact⟨_,rfl⟩
 split
 · refine⟨g,?_⟩
   unfold XT
   dsimp only
   split
   · rfl
   split<;>rfl
 · refine⟨g,?_⟩
   unfold QP
   dsimp only
   split
   · rfl
   split
   · rfl
   split
   · rfl
   split
   · rfl
   show (if m 1=w.v/\Qh (w.seen 0) w.th=w.tog then _ else _)=_
   split<;>rfl
end
section
theorem QiA {z:Sh}{t:Nat}(h:(z.w t).does≠0):(z.step t).wst t=(Qe (z.wst t)).1:=by
 unfold Sh.step;rw[if_neg h]
 have e:∀(m:Nat->Int) (s:Sto) (w:Wk),(⟨setF z.w t w t,m,s⟩:WSt)=⟨w,m,s⟩:=fun m s w=>by rw[Qf]
 unfold Sh.stepped
 dsimp only
 split<;>split<;>exact e _ _ _
theorem Qjz (z:WSt) (h:(Qe z).2=true):(Qe z).1.w.does=0:=by
 unfold Qe at h ⊢
 split at h
 · cases h
 split at h
 · cases h
 split at h
 · cases h
 split at h
 · cases h
 rename_i h0 h3 h7 h13
 rw[if_neg h0,if_neg h3,if_neg h7,if_neg h13]
 split at h
 · rename_i h16
   rw[if_pos h16]
   unfold XT at h ⊢
   split at h
   · cases h
   split at h
   · cases h
   rename_i a b
   rw[if_neg a,if_neg b]
 · rename_i h16
   rw[if_neg h16]
   unfold QP at h ⊢
   split at h
   · cases h
   split at h
   · cases h
   split at h
   · cases h
   split at h
   · cases h
   rename_i a b c d
   rw[if_neg a,if_neg b,if_neg c,if_neg d]
   split at h
   · rename_i e;rw[if_pos e]
   · cases h
def itP:Nat->WSt->WSt
 |0,z=>z
 |n+1,z=>itP n (Qe z).1
theorem Qbo:∀(n:Nat) (z:WSt),itP (n+1) z=(Qe (itP n z)).1
 |0,_=>rfl
 |n+1,z=>Qbo n (Qe z).1
theorem Qdp (t:Nat):∀(n:Nat) (z:Sh),z.ran t n=n->∀j,j<n->((z.run t j).w t).does≠0
 |0,z,_,j,hj=>absurd hj (Nat.not_lt_zero _)
 |n+1,z,h,j,hj=>by
  have h:(if (z.w t).does=0 then 0 else (z.step t).ran t n+1)=n+1:=h
  by_cases h0:(z.w t).does=0
  · rw[if_pos h0]at h;omega
  · rw[if_neg h0]at h
    cases j with
    |zero=>exact h0
    |succ j=>exact Qdp t n (z.step t) (by omega) j (by omega)
theorem Qgb (t:Nat):∀(n:Nat) (z:Sh),(∀j,j<n->((z.run t j).w t).does≠0)->(z.run t n).wst t=itP n (z.wst t)
 |0,z,_=>rfl
 |n+1,z,h=>by
  have h0:(z.w t).does≠0:=h 0 (Nat.succ_pos _)
  show ((z.step t).run t n).wst t=itP n (Qe (z.wst t)).1
  rw[Qgb t n (z.step t) (fun j hj=>h (j+1) (by omega)),QiA h0]
structure Lone (z0:WSt) (z1:WSt):Prop where
 no:∀j,j<83->(Qe (itP j z0)).2=false
 yes:(Qe (itP 83 z0)).2=true
 last:itP 84 z0=z1
theorem Qpr {t:Nat}{Z:Sh}{N:Nat}(hr:Z.ran t (N+1)=N+1) (hz:((Z.run t (N+1)).w t).does=0):
 (∀j,j<N->(Qe (itP j (Z.wst t))).2=false)/\(Qe (itP N (Z.wst t))).2=true/\itP (N+1) (Z.wst t)=(Z.run t (N+1)).wst t:=by
 have hn:=Qdp t (N+1) Z hr
 have hw:∀n,n<=N+1->(Z.run t n).wst t=itP n (Z.wst t):=fun n hn2=>Qgb t n Z (fun j hj=>hn j (by omega))
 refine⟨fun j hj=>?_,?_,(hw (N+1) (Nat.le_refl _)).symm⟩
 · cases hb:(Qe (itP j (Z.wst t))).2
   · rfl
   · have h0:=Qjz _ hb
     rw[<- Qbo,<- hw (j+1) (by omega)]at h0
     exact absurd h0 (hn (j+1) (by omega))
 · cases hb:(Qe (itP N (Z.wst t))).2
   · have h83:(itP N (Z.wst t)).w.does≠0:=by
      rw[<- hw N (by omega)];exact hn N (by omega)
     have h0:=QfM _ h83 hb
     rw[<- Qbo,<- hw (N+1) (Nat.le_refl _)]at h0
     exact absurd hz h0
   · rfl
theorem Qij {t:Nat}{Z:Sh}{M N:Nat}(hM:M=N+1) (hr:Z.ran t M=M) (hz:((Z.run t M).w t).does=0):
 (∀j,j<N->(Qe (itP j (Z.wst t))).2=false)/\(Qe (itP N (Z.wst t))).2=true/\itP M (Z.wst t)=(Z.run t M).wst t:=by
 subst hM;exact Qpr hr hz
section
variable {K:Int}{z:Sh}{g:Gh}{t:Nat}
theorem lone (F:Fin2 K z g) (ht:t<4) (hi:∀u,u<4->(z.w u).does=0) {k key x:Int}(ho:opOk k key x=true) (hs:z.steps<90000000):
 ∃g',Alone K t ⟨t,1-z.tog t,k,key,x⟩ z g ((z.call t k key x).run t 84) g'/\Lone ((z.call t k key x).wst t) (((z.call t k key x).run t 84).wst t):=by
 obtain⟨g',A,h⟩:=alone F ht hi ho hs
 obtain⟨a,b,c⟩:=Qij (M:=84) (N:=83) rfl (h 84 (Nat.le_refl _)).2 A.idle
 exact⟨g',A,⟨a,b,c⟩⟩
end
end
end Go.Proofs.YtppkmghcagocbaaGreatDoor
