/- What the proof leans on, gathered. -/
import Derived.Test.YtflgoaogcenmpaaGreatDoorZP3
namespace Go.Proofs.YtflgoaogcenmpaaGreatDoor
set_option linter.unusedVariables false
set_option maxRecDepth 100000
set_option maxHeartbeats 8000000
section
open Go.RowKit
def Qnc (z:WSt):Prop:=0<=z.w.i/\z.w.i<32/\(0<=z.w.v/\z.w.v<18446744073709551616) /\
 (z.w.does=6->z.w.i<4/\(0<=z.w.r 26/\z.w.r 26<16)/\(0<=z.m (3+2*z.w.i.toNat)/\z.m (3+2*z.w.i.toNat)<=2)/\z.w.allOK) /\
 (z.w.does=7->z.w.i<4/\(0<=z.m (2+2*z.w.i.toNat)/\z.m (2+2*z.w.i.toNat)<18446744073709551616)/\(∃l a,z.w.asks=l++[a]) /\
  Wk.allOK { z.w with asks:=Xl z.w.asks (z.m (2+2*z.w.i.toNat)/281474976710656%65536) (z.m (2+2*z.w.i.toNat)/4294967296%65536) (z.m (2+2*z.w.i.toNat)%4294967296) })
abbrev nzW:NZ:=.blk 0 41 139 5 [.int .i64,.int .i64,.int .i64,.int .i64,.int .i64]
def XD (d:Int):MCon where
 σ:=WlS
 χ:=WkS
 pre s:=s.s.w.does=d/\s.s.w.th<4/\s.s.good/\Qnc s.z
 args s:=[.c (.p 0 0),.c (.p 1 0),.c (.p 2 0)]
 mem s:=wkM 3 4 s.s s.z
 ok s x:=x.w.sim (Qar s.z).w/\x.good
 val _ _:=.t []
 mem' s x:=wkM 3 4 x ⟨x.w,s.m,s.t⟩
 k:=3
 len:=5
 det:=none
 find:=Qct
theorem Qp2 {s0 s1 s2 s3 s4 s5 s6 s7 s8 s9 s11 s12 s13 s14 s15:Seg}{x lo sz n m c T:Nat}{nn:Bool}(h:n=m):
 SB.cells [s0,s1,s2,s3,s4,s5,s6,s7,s8,s9,.one (.so x lo sz n c nn),s11,s12,s13,s14,s15] T=SB.cells [s0,s1,s2,s3,s4,s5,s6,s7,s8,s9,.one (.so x lo sz m c nn),s11,s12,s13,s14,s15] T:=by rw[h]
theorem l3 {α:Type}{a b c a' b' c':α}(h0:a=a') (h1:b=b') (h2:c=c'):[a,b,c]=[a',b',c']:=by rw[h0,h1,h2]
theorem l5 {α:Type}{a b c d e a' b' c' d' e':α}(h0:a=a') (h1:b=b') (h2:c=c') (h3:d=d') (h4:e=e'):[a,b,c,d,e]=[a',b',c',d',e']:=by rw[h0,h1,h2,h3,h4]
theorem nbeqF {a b:Nat}(h:a≠b):Nat.beq a b=false:=by
 cases hb:Nat.beq a b
 · rfl
 · exact absurd (Nat.eq_of_beq_eq_true hb) h
theorem QmH {a b:Nat}(h:a=b):Nat.beq a b=true:=by subst h;exact Nat.beq_refl a
theorem QdO {w:Wk}{ma ca:Nat}{na:Bool}{za:Nat->Nat->Int}{md cd:Nat}{nd:Bool}{zd:Nat->Nat->Int}(n d:Int) (h:(⟨w,ma,ca,na,za,md,cd,nd,zd⟩:WkS).good):(⟨w.next n d,ma,ca,na,za,md,cd,nd,zd⟩:WkS).good:=by
 unfold Wk.next;split<;>exact h
theorem QiC {w:Wk}(n d:Int) (h:w.th<4):(w.next n d).th<4:=by
 unfold Wk.next;split<;>exact h
theorem QeD {w:Wk}(n d:Int) (h:w.allOK):(w.next n d).allOK:=by
 unfold Wk.next;split<;>exact h
theorem Qng:(Con.mem (XD 4)).holds Tryz.prog 36:=by
 intro w0 S
 refine Qb (Γ:=[(19,.mem Q6),(15,.mem QN),(65,.pure Xx),(66,.mem Qas),(67,.pure Xk),(69,.pure Qhi),(68,.mem Qd2)]) (fun _=>noW) Tryz.func36 rfl (by kernel_rfl) Qg Qc (fun w S' _ _=>.cons (Xw w S') (.cons (QO w S') (.cons (Xy w S') (.cons (QaE w S') (.cons (Qbk w S') (.cons (QjD w S') (.cons (Qht w S') (.nil _ _ _)))))))) (XD 4) (fun _=>[]) (fun x0 h=>by cases h) (fun s ρ w _ _ _=>Qh w _) [nzW] (rpW 3) 400 ?_
 rintro⟨⟨⟨th,does,k,key,x,tog,said,i,v,r,asks,deeds,seen,oc,ov,whn⟩,ma,ca,na,za,md,cd,nd,zd⟩,m,t⟩ W ⟨h0,h1,h2,h3,h4,h5,h6,h7⟩ -
 refine⟨rfl,?_⟩
 dsimp only at h0 h1 h3 h4 h5 h6 h7
 subst h0
 refine Qi (q:=∃(s:Qa6),[aP 1 0,aI 1]=[aP 1 0,aI s.2]/\[ramB m]=[ramB s.1]/\(iR s.2 (16:Int))/\∀(x_1:Unit),True->endN (XD (4:Int)) [nzW] (rpW 3) (WlS.mk (WkS.mk (Wk.mk th (4:Int) k key x tog said i v r asks deeds seen oc ov whn) ma ca na za md cd nd zd) m t) (SV.t []) [SB.cells [sI ↑th,sI 5,sI k,sI key,sI x,sI tog,sB said,sI 0,sU (s.1 (Int.toNat s.2)),nU 32 r,Seg.one (.v (.slice none 0 0)),sS 4 0 6 (List.length deeds) cd nd,nU 3 seen,sI oc,sI ov,sI whn] 42,ramB s.1,stoB (WlS.t (WlS.mk (WkS.mk (Wk.mk th (4:Int) k key x tog said i v r asks deeds seen oc ov whn) ma ca na za md cd nd zd) m t)),wkA ma ca za,wkD md cd zd]) (by kernel_rfl) ?_
 obtain⟨ga,gb,gc⟩:=h2
 exact⟨⟨m,1⟩,rfl,rfl,⟨(by decide:(0:Int)<=1),(by decide:(1:Int)<16)⟩,fun _ _=>Qj rfl ⟨⟨th,5,k,key,x,tog,said,0,m 1,r,[],deeds,seen,oc,ov,whn⟩,0,0,false,fun _ _=>0,md,cd,nd,zd⟩ ⟨⟨rfl,rfl⟩,⟨⟨Nat.le_refl _,Nat.le_refl _⟩,fun i hi=>absurd hi (Nat.not_lt_zero _),gc⟩⟩ rfl rfl rfl⟩
theorem Qnf:(Con.mem (XD 5)).holds Tryz.prog 36:=by
 intro w0 S
 refine Qb (Γ:=[(19,.mem Q6),(15,.mem QN),(65,.pure Xx),(66,.mem Qas),(67,.pure Xk),(69,.pure Qhi),(68,.mem Qd2)]) (fun _=>noW) Tryz.func36 rfl (by kernel_rfl) Qg Qc (fun w S' _ _=>.cons (Xw w S') (.cons (QO w S') (.cons (Xy w S') (.cons (QaE w S') (.cons (Qbk w S') (.cons (QjD w S') (.cons (Qht w S') (.nil _ _ _)))))))) (XD 5) (fun _=>[]) (fun x0 h=>by cases h) (fun s ρ w _ _ _=>Qh w _) [] (rpW 3) 400 ?_
 rintro⟨⟨⟨th,does,k,key,x,tog,said,i,v,r,asks,deeds,seen,oc,ov,whn⟩,ma,ca,na,za,md,cd,nd,zd⟩,m,t⟩ W ⟨h0,h1,h2,h3,h4,h5,h6,h7⟩ -
 refine⟨rfl,?_⟩
 dsimp only at h0 h1 h3 h4 h5 h6 h7
 subst h0
 refine Qi (q:=(iR v (18446744073709551616:Int))/\∃(s:QC),[aP 2 0,aI (IntKind.wrap .i64 ((↑(Qq v):Int)+i))]=[aP 2 0,aI s.2]/\[stoB (WlS.t (WlS.mk (WkS.mk (Wk.mk th (5:Int) k key x tog said i v r asks deeds seen oc ov whn) ma ca na za md cd nd zd) m t))]=[stoB (QC.s s)]/\(iR s.2 (72:Int))/\∀(x_1:Unit),True->(iR i (32:Int))/\Int.toNat i<32/\dP Tryz.f36 5 5 [⟨23,[],[0],[3,4],false⟩,xF 22 0,xF 21 0,xF 20 0,xE 19,xE 18,xE 17,⟨16,[],[2],[],false⟩,xE 15,xR 14 0,xF 13 0,xF 12 0,xF 11 0,xE 10,xR 9 0,xF 8 0,xF 7 0,xF 6 0,xF 5 2,xR 4 0,xF 3 0,xF 2 0,xF 1 0,xF 0 0]/\∃(s_1:WnS),[aP 0 0,aI 32,aI 6]=[aP 0 0,aI s_1.2,aI s_1.3]/\[SB.cells [sI ↑th,sI 5,sI k,sI key,sI x,sI tog,sB said,sI i,sU v,nU 32 fun (i_1:Nat)=>bif Nat.beq i_1 (Int.toNat i)then (QC.s s).1 (Int.toNat s.2)else r i_1,sS 3 0 5 (List.length asks) ca na,sS 4 0 6 (List.length deeds) cd nd,nU 3 seen,sI oc,sI ov,sI whn] 42,wkA ma ca za,wkD md cd zd]=[wkC 3 4 (WkS.w (WnS.s s_1)) (WnS.s s_1).3 (WnS.s s_1).4 (WnS.s s_1).7 (WnS.s s_1).8,wkA (WnS.s s_1).2 (WnS.s s_1).3 (WnS.s s_1).5,wkD (WnS.s s_1).6 (WnS.s s_1).7 (WnS.s s_1).9]/\((0:Int)<=(WkS.w (WnS.s s_1)).8/\(WkS.w (WnS.s s_1)).8<(1000:Int))/\∀(x_2:Unit),True->endN (XD (5:Int)) [] (rpW 3) (WlS.mk (WkS.mk (Wk.mk th (5:Int) k key x tog said i v r asks deeds seen oc ov whn) ma ca na za md cd nd zd) m t) (SV.t []) [wkC 3 4 (Wk.next (WkS.w (WnS.s s_1)) (WnS.n s_1) (WnS.d s_1)) (WnS.s s_1).3 (WnS.s s_1).4 (WnS.s s_1).7 (WnS.s s_1).8,ramB m,stoB (QC.s s),wkA (WnS.s s_1).2 (WnS.s s_1).3 (WnS.s s_1).5,wkD (WnS.s s_1).6 (WnS.s s_1).7 (WnS.s s_1).9]) (by kernel_rfl) ?_
 have hb:Qq v=8\/Qq v=40:=by unfold Qq;omega
 have e:IntKind.wrap .i64 ((Qq v:Int)+i)=((Qq v+i.toNat:Nat):Int):=by rw[QH (by omega) (by omega)];omega
 have e2:(0:Int)<=((Qq v+i.toNat:Nat):Int):=by omega
 have e3:((Qq v+i.toNat:Nat):Int)<72:=by omega
 have e5:i<1000:=by omega
 rw[e]
 exact⟨h5,⟨t,((Qq v+i.toNat:Nat):Int)⟩,rfl,rfl,⟨e2,e3⟩,fun _ _=>⟨⟨h3,h4⟩,by omega,Qf (by kernel_rfl),⟨⟨⟨th,5,k,key,x,tog,said,i,v,putF r i.toNat (t.now (Qq v+i.toNat)),asks,deeds,seen,oc,ov,whn⟩,ma,ca,na,za,md,cd,nd,zd⟩,32,6⟩,rfl,rfl,⟨h3,e5⟩,fun _ _=>Qj rfl ⟨Wk.next ⟨th,5,k,key,x,tog,said,i,v,putF r i.toNat (t.now (Qq v+i.toNat)),asks,deeds,seen,oc,ov,whn⟩ 32 6,ma,ca,na,za,md,cd,nd,zd⟩ ⟨⟨rfl,rfl⟩,QdO 32 6 h2⟩ rfl rfl rfl⟩⟩
theorem Qne:(Con.mem (XD 6)).holds Tryz.prog 36:=by
 intro w0 S
 refine Qb (Γ:=[(19,.mem Q6),(15,.mem QN),(65,.pure Xx),(66,.mem Qas),(67,.pure Xk),(69,.pure Qhi),(68,.mem Qd2)]) (fun _=>noW) Tryz.func36 rfl (by kernel_rfl) Qg Qc (fun w S' _ _=>.cons (Xw w S') (.cons (QO w S') (.cons (Xy w S') (.cons (QaE w S') (.cons (Qbk w S') (.cons (QjD w S') (.cons (Qht w S') (.nil _ _ _)))))))) (XD 6) (fun _=>[]) (fun x0 h=>by cases h) (fun s ρ w _ _ _=>Qh w _) [] (rpW 3) 400 ?_
 rintro⟨⟨⟨th,does,k,key,x,tog,said,i,v,r,asks,deeds,seen,oc,ov,whn⟩,ma,ca,na,za,md,cd,nd,zd⟩,m,t⟩ W ⟨h0,h1,h2,h3,h4,h5,h6,h7⟩ -
 refine⟨rfl,?_⟩
 dsimp only at h0 h1 h3 h4 h5 h6 h7
 subst h0
 refine Qi (q:=∃(s:Qa6),[aP 1 0,aI (IntKind.wrap .i64 (IntKind.wrap .i64 ((2:Int)+IntKind.wrap .i64 ((2:Int)*i))+(1:Int)))]=[aP 1 0,aI s.2]/\[ramB m]=[ramB s.1]/\(iR s.2 (16:Int))/\∀(x_1:Unit),True->bif s.1 (Int.toNat s.2) != (0:Int)then (32=32/\(0:Int)<=i/\i<(4:Int)/\(0:Int)<=r 26/\r 26<(16:Int))/\dP Tryz.f36 9 5 [xE 16,xE 15,xE 14,xR 13 0,xF 12 0,xF 11 0,xF 10 0,xR 9 0,xF 8 0,xF 7 0,xF 6 0,xE 5,xE 4,xE 3,xE 2,xE 1,xE 0]/\bif IntKind.wrap .i64 (IntKind.wrap .u64 (s.1 (Int.toNat s.2)-(1:Int))) != Qm (r 26) (Int.toNat i)then dP Tryz.f36 10 5 [⟨14,[5],[3,6],[],true⟩,⟨13,[],[5],[5],false⟩,xE 12,xE 11,xE 10,xE 9,xR 8 0,xF 7 0,xF 6 0,xF 5 0,⟨4,[0],[],[3],false⟩,xF 3 0,xF 2 0,xF 1 0,xF 0 0]/\((List.length asks<=ma/\ca=ca)/\(1<=1/\1=1)/\List.length asks+1<=68719476736)/\∀(c:Nat),List.length asks+1<=c->dP Tryz.f36 10 5 [⟨17,[],[0],[6,4],false⟩,xF 16 0,xF 15 0,⟨14,[5],[3,6],[6],true⟩,⟨13,[],[5],[5],false⟩,xE 12,xE 11,xE 10,xE 9,xR 8 0,xF 7 0,xF 6 0,xF 5 0,⟨4,[0],[],[3],false⟩,xF 3 0,xF 2 0,xF 1 0,xF 0 0]/\endN (XD (6:Int)) [] (rpW 3) (WlS.mk (WkS.mk (Wk.mk th (6:Int) k key x tog said i v r asks deeds seen oc ov whn) ma ca na za md cd nd zd) m t) (SV.t []) [SB.cells [sI ↑th,sI 7,sI k,sI key,sI x,sI tog,sB said,sI i,sU v,nU 32 r,sS 6 0 5 (List.length asks+1) c na,sS 4 0 6 (List.length deeds) cd nd,nU 3 seen,sI oc,sI ov,sI whn] 42,ramB s.1,stoB (WlS.t (WlS.mk (WkS.mk (Wk.mk th (6:Int) k key x tog said i v r asks deeds seen oc ov whn) ma ca na za md cd nd zd) m t)),SB.gone,wkD md cd zd,wkA 1 1 fun (i_1 j:Nat)=>match List.get?Internal (match List.get?Internal [[i,IntKind.wrap .i64 (IntKind.wrap .u64 (s.1 (Int.toNat s.2)-(1:Int))),(0:Int),(0:Int),(0:Int)]] i_1 with|some x=>x|none=>[]) j with|some x=>x|none=>(0:Int),wkA (List.length asks+1) c fun (i_1 j:Nat)=>bif Nat.ble (i_1+1) (List.length asks)then za i_1 j else match List.get?Internal (match List.get?Internal [[i,IntKind.wrap .i64 (IntKind.wrap .u64 (s.1 (Int.toNat s.2)-(1:Int))),(0:Int),(0:Int),(0:Int)]] (0+(i_1-List.length asks))with|some x=>x|none=>[]) j with|some x=>x|none=>(0:Int)]else ∃(s_1:WnS),[aP 0 0,aI 4,aI 8]=[aP 0 0,aI s_1.2,aI s_1.3]/\[SB.cells [sI ↑th,sI 6,sI k,sI key,sI x,sI tog,sB said,sI i,sU v,nU 32 r,sS 3 0 5 (List.length asks) ca na,sS 4 0 6 (List.length deeds) cd nd,nU 3 seen,sI oc,sI ov,sI whn] 42,wkA ma ca za,wkD md cd zd]=[wkC 3 4 (WkS.w (WnS.s s_1)) (WnS.s s_1).3 (WnS.s s_1).4 (WnS.s s_1).7 (WnS.s s_1).8,wkA (WnS.s s_1).2 (WnS.s s_1).3 (WnS.s s_1).5,wkD (WnS.s s_1).6 (WnS.s s_1).7 (WnS.s s_1).9]/\((0:Int)<=(WkS.w (WnS.s s_1)).8/\(WkS.w (WnS.s s_1)).8<(1000:Int))/\∀(x_2:Unit),True->∃(s_2:WkS),[aP 0 0]=[aP 0 0]/\[wkC 3 4 (Wk.next (WkS.w (WnS.s s_1)) (WnS.n s_1) (WnS.d s_1)) (WnS.s s_1).3 (WnS.s s_1).4 (WnS.s s_1).7 (WnS.s s_1).8,wkA (WnS.s s_1).2 (WnS.s s_1).3 (WnS.s s_1).5,wkD (WnS.s s_1).6 (WnS.s s_1).7 (WnS.s s_1).9]=[wkC 3 4 (WkS.w s_2) s_2.3 s_2.4 s_2.7 s_2.8,wkA s_2.2 s_2.3 s_2.5,wkD s_2.6 s_2.7 s_2.9]/\((WkS.w s_2).1<4/\((List.length (WkS.w s_2).11<=s_2.2/\s_2.2<=s_2.3)/\IsA s_2.5 (WkS.w s_2).11/\(List.length (WkS.w s_2).12<=s_2.6/\s_2.6<=s_2.7)/\IsD s_2.9 (WkS.w s_2).12)/\((WkS.w s_2).2=(8:Int)->Wk.allOK s_2.1))/\∀(x_3:WkS),Wk.sim x_3.1 (Wk.all s_2.1)/\(List.length (WkS.w x_3).11<=x_3.2/\x_3.2<=x_3.3)/\IsA x_3.5 (WkS.w x_3).11/\(List.length (WkS.w x_3).12<=x_3.6/\x_3.6<=x_3.7)/\IsD x_3.9 (WkS.w x_3).12->endN (XD (6:Int)) [] (rpW 3) (WlS.mk (WkS.mk (Wk.mk th (6:Int) k key x tog said i v r asks deeds seen oc ov whn) ma ca na za md cd nd zd) m t) (SV.t []) [wkC 5 6 (WkS.w x_3) x_3.3 x_3.4 x_3.7 x_3.8,ramB s.1,stoB (WlS.t (WlS.mk (WkS.mk (Wk.mk th (6:Int) k key x tog said i v r asks deeds seen oc ov whn) ma ca na za md cd nd zd) m t)),SB.gone,SB.gone,wkA x_3.2 x_3.3 x_3.5,wkD x_3.6 x_3.7 x_3.9]else dP Tryz.f36 9 5 [xE 16,xE 15,xE 14,xE 13,xE 12,xE 11,xE 10,xE 9,xE 8,xE 7,xE 6,xE 5,xE 4,xE 3,xE 2,xE 1,xE 0]/\∃(s_1:WnS),[aP 0 0,aI 4,aI 8]=[aP 0 0,aI s_1.2,aI s_1.3]/\[SB.cells [sI ↑th,sI 6,sI k,sI key,sI x,sI tog,sB said,sI i,sU v,nU 32 r,sS 3 0 5 (List.length asks) ca na,sS 4 0 6 (List.length deeds) cd nd,nU 3 seen,sI oc,sI ov,sI whn] 42,wkA ma ca za,wkD md cd zd]=[wkC 3 4 (WkS.w (WnS.s s_1)) (WnS.s s_1).3 (WnS.s s_1).4 (WnS.s s_1).7 (WnS.s s_1).8,wkA (WnS.s s_1).2 (WnS.s s_1).3 (WnS.s s_1).5,wkD (WnS.s s_1).6 (WnS.s s_1).7 (WnS.s s_1).9]/\((0:Int)<=(WkS.w (WnS.s s_1)).8/\(WkS.w (WnS.s s_1)).8<(1000:Int))/\∀(x_2:Unit),True->∃(s_2:WkS),[aP 0 0]=[aP 0 0]/\[wkC 3 4 (Wk.next (WkS.w (WnS.s s_1)) (WnS.n s_1) (WnS.d s_1)) (WnS.s s_1).3 (WnS.s s_1).4 (WnS.s s_1).7 (WnS.s s_1).8,wkA (WnS.s s_1).2 (WnS.s s_1).3 (WnS.s s_1).5,wkD (WnS.s s_1).6 (WnS.s s_1).7 (WnS.s s_1).9]=[wkC 3 4 (WkS.w s_2) s_2.3 s_2.4 s_2.7 s_2.8,wkA s_2.2 s_2.3 s_2.5,wkD s_2.6 s_2.7 s_2.9]/\((WkS.w s_2).1<4/\((List.length (WkS.w s_2).11<=s_2.2/\s_2.2<=s_2.3)/\IsA s_2.5 (WkS.w s_2).11/\(List.length (WkS.w s_2).12<=s_2.6/\s_2.6<=s_2.7)/\IsD s_2.9 (WkS.w s_2).12)/\((WkS.w s_2).2=(8:Int)->Wk.allOK s_2.1))/\∀(x_3:WkS),Wk.sim x_3.1 (Wk.all s_2.1)/\(List.length (WkS.w x_3).11<=x_3.2/\x_3.2<=x_3.3)/\IsA x_3.5 (WkS.w x_3).11/\(List.length (WkS.w x_3).12<=x_3.6/\x_3.6<=x_3.7)/\IsD x_3.9 (WkS.w x_3).12->endN (XD (6:Int)) [] (rpW 3) (WlS.mk (WkS.mk (Wk.mk th (6:Int) k key x tog said i v r asks deeds seen oc ov whn) ma ca na za md cd nd zd) m t) (SV.t []) [wkC 5 6 (WkS.w x_3) x_3.3 x_3.4 x_3.7 x_3.8,ramB s.1,stoB (WlS.t (WlS.mk (WkS.mk (Wk.mk th (6:Int) k key x tog said i v r asks deeds seen oc ov whn) ma ca na za md cd nd zd) m t)),SB.gone,SB.gone,wkA x_3.2 x_3.3 x_3.5,wkD x_3.6 x_3.7 x_3.9]) (by kernel_rfl) ?_
 obtain⟨h8,⟨r0,r1⟩,⟨m0,m1⟩,ha⟩:=h6 rfl
 have e:IntKind.wrap .i64 (IntKind.wrap .i64 (2+IntKind.wrap .i64 (2*i))+1)=((3+2*i.toNat:Nat):Int):=by rw[QH (x:=2*i) (by omega) (by omega),QH (x:=2+2*i) (by omega) (by omega),QH (by omega) (by omega)];omega
 have e2:(0:Int)<=((3+2*i.toNat:Nat):Int):=by omega
 have e3:((3+2*i.toNat:Nat):Int)<16:=by omega
 have e5:i<1000:=by omega
 have hth:th<4:=h1
 have hl:asks.length<=4:=ha.2.1
 have hg:=h2
 rw[e]
 have hshut (hn:¬(m (3+2*i.toNat)≠0/\m (3+2*i.toNat)-1≠Qm (r 26) i.toNat)):Qar ⟨⟨th,6,k,key,x,tog,said,i,v,r,asks,deeds,seen,oc,ov,whn⟩,m,t⟩=⟨(Wk.next ⟨th,6,k,key,x,tog,said,i,v,r,asks,deeds,seen,oc,ov,whn⟩ 4 8).all,m,t⟩:=by
  unfold Qar
  rw[if_neg (by show ¬(6:Int)=4;decide),if_neg (by show ¬(6:Int)=5;decide),if_pos rfl,if_neg hn]
 refine⟨⟨m,((3+2*i.toNat:Nat):Int)⟩,rfl,rfl,⟨e2,e3⟩,fun _ _=>?_⟩
 show bif m (3+2*i.toNat) != 0 then _ else _
 refine QG (fun hm=>?_) (fun hm=>?_)
 · have e6:IntKind.wrap .i64 (IntKind.wrap .u64 (m (3+2*i.toNat)-1))=m (3+2*i.toNat)-1:=by rw[QaI (x:=m (3+2*i.toNat)-1) (by omega) (by omega),QH (by omega) (by omega)]
   refine⟨⟨rfl,h3,h8,r0,r1⟩,Qf (by kernel_rfl),?_⟩
   show bif IntKind.wrap .i64 (IntKind.wrap .u64 (m (3+2*i.toNat)-1)) != Qm (r 26) i.toNat then _ else _
   rw[e6]
   refine QG (fun ho=>?_) (fun ho=>?_)
   · obtain⟨⟨ga,gb⟩,gc,gd⟩:=h2
     have hopen:Qar ⟨⟨th,6,k,key,x,tog,said,i,v,r,asks,deeds,seen,oc,ov,whn⟩,m,t⟩=⟨⟨th,7,k,key,x,tog,said,i,v,r,asks++[⟨i.toNat,m (3+2*i.toNat)-1,0,0,0⟩],deeds,seen,oc,ov,whn⟩,m,t⟩:=by
      unfold Qar
      rw[if_neg (by show ¬(6:Int)=4;decide),if_neg (by show ¬(6:Int)=5;decide),if_pos rfl,if_pos ⟨hm,ho⟩]
     have el:asks.length+1=(asks++[⟨i.toNat,m (3+2*i.toNat)-1,0,0,0⟩]:List Ask).length:=by rw[List.length_append];rfl
     refine⟨Qf (by kernel_rfl),⟨⟨ga,rfl⟩,⟨Nat.le_refl _,rfl⟩,by omega⟩,fun c hc=>⟨Qf (by kernel_rfl),Qj rfl ⟨⟨th,7,k,key,x,tog,said,i,v,r,asks++[⟨i.toNat,m (3+2*i.toNat)-1,0,0,0⟩],deeds,seen,oc,ov,whn⟩,asks.length+1,c,na,_,md,cd,nd,zd⟩ ⟨by show Wk.sim _ (Qar ⟨⟨th,6,k,key,x,tog,said,i,v,r,asks,deeds,seen,oc,ov,whn⟩,m,t⟩).w;rw[hopen];exact Wk.sim_rfl _,⟨⟨by rw[<- el];exact Nat.le_refl _,hc⟩,?_,gd⟩⟩ rfl rfl (l5 (Qp2 el) rfl rfl rfl rfl)⟩⟩
     refine IsA.snoc gc (fun j hj k=>catT hj) ⟨?_,?_,?_,?_,?_⟩
     · refine catF.trans ?_
       rw[Nat.sub_self];show i=(i.toNat:Int);omega
     · refine catF.trans ?_
       rw[Nat.sub_self];exact e6
     all_goals exact catF.trans (by rw[Nat.sub_self];rfl)
   · refine⟨⟨⟨⟨th,6,k,key,x,tog,said,i,v,r,asks,deeds,seen,oc,ov,whn⟩,ma,ca,na,za,md,cd,nd,zd⟩,4,8⟩,rfl,rfl,⟨h3,e5⟩,fun _ _=>⟨⟨Wk.next ⟨th,6,k,key,x,tog,said,i,v,r,asks,deeds,seen,oc,ov,whn⟩ 4 8,ma,ca,na,za,md,cd,nd,zd⟩,rfl,rfl,⟨QiC 4 8 hth,QdO 4 8 hg,fun _=>QeD 4 8 ha⟩,?_⟩⟩
     rintro⟨w2,ma2,ca2,na2,za2,md2,cd2,nd2,zd2⟩ ⟨hs,hg2⟩
     exact Qj rfl ⟨w2,ma2,ca2,na2,za2,md2,cd2,nd2,zd2⟩ ⟨by show Wk.sim _ (Qar ⟨⟨th,6,k,key,x,tog,said,i,v,r,asks,deeds,seen,oc,ov,whn⟩,m,t⟩).w;rw[hshut (fun h=>h.2 ho)];exact hs,hg2⟩ rfl rfl rfl
 · refine⟨Qf (by kernel_rfl),⟨⟨⟨th,6,k,key,x,tog,said,i,v,r,asks,deeds,seen,oc,ov,whn⟩,ma,ca,na,za,md,cd,nd,zd⟩,4,8⟩,rfl,rfl,⟨h3,e5⟩,fun _ _=>⟨⟨Wk.next ⟨th,6,k,key,x,tog,said,i,v,r,asks,deeds,seen,oc,ov,whn⟩ 4 8,ma,ca,na,za,md,cd,nd,zd⟩,rfl,rfl,⟨QiC 4 8 hth,QdO 4 8 hg,fun _=>QeD 4 8 ha⟩,?_⟩⟩
   rintro⟨w2,ma2,ca2,na2,za2,md2,cd2,nd2,zd2⟩ ⟨hs,hg2⟩
   exact Qj rfl ⟨w2,ma2,ca2,na2,za2,md2,cd2,nd2,zd2⟩ ⟨by show Wk.sim _ (Qar ⟨⟨th,6,k,key,x,tog,said,i,v,r,asks,deeds,seen,oc,ov,whn⟩,m,t⟩).w;rw[hshut (fun h=>h.1 hm)];exact hs,hg2⟩ rfl rfl rfl
theorem Qnd:(Con.mem (XD 7)).holds Tryz.prog 36:=by
 intro w0 S
 refine Qb (Γ:=[(19,.mem Q6),(15,.mem QN),(65,.pure Xx),(66,.mem Qas),(67,.pure Xk),(69,.pure Qhi),(68,.mem Qd2)]) (fun _=>noW) Tryz.func36 rfl (by kernel_rfl) Qg Qc (fun w S' _ _=>.cons (Xw w S') (.cons (QO w S') (.cons (Xy w S') (.cons (QaE w S') (.cons (Qbk w S') (.cons (QjD w S') (.cons (Qht w S') (.nil _ _ _)))))))) (XD 7) (fun _=>[]) (fun x0 h=>by cases h) (fun s ρ w _ _ _=>Qh w _) [] (rpW 3) 400 ?_
 rintro⟨⟨⟨th,does,k,key,x,tog,said,i,v,r,asks,deeds,seen,oc,ov,whn⟩,ma,ca,na,za,md,cd,nd,zd⟩,m,t⟩ W ⟨h0,h1,h2,h3,h4,h5,h6,h7⟩ -
 refine⟨rfl,?_⟩
 dsimp only at h0 h1 h3 h4 h5 h6 h7
 subst h0
 refine Qi (q:=∃(s:Qa6),[aP 1 0,aI (IntKind.wrap .i64 ((2:Int)+IntKind.wrap .i64 ((2:Int)*i)))]=[aP 1 0,aI s.2]/\[ramB m]=[ramB s.1]/\(iR s.2 (16:Int))/\∀(x_1:Unit),True->List.length asks<=ca/\((0:Int)<=s.1 (Int.toNat s.2)/\s.1 (Int.toNat s.2)<(18446744073709551616:Int)/\opOk (s.1 (Int.toNat s.2)/(281474976710656:Int)%(65536:Int)) (s.1 (Int.toNat s.2)/(4294967296:Int)%(65536:Int)) (s.1 (Int.toNat s.2)%(4294967296:Int))=true)/\((0:Int)<=IntKind.wrap .i64 ((↑(List.length asks):Int)-(1:Int))/\IntKind.wrap .i64 ((↑(List.length asks):Int)-(1:Int))<(↑(List.length asks):Int)/\0+List.length asks<=ca)/\0+Int.toNat (IntKind.wrap .i64 ((↑(List.length asks):Int)-(1:Int)))<ma/\dP Tryz.f36 16 5 [⟨17,[],[3],[],false⟩,xF 16 3,xF 15 3,xE 14,xE 13,xE 12,xE 11,xE 10,xE 9,xE 8,⟨7,[0],[],[3],false⟩,xF 6 0,xF 5 0,xF 4 0,⟨3,[0],[],[3],false⟩,xF 2 0,xF 1 0,xF 0 0]/\∃(s_1:WnS),[aP 0 0,aI 4,aI 8]=[aP 0 0,aI s_1.2,aI s_1.3]/\[SB.cells [sI ↑th,sI 6,sI k,sI key,sI x,sI tog,sB said,sI i,sU v,nU 32 r,sS 3 0 5 (List.length asks) ca na,sS 4 0 6 (List.length deeds) cd nd,nU 3 seen,sI oc,sI ov,sI whn] 42,wkA ma ca fun (i j:Nat)=>bif match Nat.beq i (0+Int.toNat (IntKind.wrap .i64 ((↑(List.length asks):Int)-(1:Int))))with|false=>false|true=>match Nat.ble 2 j with|false=>false|true=>Nat.ble j 4 then match List.get?Internal [s.1 (Int.toNat s.2)/(281474976710656:Int)%(65536:Int),s.1 (Int.toNat s.2)/(4294967296:Int)%(65536:Int),s.1 (Int.toNat s.2)%(4294967296:Int)] (match match j with|0=>0|Nat.succ a=>a with|0=>0|Nat.succ a=>a)with|some x=>x|none=>(0:Int)else za i j,wkD md cd zd]=[wkC 3 4 (WkS.w (WnS.s s_1)) (WnS.s s_1).3 (WnS.s s_1).4 (WnS.s s_1).7 (WnS.s s_1).8,wkA (WnS.s s_1).2 (WnS.s s_1).3 (WnS.s s_1).5,wkD (WnS.s s_1).6 (WnS.s s_1).7 (WnS.s s_1).9]/\((0:Int)<=(WkS.w (WnS.s s_1)).8/\(WkS.w (WnS.s s_1)).8<(1000:Int))/\∀(x_2:Unit),True->∃(s_2:WkS),[aP 0 0]=[aP 0 0]/\[wkC 3 4 (Wk.next (WkS.w (WnS.s s_1)) (WnS.n s_1) (WnS.d s_1)) (WnS.s s_1).3 (WnS.s s_1).4 (WnS.s s_1).7 (WnS.s s_1).8,wkA (WnS.s s_1).2 (WnS.s s_1).3 (WnS.s s_1).5,wkD (WnS.s s_1).6 (WnS.s s_1).7 (WnS.s s_1).9]=[wkC 3 4 (WkS.w s_2) s_2.3 s_2.4 s_2.7 s_2.8,wkA s_2.2 s_2.3 s_2.5,wkD s_2.6 s_2.7 s_2.9]/\((WkS.w s_2).1<4/\((List.length (WkS.w s_2).11<=s_2.2/\s_2.2<=s_2.3)/\IsA s_2.5 (WkS.w s_2).11/\(List.length (WkS.w s_2).12<=s_2.6/\s_2.6<=s_2.7)/\IsD s_2.9 (WkS.w s_2).12)/\((WkS.w s_2).2=(8:Int)->Wk.allOK s_2.1))/\∀(x_3:WkS),Wk.sim x_3.1 (Wk.all s_2.1)/\(List.length (WkS.w x_3).11<=x_3.2/\x_3.2<=x_3.3)/\IsA x_3.5 (WkS.w x_3).11/\(List.length (WkS.w x_3).12<=x_3.6/\x_3.6<=x_3.7)/\IsD x_3.9 (WkS.w x_3).12->endN (XD (7:Int)) [] (rpW 3) (WlS.mk (WkS.mk (Wk.mk th (7:Int) k key x tog said i v r asks deeds seen oc ov whn) ma ca na za md cd nd zd) m t) (SV.t []) [wkC 5 6 (WkS.w x_3) x_3.3 x_3.4 x_3.7 x_3.8,ramB s.1,stoB (WlS.t (WlS.mk (WkS.mk (Wk.mk th (7:Int) k key x tog said i v r asks deeds seen oc ov whn) ma ca na za md cd nd zd) m t)),SB.gone,SB.gone,wkA x_3.2 x_3.3 x_3.5,wkD x_3.6 x_3.7 x_3.9]) (by kernel_rfl) ?_
 obtain⟨h8,⟨m0,m1⟩,⟨l,a,hla⟩,ha⟩:=h7 rfl
 have e:IntKind.wrap .i64 (2+IntKind.wrap .i64 (2*i))=((2+2*i.toNat:Nat):Int):=by rw[QH (x:=2*i) (by omega) (by omega),QH (by omega) (by omega)];omega
 have e2:(0:Int)<=((2+2*i.toNat:Nat):Int):=by omega
 have e3:((2+2*i.toNat:Nat):Int)<16:=by omega
 have e5:i<1000:=by omega
 have hth:th<4:=h1
 have hll:asks.length=l.length+1:=by rw[hla,List.length_append];rfl
 have hsl:=Qbx l a (m (2+2*i.toNat)/281474976710656%65536) (m (2+2*i.toNat)/4294967296%65536) (m (2+2*i.toNat)%4294967296)
 rw[<- hla]at hsl
 have el:asks.length=(Xl asks (m (2+2*i.toNat)/281474976710656%65536) (m (2+2*i.toNat)/4294967296%65536) (m (2+2*i.toNat)%4294967296)).length:=by rw[hsl,List.length_append];exact hll
 have hop:opOk (m (2+2*i.toNat)/281474976710656%65536) (m (2+2*i.toNat)/4294967296%65536) (m (2+2*i.toNat)%4294967296)=true:=
  (ha.1 ⟨a.t,a.g,m (2+2*i.toNat)/281474976710656%65536,m (2+2*i.toNat)/4294967296%65536,m (2+2*i.toNat)%4294967296⟩ (by show _∈Xl _ _ _ _;rw[hsl];exact List.mem_append_right _ List.mem_cons_self)).2.2
 have hl4:asks.length<=4:=by rw[el];exact ha.2.1
 have e6:IntKind.wrap .i64 ((asks.length:Int)-1)=(l.length:Int):=by rw[QH (by omega) (by omega)];omega
 obtain⟨⟨ga,gb⟩,gc,gd⟩:=h2
 dsimp only at ga gb gc gd
 have hgath:Qar ⟨⟨th,7,k,key,x,tog,said,i,v,r,asks,deeds,seen,oc,ov,whn⟩,m,t⟩=⟨(Wk.next ⟨th,6,k,key,x,tog,said,i,v,r,Xl asks (m (2+2*i.toNat)/281474976710656%65536) (m (2+2*i.toNat)/4294967296%65536) (m (2+2*i.toNat)%4294967296),deeds,seen,oc,ov,whn⟩ 4 8).all,m,t⟩:=by
  unfold Qar
  rw[if_neg (by show ¬(7:Int)=4;decide),if_neg (by show ¬(7:Int)=5;decide),if_neg (by show ¬(7:Int)=6;decide)]
 rw[e,e6]
 have hg (z':Nat->Nat->Int) (hz:∀j,j<l.length->∀q,z' j q=za j q) (h0:z' l.length 0=za l.length 0) (h1:z' l.length 1=za l.length 1) (h2:z' l.length 2=m (2+2*i.toNat)/281474976710656%65536) (h3:z' l.length 3=m (2+2*i.toNat)/4294967296%65536) (h4:z' l.length 4=m (2+2*i.toNat)%4294967296):
  (⟨⟨th,6,k,key,x,tog,said,i,v,r,Xl asks (m (2+2*i.toNat)/281474976710656%65536) (m (2+2*i.toNat)/4294967296%65536) (m (2+2*i.toNat)%4294967296),deeds,seen,oc,ov,whn⟩,ma,ca,na,z',md,cd,nd,zd⟩:WkS).good:=by
  refine⟨⟨by show (Xl _ _ _ _).length<=_;rw[<- el];exact ga,gb⟩,?_,gd⟩
  show IsA z' (Xl _ _ _ _)
  rw[hsl]
  rw[hla]at gc
  have g2:=gc l.length (by rw[List.length_append];exact Nat.lt_succ_self _)
  rw[show (l++[a]).getD l.length Ask.nil=a by simp[List.getD_eq_getElem?_getD]]at g2
  have gl:IsA za l:=fun j hj=>by
   have:=gc j (by rw[List.length_append];exact Nat.lt_succ_of_lt hj)
   rw[show (l++[a]).getD j Ask.nil=l.getD j Ask.nil by simp[List.getD_eq_getElem?_getD,List.getElem?_append_left hj]]at this
   exact this
  exact IsA.snoc gl hz ⟨h0.trans g2.1,h1.trans g2.2.1,h2,h3,h4⟩
 refine⟨⟨m,((2+2*i.toNat:Nat):Int)⟩,rfl,rfl,⟨e2,e3⟩,fun _ _=>⟨by omega,⟨m0,m1,hop⟩,⟨by omega,by omega,by omega⟩,by omega,Qf (by kernel_rfl),⟨⟨⟨th,6,k,key,x,tog,said,i,v,r,Xl asks (m (2+2*i.toNat)/281474976710656%65536) (m (2+2*i.toNat)/4294967296%65536) (m (2+2*i.toNat)%4294967296),deeds,seen,oc,ov,whn⟩,ma,ca,na,_,md,cd,nd,zd⟩,4,8⟩,rfl,l3 (Qp2 el) rfl rfl,⟨h3,e5⟩,fun _ _=>⟨⟨Wk.next ⟨th,6,k,key,x,tog,said,i,v,r,Xl asks (m (2+2*i.toNat)/281474976710656%65536) (m (2+2*i.toNat)/4294967296%65536) (m (2+2*i.toNat)%4294967296),deeds,seen,oc,ov,whn⟩ 4 8,ma,ca,na,_,md,cd,nd,zd⟩,rfl,rfl,⟨QiC 4 8 hth,QdO 4 8 (hg _ ?_ ?_ ?_ ?_ ?_ ?_),fun _=>QeD 4 8 ha⟩,?_⟩⟩⟩
 · intro j hj q
   show (bif (match Nat.beq j (0+l.length)with|false=>false|true=>_)then _ else za j q)=za j q
   rw[show Nat.beq j (0+l.length)=false from nbeqF (by omega)]
   rfl
 · show (bif (match Nat.beq l.length (0+l.length)with|false=>false|true=>_)then _ else za l.length 0)=za l.length 0
   rw[show Nat.beq l.length (0+l.length)=true from QmH (by omega)]
   rfl
 · show (bif (match Nat.beq l.length (0+l.length)with|false=>false|true=>_)then _ else za l.length 1)=za l.length 1
   rw[show Nat.beq l.length (0+l.length)=true from QmH (by omega)]
   rfl
 · show (bif (match Nat.beq l.length (0+l.length)with|false=>false|true=>_)then _ else za l.length 2)=_
   rw[show Nat.beq l.length (0+l.length)=true from QmH (by omega)]
   rfl
 · show (bif (match Nat.beq l.length (0+l.length)with|false=>false|true=>_)then _ else za l.length 3)=_
   rw[show Nat.beq l.length (0+l.length)=true from QmH (by omega)]
   rfl
 · show (bif (match Nat.beq l.length (0+l.length)with|false=>false|true=>_)then _ else za l.length 4)=_
   rw[show Nat.beq l.length (0+l.length)=true from QmH (by omega)]
   rfl
 rintro⟨w2,ma2,ca2,na2,za2,md2,cd2,nd2,zd2⟩ ⟨hs,hg2⟩
 exact Qj rfl ⟨w2,ma2,ca2,na2,za2,md2,cd2,nd2,zd2⟩ ⟨by show Wk.sim _ (Qar ⟨⟨th,7,k,key,x,tog,said,i,v,r,asks,deeds,seen,oc,ov,whn⟩,m,t⟩).w;rw[hgath];exact hs,hg2⟩ rfl rfl rfl
def QaY (d:Int):MCon:=dcon WlS (fun s=>s.s.w.does=d/\0<=s.s.w.v/\s.s.w.v<1000000000) (fun s=>[.c (.p 0 0),.c (.p 1 0)]) (fun s=>[wkC 2 3 s.s.w s.s.ca s.s.na s.s.cd s.s.nd,ramB s.m,wkA s.s.ma s.s.ca s.s.za,wkD s.s.md s.s.cd s.s.zd])
 (fun s=>sv (.bool (QaP s.z).2)) (fun s=>[wkC 2 3 (QaP s.z).1.w s.s.ca s.s.na s.s.cd s.s.nd,ramB (QaP s.z).1.m,wkA s.s.ma s.s.ca s.s.za,wkD s.s.md s.s.cd s.s.zd]) 4 Qct
theorem Qlt:(Con.mem (QaY 14)).holds Tryz.prog 38:=by
 intro w0 S
 refine Qb (Γ:=[(63,.mem Xj)]) (fun _=>noW) Tryz.func38 rfl (by kernel_rfl) Qg Qc (fun w S' _ _=>.cons (Qab w S') (.nil _ _ _)) (QaY 14) (fun _=>[]) (fun x0 h s x=>⟨rfl,trivial⟩) (fun s ρ w _ _ _=>Qh w _) [] (Qn 4) 400 ?_
 rintro⟨⟨⟨th,does,k,key,x,tog,said,i,v,r,asks,deeds,seen,oc,ov,whn⟩,ma,ca,na,za,md,cd,nd,zd⟩,m,t⟩ W ⟨h0,h1,h2⟩ -
 refine⟨rfl,?_⟩
 dsimp only at h0 h1 h2
 subst h0
 refine Qi (q:=∃(s:Qa5),[aP 1 0,aI 1,aU (IntKind.wrap .u64 (v+(1:Int)))]=[aP 1 0,aI s.2,aU s.3]/\[ramB m]=[ramB s.1]/\(iR s.2 (16:Int))/\∀(x_1:Unit),True->endN (QaY (14:Int)) [] (Qn 4) (WlS.mk (WkS.mk (Wk.mk th (14:Int) k key x tog said i v r asks deeds seen oc ov whn) ma ca na za md cd nd zd) m t) (SV.o (aB false)) [SB.cells [sI ↑th,sI 15,sI k,sI key,sI x,sI tog,sB said,sI i,sU v,nU 32 r,sS 2 0 5 (List.length asks) ca na,sS 3 0 6 (List.length deeds) cd nd,nU 3 seen,sI oc,sI ov,sI whn] 42,ramB (putF s.1 (Int.toNat s.2) s.3),wkA ma ca za,wkD md cd zd]) (by kernel_rfl) ?_
 rw[QaI (x:=v+1) (by omega) (by omega)]
 exact⟨⟨m,1,v+1⟩,rfl,rfl,⟨(by decide:(0:Int)<=1),(by decide:(1:Int)<16)⟩,fun _ _=>⟨(),trivial,rfl,rfl⟩⟩
theorem Qls:(Con.mem (QaY 15)).holds Tryz.prog 38:=by
 intro w0 S
 refine Qb (Γ:=[(63,.mem Xj)]) (fun _=>noW) Tryz.func38 rfl (by kernel_rfl) Qg Qc (fun w S' _ _=>.cons (Qab w S') (.nil _ _ _)) (QaY 15) (fun _=>[]) (fun x0 h s x=>⟨rfl,trivial⟩) (fun s ρ w _ _ _=>Qh w _) [] (Qn 4) 400 ?_
 rintro⟨⟨⟨th,does,k,key,x,tog,said,i,v,r,asks,deeds,seen,oc,ov,whn⟩,ma,ca,na,za,md,cd,nd,zd⟩,m,t⟩ W ⟨h0,h1,h2⟩ -
 refine⟨rfl,?_⟩
 dsimp only at h0 h1 h2
 subst h0
 refine Qi (q:=∃(s:Qa5),[aP 1 0,aI 0,aU 0]=[aP 1 0,aI s.2,aU s.3]/\[ramB m]=[ramB s.1]/\(iR s.2 (16:Int))/\∀(x_1:Unit),True->endN (QaY (15:Int)) [] (Qn 4) (WlS.mk (WkS.mk (Wk.mk th (15:Int) k key x tog said i v r asks deeds seen oc ov whn) ma ca na za md cd nd zd) m t) (SV.o (aB false)) [SB.cells [sI ↑th,sI 16,sI k,sI key,sI x,sI tog,sB said,sI i,sU v,nU 32 r,sS 2 0 5 (List.length asks) ca na,sS 3 0 6 (List.length deeds) cd nd,nU 3 seen,sI oc,sI ov,sI whn] 42,ramB (putF s.1 (Int.toNat s.2) s.3),wkA ma ca za,wkD md cd zd]) (by kernel_rfl) ?_
 exact⟨⟨m,0,0⟩,rfl,rfl,⟨(by decide:(0:Int)<=0),(by decide:(0:Int)<16)⟩,fun _ _=>⟨(),trivial,rfl,rfl⟩⟩
theorem Qlr:(Con.mem (QaY 16)).holds Tryz.prog 38:=by
 intro w0 S
 refine Qb (Γ:=[(63,.mem Xj)]) (fun _=>noW) Tryz.func38 rfl (by kernel_rfl) Qg Qc (fun w S' _ _=>.cons (Qab w S') (.nil _ _ _)) (QaY 16) (fun _=>[]) (fun x0 h s x=>⟨rfl,trivial⟩) (fun s ρ w _ _ _=>Qh w _) [] (Qn 4) 400 ?_
 rintro⟨⟨⟨th,does,k,key,x,tog,said,i,v,r,asks,deeds,seen,oc,ov,whn⟩,ma,ca,na,za,md,cd,nd,zd⟩,m,t⟩ W ⟨h0,h1,h2⟩ -
 refine⟨rfl,?_⟩
 dsimp only at h0 h1 h2
 subst h0
 refine Qi (q:=endN (QaY (16:Int)) [] (Qn 4) (WlS.mk (WkS.mk (Wk.mk th (16:Int) k key x tog said i v r asks deeds seen oc ov whn) ma ca na za md cd nd zd) m t) (SV.o (aB true)) [SB.cells [sI ↑th,sI 0,sI k,sI key,sI x,sI tog,sB said,sI i,sU v,nU 32 r,sS 2 0 5 (List.length asks) ca na,sS 3 0 6 (List.length deeds) cd nd,nU 3 seen,sI oc,sI ov,sI whn] 42,ramB m,wkA ma ca za,wkD md cd zd]) (by kernel_rfl) ?_
 exact⟨(),trivial,rfl,rfl⟩
def QbY (d:Int):MCon:=dcon WlS (fun s=>s.s.w.does=d/\s.s.w.th<4/\opOk s.s.w.k s.s.w.key s.s.w.x=true/\(s.s.w.tog=0\/s.s.w.tog=1)) (fun s=>[.c (.p 0 0),.c (.p 1 0)]) (fun s=>[wkC 2 3 s.s.w s.s.ca s.s.na s.s.cd s.s.nd,ramB s.m,wkA s.s.ma s.s.ca s.s.za,wkD s.s.md s.s.cd s.s.zd])
 (fun s=>.t []) (fun s=>[wkC 2 3 (sayP s.z).w s.s.ca s.s.na s.s.cd s.s.nd,ramB (sayP s.z).m,wkA s.s.ma s.s.ca s.s.za,wkD s.s.md s.s.cd s.s.zd]) 4 Qct
theorem Qor:(Con.mem (QbY 1)).holds Tryz.prog 35:=by
 intro w0 S
 refine Qb (Γ:=[(63,.mem Xj),(64,.mem XN),(62,.pure QcD)]) (fun _=>noW) Tryz.func35 rfl (by kernel_rfl) Qg Qc (fun w S' _ _=>.cons (Qab w S') (.cons (Qdm w S') (.cons (QgF w S') (.nil _ _ _)))) (QbY 1) (fun _=>[]) (fun x0 h s x=>⟨rfl,trivial⟩) (fun s ρ w _ _ _=>Qh w _) [] (Qn 4) 400 ?_
 rintro⟨⟨⟨th,does,k,key,x,tog,said,i,v,r,asks,deeds,seen,oc,ov,whn⟩,ma,ca,na,za,md,cd,nd,zd⟩,m,t⟩ W ⟨h0,h1,h2,h3⟩ -
 refine⟨rfl,?_⟩
 dsimp only at h0 h1 h2 h3
 subst h0
 refine Qi (q:=opOk k key x=true/\∃(s:Qa5),[aP 1 0,aI (IntKind.wrap .i64 ((2:Int)+IntKind.wrap .i64 ((2:Int)*(↑th:Int)))),aU (opW k key x)]=[aP 1 0,aI s.2,aU s.3]/\[ramB m]=[ramB s.1]/\(iR s.2 (16:Int))/\∀(x_1:Unit),True->endN (QbY (1:Int)) [] (Qn 4) (WlS.mk (WkS.mk (Wk.mk th (1:Int) k key x tog said i v r asks deeds seen oc ov whn) ma ca na za md cd nd zd) m t) (SV.t []) [SB.cells [sI ↑th,sI 2,sI k,sI key,sI x,sI tog,sB said,sI i,sU v,nU 32 r,sS 2 0 5 (List.length asks) ca na,sS 3 0 6 (List.length deeds) cd nd,nU 3 seen,sI oc,sI ov,sI whn] 42,ramB (putF s.1 (Int.toNat s.2) s.3),wkA ma ca za,wkD md cd zd]) (by kernel_rfl) ?_
 have e:IntKind.wrap .i64 (2+IntKind.wrap .i64 (2*(th:Int)))=((2+2*th:Nat):Int):=by rw[QH (x:=2*(th:Int)) (by omega) (by omega),QH (by omega) (by omega)];omega
 rw[e]
 exact⟨h2,⟨m,((2+2*th:Nat):Int),opW k key x⟩,rfl,rfl,⟨(by omega:(0:Int)<=((2+2*th:Nat):Int)),(by omega:((2+2*th:Nat):Int)<16)⟩,fun _ _=>⟨(),trivial,rfl,rfl⟩⟩
theorem Qoq:(Con.mem (QbY 2)).holds Tryz.prog 35:=by
 intro w0 S
 refine Qb (Γ:=[(63,.mem Xj),(64,.mem XN),(62,.pure QcD)]) (fun _=>noW) Tryz.func35 rfl (by kernel_rfl) Qg Qc (fun w S' _ _=>.cons (Qab w S') (.cons (Qdm w S') (.cons (QgF w S') (.nil _ _ _)))) (QbY 2) (fun _=>[]) (fun x0 h s x=>⟨rfl,trivial⟩) (fun s ρ w _ _ _=>Qh w _) [] (Qn 4) 400 ?_
 rintro⟨⟨⟨th,does,k,key,x,tog,said,i,v,r,asks,deeds,seen,oc,ov,whn⟩,ma,ca,na,za,md,cd,nd,zd⟩,m,t⟩ W ⟨h0,h1,h2,h3⟩ -
 refine⟨rfl,?_⟩
 dsimp only at h0 h1 h2 h3
 subst h0
 refine Qi (q:=∃(s:Qa5),[aP 1 0,aI (IntKind.wrap .i64 (IntKind.wrap .i64 ((2:Int)+IntKind.wrap .i64 ((2:Int)*(↑th:Int)))+(1:Int))),aU (IntKind.wrap .u64 (IntKind.wrap .u64 tog+(1:Int)))]=[aP 1 0,aI s.2,aU s.3]/\[ramB m]=[ramB s.1]/\(iR s.2 (16:Int))/\∀(x_1:Unit),True->dP Tryz.f35 5 4 [⟨14,[],[1],[],false⟩,xE 13,xE 12,xR 11 0,xF 10 0,xF 9 0,xF 8 0,xE 7,xE 6,xE 5,xR 4 0,xF 3 0,xF 2 0,xF 1 0,xF 0 1]/\endN (QbY (2:Int)) [] (Qn 4) (WlS.mk (WkS.mk (Wk.mk th (2:Int) k key x tog said i v r asks deeds seen oc ov whn) ma ca na za md cd nd zd) m t) (SV.t []) [SB.cells [sI ↑th,sI 3,sI k,sI key,sI x,sI tog,sB true,sI i,sU v,nU 32 r,sS 2 0 5 (List.length asks) ca na,sS 3 0 6 (List.length deeds) cd nd,nU 3 seen,sI oc,sI ov,sI whn] 42,ramB (putF s.1 (Int.toNat s.2) s.3),wkA ma ca za,wkD md cd zd]) (by kernel_rfl) ?_
 have e:IntKind.wrap .i64 (IntKind.wrap .i64 (2+IntKind.wrap .i64 (2*(th:Int)))+1)=((3+2*th:Nat):Int):=by rw[QH (x:=2*(th:Int)) (by omega) (by omega),QH (x:=2+2*(th:Int)) (by omega) (by omega),QH (by omega) (by omega)];omega
 have e2:IntKind.wrap .u64 (IntKind.wrap .u64 tog+1)=tog+1:=by rw[QaI (x:=tog) (by omega) (by omega)];exact QaI (by omega) (by omega)
 rw[e,e2]
 exact⟨⟨m,((3+2*th:Nat):Int),tog+1⟩,rfl,rfl,⟨(by omega:(0:Int)<=((3+2*th:Nat):Int)),(by omega:((3+2*th:Nat):Int)<16)⟩,fun _ _=>⟨Qf (by kernel_rfl),(),trivial,rfl,rfl⟩⟩
theorem Qop:(Con.mem (QbY 3)).holds Tryz.prog 35:=by
 intro w0 S
 refine Qb (Γ:=[(63,.mem Xj),(64,.mem XN),(62,.pure QcD)]) (fun _=>noW) Tryz.func35 rfl (by kernel_rfl) Qg Qc (fun w S' _ _=>.cons (Qab w S') (.cons (Qdm w S') (.cons (QgF w S') (.nil _ _ _)))) (QbY 3) (fun _=>[]) (fun x0 h s x=>⟨rfl,trivial⟩) (fun s ρ w _ _ _=>Qh w _) [] (Qn 4) 400 ?_
 rintro⟨⟨⟨th,does,k,key,x,tog,said,i,v,r,asks,deeds,seen,oc,ov,whn⟩,ma,ca,na,za,md,cd,nd,zd⟩,m,t⟩ W ⟨h0,h1,h2,h3⟩ -
 refine⟨rfl,?_⟩
 dsimp only at h0 h1 h2 h3
 subst h0
 refine Qi (q:=∃(s:Qc6),[aP 1 0,aI 0,aU 0,aU (IntKind.wrap .u64 (IntKind.wrap .u64 (↑th:Int)+(1:Int)))]=[aP 1 0,aI s.2,aU s.3,aU s.4]/\[ramB m]=[ramB s.1]/\(iR s.2 (16:Int))/\∀(x_1:Unit),True->bif bif s.1 (Int.toNat s.2)==s.3 then false else true then endN (QbY (3:Int)) [] (Qn 4) (WlS.mk (WkS.mk (Wk.mk th (3:Int) k key x tog said i v r asks deeds seen oc ov whn) ma ca na za md cd nd zd) m t) (SV.t []) [SB.cells [sI ↑th,sI 17,sI k,sI key,sI x,sI tog,sB said,sI i,sU v,nU 32 r,sS 2 0 5 (List.length asks) ca na,sS 3 0 6 (List.length deeds) cd nd,nU 3 seen,sI oc,sI ov,sI whn] 42,ramB (bif s.1 (Int.toNat s.2)==s.3 then putF s.1 (Int.toNat s.2) s.4 else s.1),wkA ma ca za,wkD md cd zd]else endN (QbY (3:Int)) [] (Qn 4) (WlS.mk (WkS.mk (Wk.mk th (3:Int) k key x tog said i v r asks deeds seen oc ov whn) ma ca na za md cd nd zd) m t) (SV.t []) [SB.cells [sI ↑th,sI 4,sI k,sI key,sI x,sI tog,sB said,sI i,sU v,nU 32 r,sS 2 0 5 (List.length asks) ca na,sS 3 0 6 (List.length deeds) cd nd,nU 3 seen,sI oc,sI ov,sI whn] 42,ramB (bif s.1 (Int.toNat s.2)==s.3 then putF s.1 (Int.toNat s.2) s.4 else s.1),wkA ma ca za,wkD md cd zd]) (by kernel_rfl) ?_
 have e2:IntKind.wrap .u64 (IntKind.wrap .u64 (th:Int)+1)=(th:Int)+1:=by rw[QaI (x:=(th:Int)) (by omega) (by omega)];exact QaI (by omega) (by omega)
 rw[e2]
 refine⟨⟨m,0,0,(th:Int)+1⟩,rfl,rfl,⟨(by decide:(0:Int)<=0),(by decide:(0:Int)<16)⟩,fun _ _=>?_⟩
 show bif bif m 0==0 then false else true then _ else _
 refine Qii (fun h=>⟨(),trivial,rfl,?_⟩) (fun h=>⟨(),trivial,rfl,?_⟩)
 · have hl:sayP ⟨⟨th,3,k,key,x,tog,said,i,v,r,asks,deeds,seen,oc,ov,whn⟩,m,t⟩=⟨⟨th,17,k,key,x,tog,said,i,v,r,asks,deeds,seen,oc,ov,whn⟩,m,t⟩:=by
    rw[say3 _ rfl,if_neg h]
   show [_,ramB (bif m 0==0 then putF m 0 ((th:Int)+1)else m),_,_]=[wkC 2 3 (sayP _).w ca na cd nd,ramB (sayP _).m,_,_]
   rw[hl,show (m 0==0)=false from beq_eq_false_iff_ne.2 h];rfl
 · have hl:sayP ⟨⟨th,3,k,key,x,tog,said,i,v,r,asks,deeds,seen,oc,ov,whn⟩,m,t⟩=⟨⟨th,4,k,key,x,tog,said,i,v,r,asks,deeds,seen,oc,ov,whn⟩,putF m 0 ((th:Int)+1),t⟩:=by
    rw[say3 _ rfl,if_pos h]
   show [_,ramB (bif m 0==0 then putF m 0 ((th:Int)+1)else m),_,_]=[wkC 2 3 (sayP _).w ca na cd nd,ramB (sayP _).m,_,_]
   rw[hl,show (m 0==0)=true from beq_iff_eq.2 h];rfl
def QT (d:Int):MCon:=dcon WlS (fun s=>s.s.w.does=d/\s.s.w.th<4/\(0<=s.s.w.v/\s.s.w.v<1000000000)/\(0<=s.s.w.i/\s.s.w.i<32/\(d=9->s.s.w.i<4))/\(0<=s.t.fl/\s.t.fl<1000000000)/\(0<=s.t.fe/\s.t.fe<1000000000)) (fun s=>[.c (.p 0 0),.c (.p 1 0)]) (fun s=>[wkC 2 3 s.s.w s.s.ca s.s.na s.s.cd s.s.nd,stoB s.t,wkA s.s.ma s.s.ca s.s.za,wkD s.s.md s.s.cd s.s.zd])
 (fun s=>.t []) (fun s=>[wkC 2 3 (XG s.z).w s.s.ca s.s.na s.s.cd s.s.nd,stoB (XG s.z).s,wkA s.s.ma s.s.ca s.s.za,wkD s.s.md s.s.cd s.s.zd]) 4 Qct
theorem QmT:(Con.mem (QT 8)).holds Tryz.prog 37:=by
 intro w0 S
 refine Qb (Γ:=[(34,.mem Xq),(70,.mem Q0),(71,.mem Xe),(65,.pure Xx),(66,.mem Qas)]) (fun _=>noW) Tryz.func37 rfl (by kernel_rfl) Qg Qc (fun w S' _ _=>.cons (XZ w S') (.cons (Qae w S') (.cons (Qaf w S') (.cons (Xy w S') (.cons (QaE w S') (.nil _ _ _)))))) (QT 8) (fun _=>[]) (fun x0 h s x=>⟨rfl,trivial⟩) (fun s ρ w _ _ _=>Qh w _) [] (Qn 4) 400 ?_
 rintro⟨⟨⟨th,does,k,key,x,tog,said,i,v,r,asks,deeds,seen,oc,ov,whn⟩,ma,ca,na,za,md,cd,nd,zd⟩,m,t⟩ W ⟨h0,h1,h2,h3,h4,h5⟩ -
 refine⟨rfl,?_⟩
 dsimp only at h0 h1 h2 h3 h4 h5
 subst h0
 refine Qi (q:=((0:Int)<=IntKind.wrap .u64 (v+(1:Int))/\IntKind.wrap .u64 (v+(1:Int))<(18446744073709551616:Int))/\(iR i (32:Int))/\Int.toNat i<32/\∃(s:Xg),[aP 1 0,aI (IntKind.wrap .i64 ((↑(Qq (IntKind.wrap .u64 (v+(1:Int)))):Int)+i)),aU (r (Int.toNat i))]=[aP 1 0,aI s.2,aU s.3]/\[stoB t]=[stoB (Xg.s s)]/\(iR s.2 (72:Int))/\∀(x_1:Unit),True->dP Tryz.f37 2 4 [⟨21,[],[1],[],false⟩,xR 20 0,xF 19 0,xF 18 0,xF 17 0,xR 16 0,xF 15 0,xF 14 0,xF 13 0,xF 12 0,xE 11,xR 10 0,xF 9 0,xF 8 0,xF 7 0,xE 6,xE 5,xR 4 0,xF 3 0,xF 2 0,xF 1 0,xF 0 1]/\∃(s_1:WnS),[aP 0 0,aI 32,aI 9]=[aP 0 0,aI s_1.2,aI s_1.3]/\[SB.cells [sI ↑th,sI 8,sI k,sI key,sI x,sI tog,sB said,sI i,sU v,nU 32 r,sS 2 0 5 (List.length asks) ca na,sS 3 0 6 (List.length deeds) cd nd,nU 3 seen,sI oc,sI ov,sI whn] 42,wkA ma ca za,wkD md cd zd]=[wkC 2 3 (WkS.w (WnS.s s_1)) (WnS.s s_1).3 (WnS.s s_1).4 (WnS.s s_1).7 (WnS.s s_1).8,wkA (WnS.s s_1).2 (WnS.s s_1).3 (WnS.s s_1).5,wkD (WnS.s s_1).6 (WnS.s s_1).7 (WnS.s s_1).9]/\((0:Int)<=(WkS.w (WnS.s s_1)).8/\(WkS.w (WnS.s s_1)).8<(1000:Int))/\∀(x_2:Unit),True->endN (QT (8:Int)) [] (Qn 4) (WlS.mk (WkS.mk (Wk.mk th (8:Int) k key x tog said i v r asks deeds seen oc ov whn) ma ca na za md cd nd zd) m t) (SV.t []) [wkC 2 3 (Wk.next (WkS.w (WnS.s s_1)) (WnS.n s_1) (WnS.d s_1)) (WnS.s s_1).3 (WnS.s s_1).4 (WnS.s s_1).7 (WnS.s s_1).8,stoB (Sto.save (Xg.s s) (Int.toNat (Xg.a s)) (Xg.x s)),wkA (WnS.s s_1).2 (WnS.s s_1).3 (WnS.s s_1).5,wkD (WnS.s s_1).6 (WnS.s s_1).7 (WnS.s s_1).9]) (by kernel_rfl) ?_
 have hv:IntKind.wrap .u64 (v+1)=v+1:=QaI (by omega) (by omega)
 have hb:Qq (v+1)=8\/Qq (v+1)=40:=by unfold Qq;omega
 have e:IntKind.wrap .i64 ((Qq (v+1):Int)+i)=((Qq (v+1)+i.toNat:Nat):Int):=by rw[QH (by omega) (by omega)];omega
 have e2:(0:Int)<=((Qq (v+1)+i.toNat:Nat):Int):=by omega
 have e3:((Qq (v+1)+i.toNat:Nat):Int)<72:=by omega
 have e4:(0:Int)<=i:=by omega
 have e5:i<1000:=by omega
 rw[hv,e]
 exact⟨⟨by omega,by omega⟩,⟨by omega,by omega⟩,by omega,⟨t,((Qq (v+1)+i.toNat:Nat):Int),r i.toNat⟩,rfl,rfl,⟨e2,e3⟩,fun _ _=>⟨Qf (by kernel_rfl),⟨⟨⟨th,8,k,key,x,tog,said,i,v,r,asks,deeds,seen,oc,ov,whn⟩,ma,ca,na,za,md,cd,nd,zd⟩,32,9⟩,rfl,rfl,⟨e4,e5⟩,fun _ _=>⟨(),trivial,rfl,rfl⟩⟩⟩
theorem QmS:(Con.mem (QT 9)).holds Tryz.prog 37:=by
 intro w0 S
 refine Qb (Γ:=[(34,.mem Xq),(70,.mem Q0),(71,.mem Xe),(65,.pure Xx),(66,.mem Qas)]) (fun _=>noW) Tryz.func37 rfl (by kernel_rfl) Qg Qc (fun w S' _ _=>.cons (XZ w S') (.cons (Qae w S') (.cons (Qaf w S') (.cons (Xy w S') (.cons (QaE w S') (.nil _ _ _)))))) (QT 9) (fun _=>[]) (fun x0 h s x=>⟨rfl,trivial⟩) (fun s ρ w _ _ _=>Qh w _) [] (Qn 4) 400 ?_
 rintro⟨⟨⟨th,does,k,key,x,tog,said,i,v,r,asks,deeds,seen,oc,ov,whn⟩,ma,ca,na,za,md,cd,nd,zd⟩,m,t⟩ W ⟨h0,h1,h2,h3,h4,h5⟩ -
 refine⟨rfl,?_⟩
 dsimp only at h0 h1 h2 h3 h4 h5
 subst h0
 refine Qi (q:=((0:Int)<=IntKind.wrap .u64 (v+(1:Int))/\IntKind.wrap .u64 (v+(1:Int))<(18446744073709551616:Int))/\(8:Int)≠(0:Int)/\∃(s:QS),[aP 1 0,aI ↑th,aI (IntKind.wrap .i64 (IntKind.wrap .i64 (Int.tdiv (↑(Qq (IntKind.wrap .u64 (v+(1:Int)))):Int) (8:Int))+i))]=[aP 1 0,aI s.2,aI s.3]/\[stoB t]=[stoB (QS.s s)]/\((iR s.2 (4:Int))/\(iR s.3 (9:Int))/\(0:Int)<=(QS.s s).4/\(QS.s s).4<(1000000000:Int))/\∀(x_1:Unit),True->dP Tryz.f37 5 4 [⟨17,[],[1],[],false⟩,xE 16,xR 15 0,xF 14 0,xF 13 0,xF 12 0,xE 11,xE 10,xE 9,xR 8 0,xF 7 0,xF 6 0,xF 5 0,xR 4 0,xF 3 0,xF 2 0,xF 1 0,xF 0 1]/\∃(s_1:WnS),[aP 0 0,aI 4,aI 10]=[aP 0 0,aI s_1.2,aI s_1.3]/\[SB.cells [sI ↑th,sI 9,sI k,sI key,sI x,sI tog,sB said,sI i,sU v,nU 32 r,sS 2 0 5 (List.length asks) ca na,sS 3 0 6 (List.length deeds) cd nd,nU 3 seen,sI oc,sI ov,sI whn] 42,wkA ma ca za,wkD md cd zd]=[wkC 2 3 (WkS.w (WnS.s s_1)) (WnS.s s_1).3 (WnS.s s_1).4 (WnS.s s_1).7 (WnS.s s_1).8,wkA (WnS.s s_1).2 (WnS.s s_1).3 (WnS.s s_1).5,wkD (WnS.s s_1).6 (WnS.s s_1).7 (WnS.s s_1).9]/\((0:Int)<=(WkS.w (WnS.s s_1)).8/\(WkS.w (WnS.s s_1)).8<(1000:Int))/\∀(x_2:Unit),True->endN (QT (9:Int)) [] (Qn 4) (WlS.mk (WkS.mk (Wk.mk th (9:Int) k key x tog said i v r asks deeds seen oc ov whn) ma ca na za md cd nd zd) m t) (SV.t []) [wkC 2 3 (Wk.next (WkS.w (WnS.s s_1)) (WnS.n s_1) (WnS.d s_1)) (WnS.s s_1).3 (WnS.s s_1).4 (WnS.s s_1).7 (WnS.s s_1).8,stoB (Sto.flush (QS.s s) (Int.toNat (QS.t s)) (Int.toNat (QS.l s))),wkA (WnS.s s_1).2 (WnS.s s_1).3 (WnS.s s_1).5,wkD (WnS.s s_1).6 (WnS.s s_1).7 (WnS.s s_1).9]) (by kernel_rfl) ?_
 have hv:IntKind.wrap .u64 (v+1)=v+1:=QaI (by omega) (by omega)
 have hb:Qq (v+1)=8\/Qq (v+1)=40:=by unfold Qq;omega
 have hi:=h3.2.2 rfl
 have e:IntKind.wrap .i64 (IntKind.wrap .i64 (Int.tdiv (Qq (v+1):Int) 8)+i)=((Qq (v+1)/8+i.toNat:Nat):Int):=by
  rw[Int.tdiv_eq_ediv_of_nonneg (by omega),QH (x:=(Qq (v+1):Int)/8) (by omega) (by omega),QH (by omega) (by omega)];omega
 have e0:(0:Int)<=th:=by omega
 have e1:(th:Int)<4:=by omega
 have e2:(0:Int)<=((Qq (v+1)/8+i.toNat:Nat):Int):=by omega
 have e3:((Qq (v+1)/8+i.toNat:Nat):Int)<9:=by omega
 have e4:(0:Int)<=i:=by omega
 have e5:i<1000:=by omega
 rw[hv,e]
 exact⟨⟨by omega,by omega⟩,by decide,⟨t,th,((Qq (v+1)/8+i.toNat:Nat):Int)⟩,rfl,rfl,⟨⟨e0,e1⟩,⟨e2,e3⟩,h4⟩,fun _ _=>⟨Qf (by kernel_rfl),⟨⟨⟨th,9,k,key,x,tog,said,i,v,r,asks,deeds,seen,oc,ov,whn⟩,ma,ca,na,za,md,cd,nd,zd⟩,4,10⟩,rfl,rfl,⟨e4,e5⟩,fun _ _=>⟨(),trivial,rfl,rfl⟩⟩⟩
theorem QkX:(Con.mem (QT 10)).holds Tryz.prog 37:=by
 intro w0 S
 refine Qb (Γ:=[(34,.mem Xq),(70,.mem Q0),(71,.mem Xe),(65,.pure Xx),(66,.mem Qas)]) (fun _=>noW) Tryz.func37 rfl (by kernel_rfl) Qg Qc (fun w S' _ _=>.cons (XZ w S') (.cons (Qae w S') (.cons (Qaf w S') (.cons (Xy w S') (.cons (QaE w S') (.nil _ _ _)))))) (QT 10) (fun _=>[]) (fun x0 h s x=>⟨rfl,trivial⟩) (fun s ρ w _ _ _=>Qh w _) [] (Qn 4) 400 ?_
 rintro⟨⟨⟨th,does,k,key,x,tog,said,i,v,r,asks,deeds,seen,oc,ov,whn⟩,ma,ca,na,za,md,cd,nd,zd⟩,m,t⟩ W ⟨h0,h1,h2,h3,h4,h5⟩ -
 refine⟨rfl,?_⟩
 dsimp only at h0 h1 h2 h3 h4 h5
 subst h0
 refine Qi (q:=∃(s:QZ),[aP 1 0,aI ↑th]=[aP 1 0,aI s.2]/\[stoB t]=[stoB (QZ.s s)]/\((iR s.2 (4:Int))/\(0:Int)<=(QZ.s s).5/\(QZ.s s).5<(1000000000:Int))/\∀(x_1:Unit),True->endN (QT (10:Int)) [] (Qn 4) (WlS.mk (WkS.mk (Wk.mk th (10:Int) k key x tog said i v r asks deeds seen oc ov whn) ma ca na za md cd nd zd) m t) (SV.t []) [SB.cells [sI ↑th,sI 11,sI k,sI key,sI x,sI tog,sB said,sI i,sU v,nU 32 r,sS 2 0 5 (List.length asks) ca na,sS 3 0 6 (List.length deeds) cd nd,nU 3 seen,sI oc,sI ov,sI whn] 42,stoB (Sto.fence (QZ.s s) (Int.toNat (QZ.t s))),wkA ma ca za,wkD md cd zd]) (by kernel_rfl) ?_
 have e0:(0:Int)<=th:=by omega
 have e1:(th:Int)<4:=by omega
 exact⟨⟨t,(th:Int)⟩,rfl,rfl,⟨⟨e0,e1⟩,h5⟩,fun _ _=>⟨(),trivial,rfl,rfl⟩⟩
theorem QkW:(Con.mem (QT 11)).holds Tryz.prog 37:=by
 intro w0 S
 refine Qb (Γ:=[(34,.mem Xq),(70,.mem Q0),(71,.mem Xe),(65,.pure Xx),(66,.mem Qas)]) (fun _=>noW) Tryz.func37 rfl (by kernel_rfl) Qg Qc (fun w S' _ _=>.cons (XZ w S') (.cons (Qae w S') (.cons (Qaf w S') (.cons (Xy w S') (.cons (QaE w S') (.nil _ _ _)))))) (QT 11) (fun _=>[]) (fun x0 h s x=>⟨rfl,trivial⟩) (fun s ρ w _ _ _=>Qh w _) [] (Qn 4) 400 ?_
 rintro⟨⟨⟨th,does,k,key,x,tog,said,i,v,r,asks,deeds,seen,oc,ov,whn⟩,ma,ca,na,za,md,cd,nd,zd⟩,m,t⟩ W ⟨h0,h1,h2,h3,h4,h5⟩ -
 refine⟨rfl,?_⟩
 dsimp only at h0 h1 h2 h3 h4 h5
 subst h0
 refine Qi (q:=∃(s:Xg),[aP 1 0,aI 0,aU (IntKind.wrap .u64 (v+(1:Int)))]=[aP 1 0,aI s.2,aU s.3]/\[stoB t]=[stoB (Xg.s s)]/\(iR s.2 (72:Int))/\∀(x_1:Unit),True->endN (QT (11:Int)) [] (Qn 4) (WlS.mk (WkS.mk (Wk.mk th (11:Int) k key x tog said i v r asks deeds seen oc ov whn) ma ca na za md cd nd zd) m t) (SV.t []) [SB.cells [sI ↑th,sI 12,sI k,sI key,sI x,sI tog,sB said,sI i,sU v,nU 32 r,sS 2 0 5 (List.length asks) ca na,sS 3 0 6 (List.length deeds) cd nd,nU 3 seen,sI oc,sI ov,sI whn] 42,stoB (Sto.save (Xg.s s) (Int.toNat (Xg.a s)) (Xg.x s)),wkA ma ca za,wkD md cd zd]) (by kernel_rfl) ?_
 have hv:IntKind.wrap .u64 (v+1)=v+1:=QaI (by omega) (by omega)
 rw[hv]
 exact⟨⟨t,0,v+1⟩,rfl,rfl,⟨(by decide:(0:Int)<=0),(by decide:(0:Int)<72)⟩,fun _ _=>⟨(),trivial,rfl,rfl⟩⟩
theorem QkV:(Con.mem (QT 12)).holds Tryz.prog 37:=by
 intro w0 S
 refine Qb (Γ:=[(34,.mem Xq),(70,.mem Q0),(71,.mem Xe),(65,.pure Xx),(66,.mem Qas)]) (fun _=>noW) Tryz.func37 rfl (by kernel_rfl) Qg Qc (fun w S' _ _=>.cons (XZ w S') (.cons (Qae w S') (.cons (Qaf w S') (.cons (Xy w S') (.cons (QaE w S') (.nil _ _ _)))))) (QT 12) (fun _=>[]) (fun x0 h s x=>⟨rfl,trivial⟩) (fun s ρ w _ _ _=>Qh w _) [] (Qn 4) 400 ?_
 rintro⟨⟨⟨th,does,k,key,x,tog,said,i,v,r,asks,deeds,seen,oc,ov,whn⟩,ma,ca,na,za,md,cd,nd,zd⟩,m,t⟩ W ⟨h0,h1,h2,h3,h4,h5⟩ -
 refine⟨rfl,?_⟩
 dsimp only at h0 h1 h2 h3 h4 h5
 subst h0
 refine Qi (q:=∃(s:QS),[aP 1 0,aI ↑th,aI 0]=[aP 1 0,aI s.2,aI s.3]/\[stoB t]=[stoB (QS.s s)]/\((iR s.2 (4:Int))/\(iR s.3 (9:Int))/\(0:Int)<=(QS.s s).4/\(QS.s s).4<(1000000000:Int))/\∀(x_1:Unit),True->endN (QT (12:Int)) [] (Qn 4) (WlS.mk (WkS.mk (Wk.mk th (12:Int) k key x tog said i v r asks deeds seen oc ov whn) ma ca na za md cd nd zd) m t) (SV.t []) [SB.cells [sI ↑th,sI 13,sI k,sI key,sI x,sI tog,sB said,sI i,sU v,nU 32 r,sS 2 0 5 (List.length asks) ca na,sS 3 0 6 (List.length deeds) cd nd,nU 3 seen,sI oc,sI ov,sI whn] 42,stoB (Sto.flush (QS.s s) (Int.toNat (QS.t s)) (Int.toNat (QS.l s))),wkA ma ca za,wkD md cd zd]) (by kernel_rfl) ?_
 have e0:(0:Int)<=th:=by omega
 have e1:(th:Int)<4:=by omega
 exact⟨⟨t,th,0⟩,rfl,rfl,⟨⟨e0,e1⟩,⟨(by decide:(0:Int)<=0),(by decide:(0:Int)<9)⟩,h4⟩,fun _ _=>⟨(),trivial,rfl,rfl⟩⟩
theorem QkU:(Con.mem (QT 13)).holds Tryz.prog 37:=by
 intro w0 S
 refine Qb (Γ:=[(34,.mem Xq),(70,.mem Q0),(71,.mem Xe),(65,.pure Xx),(66,.mem Qas)]) (fun _=>noW) Tryz.func37 rfl (by kernel_rfl) Qg Qc (fun w S' _ _=>.cons (XZ w S') (.cons (Qae w S') (.cons (Qaf w S') (.cons (Xy w S') (.cons (QaE w S') (.nil _ _ _)))))) (QT 13) (fun _=>[]) (fun x0 h s x=>⟨rfl,trivial⟩) (fun s ρ w _ _ _=>Qh w _) [] (Qn 4) 400 ?_
 rintro⟨⟨⟨th,does,k,key,x,tog,said,i,v,r,asks,deeds,seen,oc,ov,whn⟩,ma,ca,na,za,md,cd,nd,zd⟩,m,t⟩ W ⟨h0,h1,h2,h3,h4,h5⟩ -
 refine⟨rfl,?_⟩
 dsimp only at h0 h1 h2 h3 h4 h5
 subst h0
 refine Qi (q:=∃(s:QZ),[aP 1 0,aI ↑th]=[aP 1 0,aI s.2]/\[stoB t]=[stoB (QZ.s s)]/\((iR s.2 (4:Int))/\(0:Int)<=(QZ.s s).5/\(QZ.s s).5<(1000000000:Int))/\∀(x_1:Unit),True->endN (QT (13:Int)) [] (Qn 4) (WlS.mk (WkS.mk (Wk.mk th (13:Int) k key x tog said i v r asks deeds seen oc ov whn) ma ca na za md cd nd zd) m t) (SV.t []) [SB.cells [sI ↑th,sI 14,sI k,sI key,sI x,sI tog,sB said,sI i,sU v,nU 32 r,sS 2 0 5 (List.length asks) ca na,sS 3 0 6 (List.length deeds) cd nd,nU 3 seen,sI oc,sI ov,sI whn] 42,stoB (Sto.fence (QZ.s s) (Int.toNat (QZ.t s))),wkA ma ca za,wkD md cd zd]) (by kernel_rfl) ?_
 have e0:(0:Int)<=th:=by omega
 have e1:(th:Int)<4:=by omega
 exact⟨⟨t,(th:Int)⟩,rfl,rfl,⟨⟨e0,e1⟩,h5⟩,fun _ _=>⟨(),trivial,rfl,rfl⟩⟩
def Qbe (z:WSt):Prop:=(0<=z.w.does/\z.w.does<=21) /\
 (z.w.does<=3->opOk z.w.k z.w.key z.w.x=true/\(z.w.tog=0\/z.w.tog=1)) /\
 (4<=z.w.does/\z.w.does<=7->Qnc z) /\
 (8<=z.w.does/\z.w.does<=13->(0<=z.w.v/\z.w.v<1000000000)/\(0<=z.w.i/\z.w.i<32/\(z.w.does=9->z.w.i<4))/\(0<=z.s.fl/\z.s.fl<1000000000)/\(0<=z.s.fe/\z.s.fe<1000000000)) /\
 (14<=z.w.does/\z.w.does<=16->0<=z.w.v/\z.w.v<1000000000) /\
 (17<=z.w.does->(0<=z.w.v/\z.w.v<18446744073709551616)/\(0<=z.w.seen 0/\z.w.seen 0<16)/\(0<=z.w.seen 2/\z.w.seen 2<=9223372036854775807)/\U64 (z.w.seen 1) /\
  (z.w.does=21->(z.m 1=z.w.v/\Qm (z.w.seen 0) z.w.th=z.w.tog)->ansOkB (z.w.seen 1/4294967296%4294967296) (z.w.seen 1%4294967296)=true\/z.w.seen 1=0))
def Qrb:MCon where
 σ:=WlS
 χ:=WkS
 pre s:=s.s.w.th<4/\s.s.good/\Qbe s.z
 args s:=[.c (.p 0 0),.c (.p 1 0),.c (.p 2 0)]
 mem s:=wkM 3 4 s.s s.z
 ok s x:=x.w.sim (Qd s.z).1.w/\x.good
 val s x:=sv (.bool (Qd s.z).2)
 mem' s x:=wkM 3 4 x ⟨x.w,(Qd s.z).1.m,(Qd s.z).1.s⟩
 k:=3
 len:=5
 det:=none
 find:=Qct
def Ql (d:Int):MCon where
 σ:=WlS
 χ:=WkS
 pre s:=s.s.w.does=d/\s.s.w.th<4/\s.s.good/\Qbe s.z
 args s:=[.c (.p 0 0),.c (.p 1 0),.c (.p 2 0)]
 mem s:=wkM 3 4 s.s s.z
 ok s x:=x.w.sim (Qd s.z).1.w/\x.good
 val s x:=sv (.bool (Qd s.z).2)
 mem' s x:=wkM 3 4 x ⟨x.w,(Qd s.z).1.m,(Qd s.z).1.s⟩
 k:=3
 len:=5
 det:=none
 find:=Qct
theorem Qa8 (z:WSt):(XG z).w.asks=z.w.asks/\(XG z).w.deeds=z.w.deeds:=by
 unfold XG Wk.next
 repeat' split
 all_goals exact⟨rfl,rfl⟩
theorem Qfp (z:WSt):(sayP z).w.asks=z.w.asks/\(sayP z).w.deeds=z.w.deeds:=by
 unfold sayP
 repeat' split
 all_goals exact⟨rfl,rfl⟩
theorem sayP_s (z:WSt):(sayP z).s=z.s:=by
 unfold sayP
 repeat' split
 all_goals rfl
theorem QjS (z:WSt):(Qar z).m=z.m/\(Qar z).s=z.s:=by
 unfold Qar
 repeat' split
 all_goals exact⟨rfl,rfl⟩
theorem Qew (z:WSt):(QaP z).1.w.asks=z.w.asks/\(QaP z).1.w.deeds=z.w.deeds:=by
 unfold QaP
 repeat' split
 all_goals exact⟨rfl,rfl⟩
theorem QbO (z:WSt):(QW z).1.w.asks=z.w.asks/\(QW z).1.w.deeds=z.w.deeds:=by
 unfold QW
 repeat' split
 all_goals exact⟨rfl,rfl⟩
theorem Q2 {w w':Wk}{ma ca:Nat}{na:Bool}{za:Nat->Nat->Int}{md cd:Nat}{nd:Bool}{zd:Nat->Nat->Int}(h:(⟨w,ma,ca,na,za,md,cd,nd,zd⟩:WkS).good) (e:w'.asks=w.asks/\w'.deeds=w.deeds):(⟨w',ma,ca,na,za,md,cd,nd,zd⟩:WkS).good:=by
 unfold WkS.good at *
 dsimp only at *
 rw[e.1,e.2];exact h
theorem QhC:(Con.mem (Ql 0)).holds Tryz.prog 13:=by
 intro w0 S
 refine Qb (Γ:=[]) (fun _=>noW) Tryz.func13 rfl (by kernel_rfl) Qg Qc (fun w S' _ _=>.nil _ _ _) (Ql 0) (fun _=>[]) (fun x0 h=>by cases h) (fun s ρ w _ _ _=>Qh w _) [] (rpW 3) 400 ?_
 rintro⟨⟨⟨th,does,k,key,x,tog,said,i,v,r,asks,deeds,seen,oc,ov,whn⟩,ma,ca,na,za,md,cd,nd,zd⟩,m,t⟩ W ⟨h0,h1,h2,h3⟩ -
 refine⟨rfl,?_⟩
 dsimp only at h0 h1
 subst h0
 refine Qi (q:=endN (Ql (0:Int)) [] (rpW 3) (WlS.mk (WkS.mk (Wk.mk th (0:Int) k key x tog said i v r asks deeds seen oc ov whn) ma ca na za md cd nd zd) m t) (SV.o (aB false)) [SB.cells [sI ↑th,sI 0,sI k,sI key,sI x,sI tog,sB said,sI i,sU v,nU 32 r,sS 3 0 5 (List.length asks) ca na,sS 4 0 6 (List.length deeds) cd nd,nU 3 seen,sI oc,sI ov,sI whn] 42,ramB m,stoB (WlS.t (WlS.mk (WkS.mk (Wk.mk th (0:Int) k key x tog said i v r asks deeds seen oc ov whn) ma ca na za md cd nd zd) m t)),wkA ma ca za,wkD md cd zd]) (by kernel_rfl) ?_
 exact Qj rfl ⟨⟨th,0,k,key,x,tog,said,i,v,r,asks,deeds,seen,oc,ov,whn⟩,ma,ca,na,za,md,cd,nd,zd⟩ ⟨⟨rfl,rfl⟩,h2⟩ rfl rfl rfl
theorem Ql7:(Con.mem (Ql 1)).holds Tryz.prog 13:=by
 intro w0 S
 refine Qb (Γ:=[(35,.mem (QbY 1))]) (fun _=>noW) Tryz.func13 rfl (by kernel_rfl) Qg Qc (fun w S' _ _=>.cons (Qor w S') (.nil _ _ _)) (Ql 1) (fun _=>[]) (fun x0 h=>by cases h) (fun s ρ w _ _ _=>Qh w _) [] (rpW 3) 400 ?_
 rintro⟨⟨⟨th,does,k,key,x,tog,said,i,v,r,asks,deeds,seen,oc,ov,whn⟩,ma,ca,na,za,md,cd,nd,zd⟩,m,t⟩ W ⟨h0,h1,h2,h3⟩ -
 refine⟨rfl,?_⟩
 dsimp only at h0 h1
 subst h0
 refine Qi (q:=∃(s:WlS),[aP 0 0,aP 1 0]=[aP 0 0,aP 1 0]/\[SB.cells [sI ↑th,sI 1,sI k,sI key,sI x,sI tog,sB said,sI i,sU v,nU 32 r,sS 3 0 5 (List.length asks) ca na,sS 4 0 6 (List.length deeds) cd nd,nU 3 seen,sI oc,sI ov,sI whn] 42,ramB m,wkA ma ca za,wkD md cd zd]=[wkC 3 4 (WkS.w (WlS.s s)) (WlS.s s).3 (WlS.s s).4 (WlS.s s).7 (WlS.s s).8,ramB s.2,wkA (WlS.s s).2 (WlS.s s).3 (WlS.s s).5,wkD (WlS.s s).6 (WlS.s s).7 (WlS.s s).9]/\((WkS.w (WlS.s s)).2=(1:Int)/\(WkS.w (WlS.s s)).1<4/\opOk (WkS.w (WlS.s s)).3 (WkS.w (WlS.s s)).4 (WkS.w (WlS.s s)).5=true/\((WkS.w (WlS.s s)).6=(0:Int)\/(WkS.w (WlS.s s)).6=(1:Int)))/\∀(x_1:Unit),True->endN (Ql (1:Int)) [] (rpW 3) (WlS.mk (WkS.mk (Wk.mk th (1:Int) k key x tog said i v r asks deeds seen oc ov whn) ma ca na za md cd nd zd) m t) (SV.o (aB false)) [wkC 3 4 (WSt.w (sayP (WlS.z s))) (WlS.s s).3 (WlS.s s).4 (WlS.s s).7 (WlS.s s).8,ramB (sayP (WlS.z s)).2,stoB (WlS.t (WlS.mk (WkS.mk (Wk.mk th (1:Int) k key x tog said i v r asks deeds seen oc ov whn) ma ca na za md cd nd zd) m t)),wkA (WlS.s s).2 (WlS.s s).3 (WlS.s s).5,wkD (WlS.s s).6 (WlS.s s).7 (WlS.s s).9]) (by kernel_rfl) ?_
 obtain⟨-,h5,-,-,-,-⟩:=h3
 have h6:=h5 (by show (1:Int)<=3;decide)
 exact⟨⟨⟨⟨th,1,k,key,x,tog,said,i,v,r,asks,deeds,seen,oc,ov,whn⟩,ma,ca,na,za,md,cd,nd,zd⟩,m,t⟩,rfl,rfl,⟨rfl,h1,h6⟩,fun _ _=>Qj rfl ⟨(sayP ⟨⟨th,1,k,key,x,tog,said,i,v,r,asks,deeds,seen,oc,ov,whn⟩,m,t⟩).w,ma,ca,na,za,md,cd,nd,zd⟩ ⟨⟨rfl,rfl⟩,Q2 h2 (Qfp _)⟩ rfl rfl rfl⟩
theorem Ql6:(Con.mem (Ql 2)).holds Tryz.prog 13:=by
 intro w0 S
 refine Qb (Γ:=[(35,.mem (QbY 2))]) (fun _=>noW) Tryz.func13 rfl (by kernel_rfl) Qg Qc (fun w S' _ _=>.cons (Qoq w S') (.nil _ _ _)) (Ql 2) (fun _=>[]) (fun x0 h=>by cases h) (fun s ρ w _ _ _=>Qh w _) [] (rpW 3) 400 ?_
 rintro⟨⟨⟨th,does,k,key,x,tog,said,i,v,r,asks,deeds,seen,oc,ov,whn⟩,ma,ca,na,za,md,cd,nd,zd⟩,m,t⟩ W ⟨h0,h1,h2,h3⟩ -
 refine⟨rfl,?_⟩
 dsimp only at h0 h1
 subst h0
 refine Qi (q:=∃(s:WlS),[aP 0 0,aP 1 0]=[aP 0 0,aP 1 0]/\[SB.cells [sI ↑th,sI 2,sI k,sI key,sI x,sI tog,sB said,sI i,sU v,nU 32 r,sS 3 0 5 (List.length asks) ca na,sS 4 0 6 (List.length deeds) cd nd,nU 3 seen,sI oc,sI ov,sI whn] 42,ramB m,wkA ma ca za,wkD md cd zd]=[wkC 3 4 (WkS.w (WlS.s s)) (WlS.s s).3 (WlS.s s).4 (WlS.s s).7 (WlS.s s).8,ramB s.2,wkA (WlS.s s).2 (WlS.s s).3 (WlS.s s).5,wkD (WlS.s s).6 (WlS.s s).7 (WlS.s s).9]/\((WkS.w (WlS.s s)).2=(2:Int)/\(WkS.w (WlS.s s)).1<4/\opOk (WkS.w (WlS.s s)).3 (WkS.w (WlS.s s)).4 (WkS.w (WlS.s s)).5=true/\((WkS.w (WlS.s s)).6=(0:Int)\/(WkS.w (WlS.s s)).6=(1:Int)))/\∀(x_1:Unit),True->endN (Ql (2:Int)) [] (rpW 3) (WlS.mk (WkS.mk (Wk.mk th (2:Int) k key x tog said i v r asks deeds seen oc ov whn) ma ca na za md cd nd zd) m t) (SV.o (aB false)) [wkC 3 4 (WSt.w (sayP (WlS.z s))) (WlS.s s).3 (WlS.s s).4 (WlS.s s).7 (WlS.s s).8,ramB (sayP (WlS.z s)).2,stoB (WlS.t (WlS.mk (WkS.mk (Wk.mk th (2:Int) k key x tog said i v r asks deeds seen oc ov whn) ma ca na za md cd nd zd) m t)),wkA (WlS.s s).2 (WlS.s s).3 (WlS.s s).5,wkD (WlS.s s).6 (WlS.s s).7 (WlS.s s).9]) (by kernel_rfl) ?_
 obtain⟨-,h5,-,-,-,-⟩:=h3
 have h6:=h5 (by show (2:Int)<=3;decide)
 exact⟨⟨⟨⟨th,2,k,key,x,tog,said,i,v,r,asks,deeds,seen,oc,ov,whn⟩,ma,ca,na,za,md,cd,nd,zd⟩,m,t⟩,rfl,rfl,⟨rfl,h1,h6⟩,fun _ _=>Qj rfl ⟨(sayP ⟨⟨th,2,k,key,x,tog,said,i,v,r,asks,deeds,seen,oc,ov,whn⟩,m,t⟩).w,ma,ca,na,za,md,cd,nd,zd⟩ ⟨⟨rfl,rfl⟩,Q2 h2 (Qfp _)⟩ rfl rfl rfl⟩
theorem Ql5:(Con.mem (Ql 3)).holds Tryz.prog 13:=by
 intro w0 S
 refine Qb (Γ:=[(35,.mem (QbY 3))]) (fun _=>noW) Tryz.func13 rfl (by kernel_rfl) Qg Qc (fun w S' _ _=>.cons (Qop w S') (.nil _ _ _)) (Ql 3) (fun _=>[]) (fun x0 h=>by cases h) (fun s ρ w _ _ _=>Qh w _) [] (rpW 3) 400 ?_
 rintro⟨⟨⟨th,does,k,key,x,tog,said,i,v,r,asks,deeds,seen,oc,ov,whn⟩,ma,ca,na,za,md,cd,nd,zd⟩,m,t⟩ W ⟨h0,h1,h2,h3⟩ -
 refine⟨rfl,?_⟩
 dsimp only at h0 h1
 subst h0
 refine Qi (q:=∃(s:WlS),[aP 0 0,aP 1 0]=[aP 0 0,aP 1 0]/\[SB.cells [sI ↑th,sI 3,sI k,sI key,sI x,sI tog,sB said,sI i,sU v,nU 32 r,sS 3 0 5 (List.length asks) ca na,sS 4 0 6 (List.length deeds) cd nd,nU 3 seen,sI oc,sI ov,sI whn] 42,ramB m,wkA ma ca za,wkD md cd zd]=[wkC 3 4 (WkS.w (WlS.s s)) (WlS.s s).3 (WlS.s s).4 (WlS.s s).7 (WlS.s s).8,ramB s.2,wkA (WlS.s s).2 (WlS.s s).3 (WlS.s s).5,wkD (WlS.s s).6 (WlS.s s).7 (WlS.s s).9]/\((WkS.w (WlS.s s)).2=(3:Int)/\(WkS.w (WlS.s s)).1<4/\opOk (WkS.w (WlS.s s)).3 (WkS.w (WlS.s s)).4 (WkS.w (WlS.s s)).5=true/\((WkS.w (WlS.s s)).6=(0:Int)\/(WkS.w (WlS.s s)).6=(1:Int)))/\∀(x_1:Unit),True->endN (Ql (3:Int)) [] (rpW 3) (WlS.mk (WkS.mk (Wk.mk th (3:Int) k key x tog said i v r asks deeds seen oc ov whn) ma ca na za md cd nd zd) m t) (SV.o (aB false)) [wkC 3 4 (WSt.w (sayP (WlS.z s))) (WlS.s s).3 (WlS.s s).4 (WlS.s s).7 (WlS.s s).8,ramB (sayP (WlS.z s)).2,stoB (WlS.t (WlS.mk (WkS.mk (Wk.mk th (3:Int) k key x tog said i v r asks deeds seen oc ov whn) ma ca na za md cd nd zd) m t)),wkA (WlS.s s).2 (WlS.s s).3 (WlS.s s).5,wkD (WlS.s s).6 (WlS.s s).7 (WlS.s s).9]) (by kernel_rfl) ?_
 obtain⟨-,h5,-,-,-,-⟩:=h3
 have h6:=h5 (by show (3:Int)<=3;decide)
 exact⟨⟨⟨⟨th,3,k,key,x,tog,said,i,v,r,asks,deeds,seen,oc,ov,whn⟩,ma,ca,na,za,md,cd,nd,zd⟩,m,t⟩,rfl,rfl,⟨rfl,h1,h6⟩,fun _ _=>Qj rfl ⟨(sayP ⟨⟨th,3,k,key,x,tog,said,i,v,r,asks,deeds,seen,oc,ov,whn⟩,m,t⟩).w,ma,ca,na,za,md,cd,nd,zd⟩ ⟨⟨rfl,rfl⟩,Q2 h2 (Qfp _)⟩ rfl rfl (l5 rfl rfl (congrArg stoB (sayP_s ⟨⟨th,3,k,key,x,tog,said,i,v,r,asks,deeds,seen,oc,ov,whn⟩,m,t⟩).symm) rfl rfl)⟩
theorem Ql4:(Con.mem (Ql 4)).holds Tryz.prog 13:=by
 intro w0 S
 refine Qb (Γ:=[(36,.mem (XD 4))]) (fun _=>noW) Tryz.func13 rfl (by kernel_rfl) Qg Qc (fun w S' _ _=>.cons (Qng w S') (.nil _ _ _)) (Ql 4) (fun _=>[]) (fun x0 h=>by cases h) (fun s ρ w _ _ _=>Qh w _) [] (rpW 3) 400 ?_
 rintro⟨⟨⟨th,does,k,key,x,tog,said,i,v,r,asks,deeds,seen,oc,ov,whn⟩,ma,ca,na,za,md,cd,nd,zd⟩,m,t⟩ W ⟨h0,h1,h2,h3⟩ -
 refine⟨rfl,?_⟩
 dsimp only at h0 h1
 subst h0
 refine Qi (q:=∃(s:WlS),[aP 0 0,aP 1 0,aP 2 0]=[aP 0 0,aP 1 0,aP 2 0]/\[SB.cells [sI ↑th,sI 4,sI k,sI key,sI x,sI tog,sB said,sI i,sU v,nU 32 r,sS 3 0 5 (List.length asks) ca na,sS 4 0 6 (List.length deeds) cd nd,nU 3 seen,sI oc,sI ov,sI whn] 42,ramB m,stoB (WlS.t (WlS.mk (WkS.mk (Wk.mk th (4:Int) k key x tog said i v r asks deeds seen oc ov whn) ma ca na za md cd nd zd) m t)),wkA ma ca za,wkD md cd zd]=[wkC 3 4 (WkS.w (WlS.s s)) (WlS.s s).3 (WlS.s s).4 (WlS.s s).7 (WlS.s s).8,ramB s.2,stoB (WlS.t s),wkA (WlS.s s).2 (WlS.s s).3 (WlS.s s).5,wkD (WlS.s s).6 (WlS.s s).7 (WlS.s s).9]/\((WkS.w (WlS.s s)).2=(4:Int)/\(WkS.w (WlS.s s)).1<4/\((List.length (WkS.w (WlS.s s)).11<=(WlS.s s).2/\(WlS.s s).2<=(WlS.s s).3)/\IsA (WlS.s s).5 (WkS.w (WlS.s s)).11/\(List.length (WkS.w (WlS.s s)).12<=(WlS.s s).6/\(WlS.s s).6<=(WlS.s s).7)/\IsD (WlS.s s).9 (WkS.w (WlS.s s)).12)/\(0:Int)<=(WkS.w (WlS.s s)).8/\(WkS.w (WlS.s s)).8<(32:Int)/\((0:Int)<=(WkS.w (WlS.s s)).9/\(WkS.w (WlS.s s)).9<(18446744073709551616:Int))/\((WkS.w (WlS.s s)).2=(6:Int)->(WkS.w (WlS.s s)).8<(4:Int)/\((0:Int)<=(WkS.w (WlS.s s)).10 26/\(WkS.w (WlS.s s)).10 26<(16:Int))/\((0:Int)<=s.2 (3+2*Int.toNat (WkS.w (WlS.s s)).8)/\s.2 (3+2*Int.toNat (WkS.w (WlS.s s)).8)<=(2:Int))/\Wk.allOK (WlS.s s).1)/\((WkS.w (WlS.s s)).2=(7:Int)->(WkS.w (WlS.s s)).8<(4:Int)/\((0:Int)<=s.2 (2+2*Int.toNat (WkS.w (WlS.s s)).8)/\s.2 (2+2*Int.toNat (WkS.w (WlS.s s)).8)<(18446744073709551616:Int))/\(∃(l:List Ask),∃(a:Ask),(WkS.w (WlS.s s)).11=List.append l [a])/\Wk.allOK (Wk.mk (WkS.w (WlS.s s)).1 (WkS.w (WlS.s s)).2 (WkS.w (WlS.s s)).3 (WkS.w (WlS.s s)).4 (WkS.w (WlS.s s)).5 (WkS.w (WlS.s s)).6 (WkS.w (WlS.s s)).7 (WkS.w (WlS.s s)).8 (WkS.w (WlS.s s)).9 (WkS.w (WlS.s s)).10 (Xl (WkS.w (WlS.s s)).11 (s.2 (2+2*Int.toNat (WkS.w (WlS.s s)).8)/(281474976710656:Int)%(65536:Int)) (s.2 (2+2*Int.toNat (WkS.w (WlS.s s)).8)/(4294967296:Int)%(65536:Int)) (s.2 (2+2*Int.toNat (WkS.w (WlS.s s)).8)%(4294967296:Int))) (WkS.w (WlS.s s)).12 (WkS.w (WlS.s s)).13 (WkS.w (WlS.s s)).14 (WkS.w (WlS.s s)).15 (WkS.w (WlS.s s)).16)))/\∀(x_1:WkS),Wk.sim x_1.1 (Qar (WlS.z s)).1/\(List.length (WkS.w x_1).11<=x_1.2/\x_1.2<=x_1.3)/\IsA x_1.5 (WkS.w x_1).11/\(List.length (WkS.w x_1).12<=x_1.6/\x_1.6<=x_1.7)/\IsD x_1.9 (WkS.w x_1).12->endN (Ql (4:Int)) [] (rpW 3) (WlS.mk (WkS.mk (Wk.mk th (4:Int) k key x tog said i v r asks deeds seen oc ov whn) ma ca na za md cd nd zd) m t) (SV.o (aB false)) [wkC 5 6 (WkS.w x_1) x_1.3 x_1.4 x_1.7 x_1.8,ramB s.2,stoB (WlS.t s),SB.gone,SB.gone,wkA x_1.2 x_1.3 x_1.5,wkD x_1.6 x_1.7 x_1.9]) (by kernel_rfl) ?_
 obtain⟨-,-,h5,-⟩:=h3
 refine⟨⟨⟨⟨th,4,k,key,x,tog,said,i,v,r,asks,deeds,seen,oc,ov,whn⟩,ma,ca,na,za,md,cd,nd,zd⟩,m,t⟩,rfl,rfl,⟨rfl,h1,h2,h5 ⟨by show (4:Int)<=4;decide,by show (4:Int)<=7;decide⟩⟩,?_⟩
 rintro⟨w2,ma2,ca2,na2,za2,md2,cd2,nd2,zd2⟩ ⟨hs,hg2⟩
 exact Qj rfl ⟨w2,ma2,ca2,na2,za2,md2,cd2,nd2,zd2⟩ ⟨hs,hg2⟩ rfl rfl rfl
theorem Ql3:(Con.mem (Ql 5)).holds Tryz.prog 13:=by
 intro w0 S
 refine Qb (Γ:=[(36,.mem (XD 5))]) (fun _=>noW) Tryz.func13 rfl (by kernel_rfl) Qg Qc (fun w S' _ _=>.cons (Qnf w S') (.nil _ _ _)) (Ql 5) (fun _=>[]) (fun x0 h=>by cases h) (fun s ρ w _ _ _=>Qh w _) [] (rpW 3) 400 ?_
 rintro⟨⟨⟨th,does,k,key,x,tog,said,i,v,r,asks,deeds,seen,oc,ov,whn⟩,ma,ca,na,za,md,cd,nd,zd⟩,m,t⟩ W ⟨h0,h1,h2,h3⟩ -
 refine⟨rfl,?_⟩
 dsimp only at h0 h1
 subst h0
 refine Qi (q:=∃(s:WlS),[aP 0 0,aP 1 0,aP 2 0]=[aP 0 0,aP 1 0,aP 2 0]/\[SB.cells [sI ↑th,sI 5,sI k,sI key,sI x,sI tog,sB said,sI i,sU v,nU 32 r,sS 3 0 5 (List.length asks) ca na,sS 4 0 6 (List.length deeds) cd nd,nU 3 seen,sI oc,sI ov,sI whn] 42,ramB m,stoB (WlS.t (WlS.mk (WkS.mk (Wk.mk th (5:Int) k key x tog said i v r asks deeds seen oc ov whn) ma ca na za md cd nd zd) m t)),wkA ma ca za,wkD md cd zd]=[wkC 3 4 (WkS.w (WlS.s s)) (WlS.s s).3 (WlS.s s).4 (WlS.s s).7 (WlS.s s).8,ramB s.2,stoB (WlS.t s),wkA (WlS.s s).2 (WlS.s s).3 (WlS.s s).5,wkD (WlS.s s).6 (WlS.s s).7 (WlS.s s).9]/\((WkS.w (WlS.s s)).2=(5:Int)/\(WkS.w (WlS.s s)).1<4/\((List.length (WkS.w (WlS.s s)).11<=(WlS.s s).2/\(WlS.s s).2<=(WlS.s s).3)/\IsA (WlS.s s).5 (WkS.w (WlS.s s)).11/\(List.length (WkS.w (WlS.s s)).12<=(WlS.s s).6/\(WlS.s s).6<=(WlS.s s).7)/\IsD (WlS.s s).9 (WkS.w (WlS.s s)).12)/\(0:Int)<=(WkS.w (WlS.s s)).8/\(WkS.w (WlS.s s)).8<(32:Int)/\((0:Int)<=(WkS.w (WlS.s s)).9/\(WkS.w (WlS.s s)).9<(18446744073709551616:Int))/\((WkS.w (WlS.s s)).2=(6:Int)->(WkS.w (WlS.s s)).8<(4:Int)/\((0:Int)<=(WkS.w (WlS.s s)).10 26/\(WkS.w (WlS.s s)).10 26<(16:Int))/\((0:Int)<=s.2 (3+2*Int.toNat (WkS.w (WlS.s s)).8)/\s.2 (3+2*Int.toNat (WkS.w (WlS.s s)).8)<=(2:Int))/\Wk.allOK (WlS.s s).1)/\((WkS.w (WlS.s s)).2=(7:Int)->(WkS.w (WlS.s s)).8<(4:Int)/\((0:Int)<=s.2 (2+2*Int.toNat (WkS.w (WlS.s s)).8)/\s.2 (2+2*Int.toNat (WkS.w (WlS.s s)).8)<(18446744073709551616:Int))/\(∃(l:List Ask),∃(a:Ask),(WkS.w (WlS.s s)).11=List.append l [a])/\Wk.allOK (Wk.mk (WkS.w (WlS.s s)).1 (WkS.w (WlS.s s)).2 (WkS.w (WlS.s s)).3 (WkS.w (WlS.s s)).4 (WkS.w (WlS.s s)).5 (WkS.w (WlS.s s)).6 (WkS.w (WlS.s s)).7 (WkS.w (WlS.s s)).8 (WkS.w (WlS.s s)).9 (WkS.w (WlS.s s)).10 (Xl (WkS.w (WlS.s s)).11 (s.2 (2+2*Int.toNat (WkS.w (WlS.s s)).8)/(281474976710656:Int)%(65536:Int)) (s.2 (2+2*Int.toNat (WkS.w (WlS.s s)).8)/(4294967296:Int)%(65536:Int)) (s.2 (2+2*Int.toNat (WkS.w (WlS.s s)).8)%(4294967296:Int))) (WkS.w (WlS.s s)).12 (WkS.w (WlS.s s)).13 (WkS.w (WlS.s s)).14 (WkS.w (WlS.s s)).15 (WkS.w (WlS.s s)).16)))/\∀(x_1:WkS),Wk.sim x_1.1 (Qar (WlS.z s)).1/\(List.length (WkS.w x_1).11<=x_1.2/\x_1.2<=x_1.3)/\IsA x_1.5 (WkS.w x_1).11/\(List.length (WkS.w x_1).12<=x_1.6/\x_1.6<=x_1.7)/\IsD x_1.9 (WkS.w x_1).12->endN (Ql (5:Int)) [] (rpW 3) (WlS.mk (WkS.mk (Wk.mk th (5:Int) k key x tog said i v r asks deeds seen oc ov whn) ma ca na za md cd nd zd) m t) (SV.o (aB false)) [wkC 5 6 (WkS.w x_1) x_1.3 x_1.4 x_1.7 x_1.8,ramB s.2,stoB (WlS.t s),SB.gone,SB.gone,wkA x_1.2 x_1.3 x_1.5,wkD x_1.6 x_1.7 x_1.9]) (by kernel_rfl) ?_
 obtain⟨-,-,h5,-⟩:=h3
 refine⟨⟨⟨⟨th,5,k,key,x,tog,said,i,v,r,asks,deeds,seen,oc,ov,whn⟩,ma,ca,na,za,md,cd,nd,zd⟩,m,t⟩,rfl,rfl,⟨rfl,h1,h2,h5 ⟨by show (4:Int)<=5;decide,by show (5:Int)<=7;decide⟩⟩,?_⟩
 rintro⟨w2,ma2,ca2,na2,za2,md2,cd2,nd2,zd2⟩ ⟨hs,hg2⟩
 exact Qj rfl ⟨w2,ma2,ca2,na2,za2,md2,cd2,nd2,zd2⟩ ⟨hs,hg2⟩ rfl rfl rfl
theorem Ql2:(Con.mem (Ql 6)).holds Tryz.prog 13:=by
 intro w0 S
 refine Qb (Γ:=[(36,.mem (XD 6))]) (fun _=>noW) Tryz.func13 rfl (by kernel_rfl) Qg Qc (fun w S' _ _=>.cons (Qne w S') (.nil _ _ _)) (Ql 6) (fun _=>[]) (fun x0 h=>by cases h) (fun s ρ w _ _ _=>Qh w _) [] (rpW 3) 400 ?_
 rintro⟨⟨⟨th,does,k,key,x,tog,said,i,v,r,asks,deeds,seen,oc,ov,whn⟩,ma,ca,na,za,md,cd,nd,zd⟩,m,t⟩ W ⟨h0,h1,h2,h3⟩ -
 refine⟨rfl,?_⟩
 dsimp only at h0 h1
 subst h0
 refine Qi (q:=∃(s:WlS),[aP 0 0,aP 1 0,aP 2 0]=[aP 0 0,aP 1 0,aP 2 0]/\[SB.cells [sI ↑th,sI 6,sI k,sI key,sI x,sI tog,sB said,sI i,sU v,nU 32 r,sS 3 0 5 (List.length asks) ca na,sS 4 0 6 (List.length deeds) cd nd,nU 3 seen,sI oc,sI ov,sI whn] 42,ramB m,stoB (WlS.t (WlS.mk (WkS.mk (Wk.mk th (6:Int) k key x tog said i v r asks deeds seen oc ov whn) ma ca na za md cd nd zd) m t)),wkA ma ca za,wkD md cd zd]=[wkC 3 4 (WkS.w (WlS.s s)) (WlS.s s).3 (WlS.s s).4 (WlS.s s).7 (WlS.s s).8,ramB s.2,stoB (WlS.t s),wkA (WlS.s s).2 (WlS.s s).3 (WlS.s s).5,wkD (WlS.s s).6 (WlS.s s).7 (WlS.s s).9]/\((WkS.w (WlS.s s)).2=(6:Int)/\(WkS.w (WlS.s s)).1<4/\((List.length (WkS.w (WlS.s s)).11<=(WlS.s s).2/\(WlS.s s).2<=(WlS.s s).3)/\IsA (WlS.s s).5 (WkS.w (WlS.s s)).11/\(List.length (WkS.w (WlS.s s)).12<=(WlS.s s).6/\(WlS.s s).6<=(WlS.s s).7)/\IsD (WlS.s s).9 (WkS.w (WlS.s s)).12)/\(0:Int)<=(WkS.w (WlS.s s)).8/\(WkS.w (WlS.s s)).8<(32:Int)/\((0:Int)<=(WkS.w (WlS.s s)).9/\(WkS.w (WlS.s s)).9<(18446744073709551616:Int))/\((WkS.w (WlS.s s)).2=(6:Int)->(WkS.w (WlS.s s)).8<(4:Int)/\((0:Int)<=(WkS.w (WlS.s s)).10 26/\(WkS.w (WlS.s s)).10 26<(16:Int))/\((0:Int)<=s.2 (3+2*Int.toNat (WkS.w (WlS.s s)).8)/\s.2 (3+2*Int.toNat (WkS.w (WlS.s s)).8)<=(2:Int))/\Wk.allOK (WlS.s s).1)/\((WkS.w (WlS.s s)).2=(7:Int)->(WkS.w (WlS.s s)).8<(4:Int)/\((0:Int)<=s.2 (2+2*Int.toNat (WkS.w (WlS.s s)).8)/\s.2 (2+2*Int.toNat (WkS.w (WlS.s s)).8)<(18446744073709551616:Int))/\(∃(l:List Ask),∃(a:Ask),(WkS.w (WlS.s s)).11=List.append l [a])/\Wk.allOK (Wk.mk (WkS.w (WlS.s s)).1 (WkS.w (WlS.s s)).2 (WkS.w (WlS.s s)).3 (WkS.w (WlS.s s)).4 (WkS.w (WlS.s s)).5 (WkS.w (WlS.s s)).6 (WkS.w (WlS.s s)).7 (WkS.w (WlS.s s)).8 (WkS.w (WlS.s s)).9 (WkS.w (WlS.s s)).10 (Xl (WkS.w (WlS.s s)).11 (s.2 (2+2*Int.toNat (WkS.w (WlS.s s)).8)/(281474976710656:Int)%(65536:Int)) (s.2 (2+2*Int.toNat (WkS.w (WlS.s s)).8)/(4294967296:Int)%(65536:Int)) (s.2 (2+2*Int.toNat (WkS.w (WlS.s s)).8)%(4294967296:Int))) (WkS.w (WlS.s s)).12 (WkS.w (WlS.s s)).13 (WkS.w (WlS.s s)).14 (WkS.w (WlS.s s)).15 (WkS.w (WlS.s s)).16)))/\∀(x_1:WkS),Wk.sim x_1.1 (Qar (WlS.z s)).1/\(List.length (WkS.w x_1).11<=x_1.2/\x_1.2<=x_1.3)/\IsA x_1.5 (WkS.w x_1).11/\(List.length (WkS.w x_1).12<=x_1.6/\x_1.6<=x_1.7)/\IsD x_1.9 (WkS.w x_1).12->endN (Ql (6:Int)) [] (rpW 3) (WlS.mk (WkS.mk (Wk.mk th (6:Int) k key x tog said i v r asks deeds seen oc ov whn) ma ca na za md cd nd zd) m t) (SV.o (aB false)) [wkC 5 6 (WkS.w x_1) x_1.3 x_1.4 x_1.7 x_1.8,ramB s.2,stoB (WlS.t s),SB.gone,SB.gone,wkA x_1.2 x_1.3 x_1.5,wkD x_1.6 x_1.7 x_1.9]) (by kernel_rfl) ?_
 obtain⟨-,-,h5,-⟩:=h3
 refine⟨⟨⟨⟨th,6,k,key,x,tog,said,i,v,r,asks,deeds,seen,oc,ov,whn⟩,ma,ca,na,za,md,cd,nd,zd⟩,m,t⟩,rfl,rfl,⟨rfl,h1,h2,h5 ⟨by show (4:Int)<=6;decide,by show (6:Int)<=7;decide⟩⟩,?_⟩
 rintro⟨w2,ma2,ca2,na2,za2,md2,cd2,nd2,zd2⟩ ⟨hs,hg2⟩
 exact Qj rfl ⟨w2,ma2,ca2,na2,za2,md2,cd2,nd2,zd2⟩ ⟨hs,hg2⟩ rfl rfl (l5 rfl (congrArg ramB (QjS ⟨⟨th,6,k,key,x,tog,said,i,v,r,asks,deeds,seen,oc,ov,whn⟩,m,t⟩).1.symm) (congrArg stoB (QjS ⟨⟨th,6,k,key,x,tog,said,i,v,r,asks,deeds,seen,oc,ov,whn⟩,m,t⟩).2.symm) rfl rfl)
theorem Ql1:(Con.mem (Ql 7)).holds Tryz.prog 13:=by
 intro w0 S
 refine Qb (Γ:=[(36,.mem (XD 7))]) (fun _=>noW) Tryz.func13 rfl (by kernel_rfl) Qg Qc (fun w S' _ _=>.cons (Qnd w S') (.nil _ _ _)) (Ql 7) (fun _=>[]) (fun x0 h=>by cases h) (fun s ρ w _ _ _=>Qh w _) [] (rpW 3) 400 ?_
 rintro⟨⟨⟨th,does,k,key,x,tog,said,i,v,r,asks,deeds,seen,oc,ov,whn⟩,ma,ca,na,za,md,cd,nd,zd⟩,m,t⟩ W ⟨h0,h1,h2,h3⟩ -
 refine⟨rfl,?_⟩
 dsimp only at h0 h1
 subst h0
 refine Qi (q:=∃(s:WlS),[aP 0 0,aP 1 0,aP 2 0]=[aP 0 0,aP 1 0,aP 2 0]/\[SB.cells [sI ↑th,sI 7,sI k,sI key,sI x,sI tog,sB said,sI i,sU v,nU 32 r,sS 3 0 5 (List.length asks) ca na,sS 4 0 6 (List.length deeds) cd nd,nU 3 seen,sI oc,sI ov,sI whn] 42,ramB m,stoB (WlS.t (WlS.mk (WkS.mk (Wk.mk th (7:Int) k key x tog said i v r asks deeds seen oc ov whn) ma ca na za md cd nd zd) m t)),wkA ma ca za,wkD md cd zd]=[wkC 3 4 (WkS.w (WlS.s s)) (WlS.s s).3 (WlS.s s).4 (WlS.s s).7 (WlS.s s).8,ramB s.2,stoB (WlS.t s),wkA (WlS.s s).2 (WlS.s s).3 (WlS.s s).5,wkD (WlS.s s).6 (WlS.s s).7 (WlS.s s).9]/\((WkS.w (WlS.s s)).2=(7:Int)/\(WkS.w (WlS.s s)).1<4/\((List.length (WkS.w (WlS.s s)).11<=(WlS.s s).2/\(WlS.s s).2<=(WlS.s s).3)/\IsA (WlS.s s).5 (WkS.w (WlS.s s)).11/\(List.length (WkS.w (WlS.s s)).12<=(WlS.s s).6/\(WlS.s s).6<=(WlS.s s).7)/\IsD (WlS.s s).9 (WkS.w (WlS.s s)).12)/\(0:Int)<=(WkS.w (WlS.s s)).8/\(WkS.w (WlS.s s)).8<(32:Int)/\((0:Int)<=(WkS.w (WlS.s s)).9/\(WkS.w (WlS.s s)).9<(18446744073709551616:Int))/\((WkS.w (WlS.s s)).2=(6:Int)->(WkS.w (WlS.s s)).8<(4:Int)/\((0:Int)<=(WkS.w (WlS.s s)).10 26/\(WkS.w (WlS.s s)).10 26<(16:Int))/\((0:Int)<=s.2 (3+2*Int.toNat (WkS.w (WlS.s s)).8)/\s.2 (3+2*Int.toNat (WkS.w (WlS.s s)).8)<=(2:Int))/\Wk.allOK (WlS.s s).1)/\((WkS.w (WlS.s s)).2=(7:Int)->(WkS.w (WlS.s s)).8<(4:Int)/\((0:Int)<=s.2 (2+2*Int.toNat (WkS.w (WlS.s s)).8)/\s.2 (2+2*Int.toNat (WkS.w (WlS.s s)).8)<(18446744073709551616:Int))/\(∃(l:List Ask),∃(a:Ask),(WkS.w (WlS.s s)).11=List.append l [a])/\Wk.allOK (Wk.mk (WkS.w (WlS.s s)).1 (WkS.w (WlS.s s)).2 (WkS.w (WlS.s s)).3 (WkS.w (WlS.s s)).4 (WkS.w (WlS.s s)).5 (WkS.w (WlS.s s)).6 (WkS.w (WlS.s s)).7 (WkS.w (WlS.s s)).8 (WkS.w (WlS.s s)).9 (WkS.w (WlS.s s)).10 (Xl (WkS.w (WlS.s s)).11 (s.2 (2+2*Int.toNat (WkS.w (WlS.s s)).8)/(281474976710656:Int)%(65536:Int)) (s.2 (2+2*Int.toNat (WkS.w (WlS.s s)).8)/(4294967296:Int)%(65536:Int)) (s.2 (2+2*Int.toNat (WkS.w (WlS.s s)).8)%(4294967296:Int))) (WkS.w (WlS.s s)).12 (WkS.w (WlS.s s)).13 (WkS.w (WlS.s s)).14 (WkS.w (WlS.s s)).15 (WkS.w (WlS.s s)).16)))/\∀(x_1:WkS),Wk.sim x_1.1 (Qar (WlS.z s)).1/\(List.length (WkS.w x_1).11<=x_1.2/\x_1.2<=x_1.3)/\IsA x_1.5 (WkS.w x_1).11/\(List.length (WkS.w x_1).12<=x_1.6/\x_1.6<=x_1.7)/\IsD x_1.9 (WkS.w x_1).12->endN (Ql (7:Int)) [] (rpW 3) (WlS.mk (WkS.mk (Wk.mk th (7:Int) k key x tog said i v r asks deeds seen oc ov whn) ma ca na za md cd nd zd) m t) (SV.o (aB false)) [wkC 5 6 (WkS.w x_1) x_1.3 x_1.4 x_1.7 x_1.8,ramB s.2,stoB (WlS.t s),SB.gone,SB.gone,wkA x_1.2 x_1.3 x_1.5,wkD x_1.6 x_1.7 x_1.9]) (by kernel_rfl) ?_
 obtain⟨-,-,h5,-⟩:=h3
 refine⟨⟨⟨⟨th,7,k,key,x,tog,said,i,v,r,asks,deeds,seen,oc,ov,whn⟩,ma,ca,na,za,md,cd,nd,zd⟩,m,t⟩,rfl,rfl,⟨rfl,h1,h2,h5 ⟨by show (4:Int)<=7;decide,by show (7:Int)<=7;decide⟩⟩,?_⟩
 rintro⟨w2,ma2,ca2,na2,za2,md2,cd2,nd2,zd2⟩ ⟨hs,hg2⟩
 exact Qj rfl ⟨w2,ma2,ca2,na2,za2,md2,cd2,nd2,zd2⟩ ⟨hs,hg2⟩ rfl rfl rfl
theorem Ql0:(Con.mem (Ql 8)).holds Tryz.prog 13:=by
 intro w0 S
 refine Qb (Γ:=[(37,.mem (QT 8))]) (fun _=>noW) Tryz.func13 rfl (by kernel_rfl) Qg Qc (fun w S' _ _=>.cons (QmT w S') (.nil _ _ _)) (Ql 8) (fun _=>[]) (fun x0 h=>by cases h) (fun s ρ w _ _ _=>Qh w _) [] (rpW 3) 400 ?_
 rintro⟨⟨⟨th,does,k,key,x,tog,said,i,v,r,asks,deeds,seen,oc,ov,whn⟩,ma,ca,na,za,md,cd,nd,zd⟩,m,t⟩ W ⟨h0,h1,h2,h3⟩ -
 refine⟨rfl,?_⟩
 dsimp only at h0 h1
 subst h0
 refine Qi (q:=∃(s:WlS),[aP 0 0,aP 2 0]=[aP 0 0,aP 2 0]/\[SB.cells [sI ↑th,sI 8,sI k,sI key,sI x,sI tog,sB said,sI i,sU v,nU 32 r,sS 3 0 5 (List.length asks) ca na,sS 4 0 6 (List.length deeds) cd nd,nU 3 seen,sI oc,sI ov,sI whn] 42,stoB (WlS.t (WlS.mk (WkS.mk (Wk.mk th (8:Int) k key x tog said i v r asks deeds seen oc ov whn) ma ca na za md cd nd zd) m t)),wkA ma ca za,wkD md cd zd]=[wkC 3 4 (WkS.w (WlS.s s)) (WlS.s s).3 (WlS.s s).4 (WlS.s s).7 (WlS.s s).8,stoB (WlS.t s),wkA (WlS.s s).2 (WlS.s s).3 (WlS.s s).5,wkD (WlS.s s).6 (WlS.s s).7 (WlS.s s).9]/\((WkS.w (WlS.s s)).2=(8:Int)/\(WkS.w (WlS.s s)).1<4/\((0:Int)<=(WkS.w (WlS.s s)).9/\(WkS.w (WlS.s s)).9<(1000000000:Int))/\((0:Int)<=(WkS.w (WlS.s s)).8/\(WkS.w (WlS.s s)).8<(32:Int)/\((8:Int)=(9:Int)->(WkS.w (WlS.s s)).8<(4:Int)))/\((0:Int)<=(WlS.t s).4/\(WlS.t s).4<(1000000000:Int))/\(0:Int)<=(WlS.t s).5/\(WlS.t s).5<(1000000000:Int))/\∀(x_1:Unit),True->endN (Ql (8:Int)) [] (rpW 3) (WlS.mk (WkS.mk (Wk.mk th (8:Int) k key x tog said i v r asks deeds seen oc ov whn) ma ca na za md cd nd zd) m t) (SV.o (aB false)) [wkC 3 4 (WSt.w (XG (WlS.z s))) (WlS.s s).3 (WlS.s s).4 (WlS.s s).7 (WlS.s s).8,ramB m,stoB (WSt.s (XG (WlS.z s))),wkA (WlS.s s).2 (WlS.s s).3 (WlS.s s).5,wkD (WlS.s s).6 (WlS.s s).7 (WlS.s s).9]) (by kernel_rfl) ?_
 obtain⟨-,-,-,h5,-,-⟩:=h3
 have h6:=h5 ⟨by show (8:Int)<=8;decide,by show (8:Int)<=13;decide⟩
 exact⟨⟨⟨⟨th,8,k,key,x,tog,said,i,v,r,asks,deeds,seen,oc,ov,whn⟩,ma,ca,na,za,md,cd,nd,zd⟩,m,t⟩,rfl,rfl,⟨rfl,h1,h6⟩,fun _ _=>Qj rfl ⟨(XG ⟨⟨th,8,k,key,x,tog,said,i,v,r,asks,deeds,seen,oc,ov,whn⟩,m,t⟩).w,ma,ca,na,za,md,cd,nd,zd⟩ ⟨⟨rfl,rfl⟩,Q2 h2 (Qa8 _)⟩ rfl rfl rfl⟩
theorem QlZ:(Con.mem (Ql 9)).holds Tryz.prog 13:=by
 intro w0 S
 refine Qb (Γ:=[(37,.mem (QT 9))]) (fun _=>noW) Tryz.func13 rfl (by kernel_rfl) Qg Qc (fun w S' _ _=>.cons (QmS w S') (.nil _ _ _)) (Ql 9) (fun _=>[]) (fun x0 h=>by cases h) (fun s ρ w _ _ _=>Qh w _) [] (rpW 3) 400 ?_
 rintro⟨⟨⟨th,does,k,key,x,tog,said,i,v,r,asks,deeds,seen,oc,ov,whn⟩,ma,ca,na,za,md,cd,nd,zd⟩,m,t⟩ W ⟨h0,h1,h2,h3⟩ -
 refine⟨rfl,?_⟩
 dsimp only at h0 h1
 subst h0
 refine Qi (q:=∃(s:WlS),[aP 0 0,aP 2 0]=[aP 0 0,aP 2 0]/\[SB.cells [sI ↑th,sI 9,sI k,sI key,sI x,sI tog,sB said,sI i,sU v,nU 32 r,sS 3 0 5 (List.length asks) ca na,sS 4 0 6 (List.length deeds) cd nd,nU 3 seen,sI oc,sI ov,sI whn] 42,stoB (WlS.t (WlS.mk (WkS.mk (Wk.mk th (9:Int) k key x tog said i v r asks deeds seen oc ov whn) ma ca na za md cd nd zd) m t)),wkA ma ca za,wkD md cd zd]=[wkC 3 4 (WkS.w (WlS.s s)) (WlS.s s).3 (WlS.s s).4 (WlS.s s).7 (WlS.s s).8,stoB (WlS.t s),wkA (WlS.s s).2 (WlS.s s).3 (WlS.s s).5,wkD (WlS.s s).6 (WlS.s s).7 (WlS.s s).9]/\((WkS.w (WlS.s s)).2=(9:Int)/\(WkS.w (WlS.s s)).1<4/\((0:Int)<=(WkS.w (WlS.s s)).9/\(WkS.w (WlS.s s)).9<(1000000000:Int))/\((0:Int)<=(WkS.w (WlS.s s)).8/\(WkS.w (WlS.s s)).8<(32:Int)/\((9:Int)=(9:Int)->(WkS.w (WlS.s s)).8<(4:Int)))/\((0:Int)<=(WlS.t s).4/\(WlS.t s).4<(1000000000:Int))/\(0:Int)<=(WlS.t s).5/\(WlS.t s).5<(1000000000:Int))/\∀(x_1:Unit),True->endN (Ql (9:Int)) [] (rpW 3) (WlS.mk (WkS.mk (Wk.mk th (9:Int) k key x tog said i v r asks deeds seen oc ov whn) ma ca na za md cd nd zd) m t) (SV.o (aB false)) [wkC 3 4 (WSt.w (XG (WlS.z s))) (WlS.s s).3 (WlS.s s).4 (WlS.s s).7 (WlS.s s).8,ramB m,stoB (WSt.s (XG (WlS.z s))),wkA (WlS.s s).2 (WlS.s s).3 (WlS.s s).5,wkD (WlS.s s).6 (WlS.s s).7 (WlS.s s).9]) (by kernel_rfl) ?_
 obtain⟨-,-,-,h5,-,-⟩:=h3
 have h6:=h5 ⟨by show (8:Int)<=9;decide,by show (9:Int)<=13;decide⟩
 exact⟨⟨⟨⟨th,9,k,key,x,tog,said,i,v,r,asks,deeds,seen,oc,ov,whn⟩,ma,ca,na,za,md,cd,nd,zd⟩,m,t⟩,rfl,rfl,⟨rfl,h1,h6⟩,fun _ _=>Qj rfl ⟨(XG ⟨⟨th,9,k,key,x,tog,said,i,v,r,asks,deeds,seen,oc,ov,whn⟩,m,t⟩).w,ma,ca,na,za,md,cd,nd,zd⟩ ⟨⟨rfl,rfl⟩,Q2 h2 (Qa8 _)⟩ rfl rfl rfl⟩
theorem Qky:(Con.mem (Ql 10)).holds Tryz.prog 13:=by
 intro w0 S
 refine Qb (Γ:=[(37,.mem (QT 10))]) (fun _=>noW) Tryz.func13 rfl (by kernel_rfl) Qg Qc (fun w S' _ _=>.cons (QkX w S') (.nil _ _ _)) (Ql 10) (fun _=>[]) (fun x0 h=>by cases h) (fun s ρ w _ _ _=>Qh w _) [] (rpW 3) 400 ?_
 rintro⟨⟨⟨th,does,k,key,x,tog,said,i,v,r,asks,deeds,seen,oc,ov,whn⟩,ma,ca,na,za,md,cd,nd,zd⟩,m,t⟩ W ⟨h0,h1,h2,h3⟩ -
 refine⟨rfl,?_⟩
 dsimp only at h0 h1
 subst h0
 refine Qi (q:=∃(s:WlS),[aP 0 0,aP 2 0]=[aP 0 0,aP 2 0]/\[SB.cells [sI ↑th,sI 10,sI k,sI key,sI x,sI tog,sB said,sI i,sU v,nU 32 r,sS 3 0 5 (List.length asks) ca na,sS 4 0 6 (List.length deeds) cd nd,nU 3 seen,sI oc,sI ov,sI whn] 42,stoB (WlS.t (WlS.mk (WkS.mk (Wk.mk th (10:Int) k key x tog said i v r asks deeds seen oc ov whn) ma ca na za md cd nd zd) m t)),wkA ma ca za,wkD md cd zd]=[wkC 3 4 (WkS.w (WlS.s s)) (WlS.s s).3 (WlS.s s).4 (WlS.s s).7 (WlS.s s).8,stoB (WlS.t s),wkA (WlS.s s).2 (WlS.s s).3 (WlS.s s).5,wkD (WlS.s s).6 (WlS.s s).7 (WlS.s s).9]/\((WkS.w (WlS.s s)).2=(10:Int)/\(WkS.w (WlS.s s)).1<4/\((0:Int)<=(WkS.w (WlS.s s)).9/\(WkS.w (WlS.s s)).9<(1000000000:Int))/\((0:Int)<=(WkS.w (WlS.s s)).8/\(WkS.w (WlS.s s)).8<(32:Int)/\((10:Int)=(9:Int)->(WkS.w (WlS.s s)).8<(4:Int)))/\((0:Int)<=(WlS.t s).4/\(WlS.t s).4<(1000000000:Int))/\(0:Int)<=(WlS.t s).5/\(WlS.t s).5<(1000000000:Int))/\∀(x_1:Unit),True->endN (Ql (10:Int)) [] (rpW 3) (WlS.mk (WkS.mk (Wk.mk th (10:Int) k key x tog said i v r asks deeds seen oc ov whn) ma ca na za md cd nd zd) m t) (SV.o (aB false)) [wkC 3 4 (WSt.w (XG (WlS.z s))) (WlS.s s).3 (WlS.s s).4 (WlS.s s).7 (WlS.s s).8,ramB m,stoB (WSt.s (XG (WlS.z s))),wkA (WlS.s s).2 (WlS.s s).3 (WlS.s s).5,wkD (WlS.s s).6 (WlS.s s).7 (WlS.s s).9]) (by kernel_rfl) ?_
 obtain⟨-,-,-,h5,-,-⟩:=h3
 have h6:=h5 ⟨by show (8:Int)<=10;decide,by show (10:Int)<=13;decide⟩
 exact⟨⟨⟨⟨th,10,k,key,x,tog,said,i,v,r,asks,deeds,seen,oc,ov,whn⟩,ma,ca,na,za,md,cd,nd,zd⟩,m,t⟩,rfl,rfl,⟨rfl,h1,h6⟩,fun _ _=>Qj rfl ⟨(XG ⟨⟨th,10,k,key,x,tog,said,i,v,r,asks,deeds,seen,oc,ov,whn⟩,m,t⟩).w,ma,ca,na,za,md,cd,nd,zd⟩ ⟨⟨rfl,rfl⟩,Q2 h2 (Qa8 _)⟩ rfl rfl rfl⟩
theorem Qkx:(Con.mem (Ql 11)).holds Tryz.prog 13:=by
 intro w0 S
 refine Qb (Γ:=[(37,.mem (QT 11))]) (fun _=>noW) Tryz.func13 rfl (by kernel_rfl) Qg Qc (fun w S' _ _=>.cons (QkW w S') (.nil _ _ _)) (Ql 11) (fun _=>[]) (fun x0 h=>by cases h) (fun s ρ w _ _ _=>Qh w _) [] (rpW 3) 400 ?_
 rintro⟨⟨⟨th,does,k,key,x,tog,said,i,v,r,asks,deeds,seen,oc,ov,whn⟩,ma,ca,na,za,md,cd,nd,zd⟩,m,t⟩ W ⟨h0,h1,h2,h3⟩ -
 refine⟨rfl,?_⟩
 dsimp only at h0 h1
 subst h0
 refine Qi (q:=∃(s:WlS),[aP 0 0,aP 2 0]=[aP 0 0,aP 2 0]/\[SB.cells [sI ↑th,sI 11,sI k,sI key,sI x,sI tog,sB said,sI i,sU v,nU 32 r,sS 3 0 5 (List.length asks) ca na,sS 4 0 6 (List.length deeds) cd nd,nU 3 seen,sI oc,sI ov,sI whn] 42,stoB (WlS.t (WlS.mk (WkS.mk (Wk.mk th (11:Int) k key x tog said i v r asks deeds seen oc ov whn) ma ca na za md cd nd zd) m t)),wkA ma ca za,wkD md cd zd]=[wkC 3 4 (WkS.w (WlS.s s)) (WlS.s s).3 (WlS.s s).4 (WlS.s s).7 (WlS.s s).8,stoB (WlS.t s),wkA (WlS.s s).2 (WlS.s s).3 (WlS.s s).5,wkD (WlS.s s).6 (WlS.s s).7 (WlS.s s).9]/\((WkS.w (WlS.s s)).2=(11:Int)/\(WkS.w (WlS.s s)).1<4/\((0:Int)<=(WkS.w (WlS.s s)).9/\(WkS.w (WlS.s s)).9<(1000000000:Int))/\((0:Int)<=(WkS.w (WlS.s s)).8/\(WkS.w (WlS.s s)).8<(32:Int)/\((11:Int)=(9:Int)->(WkS.w (WlS.s s)).8<(4:Int)))/\((0:Int)<=(WlS.t s).4/\(WlS.t s).4<(1000000000:Int))/\(0:Int)<=(WlS.t s).5/\(WlS.t s).5<(1000000000:Int))/\∀(x_1:Unit),True->endN (Ql (11:Int)) [] (rpW 3) (WlS.mk (WkS.mk (Wk.mk th (11:Int) k key x tog said i v r asks deeds seen oc ov whn) ma ca na za md cd nd zd) m t) (SV.o (aB false)) [wkC 3 4 (WSt.w (XG (WlS.z s))) (WlS.s s).3 (WlS.s s).4 (WlS.s s).7 (WlS.s s).8,ramB m,stoB (WSt.s (XG (WlS.z s))),wkA (WlS.s s).2 (WlS.s s).3 (WlS.s s).5,wkD (WlS.s s).6 (WlS.s s).7 (WlS.s s).9]) (by kernel_rfl) ?_
 obtain⟨-,-,-,h5,-,-⟩:=h3
 have h6:=h5 ⟨by show (8:Int)<=11;decide,by show (11:Int)<=13;decide⟩
 exact⟨⟨⟨⟨th,11,k,key,x,tog,said,i,v,r,asks,deeds,seen,oc,ov,whn⟩,ma,ca,na,za,md,cd,nd,zd⟩,m,t⟩,rfl,rfl,⟨rfl,h1,h6⟩,fun _ _=>Qj rfl ⟨(XG ⟨⟨th,11,k,key,x,tog,said,i,v,r,asks,deeds,seen,oc,ov,whn⟩,m,t⟩).w,ma,ca,na,za,md,cd,nd,zd⟩ ⟨⟨rfl,rfl⟩,Q2 h2 (Qa8 _)⟩ rfl rfl rfl⟩
theorem Qkw:(Con.mem (Ql 12)).holds Tryz.prog 13:=by
 intro w0 S
 refine Qb (Γ:=[(37,.mem (QT 12))]) (fun _=>noW) Tryz.func13 rfl (by kernel_rfl) Qg Qc (fun w S' _ _=>.cons (QkV w S') (.nil _ _ _)) (Ql 12) (fun _=>[]) (fun x0 h=>by cases h) (fun s ρ w _ _ _=>Qh w _) [] (rpW 3) 400 ?_
 rintro⟨⟨⟨th,does,k,key,x,tog,said,i,v,r,asks,deeds,seen,oc,ov,whn⟩,ma,ca,na,za,md,cd,nd,zd⟩,m,t⟩ W ⟨h0,h1,h2,h3⟩ -
 refine⟨rfl,?_⟩
 dsimp only at h0 h1
 subst h0
 refine Qi (q:=∃(s:WlS),[aP 0 0,aP 2 0]=[aP 0 0,aP 2 0]/\[SB.cells [sI ↑th,sI 12,sI k,sI key,sI x,sI tog,sB said,sI i,sU v,nU 32 r,sS 3 0 5 (List.length asks) ca na,sS 4 0 6 (List.length deeds) cd nd,nU 3 seen,sI oc,sI ov,sI whn] 42,stoB (WlS.t (WlS.mk (WkS.mk (Wk.mk th (12:Int) k key x tog said i v r asks deeds seen oc ov whn) ma ca na za md cd nd zd) m t)),wkA ma ca za,wkD md cd zd]=[wkC 3 4 (WkS.w (WlS.s s)) (WlS.s s).3 (WlS.s s).4 (WlS.s s).7 (WlS.s s).8,stoB (WlS.t s),wkA (WlS.s s).2 (WlS.s s).3 (WlS.s s).5,wkD (WlS.s s).6 (WlS.s s).7 (WlS.s s).9]/\((WkS.w (WlS.s s)).2=(12:Int)/\(WkS.w (WlS.s s)).1<4/\((0:Int)<=(WkS.w (WlS.s s)).9/\(WkS.w (WlS.s s)).9<(1000000000:Int))/\((0:Int)<=(WkS.w (WlS.s s)).8/\(WkS.w (WlS.s s)).8<(32:Int)/\((12:Int)=(9:Int)->(WkS.w (WlS.s s)).8<(4:Int)))/\((0:Int)<=(WlS.t s).4/\(WlS.t s).4<(1000000000:Int))/\(0:Int)<=(WlS.t s).5/\(WlS.t s).5<(1000000000:Int))/\∀(x_1:Unit),True->endN (Ql (12:Int)) [] (rpW 3) (WlS.mk (WkS.mk (Wk.mk th (12:Int) k key x tog said i v r asks deeds seen oc ov whn) ma ca na za md cd nd zd) m t) (SV.o (aB false)) [wkC 3 4 (WSt.w (XG (WlS.z s))) (WlS.s s).3 (WlS.s s).4 (WlS.s s).7 (WlS.s s).8,ramB m,stoB (WSt.s (XG (WlS.z s))),wkA (WlS.s s).2 (WlS.s s).3 (WlS.s s).5,wkD (WlS.s s).6 (WlS.s s).7 (WlS.s s).9]) (by kernel_rfl) ?_
 obtain⟨-,-,-,h5,-,-⟩:=h3
 have h6:=h5 ⟨by show (8:Int)<=12;decide,by show (12:Int)<=13;decide⟩
 exact⟨⟨⟨⟨th,12,k,key,x,tog,said,i,v,r,asks,deeds,seen,oc,ov,whn⟩,ma,ca,na,za,md,cd,nd,zd⟩,m,t⟩,rfl,rfl,⟨rfl,h1,h6⟩,fun _ _=>Qj rfl ⟨(XG ⟨⟨th,12,k,key,x,tog,said,i,v,r,asks,deeds,seen,oc,ov,whn⟩,m,t⟩).w,ma,ca,na,za,md,cd,nd,zd⟩ ⟨⟨rfl,rfl⟩,Q2 h2 (Qa8 _)⟩ rfl rfl rfl⟩
theorem Qkv:(Con.mem (Ql 13)).holds Tryz.prog 13:=by
 intro w0 S
 refine Qb (Γ:=[(37,.mem (QT 13))]) (fun _=>noW) Tryz.func13 rfl (by kernel_rfl) Qg Qc (fun w S' _ _=>.cons (QkU w S') (.nil _ _ _)) (Ql 13) (fun _=>[]) (fun x0 h=>by cases h) (fun s ρ w _ _ _=>Qh w _) [] (rpW 3) 400 ?_
 rintro⟨⟨⟨th,does,k,key,x,tog,said,i,v,r,asks,deeds,seen,oc,ov,whn⟩,ma,ca,na,za,md,cd,nd,zd⟩,m,t⟩ W ⟨h0,h1,h2,h3⟩ -
 refine⟨rfl,?_⟩
 dsimp only at h0 h1
 subst h0
 refine Qi (q:=∃(s:WlS),[aP 0 0,aP 2 0]=[aP 0 0,aP 2 0]/\[SB.cells [sI ↑th,sI 13,sI k,sI key,sI x,sI tog,sB said,sI i,sU v,nU 32 r,sS 3 0 5 (List.length asks) ca na,sS 4 0 6 (List.length deeds) cd nd,nU 3 seen,sI oc,sI ov,sI whn] 42,stoB (WlS.t (WlS.mk (WkS.mk (Wk.mk th (13:Int) k key x tog said i v r asks deeds seen oc ov whn) ma ca na za md cd nd zd) m t)),wkA ma ca za,wkD md cd zd]=[wkC 3 4 (WkS.w (WlS.s s)) (WlS.s s).3 (WlS.s s).4 (WlS.s s).7 (WlS.s s).8,stoB (WlS.t s),wkA (WlS.s s).2 (WlS.s s).3 (WlS.s s).5,wkD (WlS.s s).6 (WlS.s s).7 (WlS.s s).9]/\((WkS.w (WlS.s s)).2=(13:Int)/\(WkS.w (WlS.s s)).1<4/\((0:Int)<=(WkS.w (WlS.s s)).9/\(WkS.w (WlS.s s)).9<(1000000000:Int))/\((0:Int)<=(WkS.w (WlS.s s)).8/\(WkS.w (WlS.s s)).8<(32:Int)/\((13:Int)=(9:Int)->(WkS.w (WlS.s s)).8<(4:Int)))/\((0:Int)<=(WlS.t s).4/\(WlS.t s).4<(1000000000:Int))/\(0:Int)<=(WlS.t s).5/\(WlS.t s).5<(1000000000:Int))/\∀(x_1:Unit),True->endN (Ql (13:Int)) [] (rpW 3) (WlS.mk (WkS.mk (Wk.mk th (13:Int) k key x tog said i v r asks deeds seen oc ov whn) ma ca na za md cd nd zd) m t) (SV.o (aB false)) [wkC 3 4 (WSt.w (XG (WlS.z s))) (WlS.s s).3 (WlS.s s).4 (WlS.s s).7 (WlS.s s).8,ramB m,stoB (WSt.s (XG (WlS.z s))),wkA (WlS.s s).2 (WlS.s s).3 (WlS.s s).5,wkD (WlS.s s).6 (WlS.s s).7 (WlS.s s).9]) (by kernel_rfl) ?_
 obtain⟨-,-,-,h5,-,-⟩:=h3
 have h6:=h5 ⟨by show (8:Int)<=13;decide,by show (13:Int)<=13;decide⟩
 exact⟨⟨⟨⟨th,13,k,key,x,tog,said,i,v,r,asks,deeds,seen,oc,ov,whn⟩,ma,ca,na,za,md,cd,nd,zd⟩,m,t⟩,rfl,rfl,⟨rfl,h1,h6⟩,fun _ _=>Qj rfl ⟨(XG ⟨⟨th,13,k,key,x,tog,said,i,v,r,asks,deeds,seen,oc,ov,whn⟩,m,t⟩).w,ma,ca,na,za,md,cd,nd,zd⟩ ⟨⟨rfl,rfl⟩,Q2 h2 (Qa8 _)⟩ rfl rfl rfl⟩
theorem Qku:(Con.mem (Ql 14)).holds Tryz.prog 13:=by
 intro w0 S
 refine Qb (Γ:=[(38,.mem (QaY 14))]) (fun _=>noW) Tryz.func13 rfl (by kernel_rfl) Qg Qc (fun w S' _ _=>.cons (Qlt w S') (.nil _ _ _)) (Ql 14) (fun _=>[]) (fun x0 h=>by cases h) (fun s ρ w _ _ _=>Qh w _) [] (rpW 3) 400 ?_
 rintro⟨⟨⟨th,does,k,key,x,tog,said,i,v,r,asks,deeds,seen,oc,ov,whn⟩,ma,ca,na,za,md,cd,nd,zd⟩,m,t⟩ W ⟨h0,h1,h2,h3⟩ -
 refine⟨rfl,?_⟩
 dsimp only at h0 h1
 subst h0
 refine Qi (q:=∃(s:WlS),[aP 0 0,aP 1 0]=[aP 0 0,aP 1 0]/\[SB.cells [sI ↑th,sI 14,sI k,sI key,sI x,sI tog,sB said,sI i,sU v,nU 32 r,sS 3 0 5 (List.length asks) ca na,sS 4 0 6 (List.length deeds) cd nd,nU 3 seen,sI oc,sI ov,sI whn] 42,ramB m,wkA ma ca za,wkD md cd zd]=[wkC 3 4 (WkS.w (WlS.s s)) (WlS.s s).3 (WlS.s s).4 (WlS.s s).7 (WlS.s s).8,ramB s.2,wkA (WlS.s s).2 (WlS.s s).3 (WlS.s s).5,wkD (WlS.s s).6 (WlS.s s).7 (WlS.s s).9]/\((WkS.w (WlS.s s)).2=(14:Int)/\(0:Int)<=(WkS.w (WlS.s s)).9/\(WkS.w (WlS.s s)).9<(1000000000:Int))/\∀(x_1:Unit),True->endN (Ql (14:Int)) [] (rpW 3) (WlS.mk (WkS.mk (Wk.mk th (14:Int) k key x tog said i v r asks deeds seen oc ov whn) ma ca na za md cd nd zd) m t) (SV.o (aB (QaP (WlS.z s)).2)) [wkC 3 4 (WSt.w (Prod.fst (QaP (WlS.z s)))) (WlS.s s).3 (WlS.s s).4 (WlS.s s).7 (WlS.s s).8,ramB (Prod.fst (QaP (WlS.z s))).2,stoB (WlS.t (WlS.mk (WkS.mk (Wk.mk th (14:Int) k key x tog said i v r asks deeds seen oc ov whn) ma ca na za md cd nd zd) m t)),wkA (WlS.s s).2 (WlS.s s).3 (WlS.s s).5,wkD (WlS.s s).6 (WlS.s s).7 (WlS.s s).9]) (by kernel_rfl) ?_
 obtain⟨-,-,-,-,h5,-⟩:=h3
 have h6:=h5 ⟨by show (14:Int)<=14;decide,by show (14:Int)<=16;decide⟩
 exact⟨⟨⟨⟨th,14,k,key,x,tog,said,i,v,r,asks,deeds,seen,oc,ov,whn⟩,ma,ca,na,za,md,cd,nd,zd⟩,m,t⟩,rfl,rfl,⟨rfl,h6⟩,fun _ _=>Qj rfl ⟨(QaP ⟨⟨th,14,k,key,x,tog,said,i,v,r,asks,deeds,seen,oc,ov,whn⟩,m,t⟩).1.w,ma,ca,na,za,md,cd,nd,zd⟩ ⟨⟨rfl,rfl⟩,Q2 h2 (Qew _)⟩ rfl rfl rfl⟩
theorem Qkt:(Con.mem (Ql 15)).holds Tryz.prog 13:=by
 intro w0 S
 refine Qb (Γ:=[(38,.mem (QaY 15))]) (fun _=>noW) Tryz.func13 rfl (by kernel_rfl) Qg Qc (fun w S' _ _=>.cons (Qls w S') (.nil _ _ _)) (Ql 15) (fun _=>[]) (fun x0 h=>by cases h) (fun s ρ w _ _ _=>Qh w _) [] (rpW 3) 400 ?_
 rintro⟨⟨⟨th,does,k,key,x,tog,said,i,v,r,asks,deeds,seen,oc,ov,whn⟩,ma,ca,na,za,md,cd,nd,zd⟩,m,t⟩ W ⟨h0,h1,h2,h3⟩ -
 refine⟨rfl,?_⟩
 dsimp only at h0 h1
 subst h0
 refine Qi (q:=∃(s:WlS),[aP 0 0,aP 1 0]=[aP 0 0,aP 1 0]/\[SB.cells [sI ↑th,sI 15,sI k,sI key,sI x,sI tog,sB said,sI i,sU v,nU 32 r,sS 3 0 5 (List.length asks) ca na,sS 4 0 6 (List.length deeds) cd nd,nU 3 seen,sI oc,sI ov,sI whn] 42,ramB m,wkA ma ca za,wkD md cd zd]=[wkC 3 4 (WkS.w (WlS.s s)) (WlS.s s).3 (WlS.s s).4 (WlS.s s).7 (WlS.s s).8,ramB s.2,wkA (WlS.s s).2 (WlS.s s).3 (WlS.s s).5,wkD (WlS.s s).6 (WlS.s s).7 (WlS.s s).9]/\((WkS.w (WlS.s s)).2=(15:Int)/\(0:Int)<=(WkS.w (WlS.s s)).9/\(WkS.w (WlS.s s)).9<(1000000000:Int))/\∀(x_1:Unit),True->endN (Ql (15:Int)) [] (rpW 3) (WlS.mk (WkS.mk (Wk.mk th (15:Int) k key x tog said i v r asks deeds seen oc ov whn) ma ca na za md cd nd zd) m t) (SV.o (aB (QaP (WlS.z s)).2)) [wkC 3 4 (WSt.w (Prod.fst (QaP (WlS.z s)))) (WlS.s s).3 (WlS.s s).4 (WlS.s s).7 (WlS.s s).8,ramB (Prod.fst (QaP (WlS.z s))).2,stoB (WlS.t (WlS.mk (WkS.mk (Wk.mk th (15:Int) k key x tog said i v r asks deeds seen oc ov whn) ma ca na za md cd nd zd) m t)),wkA (WlS.s s).2 (WlS.s s).3 (WlS.s s).5,wkD (WlS.s s).6 (WlS.s s).7 (WlS.s s).9]) (by kernel_rfl) ?_
 obtain⟨-,-,-,-,h5,-⟩:=h3
 have h6:=h5 ⟨by show (14:Int)<=15;decide,by show (15:Int)<=16;decide⟩
 exact⟨⟨⟨⟨th,15,k,key,x,tog,said,i,v,r,asks,deeds,seen,oc,ov,whn⟩,ma,ca,na,za,md,cd,nd,zd⟩,m,t⟩,rfl,rfl,⟨rfl,h6⟩,fun _ _=>Qj rfl ⟨(QaP ⟨⟨th,15,k,key,x,tog,said,i,v,r,asks,deeds,seen,oc,ov,whn⟩,m,t⟩).1.w,ma,ca,na,za,md,cd,nd,zd⟩ ⟨⟨rfl,rfl⟩,Q2 h2 (Qew _)⟩ rfl rfl rfl⟩
theorem Qks:(Con.mem (Ql 16)).holds Tryz.prog 13:=by
 intro w0 S
 refine Qb (Γ:=[(38,.mem (QaY 16))]) (fun _=>noW) Tryz.func13 rfl (by kernel_rfl) Qg Qc (fun w S' _ _=>.cons (Qlr w S') (.nil _ _ _)) (Ql 16) (fun _=>[]) (fun x0 h=>by cases h) (fun s ρ w _ _ _=>Qh w _) [] (rpW 3) 400 ?_
 rintro⟨⟨⟨th,does,k,key,x,tog,said,i,v,r,asks,deeds,seen,oc,ov,whn⟩,ma,ca,na,za,md,cd,nd,zd⟩,m,t⟩ W ⟨h0,h1,h2,h3⟩ -
 refine⟨rfl,?_⟩
 dsimp only at h0 h1
 subst h0
 refine Qi (q:=∃(s:WlS),[aP 0 0,aP 1 0]=[aP 0 0,aP 1 0]/\[SB.cells [sI ↑th,sI 16,sI k,sI key,sI x,sI tog,sB said,sI i,sU v,nU 32 r,sS 3 0 5 (List.length asks) ca na,sS 4 0 6 (List.length deeds) cd nd,nU 3 seen,sI oc,sI ov,sI whn] 42,ramB m,wkA ma ca za,wkD md cd zd]=[wkC 3 4 (WkS.w (WlS.s s)) (WlS.s s).3 (WlS.s s).4 (WlS.s s).7 (WlS.s s).8,ramB s.2,wkA (WlS.s s).2 (WlS.s s).3 (WlS.s s).5,wkD (WlS.s s).6 (WlS.s s).7 (WlS.s s).9]/\((WkS.w (WlS.s s)).2=(16:Int)/\(0:Int)<=(WkS.w (WlS.s s)).9/\(WkS.w (WlS.s s)).9<(1000000000:Int))/\∀(x_1:Unit),True->endN (Ql (16:Int)) [] (rpW 3) (WlS.mk (WkS.mk (Wk.mk th (16:Int) k key x tog said i v r asks deeds seen oc ov whn) ma ca na za md cd nd zd) m t) (SV.o (aB (QaP (WlS.z s)).2)) [wkC 3 4 (WSt.w (Prod.fst (QaP (WlS.z s)))) (WlS.s s).3 (WlS.s s).4 (WlS.s s).7 (WlS.s s).8,ramB (Prod.fst (QaP (WlS.z s))).2,stoB (WlS.t (WlS.mk (WkS.mk (Wk.mk th (16:Int) k key x tog said i v r asks deeds seen oc ov whn) ma ca na za md cd nd zd) m t)),wkA (WlS.s s).2 (WlS.s s).3 (WlS.s s).5,wkD (WlS.s s).6 (WlS.s s).7 (WlS.s s).9]) (by kernel_rfl) ?_
 obtain⟨-,-,-,-,h5,-⟩:=h3
 have h6:=h5 ⟨by show (14:Int)<=16;decide,by show (16:Int)<=16;decide⟩
 exact⟨⟨⟨⟨th,16,k,key,x,tog,said,i,v,r,asks,deeds,seen,oc,ov,whn⟩,ma,ca,na,za,md,cd,nd,zd⟩,m,t⟩,rfl,rfl,⟨rfl,h6⟩,fun _ _=>Qj rfl ⟨(QaP ⟨⟨th,16,k,key,x,tog,said,i,v,r,asks,deeds,seen,oc,ov,whn⟩,m,t⟩).1.w,ma,ca,na,za,md,cd,nd,zd⟩ ⟨⟨rfl,rfl⟩,Q2 h2 (Qew _)⟩ rfl rfl rfl⟩
theorem Qkr:(Con.mem (Ql 17)).holds Tryz.prog 13:=by
 intro w0 S
 refine Qb (Γ:=[(39,.mem (Q8 17))]) (fun _=>noW) Tryz.func13 rfl (by kernel_rfl) Qg Qc (fun w S' _ _=>.cons (QkQ w S') (.nil _ _ _)) (Ql 17) (fun _=>[]) (fun x0 h=>by cases h) (fun s ρ w _ _ _=>Qh w _) [] (rpW 3) 400 ?_
 rintro⟨⟨⟨th,does,k,key,x,tog,said,i,v,r,asks,deeds,seen,oc,ov,whn⟩,ma,ca,na,za,md,cd,nd,zd⟩,m,t⟩ W ⟨h0,h1,h2,h3⟩ -
 refine⟨rfl,?_⟩
 dsimp only at h0 h1
 subst h0
 refine Qi (q:=∃(s:WlS),[aP 0 0,aP 1 0,aP 2 0]=[aP 0 0,aP 1 0,aP 2 0]/\[SB.cells [sI ↑th,sI 17,sI k,sI key,sI x,sI tog,sB said,sI i,sU v,nU 32 r,sS 3 0 5 (List.length asks) ca na,sS 4 0 6 (List.length deeds) cd nd,nU 3 seen,sI oc,sI ov,sI whn] 42,ramB m,stoB (WlS.t (WlS.mk (WkS.mk (Wk.mk th (17:Int) k key x tog said i v r asks deeds seen oc ov whn) ma ca na za md cd nd zd) m t)),wkA ma ca za,wkD md cd zd]=[wkC 3 4 (WkS.w (WlS.s s)) (WlS.s s).3 (WlS.s s).4 (WlS.s s).7 (WlS.s s).8,ramB s.2,stoB (WlS.t s),wkA (WlS.s s).2 (WlS.s s).3 (WlS.s s).5,wkD (WlS.s s).6 (WlS.s s).7 (WlS.s s).9]/\((WkS.w (WlS.s s)).2=(17:Int)/\(WkS.w (WlS.s s)).1<4/\((0:Int)<=(WkS.w (WlS.s s)).9/\(WkS.w (WlS.s s)).9<(18446744073709551616:Int))/\((0:Int)<=(WkS.w (WlS.s s)).13 0/\(WkS.w (WlS.s s)).13 0<(16:Int))/\((0:Int)<=(WkS.w (WlS.s s)).13 2/\(WkS.w (WlS.s s)).13 2<=(9223372036854775807:Int))/\U64 ((WkS.w (WlS.s s)).13 1)/\((WkS.w (WlS.s s)).2=(21:Int)->s.2 1=(WkS.w (WlS.s s)).9/\Qm ((WkS.w (WlS.s s)).13 0) (WkS.w (WlS.s s)).1=(WkS.w (WlS.s s)).6->ansOkB ((WkS.w (WlS.s s)).13 1/(4294967296:Int)%(4294967296:Int)) ((WkS.w (WlS.s s)).13 1%(4294967296:Int))=true\/(WkS.w (WlS.s s)).13 1=(0:Int)))/\∀(x_1:Unit),True->endN (Ql (17:Int)) [] (rpW 3) (WlS.mk (WkS.mk (Wk.mk th (17:Int) k key x tog said i v r asks deeds seen oc ov whn) ma ca na za md cd nd zd) m t) (SV.o (aB (QW (WlS.z s)).2)) [wkC 3 4 (WSt.w (Prod.fst (QW (WlS.z s)))) (WlS.s s).3 (WlS.s s).4 (WlS.s s).7 (WlS.s s).8,ramB (Prod.fst (QW (WlS.z s))).2,stoB (WSt.s (Prod.fst (QW (WlS.z s)))),wkA (WlS.s s).2 (WlS.s s).3 (WlS.s s).5,wkD (WlS.s s).6 (WlS.s s).7 (WlS.s s).9]) (by kernel_rfl) ?_
 obtain⟨-,-,-,-,-,h5⟩:=h3
 have h6:=h5 (by show (17:Int)<=17;decide)
 exact⟨⟨⟨⟨th,17,k,key,x,tog,said,i,v,r,asks,deeds,seen,oc,ov,whn⟩,ma,ca,na,za,md,cd,nd,zd⟩,m,t⟩,rfl,rfl,⟨rfl,h1,h6⟩,fun _ _=>Qj rfl ⟨(QW ⟨⟨th,17,k,key,x,tog,said,i,v,r,asks,deeds,seen,oc,ov,whn⟩,m,t⟩).1.w,ma,ca,na,za,md,cd,nd,zd⟩ ⟨⟨rfl,rfl⟩,Q2 h2 (QbO _)⟩ rfl rfl rfl⟩
theorem Qkq:(Con.mem (Ql 18)).holds Tryz.prog 13:=by
 intro w0 S
 refine Qb (Γ:=[(39,.mem (Q8 18))]) (fun _=>noW) Tryz.func13 rfl (by kernel_rfl) Qg Qc (fun w S' _ _=>.cons (QkP w S') (.nil _ _ _)) (Ql 18) (fun _=>[]) (fun x0 h=>by cases h) (fun s ρ w _ _ _=>Qh w _) [] (rpW 3) 400 ?_
 rintro⟨⟨⟨th,does,k,key,x,tog,said,i,v,r,asks,deeds,seen,oc,ov,whn⟩,ma,ca,na,za,md,cd,nd,zd⟩,m,t⟩ W ⟨h0,h1,h2,h3⟩ -
 refine⟨rfl,?_⟩
 dsimp only at h0 h1
 subst h0
 refine Qi (q:=∃(s:WlS),[aP 0 0,aP 1 0,aP 2 0]=[aP 0 0,aP 1 0,aP 2 0]/\[SB.cells [sI ↑th,sI 18,sI k,sI key,sI x,sI tog,sB said,sI i,sU v,nU 32 r,sS 3 0 5 (List.length asks) ca na,sS 4 0 6 (List.length deeds) cd nd,nU 3 seen,sI oc,sI ov,sI whn] 42,ramB m,stoB (WlS.t (WlS.mk (WkS.mk (Wk.mk th (18:Int) k key x tog said i v r asks deeds seen oc ov whn) ma ca na za md cd nd zd) m t)),wkA ma ca za,wkD md cd zd]=[wkC 3 4 (WkS.w (WlS.s s)) (WlS.s s).3 (WlS.s s).4 (WlS.s s).7 (WlS.s s).8,ramB s.2,stoB (WlS.t s),wkA (WlS.s s).2 (WlS.s s).3 (WlS.s s).5,wkD (WlS.s s).6 (WlS.s s).7 (WlS.s s).9]/\((WkS.w (WlS.s s)).2=(18:Int)/\(WkS.w (WlS.s s)).1<4/\((0:Int)<=(WkS.w (WlS.s s)).9/\(WkS.w (WlS.s s)).9<(18446744073709551616:Int))/\((0:Int)<=(WkS.w (WlS.s s)).13 0/\(WkS.w (WlS.s s)).13 0<(16:Int))/\((0:Int)<=(WkS.w (WlS.s s)).13 2/\(WkS.w (WlS.s s)).13 2<=(9223372036854775807:Int))/\U64 ((WkS.w (WlS.s s)).13 1)/\((WkS.w (WlS.s s)).2=(21:Int)->s.2 1=(WkS.w (WlS.s s)).9/\Qm ((WkS.w (WlS.s s)).13 0) (WkS.w (WlS.s s)).1=(WkS.w (WlS.s s)).6->ansOkB ((WkS.w (WlS.s s)).13 1/(4294967296:Int)%(4294967296:Int)) ((WkS.w (WlS.s s)).13 1%(4294967296:Int))=true\/(WkS.w (WlS.s s)).13 1=(0:Int)))/\∀(x_1:Unit),True->endN (Ql (18:Int)) [] (rpW 3) (WlS.mk (WkS.mk (Wk.mk th (18:Int) k key x tog said i v r asks deeds seen oc ov whn) ma ca na za md cd nd zd) m t) (SV.o (aB (QW (WlS.z s)).2)) [wkC 3 4 (WSt.w (Prod.fst (QW (WlS.z s)))) (WlS.s s).3 (WlS.s s).4 (WlS.s s).7 (WlS.s s).8,ramB (Prod.fst (QW (WlS.z s))).2,stoB (WSt.s (Prod.fst (QW (WlS.z s)))),wkA (WlS.s s).2 (WlS.s s).3 (WlS.s s).5,wkD (WlS.s s).6 (WlS.s s).7 (WlS.s s).9]) (by kernel_rfl) ?_
 obtain⟨-,-,-,-,-,h5⟩:=h3
 have h6:=h5 (by show (17:Int)<=18;decide)
 exact⟨⟨⟨⟨th,18,k,key,x,tog,said,i,v,r,asks,deeds,seen,oc,ov,whn⟩,ma,ca,na,za,md,cd,nd,zd⟩,m,t⟩,rfl,rfl,⟨rfl,h1,h6⟩,fun _ _=>Qj rfl ⟨(QW ⟨⟨th,18,k,key,x,tog,said,i,v,r,asks,deeds,seen,oc,ov,whn⟩,m,t⟩).1.w,ma,ca,na,za,md,cd,nd,zd⟩ ⟨⟨rfl,rfl⟩,Q2 h2 (QbO _)⟩ rfl rfl rfl⟩
theorem Qkp:(Con.mem (Ql 19)).holds Tryz.prog 13:=by
 intro w0 S
 refine Qb (Γ:=[(39,.mem (Q8 19))]) (fun _=>noW) Tryz.func13 rfl (by kernel_rfl) Qg Qc (fun w S' _ _=>.cons (QkO w S') (.nil _ _ _)) (Ql 19) (fun _=>[]) (fun x0 h=>by cases h) (fun s ρ w _ _ _=>Qh w _) [] (rpW 3) 400 ?_
 rintro⟨⟨⟨th,does,k,key,x,tog,said,i,v,r,asks,deeds,seen,oc,ov,whn⟩,ma,ca,na,za,md,cd,nd,zd⟩,m,t⟩ W ⟨h0,h1,h2,h3⟩ -
 refine⟨rfl,?_⟩
 dsimp only at h0 h1
 subst h0
 refine Qi (q:=∃(s:WlS),[aP 0 0,aP 1 0,aP 2 0]=[aP 0 0,aP 1 0,aP 2 0]/\[SB.cells [sI ↑th,sI 19,sI k,sI key,sI x,sI tog,sB said,sI i,sU v,nU 32 r,sS 3 0 5 (List.length asks) ca na,sS 4 0 6 (List.length deeds) cd nd,nU 3 seen,sI oc,sI ov,sI whn] 42,ramB m,stoB (WlS.t (WlS.mk (WkS.mk (Wk.mk th (19:Int) k key x tog said i v r asks deeds seen oc ov whn) ma ca na za md cd nd zd) m t)),wkA ma ca za,wkD md cd zd]=[wkC 3 4 (WkS.w (WlS.s s)) (WlS.s s).3 (WlS.s s).4 (WlS.s s).7 (WlS.s s).8,ramB s.2,stoB (WlS.t s),wkA (WlS.s s).2 (WlS.s s).3 (WlS.s s).5,wkD (WlS.s s).6 (WlS.s s).7 (WlS.s s).9]/\((WkS.w (WlS.s s)).2=(19:Int)/\(WkS.w (WlS.s s)).1<4/\((0:Int)<=(WkS.w (WlS.s s)).9/\(WkS.w (WlS.s s)).9<(18446744073709551616:Int))/\((0:Int)<=(WkS.w (WlS.s s)).13 0/\(WkS.w (WlS.s s)).13 0<(16:Int))/\((0:Int)<=(WkS.w (WlS.s s)).13 2/\(WkS.w (WlS.s s)).13 2<=(9223372036854775807:Int))/\U64 ((WkS.w (WlS.s s)).13 1)/\((WkS.w (WlS.s s)).2=(21:Int)->s.2 1=(WkS.w (WlS.s s)).9/\Qm ((WkS.w (WlS.s s)).13 0) (WkS.w (WlS.s s)).1=(WkS.w (WlS.s s)).6->ansOkB ((WkS.w (WlS.s s)).13 1/(4294967296:Int)%(4294967296:Int)) ((WkS.w (WlS.s s)).13 1%(4294967296:Int))=true\/(WkS.w (WlS.s s)).13 1=(0:Int)))/\∀(x_1:Unit),True->endN (Ql (19:Int)) [] (rpW 3) (WlS.mk (WkS.mk (Wk.mk th (19:Int) k key x tog said i v r asks deeds seen oc ov whn) ma ca na za md cd nd zd) m t) (SV.o (aB (QW (WlS.z s)).2)) [wkC 3 4 (WSt.w (Prod.fst (QW (WlS.z s)))) (WlS.s s).3 (WlS.s s).4 (WlS.s s).7 (WlS.s s).8,ramB (Prod.fst (QW (WlS.z s))).2,stoB (WSt.s (Prod.fst (QW (WlS.z s)))),wkA (WlS.s s).2 (WlS.s s).3 (WlS.s s).5,wkD (WlS.s s).6 (WlS.s s).7 (WlS.s s).9]) (by kernel_rfl) ?_
 obtain⟨-,-,-,-,-,h5⟩:=h3
 have h6:=h5 (by show (17:Int)<=19;decide)
 exact⟨⟨⟨⟨th,19,k,key,x,tog,said,i,v,r,asks,deeds,seen,oc,ov,whn⟩,ma,ca,na,za,md,cd,nd,zd⟩,m,t⟩,rfl,rfl,⟨rfl,h1,h6⟩,fun _ _=>Qj rfl ⟨(QW ⟨⟨th,19,k,key,x,tog,said,i,v,r,asks,deeds,seen,oc,ov,whn⟩,m,t⟩).1.w,ma,ca,na,za,md,cd,nd,zd⟩ ⟨⟨rfl,rfl⟩,Q2 h2 (QbO _)⟩ rfl rfl rfl⟩
theorem Qko:(Con.mem (Ql 20)).holds Tryz.prog 13:=by
 intro w0 S
 refine Qb (Γ:=[(39,.mem (Q8 20))]) (fun _=>noW) Tryz.func13 rfl (by kernel_rfl) Qg Qc (fun w S' _ _=>.cons (QkN w S') (.nil _ _ _)) (Ql 20) (fun _=>[]) (fun x0 h=>by cases h) (fun s ρ w _ _ _=>Qh w _) [] (rpW 3) 400 ?_
 rintro⟨⟨⟨th,does,k,key,x,tog,said,i,v,r,asks,deeds,seen,oc,ov,whn⟩,ma,ca,na,za,md,cd,nd,zd⟩,m,t⟩ W ⟨h0,h1,h2,h3⟩ -
 refine⟨rfl,?_⟩
 dsimp only at h0 h1
 subst h0
 refine Qi (q:=∃(s:WlS),[aP 0 0,aP 1 0,aP 2 0]=[aP 0 0,aP 1 0,aP 2 0]/\[SB.cells [sI ↑th,sI 20,sI k,sI key,sI x,sI tog,sB said,sI i,sU v,nU 32 r,sS 3 0 5 (List.length asks) ca na,sS 4 0 6 (List.length deeds) cd nd,nU 3 seen,sI oc,sI ov,sI whn] 42,ramB m,stoB (WlS.t (WlS.mk (WkS.mk (Wk.mk th (20:Int) k key x tog said i v r asks deeds seen oc ov whn) ma ca na za md cd nd zd) m t)),wkA ma ca za,wkD md cd zd]=[wkC 3 4 (WkS.w (WlS.s s)) (WlS.s s).3 (WlS.s s).4 (WlS.s s).7 (WlS.s s).8,ramB s.2,stoB (WlS.t s),wkA (WlS.s s).2 (WlS.s s).3 (WlS.s s).5,wkD (WlS.s s).6 (WlS.s s).7 (WlS.s s).9]/\((WkS.w (WlS.s s)).2=(20:Int)/\(WkS.w (WlS.s s)).1<4/\((0:Int)<=(WkS.w (WlS.s s)).9/\(WkS.w (WlS.s s)).9<(18446744073709551616:Int))/\((0:Int)<=(WkS.w (WlS.s s)).13 0/\(WkS.w (WlS.s s)).13 0<(16:Int))/\((0:Int)<=(WkS.w (WlS.s s)).13 2/\(WkS.w (WlS.s s)).13 2<=(9223372036854775807:Int))/\U64 ((WkS.w (WlS.s s)).13 1)/\((WkS.w (WlS.s s)).2=(21:Int)->s.2 1=(WkS.w (WlS.s s)).9/\Qm ((WkS.w (WlS.s s)).13 0) (WkS.w (WlS.s s)).1=(WkS.w (WlS.s s)).6->ansOkB ((WkS.w (WlS.s s)).13 1/(4294967296:Int)%(4294967296:Int)) ((WkS.w (WlS.s s)).13 1%(4294967296:Int))=true\/(WkS.w (WlS.s s)).13 1=(0:Int)))/\∀(x_1:Unit),True->endN (Ql (20:Int)) [] (rpW 3) (WlS.mk (WkS.mk (Wk.mk th (20:Int) k key x tog said i v r asks deeds seen oc ov whn) ma ca na za md cd nd zd) m t) (SV.o (aB (QW (WlS.z s)).2)) [wkC 3 4 (WSt.w (Prod.fst (QW (WlS.z s)))) (WlS.s s).3 (WlS.s s).4 (WlS.s s).7 (WlS.s s).8,ramB (Prod.fst (QW (WlS.z s))).2,stoB (WSt.s (Prod.fst (QW (WlS.z s)))),wkA (WlS.s s).2 (WlS.s s).3 (WlS.s s).5,wkD (WlS.s s).6 (WlS.s s).7 (WlS.s s).9]) (by kernel_rfl) ?_
 obtain⟨-,-,-,-,-,h5⟩:=h3
 have h6:=h5 (by show (17:Int)<=20;decide)
 exact⟨⟨⟨⟨th,20,k,key,x,tog,said,i,v,r,asks,deeds,seen,oc,ov,whn⟩,ma,ca,na,za,md,cd,nd,zd⟩,m,t⟩,rfl,rfl,⟨rfl,h1,h6⟩,fun _ _=>Qj rfl ⟨(QW ⟨⟨th,20,k,key,x,tog,said,i,v,r,asks,deeds,seen,oc,ov,whn⟩,m,t⟩).1.w,ma,ca,na,za,md,cd,nd,zd⟩ ⟨⟨rfl,rfl⟩,Q2 h2 (QbO _)⟩ rfl rfl rfl⟩
theorem Qkn:(Con.mem (Ql 21)).holds Tryz.prog 13:=by
 intro w0 S
 refine Qb (Γ:=[(39,.mem (Q8 21))]) (fun _=>noW) Tryz.func13 rfl (by kernel_rfl) Qg Qc (fun w S' _ _=>.cons (QkM w S') (.nil _ _ _)) (Ql 21) (fun _=>[]) (fun x0 h=>by cases h) (fun s ρ w _ _ _=>Qh w _) [] (rpW 3) 400 ?_
 rintro⟨⟨⟨th,does,k,key,x,tog,said,i,v,r,asks,deeds,seen,oc,ov,whn⟩,ma,ca,na,za,md,cd,nd,zd⟩,m,t⟩ W ⟨h0,h1,h2,h3⟩ -
 refine⟨rfl,?_⟩
 dsimp only at h0 h1
 subst h0
 refine Qi (q:=∃(s:WlS),[aP 0 0,aP 1 0,aP 2 0]=[aP 0 0,aP 1 0,aP 2 0]/\[SB.cells [sI ↑th,sI 21,sI k,sI key,sI x,sI tog,sB said,sI i,sU v,nU 32 r,sS 3 0 5 (List.length asks) ca na,sS 4 0 6 (List.length deeds) cd nd,nU 3 seen,sI oc,sI ov,sI whn] 42,ramB m,stoB (WlS.t (WlS.mk (WkS.mk (Wk.mk th (21:Int) k key x tog said i v r asks deeds seen oc ov whn) ma ca na za md cd nd zd) m t)),wkA ma ca za,wkD md cd zd]=[wkC 3 4 (WkS.w (WlS.s s)) (WlS.s s).3 (WlS.s s).4 (WlS.s s).7 (WlS.s s).8,ramB s.2,stoB (WlS.t s),wkA (WlS.s s).2 (WlS.s s).3 (WlS.s s).5,wkD (WlS.s s).6 (WlS.s s).7 (WlS.s s).9]/\((WkS.w (WlS.s s)).2=(21:Int)/\(WkS.w (WlS.s s)).1<4/\((0:Int)<=(WkS.w (WlS.s s)).9/\(WkS.w (WlS.s s)).9<(18446744073709551616:Int))/\((0:Int)<=(WkS.w (WlS.s s)).13 0/\(WkS.w (WlS.s s)).13 0<(16:Int))/\((0:Int)<=(WkS.w (WlS.s s)).13 2/\(WkS.w (WlS.s s)).13 2<=(9223372036854775807:Int))/\U64 ((WkS.w (WlS.s s)).13 1)/\((WkS.w (WlS.s s)).2=(21:Int)->s.2 1=(WkS.w (WlS.s s)).9/\Qm ((WkS.w (WlS.s s)).13 0) (WkS.w (WlS.s s)).1=(WkS.w (WlS.s s)).6->ansOkB ((WkS.w (WlS.s s)).13 1/(4294967296:Int)%(4294967296:Int)) ((WkS.w (WlS.s s)).13 1%(4294967296:Int))=true\/(WkS.w (WlS.s s)).13 1=(0:Int)))/\∀(x_1:Unit),True->endN (Ql (21:Int)) [] (rpW 3) (WlS.mk (WkS.mk (Wk.mk th (21:Int) k key x tog said i v r asks deeds seen oc ov whn) ma ca na za md cd nd zd) m t) (SV.o (aB (QW (WlS.z s)).2)) [wkC 3 4 (WSt.w (Prod.fst (QW (WlS.z s)))) (WlS.s s).3 (WlS.s s).4 (WlS.s s).7 (WlS.s s).8,ramB (Prod.fst (QW (WlS.z s))).2,stoB (WSt.s (Prod.fst (QW (WlS.z s)))),wkA (WlS.s s).2 (WlS.s s).3 (WlS.s s).5,wkD (WlS.s s).6 (WlS.s s).7 (WlS.s s).9]) (by kernel_rfl) ?_
 obtain⟨-,-,-,-,-,h5⟩:=h3
 have h6:=h5 (by show (17:Int)<=21;decide)
 exact⟨⟨⟨⟨th,21,k,key,x,tog,said,i,v,r,asks,deeds,seen,oc,ov,whn⟩,ma,ca,na,za,md,cd,nd,zd⟩,m,t⟩,rfl,rfl,⟨rfl,h1,h6⟩,fun _ _=>Qj rfl ⟨(QW ⟨⟨th,21,k,key,x,tog,said,i,v,r,asks,deeds,seen,oc,ov,whn⟩,m,t⟩).1.w,ma,ca,na,za,md,cd,nd,zd⟩ ⟨⟨rfl,rfl⟩,Q2 h2 (QbO _)⟩ rfl rfl rfl⟩
theorem Qok:(Con.mem Qrb).holds Tryz.prog 13:=by
 intro w0 S
 refine⟨(QhC w0 S).1,fun x0 h=>absurd h (by intro h;cases h),fun ρ s w hp hk hm=>?_⟩
 have hd:s.s.w.does=0\/s.s.w.does=1\/s.s.w.does=2\/s.s.w.does=3\/s.s.w.does=4\/s.s.w.does=5\/s.s.w.does=6\/s.s.w.does=7\/s.s.w.does=8\/s.s.w.does=9\/s.s.w.does=10\/s.s.w.does=11\/s.s.w.does=12\/s.s.w.does=13\/s.s.w.does=14\/s.s.w.does=15\/s.s.w.does=16\/s.s.w.does=17\/s.s.w.does=18\/s.s.w.does=19\/s.s.w.does=20\/s.s.w.does=21:=by
  have:=hp.2.2.1
  show s.z.w.does=0\/s.z.w.does=1\/s.z.w.does=2\/s.z.w.does=3\/s.z.w.does=4\/s.z.w.does=5\/s.z.w.does=6\/s.z.w.does=7\/s.z.w.does=8\/s.z.w.does=9\/s.z.w.does=10\/s.z.w.does=11\/s.z.w.does=12\/s.z.w.does=13\/s.z.w.does=14\/s.z.w.does=15\/s.z.w.does=16\/s.z.w.does=17\/s.z.w.does=18\/s.z.w.does=19\/s.z.w.does=20\/s.z.w.does=21
  omega
 rcases hd with h|h|h|h|h|h|h|h|h|h|h|h|h|h|h|h|h|h|h|h|h|h
 · exact (QhC w0 S).2.2 ρ s w ⟨h,hp⟩ hk hm
 · exact (Ql7 w0 S).2.2 ρ s w ⟨h,hp⟩ hk hm
 · exact (Ql6 w0 S).2.2 ρ s w ⟨h,hp⟩ hk hm
 · exact (Ql5 w0 S).2.2 ρ s w ⟨h,hp⟩ hk hm
 · exact (Ql4 w0 S).2.2 ρ s w ⟨h,hp⟩ hk hm
 · exact (Ql3 w0 S).2.2 ρ s w ⟨h,hp⟩ hk hm
 · exact (Ql2 w0 S).2.2 ρ s w ⟨h,hp⟩ hk hm
 · exact (Ql1 w0 S).2.2 ρ s w ⟨h,hp⟩ hk hm
 · exact (Ql0 w0 S).2.2 ρ s w ⟨h,hp⟩ hk hm
 · exact (QlZ w0 S).2.2 ρ s w ⟨h,hp⟩ hk hm
 · exact (Qky w0 S).2.2 ρ s w ⟨h,hp⟩ hk hm
 · exact (Qkx w0 S).2.2 ρ s w ⟨h,hp⟩ hk hm
 · exact (Qkw w0 S).2.2 ρ s w ⟨h,hp⟩ hk hm
 · exact (Qkv w0 S).2.2 ρ s w ⟨h,hp⟩ hk hm
 · exact (Qku w0 S).2.2 ρ s w ⟨h,hp⟩ hk hm
 · exact (Qkt w0 S).2.2 ρ s w ⟨h,hp⟩ hk hm
 · exact (Qks w0 S).2.2 ρ s w ⟨h,hp⟩ hk hm
 · exact (Qkr w0 S).2.2 ρ s w ⟨h,hp⟩ hk hm
 · exact (Qkq w0 S).2.2 ρ s w ⟨h,hp⟩ hk hm
 · exact (Qkp w0 S).2.2 ρ s w ⟨h,hp⟩ hk hm
 · exact (Qko w0 S).2.2 ρ s w ⟨h,hp⟩ hk hm
 · exact (Qkn w0 S).2.2 ρ s w ⟨h,hp⟩ hk hm
end
section
def lgC (k:Int) (l:List Dd):Nat->List Int
 |0=>List.replicate 17 0
 |i+1=>(objR k (lgC k l i) (l.getD i Dd.nil).k (l.getD i Dd.nil).key (l.getD i Dd.nil).x).1
structure LgB (k:Int) (l:List Dd) (i:Nat):Prop where
 op:opOk (l.getD i Dd.nil).k (l.getD i Dd.nil).key (l.getD i Dd.nil).x=true
 c:(objR k (lgC k l i) (l.getD i Dd.nil).k (l.getD i Dd.nil).key (l.getD i Dd.nil).x).2.1=(l.getD i Dd.nil).c
 v:(objR k (lgC k l i) (l.getD i Dd.nil).k (l.getD i Dd.nil).key (l.getD i Dd.nil).x).2.2=(l.getD i Dd.nil).v
def Legal (k:Int) (l:List Dd):Prop:=∀i,i<l.length->LgB k l i
theorem lgC_ok {k:Int}{l:List Dd}(h1:1<=k) (h6:k<=6) (h:Legal k l):∀i,i<=l.length->Qc8 k (lgC k l i)
 |0,_=>Qgk k h1 h6
 |i+1,hi=>QmC (lgC_ok h1 h6 h i (by omega)) _ _ _ (h i hi).op
theorem QaM {α:Type}{l m:List α}{d:α}{i:Nat}(h:i<l.length):(l++m).getD i d=l.getD i d:=by
 simp only[List.getD_eq_getElem?_getD,List.getElem?_append_left h]
theorem QbT {α:Type}{l m:List α}{d:α}{i:Nat}:(l++m).getD (l.length+i) d=m.getD i d:=by
 simp only[List.getD_eq_getElem?_getD,List.getElem?_append_right (Nat.le_add_right _ _),Nat.add_sub_cancel_left]
theorem QcW (k:Int) (l m:List Dd):∀i,i<=l.length->lgC k (l++m) i=lgC k l i
 |0,_=>rfl
 |i+1,hi=>by simp only[lgC];rw[QcW k l m i (by omega),QaM hi]
theorem LgB.left {k:Int}{l m:List Dd}{i:Nat}(hi:i<l.length) (h:LgB k l i):LgB k (l++m) i:=
 ⟨by rw[QaM hi];exact h.op,by rw[QaM hi,QcW k l m i (by omega)];exact h.c,by rw[QaM hi,QcW k l m i (by omega)];exact h.v⟩
theorem Legal.snoc {k:Int}{l:List Dd}{d:Dd}(h:Legal k l) (ho:opOk d.k d.key d.x=true) (hc:(objR k (lgC k l l.length) d.k d.key d.x).2.1=d.c) (hv:(objR k (lgC k l l.length) d.k d.key d.x).2.2=d.v):
 Legal k (l++[d])/\lgC k (l++[d]) (l++[d]).length=(objR k (lgC k l l.length) d.k d.key d.x).1:=by
 have e:(l++[d]).getD l.length Dd.nil=d:=by have:=QbT (l:=l) (m:=[d]) (d:=Dd.nil) (i:=0);rw[Nat.add_zero]at this;exact this
 refine⟨fun i hi=>?_,?_⟩
 · rw[List.length_append,List.length_singleton]at hi
   by_cases h1:i<l.length
   · exact (h i h1).left h1
   · obtain rfl:i=l.length:=by omega
     exact⟨by rw[e];exact ho,by rw[e,QcW k l [d] _ (Nat.le_refl _)];exact hc,by rw[e,QcW k l [d] _ (Nat.le_refl _)];exact hv⟩
 · rw[List.length_append,List.length_singleton]
   simp only[lgC]
   rw[e,QcW k l [d] _ (Nat.le_refl _)]
theorem Qjc {B:Int}{r:Rec}{a:Ask}{l:List Dd}(h:RecOK B r) (ha:a.ok) (hl:Legal r.kind l) (hc:lgC r.kind l l.length=r.obj):
 Legal r.kind (l++bDs r a)/\lgC r.kind (l++bDs r a) (l++bDs r a).length=(Xt r a).obj:=by
 unfold bDs Xt
 cases bOpen r a
 · rw[cond_false,cond_false,List.append_nil];exact⟨hl,hc⟩
 · rw[cond_true,cond_true]
   have:=hl.snoc (d:=Qdz r a) ha.2.2 (by rw[hc];rfl) (by rw[hc];rfl)
   refine⟨this.1,this.2.trans ?_⟩
   rw[hc];rfl
theorem QnX (r:Rec) (a:Ask):(Xt r a).cnt=r.cnt+(bDs r a).length:=by
 unfold Xt bDs
 cases bOpen r a
 · rw[cond_false,cond_false];simp
 · rfl
structure Vd where
 ver:Int
 d:Dd
def Vd.nil:Vd:=⟨0,Dd.nil⟩
structure Ev where
 kind:Int
 t:Int
 k:Int
 key:Int
 x:Int
 c:Int
 v:Int
 whn:Int
 step:Int
def Ev.nil:Ev:=⟨0,0,0,0,0,0,0,0,0⟩
def setF {α:Type}(f:Nat->α) (t:Nat) (x:α):Nat->α:=fun i=>bif Nat.beq i t then x else f i
theorem Qk {α:Type}(f:Nat->α) (t:Nat) (x:α):setF f t x t=x:=by unfold setF;rw[Nat.beq_refl t];rfl
theorem Xc {α:Type}(f:Nat->α) {t u:Nat}(x:α) (h:u≠t):setF f t x u=f u:=by
 unfold setF
 cases hb:Nat.beq u t
 · rfl
 · exact absurd (Nat.eq_of_beq_eq_true hb) h
structure Sh where
 m:Nat->Int
 s:Sto
 w:Nat->Wk
 tog:Nat->Int
 steps:Int
 hist:List Ev
 deeds:List Vd
def Wk.new (t:Nat):Wk:=⟨t,0,0,0,0,0,false,0,0,fun _=>0,[],[],fun _=>0,0,0,0⟩
def Qs (lands:Int) (s:Sto):Nat->Int:=fun i=>bif decide (i<72)&&decide (lands/2^(i/8)%2=1)then s.now i else s.good i
def Sto.crash (s:Sto) (lands:Int):Sto:={ s with now:=Qs lands s,good:=Qs lands s,want:=fun _=>0 }
def Sto.evict (s:Sto) (l:Nat):Sto:={ s with good:=fun i=>bif decide (i/8=l)then s.now i else s.good i }
def Sh.new (k:Int):Sh:=⟨fun _=>0,{ Sto.new with now:=XU k 32,good:=XU k 32 },Wk.new,fun _=>0,0,[],[]⟩
def Sh.called (z:Sh) (t:Nat) (k key x:Int):Sh:={ z with w:=setF z.w t (Wk.call (z.w t).th k key x (1-z.tog t) false),steps:=z.steps+1,hist:=z.hist++[⟨1,t,k,key,x,0,0,0,z.steps+1⟩] }
def Sh.call (z:Sh) (t:Nat) (k key x:Int):Sh:=if (z.w t).does=0/\opOk k key x=true then z.called t k key x else z
def Sh.wst (z:Sh) (t:Nat):WSt:=⟨z.w t,z.m,z.s⟩
def Sh.moved (z:Sh) (t:Nat) (r:WSt):Sh:={ z with m:=r.m,s:=r.s,w:=setF z.w t r.w,steps:=z.steps+1 }
def Sh.counted (z:Sh) (l:List Dd):Sh:={ z with deeds:=z.deeds++l.map (Vd.mk (z.s.now 0)) }
def Sh.answered (z:Sh) (t:Nat) (w:Wk):Sh:={ z with tog:=putF z.tog t w.tog,hist:=z.hist++[⟨2,t,w.k,w.key,w.x,w.oc,w.ov,w.whn,z.steps⟩] }
def Sh.stepped (z:Sh) (t:Nat):Sh:=
 let r:=Qd (z.wst t)
 let z1:=z.moved t r.1
 let z2:=if (z.w t).does=11 then z1.counted r.1.w.deeds else z1
 if r.2 then z2.answered t r.1.w else z2
def Sh.step (z:Sh) (t:Nat):Sh:=if (z.w t).does=0 then z else z.stepped t
def Sh.run (z:Sh) (t:Nat):Nat->Sh
 |0=>z
 |n+1=>(z.step t).run t n
def Sh.ran (z:Sh) (t:Nat):Nat->Nat
 |0=>0
 |n+1=>if (z.w t).does=0 then 0 else (z.step t).ran t n+1
def Sh.evict (z:Sh) (l:Int):Sh:=if 0<=l/\l<9 then { z with s:=z.s.evict l.toNat } else z
def upTo (v:Int) (l:List Vd):List Vd:=(l.reverse.dropWhile fun d=>decide (v<d.ver)).reverse
def Wk.again (w:Wk):Wk:=if w.does=0 then w else Wk.call w.th w.k w.key w.x w.tog true
def Sh.crash (z:Sh) (lands:Int):Sh:=
 let s:=z.s.crash lands
 { z with m:=putF (fun _=>0) 1 (s.now 0),s:=s,w:=fun t=>(z.w t).again,steps:=z.steps+1,hist:=z.hist++[⟨3,0,0,0,0,0,0,0,z.steps+1⟩],deeds:=upTo (s.now 0) z.deeds }
def cntT (t:Nat) (D:List Vd):Nat:=D.countP fun d=>d.d.t==(t:Int)
def LastD (D:List Vd) (t:Nat) (a n:Int):Prop:=
 (cntT t D=0/\a=0/\n=0)\/∃i:Nat,n=(i:Int)+1/\i<D.length/\(D.getD i Vd.nil).d.t=t/\QV (D.getD i Vd.nil).d.c (D.getD i Vd.nil).d.v/\a=ansW (D.getD i Vd.nil).d.c (D.getD i Vd.nil).d.v/\∀j,i<j->j<D.length->(D.getD j Vd.nil).d.t≠t
structure Sum (K:Int) (R:Rec) (D:List Vd):Prop where
 ok:RecOK D.length R
 kind:R.kind=K
 cnt:R.cnt=D.length
 legal:Legal K (D.map Vd.d)
 obj:lgC K (D.map Vd.d) D.length=R.obj
 th:∀d∈D,d.d.t<4
 each:∀t,t<4->LastD D t (R.ans.getD t 0) (R.whn.getD t 0)
 bit:∀t,t<4->Qm R.tog t=(cntT t D:Int)%2
theorem Sum.new {K:Int}(h1:1<=K) (h6:K<=6):Sum K (Rec.new K) [] where
 ok:=RecOK.new h1 h6
 kind:=rfl
 cnt:=rfl
 legal:=fun i hi=>absurd hi (Nat.not_lt_zero _)
 obj:=rfl
 th:=fun d hd=>by cases hd
 each:=fun t ht=>.inl ⟨rfl,by
  rcases (show t=0\/t=1\/t=2\/t=3 by omega)with rfl|rfl|rfl|rfl<;>exact⟨rfl,rfl⟩⟩
 bit:=fun t ht=>by
  rcases (show t=0\/t=1\/t=2\/t=3 by omega)with rfl|rfl|rfl|rfl<;>rfl
theorem Qig (t:Nat) (D:List Vd) (d:Vd):cntT t (D++[d])=cntT t D+(if d.d.t=t then 1 else 0):=by
 unfold cntT
 rw[List.countP_append,List.countP_singleton]
 by_cases h:d.d.t=t
 · rw[if_pos h,if_pos (by simpa using h)]
 · rw[if_neg h,if_neg (by simpa using h)]
theorem LastD.snoc {D:List Vd}{t:Nat}{a n:Int}(h:LastD D t a n) {d:Vd}(hd:d.d.t≠t):LastD (D++[d]) t a n:=by
 rcases h with⟨h0,h1⟩|⟨i,h1,h2,h3,h4,h5,h6⟩
 · exact .inl ⟨by rw[Qig,h0,if_neg hd],h1⟩
 · have e:(D++[d]).getD i Vd.nil=D.getD i Vd.nil:=QaM h2
   refine .inr ⟨i,h1,by rw[List.length_append];omega,by rw[e];exact h3,by rw[e];exact h4,by rw[e];exact h5,fun j hj hl=>?_⟩
   rcases getD_snoc (d:=Vd.nil) hl with⟨a,b⟩|⟨a,b⟩
   · rw[b];exact h6 j hj a
   · rw[b];exact hd
theorem Sum.snoc {K:Int}{R:Rec}{D:List Vd}(h:Sum K R D) {a:Ask}(ha:a.ok) (ho:bOpen R a=true) (v:Int):Sum K (Xt R a) (D++[⟨v,Qdz R a⟩]):=by
 have e1:Xt R a=R.done a.t a.k a.key a.x:=by unfold Xt;rw[ho];rfl
 have ed:bDs R a=[Qdz R a]:=by unfold bDs;rw[ho];rfl
 have hk:=h.kind
 have hA:=(Qdo h.ok.ok a.k a.key a.x ha.2.2).1
 have hlen:(D++[(⟨v,Qdz R a⟩:Vd)]).length=D.length+1:=by rw[List.length_append];rfl
 have hc:((D++[(⟨v,Qdz R a⟩:Vd)]).length:Int)=D.length+1:=by rw[hlen];omega
 have hl:=Qjc (l:=D.map Vd.d) h.ok ha (by rw[hk];exact h.legal) (by rw[hk,List.length_map];exact h.obj)
 rw[ed,hk]at hl
 have em:(D++[(⟨v,Qdz R a⟩:Vd)]).map Vd.d=D.map Vd.d++[Qdz R a]:=by rw[List.map_append];rfl
 have eg:(D++[(⟨v,Qdz R a⟩:Vd)]).getD D.length Vd.nil=⟨v,Qdz R a⟩:=by
  have:=QbT (l:=D) (m:=[(⟨v,Qdz R a⟩:Vd)]) (d:=Vd.nil) (i:=0);rw[Nat.add_zero]at this;exact this
 refine⟨by rw[hc];exact Qc5 h.ok ha,by rw[QlC];exact hk,by rw[QnX,ed,h.cnt,hc];rfl,by rw[em];exact hl.1,?_,fun d hd=>?_,fun t ht=>?_,fun t ht=>?_⟩
 · rw[em]
   have:=hl.2
   rw[List.length_append,List.length_map]at this
   rw[hlen];exact this
 · rcases List.mem_append.1 hd with hd|hd
   · exact h.th d hd
   · obtain rfl:=List.mem_singleton.1 hd;have h1:=ha.1;show (a.t:Int)<4;omega
 · rw[e1]
   show LastD _ t ((R.ans.set a.t _).getD t 0) ((R.whn.set a.t _).getD t 0)
   rw[QaN _ _ _ _ (by rw[h.ok.a4];exact ha.1),QaN _ _ _ _ (by rw[h.ok.w4];exact ha.1)]
   by_cases et:t=a.t
   · rw[if_pos et,if_pos et]
     exact .inr ⟨D.length,by rw[h.cnt],by rw[hlen];omega,by rw[eg];exact congrArg (fun q:Nat=>(q:Int)) et.symm,by rw[eg];exact hA,by rw[eg];rfl,fun j h1 h2=>by omega⟩
   · rw[if_neg et,if_neg et]
     exact (h.each t ht).snoc (fun e=>et (by have e:(a.t:Int)=t:=e;omega))
 · have h1:=QcK h.ok ha t ht
   have h2:=h.bit t ht
   have h3:=h.bit a.t ha.1
   rw[h1,Qig]
   have hb:Qm R.tog a.t≠a.g:=by simpa [bOpen] using ho
   by_cases et:t=a.t
   · subst et
     rw[if_pos rfl]
     show a.g=((cntT a.t D+(if (a.t:Int)=(a.t:Int)then 1 else 0):Nat):Int)%2
     rw[if_pos rfl]
     have:=ha.2.1;omega
   · rw[if_neg et]
     show _=((cntT t D+(if (a.t:Int)=(t:Int)then 1 else 0):Nat):Int)%2
     rw[if_neg (fun e=>et (by omega))];exact h2
theorem Sum.batch {K:Int}(v:Int):∀ {m:List Ask}{R:Rec}{D:List Vd},Sum K R D->AsksOK m->Sum K (bR R m) (D++(bD R m).map (Vd.mk v))
 |[],R,D,h,_=>by simp only[bD,bR,List.map_nil,List.append_nil];exact h
 |a::m,R,D,h,ha=>by
  show Sum K (bR (Xt R a) m) (D++(bDs R a++bD (Xt R a) m).map (Vd.mk v))
  cases ho:bOpen R a
  · have hs:=QgB ho
    rw[hs.1,hs.2];exact Sum.batch v h ha.tail
  · have h1:=h.snoc (ha a List.mem_cons_self) ho v
    have ed:bDs R a=[Qdz R a]:=by unfold bDs;rw[ho];rfl
    have:=Sum.batch v (m:=m) h1 ha.tail
    rw[ed,List.map_append,<- List.append_assoc];exact this
theorem Sum.at {K:Int}{R:Rec}{D:List Vd}(h:Sum K R D) {v:Int}(h0:0<=v) (h1:v<=1099511627776):Sum K (R.at v) D:=
 ⟨h.ok.at h0 h1,h.kind,h.cnt,h.legal,h.obj,h.th,h.each,h.bit⟩
theorem Qff:∀ {m:List Ask}{B:Int}{R:Rec},RecOK B R->AsksOK m->∀t,t<4->(∀a∈m,a.t≠t)->(bR R m).ans.getD t 0=R.ans.getD t 0/\(bR R m).whn.getD t 0=R.whn.getD t 0/\Qm (bR R m).tog t=Qm R.tog t
 |[],_,_,_,_,_,_,_=>⟨rfl,rfl,rfl⟩
 |a::m,B,R,h,ha,t,ht,hn=>by
  have h1:=Qff (m:=m) (Qc5 h (ha a List.mem_cons_self)) ha.tail t ht (fun b hb=>hn b (List.mem_cons_of_mem _ hb))
  have h2:=QcK h (ha a List.mem_cons_self) t ht
  have hne:t≠a.t:=fun e=>hn a List.mem_cons_self e.symm
  rw[if_neg hne]at h2
  have h3:(Xt R a).ans.getD t 0=R.ans.getD t 0/\(Xt R a).whn.getD t 0=R.whn.getD t 0:=by
   unfold Xt
   cases bOpen R a
   · exact⟨rfl,rfl⟩
   · show (R.ans.set a.t _).getD t 0=_/\(R.whn.set a.t _).getD t 0=_
     have ha1:=(ha a List.mem_cons_self).1
     rw[QaN _ _ _ _ (by rw[h.a4];exact ha1),QaN _ _ _ _ (by rw[h.w4];exact ha1),if_neg hne,if_neg hne]
     exact⟨rfl,rfl⟩
  exact⟨h1.1.trans h3.1,h1.2.1.trans h3.2,h1.2.2.trans h2⟩
structure Gh where
 V:Int
 R:Rec
 dv:Int
 Q:Rec
 n:Nat
def HasRec (f:Nat->Int) (v:Int) (R:Rec):Prop:=∀i,i<32->f (Qq v+i)=fL R.words i
def SlotOK (f:Nat->Int) (b:Nat):Prop:=(0<=f (b+26)/\f (b+26)<16)/\∀t,t<4->U64 (f (b+18+t))/\0<=f (b+22+t)/\f (b+22+t)<=9223372036854775807
def SlotsOK (f:Nat->Int):Prop:=SlotOK f 8/\SlotOK f 40
structure Glob (K:Int) (z:Sh) (g:Gh):Prop where
 k1:1<=K
 k6:K<=6
 v0:0<=g.dv
 vd:g.V=g.dv\/g.V=g.dv+1
 now0:z.s.now 0=g.V
 good0:z.s.good 0=g.dv\/z.s.good 0=g.V
 done:z.m 1=g.dv
 same:g.V=g.dv->g.R=g.Q/\g.n=z.deeds.length
 sumR:Sum K g.R z.deeds
 verR:g.R.ver=g.V
 topR:∀d∈z.deeds,d.ver<=g.V
 nle:g.n<=z.deeds.length
 sumQ:Sum K g.Q (z.deeds.take g.n)
 verQ:g.Q.ver=g.dv
 topQ:∀d∈z.deeds.take g.n,d.ver<=g.dv
 lateQ:∀d∈z.deeds.drop g.n,d.ver=g.dv+1
 nowR:HasRec z.s.now g.V g.R
 goodR:HasRec z.s.good g.V g.R
 nowQ:HasRec z.s.now g.dv g.Q
 goodQ:HasRec z.s.good g.dv g.Q
 rNow:SlotsOK z.s.now
 rGood:SlotsOK z.s.good
 vb:g.V<=z.steps
 cb:(z.deeds.length:Int)<=4*z.steps
 fl0:0<=z.s.fl
 fl1:z.s.fl<=z.steps
 fe0:0<=z.s.fe
 fe1:z.s.fe<=z.steps
structure Told (R:Rec) (t:Nat) (w:Wk):Prop where
 bit:Qm R.tog t=w.tog
 ok:QV w.oc w.ov
 ans:R.ans.getD t 0=ansW w.oc w.ov
 whn:R.whn.getD t 0=w.whn
structure ThB (g:Gh) (t:Nat) (w:Wk) (tg mo ms:Int):Prop where
 th:w.th=t
 d0:0<=w.does
 d21:w.does<=21
 tg01:tg=0\/tg=1
 one:tg=1->g.Q.whn.getD t 0≠0
 v0:0<=w.v
 v1:w.v<=g.dv
 ii:w.does<=4\/10<=w.does->w.i=0
 se0:0<=w.seen 0/\w.seen 0<16
 se1:U64 (w.seen 1)
 se2:0<=w.seen 2/\w.seen 2<=9223372036854775807
 idle:w.does=0->Qm g.R.tog t=tg/\Qm g.Q.tog t=tg/\(ms=0\/ms=tg+1)
 op:w.does≠0->opOk w.k w.key w.x=true
 tog:w.does≠0->w.tog=1-tg
 qr:w.does≠0->Qm g.Q.tog t=w.tog->Qm g.R.tog t=w.tog
 uns:w.does≠0->w.said=false->ms=0\/(ms=tg+1/\Qm g.R.tog t=tg/\Qm g.Q.tog t=tg)
 sai:w.does≠0->w.said=true->ms=w.tog+1/\mo=opW w.k w.key w.x
 two:w.does=2->mo=opW w.k w.key w.x
 s12:w.does=1\/w.does=2->w.said=false
 s3:3<=w.does->w.does<=16->w.said=true
 lk2:19<=w.does->w.v=g.dv->w.seen 0=g.Q.tog
 lk3:20<=w.does->w.v=g.dv->w.seen 1=g.Q.ans.getD t 0
 lk4:21<=w.does->w.v=g.dv->w.seen 2=g.Q.whn.getD t 0
 rep:w.does=16->Told g.Q t w/\Told g.R t w
structure Want (W:Nat->Wk) (R:Rec) (a:Ask):Prop where
 t4:a.t<4
 act:(W a.t).does≠0
 said:(W a.t).said=true
 tog:(W a.t).tog=a.g
 k:(W a.t).k=a.k
 key:(W a.t).key=a.key
 x:(W a.t).x=a.x
 opn:Qm R.tog a.t≠a.g
structure Gath (W:Nat->Wk) (R:Rec) (h:Nat) (l:List Ask) (i:Nat):Prop where
 asc:l.Pairwise (fun a b=>a.t<b.t)
 lt:∀a∈l,a.t<i
 want:∀a∈l,Want W R a
 own:h<i->Qm R.tog h=(W h).tog\/∃a∈l,a.t=h
def Xz (w:Wk):Prop:=4<=w.does/\w.does<=15
structure HoldOK (g:Gh) (h:Nat) (W:Nat->Wk) (s:Sto):Prop where
 ver:(W h).does≠4->(W h).does<=14->(W h).v=g.dv
 low:(W h).does<=11\/(W h).does=15->g.V=g.dv
 mid:12<=(W h).does->(W h).does<=14->g.V=g.dv+1
 i0:(W h).does<=9->0<=(W h).i
 i5:(W h).does=5->(W h).i<32/\(W h).asks=[]/\∀j:Nat,(j:Int)<(W h).i->(W h).r j=fL g.R.words j
 i6:(W h).does=6->(W h).i<4/\(∀j,j<32->(W h).r j=fL g.R.words j)/\Gath W g.R h (W h).asks (W h).i.toNat
 i7:(W h).does=7->(W h).i<4/\(∀j,j<32->(W h).r j=fL g.R.words j)/\∃l,(W h).asks=l++[⟨(W h).i.toNat,(W (W h).i.toNat).tog,0,0,0⟩]/\Gath W g.R h l (W h).i.toNat /\
  (W (W h).i.toNat).does≠0/\(W (W h).i.toNat).said=true/\Qm g.R.tog (W h).i.toNat≠(W (W h).i.toNat).tog
 nx:8<=(W h).does->(W h).does<=11->Gath W g.R h (W h).asks 4/\(W h).deeds=bD g.R (W h).asks/\(∀j,j<32->(W h).r j=fL (bDo g.R (W h).asks).words j)/\Told (bDo g.R (W h).asks) h (W h)
 i8:(W h).does=8->(W h).i<32/\∀j:Nat,(j:Int)<(W h).i->s.now (Qq (g.V+1)+j)=fL (bDo g.R (W h).asks).words j
 i9:(W h).does=9->(W h).i<4/\HasRec s.now (g.V+1) (bDo g.R (W h).asks)/\∀l:Nat,(l:Int)<(W h).i->s.want (9*h+(Qq (g.V+1)/8+l))≠0
 i10:(W h).does=10->HasRec s.now (g.V+1) (bDo g.R (W h).asks)/\∀l:Nat,l<4->s.want (9*h+(Qq (g.V+1)/8+l))≠0
 i11:(W h).does=11->HasRec s.now (g.V+1) (bDo g.R (W h).asks)/\HasRec s.good (g.V+1) (bDo g.R (W h).asks)
 told:12<=(W h).does->(W h).does<=15->Told g.R h (W h)
 i13:(W h).does=13->s.want (9*h)≠0
 i14:14<=(W h).does->(W h).does<=15->s.good 0=g.V
structure ShInv (K:Int) (z:Sh) (g:Gh):Prop where
 gl:Glob K z g
 th:∀t,t<4->ThB g t (z.w t) (z.tog t) (z.m (2+2*t)) (z.m (3+2*t))
 lk:(z.m 0=0/\∀t:Nat,t<4->¬Xz (z.w t))\/∃h:Nat,h<4/\z.m 0=(h:Int)+1/\Xz (z.w h)/\∀t:Nat,t<4->t≠h->¬Xz (z.w t)
 mid:g.V=g.dv+1->∃h,h<4/\12<=(z.w h).does/\(z.w h).does<=14
 ho:∀h,h<4->Xz (z.w h)->HoldOK g h z.w z.s
def QlF (R:Rec) (t:Nat) (w w':Wk):Prop:=w.does≠0->w.said=true->Qm R.tog t≠w.tog->w'.does≠0/\w'.said=true/\w'.tog=w.tog/\w'.k=w.k/\w'.key=w.key/\w'.x=w.x
theorem Want.other {W:Nat->Wk}{R:Rec}{a:Ask}(H:Want W R a) {t:Nat}{w':Wk}(hk:QlF R t (W t) w'):Want (setF W t w') R a:=by
 by_cases e:a.t=t
 · have h1:=hk (by rw[<- e];exact H.act) (by rw[<- e];exact H.said) (by rw[<- e,H.tog];exact H.opn)
   have e2:setF W t w' a.t=w':=by rw[e];exact Qk W t w'
   refine⟨H.t4,?_,?_,?_,?_,?_,?_,H.opn⟩<;>rw[e2]
   · exact h1.1
   · exact h1.2.1
   · rw[h1.2.2.1,<- e];exact H.tog
   · rw[h1.2.2.2.1,<- e];exact H.k
   · rw[h1.2.2.2.2.1,<- e];exact H.key
   · rw[h1.2.2.2.2.2,<- e];exact H.x
 · have e2:setF W t w' a.t=W a.t:=Xc W w' e
   exact⟨H.t4,by rw[e2];exact H.act,by rw[e2];exact H.said,by rw[e2];exact H.tog,by rw[e2];exact H.k,by rw[e2];exact H.key,by rw[e2];exact H.x,H.opn⟩
theorem Gath.other {W:Nat->Wk}{R:Rec}{h:Nat}{l:List Ask}{i:Nat}(H:Gath W R h l i) {t:Nat}{w':Wk}(hk:QlF R t (W t) w') (ho:h=t->w'.tog=(W t).tog):Gath (setF W t w') R h l i:=by
 refine⟨H.asc,H.lt,fun a ha=>(H.want a ha).other hk,fun hi=>?_⟩
 have e:(setF W t w' h).tog=(W h).tog:=by
  by_cases e:h=t
  · subst e;rw[Qk];exact ho rfl
  · rw[Xc W w' e]
 rw[e];exact H.own hi
theorem HoldOK.other {g:Gh}{h:Nat}{W:Nat->Wk}{s:Sto}(H:HoldOK g h W s) {t:Nat}(ht:h≠t) {w':Wk}(hk:QlF g.R t (W t) w'):HoldOK g h (setF W t w') s:=by
 have e:setF W t w' h=W h:=Xc W w' ht
 refine⟨?_,?_,?_,?_,?_,?_,?_,?_,?_,?_,?_,?_,?_,?_,?_⟩<;>rw[e]
 · exact H.ver
 · exact H.low
 · exact H.mid
 · exact H.i0
 · exact H.i5
 · intro hd
   have:=H.i6 hd
   exact⟨this.1,this.2.1,this.2.2.other hk (fun e=>absurd e ht)⟩
 · intro hd
   obtain⟨h1,h2,l,h3,h4,h5,h6,h7⟩:=H.i7 hd
   by_cases ei:(W h).i.toNat=t
   · have hq:=hk (by rw[<- ei];exact h5) (by rw[<- ei];exact h6) (by rw[<- ei];exact h7)
     have e2:setF W t w' (W h).i.toNat=w':=by rw[ei];exact Qk W t w'
     have e3:w'.tog=(W (W h).i.toNat).tog:=by rw[hq.2.2.1,ei]
     exact⟨h1,h2,l,by rw[e2,e3];exact h3,h4.other hk (fun e=>absurd e ht),by rw[e2];exact hq.1,by rw[e2];exact hq.2.1,by rw[e2,e3];exact h7⟩
   · have e2:setF W t w' (W h).i.toNat=W (W h).i.toNat:=Xc W w' ei
     exact⟨h1,h2,l,by rw[e2];exact h3,h4.other hk (fun e=>absurd e ht),by rw[e2];exact h5,by rw[e2];exact h6,by rw[e2];exact h7⟩
 · intro a b
   have:=H.nx a b
   exact⟨this.1.other hk (fun e=>absurd e ht),this.2⟩
 · exact H.i8
 · exact H.i9
 · exact H.i10
 · exact H.i11
 · exact H.told
 · exact H.i13
 · exact H.i14
def LockOK (m0:Int) (W:Nat->Wk):Prop:=(m0=0/\∀t:Nat,t<4->¬Xz (W t))\/∃h:Nat,h<4/\m0=(h:Int)+1/\Xz (W h)/\∀t:Nat,t<4->t≠h->¬Xz (W t)
theorem LockOK.keep {m0:Int}{W:Nat->Wk}(H:LockOK m0 W) {t:Nat}{w':Wk}(hh:Xz w'↔Xz (W t)):LockOK m0 (setF W t w'):=by
 have e (u:Nat):Xz (setF W t w' u)↔Xz (W u):=by
  by_cases e:u=t
  · subst e;rw[Qk];exact hh
  · rw[Xc W w' e]
 rcases H with⟨h1,h2⟩|⟨h,h1,h2,h3,h4⟩
 · exact .inl ⟨h1,fun u hu hx=>h2 u hu ((e u).1 hx)⟩
 · exact .inr ⟨h,h1,h2,(e h).2 h3,fun u hu hne hx=>h4 u hu hne ((e u).1 hx)⟩
theorem LockOK.one {m0:Int}{W:Nat->Wk}(H:LockOK m0 W) {t:Nat}(ht:t<4) (h:Xz (W t)):m0=(t:Int)+1/\∀u,u<4->u≠t->¬Xz (W u):=by
 rcases H with⟨h1,h2⟩|⟨u,h1,h2,h3,h4⟩
 · exact absurd h (h2 t ht)
 · by_cases e:t=u
   · subst e;exact⟨h2,h4⟩
   · exact absurd h (h4 t ht e)
theorem ShInv.local {K:Int}{z:Sh}{g:Gh}(H:ShInv K z g) {t:Nat}(ht:t<4) {w':Wk}{m':Nat->Int}{st:Int}{hs:List Ev}(hst:z.steps<=st)
 (h1:m' 1=z.m 1) (hm:∀u,u<4->u≠t->m' (2+2*u)=z.m (2+2*u)/\m' (3+2*u)=z.m (3+2*u))
 (tg':Int) (hb:ThB g t w' tg' (m' (2+2*t)) (m' (3+2*t)))
 (hk:QlF g.R t (z.w t) w') (hl:LockOK (m' 0) (setF z.w t w')) (hd:¬(12<=(z.w t).does/\(z.w t).does<=14))
 (ho:Xz w'->HoldOK g t (setF z.w t w') z.s):ShInv K { z with w:=setF z.w t w',m:=m',tog:=putF z.tog t tg',steps:=st,hist:=hs } g:=by
 refine⟨?_,fun u hu=>?_,hl,fun hv=>?_,fun u hu hh=>?_⟩
 · have G:=H.gl
   exact⟨G.k1,G.k6,G.v0,G.vd,G.now0,G.good0,h1.trans G.done,G.same,G.sumR,G.verR,G.topR,G.nle,G.sumQ,G.verQ,G.topQ,G.lateQ,G.nowR,G.goodR,G.nowQ,G.goodQ,G.rNow,G.rGood,Int.le_trans G.vb hst,by have:=G.cb;dsimp only;omega,G.fl0,Int.le_trans G.fl1 hst,G.fe0,Int.le_trans G.fe1 hst⟩
 · show ThB g u (setF z.w t w' u) (putF z.tog t tg' u) (m' (2+2*u)) (m' (3+2*u))
   by_cases e:u=t
   · subst e;rw[Qk,Xb];exact hb
   · rw[Xc z.w w' e,Qu z.tog tg' e,(hm u hu e).1,(hm u hu e).2];exact H.th u hu
 · obtain⟨h,h4,a,b⟩:=H.mid hv
   have e:h≠t:=fun e=>hd (by rw[<- e];exact⟨a,b⟩)
   exact⟨h,h4,by show 12<=(setF z.w t w' h).does;rw[Xc z.w w' e];exact a,by show (setF z.w t w' h).does<=14;rw[Xc z.w w' e];exact b⟩
 · show HoldOK g u (setF z.w t w') z.s
   by_cases e:u=t
   · subst e
     exact ho (by have:Xz (setF z.w u w' u):=hh;rw[Qk]at this;exact this)
   · have h2:Xz (setF z.w t w' u):=hh
     rw[Xc z.w w' e]at h2
     exact (H.ho u hu h2).other e hk
theorem QhO (f:Nat->Int) (t:Nat):putF f t (f t)=f:=funext fun i=>by
 by_cases e:i=t
 · subst e;rw[Xb]
 · rw[Qu f _ e]
end
section
theorem Qw {z:Sh}{t:Nat}{r:WSt}(hd:(z.w t).does≠11) (e:Qd (z.wst t)=(r,false)):z.stepped t=z.moved t r:=by
 unfold Sh.stepped
 rw[e]
 dsimp only
 rw[if_neg hd];rfl
theorem Qb8 {z:Sh}{t:Nat}{r:WSt}(hd:(z.w t).does≠11) (e:Qd (z.wst t)=(r,true)):z.stepped t=(z.moved t r).answered t r.w:=by
 unfold Sh.stepped
 rw[e]
 dsimp only
 rw[if_neg hd];rfl
theorem ShInv.moved {K:Int}{z:Sh}{g:Gh}(H:ShInv K z g) {t:Nat}(ht:t<4) {w':Wk}{m':Nat->Int}(h1:m' 1=z.m 1) (hm:∀u,u<4->u≠t->m' (2+2*u)=z.m (2+2*u)/\m' (3+2*u)=z.m (3+2*u))
 (hb:ThB g t w' (z.tog t) (m' (2+2*t)) (m' (3+2*t))) (hk:QlF g.R t (z.w t) w') (hl:LockOK (m' 0) (setF z.w t w')) (hd:¬(12<=(z.w t).does/\(z.w t).does<=14))
 (ho:Xz w'->HoldOK g t (setF z.w t w') z.s):ShInv K (z.moved t ⟨w',m',z.s⟩) g:=by
 have:=H.local ht (st:=z.steps+1) (hs:=z.hist) (by omega) h1 hm (z.tog t) hb hk hl hd ho
 rw[QhO]at this;exact this
theorem ThB.busy {g:Gh}{t:Nat}{w w':Wk}{tg mo ms:Int}(T:ThB g t w tg mo ms) (h3:3<=w.does) (h15:w.does<=15) (e:w'.th=w.th/\w'.tog=w.tog/\w'.said=w.said/\w'.k=w.k/\w'.key=w.key/\w'.x=w.x/\w'.seen=w.seen) (hv:0<=w'.v/\w'.v<=g.dv) {d:Int}(hd:w'.does=d) (hi:d<=4\/10<=d->w'.i=0) (k3:3<=d) (k15:d<=15):ThB g t w' tg mo ms:=by
 subst hd
 obtain⟨e1,e2,e3,e4,e5,e6,e7⟩:=e
 exact
  { th:=e1.trans T.th,d0:=by omega,d21:=by omega,tg01:=T.tg01,one:=T.one,v0:=hv.1,v1:=hv.2,ii:=hi,se0:=by rw[e7];exact T.se0,se1:=by rw[e7];exact T.se1,se2:=by rw[e7];exact T.se2
    idle:=by intros;omega
    op:=fun _=>by rw[e4,e5,e6];exact T.op (by omega)
    tog:=fun _=>by rw[e2];exact T.tog (by omega)
    qr:=fun _=>by rw[e2];exact T.qr (by omega)
    uns:=fun _ hs=>by rw[e3,T.s3 h3 (by omega)]at hs;cases hs
    sai:=fun _ hs=>by rw[e2,e4,e5,e6];exact T.sai (by omega) (by rw[<- e3];exact hs)
    two:=by intros;omega
    s12:=by intros;omega
    s3:=fun _ _=>by rw[e3];exact T.s3 h3 (by omega)
    lk2:=by intros;omega
    lk3:=by intros;omega
    lk4:=by intros;omega
    rep:=by intros;omega }
section
variable {g:Gh}{h:Nat}{W:Nat->Wk}{s:Sto}
theorem hold4 (hd:(W h).does=4) (hV:g.V=g.dv) (hi:0<=(W h).i):HoldOK g h W s:=by
 exact { ver:=by intros;omega,low:=fun _=>hV,mid:=by intros;omega,i0:=fun _=>hi,i5:=by intros;omega,i6:=by intros;omega,i7:=by intros;omega,nx:=by intros;omega,i8:=by intros;omega,i9:=by intros;omega,i10:=by intros;omega,i11:=by intros;omega,told:=by intros;omega,i13:=by intros;omega,i14:=by intros;omega }
theorem hold5 (hd:(W h).does=5) (hV:g.V=g.dv) (hv:(W h).v=g.dv) (hi:0<=(W h).i) (h5:(W h).i<32/\(W h).asks=[]/\∀j:Nat,(j:Int)<(W h).i->(W h).r j=fL g.R.words j):HoldOK g h W s:=by
 exact { ver:=fun _ _=>hv,low:=fun _=>hV,mid:=by intros;omega,i0:=fun _=>hi,i5:=fun _=>h5,i6:=by intros;omega,i7:=by intros;omega,nx:=by intros;omega,i8:=by intros;omega,i9:=by intros;omega,i10:=by intros;omega,i11:=by intros;omega,told:=by intros;omega,i13:=by intros;omega,i14:=by intros;omega }
theorem hold6 (hd:(W h).does=6) (hV:g.V=g.dv) (hv:(W h).v=g.dv) (hi:0<=(W h).i) (h6:(W h).i<4/\(∀j,j<32->(W h).r j=fL g.R.words j)/\Gath W g.R h (W h).asks (W h).i.toNat):HoldOK g h W s:=by
 exact { ver:=fun _ _=>hv,low:=fun _=>hV,mid:=by intros;omega,i0:=fun _=>hi,i5:=by intros;omega,i6:=fun _=>h6,i7:=by intros;omega,nx:=by intros;omega,i8:=by intros;omega,i9:=by intros;omega,i10:=by intros;omega,i11:=by intros;omega,told:=by intros;omega,i13:=by intros;omega,i14:=by intros;omega }
theorem hold7 (hd:(W h).does=7) (hV:g.V=g.dv) (hv:(W h).v=g.dv) (hi:0<=(W h).i) (h7:(W h).i<4/\(∀j,j<32->(W h).r j=fL g.R.words j)/\∃l,(W h).asks=l++[⟨(W h).i.toNat,(W (W h).i.toNat).tog,0,0,0⟩]/\Gath W g.R h l (W h).i.toNat /\
 (W (W h).i.toNat).does≠0/\(W (W h).i.toNat).said=true/\Qm g.R.tog (W h).i.toNat≠(W (W h).i.toNat).tog):HoldOK g h W s:=by
 exact { ver:=fun _ _=>hv,low:=fun _=>hV,mid:=by intros;omega,i0:=fun _=>hi,i5:=by intros;omega,i6:=by intros;omega,i7:=fun _=>h7,nx:=by intros;omega,i8:=by intros;omega,i9:=by intros;omega,i10:=by intros;omega,i11:=by intros;omega,told:=by intros;omega,i13:=by intros;omega,i14:=by intros;omega }
abbrev Qd8 (g:Gh) (h:Nat) (W:Nat->Wk):Prop:=Gath W g.R h (W h).asks 4/\(W h).deeds=bD g.R (W h).asks/\(∀j,j<32->(W h).r j=fL (bDo g.R (W h).asks).words j)/\Told (bDo g.R (W h).asks) h (W h)
theorem hold8 (hd:(W h).does=8) (hV:g.V=g.dv) (hv:(W h).v=g.dv) (hi:0<=(W h).i) (hn:Qd8 g h W) (h8:(W h).i<32/\∀j:Nat,(j:Int)<(W h).i->s.now (Qq (g.V+1)+j)=fL (bDo g.R (W h).asks).words j):HoldOK g h W s:=by
 exact { ver:=fun _ _=>hv,low:=fun _=>hV,mid:=by intros;omega,i0:=fun _=>hi,i5:=by intros;omega,i6:=by intros;omega,i7:=by intros;omega,nx:=fun _ _=>hn,i8:=fun _=>h8,i9:=by intros;omega,i10:=by intros;omega,i11:=by intros;omega,told:=by intros;omega,i13:=by intros;omega,i14:=by intros;omega }
theorem hold9 (hd:(W h).does=9) (hV:g.V=g.dv) (hv:(W h).v=g.dv) (hi:0<=(W h).i) (hn:Qd8 g h W) (h9:(W h).i<4/\HasRec s.now (g.V+1) (bDo g.R (W h).asks)/\∀l:Nat,(l:Int)<(W h).i->s.want (9*h+(Qq (g.V+1)/8+l))≠0):HoldOK g h W s:=by
 exact { ver:=fun _ _=>hv,low:=fun _=>hV,mid:=by intros;omega,i0:=fun _=>hi,i5:=by intros;omega,i6:=by intros;omega,i7:=by intros;omega,nx:=fun _ _=>hn,i8:=by intros;omega,i9:=fun _=>h9,i10:=by intros;omega,i11:=by intros;omega,told:=by intros;omega,i13:=by intros;omega,i14:=by intros;omega }
theorem hold10 (hd:(W h).does=10) (hV:g.V=g.dv) (hv:(W h).v=g.dv) (hn:Qd8 g h W) (h10:HasRec s.now (g.V+1) (bDo g.R (W h).asks)/\∀l:Nat,l<4->s.want (9*h+(Qq (g.V+1)/8+l))≠0):HoldOK g h W s:=by
 exact { ver:=fun _ _=>hv,low:=fun _=>hV,mid:=by intros;omega,i0:=by intros;omega,i5:=by intros;omega,i6:=by intros;omega,i7:=by intros;omega,nx:=fun _ _=>hn,i8:=by intros;omega,i9:=by intros;omega,i10:=fun _=>h10,i11:=by intros;omega,told:=by intros;omega,i13:=by intros;omega,i14:=by intros;omega }
theorem hold11 (hd:(W h).does=11) (hV:g.V=g.dv) (hv:(W h).v=g.dv) (hn:Qd8 g h W) (h11:HasRec s.now (g.V+1) (bDo g.R (W h).asks)/\HasRec s.good (g.V+1) (bDo g.R (W h).asks)):HoldOK g h W s:=by
 exact { ver:=fun _ _=>hv,low:=fun _=>hV,mid:=by intros;omega,i0:=by intros;omega,i5:=by intros;omega,i6:=by intros;omega,i7:=by intros;omega,nx:=fun _ _=>hn,i8:=by intros;omega,i9:=by intros;omega,i10:=by intros;omega,i11:=fun _=>h11,told:=by intros;omega,i13:=by intros;omega,i14:=by intros;omega }
theorem hold12 (hd:(W h).does=12) (hV:g.V=g.dv+1) (hv:(W h).v=g.dv) (ht:Told g.R h (W h)):HoldOK g h W s:=by
 exact { ver:=fun _ _=>hv,low:=by intros;omega,mid:=fun _ _=>hV,i0:=by intros;omega,i5:=by intros;omega,i6:=by intros;omega,i7:=by intros;omega,nx:=by intros;omega,i8:=by intros;omega,i9:=by intros;omega,i10:=by intros;omega,i11:=by intros;omega,told:=fun _ _=>ht,i13:=by intros;omega,i14:=by intros;omega }
theorem hold13 (hd:(W h).does=13) (hV:g.V=g.dv+1) (hv:(W h).v=g.dv) (ht:Told g.R h (W h)) (hw:s.want (9*h)≠0):HoldOK g h W s:=by
 exact { ver:=fun _ _=>hv,low:=by intros;omega,mid:=fun _ _=>hV,i0:=by intros;omega,i5:=by intros;omega,i6:=by intros;omega,i7:=by intros;omega,nx:=by intros;omega,i8:=by intros;omega,i9:=by intros;omega,i10:=by intros;omega,i11:=by intros;omega,told:=fun _ _=>ht,i13:=fun _=>hw,i14:=by intros;omega }
theorem hold14 (hd:(W h).does=14) (hV:g.V=g.dv+1) (hv:(W h).v=g.dv) (ht:Told g.R h (W h)) (hg:s.good 0=g.V):HoldOK g h W s:=by
 exact { ver:=fun _ _=>hv,low:=by intros;omega,mid:=fun _ _=>hV,i0:=by intros;omega,i5:=by intros;omega,i6:=by intros;omega,i7:=by intros;omega,nx:=by intros;omega,i8:=by intros;omega,i9:=by intros;omega,i10:=by intros;omega,i11:=by intros;omega,told:=fun _ _=>ht,i13:=by intros;omega,i14:=fun _ _=>hg }
theorem hold15 (hd:(W h).does=15) (hV:g.V=g.dv) (ht:Told g.R h (W h)) (hg:s.good 0=g.V):HoldOK g h W s:=by
 exact { ver:=by intros;omega,low:=fun _=>hV,mid:=by intros;omega,i0:=by intros;omega,i5:=by intros;omega,i6:=by intros;omega,i7:=by intros;omega,nx:=by intros;omega,i8:=by intros;omega,i9:=by intros;omega,i10:=by intros;omega,i11:=by intros;omega,told:=fun _ _=>ht,i13:=by intros;omega,i14:=fun _ _=>hg }
end
theorem ThB.go {g:Gh}{t:Nat}{w w':Wk}{tg mo ms mo' ms':Int}(T:ThB g t w tg mo ms) (hn:w.does≠0) {d:Int}(hd:w'.does=d) (h0:0<d/\d<=21) (e:w'.th=w.th/\w'.tog=w.tog/\w'.k=w.k/\w'.key=w.key/\w'.x=w.x) (hv:0<=w'.v/\w'.v<=g.dv) (ii:d<=4\/10<=d->w'.i=0)
 (se:(0<=w'.seen 0/\w'.seen 0<16)/\U64 (w'.seen 1)/\0<=w'.seen 2/\w'.seen 2<=9223372036854775807)
 (uns:w'.said=false->ms'=0\/(ms'=tg+1/\Qm g.R.tog t=tg/\Qm g.Q.tog t=tg)) (sai:w'.said=true->ms'=w.tog+1/\mo'=opW w.k w.key w.x)
 (two:d=2->mo'=opW w.k w.key w.x) (s12:d=1\/d=2->w'.said=false) (s3:3<=d->d<=16->w'.said=true)
 (lk2:19<=d->w'.v=g.dv->w'.seen 0=g.Q.tog) (lk3:20<=d->w'.v=g.dv->w'.seen 1=g.Q.ans.getD t 0) (lk4:21<=d->w'.v=g.dv->w'.seen 2=g.Q.whn.getD t 0) (rep:d=16->Told g.Q t w'/\Told g.R t w'):ThB g t w' tg mo' ms':=by
 subst hd
 obtain⟨e1,e2,e4,e5,e6⟩:=e
 exact
  { th:=e1.trans T.th,d0:=by omega,d21:=by omega,tg01:=T.tg01,one:=T.one,v0:=hv.1,v1:=hv.2,ii:=ii,se0:=se.1,se1:=se.2.1,se2:=se.2.2
    idle:=by intros;omega
    op:=fun _=>by rw[e4,e5,e6];exact T.op hn
    tog:=fun _=>by rw[e2];exact T.tog hn
    qr:=fun _=>by rw[e2];exact T.qr hn
    uns:=fun _=>uns
    sai:=fun _ hs=>by rw[e2,e4,e5,e6];exact sai hs
    two:=fun h=>by rw[e4,e5,e6];exact two h
    s12:=s12
    s3:=s3
    lk2:=lk2
    lk3:=lk3
    lk4:=lk4
    rep:=rep }
theorem ThB.se {g:Gh}{t:Nat}{w:Wk}{tg mo ms:Int}(T:ThB g t w tg mo ms):(0<=w.seen 0/\w.seen 0<16)/\U64 (w.seen 1)/\0<=w.seen 2/\w.seen 2<=9223372036854775807:=⟨T.se0,T.se1,T.se2⟩
theorem Qt {w:Wk}{d:Int}(hd:w.does=d) (h:d<4\/15<d):¬Xz w:=fun hh=>by
 have:=hh.1
 have:=hh.2
 omega
theorem QA {R:Rec}{t:Nat}{w w':Wk}{d:Int}(hd:w'.does=d) (h:d≠0) (e:w'.tog=w.tog/\w'.said=w.said/\w'.k=w.k/\w'.key=w.key/\w'.x=w.x):QlF R t w w':=
 fun _ hs _=>⟨by rw[hd];exact h,e.2.1.trans hs,e.1,e.2.2.1,e.2.2.2.1,e.2.2.2.2⟩
section
variable {K:Int}{z:Sh}{g:Gh}{t:Nat}
theorem Qo8 (H:ShInv K z g) (ht:t<4) (hd:(z.w t).does=1):ShInv K (z.stepped t) g:=by
 have T:=H.th t ht
 have hth:=T.th
 have e:Qd (z.wst t)=(⟨{ z.w t with does:=2 },putF z.m (2+2*t) (opW (z.w t).k (z.w t).key (z.w t).x),z.s⟩,false):=by
  simp[Qd,sayP,Sh.wst,hd,hth]
 rw[Qw (by omega) e]
 have hs:=T.s12 (.inl hd)
 refine H.moved ht (Qu _ _ (by omega)) (fun u hu hne=>⟨Qu _ _ (by omega),Qu _ _ (by omega)⟩) ?_ (fun _ hs'=>by rw[hs]at hs';cases hs') ?_ (by omega) (fun hh=>absurd hh (Qt (d:=2) rfl (.inl (by decide))))
 · rw[Xb,Qu _ _ (show 3+2*t≠2+2*t by omega)]
   exact T.go (by omega) (d:=2) rfl ⟨by decide,by decide⟩ ⟨rfl,rfl,rfl,rfl,rfl⟩ ⟨T.v0,T.v1⟩ (fun _=>T.ii (by omega)) T.se (T.uns (by omega)) (fun h=>by have h:(z.w t).said=true:=h;rw[hs]at h;cases h) (fun _=>rfl) (fun _=>hs) (fun h=>absurd h (by decide)) (fun h=>absurd h (by decide)) (fun h=>absurd h (by decide)) (fun h=>absurd h (by decide)) (fun h=>absurd h (by decide))
 · rw[Qu _ _ (by omega)]
   exact LockOK.keep H.lk ⟨fun h=>absurd h (Qt (d:=2) rfl (.inl (by decide))),fun h=>absurd h (Qt hd (.inl (by decide)))⟩
theorem Qo7 (H:ShInv K z g) (ht:t<4) (hd:(z.w t).does=2):ShInv K (z.stepped t) g:=by
 have T:=H.th t ht
 have hth:=T.th
 have e:Qd (z.wst t)=(⟨{ z.w t with said:=true,does:=3 },putF z.m (3+2*t) ((z.w t).tog+1),z.s⟩,false):=by
  simp[Qd,sayP,Sh.wst,hd,hth]
 rw[Qw (by omega) e]
 have hs:=T.s12 (.inr hd)
 refine H.moved ht (Qu _ _ (by omega)) (fun u hu hne=>⟨Qu _ _ (by omega),Qu _ _ (by omega)⟩) ?_ (fun _ hs'=>by rw[hs]at hs';cases hs') ?_ (by omega) (fun hh=>absurd hh (Qt (d:=3) rfl (.inl (by decide))))
 · rw[Xb,Qu _ _ (show 2+2*t≠3+2*t by omega)]
   exact T.go (by omega) (d:=3) rfl ⟨by decide,by decide⟩ ⟨rfl,rfl,rfl,rfl,rfl⟩ ⟨T.v0,T.v1⟩ (fun _=>T.ii (by omega)) T.se (fun h=>by cases h) (fun _=>⟨rfl,T.two hd⟩) (fun h=>absurd h (by decide)) (fun h=>absurd h (by decide)) (fun _ _=>rfl) (fun h=>absurd h (by decide)) (fun h=>absurd h (by decide)) (fun h=>absurd h (by decide)) (fun h=>absurd h (by decide))
 · rw[Qu _ _ (by omega)]
   exact LockOK.keep H.lk ⟨fun h=>absurd h (Qt (d:=3) rfl (.inl (by decide))),fun h=>absurd h (Qt hd (.inl (by decide)))⟩
theorem Qo6 (H:ShInv K z g) (ht:t<4) (hd:(z.w t).does=3):ShInv K (z.stepped t) g:=by
 have T:=H.th t ht
 have hth:=T.th
 have hs:=T.s3 (by omega) (by omega)
 by_cases h0:z.m 0=0
 · have e:Qd (z.wst t)=(⟨{ z.w t with does:=4 },putF z.m 0 ((t:Int)+1),z.s⟩,false):=by
    simp[Qd,sayP,Sh.wst,hd,hth,h0]
   rw[Qw (by omega) e]
   have hfree:∀u,u<4->¬Xz (z.w u):=by
    rcases H.lk with⟨-,h⟩|⟨h,-,h2,-⟩
    · exact h
    · omega
   refine H.moved ht (Qu _ _ (by omega)) (fun u hu hne=>⟨Qu _ _ (by omega),Qu _ _ (by omega)⟩) ?_ (QA (d:=4) rfl (by decide) ⟨rfl,rfl,rfl,rfl,rfl⟩) ?_ (by omega) (fun hh=>?_)
   · rw[Qu _ _ (show 2+2*t≠0 by omega),Qu _ _ (show 3+2*t≠0 by omega)]
     exact T.go (by omega) (d:=4) rfl ⟨by decide,by decide⟩ ⟨rfl,rfl,rfl,rfl,rfl⟩ ⟨T.v0,T.v1⟩ (fun _=>T.ii (by omega)) T.se (T.uns (by omega)) (T.sai (by omega)) (fun h=>absurd h (by decide)) (fun h=>absurd h (by decide)) (fun _ _=>hs) (fun h=>absurd h (by decide)) (fun h=>absurd h (by decide)) (fun h=>absurd h (by decide)) (fun h=>absurd h (by decide))
   · rw[Xb]
     refine .inr ⟨t,ht,rfl,by rw[Qk];exact⟨by show (4:Int)<=4;decide,by show (4:Int)<=15;decide⟩,fun u hu hne=>?_⟩
     rw[Xc _ _ hne];exact hfree u hu
   · have hV:g.V=g.dv:=by
      rcases H.gl.vd with h|h
      · exact h
      · obtain⟨u,hu,a,b⟩:=H.mid h
        exact absurd ⟨by omega,by omega⟩ (hfree u hu)
     exact hold4 (by rw[Qk]) hV (by rw[Qk];exact Int.le_of_eq (T.ii (by omega)).symm)
 · have e:Qd (z.wst t)=(⟨{ z.w t with does:=17 },z.m,z.s⟩,false):=by
    simp[Qd,sayP,Sh.wst,hd,hth,h0]
   rw[Qw (by omega) e]
   refine H.moved ht rfl (fun u hu hne=>⟨rfl,rfl⟩) ?_ (QA (d:=17) rfl (by decide) ⟨rfl,rfl,rfl,rfl,rfl⟩) ?_ (by omega) (fun hh=>absurd hh (Qt (d:=17) rfl (.inr (by decide))))
   · exact T.go (by omega) (d:=17) rfl ⟨by decide,by decide⟩ ⟨rfl,rfl,rfl,rfl,rfl⟩ ⟨T.v0,T.v1⟩ (fun _=>T.ii (by omega)) T.se (T.uns (by omega)) (T.sai (by omega)) (fun h=>absurd h (by decide)) (fun h=>absurd h (by decide)) (fun _ h=>absurd h (by decide)) (fun h=>absurd h (by decide)) (fun h=>absurd h (by decide)) (fun h=>absurd h (by decide)) (fun h=>absurd h (by decide))
   · exact LockOK.keep H.lk ⟨fun h=>absurd h (Qt (d:=17) rfl (.inr (by decide))),fun h=>absurd h (Qt hd (.inl (by decide)))⟩
theorem Sum.told {D:List Vd}{R:Rec}(h:Sum K R D) (ht:t<4) (hb:Qm R.tog t=1\/R.whn.getD t 0≠0):∃c v,QV c v/\R.ans.getD t 0=ansW c v/\R.whn.getD t 0≠0:=by
 rcases h.each t ht with⟨h0,h1,h2⟩|⟨i,h1,h2,h3,h4,h5,-⟩
 · rcases hb with hb|hb
   · rw[h.bit t ht,h0]at hb;exact absurd hb (by decide)
   · exact absurd h2 hb
 · exact⟨_,_,h4,h5,by omega⟩
theorem ShInv.toldQ (H:ShInv K z g) (ht:t<4) (hn:(z.w t).does≠0) (hb:Qm g.Q.tog t=(z.w t).tog):∃c v,QV c v/\g.Q.ans.getD t 0=ansW c v/\g.Q.whn.getD t 0≠0:=by
 have T:=H.th t ht
 refine H.gl.sumQ.told ht ?_
 have:=T.tog hn
 rcases T.tg01 with h|h
 · exact .inl (by omega)
 · exact .inr (T.one h)
theorem Qcr {B:Int}{R:Rec}(h:RecOK B R):fL R.words 26=R.tog:=(Qqa R (XW h.ok) h.a4 h.w4).2.2
theorem SlotsOK.at {f:Nat->Int}(h:SlotsOK f) (v:Int):SlotOK f (Qq v):=by
 have hb:Qq v=8\/Qq v=40:=by unfold Qq;omega
 rcases hb with e|e<;>rw[e]
 · exact h.1
 · exact h.2
theorem Qk4 (H:ShInv K z g) (ht:t<4) (hd:(z.w t).does=17):ShInv K (z.stepped t) g:=by
 have T:=H.th t ht
 have e:Qd (z.wst t)=(⟨{ z.w t with v:=z.m 1,does:=18 },z.m,z.s⟩,false):=by
  simp[Qd,QW,Sh.wst,hd]
 rw[Qw (by omega) e]
 refine H.moved ht rfl (fun u hu hne=>⟨rfl,rfl⟩) ?_ (QA (d:=18) rfl (by decide) ⟨rfl,rfl,rfl,rfl,rfl⟩) ?_ (by omega) (fun hh=>absurd hh (Qt (d:=18) rfl (.inr (by decide))))
 · have hv:0<=z.m 1/\z.m 1<=g.dv:=by rw[H.gl.done];exact⟨H.gl.v0,Int.le_refl _⟩
   exact T.go (by omega) (d:=18) rfl ⟨by decide,by decide⟩ ⟨rfl,rfl,rfl,rfl,rfl⟩ hv (fun _=>T.ii (by omega)) T.se (T.uns (by omega)) (T.sai (by omega)) (fun h=>absurd h (by decide)) (fun h=>absurd h (by decide)) (fun _ h=>absurd h (by decide)) (fun h=>absurd h (by decide)) (fun h=>absurd h (by decide)) (fun h=>absurd h (by decide)) (fun h=>absurd h (by decide))
 · exact LockOK.keep H.lk ⟨fun h=>absurd h (Qt (d:=18) rfl (.inr (by decide))),fun h=>absurd h (Qt hd (.inr (by decide)))⟩
theorem Qk3 (H:ShInv K z g) (ht:t<4) (hd:(z.w t).does=18):ShInv K (z.stepped t) g:=by
 have T:=H.th t ht
 have e:Qd (z.wst t)=(⟨{ z.w t with seen:=putF (z.w t).seen 0 (z.s.now (Qq (z.w t).v+26)),does:=19 },z.m,z.s⟩,false):=by
  simp[Qd,QW,Sh.wst,hd]
 rw[Qw (by omega) e]
 refine H.moved ht rfl (fun u hu hne=>⟨rfl,rfl⟩) ?_ (QA (d:=19) rfl (by decide) ⟨rfl,rfl,rfl,rfl,rfl⟩) ?_ (by omega) (fun hh=>absurd hh (Qt (d:=19) rfl (.inr (by decide))))
 · refine T.go (by omega) (d:=19) rfl ⟨by decide,by decide⟩ ⟨rfl,rfl,rfl,rfl,rfl⟩ ⟨T.v0,T.v1⟩ (fun _=>T.ii (by omega)) ?_ (T.uns (by omega)) (T.sai (by omega)) (fun h=>absurd h (by decide)) (fun h=>absurd h (by decide)) (fun _ h=>absurd h (by decide)) (fun _ hv=>?_) (fun h=>absurd h (by decide)) (fun h=>absurd h (by decide)) (fun h=>absurd h (by decide))
   · dsimp only
     rw[Xb,Qu _ _ (by decide),Qu _ _ (by decide)]
     exact⟨(H.gl.rNow.at _).1,T.se1,T.se2⟩
   · dsimp only at hv ⊢
     rw[Xb,hv,H.gl.nowQ 26 (by decide),Qcr H.gl.sumQ.ok]
 · exact LockOK.keep H.lk ⟨fun h=>absurd h (Qt (d:=19) rfl (.inr (by decide))),fun h=>absurd h (Qt hd (.inr (by decide)))⟩
theorem Qk2 (H:ShInv K z g) (ht:t<4) (hd:(z.w t).does=19):ShInv K (z.stepped t) g:=by
 have T:=H.th t ht
 have hth:=T.th
 have e:Qd (z.wst t)=(⟨{ z.w t with seen:=putF (z.w t).seen 1 (z.s.now (Qq (z.w t).v+18+t)),does:=20 },z.m,z.s⟩,false):=by
  simp[Qd,QW,Sh.wst,hd,hth]
 rw[Qw (by omega) e]
 refine H.moved ht rfl (fun u hu hne=>⟨rfl,rfl⟩) ?_ (QA (d:=20) rfl (by decide) ⟨rfl,rfl,rfl,rfl,rfl⟩) ?_ (by omega) (fun hh=>absurd hh (Qt (d:=20) rfl (.inr (by decide))))
 · refine T.go (by omega) (d:=20) rfl ⟨by decide,by decide⟩ ⟨rfl,rfl,rfl,rfl,rfl⟩ ⟨T.v0,T.v1⟩ (fun _=>T.ii (by omega)) ?_ (T.uns (by omega)) (T.sai (by omega)) (fun h=>absurd h (by decide)) (fun h=>absurd h (by decide)) (fun _ h=>absurd h (by decide)) (fun _ hv=>?_) (fun _ hv=>?_) (fun h=>absurd h (by decide)) (fun h=>absurd h (by decide))
   · dsimp only
     rw[Qu _ _ (by decide),Xb,Qu _ _ (by decide)]
     exact⟨T.se0,((H.gl.rNow.at _).2 t ht).1,T.se2⟩
   · dsimp only at hv ⊢
     rw[Qu _ _ (by decide)];exact T.lk2 (by omega) hv
   · dsimp only at hv ⊢
     rw[Xb,hv,Nat.add_assoc,H.gl.nowQ (18+t) (by omega),QgD H.gl.sumQ.ok t ht];rfl
 · exact LockOK.keep H.lk ⟨fun h=>absurd h (Qt (d:=20) rfl (.inr (by decide))),fun h=>absurd h (Qt hd (.inr (by decide)))⟩
theorem Qk1 (H:ShInv K z g) (ht:t<4) (hd:(z.w t).does=20):ShInv K (z.stepped t) g:=by
 have T:=H.th t ht
 have hth:=T.th
 have e:Qd (z.wst t)=(⟨{ z.w t with seen:=putF (z.w t).seen 2 (z.s.now (Qq (z.w t).v+22+t)),does:=21 },z.m,z.s⟩,false):=by
  simp[Qd,QW,Sh.wst,hd,hth]
 rw[Qw (by omega) e]
 refine H.moved ht rfl (fun u hu hne=>⟨rfl,rfl⟩) ?_ (QA (d:=21) rfl (by decide) ⟨rfl,rfl,rfl,rfl,rfl⟩) ?_ (by omega) (fun hh=>absurd hh (Qt (d:=21) rfl (.inr (by decide))))
 · refine T.go (by omega) (d:=21) rfl ⟨by decide,by decide⟩ ⟨rfl,rfl,rfl,rfl,rfl⟩ ⟨T.v0,T.v1⟩ (fun _=>T.ii (by omega)) ?_ (T.uns (by omega)) (T.sai (by omega)) (fun h=>absurd h (by decide)) (fun h=>absurd h (by decide)) (fun _ h=>absurd h (by decide)) (fun _ hv=>?_) (fun _ hv=>?_) (fun _ hv=>?_) (fun h=>absurd h (by decide))
   · dsimp only
     rw[Qu _ _ (by decide),Qu _ _ (by decide),Xb]
     exact⟨T.se0,T.se1,((H.gl.rNow.at _).2 t ht).2⟩
   · dsimp only at hv ⊢
     rw[Qu _ _ (by decide)];exact T.lk2 (by omega) hv
   · dsimp only at hv ⊢
     rw[Qu _ _ (by decide)];exact T.lk3 (by omega) hv
   · dsimp only at hv ⊢
     rw[Xb,hv,Nat.add_assoc,H.gl.nowQ (22+t) (by omega),QgC H.gl.sumQ.ok t ht];rfl
 · exact LockOK.keep H.lk ⟨fun h=>absurd h (Qt (d:=21) rfl (.inr (by decide))),fun h=>absurd h (Qt hd (.inr (by decide)))⟩
theorem ShInv.answer (H:ShInv K z g) (ht:t<4) (hn:(z.w t).does≠0) (hh:¬Xz (z.w t)) (hb:Qm g.Q.tog t=(z.w t).tog) {w':Wk}(e0:w'.does=0) (e:w'.th=(z.w t).th/\w'.tog=(z.w t).tog/\w'.seen=(z.w t).seen/\w'.v=(z.w t).v/\w'.i=(z.w t).i) (hi:(z.w t).i=0):
 ShInv K ((z.moved t ⟨w',z.m,z.s⟩).answered t w') g:=by
 have T:=H.th t ht
 obtain⟨e1,e2,e3,e4,e5⟩:=e
 have hr:=T.qr hn hb
 have hg:=T.tog hn
 obtain⟨c,v,-,-,hw⟩:=H.toldQ ht hn hb
 have:=H.local ht (w':=w') (m':=z.m) (st:=z.steps+1) (hs:=z.hist++[⟨2,t,w'.k,w'.key,w'.x,w'.oc,w'.ov,w'.whn,z.steps+1⟩]) (by omega) rfl (fun u hu hne=>⟨rfl,rfl⟩) w'.tog ?_ (fun _ _ h=>absurd hr h) (LockOK.keep H.lk ⟨fun h=>absurd h (Qt e0 (.inl (by decide))),fun h=>absurd h hh⟩) (fun h=>hh ⟨by omega,by omega⟩) (fun h=>absurd h (Qt e0 (.inl (by decide))))
 · exact this
 · exact
    { th:=e1.trans T.th,d0:=by omega,d21:=by omega
      tg01:=by have:=T.tg01;omega
      one:=fun _=>hw
      v0:=by rw[e4];exact T.v0
      v1:=by rw[e4];exact T.v1
      ii:=fun _=>e5.trans hi
      se0:=by rw[e3];exact T.se0
      se1:=by rw[e3];exact T.se1
      se2:=by rw[e3];exact T.se2
      idle:=fun _=>by
       refine⟨by rw[e2];exact hr,by rw[e2];exact hb,?_⟩
       cases hs:(z.w t).said
       · rcases T.uns hn hs with h|⟨-,-,h⟩
         · exact .inl h
         · exact absurd hb (by omega)
       · rw[e2];exact .inr (T.sai hn hs).1
      op:=by intros;omega
      tog:=by intros;omega
      qr:=by intros;omega
      uns:=by intros;omega
      sai:=by intros;omega
      two:=by intros;omega
      s12:=by intros;omega
      s3:=by intros;omega
      lk2:=by intros;omega
      lk3:=by intros;omega
      lk4:=by intros;omega
      rep:=by intros;omega }
theorem Qk0 (H:ShInv K z g) (ht:t<4) (hd:(z.w t).does=21):ShInv K (z.stepped t) g:=by
 have T:=H.th t ht
 have hth:=T.th
 by_cases hc:z.m 1=(z.w t).v/\Qm ((z.w t).seen 0) t=(z.w t).tog
 · have e:Qd (z.wst t)=(⟨{ z.w t with oc:=(z.w t).seen 1/4294967296%4294967296,ov:=(z.w t).seen 1%4294967296,whn:=(z.w t).seen 2,does:=0 },z.m,z.s⟩,true):=by
    have h1:(z.wst t).m 1=(z.wst t).w.v/\Qm ((z.wst t).w.seen 0) (z.wst t).w.th=(z.wst t).w.tog:=⟨hc.1,by show Qm ((z.w t).seen 0) (z.w t).th=_;rw[hth];exact hc.2⟩
    have h2:Qd (z.wst t)=QW (z.wst t):=by simp[Qd,Sh.wst,hd]
    rw[h2,QhU _ hd,if_pos h1];rfl
   rw[Qb8 (by omega) e]
   have hv:(z.w t).v=g.dv:=by rw[<- hc.1];exact H.gl.done
   refine H.answer ht (by omega) (Qt hd (.inr (by decide))) ?_ rfl ⟨rfl,rfl,rfl,rfl,rfl⟩ (T.ii (by omega))
   rw[<- T.lk2 (by omega) hv];exact hc.2
 · have e:Qd (z.wst t)=(⟨{ z.w t with does:=if (z.w t).said then 3 else 1 },z.m,z.s⟩,false):=by
    have h1:¬((z.wst t).m 1=(z.wst t).w.v/\Qm ((z.wst t).w.seen 0) (z.wst t).w.th=(z.wst t).w.tog):=fun h=>hc ⟨h.1,by have h2:Qm ((z.w t).seen 0) (z.w t).th=_:=h.2;rw[hth]at h2;exact h2⟩
    have h2:Qd (z.wst t)=QW (z.wst t):=by simp[Qd,Sh.wst,hd]
    rw[h2,QhU _ hd,if_neg h1];rfl
   rw[Qw (by omega) e]
   cases hs:(z.w t).said
   · rw[if_neg (by decide)]
     refine H.moved ht rfl (fun u hu hne=>⟨rfl,rfl⟩) ?_ (QA (d:=1) rfl (by decide) ⟨rfl,rfl,rfl,rfl,rfl⟩) ?_ (by omega) (fun hh=>absurd hh (Qt (d:=1) rfl (.inl (by decide))))
     · exact T.go (by omega) (d:=1) rfl ⟨by decide,by decide⟩ ⟨rfl,rfl,rfl,rfl,rfl⟩ ⟨T.v0,T.v1⟩ (fun _=>T.ii (by omega)) T.se (T.uns (by omega)) (T.sai (by omega)) (fun h=>absurd h (by decide)) (fun _=>hs) (fun h=>absurd h (by decide)) (fun h=>absurd h (by decide)) (fun h=>absurd h (by decide)) (fun h=>absurd h (by decide)) (fun h=>absurd h (by decide))
     · exact LockOK.keep H.lk ⟨fun h=>absurd h (Qt (d:=1) rfl (.inl (by decide))),fun h=>absurd h (Qt hd (.inr (by decide)))⟩
   · rw[if_pos rfl]
     refine H.moved ht rfl (fun u hu hne=>⟨rfl,rfl⟩) ?_ (QA (d:=3) rfl (by decide) ⟨rfl,rfl,rfl,rfl,rfl⟩) ?_ (by omega) (fun hh=>absurd hh (Qt (d:=3) rfl (.inl (by decide))))
     · exact T.go (by omega) (d:=3) rfl ⟨by decide,by decide⟩ ⟨rfl,rfl,rfl,rfl,rfl⟩ ⟨T.v0,T.v1⟩ (fun _=>T.ii (by omega)) T.se (T.uns (by omega)) (T.sai (by omega)) (fun h=>absurd h (by decide)) (fun h=>absurd h (by decide)) (fun _ _=>hs) (fun h=>absurd h (by decide)) (fun h=>absurd h (by decide)) (fun h=>absurd h (by decide)) (fun h=>absurd h (by decide))
     · exact LockOK.keep H.lk ⟨fun h=>absurd h (Qt (d:=3) rfl (.inl (by decide))),fun h=>absurd h (Qt hd (.inr (by decide)))⟩
theorem QmW (H:ShInv K z g) (ht:t<4) (hd:(z.w t).does=16):ShInv K (z.stepped t) g:=by
 have T:=H.th t ht
 have e:Qd (z.wst t)=(⟨{ z.w t with does:=0 },z.m,z.s⟩,true):=by
  simp[Qd,QaP,Sh.wst,hd]
 rw[Qb8 (by omega) e]
 exact H.answer ht (by omega) (Qt hd (.inr (by decide))) (T.rep hd).1.bit rfl ⟨rfl,rfl,rfl,rfl,rfl⟩ (T.ii (by omega))
end
end
section
theorem QnZ:∀ {l:List Ask}{lo n:Nat},l.Pairwise (fun a b=>a.t<b.t)->(∀a∈l,lo<=a.t/\a.t<n)->l.length<=n-lo
 |[],_,_,_,_=>Nat.zero_le _
 |a::l,lo,n,h,hb=>by
  rw[List.pairwise_cons]at h
  have h1:=hb a List.mem_cons_self
  have:=QnZ (lo:=a.t+1) (n:=n) h.2 (fun b hm=>⟨h.1 b hm,(hb b (List.mem_cons_of_mem _ hm)).2⟩)
  rw[List.length_cons];omega
theorem Sum.whn_iff {K:Int}{R:Rec}{D:List Vd}(h:Sum K R D) {t:Nat}(ht:t<4):R.whn.getD t 0≠0↔cntT t D≠0:=by
 rcases h.each t ht with⟨h0,h1,h2⟩|⟨i,h1,h2,h3,h4,h5,-⟩
 · exact⟨fun h=>absurd h2 h,fun h=>absurd h0 h⟩
 · refine⟨fun _ h=>?_,fun _=>by omega⟩
   unfold cntT at h
   rw[List.countP_eq_zero]at h
   rw[List.getD_eq_getElem?_getD,List.getElem?_eq_getElem h2]at h3
   exact h _ (List.getElem_mem h2) (by simpa using h3)
theorem Qi8 (t:Nat) (D E:List Vd):cntT t (D++E)=cntT t D+cntT t E:=by unfold cntT;exact List.countP_append
theorem Sum.whn_mono {K:Int}{R R':Rec}{D E:List Vd}(h:Sum K R D) (h':Sum K R' (D++E)) {t:Nat}(ht:t<4) (hw:R.whn.getD t 0≠0):R'.whn.getD t 0≠0:=by
 rw[h'.whn_iff ht,Qi8]
 have:=(h.whn_iff ht).1 hw
 omega
section
variable {K:Int}{z:Sh}{g:Gh}{t:Nat}
theorem Want.okA (H:ShInv K z g) {R:Rec}{a:Ask}(h:Want z.w R a):a.ok:=by
 have T:=H.th a.t h.t4
 refine⟨h.t4,?_,?_⟩
 · have h1:=T.tog h.act
   have h2:=T.tg01
   rw[h.tog]at h1
   omega
 · have:=T.op h.act
   rw[h.k,h.key,h.x]at this;exact this
theorem Gath.okA (H:ShInv K z g) {R:Rec}{h:Nat}{l:List Ask}{i:Nat}(hg:Gath z.w R h l i):AsksOK l:=fun a ha=>(hg.want a ha).okA H
theorem Gath.len {W:Nat->Wk}{R:Rec}{h:Nat}{l:List Ask}{i:Nat}(hg:Gath W R h l i):l.length<=i:=
 QnZ (lo:=0) hg.asc (fun a ha=>⟨Nat.zero_le _,hg.lt a ha⟩)
theorem Gath.mine (H:ShInv K z g) {R:Rec}{D:List Vd}(hR:Sum K R D) (ht:t<4) {l:List Ask}(hg:Gath z.w R t l 4):Qm (bR R l).tog t=(z.w t).tog:=by
 have hok:=hg.okA H
 by_cases h:∃a∈l,a.t=t
 · obtain⟨a,ha,e⟩:=h
   have h1:=Qhs hR.ok hok (hg.asc.imp (fun h=>Nat.ne_of_lt h)) a ha
   have h2:Qm (bR R l).tog a.t=a.g:=by simpa [bOpen] using h1
   rw[<- e,h2];exact ((hg.want a ha).tog).symm
 · rcases hg.own ht with h1|h1
   · rw[(Qff hR.ok hok t ht (fun a ha e=>h ⟨a,ha,e⟩)).2.2];exact h1
   · exact absurd h1 h
theorem Glob.next (G:Glob K z g) (hs:z.steps<100000000) {l:List Ask}(hok:AsksOK l):Sum K (bDo g.R l) (z.deeds++(bD g.R l).map (Vd.mk (g.V+1)))/\(bDo g.R l).ver=g.V+1:=by
 have h1:=G.sumR.batch (g.V+1) hok
 have h2:=Qio l g.R
 have h3:=G.verR
 have h4:=G.vb
 have h5:=G.v0
 have h6:=G.vd
 refine⟨h1.at (by omega) (by omega),?_⟩
 show (bR g.R l).ver+1=_
 omega
theorem Qfk {f:Nat->Int}{R:Rec}{B:Int}(h:RecOK B R) (e:∀j,j<32->f j=fL R.words j):toN 32 f=R.words:=
 (QdB e).trans (Qbu (Rec.words_len h))
theorem Qh1 (H:ShInv K z g) (ht:t<4) (hs:z.steps<100000000) {w0:Wk}(hd:6<=(z.w t).does) (hd2:(z.w t).does<=7) (hV:g.V=g.dv) (hv:(z.w t).v=g.dv) (hi:0<=(z.w t).i) (hi4:(z.w t).i<4) (hr:∀j,j<32->(z.w t).r j=fL g.R.words j)
 {l:List Ask}(h0:w0={ z.w t with asks:=l,does:=6 }) (hG:Gath z.w g.R t l ((z.w t).i.toNat+1)):ShInv K (z.moved t ⟨(Wk.next w0 4 8).all,z.m,z.s⟩) g:=by
 have T:=H.th t ht
 have hth:=T.th
 subst h0
 have hho:Xz (z.w t):=⟨by omega,by omega⟩
 unfold Wk.next
 by_cases e4:(z.w t).i+1=4
 · rw[if_pos (by exact e4)]
   have hrec:Qml (z.w t).r=g.R:=Qjw H.gl.sumR.ok (by have:=H.gl.cb;omega) (Qfk H.gl.sumR.ok hr)
   unfold Wk.all
   rw[if_pos rfl]
   dsimp only
   rw[hrec]
   have hG4:Gath z.w g.R t l 4:=by rw[show (4:Nat)=(z.w t).i.toNat+1 by omega];exact hG
   have hok:=hG4.okA H
   have hN:=(H.gl.next hs hok).1
   have hbit:Qm (bDo g.R l).tog t=(z.w t).tog:=hG4.mine H H.gl.sumR ht
   have htold:∃c v,QV c v/\(bDo g.R l).ans.getD t 0=ansW c v/\(bDo g.R l).whn.getD t 0≠0:=by
    refine hN.told ht ?_
    have h1:=T.tog (by omega)
    rcases T.tg01 with h|h
    · exact .inl (by rw[hbit];omega)
    · refine .inr (H.gl.sumR.whn_mono hN ht ?_)
      rw[(H.gl.same hV).1];exact T.one h
   obtain⟨c,v,hA,ha,-⟩:=htold
   have hc:=Qd7 hA
   refine H.moved ht rfl (fun u hu hne=>⟨rfl,rfl⟩) ?_ (QA (d:=8) rfl (by decide) ⟨rfl,rfl,rfl,rfl,rfl⟩) (LockOK.keep H.lk ⟨fun _=>hho,fun _=>⟨by show (4:Int)<=8;decide,by show (8:Int)<=15;decide⟩⟩) (by omega) (fun hh=>?_)
   · exact T.busy (by omega) (by omega) ⟨rfl,rfl,rfl,rfl,rfl,rfl,rfl⟩ ⟨T.v0,T.v1⟩ (d:=8) rfl (fun h=>absurd h (by decide)) (by decide) (by decide)
   · refine hold8 (by rw[Qk]) hV (by rw[Qk];exact hv) (by rw[Qk];exact Int.le_refl 0) ⟨?_,?_,?_,?_⟩ ?_
     · rw[Qk]
       exact hG4.other (QA (d:=8) rfl (by decide) ⟨rfl,rfl,rfl,rfl,rfl⟩) (fun _=>rfl)
     · rw[Qk]
     · rw[Qk];exact fun j _=>rfl
     · rw[Qk]
       have ew:fL (bDo g.R l).words (18+t)=ansW c v:=(QgD hN.ok t ht).trans ha
       refine⟨hbit,?_,?_,?_⟩
       · show QV (fL (bDo g.R l).words (18+(z.w t).th)/4294967296%4294967296) (fL (bDo g.R l).words (18+(z.w t).th)%4294967296)
         rw[hth,ew,hc.1,hc.2.1];exact hA
       · show _=ansW (fL (bDo g.R l).words (18+(z.w t).th)/4294967296%4294967296) (fL (bDo g.R l).words (18+(z.w t).th)%4294967296)
         rw[hth,ew,hc.1,hc.2.1];exact ha
       · show _=fL (bDo g.R l).words (22+(z.w t).th)
         rw[hth,QgC hN.ok t ht];rfl
     · rw[Qk]
       exact⟨by show (0:Int)<32;decide,fun j hj=>by have hj:(j:Int)<0:=hj;omega⟩
 · rw[if_neg (by exact e4),Wk.all_not (by show (6:Int)≠8;decide)]
   refine H.moved ht rfl (fun u hu hne=>⟨rfl,rfl⟩) ?_ (QA (d:=6) rfl (by decide) ⟨rfl,rfl,rfl,rfl,rfl⟩) (LockOK.keep H.lk ⟨fun _=>hho,fun _=>⟨by show (4:Int)<=6;decide,by show (6:Int)<=15;decide⟩⟩) (by omega) (fun hh=>?_)
   · exact T.busy (by omega) (by omega) ⟨rfl,rfl,rfl,rfl,rfl,rfl,rfl⟩ ⟨T.v0,T.v1⟩ (d:=6) rfl (fun h=>absurd h (by decide)) (by decide) (by decide)
   · refine hold6 (by rw[Qk]) hV (by rw[Qk];exact hv) (by rw[Qk];show 0<=(z.w t).i+1;omega) ?_
     rw[Qk]
     refine⟨by show (z.w t).i+1<4;omega,hr,?_⟩
     show Gath _ g.R t l ((z.w t).i+1).toNat
     rw[show ((z.w t).i+1).toNat=(z.w t).i.toNat+1 by omega]
     exact hG.other (QA (d:=6) rfl (by decide) ⟨rfl,rfl,rfl,rfl,rfl⟩) (fun _=>rfl)
theorem Qm3 (H:ShInv K z g) (ht:t<4) (hd:(z.w t).does=4):ShInv K (z.stepped t) g:=by
 have T:=H.th t ht
 have hho:Xz (z.w t):=⟨by omega,by omega⟩
 have O:=H.ho t ht hho
 have hV:=O.low (.inl (by omega))
 have e:Qd (z.wst t)=(⟨{ z.w t with v:=z.m 1,i:=0,does:=5,asks:=[] },z.m,z.s⟩,false):=by
  simp[Qd,Qar,Sh.wst,hd]
 rw[Qw (by omega) e]
 have hv:0<=z.m 1/\z.m 1<=g.dv:=by rw[H.gl.done];exact⟨H.gl.v0,Int.le_refl _⟩
 refine H.moved ht rfl (fun u hu hne=>⟨rfl,rfl⟩) ?_ (QA (d:=5) rfl (by decide) ⟨rfl,rfl,rfl,rfl,rfl⟩) (LockOK.keep H.lk ⟨fun _=>hho,fun _=>⟨by show (4:Int)<=5;decide,by show (5:Int)<=15;decide⟩⟩) (by omega) (fun hh=>?_)
 · exact T.busy (by omega) (by omega) ⟨rfl,rfl,rfl,rfl,rfl,rfl,rfl⟩ hv (d:=5) rfl (fun h=>absurd h (by decide)) (by decide) (by decide)
 · refine hold5 (by rw[Qk]) hV (by rw[Qk];exact H.gl.done) (by rw[Qk];exact Int.le_refl 0) ?_
   rw[Qk]
   exact⟨by show (0:Int)<32;decide,rfl,fun j hj=>by have hj:(j:Int)<0:=hj;omega⟩
theorem Qm2 (H:ShInv K z g) (ht:t<4) (hd:(z.w t).does=5):ShInv K (z.stepped t) g:=by
 have T:=H.th t ht
 have hho:Xz (z.w t):=⟨by omega,by omega⟩
 have O:=H.ho t ht hho
 have hV:=O.low (.inl (by omega))
 have hv:=O.ver (by omega) (by omega)
 have hi:=O.i0 (by omega)
 obtain⟨h32,has,hr⟩:=O.i5 hd
 have e:Qd (z.wst t)=(⟨Wk.next { z.w t with r:=putF (z.w t).r (z.w t).i.toNat (z.s.now (Qq (z.w t).v+(z.w t).i.toNat)) } 32 6,z.m,z.s⟩,false):=by
  simp[Qd,Qar,Sh.wst,hd]
 rw[Qw (by omega) e]
 have hr':∀j:Nat,(j:Int)<(z.w t).i+1->putF (z.w t).r (z.w t).i.toNat (z.s.now (Qq (z.w t).v+(z.w t).i.toNat)) j=fL g.R.words j:=fun j hj=>by
  by_cases ej:j=(z.w t).i.toNat
  · subst ej
    rw[Xb,hv,<- hV]
    exact H.gl.nowR _ (by omega)
  · rw[Qu _ _ ej];exact hr j (by omega)
 unfold Wk.next
 by_cases e4:(z.w t).i+1=32
 · rw[if_pos (by exact e4)]
   refine H.moved ht rfl (fun u hu hne=>⟨rfl,rfl⟩) ?_ (QA (d:=6) rfl (by decide) ⟨rfl,rfl,rfl,rfl,rfl⟩) (LockOK.keep H.lk ⟨fun _=>hho,fun _=>⟨by show (4:Int)<=6;decide,by show (6:Int)<=15;decide⟩⟩) (by omega) (fun hh=>?_)
   · exact T.busy (by omega) (by omega) ⟨rfl,rfl,rfl,rfl,rfl,rfl,rfl⟩ ⟨T.v0,T.v1⟩ (d:=6) rfl (fun h=>absurd h (by decide)) (by decide) (by decide)
   · refine hold6 (by rw[Qk]) hV (by rw[Qk];exact hv) (by rw[Qk];exact Int.le_refl 0) ?_
     rw[Qk]
     refine⟨by show (0:Int)<4;decide,fun j hj=>hr' j (by omega),?_⟩
     show Gath _ g.R t (z.w t).asks 0
     rw[has]
     exact⟨List.Pairwise.nil,fun a ha=>(by cases ha),fun a ha=>(by cases ha),fun h=>absurd h (Nat.not_lt_zero _)⟩
 · rw[if_neg (by exact e4)]
   refine H.moved ht rfl (fun u hu hne=>⟨rfl,rfl⟩) ?_ (QA (d:=5) hd (by decide) ⟨rfl,rfl,rfl,rfl,rfl⟩) (LockOK.keep H.lk ⟨fun _=>hho,fun _=>⟨by show (4:Int)<=(z.w t).does;omega,by show (z.w t).does<=15;omega⟩⟩) (by omega) (fun hh=>?_)
   · exact T.busy (by omega) (by omega) ⟨rfl,rfl,rfl,rfl,rfl,rfl,rfl⟩ ⟨T.v0,T.v1⟩ (d:=5) hd (fun h=>absurd h (by decide)) (by decide) (by decide)
   · refine hold5 (by rw[Qk];exact hd) hV (by rw[Qk];exact hv) (by rw[Qk];show 0<=(z.w t).i+1;omega) ?_
     rw[Qk]
     exact⟨by show (z.w t).i+1<32;omega,has,hr'⟩
theorem ShInv.wants (H:ShInv K z g) {u:Nat}(hu:u<4) (h0:z.m (3+2*u)≠0) (h1:z.m (3+2*u)-1≠Qm g.R.tog u):(z.w u).does≠0/\(z.w u).said=true/\z.m (3+2*u)-1=(z.w u).tog/\z.m (2+2*u)=opW (z.w u).k (z.w u).key (z.w u).x:=by
 have T:=H.th u hu
 have hn:(z.w u).does≠0:=fun h=>by
  obtain⟨a,-,b⟩:=T.idle h
  rcases b with b|b<;>omega
 cases hs:(z.w u).said
 · rcases T.uns hn hs with h|⟨h,h2,-⟩
   · exact absurd h h0
   · exact absurd h2 (by omega)
 · have:=T.sai hn hs
   exact⟨hn,rfl,by omega,this.2⟩
theorem Qm1 (H:ShInv K z g) (ht:t<4) (hs:z.steps<100000000) (hd:(z.w t).does=6):ShInv K (z.stepped t) g:=by
 have T:=H.th t ht
 have hho:Xz (z.w t):=⟨by omega,by omega⟩
 have O:=H.ho t ht hho
 have hV:=O.low (.inl (by omega))
 have hv:=O.ver (by omega) (by omega)
 have hi:=O.i0 (by omega)
 obtain⟨h4,hr,hG⟩:=O.i6 hd
 have h26:(z.w t).r 26=g.R.tog:=(hr 26 (by decide)).trans (Qcr H.gl.sumR.ok)
 have hu:(z.w t).i.toNat<4:=by omega
 by_cases hc:z.m (3+2*(z.w t).i.toNat)≠0/\z.m (3+2*(z.w t).i.toNat)-1≠Qm ((z.w t).r 26) (z.w t).i.toNat
 · have e:Qd (z.wst t)=(⟨{ z.w t with asks:=(z.w t).asks++[⟨(z.w t).i.toNat,z.m (3+2*(z.w t).i.toNat)-1,0,0,0⟩],does:=7 },z.m,z.s⟩,false):=by
    have h2:Qd (z.wst t)=(Qar (z.wst t),false):=by simp[Qd,Sh.wst,hd]
    rw[h2]
    unfold Qar
    rw[if_neg (by show ¬(z.w t).does=4;omega),if_neg (by show ¬(z.w t).does=5;omega),if_pos (by exact hd),if_pos (by exact hc)];rfl
   rw[Qw (by omega) e]
   obtain⟨w1,w2,w3,w4⟩:=H.wants hu hc.1 (by rw[<- h26];exact hc.2)
   refine H.moved ht rfl (fun u hu hne=>⟨rfl,rfl⟩) ?_ (QA (d:=7) rfl (by decide) ⟨rfl,rfl,rfl,rfl,rfl⟩) (LockOK.keep H.lk ⟨fun _=>hho,fun _=>⟨by show (4:Int)<=7;decide,by show (7:Int)<=15;decide⟩⟩) (by omega) (fun hh=>?_)
   · exact T.busy (by omega) (by omega) ⟨rfl,rfl,rfl,rfl,rfl,rfl,rfl⟩ ⟨T.v0,T.v1⟩ (d:=7) rfl (fun h=>absurd h (by decide)) (by decide) (by decide)
   · generalize hw':({ z.w t with asks:=(z.w t).asks++[⟨(z.w t).i.toNat,z.m (3+2*(z.w t).i.toNat)-1,0,0,0⟩],does:=7 }:Wk)=w'
     have f1:w'.does=7/\w'.v=(z.w t).v/\w'.i=(z.w t).i/\w'.r=(z.w t).r/\w'.asks=(z.w t).asks++[⟨(z.w t).i.toNat,z.m (3+2*(z.w t).i.toNat)-1,0,0,0⟩]/\w'.tog=(z.w t).tog/\w'.said=(z.w t).said/\w'.k=(z.w t).k/\w'.key=(z.w t).key/\w'.x=(z.w t).x:=by
      subst hw';exact⟨rfl,rfl,rfl,rfl,rfl,rfl,rfl,rfl,rfl,rfl⟩
     obtain⟨f1,f2,f3,f4,f5,f6,f7,f8,f9,f10⟩:=f1
     have key:(setF z.w t w' (z.w t).i.toNat).does≠0/\(setF z.w t w' (z.w t).i.toNat).said=true/\(setF z.w t w' (z.w t).i.toNat).tog=(z.w (z.w t).i.toNat).tog:=by
      by_cases eu:(z.w t).i.toNat=t
      · rw[eu,Qk,f1,f6,f7]
        rw[eu]at w2
        exact⟨by decide,w2,rfl⟩
      · rw[Xc _ _ eu];exact⟨w1,w2,rfl⟩
     refine hold7 (by rw[Qk];exact f1) hV (by rw[Qk,f2];exact hv) (by rw[Qk,f3];exact hi) ?_
     rw[Qk,f3,f4,f5,key.2.2]
     exact⟨h4,hr,(z.w t).asks,by rw[w3],hG.other (QA f1 (by decide) ⟨f6,f7,f8,f9,f10⟩) (fun _=>f6),key.1,key.2.1,by rw[<- w3,<- h26];exact fun h=>hc.2 h.symm⟩
 · have e:Qd (z.wst t)=(⟨(Wk.next (z.w t) 4 8).all,z.m,z.s⟩,false):=by
    have h2:Qd (z.wst t)=(Qar (z.wst t),false):=by simp[Qd,Sh.wst,hd]
    rw[h2]
    unfold Qar
    rw[if_neg (by show ¬(z.w t).does=4;omega),if_neg (by show ¬(z.w t).does=5;omega),if_pos (by exact hd),if_neg (by exact hc)];rfl
   rw[Qw (by omega) e]
   have h0:z.w t={ z.w t with asks:=(z.w t).asks,does:=6 }:=by rw[<- hd]
   refine Qh1 H ht hs (by omega) (by omega) hV hv hi h4 hr h0 ⟨hG.asc,fun a ha=>Nat.lt_succ_of_lt (hG.lt a ha),hG.want,fun hlt=>?_⟩
   by_cases eu:(z.w t).i.toNat=t
   · refine .inl ?_
     have h1:=T.sai (by omega) (T.s3 (by omega) (by omega))
     have h2:=T.tog (by omega)
     have h3:=T.tg01
     rw[h26,eu]at hc
     refine Classical.byContradiction fun hne=>hc ⟨by omega,fun h=>hne (by omega)⟩
   · exact hG.own (by omega)
theorem Qm0 (H:ShInv K z g) (ht:t<4) (hs:z.steps<100000000) (hd:(z.w t).does=7):ShInv K (z.stepped t) g:=by
 have T:=H.th t ht
 have hho:Xz (z.w t):=⟨by omega,by omega⟩
 have O:=H.ho t ht hho
 have hV:=O.low (.inl (by omega))
 have hv:=O.ver (by omega) (by omega)
 have hi:=O.i0 (by omega)
 obtain⟨h4,hr,l,hl,hG,w1,w2,w3⟩:=O.i7 hd
 have hu:(z.w t).i.toNat<4:=by omega
 have U:=H.th _ hu
 have hop:=Qjz (U.op w1)
 have hmo:=(U.sai w1 w2).2
 have e:Qd (z.wst t)=(⟨(Wk.next { z.w t with asks:=l++[⟨(z.w t).i.toNat,(z.w (z.w t).i.toNat).tog,(z.w (z.w t).i.toNat).k,(z.w (z.w t).i.toNat).key,(z.w (z.w t).i.toNat).x⟩],does:=6 } 4 8).all,z.m,z.s⟩,false):=by
  have h2:Qd (z.wst t)=(Qar (z.wst t),false):=by simp[Qd,Sh.wst,hd]
  rw[h2]
  unfold Qar
  rw[if_neg (by show ¬(z.w t).does=4;omega),if_neg (by show ¬(z.w t).does=5;omega),if_neg (by show ¬(z.w t).does=6;omega)]
  show ((⟨(Wk.next { z.w t with asks:=Xl (z.w t).asks (z.m (2+2*(z.w t).i.toNat)/281474976710656%65536) (z.m (2+2*(z.w t).i.toNat)/4294967296%65536) (z.m (2+2*(z.w t).i.toNat)%4294967296),does:=6 } 4 8).all,z.m,z.s⟩:WSt),false)=_
  rw[hl,Qbx,hmo,hop.1,hop.2.1,hop.2.2.1]
 rw[Qw (by omega) e]
 refine Qh1 H ht hs (by omega) (by omega) hV hv hi h4 hr rfl ⟨?_,fun a ha=>?_,fun a ha=>?_,fun hlt=>?_⟩
 · exact List.pairwise_append.2 ⟨hG.asc,List.pairwise_singleton _ _,fun a ha b hb=>by obtain rfl:=List.mem_singleton.1 hb;exact hG.lt a ha⟩
 · rcases List.mem_append.1 ha with ha|ha
   · exact Nat.lt_succ_of_lt (hG.lt a ha)
   · obtain rfl:=List.mem_singleton.1 ha;exact Nat.lt_succ_self _
 · rcases List.mem_append.1 ha with ha|ha
   · exact hG.want a ha
   · obtain rfl:=List.mem_singleton.1 ha;exact⟨hu,w1,w2,rfl,rfl,rfl,rfl,w3⟩
 · by_cases eu:(z.w t).i.toNat=t
   · exact .inr ⟨_,List.mem_append_right _ (List.mem_singleton.2 rfl),eu⟩
   · rcases hG.own (by omega)with h|⟨a,ha,h⟩
     · exact .inl h
     · exact .inr ⟨a,List.mem_append_left _ ha,h⟩
end
end
section
theorem QpT (v:Int):(Qq v=8/\Qq (v+1)=40)\/(Qq v=40/\Qq (v+1)=8):=by unfold Qq;omega
theorem Qfe (v:Int):Qq v=8\/Qq v=40:=by unfold Qq;omega
theorem HasRec.put {f:Nat->Int}{v:Int}{R:Rec}(h:HasRec f v R) {a:Nat}{x:Int}(ha:∀i,i<32->a≠Qq v+i):HasRec (putF f a x) v R:=fun i hi=>by
 rw[Qu _ _ (fun e=>ha i hi e.symm)];exact h i hi
theorem SlotOK.put {f:Nat->Int}{b:Nat}(h:SlotOK f b) (hb:b=8\/b=40) {B:Int}{q:Rec}(hq:RecOK B q) (hB:B<=1099511627776) {v:Int}{i:Nat}(hi:i<32):SlotOK (putF f (Qq v+i) (fL q.words i)) b:=by
 have h1:=Qfe v
 refine⟨?_,fun t ht=>⟨?_,?_⟩⟩
 · by_cases e:b+26=Qq v+i
   · obtain rfl:i=26:=by omega
     rw[e,Xb,Qcr hq];exact⟨hq.g0,hq.g1⟩
   · rw[Qu _ _ e];exact h.1
 · by_cases e:b+18+t=Qq v+i
   · obtain rfl:i=18+t:=by omega
     rw[e,Xb];exact (Qgj hq hB t ht).1
   · rw[Qu _ _ e];exact (h.2 t ht).1
 · by_cases e:b+22+t=Qq v+i
   · obtain rfl:i=22+t:=by omega
     rw[e,Xb];exact (Qgj hq hB t ht).2
   · rw[Qu _ _ e];exact (h.2 t ht).2
theorem SlotsOK.put {f:Nat->Int}(h:SlotsOK f) {B:Int}{q:Rec}(hq:RecOK B q) (hB:B<=1099511627776) {v:Int}{i:Nat}(hi:i<32):SlotsOK (putF f (Qq v+i) (fL q.words i)):=
 ⟨h.1.put (.inl rfl) hq hB hi,h.2.put (.inr rfl) hq hB hi⟩
theorem SlotsOK.put0 {f:Nat->Int}(h:SlotsOK f) (x:Int):SlotsOK (putF f 0 x):=by
 refine⟨⟨?_,fun t ht=>⟨?_,?_⟩⟩,⟨?_,fun t ht=>⟨?_,?_⟩⟩⟩<;>rw[Qu _ _ (by omega)]
 · exact h.1.1
 · exact (h.1.2 t ht).1
 · exact (h.1.2 t ht).2
 · exact h.2.1
 · exact (h.2.2 t ht).1
 · exact (h.2.2 t ht).2
theorem SlotOK.mix {f f1 f2:Nat->Int}{b:Nat}(h1:SlotOK f1 b) (h2:SlotOK f2 b) (h:∀i,f i=f1 i\/f i=f2 i):SlotOK f b:=by
 refine⟨?_,fun t ht=>⟨?_,?_⟩⟩
 · rcases h (b+26)with e|e<;>rw[e]
   · exact h1.1
   · exact h2.1
 · rcases h (b+18+t)with e|e<;>rw[e]
   · exact (h1.2 t ht).1
   · exact (h2.2 t ht).1
 · rcases h (b+22+t)with e|e<;>rw[e]
   · exact (h1.2 t ht).2
   · exact (h2.2 t ht).2
theorem SlotsOK.mix {f f1 f2:Nat->Int}(h1:SlotsOK f1) (h2:SlotsOK f2) (h:∀i,f i=f1 i\/f i=f2 i):SlotsOK f:=⟨h1.1.mix h2.1 h,h1.2.mix h2.2 h⟩
theorem HasRec.mix {f f1 f2:Nat->Int}{v:Int}{R:Rec}(h1:HasRec f1 v R) (h2:HasRec f2 v R) (h:∀i,f i=f1 i\/f i=f2 i):HasRec f v R:=fun i hi=>by
 rcases h (Qq v+i)with e|e<;>rw[e]
 · exact h1 i hi
 · exact h2 i hi
theorem Qpj (s:Sto) (t n:Nat) (i:Nat):s.firm t n i=s.good i\/s.firm t n i=s.now i:=by
 unfold Sto.firm
 cases decide (i/8<n) && !(s.want (9*t+i/8)==0)
 · exact .inl rfl
 · exact .inr rfl
theorem Qnl (s:Sto) (t i:Nat) (h:i<72) (hw:s.want (9*t+i/8)≠0):s.firm t 9 i=s.now i:=by
 unfold Sto.firm
 rw[decide_eq_true (by omega),show (s.want (9*t+i/8)==0)=false from beq_eq_false_iff_ne.2 hw];rfl
section
variable {K:Int}{z z':Sh}{g:Gh}{t:Nat}
theorem Glob.mix (G:Glob K z g) (hn:z'.s.now=z.s.now) (hg:∀i,z'.s.good i=z.s.good i\/z'.s.good i=z.s.now i) (hm:z'.m 1=z.m 1) (hd:z'.deeds=z.deeds) (hs:z.steps<=z'.steps) (f1:0<=z'.s.fl) (f2:z'.s.fl<=z'.steps) (f3:0<=z'.s.fe) (f4:z'.s.fe<=z'.steps):Glob K z' g where
 k1:=G.k1
 k6:=G.k6
 v0:=G.v0
 vd:=G.vd
 now0:=by rw[hn];exact G.now0
 good0:=by
  rcases hg 0 with h|h<;>rw[h]
  · exact G.good0
  · exact .inr G.now0
 done:=hm.trans G.done
 same:=by rw[hd];exact G.same
 sumR:=by rw[hd];exact G.sumR
 verR:=G.verR
 topR:=by rw[hd];exact G.topR
 nle:=by rw[hd];exact G.nle
 sumQ:=by rw[hd];exact G.sumQ
 verQ:=G.verQ
 topQ:=by rw[hd];exact G.topQ
 lateQ:=by rw[hd];exact G.lateQ
 nowR:=by rw[hn];exact G.nowR
 goodR:=G.goodR.mix G.nowR hg
 nowQ:=by rw[hn];exact G.nowQ
 goodQ:=G.goodQ.mix G.nowQ hg
 rNow:=by rw[hn];exact G.rNow
 rGood:=G.rGood.mix G.rNow hg
 vb:=Int.le_trans G.vb hs
 cb:=by rw[hd];have:=G.cb;omega
 fl0:=f1
 fl1:=f2
 fe0:=f3
 fe1:=f4
theorem ShInv.holder (H:ShInv K z g) (ht:t<4) (hh:Xz (z.w t)) {w':Wk}{s':Sto}{d:Int}(hd:w'.does=d) (h4:4<=d) (h15:d<=15) (G:Glob K (z.moved t ⟨w',z.m,s'⟩) g) (e:w'.th=(z.w t).th/\w'.tog=(z.w t).tog/\w'.said=(z.w t).said/\w'.k=(z.w t).k/\w'.key=(z.w t).key/\w'.x=(z.w t).x/\w'.seen=(z.w t).seen) (hv:w'.v=(z.w t).v) (hi:d<=4\/10<=d->w'.i=0)
 (hm:g.V=g.dv+1->12<=d/\d<=14) (O:HoldOK g t (setF z.w t w') s'):ShInv K (z.moved t ⟨w',z.m,s'⟩) g:=by
 have T:=H.th t ht
 have ho:=LockOK.one H.lk ht hh
 refine⟨G,fun u hu=>?_,LockOK.keep H.lk ⟨fun _=>hh,fun _=>⟨by show 4<=w'.does;omega,by show w'.does<=15;omega⟩⟩,fun hV=>?_,fun u hu hu'=>?_⟩
 · show ThB g u (setF z.w t w' u) (z.tog u) (z.m (2+2*u)) (z.m (3+2*u))
   by_cases eu:u=t
   · subst eu;rw[Qk]
     exact T.busy (by have:=hh.1;omega) hh.2 e (by rw[hv];exact⟨T.v0,T.v1⟩) hd hi (by omega) (by omega)
   · rw[Xc _ _ eu];exact H.th u hu
 · have h:=hm hV
   exact⟨t,ht,by show 12<=(setF z.w t w' t).does;rw[Qk];omega,by show (setF z.w t w' t).does<=14;rw[Qk];omega⟩
 · by_cases eu:u=t
   · subst eu;exact O
   · have h2:Xz (setF z.w t w' u):=hu'
     rw[Xc _ _ eu]at h2
     exact absurd h2 (ho.2 u hu eu)
theorem Glob.save (G:Glob K z g) (hs:z.steps<100000000) {w':Wk}{B:Int}{q:Rec}(hq:RecOK B q) (hB:B<=1099511627776) (hV:g.V=g.dv) {i:Nat}(hi:i<32):Glob K (z.moved t ⟨w',z.m,z.s.save (Qq (g.V+1)+i) (fL q.words i)⟩) g:=by
 have hb:=QpT g.V
 have hne:∀j,j<32->Qq (g.V+1)+i≠Qq g.V+j:=fun j hj=>by omega
 refine⟨G.k1,G.k6,G.v0,G.vd,?_,G.good0,G.done,G.same,G.sumR,G.verR,G.topR,G.nle,G.sumQ,G.verQ,G.topQ,G.lateQ,G.nowR.put hne,G.goodR,?_,G.goodQ,G.rNow.put hq hB hi,G.rGood,?_,?_,G.fl0,?_,G.fe0,?_⟩
 · show putF z.s.now _ _ 0=g.V
   rw[Qu _ _ (by omega)];exact G.now0
 · have:=G.nowQ
   refine this.put ?_
   rw[<- hV];exact hne
 · have:=G.vb;show g.V<=z.steps+1;omega
 · have:=G.cb;show (z.deeds.length:Int)<=4*(z.steps+1);omega
 · have:=G.fl1;show z.s.fl<=z.steps+1;omega
 · have:=G.fe1;show z.s.fe<=z.steps+1;omega
theorem QmZ (H:ShInv K z g) (ht:t<4) (hs:z.steps<100000000) (hd:(z.w t).does=8):ShInv K (z.stepped t) g:=by
 have T:=H.th t ht
 have hho:Xz (z.w t):=⟨by omega,by omega⟩
 have O:=H.ho t ht hho
 have hV:=O.low (.inl (by omega))
 have hv:=O.ver (by omega) (by omega)
 have hi:=O.i0 (by omega)
 obtain⟨hG,hD,hr,hT⟩:=O.nx (by omega) (by omega)
 obtain⟨h32,hw⟩:=O.i8 hd
 have hN:=H.gl.next hs (hG.okA H)
 have hB:((z.deeds++(bD g.R (z.w t).asks).map (Vd.mk (g.V+1))).length:Int)<=1099511627776:=by
  have h1:=QpV (z.w t).asks g.R
  have h2:=hG.len
  have h3:=H.gl.cb
  rw[List.length_append,List.length_map];omega
 have e:Qd (z.wst t)=(⟨Wk.next (z.w t) 32 9,z.m,z.s.save (Qq (g.V+1)+(z.w t).i.toNat) (fL (bDo g.R (z.w t).asks).words (z.w t).i.toNat)⟩,false):=by
  have h2:Qd (z.wst t)=(XG (z.wst t),false):=by simp[Qd,Sh.wst,hd]
  rw[h2]
  unfold XG
  rw[if_pos (by exact hd)]
  show ((⟨Wk.next (z.w t) 32 9,z.m,z.s.save (Qq ((z.w t).v+1)+(z.w t).i.toNat) ((z.w t).r (z.w t).i.toNat)⟩:WSt),false)=_
  rw[hv,<- hV,hr _ (by omega)]
 rw[Qw (by omega) e]
 have G:=H.gl.save (t:=t) (w':=Wk.next (z.w t) 32 9) hs hN.1.ok hB hV (i:=(z.w t).i.toNat) (by omega)
 have hw':∀j:Nat,(j:Int)<(z.w t).i+1->putF z.s.now (Qq (g.V+1)+(z.w t).i.toNat) (fL (bDo g.R (z.w t).asks).words (z.w t).i.toNat) (Qq (g.V+1)+j)=fL (bDo g.R (z.w t).asks).words j:=fun j hj=>by
  by_cases ej:j=(z.w t).i.toNat
  · subst ej;rw[Xb]
  · rw[Qu _ _ (by omega)];exact hw j (by omega)
 unfold Wk.next at G ⊢
 by_cases e4:(z.w t).i+1=32
 · rw[if_pos e4]at G ⊢
   refine H.holder ht hho (d:=9) rfl (by decide) (by decide) G ⟨rfl,rfl,rfl,rfl,rfl,rfl,rfl⟩ rfl (fun h=>absurd h (by decide)) (fun h=>absurd h (by omega)) ?_
   refine hold9 (by rw[Qk]) hV (by rw[Qk];exact hv) (by rw[Qk];exact Int.le_refl 0) ?_ ?_
   · unfold Qd8
     rw[Qk]
     exact⟨hG.other (QA (d:=9) rfl (by decide) ⟨rfl,rfl,rfl,rfl,rfl⟩) (fun _=>rfl),hD,hr,⟨hT.bit,hT.ok,hT.ans,hT.whn⟩⟩
   · rw[Qk]
     exact⟨by show (0:Int)<4;decide,fun j hj=>hw' j (by omega),fun l hl=>by have hl:(l:Int)<0:=hl;omega⟩
 · rw[if_neg e4]at G ⊢
   refine H.holder ht hho (d:=8) hd (by decide) (by decide) G ⟨rfl,rfl,rfl,rfl,rfl,rfl,rfl⟩ rfl (fun h=>absurd h (by decide)) (fun h=>absurd h (by omega)) ?_
   refine hold8 (by rw[Qk];exact hd) hV (by rw[Qk];exact hv) (by rw[Qk];show 0<=(z.w t).i+1;omega) ?_ ?_
   · unfold Qd8
     rw[Qk]
     exact⟨hG.other (QA (d:=8) hd (by decide) ⟨rfl,rfl,rfl,rfl,rfl⟩) (fun _=>rfl),hD,hr,⟨hT.bit,hT.ok,hT.ans,hT.whn⟩⟩
   · rw[Qk]
     exact⟨by show (z.w t).i+1<32;omega,hw'⟩
theorem Glob.flush (G:Glob K z g) {w':Wk}{l:Nat}:Glob K (z.moved t ⟨w',z.m,z.s.flush t l⟩) g:=
 G.mix rfl (fun _=>.inl rfl) rfl rfl (by show z.steps<=z.steps+1;omega) (by have:=G.fl0;show 0<=z.s.fl+1;omega) (by have:=G.fl1;show z.s.fl+1<=z.steps+1;omega) G.fe0 (by have:=G.fe1;show z.s.fe<=z.steps+1;omega)
theorem Glob.fence (G:Glob K z g) {w':Wk}:Glob K (z.moved t ⟨w',z.m,z.s.fence t⟩) g:=
 G.mix rfl (fun i=>Qpj z.s t 9 i) rfl rfl (by show z.steps<=z.steps+1;omega) G.fl0 (by have:=G.fl1;show z.s.fl<=z.steps+1;omega) (by have:=G.fe0;show 0<=z.s.fe+1;omega) (by have:=G.fe1;show z.s.fe+1<=z.steps+1;omega)
theorem QmY (H:ShInv K z g) (ht:t<4) (hd:(z.w t).does=9):ShInv K (z.stepped t) g:=by
 have T:=H.th t ht
 have hth:=T.th
 have hho:Xz (z.w t):=⟨by omega,by omega⟩
 have O:=H.ho t ht hho
 have hV:=O.low (.inl (by omega))
 have hv:=O.ver (by omega) (by omega)
 have hi:=O.i0 (by omega)
 obtain⟨hG,hD,hr,hT⟩:=O.nx (by omega) (by omega)
 obtain⟨h4,hR,hw⟩:=O.i9 hd
 have e:Qd (z.wst t)=(⟨Wk.next (z.w t) 4 10,z.m,z.s.flush t (Qq (g.V+1)/8+(z.w t).i.toNat)⟩,false):=by
  have h2:Qd (z.wst t)=(XG (z.wst t),false):=by simp[Qd,Sh.wst,hd]
  rw[h2]
  unfold XG
  rw[if_neg (by show ¬(z.w t).does=8;omega),if_pos (by exact hd)]
  show ((⟨Wk.next (z.w t) 4 10,z.m,z.s.flush (z.w t).th (Qq ((z.w t).v+1)/8+(z.w t).i.toNat)⟩:WSt),false)=_
  rw[hv,<- hV,hth]
 rw[Qw (by omega) e]
 have G:=H.gl.flush (t:=t) (w':=Wk.next (z.w t) 4 10) (l:=Qq (g.V+1)/8+(z.w t).i.toNat)
 have hw':∀l:Nat,(l:Int)<(z.w t).i+1->putF z.s.want (9*t+(Qq (g.V+1)/8+(z.w t).i.toNat)) 1 (9*t+(Qq (g.V+1)/8+l))≠0:=fun l hl=>by
  by_cases ej:l=(z.w t).i.toNat
  · subst ej;rw[Xb];decide
  · rw[Qu _ _ (by omega)];exact hw l (by omega)
 unfold Wk.next at G ⊢
 by_cases e4:(z.w t).i+1=4
 · rw[if_pos e4]at G ⊢
   refine H.holder ht hho (d:=10) rfl (by decide) (by decide) G ⟨rfl,rfl,rfl,rfl,rfl,rfl,rfl⟩ rfl (fun _=>rfl) (fun h=>absurd h (by omega)) ?_
   refine hold10 (by rw[Qk]) hV (by rw[Qk];exact hv) ?_ ?_
   · unfold Qd8
     rw[Qk]
     exact⟨hG.other (QA (d:=10) rfl (by decide) ⟨rfl,rfl,rfl,rfl,rfl⟩) (fun _=>rfl),hD,hr,⟨hT.bit,hT.ok,hT.ans,hT.whn⟩⟩
   · rw[Qk]
     exact⟨hR,fun l hl=>hw' l (by omega)⟩
 · rw[if_neg e4]at G ⊢
   refine H.holder ht hho (d:=9) hd (by decide) (by decide) G ⟨rfl,rfl,rfl,rfl,rfl,rfl,rfl⟩ rfl (fun h=>absurd h (by decide)) (fun h=>absurd h (by omega)) ?_
   refine hold9 (by rw[Qk];exact hd) hV (by rw[Qk];exact hv) (by rw[Qk];show 0<=(z.w t).i+1;omega) ?_ ?_
   · unfold Qd8
     rw[Qk]
     exact⟨hG.other (QA (d:=9) hd (by decide) ⟨rfl,rfl,rfl,rfl,rfl⟩) (fun _=>rfl),hD,hr,⟨hT.bit,hT.ok,hT.ans,hT.whn⟩⟩
   · rw[Qk]
     exact⟨by show (z.w t).i+1<4;omega,hR,hw'⟩
theorem Qk8 (H:ShInv K z g) (ht:t<4) (hd:(z.w t).does=10):ShInv K (z.stepped t) g:=by
 have T:=H.th t ht
 have hth:=T.th
 have hho:Xz (z.w t):=⟨by omega,by omega⟩
 have O:=H.ho t ht hho
 have hV:=O.low (.inl (by omega))
 have hv:=O.ver (by omega) (by omega)
 obtain⟨hG,hD,hr,hT⟩:=O.nx (by omega) (by omega)
 obtain⟨hR,hw⟩:=O.i10 hd
 have e:Qd (z.wst t)=(⟨{ z.w t with does:=11 },z.m,z.s.fence t⟩,false):=by
  simp[Qd,XG,Sh.wst,hd,hth]
 rw[Qw (by omega) e]
 refine H.holder ht hho (d:=11) rfl (by decide) (by decide) H.gl.fence ⟨rfl,rfl,rfl,rfl,rfl,rfl,rfl⟩ rfl (fun _=>T.ii (by omega)) (fun h=>absurd h (by omega)) ?_
 refine hold11 (by rw[Qk]) hV (by rw[Qk];exact hv) ?_ ?_
 · unfold Qd8
   rw[Qk]
   exact⟨hG.other (QA (d:=11) rfl (by decide) ⟨rfl,rfl,rfl,rfl,rfl⟩) (fun _=>rfl),hD,hr,⟨hT.bit,hT.ok,hT.ans,hT.whn⟩⟩
 · rw[Qk]
   refine⟨hR,fun j hj=>?_⟩
   have hb:=Qfe (g.V+1)
   have h8:(Qq (g.V+1)+j)/8=Qq (g.V+1)/8+j/8:=by omega
   show z.s.firm t 9 (Qq (g.V+1)+j)=_
   rw[Qnl z.s t _ (by omega) (by rw[h8];exact hw (j/8) (by omega))]
   exact hR j hj
theorem Qk6 (H:ShInv K z g) (ht:t<4) (hd:(z.w t).does=12):ShInv K (z.stepped t) g:=by
 have T:=H.th t ht
 have hth:=T.th
 have hho:Xz (z.w t):=⟨by omega,by omega⟩
 have O:=H.ho t ht hho
 have hV:=O.mid (by omega) (by omega)
 have hv:=O.ver (by omega) (by omega)
 have hT:=O.told (by omega) (by omega)
 have e:Qd (z.wst t)=(⟨{ z.w t with does:=13 },z.m,z.s.flush t 0⟩,false):=by
  simp[Qd,XG,Sh.wst,hd,hth]
 rw[Qw (by omega) e]
 refine H.holder ht hho (d:=13) rfl (by decide) (by decide) H.gl.flush ⟨rfl,rfl,rfl,rfl,rfl,rfl,rfl⟩ rfl (fun _=>T.ii (by omega)) (fun _=>⟨by decide,by decide⟩) ?_
 refine hold13 (by rw[Qk]) hV (by rw[Qk];exact hv) (by rw[Qk];exact⟨hT.bit,hT.ok,hT.ans,hT.whn⟩) ?_
 show putF z.s.want (9*t+0) 1 (9*t)≠0
 rw[Nat.add_zero,Xb];decide
theorem Qk5 (H:ShInv K z g) (ht:t<4) (hd:(z.w t).does=13):ShInv K (z.stepped t) g:=by
 have T:=H.th t ht
 have hth:=T.th
 have hho:Xz (z.w t):=⟨by omega,by omega⟩
 have O:=H.ho t ht hho
 have hV:=O.mid (by omega) (by omega)
 have hv:=O.ver (by omega) (by omega)
 have hT:=O.told (by omega) (by omega)
 have e:Qd (z.wst t)=(⟨{ z.w t with does:=14 },z.m,z.s.fence t⟩,false):=by
  simp[Qd,XG,Sh.wst,hd,hth]
 rw[Qw (by omega) e]
 refine H.holder ht hho (d:=14) rfl (by decide) (by decide) H.gl.fence ⟨rfl,rfl,rfl,rfl,rfl,rfl,rfl⟩ rfl (fun _=>T.ii (by omega)) (fun _=>⟨by decide,by decide⟩) ?_
 refine hold14 (by rw[Qk]) hV (by rw[Qk];exact hv) (by rw[Qk];exact⟨hT.bit,hT.ok,hT.ans,hT.whn⟩) ?_
 show z.s.firm t 9 0=g.V
 rw[Qnl z.s t 0 (by decide) (by rw[show 9*t+0/8=9*t by omega];exact O.i13 hd)]
 exact H.gl.now0
theorem ThB.index {g:Gh}{u:Nat}{w:Wk}{tg mo ms:Int}(T:ThB g u w tg mo ms) {V':Int}{R':Rec}
 (h:(Qm R'.tog u=Qm g.R.tog u/\R'.ans.getD u 0=g.R.ans.getD u 0/\R'.whn.getD u 0=g.R.whn.getD u 0)\/(w.does≠0/\w.said=true/\Qm g.R.tog u≠w.tog/\Qm R'.tog u=w.tog)):ThB ⟨V',R',g.dv,g.Q,g.n⟩ u w tg mo ms:=by
 rcases h with⟨h1,h2,h3⟩|⟨h1,h2,h3,h4⟩
 · exact { T with
    idle:=fun h=>by rw[show (⟨V',R',g.dv,g.Q,g.n⟩:Gh).R=R' from rfl,h1];exact T.idle h
    qr:=fun h hq=>h1.trans (T.qr h hq)
    uns:=fun h hs=>by rw[show (⟨V',R',g.dv,g.Q,g.n⟩:Gh).R=R' from rfl,h1];exact T.uns h hs
    rep:=fun h=>⟨(T.rep h).1,⟨h1.trans (T.rep h).2.bit,(T.rep h).2.ok,h2.trans (T.rep h).2.ans,h3.trans (T.rep h).2.whn⟩⟩ }
 · exact { T with
    idle:=fun h=>absurd h h1
    qr:=fun _ _=>h4
    uns:=fun _ hs=>by rw[h2]at hs;cases hs
    rep:=fun h=>absurd (T.rep h).2.bit h3 }
theorem Qb9 {z:Sh}{t:Nat}{r:WSt}(hd:(z.w t).does=11) (e:Qd (z.wst t)=(r,false)):z.stepped t=(z.moved t r).counted r.w.deeds:=by
 unfold Sh.stepped
 rw[e]
 dsimp only
 rw[if_pos hd];rfl
theorem Qk7 (H:ShInv K z g) (ht:t<4) (hs:z.steps<100000000) (hd:(z.w t).does=11):ShInv K (z.stepped t) ⟨g.V+1,bDo g.R (z.w t).asks,g.dv,g.Q,g.n⟩:=by
 have T:=H.th t ht
 have hth:=T.th
 have hho:Xz (z.w t):=⟨by omega,by omega⟩
 have O:=H.ho t ht hho
 have hV:=O.low (.inl (by omega))
 have hv:=O.ver (by omega) (by omega)
 have hone:=LockOK.one H.lk ht hho
 obtain⟨hG,hD,hr,hT⟩:=O.nx (by omega) (by omega)
 obtain⟨hR,hRg⟩:=O.i11 hd
 have hok:=hG.okA H
 have hN:=H.gl.next hs hok
 have e:Qd (z.wst t)=(⟨{ z.w t with does:=12 },z.m,z.s.save 0 ((z.w t).v+1)⟩,false):=by
  simp[Qd,XG,Sh.wst,hd,hth]
 rw[Qb9 hd e]
 have hn0:putF z.s.now 0 ((z.w t).v+1) 0=g.V+1:=by rw[Xb,hv,hV]
 have hdeeds:((z.moved t ⟨{ z.w t with does:=12 },z.m,z.s.save 0 ((z.w t).v+1)⟩).counted (z.w t).deeds).deeds=z.deeds++(bD g.R (z.w t).asks).map (Vd.mk (g.V+1)):=by
  show z.deeds++(z.w t).deeds.map (Vd.mk (putF z.s.now 0 ((z.w t).v+1) 0))=_
  rw[hn0,hD]
 have G:=H.gl
 obtain⟨hRQ,hn⟩:=G.same hV
 have hb1:=Qfe (g.V+1)
 have hb0:=Qfe g.dv
 have htake:(z.deeds++(bD g.R (z.w t).asks).map (Vd.mk (g.V+1))).take g.n=z.deeds.take g.n:=by
  rw[hn,List.take_left',List.take_length];rfl
 have hdrop:(z.deeds++(bD g.R (z.w t).asks).map (Vd.mk (g.V+1))).drop g.n=(bD g.R (z.w t).asks).map (Vd.mk (g.V+1)):=by
  rw[hn];exact List.drop_left' rfl
 have hle:(bD g.R (z.w t).asks).length<=4:=Nat.le_trans (QpV _ _) hG.len
 refine⟨?_,fun u hu=>?_,LockOK.keep H.lk ⟨fun _=>hho,fun _=>⟨by show (4:Int)<=12;decide,by show (12:Int)<=15;decide⟩⟩,fun _=>⟨t,ht,?_,?_⟩,fun u hu hu'=>?_⟩
 · exact
    { k1:=G.k1,k6:=G.k6,v0:=G.v0
      vd:=.inr (by show g.V+1=g.dv+1;omega)
      now0:=hn0
      good0:=.inl (by show z.s.good 0=g.dv;rcases G.good0 with h|h<;>omega)
      done:=G.done
      same:=fun h=>absurd h (by show ¬g.V+1=g.dv;omega)
      sumR:=by rw[hdeeds];exact hN.1
      verR:=hN.2
      topR:=by
       rw[hdeeds]
       intro d hd
       show d.ver<=g.V+1
       rcases List.mem_append.1 hd with hd|hd
       · have:=G.topR d hd;omega
       · obtain⟨x,-,rfl⟩:=List.mem_map.1 hd;exact Int.le_refl _
      nle:=by rw[hdeeds,List.length_append];show g.n<=_;omega
      sumQ:=by rw[hdeeds];show Sum K g.Q (List.take g.n _);rw[htake];exact G.sumQ
      verQ:=G.verQ
      topQ:=by rw[hdeeds];show ∀d∈List.take g.n _,_;rw[htake];exact G.topQ
      lateQ:=by
       rw[hdeeds]
       show ∀d∈List.drop g.n _,Vd.ver d=g.dv+1
       rw[hdrop]
       intro d hd
       obtain⟨x,-,rfl⟩:=List.mem_map.1 hd
       show g.V+1=g.dv+1
       omega
      nowR:=hR.put (fun i _=>by omega)
      goodR:=hRg
      nowQ:=G.nowQ.put (fun i _=>by omega)
      goodQ:=G.goodQ
      rNow:=G.rNow.put0 _
      rGood:=G.rGood
      vb:=by have:=G.vb;show g.V+1<=z.steps+1;omega
      cb:=by
       rw[hdeeds,List.length_append,List.length_map]
       have:=G.cb
       show _<=4*(z.steps+1)
       omega
      fl0:=G.fl0
      fl1:=by have:=G.fl1;show z.s.fl<=z.steps+1;omega
      fe0:=G.fe0
      fe1:=by have:=G.fe1;show z.s.fe<=z.steps+1;omega }
 · show ThB ⟨g.V+1,bDo g.R (z.w t).asks,g.dv,g.Q,g.n⟩ u (setF z.w t { z.w t with does:=12 } u) (z.tog u) (z.m (2+2*u)) (z.m (3+2*u))
   have hcase:(Qm (bDo g.R (z.w t).asks).tog u=Qm g.R.tog u/\(bDo g.R (z.w t).asks).ans.getD u 0=g.R.ans.getD u 0/\(bDo g.R (z.w t).asks).whn.getD u 0=g.R.whn.getD u 0)\/((z.w u).does≠0/\(z.w u).said=true/\Qm g.R.tog u≠(z.w u).tog/\Qm (bDo g.R (z.w t).asks).tog u=(z.w u).tog):=by
    by_cases hx:∃a∈(z.w t).asks,a.t=u
    · obtain⟨a,ha,rfl⟩:=hx
      have hw:=hG.want a ha
      have h1:=Qhs G.sumR.ok hok (hG.asc.imp (fun h=>Nat.ne_of_lt h)) a ha
      have h2:Qm (bR g.R (z.w t).asks).tog a.t=a.g:=by simpa [bOpen] using h1
      exact .inr ⟨hw.act,hw.said,by rw[hw.tog];exact hw.opn,by rw[hw.tog];exact h2⟩
    · have:=Qff G.sumR.ok hok u hu (fun a ha e=>hx ⟨a,ha,e⟩)
      exact .inl ⟨this.2.2,this.1,this.2.1⟩
   by_cases eu:u=t
   · subst eu
     rw[Qk]
     have h1:=T.busy (w':={ z.w u with does:=12 }) (by omega) (by omega) ⟨rfl,rfl,rfl,rfl,rfl,rfl,rfl⟩ ⟨T.v0,T.v1⟩ (d:=12) rfl (fun _=>T.ii (by omega)) (by decide) (by decide)
     refine h1.index ?_
     rcases hcase with h|⟨a,b,c,d⟩
     · exact .inl h
     · exact .inr ⟨by show (12:Int)≠0;decide,b,c,d⟩
   · rw[Xc _ _ eu];exact (H.th u hu).index hcase
 · show 12<=(setF z.w t { z.w t with does:=12 } t).does
   rw[Qk];exact Int.le_refl 12
 · show (setF z.w t { z.w t with does:=12 } t).does<=14
   rw[Qk];show (12:Int)<=14;decide
 · by_cases eu:u=t
   · subst eu
     exact hold12 (by show (setF z.w u _ u).does=12;rw[Qk]) (by show g.V+1=g.dv+1;omega) (by show (setF z.w u _ u).v=_;rw[Qk];exact hv) (by show Told _ u (setF z.w u _ u);rw[Qk];exact⟨hT.bit,hT.ok,hT.ans,hT.whn⟩)
   · have h2:Xz (setF z.w t { z.w t with does:=12 } u):=hu'
     rw[Xc _ _ eu]at h2
     exact absurd h2 (hone.2 u hu eu)
theorem ThB.tell {g:Gh}{u:Nat}{w:Wk}{tg mo ms:Int}(T:ThB g u w tg mo ms) (hV:g.V=g.dv+1) {n:Nat}(h1:tg=1->g.R.whn.getD u 0≠0):ThB ⟨g.V,g.R,g.V,g.R,n⟩ u w tg mo ms:=
 { T with
   one:=h1
   v1:=by have:=T.v1;show w.v<=g.V;omega
   idle:=fun h=>⟨(T.idle h).1,(T.idle h).1,(T.idle h).2.2⟩
   qr:=fun _ h=>h
   uns:=fun h hs=>(T.uns h hs).imp id (fun h=>⟨h.1,h.2.1,h.2.1⟩)
   lk2:=fun _ h=>by have:=T.v1;have h:w.v=g.V:=h;omega
   lk3:=fun _ h=>by have:=T.v1;have h:w.v=g.V:=h;omega
   lk4:=fun _ h=>by have:=T.v1;have h:w.v=g.V:=h;omega
   rep:=fun h=>⟨(T.rep h).2,(T.rep h).2⟩ }
theorem Qla (H:ShInv K z g) (ht:t<4) (hd:(z.w t).does=14):ShInv K (z.stepped t) ⟨g.V,g.R,g.V,g.R,z.deeds.length⟩:=by
 have T:=H.th t ht
 have hho:Xz (z.w t):=⟨by omega,by omega⟩
 have O:=H.ho t ht hho
 have hV:=O.mid (by omega) (by omega)
 have hv:=O.ver (by omega) (by omega)
 have hT:=O.told (by omega) (by omega)
 have hg:=O.i14 (by omega) (by omega)
 have hone:=LockOK.one H.lk ht hho
 have e:Qd (z.wst t)=(⟨{ z.w t with does:=15 },putF z.m 1 ((z.w t).v+1),z.s⟩,false):=by
  simp[Qd,QaP,Sh.wst,hd]
 rw[Qw (by omega) e]
 have G:=H.gl
 have hone1:∀u,u<4->z.tog u=1->g.R.whn.getD u 0≠0:=fun u hu h1=>by
  have h2:Sum K g.R (z.deeds.take g.n++z.deeds.drop g.n):=by rw[List.take_append_drop];exact G.sumR
  exact G.sumQ.whn_mono h2 hu ((H.th u hu).one h1)
 refine⟨?_,fun u hu=>?_,?_,fun h=>absurd h (by show ¬g.V=g.V+1;omega),fun u hu hu'=>?_⟩
 · exact
    { k1:=G.k1,k6:=G.k6
      v0:=by have:=G.v0;show 0<=g.V;omega
      vd:=.inl rfl
      now0:=G.now0
      good0:=.inl hg
      done:=by show putF z.m 1 ((z.w t).v+1) 1=g.V;rw[Xb];omega
      same:=fun _=>⟨rfl,rfl⟩
      sumR:=G.sumR
      verR:=G.verR
      topR:=G.topR
      nle:=Nat.le_refl _
      sumQ:=by show Sum K g.R (List.take z.deeds.length z.deeds);rw[List.take_length];exact G.sumR
      verQ:=G.verR
      topQ:=by show ∀d∈List.take z.deeds.length z.deeds,Vd.ver d<=g.V;rw[List.take_length];exact G.topR
      lateQ:=by show ∀d∈List.drop z.deeds.length z.deeds,Vd.ver d=g.V+1;rw[List.drop_length];intro d hd;cases hd
      nowR:=G.nowR
      goodR:=G.goodR
      nowQ:=G.nowR
      goodQ:=G.goodR
      rNow:=G.rNow
      rGood:=G.rGood
      vb:=by have:=G.vb;show g.V<=z.steps+1;omega
      cb:=by have:=G.cb;show (z.deeds.length:Int)<=4*(z.steps+1);omega
      fl0:=G.fl0
      fl1:=by have:=G.fl1;show z.s.fl<=z.steps+1;omega
      fe0:=G.fe0
      fe1:=by have:=G.fe1;show z.s.fe<=z.steps+1;omega }
 · show ThB ⟨g.V,g.R,g.V,g.R,z.deeds.length⟩ u (setF z.w t { z.w t with does:=15 } u) (z.tog u) (putF z.m 1 ((z.w t).v+1) (2+2*u)) (putF z.m 1 ((z.w t).v+1) (3+2*u))
   rw[Qu _ _ (by omega),Qu _ _ (by omega)]
   by_cases eu:u=t
   · subst eu
     rw[Qk]
     exact (T.busy (w':={ z.w u with does:=15 }) (by omega) (by omega) ⟨rfl,rfl,rfl,rfl,rfl,rfl,rfl⟩ ⟨T.v0,T.v1⟩ (d:=15) rfl (fun _=>T.ii (by omega)) (by decide) (by decide)).tell hV (hone1 u hu)
   · rw[Xc _ _ eu];exact (H.th u hu).tell hV (hone1 u hu)
 · show LockOK (putF z.m 1 ((z.w t).v+1) 0) (setF z.w t { z.w t with does:=15 })
   rw[Qu _ _ (by decide)]
   exact LockOK.keep H.lk ⟨fun _=>hho,fun _=>⟨by show (4:Int)<=15;decide,by show (15:Int)<=15;decide⟩⟩
 · by_cases eu:u=t
   · subst eu
     exact hold15 (by show (setF z.w u _ u).does=15;rw[Qk]) rfl (by show Told _ u (setF z.w u _ u);rw[Qk];exact⟨hT.bit,hT.ok,hT.ans,hT.whn⟩) hg
   · have h2:Xz (setF z.w t { z.w t with does:=15 } u):=hu'
     rw[Xc _ _ eu]at h2
     exact absurd h2 (hone.2 u hu eu)
theorem Qk9 (H:ShInv K z g) (ht:t<4) (hd:(z.w t).does=15):ShInv K (z.stepped t) g:=by
 have T:=H.th t ht
 have hho:Xz (z.w t):=⟨by omega,by omega⟩
 have O:=H.ho t ht hho
 have hV:=O.low (.inr hd)
 have hT:=O.told (by omega) (by omega)
 have hone:=LockOK.one H.lk ht hho
 have e:Qd (z.wst t)=(⟨{ z.w t with does:=16 },putF z.m 0 0,z.s⟩,false):=by
  simp[Qd,QaP,Sh.wst,hd]
 rw[Qw (by omega) e]
 have hR:g.R=g.Q:=(H.gl.same hV).1
 have hT2:Told g.R t { z.w t with does:=16 }:=⟨hT.bit,hT.ok,hT.ans,hT.whn⟩
 refine H.moved ht (Qu _ _ (by omega)) (fun u hu hne=>⟨Qu _ _ (by omega),Qu _ _ (by omega)⟩) ?_ (QA (d:=16) rfl (by decide) ⟨rfl,rfl,rfl,rfl,rfl⟩) ?_ (by omega) (fun hh=>absurd hh (Qt (d:=16) rfl (.inr (by decide))))
 · rw[Qu _ _ (show 2+2*t≠0 by omega),Qu _ _ (show 3+2*t≠0 by omega)]
   exact T.go (by omega) (d:=16) rfl ⟨by decide,by decide⟩ ⟨rfl,rfl,rfl,rfl,rfl⟩ ⟨T.v0,T.v1⟩ (fun _=>T.ii (by omega)) T.se (T.uns (by omega)) (T.sai (by omega)) (fun h=>absurd h (by decide)) (fun h=>absurd h (by decide)) (fun _ _=>T.s3 (by omega) (by omega)) (fun h=>absurd h (by decide)) (fun h=>absurd h (by decide)) (fun h=>absurd h (by decide)) (fun _=>⟨by rw[<- hR];exact hT2,hT2⟩)
 · rw[Xb]
   refine .inl ⟨rfl,fun u hu=>?_⟩
   by_cases eu:u=t
   · subst eu;rw[Qk];exact Qt (d:=16) rfl (.inr (by decide))
   · rw[Xc _ _ eu];exact hone.2 u hu eu
end
end
section
theorem Qe5 (k:Int) (i:Nat) (h:i<32):XU k 32 (8+i)=fL (Rec.new k).words i:=by
 unfold XU;rw[decide_eq_true (by omega),Nat.add_sub_cancel_left];rfl
theorem Qcz (k:Int) (i:Nat) (h:i<8\/40<=i):XU k 32 i=0:=by
 unfold XU;rw[decide_eq_false (by omega)];rfl
theorem base0:Qq 0=8:=rfl
theorem QjK {K:Int}(h1:1<=K) (h6:K<=6):SlotsOK (XU K 32):=by
 have hq:=RecOK.new h1 h6
 refine⟨⟨?_,fun t ht=>⟨?_,?_⟩⟩,⟨?_,fun t ht=>⟨?_,?_⟩⟩⟩
 · rw[Qe5 K 26 (by decide),Qcr hq];exact⟨hq.g0,hq.g1⟩
 · rw[Nat.add_assoc,Qe5 K (18+t) (by omega)];exact (Qgj hq (by decide) t ht).1
 · rw[Nat.add_assoc,Qe5 K (22+t) (by omega)];exact (Qgj hq (by decide) t ht).2
 · rw[Qcz K _ (.inr (by omega))];decide
 · rw[Qcz K _ (.inr (by omega))];exact⟨by decide,by decide⟩
 · rw[Qcz K _ (.inr (by omega))];decide
def Gh.new (K:Int):Gh:=⟨0,Rec.new K,0,Rec.new K,0⟩
theorem QmX {K:Int}(h1:1<=K) (h6:K<=6):ShInv K (Sh.new K) (Gh.new K):=by
 have hs:=Sum.new h1 h6
 have hr:HasRec (XU K 32) 0 (Rec.new K):=fun i hi=>by rw[base0];exact Qe5 K i hi
 have h0:XU K 32 0=0:=Qcz K 0 (.inl (by decide))
 refine⟨?_,fun t ht=>?_,.inl ⟨rfl,fun t _=>Qt (d:=0) rfl (.inl (by decide))⟩,fun h=>absurd h (by show ¬(0:Int)=0+1;decide),fun h _ hh=>absurd hh (Qt (d:=0) rfl (.inl (by decide)))⟩
 · exact
    { k1:=h1,k6:=h6,v0:=Int.le_refl 0,vd:=.inl rfl,now0:=h0,good0:=.inl h0,done:=rfl,same:=fun _=>⟨rfl,rfl⟩
      sumR:=hs,verR:=rfl,topR:=fun d hd=>(by cases hd),nle:=Nat.le_refl _,sumQ:=hs,verQ:=rfl,topQ:=fun d hd=>(by cases hd),lateQ:=fun d hd=>(by cases hd)
      nowR:=hr,goodR:=hr,nowQ:=hr,goodQ:=hr,rNow:=QjK h1 h6,rGood:=QjK h1 h6,vb:=Int.le_refl 0,cb:=Int.le_refl 0,fl0:=Int.le_refl 0,fl1:=Int.le_refl 0,fe0:=Int.le_refl 0,fe1:=Int.le_refl 0 }
 · have hb:=hs.bit t ht
   exact
    { th:=rfl,d0:=Int.le_refl 0,d21:=by show (0:Int)<=21;decide,tg01:=.inl rfl,one:=fun h=>absurd h (by show ¬(0:Int)=1;decide),v0:=Int.le_refl 0,v1:=Int.le_refl 0,ii:=fun _=>rfl
      se0:=⟨by show (0:Int)<=0;decide,by show (0:Int)<16;decide⟩,se1:=⟨by show (0:Int)<=0;decide,by show (0:Int)<18446744073709551616;decide⟩,se2:=⟨by show (0:Int)<=0;decide,by show (0:Int)<=9223372036854775807;decide⟩
      idle:=fun _=>⟨hb,hb,.inl rfl⟩,op:=fun h=>absurd rfl h,tog:=fun h=>absurd rfl h,qr:=fun h=>absurd rfl h,uns:=fun h=>absurd rfl h,sai:=fun h=>absurd rfl h
      two:=fun h=>absurd h (by show ¬(0:Int)=2;decide),s12:=fun h=>absurd h (by show ¬((0:Int)=1\/(0:Int)=2);decide),s3:=fun h=>absurd h (by show ¬(3:Int)<=0;decide)
      lk2:=fun h=>absurd h (by show ¬(19:Int)<=0;decide),lk3:=fun h=>absurd h (by show ¬(20:Int)<=0;decide),lk4:=fun h=>absurd h (by show ¬(21:Int)<=0;decide),rep:=fun h=>absurd h (by show ¬(0:Int)=16;decide) }
section
variable {K:Int}{z:Sh}{g:Gh}{t:Nat}
theorem Qlb (H:ShInv K z g) (ht:t<4) (hd:(z.w t).does=0) {k key x:Int}(ho:opOk k key x=true):ShInv K (z.called t k key x) g:=by
 have T:=H.th t ht
 obtain⟨i1,i2,i3⟩:=T.idle hd
 have hg:=T.tg01
 have:=H.local ht (w':=Wk.call (z.w t).th k key x (1-z.tog t) false) (m':=z.m) (st:=z.steps+1) (hs:=z.hist++[⟨1,t,k,key,x,0,0,0,z.steps+1⟩]) (by omega) rfl (fun u hu hne=>⟨rfl,rfl⟩) (z.tog t) ?_ (fun h=>absurd hd h) (LockOK.keep H.lk ⟨fun h=>absurd h (Qt (d:=1) rfl (.inl (by decide))),fun h=>absurd h (Qt hd (.inl (by decide)))⟩) (by omega) (fun h=>absurd h (Qt (d:=1) rfl (.inl (by decide))))
 · rw[QhO]at this;exact this
 · exact
    { th:=T.th,d0:=by show (0:Int)<=1;decide,d21:=by show (1:Int)<=21;decide,tg01:=hg,one:=T.one,v0:=Int.le_refl 0,v1:=H.gl.v0,ii:=fun _=>rfl
      se0:=⟨by show (0:Int)<=0;decide,by show (0:Int)<16;decide⟩,se1:=⟨by show (0:Int)<=0;decide,by show (0:Int)<18446744073709551616;decide⟩,se2:=⟨by show (0:Int)<=0;decide,by show (0:Int)<=9223372036854775807;decide⟩
      idle:=fun h=>absurd h (by show ¬(1:Int)=0;decide),op:=fun _=>ho,tog:=fun _=>rfl
      qr:=fun _ h=>absurd h (by show ¬Qm g.Q.tog t=1-z.tog t;omega)
      uns:=fun _ _=>i3.imp id (fun h=>⟨h,i1,i2⟩)
      sai:=fun _ h=>absurd h (by show ¬false=true;decide)
      two:=fun h=>absurd h (by show ¬(1:Int)=2;decide),s12:=fun _=>rfl,s3:=fun h=>absurd h (by show ¬(3:Int)<=1;decide)
      lk2:=fun h=>absurd h (by show ¬(19:Int)<=1;decide),lk3:=fun h=>absurd h (by show ¬(20:Int)<=1;decide),lk4:=fun h=>absurd h (by show ¬(21:Int)<=1;decide),rep:=fun h=>absurd h (by show ¬(1:Int)=16;decide) }
theorem QjM (H:ShInv K z g) (ht:t<4) (k key x:Int):ShInv K (z.call t k key x) g:=by
 unfold Sh.call
 split
 · rename_i h;exact Qlb H ht h.1 h.2
 · exact H
theorem HoldOK.mixS {h:Nat}{W:Nat->Wk}{s s':Sto}(O:HoldOK g h W s) (hn:s'.now=s.now) (hw:s'.want=s.want) (hg:∀i,s'.good i=s.good i\/s'.good i=s.now i) (h0:s.now 0=g.V):HoldOK g h W s':=
 { ver:=O.ver,low:=O.low,mid:=O.mid,i0:=O.i0,i5:=O.i5,i6:=O.i6,i7:=O.i7,nx:=O.nx
   i8:=by rw[hn];exact O.i8
   i9:=by rw[hn,hw];exact O.i9
   i10:=by rw[hn,hw];exact O.i10
   i11:=fun hd=>by rw[hn];exact⟨(O.i11 hd).1,(O.i11 hd).2.mix (O.i11 hd).1 hg⟩
   told:=O.told
   i13:=by rw[hw];exact O.i13
   i14:=fun a b=>by
    rcases hg 0 with h|h<;>rw[h]
    · exact O.i14 a b
    · exact h0 }
theorem Qh8 (s:Sto) (l i:Nat):(s.evict l).good i=s.good i\/(s.evict l).good i=s.now i:=by
 show (bif decide (i/8=l)then s.now i else s.good i)=s.good i\/(bif decide (i/8=l)then s.now i else s.good i)=s.now i
 cases decide (i/8=l)
 · exact .inl rfl
 · exact .inr rfl
theorem QhY (H:ShInv K z g) (l:Int):ShInv K (z.evict l) g:=by
 unfold Sh.evict
 split
 · have G:=H.gl
   exact⟨G.mix rfl (Qh8 z.s l.toNat) rfl rfl (Int.le_refl _) G.fl0 G.fl1 G.fe0 G.fe1,H.th,H.lk,H.mid,fun h hh hx=>(H.ho h hh hx).mixS rfl rfl (Qh8 z.s l.toNat) G.now0⟩
 · exact H
theorem Qiz {v:Int}:∀ {a b:List Vd},(∀d∈a,d.ver<=v)->(∀d∈b,v<d.ver)->upTo v (a++b)=a:=by
 intro a b ha hb
 unfold upTo
 rw[List.reverse_append]
 have h1:∀ {c r:List Vd},(∀d∈c,v<d.ver)->(∀d∈r,d.ver<=v)->(c++r).dropWhile (fun d=>decide (v<d.ver))=r:=by
  intro c
  induction c with
  |nil=>
   intro r _ hr
   cases r with
   |nil=>rfl
   |cons d r=>
    rw[List.nil_append,List.dropWhile_cons_of_neg]
    have:=hr d List.mem_cons_self
    simp;omega
  |cons d c ih=>
   intro r hc hr
   rw[List.cons_append,List.dropWhile_cons_of_pos (by simpa using hc d List.mem_cons_self)]
   exact ih (fun x hx=>hc x (List.mem_cons_of_mem _ hx)) hr
 rw[h1 (fun d hd=>hb d (List.mem_reverse.1 hd)) (fun d hd=>ha d (List.mem_reverse.1 hd)),List.reverse_reverse]
theorem land_mix (lands:Int) (s:Sto) (i:Nat):Qs lands s i=s.good i\/Qs lands s i=s.now i:=by
 unfold Qs
 cases decide (i<72)&&decide (lands/2^(i/8)%2=1)
 · exact .inl rfl
 · exact .inr rfl
theorem QeJ (H:ShInv K z g) (lands:Int) {V':Int}{R':Rec}{n':Nat}(hl:Qs lands z.s 0=V') (hn:n'<=z.deeds.length) (h0:0<=V') (hv:g.dv<=V') (hvb:V'<=z.steps) (S:Sum K R' (z.deeds.take n')) (hver:R'.ver=V') (htop:∀d∈z.deeds.take n',d.ver<=V') (hlate:∀d∈z.deeds.drop n',V'<d.ver)
 (hN:HasRec z.s.now V' R') (hG:HasRec z.s.good V' R') (hb:∀u,u<4->(z.w u).does=0->Qm R'.tog u=z.tog u) (ho:∀u,u<4->z.tog u=1->R'.whn.getD u 0≠0):
 ShInv K (z.crash lands) ⟨V',R',V',R',n'⟩/\(z.crash lands).deeds=z.deeds.take n':=by
 have G:=H.gl
 have hd:(z.crash lands).deeds=z.deeds.take n':=by
  show upTo (Qs lands z.s 0) z.deeds=_
  rw[hl]
  have:=Qiz (v:=V') htop hlate
  rw[List.take_append_drop]at this;exact this
 have hlen:(z.deeds.take n').length=n':=by rw[List.length_take];omega
 have hR:HasRec (Qs lands z.s) V' R':=hG.mix hN (land_mix lands z.s)
 have hS:SlotsOK (Qs lands z.s):=G.rGood.mix G.rNow (land_mix lands z.s)
 have hnh:∀u,¬Xz ((z.w u).again):=fun u hh=>by
  have h1:=hh.1
  have h2:=hh.2
  unfold Wk.again at h1 h2
  by_cases e:(z.w u).does=0
  · rw[if_pos e]at h1;omega
  · rw[if_neg e]at h2;exact absurd h2 (by show ¬(17:Int)<=15;decide)
 refine⟨⟨?_,fun u hu=>?_,.inl ⟨?_,fun u _=>hnh u⟩,fun h=>absurd h (by show ¬V'=V'+1;omega),fun u _ hh=>absurd hh (hnh u)⟩,hd⟩
 · exact
    { k1:=G.k1,k6:=G.k6,v0:=h0,vd:=.inl rfl,now0:=hl,good0:=.inl hl
      done:=by show putF (fun _=>0) 1 (Qs lands z.s 0) 1=V';rw[Xb];exact hl
      same:=fun _=>⟨rfl,by rw[hd,hlen]⟩
      sumR:=by rw[hd];exact S
      verR:=hver
      topR:=by rw[hd];exact htop
      nle:=by rw[hd,hlen];exact Nat.le_refl _
      sumQ:=by rw[hd];show Sum K R' (List.take n' _);rw[List.take_take,Nat.min_self];exact S
      verQ:=hver
      topQ:=by rw[hd];show ∀d∈List.take n' (List.take n' z.deeds),_;rw[List.take_take,Nat.min_self];exact htop
      lateQ:=by rw[hd];show ∀d∈List.drop n' (List.take n' z.deeds),_;rw[List.drop_of_length_le (by rw[hlen];exact Nat.le_refl _)];intro d hd;cases hd
      nowR:=hR,goodR:=hR,nowQ:=hR,goodQ:=hR,rNow:=hS,rGood:=hS
      vb:=by show V'<=z.steps+1;omega
      cb:=by rw[hd,hlen];have:=G.cb;show (n':Int)<=4*(z.steps+1);omega
      fl0:=G.fl0
      fl1:=by have:=G.fl1;show z.s.fl<=z.steps+1;omega
      fe0:=G.fe0
      fe1:=by have:=G.fe1;show z.s.fe<=z.steps+1;omega }
 · have T:=H.th u hu
   show ThB _ u ((z.w u).again) (z.tog u) (putF (fun _=>0) 1 (Qs lands z.s 0) (2+2*u)) (putF (fun _=>0) 1 (Qs lands z.s 0) (3+2*u))
   rw[Qu _ _ (by omega),Qu _ _ (by omega)]
   unfold Wk.again
   by_cases e:(z.w u).does=0
   · rw[if_pos e]
     exact
      { th:=T.th,d0:=T.d0,d21:=T.d21,tg01:=T.tg01,one:=ho u hu,v0:=T.v0,v1:=Int.le_trans T.v1 hv,ii:=T.ii,se0:=T.se0,se1:=T.se1,se2:=T.se2
        idle:=fun _=>⟨hb u hu e,hb u hu e,.inl rfl⟩
        op:=fun h=>absurd e h,tog:=fun h=>absurd e h,qr:=fun h=>absurd e h,uns:=fun h=>absurd e h,sai:=fun h=>absurd e h
        two:=by intros;omega
        s12:=by intros;omega
        s3:=by intros;omega
        lk2:=by intros;omega
        lk3:=by intros;omega
        lk4:=by intros;omega
        rep:=by intros;omega }
   · rw[if_neg e]
     exact
      { th:=T.th,d0:=by show (0:Int)<=17;decide,d21:=by show (17:Int)<=21;decide,tg01:=T.tg01,one:=ho u hu,v0:=Int.le_refl 0,v1:=h0,ii:=fun _=>rfl
        se0:=⟨by show (0:Int)<=0;decide,by show (0:Int)<16;decide⟩,se1:=⟨by show (0:Int)<=0;decide,by show (0:Int)<18446744073709551616;decide⟩,se2:=⟨by show (0:Int)<=0;decide,by show (0:Int)<=9223372036854775807;decide⟩
        idle:=fun h=>absurd h (by show ¬(17:Int)=0;decide),op:=fun _=>T.op e,tog:=fun _=>T.tog e,qr:=fun _ h=>h,uns:=fun _ _=>.inl rfl
        sai:=fun _ h=>absurd h (by show ¬false=true;decide)
        two:=fun h=>absurd h (by show ¬(17:Int)=2;decide),s12:=fun _=>rfl,s3:=fun _ h=>absurd h (by show ¬(17:Int)<=16;decide)
        lk2:=fun h=>absurd h (by show ¬(19:Int)<=17;decide),lk3:=fun h=>absurd h (by show ¬(20:Int)<=17;decide),lk4:=fun h=>absurd h (by show ¬(21:Int)<=17;decide),rep:=fun h=>absurd h (by show ¬(17:Int)=16;decide) }
 · show putF (fun _=>0) 1 (Qs lands z.s 0) 0=0
   rw[Qu _ _ (by decide)]
theorem inv_crash (H:ShInv K z g) (lands:Int):
 (Qs lands z.s 0=g.V/\ShInv K (z.crash lands) ⟨g.V,g.R,g.V,g.R,z.deeds.length⟩/\(z.crash lands).deeds=z.deeds) \/
 (Qs lands z.s 0=g.dv/\g.V=g.dv+1/\z.s.good 0=g.dv/\ShInv K (z.crash lands) ⟨g.dv,g.Q,g.dv,g.Q,g.n⟩/\(z.crash lands).deeds=z.deeds.take g.n):=by
 have G:=H.gl
 have h0:=G.v0
 have hvd:=G.vd
 have hvb:=G.vb
 by_cases e:Qs lands z.s 0=g.V
 · refine .inl ⟨e,?_⟩
   have:=QeJ H lands (V':=g.V) (R':=g.R) (n':=z.deeds.length) e (Nat.le_refl _) (by omega) (by omega) hvb (by rw[List.take_length];exact G.sumR) G.verR (by rw[List.take_length];exact G.topR) (by rw[List.drop_length];intro d hd;cases hd) G.nowR G.goodR (fun u hu hd=>((H.th u hu).idle hd).1) (fun u hu h1=>by
    have h2:Sum K g.R (z.deeds.take g.n++z.deeds.drop g.n):=by rw[List.take_append_drop];exact G.sumR
    exact G.sumQ.whn_mono h2 hu ((H.th u hu).one h1))
   rw[List.take_length]at this;exact this
 · have h1:Qs lands z.s 0=g.dv/\g.V=g.dv+1/\z.s.good 0=g.dv:=by
    rcases land_mix lands z.s 0 with h|h
    · rcases G.good0 with h2|h2
      · exact⟨h.trans h2,by omega,h2⟩
      · exact absurd (h.trans h2) e
    · exact absurd (h.trans G.now0) e
   exact .inr ⟨h1.1,h1.2.1,h1.2.2,QeJ H lands (V':=g.dv) (R':=g.Q) (n':=g.n) h1.1 G.nle h0 (Int.le_refl _) (by omega) G.sumQ G.verQ G.topQ (fun d hd=>by have:=G.lateQ d hd;omega) G.nowQ G.goodQ (fun u hu hd=>((H.th u hu).idle hd).2.1) (fun u hu h1=>(H.th u hu).one h1)⟩
def Gh.step (g:Gh) (z:Sh) (t:Nat):Gh:=if (z.w t).does=11 then ⟨g.V+1,bDo g.R (z.w t).asks,g.dv,g.Q,g.n⟩else if (z.w t).does=14 then ⟨g.V,g.R,g.V,g.R,z.deeds.length⟩else g
theorem QfH (H:ShInv K z g) (ht:t<4) (hs:z.steps<100000000) (hn:(z.w t).does≠0):ShInv K (z.stepped t) (g.step z t):=by
 have T:=H.th t ht
 have h0:=T.d0
 have h1:=T.d21
 unfold Gh.step
 by_cases e11:(z.w t).does=11
 · rw[if_pos e11];exact Qk7 H ht hs e11
 · rw[if_neg e11]
   by_cases e14:(z.w t).does=14
   · rw[if_pos e14];exact Qla H ht e14
   · rw[if_neg e14]
     rcases (show (z.w t).does=1\/(z.w t).does=2\/(z.w t).does=3\/(z.w t).does=4\/(z.w t).does=5\/(z.w t).does=6\/(z.w t).does=7\/(z.w t).does=8\/(z.w t).does=9\/(z.w t).does=10\/(z.w t).does=12\/(z.w t).does=13\/(z.w t).does=15\/(z.w t).does=16\/(z.w t).does=17\/(z.w t).does=18\/(z.w t).does=19\/(z.w t).does=20\/(z.w t).does=21 by omega)with h|h|h|h|h|h|h|h|h|h|h|h|h|h|h|h|h|h|h
     · exact Qo8 H ht h
     · exact Qo7 H ht h
     · exact Qo6 H ht h
     · exact Qm3 H ht h
     · exact Qm2 H ht h
     · exact Qm1 H ht hs h
     · exact Qm0 H ht hs h
     · exact QmZ H ht hs h
     · exact QmY H ht h
     · exact Qk8 H ht h
     · exact Qk6 H ht h
     · exact Qk5 H ht h
     · exact Qk9 H ht h
     · exact QmW H ht h
     · exact Qk4 H ht h
     · exact Qk3 H ht h
     · exact Qk2 H ht h
     · exact Qk1 H ht h
     · exact Qk0 H ht h
end
end
section
section
variable {K:Int}{z:Sh}{g:Gh}{t:Nat}
theorem QoV (H:ShInv K z g) {u:Nat}(hu:u<4):0<=z.m (3+2*u)/\z.m (3+2*u)<=2:=by
 have T:=H.th u hu
 have h1:=T.tg01
 by_cases hn:(z.w u).does=0
 · obtain⟨-,-,h|h⟩:=T.idle hn<;>omega
 · have h2:=T.tog hn
   cases hs:(z.w u).said
   · rcases T.uns hn hs with h|⟨h,-⟩<;>omega
   · have:=(T.sai hn hs).1;omega
theorem rec_ok (H:ShInv K z g) (hs:z.steps<100000000):RecOK 1099511000000 g.R/\g.R.ver<1000000000:=by
 have h1:=H.gl.cb
 have h2:=H.gl.verR
 have h3:=H.gl.vb
 exact⟨H.gl.sumR.ok.mono (by omega),by omega⟩
theorem Qkj (H:ShInv K z g) (ht:t<4) (hs:z.steps<100000000) (hn:(z.w t).does≠0):Qbe (z.wst t):=by
 have T:=H.th t ht
 have G:=H.gl
 have hvb:=G.vb
 have hvd:=G.vd
 have hv0:=T.v0
 have hv1:=T.v1
 have hR:=rec_ok H hs
 refine⟨⟨T.d0,T.d21⟩,fun _=>⟨T.op hn,?_⟩,fun hd=>?_,fun hd=>?_,fun hd=>?_,fun hd=>?_⟩
 · have h1:=T.tog hn
   have h2:=T.tg01
   show (z.w t).tog=0\/(z.w t).tog=1
   omega
 · obtain⟨d4,d7⟩:=hd
   have d4:4<=(z.w t).does:=d4
   have d7:(z.w t).does<=7:=d7
   have O:=H.ho t ht ⟨d4,by omega⟩
   have hi:=O.i0 (by omega)
   have hi32:(z.w t).i<32:=by
    rcases (show (z.w t).does=4\/(z.w t).does=5\/(z.w t).does=6\/(z.w t).does=7 by omega)with h|h|h|h
    · have:=T.ii (by omega);omega
    · exact (O.i5 h).1
    · have:=(O.i6 h).1;omega
    · have:=(O.i7 h).1;omega
   refine⟨hi,hi32,⟨hv0,by show (z.w t).v<_;omega⟩,fun h6=>?_,fun h7=>?_⟩
   · obtain⟨a,b,c⟩:=O.i6 h6
     have h26:(z.w t).r 26=g.R.tog:=(b 26 (by decide)).trans (Qcr G.sumR.ok)
     refine⟨a,?_,QoV H (by show (z.w t).i.toNat<4;omega),c.okA H,by have:=c.len;show (z.w t).asks.length<=4;omega,g.R,hR.1,hR.2,Qfk G.sumR.ok b⟩
     show 0<=(z.w t).r 26/\(z.w t).r 26<16
     rw[h26];exact⟨G.sumR.ok.g0,G.sumR.ok.g1⟩
   · obtain⟨a,b,l,hl,hG,w1,w2,w3⟩:=O.i7 h7
     have hu:(z.w t).i.toNat<4:=by omega
     have U:=H.th _ hu
     have hop:=Qjz (U.op w1)
     have hmo:=(U.sai w1 w2).2
     refine⟨a,?_,⟨l,_,hl⟩,?_,?_,g.R,hR.1,hR.2,Qfk G.sumR.ok b⟩
     · show 0<=z.m (2+2*(z.w t).i.toNat)/\z.m (2+2*(z.w t).i.toNat)<18446744073709551616
       rw[hmo];exact hop.2.2.2
     · show AsksOK (Xl (z.w t).asks (z.m (2+2*(z.w t).i.toNat)/281474976710656%65536) (z.m (2+2*(z.w t).i.toNat)/4294967296%65536) (z.m (2+2*(z.w t).i.toNat)%4294967296))
       rw[hl,Qbx,hmo,hop.1,hop.2.1,hop.2.2.1]
       intro x hx
       rcases List.mem_append.1 hx with hx|hx
       · exact hG.okA H x hx
       · obtain rfl:=List.mem_singleton.1 hx
         refine⟨hu,?_,U.op w1⟩
         have h1:=U.tog w1
         have h2:=U.tg01
         show (z.w (z.w t).i.toNat).tog=0\/(z.w (z.w t).i.toNat).tog=1
         omega
     · show (Xl (z.w t).asks _ _ _).length<=4
       rw[hl,Qbx,List.length_append]
       have:=hG.len
       show l.length+1<=4
       omega
 · obtain⟨d8,d13⟩:=hd
   have d8:8<=(z.w t).does:=d8
   have d13:(z.w t).does<=13:=d13
   have O:=H.ho t ht ⟨by omega,by omega⟩
   have f0:=G.fl0
   have f1:=G.fl1
   have f2:=G.fe0
   have f3:=G.fe1
   refine⟨⟨hv0,by show (z.w t).v<_;omega⟩,?_,⟨f0,by show z.s.fl<_;omega⟩,⟨f2,by show z.s.fe<_;omega⟩⟩
   show 0<=(z.w t).i/\(z.w t).i<32/\((z.w t).does=9->(z.w t).i<4)
   by_cases h8:(z.w t).does=8
   · have:=(O.i8 h8).1
     have:=O.i0 (by omega)
     omega
   · by_cases h9:(z.w t).does=9
     · have:=(O.i9 h9).1
       have:=O.i0 (by omega)
       omega
     · have:=T.ii (by omega)
       omega
 · exact⟨hv0,by show (z.w t).v<_;omega⟩
 · refine⟨⟨hv0,by show (z.w t).v<_;omega⟩,T.se0,T.se2,T.se1,fun h21 hc=>?_⟩
   have h21:(z.w t).does=21:=h21
   obtain⟨c1,c2⟩:=hc
   have c1:z.m 1=(z.w t).v:=c1
   have c2:Qm ((z.w t).seen 0) (z.w t).th=(z.w t).tog:=c2
   have hv:(z.w t).v=g.dv:=by rw[<- c1];exact G.done
   rw[T.th,T.lk2 (by omega) hv]at c2
   obtain⟨c,v,hA,ha,-⟩:=H.toldQ ht hn c2
   refine .inl ?_
   show ansOkB ((z.w t).seen 1/4294967296%4294967296) ((z.w t).seen 1%4294967296)=true
   have hc:=Qd7 hA
   rw[T.lk3 (by omega) hv,ha,hc.1,hc.2.1]
   exact (Qb3 _ _).2 hA
end
end
section
def IsR {α:Type}(n:Nat) (f:α->Nat->Int) (d:α) (z:Nat->Nat->Int) (l:List α):Prop:=∀i,i<l.length->∀j,j<n->z i j=f (l.getD i d) j
theorem IsR.sub {α:Type}{n:Nat}{f:α->Nat->Int}{d:α}{z z':Nat->Nat->Int}{l:List α}(h:IsR n f d z l) (e:∀i,i<l.length->∀j,j<n->z' i j=z i j):IsR n f d z' l:=
 fun i hi j hj=>(e i hi j hj).trans (h i hi j hj)
theorem IsR.snoc {α:Type}{n:Nat}{f:α->Nat->Int}{d:α}{z z':Nat->Nat->Int}{l:List α}{a:α}(h:IsR n f d z l) (e:∀i,i<l.length->∀j,j<n->z' i j=z i j) (e2:∀j,j<n->z' l.length j=f a j):IsR n f d z' (l++[a]):=fun i hi j hj=>by
 rcases getD_snoc (d:=d) hi with⟨h1,h2⟩|⟨rfl,h2⟩
 · rw[h2];exact h.sub e i h1 j hj
 · rw[h2];exact e2 j hj
theorem IsR.nil {α:Type}(n:Nat) (f:α->Nat->Int) (d:α) (z:Nat->Nat->Int):IsR n f d z []:=fun i hi=>absurd hi (Nat.not_lt_zero _)
theorem IsR.take {α:Type}{n:Nat}{f:α->Nat->Int}{d:α}{z:Nat->Nat->Int}{l:List α}(h:IsR n f d z l) (k:Nat):IsR n f d z (l.take k):=fun i hi j hj=>by
 rw[List.length_take]at hi
 rw[h i (by omega) j hj]
 congr 1
 simp only[List.getD_eq_getElem?_getD,List.getElem?_take]
 rw[if_pos (by omega)]
def Ev.at (e:Ev):Nat->Int
 |0=>e.kind
 |1=>e.t
 |2=>e.k
 |3=>e.key
 |4=>e.x
 |5=>e.c
 |6=>e.v
 |7=>e.whn
 |_=>e.step
def Dd.at (e:Dd):Nat->Int
 |0=>e.t
 |1=>e.k
 |2=>e.key
 |3=>e.x
 |4=>e.c
 |_=>e.v
def Vd.at (e:Vd):Nat->Int
 |0=>e.ver
 |j+1=>e.d.at j
abbrev IsE:=IsR 9 Ev.at Ev.nil
abbrev IsV:=IsR 7 Vd.at Vd.nil
theorem IsD.rows {z:Nat->Nat->Int}{l:List Dd}(h:IsD z l):IsR 6 Dd.at Dd.nil z l:=fun i hi j hj=>by
 obtain⟨a0,a1,a2,a3,a4,a5⟩:=h i hi
 rcases (show j=0\/j=1\/j=2\/j=3\/j=4\/j=5 by omega)with rfl|rfl|rfl|rfl|rfl|rfl
 · exact a0
 · exact a1
 · exact a2
 · exact a3
 · exact a4
 · exact a5
structure WkR where
 ma:Nat
 ca:Nat
 na:Bool
 za:Nat->Nat->Int
 md:Nat
 cd:Nat
 nd:Bool
 zd:Nat->Nat->Int
structure ShS where
 z:Sh
 r:Nat->WkR
 mh:Nat
 ch:Nat
 nh:Bool
 zh:Nat->Nat->Int
 mv:Nat
 cv:Nat
 nv:Bool
 zv:Nat->Nat->Int
end
section
open Go.RowKit
abbrev wkS (w:Wk) (r:WkR):WkS:=⟨w,r.ma,r.ca,r.na,r.za,r.md,r.cd,r.nd,r.zd⟩
def adB (M:List SB) (b:Nat):List Nat:=match getB M b with
 |.cells l _=>match segGet l 41,segGet l 42 with
  |some (.so x _ _ _ _ _),some (.so y _ _ _ _ _)=>[x,y]
  |_,_=>[]
 |_=>[]
theorem QqB {ρ:Nat->Nat}{i x y:Nat}{a b:Wk}(h:a.sim b) {ca cd:Nat}{na nd:Bool}:denB ρ i (wkC x y a ca na cd nd)=denB ρ i (wkC x y b ca na cd nd):=by
 obtain⟨h1,h2⟩:=h
 rw[<- h1]
 have hr:(List.range 32).map (fun i=>mkV (.int .u64) (a.r i))=(List.range 32).map (fun i=>mkV (.int .u64) (b.r i)):=by
  refine List.map_congr_left fun j hj=>?_
  have hj:=List.mem_range.1 hj
  rw[<- Xa (f:=a.r) hj,<- Xa (f:=b.r) hj,h2]
 simp only[denB,Qe,Seg.den]
 rw[hr]
theorem Qon {a b:Wk}(h:a.sim b):a.asks=b.asks/\a.deeds=b.deeds:=by
 obtain⟨h1,-⟩:=h
 rw[<- h1];exact⟨rfl,rfl⟩
structure Qqo (s:WlS):Prop where
 th:s.s.w.th<4
 good:s.s.good
 pre:Qbe s.z
structure RepOK (w:Wk) (x:WkR):Prop where
 good:(wkS w x).good
def QdX:MCon where
 σ:=WlS
 χ:=WkR
 pre s:=Qqo s
 args s:=[.c (.p 0 0),.c (.p 1 0),.c (.p 2 0)]
 mem s:=wkM 3 4 s.s s.z
 ok s x:=RepOK (Qd s.z).1.w x
 val s x:=sv (.bool (Qd s.z).2)
 mem' s x:=wkM 3 4 (wkS (Qd s.z).1.w x) (Qd s.z).1
 k:=3
 len:=5
 det:=none
 find:=Qct
theorem QdC:(Con.mem QdX).holds Tryz.prog 13:=by
 intro w0 S
 have h:=Qok w0 S
 refine⟨h.1,fun x0 h=>(by cases h),fun ρ s w hp hk hm=>(h.2.2 ρ s w ⟨hp.th,hp.good,hp.pre⟩ hk hm).mono ?_⟩
 rintro e w' ⟨x,ρ',⟨hs,hg⟩,h1,h2,h3,h4⟩
 obtain⟨w2,ma,ca,na,za,md,cd,nd,zd⟩:=x
 have hs:w2.sim (Qd s.z).1.w:=hs
 refine⟨⟨ma,ca,na,za,md,cd,nd,zd⟩,ρ',⟨?_⟩,h1,rfl,h3,?_⟩
 · have:=Qon hs
   unfold WkS.good at hg
   show WkS.good _
   unfold WkS.good
   dsimp only at hg ⊢
   rw[<- this.1,<- this.2];exact hg
 · have e:denM ρ' 0 (wkM 3 4 ⟨w2,ma,ca,na,za,md,cd,nd,zd⟩ ⟨w2,(Qd s.z).1.m,(Qd s.z).1.s⟩)=denM ρ' 0 (wkM 3 4 (wkS (Qd s.z).1.w ⟨ma,ca,na,za,md,cd,nd,zd⟩) (Qd s.z).1):=by
    unfold wkM
    simp only[denM]
    rw[QqB hs]
   show Mem w _ (denM ρ' 0 (wkM 3 4 (wkS (Qd s.z).1.w ⟨ma,ca,na,za,md,cd,nd,zd⟩) (Qd s.z).1)) w'
   rw[<- e];exact h4
def En.feetL:En->List Nat
 |.blk b _ _=>[b]
 |.row b _ _ _ c _=>bif c.beq 0 then []else [b]
 |.obj b _=>[b]
 |.abs _ _ F=>F
theorem En.feetL_iff (e:En) (g:Nat):g∈e.feetL↔e.foot g:=by
 cases e with
 |blk b C t=>exact List.mem_singleton.trans eq_comm
 |row b t sz n c xs=>
  show g∈(bif c.beq 0 then []else [b])↔0<c/\b=g
  cases h:c.beq 0
  · have:c≠0:=fun e=>by subst e;exact absurd h (by decide)
    rw[cond_false,List.mem_singleton]
    exact⟨fun h=>⟨by omega,h.symm⟩,fun h=>h.2.symm⟩
  · have:=Nat.eq_of_beq_eq_true h
    rw[cond_true]
    exact⟨fun h=>(by cases h),fun h=>by omega⟩
 |obj b o=>exact List.mem_singleton.trans eq_comm
 |abs b A F=>exact Iff.rfl
def feetL (L:List En):List Nat:=L.flatMap En.feetL
theorem feetL_iff (L:List En) (g:Nat):g∈feetL L↔feet L g:=by
 unfold feetL feet
 rw[List.mem_flatMap]
 exact⟨fun ⟨e,h1,h2⟩=>⟨e,h1,(e.feetL_iff g).1 h2⟩,fun ⟨e,h1,h2⟩=>⟨e,h1,(e.feetL_iff g).2 h2⟩⟩
def QE {X Y:Type}(L:X->List SB) (y:X->Y) (good:X->Prop) (z:Y):Abs where
 hold b F w:=∃x ρ,y x=z/\good x/\ρ 0=b/\Mem w (feet (denM ρ 0 (L x))) (denM ρ 0 (L x)) w/\∀g,feet (denM ρ 0 (L x)) g↔g∈F
 lt:=fun b F w ⟨x,ρ,_,_,_,HM,hF⟩ g hg=>by
  obtain⟨e,he,hf⟩:=(hF g).2 hg
  exact (HM.holds e he).lt hf
 keep:=fun b F w w' ⟨x,ρ,h1,h2,h3,HM,hF⟩ hs hh=>⟨x,ρ,h1,h2,h3,⟨Kept.refl _ _,fun e he=>(HM.holds e he).keeps hs (fun g hg=>hh g ((hF g).1 ⟨e,he,hg⟩)),fun e he g hg=>.inl ⟨e,he,hg⟩,HM.dist⟩,hF⟩
structure TCon (Y α χ:Type) where
 pre:Y->α->Prop
 args:α->List SA
 ok:Y->α->χ->Prop
 next:Y->α->χ->Y
 val:Nat->Y->α->χ->SV
 new:Nat->Y->α->χ->List SB
 len:Nat
def TCon.low {X Y α χ:Type}(c:TCon Y α χ) (L:X->List SB) (y:X->Y) (good:X->Prop) (n k:Nat) (find:List SA->List SB->Option (List Nat)):MCon where
 σ:=X × α
 χ:=X × χ
 pre s:=good s.1/\c.pre (y s.1) s.2
 args s:=.c (.p 0 0)::c.args s.2
 mem s:=L s.1
 ok s r:=good r.1/\y r.1=c.next (y s.1) s.2 r.2/\c.ok (y s.1) s.2 r.2
 val s r:=c.val n (y s.1) s.2 r.2
 mem' s r:=L r.1++c.new n (y s.1) s.2 r.2
 k:=k
 len:=n+c.len
 det:=none
 find:=find
def TCon.high {X Y α χ:Type}(c:TCon Y α χ) (L:X->List SB) (y:X->Y) (good:X->Prop):MCon where
 σ:=Y × α × List Nat
 χ:=List Nat × χ
 pre s:=c.pre s.1 s.2.1
 args s:=.c (.p 0 0)::c.args s.2.1
 mem s:=[.abs (QE L y good s.1) s.2.2]
 ok s r:=c.ok s.1 s.2.1 r.2
 val s r:=c.val 1 s.1 s.2.1 r.2
 mem' s r:=.abs (QE L y good (c.next s.1 s.2.1 r.2)) r.1::c.new 1 s.1 s.2.1 r.2
 k:=1
 len:=1+c.len
 det:=none
 find:=fun args _=>some (blkA args)
theorem TCon.lift {X Y α χ:Type}(c:TCon Y α χ) {L:X->List SB}{y:X->Y}{good:X->Prop}{n k:Nat}{find:List SA->List SB->Option (List Nat)}{P:Program}{f:FuncId}{w0:World}{S:Nat->Prop}
 (h:(Con.mem (c.low L y good n k find)).holdsAt P w0 S f) (hk:0<k) (hn:∀x,good x->(L x).length=n) (ha:∀a,QaK (sc 1) (c.args a)=true)
 (hv:∀z a r,good z->∀ρ ρ':Nat->Nat,(∀i,ρ' (1+i)=ρ (n+i))->ρ' 0=ρ 0->(c.val 1 (y z) a r).den ρ'=(c.val n (y z) a r).den ρ/\denM ρ' 1 (c.new 1 (y z) a r)=denM ρ n (c.new n (y z) a r)/\(c.new n (y z) a r).length=c.len/\(c.new 1 (y z) a r).length=c.len):
 (Con.mem (c.high L y good)).holdsAt P w0 S f:=by
 refine⟨h.1,fun x0 h=>(by cases h),fun ρ s w hp hK HM=>?_⟩
 obtain⟨z,a,F⟩:=s
 have hA:=HM.holds (.abs (ρ 0) (QE L y good z) F) (List.mem_singleton.2 rfl)
 obtain⟨x,ρ1,rfl,hg,hρ,HM1,hF⟩:=hA
 have harg:(SA.c (.p 0 0)::c.args a).map (SA.den ρ)=(SA.c (.p 0 0)::c.args a).map (SA.den ρ1):=by
  refine List.map_congr_left fun v hv=>?_
  have hav:v.av (sc 1)=true:=by
   rcases List.mem_cons.1 hv with rfl|hv
   · rfl
   · exact Qbi (ha a) v hv
  exact SA.av_den (fun i hi=>by have:=Xs hi;obtain rfl:i=0:=(by omega);exact hρ.symm) hav
 have hfe:∀g,feet (denM ρ 0 [.abs (QE L y good (y x)) F]) g↔feet (denM ρ1 0 (L x)) g:=fun g=>by
  rw[hF g]
  exact⟨fun ⟨e,he,hf⟩=>by obtain rfl:=List.mem_singleton.1 he;exact hf,fun hg=>⟨_,List.mem_singleton.2 rfl,hg⟩⟩
 have:=h.2.2 ρ1 (x,a) w ⟨hg,hp⟩ hK HM1
 show Calls P f ((SA.c (.p 0 0)::c.args a).map (SA.den ρ)).toArray w _
 rw[harg]
 refine this.mono ?_
 rintro e w' ⟨⟨x',r⟩,ρ',⟨hg',hy',hok⟩,hag,hlen,rfl,HM'⟩
 have HM':Mem w (feet (denM ρ1 0 (L x))) (denM ρ' 0 (L x'++c.new n (y x) a r)) w':=HM'
 have hl':=hn x' hg'
 rw[Qfb,hl',Nat.zero_add]at HM'
 obtain⟨hv1,hv2,hv3,hv4⟩:=hv x a r hg ρ' (fun i=>if i=0 then ρ' 0 else ρ' (n+(i-1))) (fun i=>by rw[if_neg (by omega),show 1+i-1=i by omega]) rfl
 refine⟨(feetL (denM ρ' 0 (L x')),r),fun i=>if i=0 then ρ' 0 else ρ' (n+(i-1)),hok,fun i hi=>?_,?_,?_,?_⟩
 · have hi:i<1:=hi
   obtain rfl:i=0:=by omega
   show (if 0=0 then ρ' 0 else ρ' (n+(0-1)))=ρ 0
   rw[if_pos rfl,hag 0 hk];exact hρ
 · show (c.new 1 (y x) a r).length+1=1+c.len
   omega
 · show Ending.returned ((c.val n (y x) a r).den ρ')=Ending.returned ((c.val 1 (y x) a r).den (fun i=>if i=0 then ρ' 0 else ρ' (n+(i-1))))
   rw[hv1]
 · show Mem w _ (denM _ 0 (.abs (QE L y good (c.next (y x) a r)) (feetL (denM ρ' 0 (L x')))::c.new 1 (y x) a r)) w'
   show Mem w _ ([En.abs (if 0=0 then ρ' 0 else ρ' (n+(0-1))) (QE L y good (c.next (y x) a r)) (feetL (denM ρ' 0 (L x')))]++denM _ 1 (c.new 1 (y x) a r)) w'
   rw[if_pos rfl,hv2]
   have hd:=List.pairwise_append.1 HM'.dist
   refine (Mem.subset (S:=feet (denM ρ1 0 (L x))) ⟨HM'.kept,fun e he=>?_,fun e he g hg=>?_,List.pairwise_append.2 ⟨List.pairwise_singleton _ _,hd.2.1,fun e he f hf g hg hfg=>?_⟩⟩ (fun g hg=>(hfe g).2 hg))
   · rcases List.mem_append.1 he with he|he
     · obtain rfl:=List.mem_singleton.1 he
       refine⟨x',ρ',hy',hg',rfl,⟨Kept.refl _ _,fun e he=>HM'.holds e (List.mem_append_left _ he),fun e he g hg=>.inl ⟨e,he,hg⟩,hd.1⟩,fun g=>(feetL_iff _ g).symm⟩
     · exact HM'.holds e (List.mem_append_right _ he)
   · rcases List.mem_append.1 he with he|he
     · obtain rfl:=List.mem_singleton.1 he
       obtain⟨e',he',hf'⟩:=(feetL_iff _ g).1 hg
       exact HM'.own e' (List.mem_append_left _ he') g hf'
     · exact HM'.own e (List.mem_append_right _ he) g hg
   · obtain rfl:=List.mem_singleton.1 he
     obtain⟨e',he',hf'⟩:=(feetL_iff _ g).1 hg
     exact hd.2.2 e' he' f hf g hf' hfg
abbrev evB (m c:Nat) (z:Nat->Nat->Int):SB:=.rows 76 [.int .i64,.int .i64,.int .i64,.int .i64,.int .i64,.int .i64,.int .i64,.int .i64,.int .i64] 9 m c z
abbrev vdB (m c:Nat) (z:Nat->Nat->Int):SB:=.rows 179 [.int .u64,.int .i64,.int .i64,.int .i64,.int .i64,.int .i64,.int .i64] 7 m c z
abbrev shC (tog:Nat->Int) (steps:Int) (nh ch:Nat) (hn:Bool) (nv cv:Nat) (vn:Bool):SB:=.cells [.one (.p 1 0),.one (.p 2 0),.one (.p 3 0),.one (.p 4 0),.one (.p 5 0),.one (.p 6 0),.ints (.int .i64) 4 tog,.one (.v (.int .i64 steps)),.one (.so 15 0 9 nh ch hn),.one (.so 16 0 7 nv cv vn)] 122
abbrev shX (m:Nat->Int) (t:Sto) (w:Nat->Wk) (tog:Nat->Int) (steps:Int) (r:Nat->WkR) (lh mh ch:Nat) (nh:Bool) (zh:Nat->Nat->Int) (lv mv cv:Nat) (nv:Bool) (zv:Nat->Nat->Int):List SB:=[shC tog steps lh ch nh lv cv nv,ramB m,stoB t,
 wkC 7 8 (w 0) (r 0).ca (r 0).na (r 0).cd (r 0).nd,wkC 9 10 (w 1) (r 1).ca (r 1).na (r 1).cd (r 1).nd,wkC 11 12 (w 2) (r 2).ca (r 2).na (r 2).cd (r 2).nd,wkC 13 14 (w 3) (r 3).ca (r 3).na (r 3).cd (r 3).nd,
 wkA (r 0).ma (r 0).ca (r 0).za,wkD (r 0).md (r 0).cd (r 0).zd,wkA (r 1).ma (r 1).ca (r 1).za,wkD (r 1).md (r 1).cd (r 1).zd,wkA (r 2).ma (r 2).ca (r 2).za,wkD (r 2).md (r 2).cd (r 2).zd,wkA (r 3).ma (r 3).ca (r 3).za,wkD (r 3).md (r 3).cd (r 3).zd,
 evB mh ch zh,vdB mv cv zv]
def shM (s:ShS):List SB:=shX s.z.m s.z.s s.z.w s.z.tog s.z.steps s.r s.z.hist.length s.mh s.ch s.nh s.zh s.z.deeds.length s.mv s.cv s.nv s.zv
structure ShS.good (s:ShS):Prop where
 w:∀t,t<4->(wkS (s.z.w t) (s.r t)).good
 h1:s.z.hist.length<=s.mh
 h2:s.mh<=s.ch
 h:IsE s.zh s.z.hist
 v1:s.z.deeds.length<=s.mv
 v2:s.mv<=s.cv
 v:IsV s.zv s.z.deeds
def shAt (M:List SB) (b:Nat):List Nat:=match getB M b with
 |.cells l _=>match segGet l 0,segGet l 1,segGet l 2,segGet l 3,segGet l 4,segGet l 5,segGet l 11,segGet l 12 with
  |some (.p m _),some (.p s _),some (.p w0 _),some (.p w1 _),some (.p w2 _),some (.p w3 _),some (.so h _ _ _ _ _),some (.so d _ _ _ _ _)=>[b,m,s,w0,w1,w2,w3]++adB M w0++adB M w1++adB M w2++adB M w3++[h,d]
  |_,_,_,_,_,_,_,_=>[]
 |_=>[]
def Qc9:List SA->List SB->Option (List Nat):=fun args M=>match blkA args with
 |b::_=>some (shAt M b)
 |_=>none
theorem XY {z:Sh}{r:Nat->WkR}{t:Nat}{w:Wk}{x:WkR}(h:∀u,u<4->(wkS (z.w u) (r u)).good) (hx:(wkS w x).good):∀u,u<4->(wkS (setF z.w t w u) (setF r t x u)).good:=fun u hu=>by
 by_cases e:u=t
 · subst e;rw[Qk,Qk];exact hx
 · rw[Xc _ _ e,Xc _ _ e];exact h u hu
theorem Qbw {m:Nat->Int}{t:Sto}{w:Nat->Wk}{tog:Nat->Int}{steps:Int}{r:Nat->WkR}{l:List Ev}{e:Ev}{D:List Vd}{mh ch:Nat}{nh:Bool}{zh:Nat->Nat->Int}{mv cv:Nat}{nv:Bool}{zv:Nat->Nat->Int}:
 shM ⟨⟨m,t,w,tog,steps,l++[e],D⟩,r,mh,ch,nh,zh,mv,cv,nv,zv⟩=shX m t w tog steps r (l.length+1) mh ch nh zh D.length mv cv nv zv:=by
 unfold shM;rw[List.length_append];rfl
abbrev wkR (x y:Nat) (w:Wk) (r:WkR):SB:=wkC x y w r.ca r.na r.cd r.nd
abbrev wkZ (x y:Nat) (w:Wk):SB:=wkC x y w 0 false 0 false
abbrev waR (r:WkR):SB:=wkA r.ma r.ca r.za
abbrev wdR (r:WkR):SB:=wkD r.md r.cd r.zd
abbrev wa0:SB:=wkA 0 0 fun _ _=>0
abbrev wd0:SB:=wkD 0 0 fun _ _=>0
abbrev shD (tog:Nat->Int) (st:Int) (a lh ch:Nat) (hn:Bool) (b nv cv:Nat) (vn:Bool):SB:=.cells [.one (.p 1 0),.one (.p 2 0),.one (.p 3 0),.one (.p 4 0),.one (.p 5 0),.one (.p 6 0),.ints (.int .i64) 4 tog,.one (.v (.int .i64 st)),.one (.so a 0 9 lh ch hn),.one (.so b 0 7 nv cv vn)] 122
abbrev shZ (tog:Nat->Int) (st:Int) (lh ch:Nat) (hn:Bool) (nv cv:Nat) (vn:Bool) (m:Nat->Int) (s:Sto) (w0:Wk) (r0:WkR) (w1:Wk) (r1:WkR) (w2:Wk) (r2:WkR) (w3:Wk) (r3:WkR) (mh c:Nat) (zh:Nat->Nat->Int) (mv d:Nat) (zv:Nat->Nat->Int):List SB:=[shD tog st 15 lh ch hn 16 nv cv vn,ramB m,stoB s,wkR 7 8 w0 r0,wkR 9 10 w1 r1,wkR 11 12 w2 r2,wkR 13 14 w3 r3,waR r0,wdR r0,waR r1,wdR r1,waR r2,wdR r2,waR r3,wdR r3,evB mh c zh,vdB mv d zv]
abbrev shG (tog:Nat->Int) (st:Int) (a lh ch:Nat) (hn:Bool) (b nv cv:Nat) (vn:Bool) (m:Nat->Int) (s:Sto) (i0 j0 i1 j1 i2 j2 i3 j3:Nat) (w:Nat->Wk) (r:Nat->WkR) (mh c:Nat) (zh:Nat->Nat->Int) (mv d:Nat) (zv:Nat->Nat->Int) (tl:List SB):List SB:=shD tog st a lh ch hn b nv cv vn::ramB m::stoB s::wkR i0 j0 (w 0) (r 0)::wkR i1 j1 (w 1) (r 1)::wkR i2 j2 (w 2) (r 2)::wkR i3 j3 (w 3) (r 3)::waR (r 0)::wdR (r 0)::waR (r 1)::wdR (r 1)::waR (r 2)::wdR (r 2)::waR (r 3)::wdR (r 3)::evB mh c zh::vdB mv d zv::tl
abbrev stX (w:Nat->Wk) (r:Nat->WkR):Nat->SB:=fun i=>wkR (2*i+7) (2*i+8) (w i) (r i)
abbrev stA (r:Nat->WkR):Nat->SB:=fun i=>waR (r i)
abbrev stD (r:Nat->WkR):Nat->SB:=fun i=>wdR (r i)
abbrev shI (hd:SB) (m:Nat->Int) (s:Sto) (C A D:Nat->SB) (e f:SB) (tl:List SB):List SB:=hd::ramB m::stoB s::C 0::C 1::C 2::C 3::A 0::D 0::A 1::D 1::A 2::D 2::A 3::D 3::e::f::tl
end
section
def Qcq (z:Sh) (t:Nat) (i:Nat):List Vd:=z.deeds++((Qd (z.wst t)).1.w.deeds.take i).map (Vd.mk ((Qd (z.wst t)).1.s.now 0))
theorem Qal (z:Sh) (t:Nat):Qcq z t 0=z.deeds:=List.append_nil _
theorem Qam (z:Sh) (t:Nat) {i:Nat}(h:i<(Qd (z.wst t)).1.w.deeds.length):Qcq z t (i+1)=Qcq z t i++[⟨(Qd (z.wst t)).1.s.now 0,(Qd (z.wst t)).1.w.deeds.getD i Dd.nil⟩]:=by
 unfold Qcq
 rw[List.take_add_one,List.getElem?_eq_getElem h,Option.toList_some,List.map_append,List.append_assoc,List.getD_eq_getElem?_getD,List.getElem?_eq_getElem h];rfl
theorem QdT (z:Sh) (t:Nat) (i:Nat):(Qcq z t i).length<=z.deeds.length+i:=by
 unfold Qcq
 rw[List.length_append,List.length_map,List.length_take];omega
def QgK (z:Sh) (t:Nat):Bool:=!((z.w t).does==0)&&(Qd (z.wst t)).2
structure QlG (z:Sh) (l:Int):Prop where
 st0:0<=z.steps
 st1:z.steps<100000000
 h:z.hist.length<=1000000000
 d:z.deeds.length<=1000000000
 lu:U64 l
 v0:0<=Qs l z.s 0
 v1:Qs l z.s 0<1000000000
 vs:∀d∈z.deeds,0<=d.ver/\d.ver<18446744073709551616
structure stOK (z:Sh) (t:Nat):Prop where
 st0:0<=z.steps
 st1:z.steps<100000000
 h:z.hist.length<=1000000000
 d:z.deeds.length<=1000000000
 th:(z.w t).th=t
 dl:(z.w t).does=11->(Qd (z.wst t)).1.w.deeds.length<=1000000
section
variable {z:Sh}{t:Nat}
theorem QcQ (h:(z.w t).does=0):QgK z t=false:=by unfold QgK;rw[show ((z.w t).does==0)=true from beq_iff_eq.2 h];rfl
theorem Qbv (h:(Qd (z.wst t)).2=false):QgK z t=false:=by unfold QgK;rw[h,Bool.and_false]
theorem QdD (h:(z.w t).does≠0) (hb:(Qd (z.wst t)).2=true):QgK z t=true:=by unfold QgK;rw[hb,show ((z.w t).does==0)=false from beq_eq_false_iff_ne.2 h];rfl
theorem QcP (h:(z.w t).does=11):(Qd (z.wst t)).2=false:=by simp[Qd,Sh.wst,h]
theorem QgI (h:(z.w t).does=11) {i:Nat}(hi:i=(Qd (z.wst t)).1.w.deeds.length):z.step t={ z with m:=(Qd (z.wst t)).1.m,s:=(Qd (z.wst t)).1.s,w:=setF z.w t (Qd (z.wst t)).1.w,steps:=z.steps+1,deeds:=Qcq z t i }:=by
 unfold Sh.step
 rw[if_neg (by omega)]
 have e:Qd (z.wst t)=((Qd (z.wst t)).1,false):=by rw[<- QcP h]
 rw[Qb9 h e]
 unfold Qcq Sh.counted Sh.moved
 rw[hi,List.take_length]
theorem QgH (h:(z.w t).does≠0) (h11:(z.w t).does≠11) (hb:(Qd (z.wst t)).2=false):z.step t=z.moved t (Qd (z.wst t)).1:=by
 unfold Sh.step
 rw[if_neg h]
 exact Qw h11 (by rw[<- hb])
theorem Qe0 (h:(z.w t).does≠0) (h11:(z.w t).does≠11) (hb:(Qd (z.wst t)).2=true):z.step t=(z.moved t (Qd (z.wst t)).1).answered t (Qd (z.wst t)).1.w:=by
 unfold Sh.step
 rw[if_neg h]
 exact Qb8 h11 (by rw[<- hb])
end
end
section
open Go.RowKit
def QM (z:Sh) (t:Nat):SV:=.t [ansA (bif QgK z t then (Qd (z.wst t)).1.w.oc else 0) (bif QgK z t then (Qd (z.wst t)).1.w.ov else 0),.c (.v (.bool (QgK z t))),.c (.v (bif (z.w t).does==0 then .iface 91 (.int .i64 8)else .nilIface))]
def stC (t:Nat):TCon Sh Unit Unit where
 pre z _:=stOK z t/\((z.w t).does≠0->Qbe (z.wst t))
 args _:=[.c (.v (.int .i64 t))]
 ok _ _ _:=True
 next z _ _:=z.step t
 val _ z _ _:=QM z t
 new _ _ _ _:=[]
 len:=0
abbrev QbX (t:Nat):MCon:=(stC t).low shM ShS.z ShS.good 17 7 Qc9
structure StpG (z:Sh) (t:Nat) where
 i:Nat
 ln:Nat
 x:WkR
 cc:Nat
 zc:Nat->Nat->Int
 n:Nat
 mv:Nat
 cv:Nat
 nv:Bool
 zv:Nat->Nat->Int
 hx:(wkS (Qd (z.wst t)).1.w x).good
 hl:ln=(Qd (z.wst t)).1.w.deeds.length
 hi:i<=(Qd (z.wst t)).1.w.deeds.length
 hc:IsR 6 Dd.at Dd.nil zc (Qd (z.wst t)).1.w.deeds
 hcc:ln<=cc
 hn:n=(Qcq z t i).length
 h1:n<=mv
 h2:mv<=cv
 hv:IsV zv (Qcq z t i)
def Qit (s:ShS) (t:Nat):Ann where
 σ:=StpG s.z t
 I g:=([(0,.o (.c (.p 0 0))),(1,sv (.int .i64 t)),(4,.o (.c (.p 17 0))),(7,.o (.c (.p (3+t) 0))),(10,sv (.bool (Qd (s.z.wst t)).2)),(11,sv (.int .u64 ((Qd (s.z.wst t)).1.s.now 0))),(66,.o (.c (.so 18 0 6 g.ln g.cc false))),(67,sv (.int .i64 g.ln)),(68,sv (.int .i64 g.i))],
   shX (Qd (s.z.wst t)).1.m (Qd (s.z.wst t)).1.s (setF s.z.w t (Qd (s.z.wst t)).1.w) s.z.tog (s.z.steps+1) (setF s.r t g.x) s.z.hist.length s.mh s.ch s.nh s.zh g.n g.mv g.cv g.nv g.zv++[.cells [.one (.v (.int .i64 0)),.one (.v (.int .i64 0))] 40,wkD g.ln g.cc g.zc])
 dec g:=(Qd (s.z.wst t)).1.w.deeds.length-g.i
 pi env M:=shAt M 0++[blkE env 4,blkE env 66]
 nz:=[]
def QeE (n0:Nat) (n1:Nat) (n2:Nat) (n3:Nat) (z:Sh) (r:Nat->WkR) (mh:Nat) (ch:Nat) (nh:Bool) (zh:Nat->Nat->Int) (mv:Nat) (cv:Nat) (nv:Bool) (zv:Nat->Nat->Int):Prop:=(iR (n0:Int) (4:Int))/\bif (Sh.w z n0).2==(0:Int)then endN (QbX n0) [] (fun (x:SV) (M:List SB)=>shAt M 0) (ShS.mk z r mh ch nh zh mv cv nv zv,PUnit.unit) (SV.t [SA.a [sI 0,sI 0],aB false,SA.c (.v (.iface 91 (Value.int .i64 (8:Int))))]) (shI (shD z.4 z.5 15 (List.length z.6) ch nh 16 (List.length z.7) cv nv) z.1 (Sh.s z) (stX (Sh.w z) r) (stA r) (stD r) (evB mh ch zh) (vdB mv cv zv) [SB.cells [sI 0,sI 0] 40])else dP Tryz.f91 8 18 [⟨9,[],[n1,1,2,n2,n3,18,19],[],true⟩,⟨8,[0],[],[2],false⟩,xF 7 0,xF 6 0,xF 5 0,⟨4,[0],[],[1],false⟩,xF 3 0,xF 2 0,xF 1 0,xF 0 n1]/\∃(s:WlS),[aP n1 0,aP 1 0,aP 2 0]=[aP n1 0,aP 1 0,aP 2 0]/\[wkR n2 n3 (Sh.w z n0) (r n0),ramB z.1,stoB (Sh.s z),waR (r n0),wdR (r n0)]=[wkC n2 n3 (WkS.w (WlS.s s)) (WlS.s s).3 (WlS.s s).4 (WlS.s s).7 (WlS.s s).8,ramB s.2,stoB (WlS.t s),wkA (WlS.s s).2 (WlS.s s).3 (WlS.s s).5,wkD (WlS.s s).6 (WlS.s s).7 (WlS.s s).9]/\Qqo s/\∀(x:WkR),RepOK (Prod.fst (Qd (WlS.z s))).1 x->dP Tryz.f91 8 18 [xE 10,⟨9,[],[n1,1,2,n2,n3,18,19],[18,19],true⟩,⟨8,[0],[],[2],false⟩,xF 7 0,xF 6 0,xF 5 0,⟨4,[0],[],[1],false⟩,xF 3 0,xF 2 0,xF 1 0,xF 0 n1]/\bif (Sh.w z n0).2==(11:Int)then ∃(s_1:QC),[aP 2 0,aI 0]=[aP 2 0,aI s_1.2]/\[stoB (WSt.s (Prod.fst (Qd (WlS.z s))))]=[stoB (QC.s s_1)]/\(iR s_1.2 (72:Int))/\∀(x_1:Unit),True->(True/\(0+List.length (WSt.w (Prod.fst (Qd (WlS.z s)))).12<=x.5/\x.6=x.6)/\0+List.length (WSt.w (Prod.fst (Qd (WlS.z s)))).12<=68719476736)/\∀(c:Nat),0+List.length (WSt.w (Prod.fst (Qd (WlS.z s)))).12<=c->0+List.length (WSt.w (Prod.fst (Qd (WlS.z s)))).12<=c/\(∃(s0:Ann.σ (Qit (ShS.mk z r mh ch nh zh mv cv nv zv) n0)),(eS (aP 0 0) (aP 0 0)/\eS (aI n0) (aI n0)/\eS (aP 17 0) (aP 17 0)/\eS (aP n1 0) (aP n1 0)/\eS (aB (Qd (WlS.z s)).2) (aB (Qd (Sh.wst z n0)).2)/\eS (aU ((QC.s s_1).1 (Int.toNat s_1.2))) (aU ((WSt.s (Prod.fst (Qd (Sh.wst z n0)))).1 0))/\eS (SA.c (.so 20 0 6 (0+List.length (WSt.w (Prod.fst (Qd (WlS.z s)))).12) c false)) (SA.c (.so 20 0 6 s0.2 s0.4 false))/\eS (aI (↑(0+List.length (WSt.w (Prod.fst (Qd (WlS.z s)))).12):Int)) (aI ↑s0.2)/\eS (aI 0) (aI ↑s0.1)/\True)/\(shI (shD z.4 (IntKind.wrap .i64 (z.5+(1:Int))) 15 (List.length z.6) ch nh 16 (List.length z.7) cv nv) (Prod.fst (Qd (WlS.z s))).2 (QC.s s_1) (setF (stX (Sh.w z) r) n0 (wkR 18 19 (WSt.w (Prod.fst (Qd (WlS.z s)))) x)) (setF (stA r) n0 (waR x)) (setF (stD r) n0 (wdR x)) (evB mh ch zh) (vdB mv cv zv) [SB.cells [sI 0,sI 0] 40,wkD (0+List.length (WSt.w (Prod.fst (Qd (WlS.z s)))).12) c fun (i j:Nat)=>x.8 (0+i) j])=(shI (shD z.4 (z.5+(1:Int)) 15 (List.length z.6) ch nh 16 s0.6 s0.8 s0.9) (Prod.fst (Qd (Sh.wst z n0))).2 (WSt.s (Prod.fst (Qd (Sh.wst z n0)))) (setF (stX (setF (Sh.w z) n0 (WSt.w (Prod.fst (Qd (Sh.wst z n0))))) (setF r n0 (StpG.x s0))) n0 (wkR 18 19 (setF (Sh.w z) n0 (WSt.w (Prod.fst (Qd (Sh.wst z n0)))) n0) (setF r n0 (StpG.x s0) n0))) (stA (setF r n0 (StpG.x s0))) (stD (setF r n0 (StpG.x s0))) (evB mh ch zh) (vdB s0.7 s0.8 s0.10) [SB.cells [sI 0,sI 0] 40,wkD s0.2 s0.4 s0.5]))/\∀(s:StpG z n0),bif decide ((↑s.1:Int)<(↑s.2:Int))then ((0:Int)<=(↑s.1:Int)/\(↑s.1:Int)<(↑s.2:Int)/\0+s.2<=s.4)/\0+Int.toNat (↑s.1:Int)<s.2/\dP Tryz.f91 14 20 [⟨9,[20],[16,21],[],true⟩,⟨8,[],[20],[20],false⟩,xE 7,xR 6 19,xE 5,⟨4,[0],[],[16],false⟩,xF 3 0,xF 2 0,xF 1 0,xF 0 0]/\((s.6<=s.7/\s.8=s.8)/\(1<=1/\1=1)/\s.6+1<=68719476736)/\∀(c:Nat),s.6+1<=c->dP Tryz.f91 14 20 [⟨12,[],[0],[1,2,3,4,5,6,15,21],false⟩,xF 11 0,xF 10 0,⟨9,[20],[16,21],[21],true⟩,⟨8,[],[20],[20],false⟩,xE 7,xR 6 19,xE 5,⟨4,[0],[],[16],false⟩,xF 3 0,xF 2 0,xF 1 0,xF 0 0]/\∃(s':StpG z n0),((eS (aP 0 0) (aP 0 0)/\eS (aI n0) (aI n0)/\eS (aP 17 0) (aP 17 0)/\eS (aP n1 0) (aP n1 0)/\eS (aB (Qd (Sh.wst z n0)).2) (aB (Qd (Sh.wst z n0)).2)/\eS (aU ((WSt.s (Prod.fst (Qd (Sh.wst z n0)))).1 0)) (aU ((WSt.s (Prod.fst (Qd (Sh.wst z n0)))).1 0))/\eS (SA.c (.so 18 0 6 s.2 s.4 false)) (SA.c (.so 18 0 6 s'.2 s'.4 false))/\eS (aI ↑s.2) (aI ↑s'.2)/\eS (aI (IntKind.wrap .i64 ((↑s.1:Int)+(1:Int)))) (aI ↑s'.1)/\True)/\(shI (shD z.4 (z.5+(1:Int)) 15 (List.length z.6) ch nh 21 (s.6+1) c s.9) (Prod.fst (Qd (Sh.wst z n0))).2 (WSt.s (Prod.fst (Qd (Sh.wst z n0)))) (stX (setF (Sh.w z) n0 (WSt.w (Prod.fst (Qd (Sh.wst z n0))))) (setF r n0 (StpG.x s))) (stA (setF r n0 (StpG.x s))) (stD (setF r n0 (StpG.x s))) (evB mh ch zh) (vdB (s.6+1) c fun (i j:Nat)=>bif Nat.ble (i+1) s.6 then s.10 i j else match List.get?Internal (match List.get?Internal [[(WSt.s (Prod.fst (Qd (Sh.wst z n0)))).1 0,s.5 (0+Int.toNat (↑s.1:Int)) 0,s.5 (0+Int.toNat (↑s.1:Int)) 1,s.5 (0+Int.toNat (↑s.1:Int)) 2,s.5 (0+Int.toNat (↑s.1:Int)) 3,s.5 (0+Int.toNat (↑s.1:Int)) 4,s.5 (0+Int.toNat (↑s.1:Int)) 5]] (0+(i-s.6))with|some x=>x|none=>[]) j with|some x=>x|none=>(0:Int)) [SB.cells [sI 0,sI 0] 40,wkD s.2 s.4 s.5])=(shI (shD z.4 (z.5+(1:Int)) 15 (List.length z.6) ch nh 21 s'.6 s'.8 s'.9) (Prod.fst (Qd (Sh.wst z n0))).2 (WSt.s (Prod.fst (Qd (Sh.wst z n0)))) (stX (setF (Sh.w z) n0 (WSt.w (Prod.fst (Qd (Sh.wst z n0))))) (setF r n0 (StpG.x s'))) (stA (setF r n0 (StpG.x s'))) (stD (setF r n0 (StpG.x s'))) (evB mh ch zh) (vdB s'.7 s'.8 s'.10) [SB.cells [sI 0,sI 0] 40,wkD s'.2 s'.4 s'.5]))/\List.length (WSt.w (Prod.fst (Qd (Sh.wst z n0)))).12-s'.1<List.length (WSt.w (Prod.fst (Qd (Sh.wst z n0)))).12-s.1 else bif bif (Qd (Sh.wst z n0)).2 then false else true then endN (QbX n0) [] (fun (x:SV) (M:List SB)=>shAt M 0) (ShS.mk z r mh ch nh zh mv cv nv zv,PUnit.unit) (SV.t [SA.a [sI 0,sI 0],aB false,SA.c (.v Value.nilIface)]) (shI (shD z.4 (z.5+(1:Int)) 15 (List.length z.6) ch nh 16 s.6 s.8 s.9) (Prod.fst (Qd (Sh.wst z n0))).2 (WSt.s (Prod.fst (Qd (Sh.wst z n0)))) (stX (setF (Sh.w z) n0 (WSt.w (Prod.fst (Qd (Sh.wst z n0))))) (setF r n0 (StpG.x s))) (stA (setF r n0 (StpG.x s))) (stD (setF r n0 (StpG.x s))) (evB mh ch zh) (vdB s.7 s.8 s.10) [SB.cells [sI 0,sI 0] 40,wkD s.2 s.4 s.5])else dP Tryz.f14 1 20 [xE 9,⟨8,[],[19],[],false⟩,xR 7 n1,xF 6 n1,xF 5 n1,xF 4 n1,xR 3 n1,xF 2 n1,xF 1 n1,xF 0 n1]/\(iR (n0:Int) (4:Int))/\n0<4/\dP Tryz.f91 19 21 [⟨9,[],[0],[1,2,3,4,5,6,15,16],false⟩,xF 8 0,xF 7 0,xF 6 0,xR 5 n1,xF 4 n1,xF 3 n1,xF 2 n1,xE 1,xF 0 0]/\dP Tryz.f91 20 21 [⟨18,[21],[15,22],[],true⟩,⟨17,[],[21],[21],false⟩,xE 16,xR 15 0,xF 14 0,xF 13 0,xF 12 0,xE 11,xR 10 20,xR 9 n1,xF 8 n1,xF 7 n1,xF 6 n1,xE 5,⟨4,[0],[],[15],false⟩,xF 3 0,xF 2 0,xF 1 0,xF 0 0]/\((List.length z.6<=mh/\ch=ch)/\(1<=1/\1=1)/\List.length z.6+1<=68719476736)/\∀(c:Nat),List.length z.6+1<=c->dP Tryz.f91 20 21 [⟨21,[],[0],[1,2,3,4,5,6,22,16],false⟩,xF 20 0,xF 19 0,⟨18,[21],[15,22],[22],true⟩,⟨17,[],[21],[21],false⟩,xE 16,xR 15 0,xF 14 0,xF 13 0,xF 12 0,xE 11,xR 10 20,xR 9 n1,xF 8 n1,xF 7 n1,xF 6 n1,xE 5,⟨4,[0],[],[15],false⟩,xF 3 0,xF 2 0,xF 1 0,xF 0 0]/\endN (QbX n0) [] (fun (x:SV) (M:List SB)=>shAt M 0) (ShS.mk z r mh ch nh zh mv cv nv zv,PUnit.unit) (SV.t [SA.a [sI (setF (Sh.w z) n0 (WSt.w (Prod.fst (Qd (Sh.wst z n0)))) n0).14,sI (setF (Sh.w z) n0 (WSt.w (Prod.fst (Qd (Sh.wst z n0)))) n0).15],aB true,SA.c (.v Value.nilIface)]) (shI (shD (fun (i:Nat)=>bif Nat.beq i n0 then (setF (Sh.w z) n0 (WSt.w (Prod.fst (Qd (Sh.wst z n0)))) n0).6 else z.4 i) (z.5+(1:Int)) 22 (List.length z.6+1) c nh 16 s.6 s.8 s.9) (Prod.fst (Qd (Sh.wst z n0))).2 (WSt.s (Prod.fst (Qd (Sh.wst z n0)))) (stX (setF (Sh.w z) n0 (WSt.w (Prod.fst (Qd (Sh.wst z n0))))) (setF r n0 (StpG.x s))) (stA (setF r n0 (StpG.x s))) (stD (setF r n0 (StpG.x s))) SB.gone (vdB s.7 s.8 s.10) [SB.cells [sI (setF (Sh.w z) n0 (WSt.w (Prod.fst (Qd (Sh.wst z n0)))) n0).14,sI (setF (Sh.w z) n0 (WSt.w (Prod.fst (Qd (Sh.wst z n0)))) n0).15] 40,wkD s.2 s.4 s.5,SB.cells [sI (setF (Sh.w z) n0 (WSt.w (Prod.fst (Qd (Sh.wst z n0)))) n0).14,sI (setF (Sh.w z) n0 (WSt.w (Prod.fst (Qd (Sh.wst z n0)))) n0).15] 40,SB.cells [sI (setF (Sh.w z) n0 (WSt.w (Prod.fst (Qd (Sh.wst z n0)))) n0).14,sI (setF (Sh.w z) n0 (WSt.w (Prod.fst (Qd (Sh.wst z n0)))) n0).15] 40,evB 1 1 fun (i j:Nat)=>match List.get?Internal (match List.get?Internal [[(2:Int),(n0:Int),(setF (Sh.w z) n0 (WSt.w (Prod.fst (Qd (Sh.wst z n0)))) n0).3,(setF (Sh.w z) n0 (WSt.w (Prod.fst (Qd (Sh.wst z n0)))) n0).4,(setF (Sh.w z) n0 (WSt.w (Prod.fst (Qd (Sh.wst z n0)))) n0).5,(setF (Sh.w z) n0 (WSt.w (Prod.fst (Qd (Sh.wst z n0)))) n0).14,(setF (Sh.w z) n0 (WSt.w (Prod.fst (Qd (Sh.wst z n0)))) n0).15,(setF (Sh.w z) n0 (WSt.w (Prod.fst (Qd (Sh.wst z n0)))) n0).16,z.5+(1:Int)]] i with|some x=>x|none=>[]) j with|some x=>x|none=>(0:Int),evB (List.length z.6+1) c fun (i j:Nat)=>bif Nat.ble (i+1) (List.length z.6)then zh i j else match List.get?Internal (match List.get?Internal [[(2:Int),(n0:Int),(setF (Sh.w z) n0 (WSt.w (Prod.fst (Qd (Sh.wst z n0)))) n0).3,(setF (Sh.w z) n0 (WSt.w (Prod.fst (Qd (Sh.wst z n0)))) n0).4,(setF (Sh.w z) n0 (WSt.w (Prod.fst (Qd (Sh.wst z n0)))) n0).5,(setF (Sh.w z) n0 (WSt.w (Prod.fst (Qd (Sh.wst z n0)))) n0).14,(setF (Sh.w z) n0 (WSt.w (Prod.fst (Qd (Sh.wst z n0)))) n0).15,(setF (Sh.w z) n0 (WSt.w (Prod.fst (Qd (Sh.wst z n0)))) n0).16,z.5+(1:Int)]] (0+(i-List.length z.6))with|some x=>x|none=>[]) j with|some x=>x|none=>(0:Int)])else bif bif (Qd (WlS.z s)).2 then false else true then endN (QbX n0) [] (fun (x:SV) (M:List SB)=>shAt M 0) (ShS.mk z r mh ch nh zh mv cv nv zv,PUnit.unit) (SV.t [SA.a [sI 0,sI 0],aB false,SA.c (.v Value.nilIface)]) (shI (shD z.4 (IntKind.wrap .i64 (z.5+(1:Int))) 15 (List.length z.6) ch nh 16 (List.length z.7) cv nv) (Prod.fst (Qd (WlS.z s))).2 (WSt.s (Prod.fst (Qd (WlS.z s)))) (setF (stX (Sh.w z) r) n0 (wkR 18 19 (WSt.w (Prod.fst (Qd (WlS.z s)))) x)) (setF (stA r) n0 SB.gone) (setF (stD r) n0 SB.gone) (evB mh ch zh) (vdB mv cv zv) [SB.cells [sI 0,sI 0] 40,waR x,wdR x])else dP Tryz.f14 1 21 [xE 9,⟨8,[],[20],[],false⟩,xR 7 n1,xF 6 n1,xF 5 n1,xF 4 n1,xR 3 n1,xF 2 n1,xF 1 n1,xF 0 n1]/\(iR (n0:Int) (4:Int))/\n0<4/\dP Tryz.f91 19 22 [⟨9,[],[0],[1,2,3,4,5,6,15,16],false⟩,xF 8 0,xF 7 0,xF 6 0,xR 5 n1,xF 4 n1,xF 3 n1,xF 2 n1,xE 1,xF 0 0]/\dP Tryz.f91 20 22 [⟨18,[22],[15,23],[],true⟩,⟨17,[],[22],[22],false⟩,xE 16,xR 15 0,xF 14 0,xF 13 0,xF 12 0,xE 11,xR 10 21,xR 9 n1,xF 8 n1,xF 7 n1,xF 6 n1,xE 5,⟨4,[0],[],[15],false⟩,xF 3 0,xF 2 0,xF 1 0,xF 0 0]/\((List.length z.6<=mh/\ch=ch)/\(1<=1/\1=1)/\List.length z.6+1<=68719476736)/\∀(c:Nat),List.length z.6+1<=c->dP Tryz.f91 20 22 [⟨21,[],[0],[1,2,3,4,5,6,23,16],false⟩,xF 20 0,xF 19 0,⟨18,[22],[15,23],[23],true⟩,⟨17,[],[22],[22],false⟩,xE 16,xR 15 0,xF 14 0,xF 13 0,xF 12 0,xE 11,xR 10 21,xR 9 n1,xF 8 n1,xF 7 n1,xF 6 n1,xE 5,⟨4,[0],[],[15],false⟩,xF 3 0,xF 2 0,xF 1 0,xF 0 0]/\endN (QbX n0) [] (fun (x:SV) (M:List SB)=>shAt M 0) (ShS.mk z r mh ch nh zh mv cv nv zv,PUnit.unit) (SV.t [SA.a [sI (WSt.w (Prod.fst (Qd (WlS.z s)))).14,sI (WSt.w (Prod.fst (Qd (WlS.z s)))).15],aB true,SA.c (.v Value.nilIface)]) (shI (shD (fun (i:Nat)=>bif Nat.beq i n0 then (WSt.w (Prod.fst (Qd (WlS.z s)))).6 else z.4 i) (IntKind.wrap .i64 (z.5+(1:Int))) 23 (List.length z.6+1) c nh 16 (List.length z.7) cv nv) (Prod.fst (Qd (WlS.z s))).2 (WSt.s (Prod.fst (Qd (WlS.z s)))) (setF (stX (Sh.w z) r) n0 (wkR 18 19 (WSt.w (Prod.fst (Qd (WlS.z s)))) x)) (setF (stA r) n0 SB.gone) (setF (stD r) n0 SB.gone) SB.gone (vdB mv cv zv) [SB.cells [sI (WSt.w (Prod.fst (Qd (WlS.z s)))).14,sI (WSt.w (Prod.fst (Qd (WlS.z s)))).15] 40,waR x,wdR x,SB.cells [sI (WSt.w (Prod.fst (Qd (WlS.z s)))).14,sI (WSt.w (Prod.fst (Qd (WlS.z s)))).15] 40,SB.cells [sI (WSt.w (Prod.fst (Qd (WlS.z s)))).14,sI (WSt.w (Prod.fst (Qd (WlS.z s)))).15] 40,evB 1 1 fun (i j:Nat)=>match List.get?Internal (match List.get?Internal [[(2:Int),(n0:Int),(WSt.w (Prod.fst (Qd (WlS.z s)))).3,(WSt.w (Prod.fst (Qd (WlS.z s)))).4,(WSt.w (Prod.fst (Qd (WlS.z s)))).5,(WSt.w (Prod.fst (Qd (WlS.z s)))).14,(WSt.w (Prod.fst (Qd (WlS.z s)))).15,(WSt.w (Prod.fst (Qd (WlS.z s)))).16,IntKind.wrap .i64 (z.5+(1:Int))]] i with|some x=>x|none=>[]) j with|some x=>x|none=>(0:Int),evB (List.length z.6+1) c fun (i j:Nat)=>bif Nat.ble (i+1) (List.length z.6)then zh i j else match List.get?Internal (match List.get?Internal [[(2:Int),(n0:Int),(WSt.w (Prod.fst (Qd (WlS.z s)))).3,(WSt.w (Prod.fst (Qd (WlS.z s)))).4,(WSt.w (Prod.fst (Qd (WlS.z s)))).5,(WSt.w (Prod.fst (Qd (WlS.z s)))).14,(WSt.w (Prod.fst (Qd (WlS.z s)))).15,(WSt.w (Prod.fst (Qd (WlS.z s)))).16,IntKind.wrap .i64 (z.5+(1:Int))]] (0+(i-List.length z.6))with|some x=>x|none=>[]) j with|some x=>x|none=>(0:Int)])
theorem Qjm:(Con.mem (QbX 0)).holds Tryz.prog 91:=by
 intro w0 S
 refine Qb (Γ:=[(90,.inl Tryz.f90 (Tryz.f90.body.getD .skip)),(13,.mem QdX),(15,.mem QN),(31,.inl Tryz.f31 (Tryz.f31.body.getD .skip)),(14,.inl Tryz.f14 (Tryz.f14.body.getD .skip))]) (fun _=>noW) Tryz.func91 rfl (by kernel_rfl) Qg Qc (fun w S' _ _=>.cons ⟨by kernel_rfl,rfl,rfl⟩ (.cons (QdC w S') (.cons (QO w S') (.cons ⟨by kernel_rfl,rfl,rfl⟩ (.cons ⟨by kernel_rfl,rfl,rfl⟩ (.nil _ _ _)))))) (QbX 0) (fun s=>[(91,[(0,Qit s.1 0)])]) (fun x0 h=>by cases h) (fun s ρ w _ _ _=>Qh w _) [] (fun _ M=>shAt M 0) 600 ?_
 rintro⟨⟨z,r,mh,ch,nh,zh,mv,cv,nv,zv⟩,⟨⟩⟩ W ⟨h0,h1,h2⟩ -
 refine⟨rfl,?_⟩
 dsimp only
 refine Qi (q:=QeE 0 3 7 8 z r mh ch nh zh mv cv nv zv) (by kernel_rfl) ?_
 unfold QeE
 have h0:(⟨z,r,mh,ch,nh,zh,mv,cv,nv,zv⟩:ShS).good:=h0
 have h1:stOK z 0:=h1
 have h2:(z.w 0).does≠0->Qbe (z.wst 0):=h2
 have hst0:=h1.st0
 have hst1:=h1.st1
 have hhl:=h1.h
 have hdl:=h1.d
 have es:IntKind.wrap .i64 (z.steps+1)=z.steps+1:=QH (by omega) (by omega)
 rw[es]
 refine⟨⟨by decide,by decide⟩,QY (fun hd=>?_) (fun hd=>?_)⟩
 · have e0:z.step 0=z:=if_pos hd
   refine Qj rfl ⟨⟨z,r,mh,ch,nh,zh,mv,cv,nv,zv⟩,()⟩ ⟨h0,e0.symm,trivial⟩ rfl ?_ rfl
   show _=(QM z 0).ren _
   unfold QM
   rw[QcQ hd,show ((z.w 0).does==0)=true from beq_iff_eq.2 hd];rfl
 · have hth:(z.w 0).th<4:=by rw[h1.th];decide
   refine⟨Qf (by kernel_rfl),⟨wkS (z.w 0) (r 0),z.m,z.s⟩,rfl,rfl,⟨hth,h0.w 0 (by decide),h2 hd⟩,fun x hx=>⟨Qf (by kernel_rfl),?_⟩⟩
   have hx:(wkS (Qd (z.wst 0)).1.w x).good:=hx.good
   have hlen:(Qd (z.wst 0)).1.w.deeds.length<=x.md:=hx.2.2.1.1
   have hgw:=XY (t:=0) h0.w hx
   refine QY (fun h11=>?_) (fun h11=>?_)
   · have hdl2:=h1.dl h11
     have hL:0+(Qd (z.wst 0)).1.w.deeds.length=(Qd (z.wst 0)).1.w.deeds.length:=Nat.zero_add _
     refine⟨⟨(Qd (z.wst 0)).1.s,0⟩,rfl,rfl,⟨(by decide:(0:Int)<=0),(by decide:(0:Int)<72)⟩,fun _ _=>⟨⟨trivial,⟨Nat.le_trans (Nat.le_of_eq hL) hlen,rfl⟩,by show 0+(Qd (z.wst 0)).1.w.deeds.length<=_;omega⟩,fun c hc=>⟨hc,?_,?_⟩⟩⟩
     · refine⟨⟨0,0+(Qd (z.wst 0)).1.w.deeds.length,x,c,_,z.deeds.length,mv,cv,nv,zv,hx,hL,Nat.zero_le _,?_,hc,by rw[Qal],h0.v1,h0.v2,by rw[Qal];exact h0.v⟩,⟨rfl,rfl,rfl,rfl,rfl,rfl,rfl,rfl,rfl,trivial⟩,rfl⟩
       exact (IsD.rows hx.2.2.2).sub (fun j hj k _=>by show x.zd (0+j) k=x.zd j k;rw[Nat.zero_add])
     · rintro⟨i,ln,x,cc,zc,n,mv,cv,nv,zv,hx,hl,hi,hzc,hcc,hn,hm,hmc,hzv⟩
       dsimp only at hx hl hi hzc hcc hn hm hmc hzv ⊢
       subst hl
       subst hn
       have hgw:=XY (t:=0) h0.w hx
       have hlv:=QdT z 0 i
       refine Qp (fun hlt=>?_) (fun hge=>?_)
       · have hlt':i<(Qd (z.wst 0)).1.w.deeds.length:=by omega
         refine⟨⟨by omega,by omega,by omega⟩,by omega,Qf (by kernel_rfl),⟨⟨hm,rfl⟩,⟨Nat.le_refl _,rfl⟩,by omega⟩,fun c hc=>⟨Qf (by kernel_rfl),⟨i+1,_,x,cc,zc,_,(Qcq z 0 i).length+1,c,nv,_,hx,rfl,hlt',hzc,hcc,?_,Nat.le_refl _,hc,?_⟩,⟨⟨rfl,rfl,rfl,rfl,rfl,rfl,rfl,rfl,svI (sucI (by omega)),trivial⟩,rfl⟩,by dsimp only;omega⟩⟩
         · rw[Qam z 0 hlt',List.length_append];rfl
         · rw[Qam z 0 hlt']
           refine hzv.snoc (fun j hj k _=>catT hj) (fun j hj=>?_)
           refine catF.trans ?_
           rw[Nat.sub_self,Int.toNat_natCast,Nat.zero_add]
           have hq:=hzc i hlt'
           match j,hj with
           |0,_=>rfl
           |1,_=>exact hq 0 (by decide)
           |2,_=>exact hq 1 (by decide)
           |3,_=>exact hq 2 (by decide)
           |4,_=>exact hq 3 (by decide)
           |5,_=>exact hq 4 (by decide)
           |6,_=>exact hq 5 (by decide)
       · have hil:i=(Qd (z.wst 0)).1.w.deeds.length:=by omega
         refine XA (fun hb=>?_) (fun hb=>absurd hb (by rw[QcP h11];decide))
         refine Qj rfl ⟨⟨{ z with m:=(Qd (z.wst 0)).1.m,s:=(Qd (z.wst 0)).1.s,w:=setF z.w 0 (Qd (z.wst 0)).1.w,steps:=z.steps+1,deeds:=Qcq z 0 i },setF r 0 x,mh,ch,nh,zh,mv,cv,nv,zv⟩,()⟩ ⟨⟨hgw,h0.h1,h0.h2,h0.h,hm,hmc,hzv⟩,(QgI h11 hil).symm,trivial⟩ rfl ?_ rfl
         show _=(QM z 0).ren _
         unfold QM
         rw[Qbv hb,show ((z.w 0).does==0)=false from beq_eq_false_iff_ne.2 hd];rfl
   · refine XA (fun hb=>?_) (fun hb=>?_)
     · refine Qj rfl ⟨⟨z.moved 0 (Qd (z.wst 0)).1,setF r 0 x,mh,ch,nh,zh,mv,cv,nv,zv⟩,()⟩ ⟨⟨hgw,h0.h1,h0.h2,h0.h,h0.v1,h0.v2,h0.v⟩,(QgH hd h11 hb).symm,trivial⟩ rfl ?_ rfl
       show _=(QM z 0).ren _
       unfold QM
       rw[Qbv hb,show ((z.w 0).does==0)=false from beq_eq_false_iff_ne.2 hd];rfl
     · refine⟨Qf (by kernel_rfl),⟨by decide,by decide⟩,by decide,Qf (by kernel_rfl),Qf (by kernel_rfl),⟨⟨h0.h1,rfl⟩,⟨Nat.le_refl _,rfl⟩,by omega⟩,fun c hc=>⟨Qf (by kernel_rfl),?_⟩⟩
       refine' Qj rfl ⟨⟨(z.moved 0 (Qd (z.wst 0)).1).answered 0 (Qd (z.wst 0)).1.w,setF r 0 x,z.hist.length+1,c,nh,_,mv,cv,nv,zv⟩,()⟩ ?ok ?hc ?e1 ?e2
       case e2=>
        show _=(shM ⟨⟨_,_,_,_,_,z.hist++[_],_⟩,_,_,_,_,_,_,_,_,_⟩++[]).map _
        rw[Qbw];rfl
       case hc=>rfl
       case e1=>
        show _=(QM z 0).ren _
        unfold QM
        rw[QdD hd hb,show ((z.w 0).does==0)=false from beq_eq_false_iff_ne.2 hd];rfl
       case ok=>
        refine⟨⟨hgw,?_,hc,?_,h0.v1,h0.v2,h0.v⟩,(Qe0 hd h11 hb).symm,trivial⟩
        · show (z.hist++[_]).length<=_
          rw[List.length_append];exact Nat.le_refl _
        · refine h0.h.snoc (fun j hj k _=>catT hj) (fun j hj=>?_)
          refine catF.trans ?_
          rw[Nat.sub_self]
          match j,hj with
          |0,_=>rfl
          |1,_=>rfl
          |2,_=>rfl
          |3,_=>rfl
          |4,_=>rfl
          |5,_=>rfl
          |6,_=>rfl
          |7,_=>rfl
          |8,_=>rfl
theorem Qoj:(Con.mem (QbX 1)).holds Tryz.prog 91:=by
 intro w0 S
 refine Qb (Γ:=[(90,.inl Tryz.f90 (Tryz.f90.body.getD .skip)),(13,.mem QdX),(15,.mem QN),(31,.inl Tryz.f31 (Tryz.f31.body.getD .skip)),(14,.inl Tryz.f14 (Tryz.f14.body.getD .skip))]) (fun _=>noW) Tryz.func91 rfl (by kernel_rfl) Qg Qc (fun w S' _ _=>.cons ⟨by kernel_rfl,rfl,rfl⟩ (.cons (QdC w S') (.cons (QO w S') (.cons ⟨by kernel_rfl,rfl,rfl⟩ (.cons ⟨by kernel_rfl,rfl,rfl⟩ (.nil _ _ _)))))) (QbX 1) (fun s=>[(91,[(0,Qit s.1 1)])]) (fun x0 h=>by cases h) (fun s ρ w _ _ _=>Qh w _) [] (fun _ M=>shAt M 0) 600 ?_
 rintro⟨⟨z,r,mh,ch,nh,zh,mv,cv,nv,zv⟩,⟨⟩⟩ W ⟨h0,h1,h2⟩ -
 refine⟨rfl,?_⟩
 dsimp only
 refine Qi (q:=QeE 1 4 9 10 z r mh ch nh zh mv cv nv zv) (by kernel_rfl) ?_
 unfold QeE
 have h0:(⟨z,r,mh,ch,nh,zh,mv,cv,nv,zv⟩:ShS).good:=h0
 have h1:stOK z 1:=h1
 have h2:(z.w 1).does≠0->Qbe (z.wst 1):=h2
 have hst0:=h1.st0
 have hst1:=h1.st1
 have hhl:=h1.h
 have hdl:=h1.d
 have es:IntKind.wrap .i64 (z.steps+1)=z.steps+1:=QH (by omega) (by omega)
 rw[es]
 refine⟨⟨by decide,by decide⟩,QY (fun hd=>?_) (fun hd=>?_)⟩
 · have e0:z.step 1=z:=if_pos hd
   refine Qj rfl ⟨⟨z,r,mh,ch,nh,zh,mv,cv,nv,zv⟩,()⟩ ⟨h0,e0.symm,trivial⟩ rfl ?_ rfl
   show _=(QM z 1).ren _
   unfold QM
   rw[QcQ hd,show ((z.w 1).does==0)=true from beq_iff_eq.2 hd];rfl
 · have hth:(z.w 1).th<4:=by rw[h1.th];decide
   refine⟨Qf (by kernel_rfl),⟨wkS (z.w 1) (r 1),z.m,z.s⟩,rfl,rfl,⟨hth,h0.w 1 (by decide),h2 hd⟩,fun x hx=>⟨Qf (by kernel_rfl),?_⟩⟩
   have hx:(wkS (Qd (z.wst 1)).1.w x).good:=hx.good
   have hlen:(Qd (z.wst 1)).1.w.deeds.length<=x.md:=hx.2.2.1.1
   have hgw:=XY (t:=1) h0.w hx
   refine QY (fun h11=>?_) (fun h11=>?_)
   · have hdl2:=h1.dl h11
     have hL:0+(Qd (z.wst 1)).1.w.deeds.length=(Qd (z.wst 1)).1.w.deeds.length:=Nat.zero_add _
     refine⟨⟨(Qd (z.wst 1)).1.s,0⟩,rfl,rfl,⟨(by decide:(0:Int)<=0),(by decide:(0:Int)<72)⟩,fun _ _=>⟨⟨trivial,⟨Nat.le_trans (Nat.le_of_eq hL) hlen,rfl⟩,by show 0+(Qd (z.wst 1)).1.w.deeds.length<=_;omega⟩,fun c hc=>⟨hc,?_,?_⟩⟩⟩
     · refine⟨⟨0,0+(Qd (z.wst 1)).1.w.deeds.length,x,c,_,z.deeds.length,mv,cv,nv,zv,hx,hL,Nat.zero_le _,?_,hc,by rw[Qal],h0.v1,h0.v2,by rw[Qal];exact h0.v⟩,⟨rfl,rfl,rfl,rfl,rfl,rfl,rfl,rfl,rfl,trivial⟩,rfl⟩
       exact (IsD.rows hx.2.2.2).sub (fun j hj k _=>by show x.zd (0+j) k=x.zd j k;rw[Nat.zero_add])
     · rintro⟨i,ln,x,cc,zc,n,mv,cv,nv,zv,hx,hl,hi,hzc,hcc,hn,hm,hmc,hzv⟩
       dsimp only at hx hl hi hzc hcc hn hm hmc hzv ⊢
       subst hl
       subst hn
       have hgw:=XY (t:=1) h0.w hx
       have hlv:=QdT z 1 i
       refine Qp (fun hlt=>?_) (fun hge=>?_)
       · have hlt':i<(Qd (z.wst 1)).1.w.deeds.length:=by omega
         refine⟨⟨by omega,by omega,by omega⟩,by omega,Qf (by kernel_rfl),⟨⟨hm,rfl⟩,⟨Nat.le_refl _,rfl⟩,by omega⟩,fun c hc=>⟨Qf (by kernel_rfl),⟨i+1,_,x,cc,zc,_,(Qcq z 1 i).length+1,c,nv,_,hx,rfl,hlt',hzc,hcc,?_,Nat.le_refl _,hc,?_⟩,⟨⟨rfl,rfl,rfl,rfl,rfl,rfl,rfl,rfl,svI (sucI (by omega)),trivial⟩,rfl⟩,by dsimp only;omega⟩⟩
         · rw[Qam z 1 hlt',List.length_append];rfl
         · rw[Qam z 1 hlt']
           refine hzv.snoc (fun j hj k _=>catT hj) (fun j hj=>?_)
           refine catF.trans ?_
           rw[Nat.sub_self,Int.toNat_natCast,Nat.zero_add]
           have hq:=hzc i hlt'
           match j,hj with
           |0,_=>rfl
           |1,_=>exact hq 0 (by decide)
           |2,_=>exact hq 1 (by decide)
           |3,_=>exact hq 2 (by decide)
           |4,_=>exact hq 3 (by decide)
           |5,_=>exact hq 4 (by decide)
           |6,_=>exact hq 5 (by decide)
       · have hil:i=(Qd (z.wst 1)).1.w.deeds.length:=by omega
         refine XA (fun hb=>?_) (fun hb=>absurd hb (by rw[QcP h11];decide))
         refine Qj rfl ⟨⟨{ z with m:=(Qd (z.wst 1)).1.m,s:=(Qd (z.wst 1)).1.s,w:=setF z.w 1 (Qd (z.wst 1)).1.w,steps:=z.steps+1,deeds:=Qcq z 1 i },setF r 1 x,mh,ch,nh,zh,mv,cv,nv,zv⟩,()⟩ ⟨⟨hgw,h0.h1,h0.h2,h0.h,hm,hmc,hzv⟩,(QgI h11 hil).symm,trivial⟩ rfl ?_ rfl
         show _=(QM z 1).ren _
         unfold QM
         rw[Qbv hb,show ((z.w 1).does==0)=false from beq_eq_false_iff_ne.2 hd];rfl
   · refine XA (fun hb=>?_) (fun hb=>?_)
     · refine Qj rfl ⟨⟨z.moved 1 (Qd (z.wst 1)).1,setF r 1 x,mh,ch,nh,zh,mv,cv,nv,zv⟩,()⟩ ⟨⟨hgw,h0.h1,h0.h2,h0.h,h0.v1,h0.v2,h0.v⟩,(QgH hd h11 hb).symm,trivial⟩ rfl ?_ rfl
       show _=(QM z 1).ren _
       unfold QM
       rw[Qbv hb,show ((z.w 1).does==0)=false from beq_eq_false_iff_ne.2 hd];rfl
     · refine⟨Qf (by kernel_rfl),⟨by decide,by decide⟩,by decide,Qf (by kernel_rfl),Qf (by kernel_rfl),⟨⟨h0.h1,rfl⟩,⟨Nat.le_refl _,rfl⟩,by omega⟩,fun c hc=>⟨Qf (by kernel_rfl),?_⟩⟩
       refine' Qj rfl ⟨⟨(z.moved 1 (Qd (z.wst 1)).1).answered 1 (Qd (z.wst 1)).1.w,setF r 1 x,z.hist.length+1,c,nh,_,mv,cv,nv,zv⟩,()⟩ ?ok ?hc ?e1 ?e2
       case e2=>
        show _=(shM ⟨⟨_,_,_,_,_,z.hist++[_],_⟩,_,_,_,_,_,_,_,_,_⟩++[]).map _
        rw[Qbw];rfl
       case hc=>rfl
       case e1=>
        show _=(QM z 1).ren _
        unfold QM
        rw[QdD hd hb,show ((z.w 1).does==0)=false from beq_eq_false_iff_ne.2 hd];rfl
       case ok=>
        refine⟨⟨hgw,?_,hc,?_,h0.v1,h0.v2,h0.v⟩,(Qe0 hd h11 hb).symm,trivial⟩
        · show (z.hist++[_]).length<=_
          rw[List.length_append];exact Nat.le_refl _
        · refine h0.h.snoc (fun j hj k _=>catT hj) (fun j hj=>?_)
          refine catF.trans ?_
          rw[Nat.sub_self]
          match j,hj with
          |0,_=>rfl
          |1,_=>rfl
          |2,_=>rfl
          |3,_=>rfl
          |4,_=>rfl
          |5,_=>rfl
          |6,_=>rfl
          |7,_=>rfl
          |8,_=>rfl
theorem Qoi:(Con.mem (QbX 2)).holds Tryz.prog 91:=by
 intro w0 S
 refine Qb (Γ:=[(90,.inl Tryz.f90 (Tryz.f90.body.getD .skip)),(13,.mem QdX),(15,.mem QN),(31,.inl Tryz.f31 (Tryz.f31.body.getD .skip)),(14,.inl Tryz.f14 (Tryz.f14.body.getD .skip))]) (fun _=>noW) Tryz.func91 rfl (by kernel_rfl) Qg Qc (fun w S' _ _=>.cons ⟨by kernel_rfl,rfl,rfl⟩ (.cons (QdC w S') (.cons (QO w S') (.cons ⟨by kernel_rfl,rfl,rfl⟩ (.cons ⟨by kernel_rfl,rfl,rfl⟩ (.nil _ _ _)))))) (QbX 2) (fun s=>[(91,[(0,Qit s.1 2)])]) (fun x0 h=>by cases h) (fun s ρ w _ _ _=>Qh w _) [] (fun _ M=>shAt M 0) 600 ?_
 rintro⟨⟨z,r,mh,ch,nh,zh,mv,cv,nv,zv⟩,⟨⟩⟩ W ⟨h0,h1,h2⟩ -
 refine⟨rfl,?_⟩
 dsimp only
 refine Qi (q:=QeE 2 5 11 12 z r mh ch nh zh mv cv nv zv) (by kernel_rfl) ?_
 unfold QeE
 have h0:(⟨z,r,mh,ch,nh,zh,mv,cv,nv,zv⟩:ShS).good:=h0
 have h1:stOK z 2:=h1
 have h2:(z.w 2).does≠0->Qbe (z.wst 2):=h2
 have hst0:=h1.st0
 have hst1:=h1.st1
 have hhl:=h1.h
 have hdl:=h1.d
 have es:IntKind.wrap .i64 (z.steps+1)=z.steps+1:=QH (by omega) (by omega)
 rw[es]
 refine⟨⟨by decide,by decide⟩,QY (fun hd=>?_) (fun hd=>?_)⟩
 · have e0:z.step 2=z:=if_pos hd
   refine Qj rfl ⟨⟨z,r,mh,ch,nh,zh,mv,cv,nv,zv⟩,()⟩ ⟨h0,e0.symm,trivial⟩ rfl ?_ rfl
   show _=(QM z 2).ren _
   unfold QM
   rw[QcQ hd,show ((z.w 2).does==0)=true from beq_iff_eq.2 hd];rfl
 · have hth:(z.w 2).th<4:=by rw[h1.th];decide
   refine⟨Qf (by kernel_rfl),⟨wkS (z.w 2) (r 2),z.m,z.s⟩,rfl,rfl,⟨hth,h0.w 2 (by decide),h2 hd⟩,fun x hx=>⟨Qf (by kernel_rfl),?_⟩⟩
   have hx:(wkS (Qd (z.wst 2)).1.w x).good:=hx.good
   have hlen:(Qd (z.wst 2)).1.w.deeds.length<=x.md:=hx.2.2.1.1
   have hgw:=XY (t:=2) h0.w hx
   refine QY (fun h11=>?_) (fun h11=>?_)
   · have hdl2:=h1.dl h11
     have hL:0+(Qd (z.wst 2)).1.w.deeds.length=(Qd (z.wst 2)).1.w.deeds.length:=Nat.zero_add _
     refine⟨⟨(Qd (z.wst 2)).1.s,0⟩,rfl,rfl,⟨(by decide:(0:Int)<=0),(by decide:(0:Int)<72)⟩,fun _ _=>⟨⟨trivial,⟨Nat.le_trans (Nat.le_of_eq hL) hlen,rfl⟩,by show 0+(Qd (z.wst 2)).1.w.deeds.length<=_;omega⟩,fun c hc=>⟨hc,?_,?_⟩⟩⟩
     · refine⟨⟨0,0+(Qd (z.wst 2)).1.w.deeds.length,x,c,_,z.deeds.length,mv,cv,nv,zv,hx,hL,Nat.zero_le _,?_,hc,by rw[Qal],h0.v1,h0.v2,by rw[Qal];exact h0.v⟩,⟨rfl,rfl,rfl,rfl,rfl,rfl,rfl,rfl,rfl,trivial⟩,rfl⟩
       exact (IsD.rows hx.2.2.2).sub (fun j hj k _=>by show x.zd (0+j) k=x.zd j k;rw[Nat.zero_add])
     · rintro⟨i,ln,x,cc,zc,n,mv,cv,nv,zv,hx,hl,hi,hzc,hcc,hn,hm,hmc,hzv⟩
       dsimp only at hx hl hi hzc hcc hn hm hmc hzv ⊢
       subst hl
       subst hn
       have hgw:=XY (t:=2) h0.w hx
       have hlv:=QdT z 2 i
       refine Qp (fun hlt=>?_) (fun hge=>?_)
       · have hlt':i<(Qd (z.wst 2)).1.w.deeds.length:=by omega
         refine⟨⟨by omega,by omega,by omega⟩,by omega,Qf (by kernel_rfl),⟨⟨hm,rfl⟩,⟨Nat.le_refl _,rfl⟩,by omega⟩,fun c hc=>⟨Qf (by kernel_rfl),⟨i+1,_,x,cc,zc,_,(Qcq z 2 i).length+1,c,nv,_,hx,rfl,hlt',hzc,hcc,?_,Nat.le_refl _,hc,?_⟩,⟨⟨rfl,rfl,rfl,rfl,rfl,rfl,rfl,rfl,svI (sucI (by omega)),trivial⟩,rfl⟩,by dsimp only;omega⟩⟩
         · rw[Qam z 2 hlt',List.length_append];rfl
         · rw[Qam z 2 hlt']
           refine hzv.snoc (fun j hj k _=>catT hj) (fun j hj=>?_)
           refine catF.trans ?_
           rw[Nat.sub_self,Int.toNat_natCast,Nat.zero_add]
           have hq:=hzc i hlt'
           match j,hj with
           |0,_=>rfl
           |1,_=>exact hq 0 (by decide)
           |2,_=>exact hq 1 (by decide)
           |3,_=>exact hq 2 (by decide)
           |4,_=>exact hq 3 (by decide)
           |5,_=>exact hq 4 (by decide)
           |6,_=>exact hq 5 (by decide)
       · have hil:i=(Qd (z.wst 2)).1.w.deeds.length:=by omega
         refine XA (fun hb=>?_) (fun hb=>absurd hb (by rw[QcP h11];decide))
         refine Qj rfl ⟨⟨{ z with m:=(Qd (z.wst 2)).1.m,s:=(Qd (z.wst 2)).1.s,w:=setF z.w 2 (Qd (z.wst 2)).1.w,steps:=z.steps+1,deeds:=Qcq z 2 i },setF r 2 x,mh,ch,nh,zh,mv,cv,nv,zv⟩,()⟩ ⟨⟨hgw,h0.h1,h0.h2,h0.h,hm,hmc,hzv⟩,(QgI h11 hil).symm,trivial⟩ rfl ?_ rfl
         show _=(QM z 2).ren _
         unfold QM
         rw[Qbv hb,show ((z.w 2).does==0)=false from beq_eq_false_iff_ne.2 hd];rfl
   · refine XA (fun hb=>?_) (fun hb=>?_)
     · refine Qj rfl ⟨⟨z.moved 2 (Qd (z.wst 2)).1,setF r 2 x,mh,ch,nh,zh,mv,cv,nv,zv⟩,()⟩ ⟨⟨hgw,h0.h1,h0.h2,h0.h,h0.v1,h0.v2,h0.v⟩,(QgH hd h11 hb).symm,trivial⟩ rfl ?_ rfl
       show _=(QM z 2).ren _
       unfold QM
       rw[Qbv hb,show ((z.w 2).does==0)=false from beq_eq_false_iff_ne.2 hd];rfl
     · refine⟨Qf (by kernel_rfl),⟨by decide,by decide⟩,by decide,Qf (by kernel_rfl),Qf (by kernel_rfl),⟨⟨h0.h1,rfl⟩,⟨Nat.le_refl _,rfl⟩,by omega⟩,fun c hc=>⟨Qf (by kernel_rfl),?_⟩⟩
       refine' Qj rfl ⟨⟨(z.moved 2 (Qd (z.wst 2)).1).answered 2 (Qd (z.wst 2)).1.w,setF r 2 x,z.hist.length+1,c,nh,_,mv,cv,nv,zv⟩,()⟩ ?ok ?hc ?e1 ?e2
       case e2=>
        show _=(shM ⟨⟨_,_,_,_,_,z.hist++[_],_⟩,_,_,_,_,_,_,_,_,_⟩++[]).map _
        rw[Qbw];rfl
       case hc=>rfl
       case e1=>
        show _=(QM z 2).ren _
        unfold QM
        rw[QdD hd hb,show ((z.w 2).does==0)=false from beq_eq_false_iff_ne.2 hd];rfl
       case ok=>
        refine⟨⟨hgw,?_,hc,?_,h0.v1,h0.v2,h0.v⟩,(Qe0 hd h11 hb).symm,trivial⟩
        · show (z.hist++[_]).length<=_
          rw[List.length_append];exact Nat.le_refl _
        · refine h0.h.snoc (fun j hj k _=>catT hj) (fun j hj=>?_)
          refine catF.trans ?_
          rw[Nat.sub_self]
          match j,hj with
          |0,_=>rfl
          |1,_=>rfl
          |2,_=>rfl
          |3,_=>rfl
          |4,_=>rfl
          |5,_=>rfl
          |6,_=>rfl
          |7,_=>rfl
          |8,_=>rfl
theorem Qoh:(Con.mem (QbX 3)).holds Tryz.prog 91:=by
 intro w0 S
 refine Qb (Γ:=[(90,.inl Tryz.f90 (Tryz.f90.body.getD .skip)),(13,.mem QdX),(15,.mem QN),(31,.inl Tryz.f31 (Tryz.f31.body.getD .skip)),(14,.inl Tryz.f14 (Tryz.f14.body.getD .skip))]) (fun _=>noW) Tryz.func91 rfl (by kernel_rfl) Qg Qc (fun w S' _ _=>.cons ⟨by kernel_rfl,rfl,rfl⟩ (.cons (QdC w S') (.cons (QO w S') (.cons ⟨by kernel_rfl,rfl,rfl⟩ (.cons ⟨by kernel_rfl,rfl,rfl⟩ (.nil _ _ _)))))) (QbX 3) (fun s=>[(91,[(0,Qit s.1 3)])]) (fun x0 h=>by cases h) (fun s ρ w _ _ _=>Qh w _) [] (fun _ M=>shAt M 0) 600 ?_
 rintro⟨⟨z,r,mh,ch,nh,zh,mv,cv,nv,zv⟩,⟨⟩⟩ W ⟨h0,h1,h2⟩ -
 refine⟨rfl,?_⟩
 dsimp only
 refine Qi (q:=QeE 3 6 13 14 z r mh ch nh zh mv cv nv zv) (by kernel_rfl) ?_
 unfold QeE
 have h0:(⟨z,r,mh,ch,nh,zh,mv,cv,nv,zv⟩:ShS).good:=h0
 have h1:stOK z 3:=h1
 have h2:(z.w 3).does≠0->Qbe (z.wst 3):=h2
 have hst0:=h1.st0
 have hst1:=h1.st1
 have hhl:=h1.h
 have hdl:=h1.d
 have es:IntKind.wrap .i64 (z.steps+1)=z.steps+1:=QH (by omega) (by omega)
 rw[es]
 refine⟨⟨by decide,by decide⟩,QY (fun hd=>?_) (fun hd=>?_)⟩
 · have e0:z.step 3=z:=if_pos hd
   refine Qj rfl ⟨⟨z,r,mh,ch,nh,zh,mv,cv,nv,zv⟩,()⟩ ⟨h0,e0.symm,trivial⟩ rfl ?_ rfl
   show _=(QM z 3).ren _
   unfold QM
   rw[QcQ hd,show ((z.w 3).does==0)=true from beq_iff_eq.2 hd];rfl
 · have hth:(z.w 3).th<4:=by rw[h1.th];decide
   refine⟨Qf (by kernel_rfl),⟨wkS (z.w 3) (r 3),z.m,z.s⟩,rfl,rfl,⟨hth,h0.w 3 (by decide),h2 hd⟩,fun x hx=>⟨Qf (by kernel_rfl),?_⟩⟩
   have hx:(wkS (Qd (z.wst 3)).1.w x).good:=hx.good
   have hlen:(Qd (z.wst 3)).1.w.deeds.length<=x.md:=hx.2.2.1.1
   have hgw:=XY (t:=3) h0.w hx
   refine QY (fun h11=>?_) (fun h11=>?_)
   · have hdl2:=h1.dl h11
     have hL:0+(Qd (z.wst 3)).1.w.deeds.length=(Qd (z.wst 3)).1.w.deeds.length:=Nat.zero_add _
     refine⟨⟨(Qd (z.wst 3)).1.s,0⟩,rfl,rfl,⟨(by decide:(0:Int)<=0),(by decide:(0:Int)<72)⟩,fun _ _=>⟨⟨trivial,⟨Nat.le_trans (Nat.le_of_eq hL) hlen,rfl⟩,by show 0+(Qd (z.wst 3)).1.w.deeds.length<=_;omega⟩,fun c hc=>⟨hc,?_,?_⟩⟩⟩
     · refine⟨⟨0,0+(Qd (z.wst 3)).1.w.deeds.length,x,c,_,z.deeds.length,mv,cv,nv,zv,hx,hL,Nat.zero_le _,?_,hc,by rw[Qal],h0.v1,h0.v2,by rw[Qal];exact h0.v⟩,⟨rfl,rfl,rfl,rfl,rfl,rfl,rfl,rfl,rfl,trivial⟩,rfl⟩
       exact (IsD.rows hx.2.2.2).sub (fun j hj k _=>by show x.zd (0+j) k=x.zd j k;rw[Nat.zero_add])
     · rintro⟨i,ln,x,cc,zc,n,mv,cv,nv,zv,hx,hl,hi,hzc,hcc,hn,hm,hmc,hzv⟩
       dsimp only at hx hl hi hzc hcc hn hm hmc hzv ⊢
       subst hl
       subst hn
       have hgw:=XY (t:=3) h0.w hx
       have hlv:=QdT z 3 i
       refine Qp (fun hlt=>?_) (fun hge=>?_)
       · have hlt':i<(Qd (z.wst 3)).1.w.deeds.length:=by omega
         refine⟨⟨by omega,by omega,by omega⟩,by omega,Qf (by kernel_rfl),⟨⟨hm,rfl⟩,⟨Nat.le_refl _,rfl⟩,by omega⟩,fun c hc=>⟨Qf (by kernel_rfl),⟨i+1,_,x,cc,zc,_,(Qcq z 3 i).length+1,c,nv,_,hx,rfl,hlt',hzc,hcc,?_,Nat.le_refl _,hc,?_⟩,⟨⟨rfl,rfl,rfl,rfl,rfl,rfl,rfl,rfl,svI (sucI (by omega)),trivial⟩,rfl⟩,by dsimp only;omega⟩⟩
         · rw[Qam z 3 hlt',List.length_append];rfl
         · rw[Qam z 3 hlt']
           refine hzv.snoc (fun j hj k _=>catT hj) (fun j hj=>?_)
           refine catF.trans ?_
           rw[Nat.sub_self,Int.toNat_natCast,Nat.zero_add]
           have hq:=hzc i hlt'
           match j,hj with
           |0,_=>rfl
           |1,_=>exact hq 0 (by decide)
           |2,_=>exact hq 1 (by decide)
           |3,_=>exact hq 2 (by decide)
           |4,_=>exact hq 3 (by decide)
           |5,_=>exact hq 4 (by decide)
           |6,_=>exact hq 5 (by decide)
       · have hil:i=(Qd (z.wst 3)).1.w.deeds.length:=by omega
         refine XA (fun hb=>?_) (fun hb=>absurd hb (by rw[QcP h11];decide))
         refine Qj rfl ⟨⟨{ z with m:=(Qd (z.wst 3)).1.m,s:=(Qd (z.wst 3)).1.s,w:=setF z.w 3 (Qd (z.wst 3)).1.w,steps:=z.steps+1,deeds:=Qcq z 3 i },setF r 3 x,mh,ch,nh,zh,mv,cv,nv,zv⟩,()⟩ ⟨⟨hgw,h0.h1,h0.h2,h0.h,hm,hmc,hzv⟩,(QgI h11 hil).symm,trivial⟩ rfl ?_ rfl
         show _=(QM z 3).ren _
         unfold QM
         rw[Qbv hb,show ((z.w 3).does==0)=false from beq_eq_false_iff_ne.2 hd];rfl
   · refine XA (fun hb=>?_) (fun hb=>?_)
     · refine Qj rfl ⟨⟨z.moved 3 (Qd (z.wst 3)).1,setF r 3 x,mh,ch,nh,zh,mv,cv,nv,zv⟩,()⟩ ⟨⟨hgw,h0.h1,h0.h2,h0.h,h0.v1,h0.v2,h0.v⟩,(QgH hd h11 hb).symm,trivial⟩ rfl ?_ rfl
       show _=(QM z 3).ren _
       unfold QM
       rw[Qbv hb,show ((z.w 3).does==0)=false from beq_eq_false_iff_ne.2 hd];rfl
     · refine⟨Qf (by kernel_rfl),⟨by decide,by decide⟩,by decide,Qf (by kernel_rfl),Qf (by kernel_rfl),⟨⟨h0.h1,rfl⟩,⟨Nat.le_refl _,rfl⟩,by omega⟩,fun c hc=>⟨Qf (by kernel_rfl),?_⟩⟩
       refine' Qj rfl ⟨⟨(z.moved 3 (Qd (z.wst 3)).1).answered 3 (Qd (z.wst 3)).1.w,setF r 3 x,z.hist.length+1,c,nh,_,mv,cv,nv,zv⟩,()⟩ ?ok ?hc ?e1 ?e2
       case e2=>
        show _=(shM ⟨⟨_,_,_,_,_,z.hist++[_],_⟩,_,_,_,_,_,_,_,_,_⟩++[]).map _
        rw[Qbw];rfl
       case hc=>rfl
       case e1=>
        show _=(QM z 3).ren _
        unfold QM
        rw[QdD hd hb,show ((z.w 3).does==0)=false from beq_eq_false_iff_ne.2 hd];rfl
       case ok=>
        refine⟨⟨hgw,?_,hc,?_,h0.v1,h0.v2,h0.v⟩,(Qe0 hd h11 hb).symm,trivial⟩
        · show (z.hist++[_]).length<=_
          rw[List.length_append];exact Nat.le_refl _
        · refine h0.h.snoc (fun j hj k _=>catT hj) (fun j hj=>?_)
          refine catF.trans ?_
          rw[Nat.sub_self]
          match j,hj with
          |0,_=>rfl
          |1,_=>rfl
          |2,_=>rfl
          |3,_=>rfl
          |4,_=>rfl
          |5,_=>rfl
          |6,_=>rfl
          |7,_=>rfl
          |8,_=>rfl
structure Qa where
 s:WkS
 k:Int
 key:Int
 x:Int
 tog:Int
abbrev nzV:NZ:=.blk 0 42 60 6 [.int .i64,.int .i64,.int .i64,.int .i64,.int .i64,.int .i64]
def Qbt (b:Bool):MCon where
 σ:=Qa
 χ:=Unit
 pre s:=True
 args s:=[.c (.p 0 0),.a [.one (.v (.int .i64 s.k)),.one (.v (.int .i64 s.key)),.one (.v (.int .i64 s.x))],.c (.v (.int .i64 s.tog)),.c (.v (.bool b))]
 mem s:=[wkC 1 2 s.s.w s.s.ca s.s.na s.s.cd s.s.nd,wkA s.s.ma s.s.ca s.s.za,wkD s.s.md s.s.cd s.s.zd]
 ok s x:=True
 val _ _:=.t []
 mem' s x:=[wkC 1 2 (Wk.call s.s.w.th s.k s.key s.x s.tog b) 0 false 0 false,wkA 0 0 (fun _ _=>0),wkD 0 0 (fun _ _=>0)]
 k:=1
 len:=3
 det:=some ()
 find:=Qct
theorem Qd5:(Con.mem (Qbt false)).holds Tryz.prog 12:=by
 intro w0 S
 refine Qb (Γ:=[]) (fun _=>noW) Tryz.func12 rfl (by kernel_rfl) Qg Qc (fun w S' _ _=>.nil _ _ _) (Qbt false) (fun _=>[]) (fun x0 h s x=>⟨rfl,trivial⟩) (fun s ρ w _ _ _=>Qh w _) [nzW,nzV] (rpW 1) 400 ?_
 rintro⟨⟨w,ma,ca,na,za,md,cd,nd,zd⟩,k1,key1,x1,tog1⟩ W - -
 refine⟨rfl,?_⟩
 refine Qi (q:=dP Tryz.f12 1 4 [⟨9,[],[0],[],false⟩,xF 8 0,xE 7,xE 6,xR 5 3,xR 4 0,xF 3 0,xF 2 0,xF 1 0,xF 0 0]/\endN (Qbt false) [nzW,nzV] (rpW 1) (Qa.mk (WkS.mk w ma ca na za md cd nd zd) k1 key1 x1 tog1) (SV.t []) [SB.cells [sI (↑w.1:Int),sI 1,sI k1,sI key1,sI x1,sI tog1,sB false,sI 0,sU 0,nU 32 zF,Seg.one (.v (.slice none 0 0)),Seg.one (.v (.slice none 0 0)),nU 3 zF,sI 0,sI 0,sI 0] 42,SB.rows 139 kI5 5 ma ca za,SB.rows 60 kI6 6 md cd zd,SB.cells [sI k1,sI key1,sI x1] 32]) (by kernel_rfl) ?_
 exact⟨Qf (by kernel_rfl),Qj rfl () trivial rfl rfl rfl⟩
theorem QnO:(Con.mem (Qbt true)).holds Tryz.prog 12:=by
 intro w0 S
 refine Qb (Γ:=[]) (fun _=>noW) Tryz.func12 rfl (by kernel_rfl) Qg Qc (fun w S' _ _=>.nil _ _ _) (Qbt true) (fun _=>[]) (fun x0 h s x=>⟨rfl,trivial⟩) (fun s ρ w _ _ _=>Qh w _) [nzW,nzV] (rpW 1) 400 ?_
 rintro⟨⟨w,ma,ca,na,za,md,cd,nd,zd⟩,k1,key1,x1,tog1⟩ W - -
 refine⟨rfl,?_⟩
 refine Qi (q:=dP Tryz.f12 1 4 [⟨9,[],[0],[],false⟩,xF 8 0,xE 7,xE 6,xR 5 3,xR 4 0,xF 3 0,xF 2 0,xF 1 0,xF 0 0]/\endN (Qbt true) [nzW,nzV] (rpW 1) (Qa.mk (WkS.mk w ma ca na za md cd nd zd) k1 key1 x1 tog1) (SV.t []) [SB.cells [sI (↑w.1:Int),sI 17,sI k1,sI key1,sI x1,sI tog1,sB false,sI 0,sU 0,nU 32 zF,Seg.one (.v (.slice none 0 0)),Seg.one (.v (.slice none 0 0)),nU 3 zF,sI 0,sI 0,sI 0] 42,SB.rows 139 kI5 5 ma ca za,SB.rows 60 kI6 6 md cd zd,SB.cells [sI k1,sI key1,sI x1] 32]) (by kernel_rfl) ?_
 exact⟨Qf (by kernel_rfl),Qj rfl () trivial rfl rfl rfl⟩
abbrev wcA (s:Qa):Wk:=Wk.call s.s.w.th s.k s.key s.x s.tog true
structure OpA where
 k:Int
 key:Int
 x:Int
def clC (t:Nat):TCon Sh OpA Unit where
 pre z _:=(0<=z.steps/\z.steps<100000000)/\z.hist.length<=1000000000/\(z.tog t=0\/z.tog t=1)
 args a:=[.c (.v (.int .i64 t)),.a [.one (.v (.int .i64 a.k)),.one (.v (.int .i64 a.key)),.one (.v (.int .i64 a.x))]]
 ok _ _ _:=True
 next z a _:=z.call t a.k a.key a.x
 val _ z a _:=.o (.c (.v (bif (z.w t).does==0 then (bif opOk a.k a.key a.x then .nilIface else .iface 91 (.int .i64 1))else .iface 91 (.int .i64 6))))
 new _ _ _ _:=[]
 len:=0
abbrev QcH (t:Nat):MCon:=(clC t).low shM ShS.z ShS.good 17 7 Qc9
theorem QdP (w:Wk) (k key x tog:Int) (b:Bool):(wkS (Wk.call w.th k key x tog b) ⟨0,0,false,fun _ _=>0,0,0,false,fun _ _=>0⟩).good:=
 ⟨⟨Nat.le_refl _,Nat.le_refl _⟩,fun i hi=>absurd hi (Nat.not_lt_zero _),⟨Nat.le_refl _,Nat.le_refl _⟩,fun i hi=>absurd hi (Nat.not_lt_zero _)⟩
def QeG (n0:Nat) (n1:Nat) (n2:Nat) (n3:Nat) (z:Sh) (r:Nat->WkR) (mh:Nat) (ch:Nat) (nh:Bool) (zh:Nat->Nat->Int) (mv:Nat) (cv:Nat) (nv:Bool) (zv:Nat->Nat->Int) (k:Int) (key:Int) (x:Int):Prop:=(iR (n0:Int) (4:Int))/\bif (Sh.w z n0).2 != (0:Int)then endN (QcH n0) [] (fun (x:SV) (M:List SB)=>shAt M 0) (ShS.mk z r mh ch nh zh mv cv nv zv,OpA.mk k key x) (SV.o (SA.c (.v (.iface 91 (Value.int .i64 (6:Int)))))) (shI (shD z.4 z.5 15 (List.length z.6) ch nh 16 (List.length z.7) cv nv) z.1 (Sh.s z) (stX (Sh.w z) r) (stA r) (stD r) (evB mh ch zh) (vdB mv cv zv) [SB.cells [sI k,sI key,sI x] 32])else True/\bif bif opOk k key x then false else true then endN (QcH n0) [] (fun (x:SV) (M:List SB)=>shAt M 0) (ShS.mk z r mh ch nh zh mv cv nv zv,OpA.mk k key x) (SV.o (SA.c (.v (.iface 91 (Value.int .i64 (1:Int)))))) (shI (shD z.4 z.5 15 (List.length z.6) ch nh 16 (List.length z.7) cv nv) z.1 (Sh.s z) (stX (Sh.w z) r) (stA r) (stD r) (evB mh ch zh) (vdB mv cv zv) [SB.cells [sI k,sI key,sI x] 32])else (iR (n0:Int) (4:Int))/\n0<4/\∃(s:Qa),[aP n1 0,SA.a [sI k,sI key,sI x],aI (IntKind.wrap .i64 ((1:Int)-z.4 n0)),aB false]=[aP n1 0,SA.a [sI s.2,sI s.3,sI s.4],aI s.5,aB false]/\[wkR n2 n3 (Sh.w z n0) (r n0),waR (r n0),wdR (r n0)]=[wkC n2 n3 (WkS.w (Qa.s s)) (Qa.s s).3 (Qa.s s).4 (Qa.s s).7 (Qa.s s).8,wkA (Qa.s s).2 (Qa.s s).3 (Qa.s s).5,wkD (Qa.s s).6 (Qa.s s).7 (Qa.s s).9]/\True/\∀(x_1:Unit),True->dP Tryz.f49 8 18 [⟨9,[],[n1,n2,n3,18,19],[18,19],false⟩,xE 8,xR 7 0,xF 6 0,xF 5 0,xF 4 0,xE 3,xF 2 0,xR 1 17,xF 0 n1]/\dP Tryz.f49 10 20 [⟨13,[20],[15,21],[],true⟩,⟨12,[],[20],[20],false⟩,xE 11,xR 10 0,xF 9 0,xF 8 0,xF 7 0,xR 6 17,xE 5,⟨4,[0],[],[15],false⟩,xF 3 0,xF 2 0,xF 1 0,xF 0 0]/\((List.length z.6<=mh/\ch=ch)/\(1<=1/\1=1)/\List.length z.6+1<=68719476736)/\∀(c:Nat),List.length z.6+1<=c->dP Tryz.f49 10 20 [⟨16,[],[0],[1,2,3,4,5,6,21,16],false⟩,xF 15 0,xF 14 0,⟨13,[20],[15,21],[21],true⟩,⟨12,[],[20],[20],false⟩,xE 11,xR 10 0,xF 9 0,xF 8 0,xF 7 0,xR 6 17,xE 5,⟨4,[0],[],[15],false⟩,xF 3 0,xF 2 0,xF 1 0,xF 0 0]/\endN (QcH n0) [] (fun (x:SV) (M:List SB)=>shAt M 0) (ShS.mk z r mh ch nh zh mv cv nv zv,OpA.mk k key x) (SV.o (SA.c (.v Value.nilIface))) (shI (shD z.4 (IntKind.wrap .i64 (z.5+(1:Int))) 21 (List.length z.6+1) c nh 16 (List.length z.7) cv nv) z.1 (Sh.s z) (setF (stX (Sh.w z) r) n0 (wkZ 18 19 (Wk.call (Wk.th (WkS.w (Qa.s s))) (Qa.k s) (Qa.key s) (Qa.x s) (Qa.tog s) false))) (setF (stA r) n0 SB.gone) (setF (stD r) n0 SB.gone) SB.gone (vdB mv cv zv) [SB.cells [sI k,sI key,sI x] 32,wkA 0 0 fun (x x_2:Nat)=>(0:Int),wkD 0 0 fun (x x_2:Nat)=>(0:Int),evB 1 1 fun (i j:Nat)=>match List.get?Internal (match List.get?Internal [[(1:Int),(n0:Int),k,key,x,(0:Int),(0:Int),(0:Int),IntKind.wrap .i64 (z.5+(1:Int))]] i with|some x=>x|none=>[]) j with|some x=>x|none=>(0:Int),evB (List.length z.6+1) c fun (i j:Nat)=>bif Nat.ble (i+1) (List.length z.6)then zh i j else match List.get?Internal (match List.get?Internal [[(1:Int),(n0:Int),k,key,x,(0:Int),(0:Int),(0:Int),IntKind.wrap .i64 (z.5+(1:Int))]] (0+(i-List.length z.6))with|some x=>x|none=>[]) j with|some x=>x|none=>(0:Int)])
theorem Qj6:(Con.mem (QcH 0)).holds Tryz.prog 49:=by
 intro w0 S
 refine Qb (Γ:=[(90,.inl Tryz.f90 (Tryz.f90.body.getD .skip)),(12,.mem (Qbt false)),(11,.pure XO)]) (fun _=>noW) Tryz.func49 rfl (by kernel_rfl) Qg Qc (fun w S' _ _=>.cons ⟨by kernel_rfl,rfl,rfl⟩ (.cons (Qd5 w S') (.cons (QaA w S') (.nil _ _ _)))) (QcH 0) (fun _=>[]) (fun x0 h=>by cases h) (fun s ρ w _ _ _=>Qh w _) [] (fun _ M=>shAt M 0) 600 ?_
 rintro⟨⟨z,r,mh,ch,nh,zh,mv,cv,nv,zv⟩,⟨k,key,x⟩⟩ W ⟨h0,⟨hst0,hst1⟩,hhl,htg⟩ -
 refine⟨rfl,?_⟩
 refine Qi (q:=QeG 0 3 7 8 z r mh ch nh zh mv cv nv zv k key x) (by kernel_rfl) ?_
 unfold QeG
 have h0:(⟨z,r,mh,ch,nh,zh,mv,cv,nv,zv⟩:ShS).good:=h0
 have hst0:0<=z.steps:=hst0
 have hst1:z.steps<100000000:=hst1
 have hhl:z.hist.length<=1000000000:=hhl
 have htg:z.tog 0=0\/z.tog 0=1:=htg
 have es:IntKind.wrap .i64 (z.steps+1)=z.steps+1:=QH (by omega) (by omega)
 have et:IntKind.wrap .i64 (1-z.tog 0)=1-z.tog 0:=QH (by omega) (by omega)
 rw[es,et]
 refine⟨⟨by decide,by decide⟩,QG (fun hd=>?_) (fun hd=>⟨trivial,XA (fun ho=>?_) (fun ho=>?_)⟩)⟩
 · have e0:z.call 0 k key x=z:=if_neg (fun h=>hd h.1)
   refine Qj rfl ⟨⟨z,r,mh,ch,nh,zh,mv,cv,nv,zv⟩,()⟩ ⟨h0,e0.symm,trivial⟩ rfl ?_ rfl
   show _=SV.ren _ (.o (.c (.v (bif (z.w 0).does==0 then _ else _))))
   rw[show ((z.w 0).does==0)=false from beq_eq_false_iff_ne.2 hd];rfl
 · have e0:z.call 0 k key x=z:=if_neg (fun h=>by rw[ho]at h;exact absurd h.2 (by decide))
   refine Qj rfl ⟨⟨z,r,mh,ch,nh,zh,mv,cv,nv,zv⟩,()⟩ ⟨h0,e0.symm,trivial⟩ rfl ?_ rfl
   show _=SV.ren _ (.o (.c (.v (bif (z.w 0).does==0 then (bif opOk k key x then _ else _)else _))))
   rw[show ((z.w 0).does==0)=true from beq_iff_eq.2 hd,ho];rfl
 · have e0:z.call 0 k key x=z.called 0 k key x:=if_pos ⟨hd,ho⟩
   refine⟨⟨by decide,by decide⟩,by decide,⟨wkS (z.w 0) (r 0),k,key,x,1-z.tog 0⟩,rfl,rfl,trivial,fun _ _=>⟨Qf (by kernel_rfl),Qf (by kernel_rfl),⟨⟨h0.h1,rfl⟩,⟨Nat.le_refl _,rfl⟩,by omega⟩,fun c hc=>⟨Qf (by kernel_rfl),?_⟩⟩⟩
   refine' Qj rfl ⟨⟨z.called 0 k key x,setF r 0 ⟨0,0,false,fun _ _=>0,0,0,false,fun _ _=>0⟩,z.hist.length+1,c,nh,_,mv,cv,nv,zv⟩,()⟩ ?ok ?hc ?e1 ?e2
   case e2=>
    show _=(shM ⟨⟨_,_,_,_,_,z.hist++[_],_⟩,_,_,_,_,_,_,_,_,_⟩++[]).map _
    rw[Qbw];rfl
   case hc=>rfl
   case e1=>
    show _=SV.ren _ (.o (.c (.v (bif (z.w 0).does==0 then (bif opOk k key x then _ else _)else _))))
    rw[show ((z.w 0).does==0)=true from beq_iff_eq.2 hd,ho];rfl
   case ok=>
    refine⟨⟨XY h0.w (QdP _ _ _ _ _ _),?_,hc,?_,h0.v1,h0.v2,h0.v⟩,e0.symm,trivial⟩
    · show (z.hist++[_]).length<=_
      rw[List.length_append];exact Nat.le_refl _
    · refine h0.h.snoc (fun j hj k _=>catT hj) (fun j hj=>?_)
      refine catF.trans ?_
      rw[Nat.sub_self]
      match j,hj with
      |0,_=>rfl
      |1,_=>rfl
      |2,_=>rfl
      |3,_=>rfl
      |4,_=>rfl
      |5,_=>rfl
      |6,_=>rfl
      |7,_=>rfl
      |8,_=>rfl
theorem QpN:(Con.mem (QcH 1)).holds Tryz.prog 49:=by
 intro w0 S
 refine Qb (Γ:=[(90,.inl Tryz.f90 (Tryz.f90.body.getD .skip)),(12,.mem (Qbt false)),(11,.pure XO)]) (fun _=>noW) Tryz.func49 rfl (by kernel_rfl) Qg Qc (fun w S' _ _=>.cons ⟨by kernel_rfl,rfl,rfl⟩ (.cons (Qd5 w S') (.cons (QaA w S') (.nil _ _ _)))) (QcH 1) (fun _=>[]) (fun x0 h=>by cases h) (fun s ρ w _ _ _=>Qh w _) [] (fun _ M=>shAt M 0) 600 ?_
 rintro⟨⟨z,r,mh,ch,nh,zh,mv,cv,nv,zv⟩,⟨k,key,x⟩⟩ W ⟨h0,⟨hst0,hst1⟩,hhl,htg⟩ -
 refine⟨rfl,?_⟩
 refine Qi (q:=QeG 1 4 9 10 z r mh ch nh zh mv cv nv zv k key x) (by kernel_rfl) ?_
 unfold QeG
 have h0:(⟨z,r,mh,ch,nh,zh,mv,cv,nv,zv⟩:ShS).good:=h0
 have hst0:0<=z.steps:=hst0
 have hst1:z.steps<100000000:=hst1
 have hhl:z.hist.length<=1000000000:=hhl
 have htg:z.tog 1=0\/z.tog 1=1:=htg
 have es:IntKind.wrap .i64 (z.steps+1)=z.steps+1:=QH (by omega) (by omega)
 have et:IntKind.wrap .i64 (1-z.tog 1)=1-z.tog 1:=QH (by omega) (by omega)
 rw[es,et]
 refine⟨⟨by decide,by decide⟩,QG (fun hd=>?_) (fun hd=>⟨trivial,XA (fun ho=>?_) (fun ho=>?_)⟩)⟩
 · have e0:z.call 1 k key x=z:=if_neg (fun h=>hd h.1)
   refine Qj rfl ⟨⟨z,r,mh,ch,nh,zh,mv,cv,nv,zv⟩,()⟩ ⟨h0,e0.symm,trivial⟩ rfl ?_ rfl
   show _=SV.ren _ (.o (.c (.v (bif (z.w 1).does==0 then _ else _))))
   rw[show ((z.w 1).does==0)=false from beq_eq_false_iff_ne.2 hd];rfl
 · have e0:z.call 1 k key x=z:=if_neg (fun h=>by rw[ho]at h;exact absurd h.2 (by decide))
   refine Qj rfl ⟨⟨z,r,mh,ch,nh,zh,mv,cv,nv,zv⟩,()⟩ ⟨h0,e0.symm,trivial⟩ rfl ?_ rfl
   show _=SV.ren _ (.o (.c (.v (bif (z.w 1).does==0 then (bif opOk k key x then _ else _)else _))))
   rw[show ((z.w 1).does==0)=true from beq_iff_eq.2 hd,ho];rfl
 · have e0:z.call 1 k key x=z.called 1 k key x:=if_pos ⟨hd,ho⟩
   refine⟨⟨by decide,by decide⟩,by decide,⟨wkS (z.w 1) (r 1),k,key,x,1-z.tog 1⟩,rfl,rfl,trivial,fun _ _=>⟨Qf (by kernel_rfl),Qf (by kernel_rfl),⟨⟨h0.h1,rfl⟩,⟨Nat.le_refl _,rfl⟩,by omega⟩,fun c hc=>⟨Qf (by kernel_rfl),?_⟩⟩⟩
   refine' Qj rfl ⟨⟨z.called 1 k key x,setF r 1 ⟨0,0,false,fun _ _=>0,0,0,false,fun _ _=>0⟩,z.hist.length+1,c,nh,_,mv,cv,nv,zv⟩,()⟩ ?ok ?hc ?e1 ?e2
   case e2=>
    show _=(shM ⟨⟨_,_,_,_,_,z.hist++[_],_⟩,_,_,_,_,_,_,_,_,_⟩++[]).map _
    rw[Qbw];rfl
   case hc=>rfl
   case e1=>
    show _=SV.ren _ (.o (.c (.v (bif (z.w 1).does==0 then (bif opOk k key x then _ else _)else _))))
    rw[show ((z.w 1).does==0)=true from beq_iff_eq.2 hd,ho];rfl
   case ok=>
    refine⟨⟨XY h0.w (QdP _ _ _ _ _ _),?_,hc,?_,h0.v1,h0.v2,h0.v⟩,e0.symm,trivial⟩
    · show (z.hist++[_]).length<=_
      rw[List.length_append];exact Nat.le_refl _
    · refine h0.h.snoc (fun j hj k _=>catT hj) (fun j hj=>?_)
      refine catF.trans ?_
      rw[Nat.sub_self]
      match j,hj with
      |0,_=>rfl
      |1,_=>rfl
      |2,_=>rfl
      |3,_=>rfl
      |4,_=>rfl
      |5,_=>rfl
      |6,_=>rfl
      |7,_=>rfl
      |8,_=>rfl
theorem QpM:(Con.mem (QcH 2)).holds Tryz.prog 49:=by
 intro w0 S
 refine Qb (Γ:=[(90,.inl Tryz.f90 (Tryz.f90.body.getD .skip)),(12,.mem (Qbt false)),(11,.pure XO)]) (fun _=>noW) Tryz.func49 rfl (by kernel_rfl) Qg Qc (fun w S' _ _=>.cons ⟨by kernel_rfl,rfl,rfl⟩ (.cons (Qd5 w S') (.cons (QaA w S') (.nil _ _ _)))) (QcH 2) (fun _=>[]) (fun x0 h=>by cases h) (fun s ρ w _ _ _=>Qh w _) [] (fun _ M=>shAt M 0) 600 ?_
 rintro⟨⟨z,r,mh,ch,nh,zh,mv,cv,nv,zv⟩,⟨k,key,x⟩⟩ W ⟨h0,⟨hst0,hst1⟩,hhl,htg⟩ -
 refine⟨rfl,?_⟩
 refine Qi (q:=QeG 2 5 11 12 z r mh ch nh zh mv cv nv zv k key x) (by kernel_rfl) ?_
 unfold QeG
 have h0:(⟨z,r,mh,ch,nh,zh,mv,cv,nv,zv⟩:ShS).good:=h0
 have hst0:0<=z.steps:=hst0
 have hst1:z.steps<100000000:=hst1
 have hhl:z.hist.length<=1000000000:=hhl
 have htg:z.tog 2=0\/z.tog 2=1:=htg
 have es:IntKind.wrap .i64 (z.steps+1)=z.steps+1:=QH (by omega) (by omega)
 have et:IntKind.wrap .i64 (1-z.tog 2)=1-z.tog 2:=QH (by omega) (by omega)
 rw[es,et]
 refine⟨⟨by decide,by decide⟩,QG (fun hd=>?_) (fun hd=>⟨trivial,XA (fun ho=>?_) (fun ho=>?_)⟩)⟩
 · have e0:z.call 2 k key x=z:=if_neg (fun h=>hd h.1)
   refine Qj rfl ⟨⟨z,r,mh,ch,nh,zh,mv,cv,nv,zv⟩,()⟩ ⟨h0,e0.symm,trivial⟩ rfl ?_ rfl
   show _=SV.ren _ (.o (.c (.v (bif (z.w 2).does==0 then _ else _))))
   rw[show ((z.w 2).does==0)=false from beq_eq_false_iff_ne.2 hd];rfl
 · have e0:z.call 2 k key x=z:=if_neg (fun h=>by rw[ho]at h;exact absurd h.2 (by decide))
   refine Qj rfl ⟨⟨z,r,mh,ch,nh,zh,mv,cv,nv,zv⟩,()⟩ ⟨h0,e0.symm,trivial⟩ rfl ?_ rfl
   show _=SV.ren _ (.o (.c (.v (bif (z.w 2).does==0 then (bif opOk k key x then _ else _)else _))))
   rw[show ((z.w 2).does==0)=true from beq_iff_eq.2 hd,ho];rfl
 · have e0:z.call 2 k key x=z.called 2 k key x:=if_pos ⟨hd,ho⟩
   refine⟨⟨by decide,by decide⟩,by decide,⟨wkS (z.w 2) (r 2),k,key,x,1-z.tog 2⟩,rfl,rfl,trivial,fun _ _=>⟨Qf (by kernel_rfl),Qf (by kernel_rfl),⟨⟨h0.h1,rfl⟩,⟨Nat.le_refl _,rfl⟩,by omega⟩,fun c hc=>⟨Qf (by kernel_rfl),?_⟩⟩⟩
   refine' Qj rfl ⟨⟨z.called 2 k key x,setF r 2 ⟨0,0,false,fun _ _=>0,0,0,false,fun _ _=>0⟩,z.hist.length+1,c,nh,_,mv,cv,nv,zv⟩,()⟩ ?ok ?hc ?e1 ?e2
   case e2=>
    show _=(shM ⟨⟨_,_,_,_,_,z.hist++[_],_⟩,_,_,_,_,_,_,_,_,_⟩++[]).map _
    rw[Qbw];rfl
   case hc=>rfl
   case e1=>
    show _=SV.ren _ (.o (.c (.v (bif (z.w 2).does==0 then (bif opOk k key x then _ else _)else _))))
    rw[show ((z.w 2).does==0)=true from beq_iff_eq.2 hd,ho];rfl
   case ok=>
    refine⟨⟨XY h0.w (QdP _ _ _ _ _ _),?_,hc,?_,h0.v1,h0.v2,h0.v⟩,e0.symm,trivial⟩
    · show (z.hist++[_]).length<=_
      rw[List.length_append];exact Nat.le_refl _
    · refine h0.h.snoc (fun j hj k _=>catT hj) (fun j hj=>?_)
      refine catF.trans ?_
      rw[Nat.sub_self]
      match j,hj with
      |0,_=>rfl
      |1,_=>rfl
      |2,_=>rfl
      |3,_=>rfl
      |4,_=>rfl
      |5,_=>rfl
      |6,_=>rfl
      |7,_=>rfl
      |8,_=>rfl
theorem QpL:(Con.mem (QcH 3)).holds Tryz.prog 49:=by
 intro w0 S
 refine Qb (Γ:=[(90,.inl Tryz.f90 (Tryz.f90.body.getD .skip)),(12,.mem (Qbt false)),(11,.pure XO)]) (fun _=>noW) Tryz.func49 rfl (by kernel_rfl) Qg Qc (fun w S' _ _=>.cons ⟨by kernel_rfl,rfl,rfl⟩ (.cons (Qd5 w S') (.cons (QaA w S') (.nil _ _ _)))) (QcH 3) (fun _=>[]) (fun x0 h=>by cases h) (fun s ρ w _ _ _=>Qh w _) [] (fun _ M=>shAt M 0) 600 ?_
 rintro⟨⟨z,r,mh,ch,nh,zh,mv,cv,nv,zv⟩,⟨k,key,x⟩⟩ W ⟨h0,⟨hst0,hst1⟩,hhl,htg⟩ -
 refine⟨rfl,?_⟩
 refine Qi (q:=QeG 3 6 13 14 z r mh ch nh zh mv cv nv zv k key x) (by kernel_rfl) ?_
 unfold QeG
 have h0:(⟨z,r,mh,ch,nh,zh,mv,cv,nv,zv⟩:ShS).good:=h0
 have hst0:0<=z.steps:=hst0
 have hst1:z.steps<100000000:=hst1
 have hhl:z.hist.length<=1000000000:=hhl
 have htg:z.tog 3=0\/z.tog 3=1:=htg
 have es:IntKind.wrap .i64 (z.steps+1)=z.steps+1:=QH (by omega) (by omega)
 have et:IntKind.wrap .i64 (1-z.tog 3)=1-z.tog 3:=QH (by omega) (by omega)
 rw[es,et]
 refine⟨⟨by decide,by decide⟩,QG (fun hd=>?_) (fun hd=>⟨trivial,XA (fun ho=>?_) (fun ho=>?_)⟩)⟩
 · have e0:z.call 3 k key x=z:=if_neg (fun h=>hd h.1)
   refine Qj rfl ⟨⟨z,r,mh,ch,nh,zh,mv,cv,nv,zv⟩,()⟩ ⟨h0,e0.symm,trivial⟩ rfl ?_ rfl
   show _=SV.ren _ (.o (.c (.v (bif (z.w 3).does==0 then _ else _))))
   rw[show ((z.w 3).does==0)=false from beq_eq_false_iff_ne.2 hd];rfl
 · have e0:z.call 3 k key x=z:=if_neg (fun h=>by rw[ho]at h;exact absurd h.2 (by decide))
   refine Qj rfl ⟨⟨z,r,mh,ch,nh,zh,mv,cv,nv,zv⟩,()⟩ ⟨h0,e0.symm,trivial⟩ rfl ?_ rfl
   show _=SV.ren _ (.o (.c (.v (bif (z.w 3).does==0 then (bif opOk k key x then _ else _)else _))))
   rw[show ((z.w 3).does==0)=true from beq_iff_eq.2 hd,ho];rfl
 · have e0:z.call 3 k key x=z.called 3 k key x:=if_pos ⟨hd,ho⟩
   refine⟨⟨by decide,by decide⟩,by decide,⟨wkS (z.w 3) (r 3),k,key,x,1-z.tog 3⟩,rfl,rfl,trivial,fun _ _=>⟨Qf (by kernel_rfl),Qf (by kernel_rfl),⟨⟨h0.h1,rfl⟩,⟨Nat.le_refl _,rfl⟩,by omega⟩,fun c hc=>⟨Qf (by kernel_rfl),?_⟩⟩⟩
   refine' Qj rfl ⟨⟨z.called 3 k key x,setF r 3 ⟨0,0,false,fun _ _=>0,0,0,false,fun _ _=>0⟩,z.hist.length+1,c,nh,_,mv,cv,nv,zv⟩,()⟩ ?ok ?hc ?e1 ?e2
   case e2=>
    show _=(shM ⟨⟨_,_,_,_,_,z.hist++[_],_⟩,_,_,_,_,_,_,_,_,_⟩++[]).map _
    rw[Qbw];rfl
   case hc=>rfl
   case e1=>
    show _=SV.ren _ (.o (.c (.v (bif (z.w 3).does==0 then (bif opOk k key x then _ else _)else _))))
    rw[show ((z.w 3).does==0)=true from beq_iff_eq.2 hd,ho];rfl
   case ok=>
    refine⟨⟨XY h0.w (QdP _ _ _ _ _ _),?_,hc,?_,h0.v1,h0.v2,h0.v⟩,e0.symm,trivial⟩
    · show (z.hist++[_]).length<=_
      rw[List.length_append];exact Nat.le_refl _
    · refine h0.h.snoc (fun j hj k _=>catT hj) (fun j hj=>?_)
      refine catF.trans ?_
      rw[Nat.sub_self]
      match j,hj with
      |0,_=>rfl
      |1,_=>rfl
      |2,_=>rfl
      |3,_=>rfl
      |4,_=>rfl
      |5,_=>rfl
      |6,_=>rfl
      |7,_=>rfl
      |8,_=>rfl
def verC:TCon Sh Unit Unit where
 pre z _:=0<=z.s.now 0/\z.s.now 0<1000000000
 args _:=[]
 ok _ _ _:=True
 next z _ _:=z
 val _ z _ _:=sv (.int .i64 (z.s.now 0))
 new _ _ _ _:=[]
 len:=0
abbrev Qj0:MCon:=verC.low shM ShS.z ShS.good 17 7 Qc9
theorem Qqq:(Con.mem Qj0).holds Tryz.prog 52:=by
 intro w0 S
 refine Qb (Γ:=[(15,.mem QN)]) (fun _=>noW) Tryz.func52 rfl (by kernel_rfl) Qg Qc (fun w S' _ _=>.cons (QO w S') (.nil _ _ _)) Qj0 (fun _=>[]) (fun x0 h=>by cases h) (fun s ρ w _ _ _=>Qh w _) [] (fun _ M=>shAt M 0) 600 ?_
 rintro⟨⟨z,r,mh,ch,nh,zh,mv,cv,nv,zv⟩,⟨⟩⟩ W ⟨h0,h1,h2⟩ -
 refine⟨rfl,?_⟩
 refine Qi (q:=∃(s:QC),[aP 2 0,aI 0]=[aP 2 0,aI s.2]/\[stoB (Sh.s z)]=[stoB (QC.s s)]/\(iR s.2 (72:Int))/\∀(x:Unit),True->endN Qj0 [] (fun (x:SV) (M:List SB)=>shAt M 0) (ShS.mk z r mh ch nh zh mv cv nv zv,PUnit.unit) (SV.o (aI (IntKind.wrap .i64 ((QC.s s).1 (Int.toNat s.2))))) (shI (shD z.4 z.5 15 (List.length z.6) ch nh 16 (List.length z.7) cv nv) z.1 (QC.s s) (stX (Sh.w z) r) (stA r) (stD r) (evB mh ch zh) (vdB mv cv zv) [])) (by kernel_rfl) ?_
 have h0:(⟨z,r,mh,ch,nh,zh,mv,cv,nv,zv⟩:ShS).good:=h0
 have h1:0<=z.s.now 0:=h1
 have h2:z.s.now 0<1000000000:=h2
 refine⟨⟨z.s,0⟩,rfl,rfl,⟨(by decide:(0:Int)<=0),(by decide:(0:Int)<72)⟩,fun _ _=>?_⟩
 show endN Qj0 [] _ _ (SV.o (SA.c (SC.v (Value.int .i64 (IntKind.wrap .i64 (z.s.now 0)))))) _
 rw[QH (by omega) (by omega)]
 exact Qj rfl ⟨⟨z,r,mh,ch,nh,zh,mv,cv,nv,zv⟩,()⟩ ⟨h0,rfl,trivial⟩ rfl rfl rfl
end
end Go.Proofs.YtflgoaogcenmpaaGreatDoor
