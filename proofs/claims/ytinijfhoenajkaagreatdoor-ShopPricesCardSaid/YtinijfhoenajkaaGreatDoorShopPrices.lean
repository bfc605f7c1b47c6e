/- ShopPrices: the walk of the law. -/
import Derived.Test.YtinijfhoenajkaaGreatDoorZB5
namespace Go.Proofs.YtinijfhoenajkaaGreatDoor
open Go.RowKit
set_option linter.unusedVariables false
set_option maxRecDepth 100000
set_option maxHeartbeats 4000000
structure PrG (z:Sh) where
 i:Nat
 F:List Nat
 hi:i<=4
 h:∀u,u<i->(z.w u).does=0
def annPr (z:Sh):Ann where
 σ:=PrG z
 I g:=([(5,.o (.c (.p 0 0))),(6,sv (.int .i64 z.s.fl)),(7,sv (.int .i64 z.s.fe)),(8,sv (.int .i64 (z.s.now 0))),(9,sv (.int .i64 g.i))],[.abs (QB shM ShS.z ShS.good z) g.F])
 dec g:=4-g.i
 pi env _:=[blkE env 5]
 nz:=[]
theorem walk_ShopPrices (a0:Int) (a1:Option Addr) (len1 cap1:Nat) (z1:Nat->Nat->Int) (W:World) (hE:ErrType W) (w0:(Lit.int .i64 a0).wf=true) (w1:MvIn W a1 len1 cap1 z1):
 Calls Tryz.prog 6 #[.int .i64 a0,.slice a1 len1 cap1] W fun e w'=>e=.returned (.bool true)/\Below W.heap.size W w':=by
 refine Qqd (AG:=[(6,[(0,annPr (XW (1+QgI a0 6) (mvL z1 len1)))]),(50,[(0,annId4 ⟨a1,len1,cap1,z1⟩)])]) (Γ:=[(15,.pure Qg8),(16,.inl Tryz.f16 (Tryz.f16.body.getD .skip)),(18,.pure QfO),(17,.inl Tryz.f17 (Tryz.f17.body.getD .skip)),(45,.mem (QiT W)),(21,.mem QiR.sh),(26,.mem verC.sh),(25,.mem cstC.sh),(28,.inl Tryz.f28 (Tryz.f28.body.getD .skip)),(50,.inl Tryz.f50 (Tryz.f50.body.getD .skip)),(29,.pure QiW)]) Tryz.func6 rfl Qg Qd
  (.cons (shops_con W _) (.cons (⟨by kernel_rfl,rfl,rfl⟩) (.cons (QqS W _) (.cons (⟨by kernel_rfl,rfl,rfl⟩) (.cons (play_con W) (.cons (doesH W _) (.cons (verH W _) (.cons (cstH W _) (.cons (⟨by kernel_rfl,rfl,rfl⟩) (.cons (⟨by kernel_rfl,rfl,rfl⟩) (.cons (clo4_con W _) (.nil _ _ _))))))))))))
  [.c (.v (.int .i64 a0)),.c (.r a1 len1 cap1 len1 7 mvK z1)] (.bool true) 400 rfl ?_ rfl
 refine Qk (q:=True/\bif bif decide ((↑len1:Int)<=(120:Int))then false else true then SV.o (aB true)=SV.o (aB true)else (∃(s0:Ann.σ (annId4 (MvS.mk a1 len1 cap1 z1))),(eS (SA.c (.r a1 len1 cap1 len1 7 (fun (j:Nat)=>bif Nat.beq j 6 then .u64 else .i64) z1)) (SA.c (.r a1 len1 cap1 len1 7 (fun (j:Nat)=>bif Nat.beq j 6 then .u64 else .i64) z1))/\eS (SA.c (.v (.func (Fn.func 29) (Array.mk []) (Array.mk [])))) (SA.c (.v (.func (Fn.func 29) (Array.mk []) (Array.mk []))))/\eS (aI ↑len1) (aI ↑len1)/\eS (aI 0) (aI ↑s0.1)/\True)/\([]:List SB)=[])/\∀(s:Id4G (MvS.mk a1 len1 cap1 z1)),bif decide ((↑s.1:Int)<(↑len1:Int))then (Rws 7 (fun (j:Nat)=>bif Nat.beq j 6 then .u64 else .i64) W a1 len1 cap1 z1/\(0:Int)<=(↑s.1:Int)/\(↑s.1:Int)<(↑len1:Int)/\Int.toNat (↑s.1:Int)<len1)/\(Rws 7 (fun (j:Nat)=>bif Nat.beq j 6 then .u64 else .i64) W a1 len1 cap1 z1/\Int.toNat (↑s.1:Int)<len1)/\True/\bif z1 (Int.toNat (↑s.1:Int)) 0==(4:Int)then bif decide ((↑s.1:Int)>=(0:Int))then SV.o (aB true)=SV.o (aB true)else True/\∃(s:PlS),[aI ((1:Int)+QgI a0 (6:Int)),SA.c (.r a1 len1 cap1 len1 7 (fun (j:Nat)=>bif Nat.beq j 6 then .u64 else .i64) z1)]=[aI s.1,SA.c (.r s.2 s.3 s.4 s.3 7 (fun (j:Nat)=>bif Nat.beq j 6 then .u64 else .i64) s.5)]/\eN/\(((1:Int)<=s.1/\s.1<=(6:Int))/\s.3<=3000/\Rws 7 mvK W (PlS.a s) (PlS.n s) s.4 s.5/\∀(i:Nat),i<s.3->U64 (s.5 i 6))/\∀(x:List Nat),True->∃(s_1:Sh × Unit × List Nat),[aP 0 0]=[aP 0 0]/\[SB.abs (QB shM ShS.z ShS.good (XW s.1 (mvL s.5 s.3))) x]=[SB.abs (QB shM ShS.z ShS.good s_1.1) s_1.2.2]/\True/\∀(x:List Nat × Unit),True->∃(s:Sh × Unit × List Nat),[aP 0 0]=[aP 0 0]/\[SB.abs (QB shM ShS.z ShS.good s_1.1) x.1]=[SB.abs (QB shM ShS.z ShS.good s.1) s.2.2]/\((0:Int)<=(Sh.s s.1).1 0/\(Sh.s s.1).1 0<(1000000000:Int))/\∀(x:List Nat × Unit),True->bif decide ((Sh.s s_1.1).4>IntKind.wrap .i64 ((5:Int)*IntKind.wrap .i64 ((Sh.s s.1).1 0+(1:Int))))then SV.o (aB false)=SV.o (aB true)else bif decide ((Sh.s s_1.1).5>IntKind.wrap .i64 ((2:Int)*IntKind.wrap .i64 ((Sh.s s.1).1 0+(1:Int))))then SV.o (aB false)=SV.o (aB true)else bif decide ((Sh.s s_1.1).4<IntKind.wrap .i64 (IntKind.wrap .i64 ((5:Int)*(Sh.s s.1).1 0)-(1:Int)))then SV.o (aB false)=SV.o (aB true)else bif decide ((Sh.s s_1.1).5<IntKind.wrap .i64 (IntKind.wrap .i64 ((2:Int)*(Sh.s s.1).1 0)-(1:Int)))then SV.o (aB false)=SV.o (aB true)else (∃(s0:Ann.σ (annPr (XW ((1:Int)+QgI a0 (6:Int)) (mvL z1 len1)))),(eS (aP 0 0) (aP 0 0)/\eS (aI (Sh.s s_1.1).4) (aI (Sh.s (XW ((1:Int)+QgI a0 (6:Int)) (mvL z1 len1))).4)/\eS (aI (Sh.s s_1.1).5) (aI (Sh.s (XW ((1:Int)+QgI a0 (6:Int)) (mvL z1 len1))).5)/\eS (aI ((Sh.s s.1).1 0)) (aI ((Sh.s (XW ((1:Int)+QgI a0 (6:Int)) (mvL z1 len1))).1 0))/\eS (aI 0) (aI ↑s0.1)/\True)/\[SB.abs (QB shM ShS.z ShS.good s.1) x.1]=[SB.abs (QB shM ShS.z ShS.good (XW ((1:Int)+QgI a0 (6:Int)) (mvL z1 len1))) s0.2])/\∀(s:PrG (XW ((1:Int)+QgI a0 (6:Int)) (mvL z1 len1))),bif decide ((↑s.1:Int)<(4:Int))then ∃(s_2:Sh × Nat × List Nat),[aP 0 0,aI ↑s.1]=[aP 0 0,aI (↑s_2.2.1:Int)]/\[SB.abs (QB shM ShS.z ShS.good (XW ((1:Int)+QgI a0 (6:Int)) (mvL z1 len1))) s.2]=[SB.abs (QB shM ShS.z ShS.good s_2.1) s_2.2.2]/\s_2.2.1<4/\∀(x:List Nat × Unit),True->bif (Sh.w s_2.1 s_2.2.1).2 != (0:Int)then SV.o (aB true)=SV.o (aB true)else ∃(s':PrG (XW ((1:Int)+QgI a0 (6:Int)) (mvL z1 len1))),((eS (aP 0 0) (aP 0 0)/\eS (aI (Sh.s (XW ((1:Int)+QgI a0 (6:Int)) (mvL z1 len1))).4) (aI (Sh.s (XW ((1:Int)+QgI a0 (6:Int)) (mvL z1 len1))).4)/\eS (aI (Sh.s (XW ((1:Int)+QgI a0 (6:Int)) (mvL z1 len1))).5) (aI (Sh.s (XW ((1:Int)+QgI a0 (6:Int)) (mvL z1 len1))).5)/\eS (aI ((Sh.s (XW ((1:Int)+QgI a0 (6:Int)) (mvL z1 len1))).1 0)) (aI ((Sh.s (XW ((1:Int)+QgI a0 (6:Int)) (mvL z1 len1))).1 0))/\eS (aI (IntKind.wrap .i64 ((↑s.1:Int)+(1:Int)))) (aI ↑s'.1)/\True)/\[SB.abs (QB shM ShS.z ShS.good s_2.1) x.1]=[SB.abs (QB shM ShS.z ShS.good (XW ((1:Int)+QgI a0 (6:Int)) (mvL z1 len1))) s'.2])/\4-s'.1<4-s.1 else bif (Sh.s (XW ((1:Int)+QgI a0 (6:Int)) (mvL z1 len1))).4==IntKind.wrap .i64 ((5:Int)*(Sh.s (XW ((1:Int)+QgI a0 (6:Int)) (mvL z1 len1))).1 0)then SV.o (aB ((Sh.s (XW ((1:Int)+QgI a0 (6:Int)) (mvL z1 len1))).5==IntKind.wrap .i64 ((2:Int)*(Sh.s (XW ((1:Int)+QgI a0 (6:Int)) (mvL z1 len1))).1 0)))=SV.o (aB true)else SV.o (aB false)=SV.o (aB true)else ∃(s':Id4G (MvS.mk a1 len1 cap1 z1)),((eS (SA.c (.r a1 len1 cap1 len1 7 (fun (j:Nat)=>bif Nat.beq j 6 then .u64 else .i64) z1)) (SA.c (.r a1 len1 cap1 len1 7 (fun (j:Nat)=>bif Nat.beq j 6 then .u64 else .i64) z1))/\eS (SA.c (.v (.func (Fn.func 29) (Array.mk []) (Array.mk [])))) (SA.c (.v (.func (Fn.func 29) (Array.mk []) (Array.mk []))))/\eS (aI ↑len1) (aI ↑len1)/\eS (aI (IntKind.wrap .i64 ((↑s.1:Int)+(1:Int)))) (aI ↑s'.1)/\True)/\([]:List SB)=[])/\len1-s'.1<len1-s.1 else True/\∃(s:PlS),[aI ((1:Int)+QgI a0 (6:Int)),SA.c (.r a1 len1 cap1 len1 7 (fun (j:Nat)=>bif Nat.beq j 6 then .u64 else .i64) z1)]=[aI s.1,SA.c (.r s.2 s.3 s.4 s.3 7 (fun (j:Nat)=>bif Nat.beq j 6 then .u64 else .i64) s.5)]/\eN/\(((1:Int)<=s.1/\s.1<=(6:Int))/\s.3<=3000/\Rws 7 mvK W (PlS.a s) (PlS.n s) s.4 s.5/\∀(i:Nat),i<s.3->U64 (s.5 i 6))/\∀(x:List Nat),True->∃(s_1:Sh × Unit × List Nat),[aP 0 0]=[aP 0 0]/\[SB.abs (QB shM ShS.z ShS.good (XW s.1 (mvL s.5 s.3))) x]=[SB.abs (QB shM ShS.z ShS.good s_1.1) s_1.2.2]/\True/\∀(x:List Nat × Unit),True->∃(s:Sh × Unit × List Nat),[aP 0 0]=[aP 0 0]/\[SB.abs (QB shM ShS.z ShS.good s_1.1) x.1]=[SB.abs (QB shM ShS.z ShS.good s.1) s.2.2]/\((0:Int)<=(Sh.s s.1).1 0/\(Sh.s s.1).1 0<(1000000000:Int))/\∀(x:List Nat × Unit),True->bif decide ((Sh.s s_1.1).4>IntKind.wrap .i64 ((5:Int)*IntKind.wrap .i64 ((Sh.s s.1).1 0+(1:Int))))then SV.o (aB false)=SV.o (aB true)else bif decide ((Sh.s s_1.1).5>IntKind.wrap .i64 ((2:Int)*IntKind.wrap .i64 ((Sh.s s.1).1 0+(1:Int))))then SV.o (aB false)=SV.o (aB true)else bif decide ((Sh.s s_1.1).4<IntKind.wrap .i64 (IntKind.wrap .i64 ((5:Int)*(Sh.s s.1).1 0)-(1:Int)))then SV.o (aB false)=SV.o (aB true)else bif decide ((Sh.s s_1.1).5<IntKind.wrap .i64 (IntKind.wrap .i64 ((2:Int)*(Sh.s s.1).1 0)-(1:Int)))then SV.o (aB false)=SV.o (aB true)else (∃(s0:Ann.σ (annPr (XW ((1:Int)+QgI a0 (6:Int)) (mvL z1 len1)))),(eS (aP 0 0) (aP 0 0)/\eS (aI (Sh.s s_1.1).4) (aI (Sh.s (XW ((1:Int)+QgI a0 (6:Int)) (mvL z1 len1))).4)/\eS (aI (Sh.s s_1.1).5) (aI (Sh.s (XW ((1:Int)+QgI a0 (6:Int)) (mvL z1 len1))).5)/\eS (aI ((Sh.s s.1).1 0)) (aI ((Sh.s (XW ((1:Int)+QgI a0 (6:Int)) (mvL z1 len1))).1 0))/\eS (aI 0) (aI ↑s0.1)/\True)/\[SB.abs (QB shM ShS.z ShS.good s.1) x.1]=[SB.abs (QB shM ShS.z ShS.good (XW ((1:Int)+QgI a0 (6:Int)) (mvL z1 len1))) s0.2])/\∀(s:PrG (XW ((1:Int)+QgI a0 (6:Int)) (mvL z1 len1))),bif decide ((↑s.1:Int)<(4:Int))then ∃(s_2:Sh × Nat × List Nat),[aP 0 0,aI ↑s.1]=[aP 0 0,aI (↑s_2.2.1:Int)]/\[SB.abs (QB shM ShS.z ShS.good (XW ((1:Int)+QgI a0 (6:Int)) (mvL z1 len1))) s.2]=[SB.abs (QB shM ShS.z ShS.good s_2.1) s_2.2.2]/\s_2.2.1<4/\∀(x:List Nat × Unit),True->bif (Sh.w s_2.1 s_2.2.1).2 != (0:Int)then SV.o (aB true)=SV.o (aB true)else ∃(s':PrG (XW ((1:Int)+QgI a0 (6:Int)) (mvL z1 len1))),((eS (aP 0 0) (aP 0 0)/\eS (aI (Sh.s (XW ((1:Int)+QgI a0 (6:Int)) (mvL z1 len1))).4) (aI (Sh.s (XW ((1:Int)+QgI a0 (6:Int)) (mvL z1 len1))).4)/\eS (aI (Sh.s (XW ((1:Int)+QgI a0 (6:Int)) (mvL z1 len1))).5) (aI (Sh.s (XW ((1:Int)+QgI a0 (6:Int)) (mvL z1 len1))).5)/\eS (aI ((Sh.s (XW ((1:Int)+QgI a0 (6:Int)) (mvL z1 len1))).1 0)) (aI ((Sh.s (XW ((1:Int)+QgI a0 (6:Int)) (mvL z1 len1))).1 0))/\eS (aI (IntKind.wrap .i64 ((↑s.1:Int)+(1:Int)))) (aI ↑s'.1)/\True)/\[SB.abs (QB shM ShS.z ShS.good s_2.1) x.1]=[SB.abs (QB shM ShS.z ShS.good (XW ((1:Int)+QgI a0 (6:Int)) (mvL z1 len1))) s'.2])/\4-s'.1<4-s.1 else bif (Sh.s (XW ((1:Int)+QgI a0 (6:Int)) (mvL z1 len1))).4==IntKind.wrap .i64 ((5:Int)*(Sh.s (XW ((1:Int)+QgI a0 (6:Int)) (mvL z1 len1))).1 0)then SV.o (aB ((Sh.s (XW ((1:Int)+QgI a0 (6:Int)) (mvL z1 len1))).5==IntKind.wrap .i64 ((2:Int)*(Sh.s (XW ((1:Int)+QgI a0 (6:Int)) (mvL z1 len1))).1 0)))=SV.o (aB true)else SV.o (aB false)=SV.o (aB true)) (by kernel_rfl) ?_
 have k1:1<=1+QgI a0 6:=by have:=QeC a0 6 (by decide);omega
 have k6:1+QgI a0 6<=6:=by have:=Qjl a0 6 (by decide);omega
 generalize 1+QgI a0 6=K at k1 k6 ⊢
 refine⟨trivial,Qnk (fun _=>rfl) (fun hh=>⟨⟨⟨0,Nat.zero_le _,fun j hj=>absurd hj (Nat.not_lt_zero _)⟩,⟨rfl,rfl,rfl,rfl,trivial⟩,rfl⟩,?_⟩)⟩
 rintro⟨i,hi,hp⟩
 have hi:i<=len1:=hi
 have hp:∀j,j<i->z1 j 0≠4:=hp
 dsimp only
 rw[Int.toNat_natCast]
 refine Qr (fun hlt=>?_) (fun hge=>?_)
 · have hlt':i<len1:=by omega
   refine⟨⟨w1.1,by omega,hlt,hlt'⟩,⟨w1.1,hlt'⟩,trivial,Xa (fun h4=>Qr (fun _=>rfl) (fun h=>absurd (by omega) h)) (fun h4=>⟨⟨i+1,hlt',fun j hj=>?_⟩,⟨⟨rfl,rfl,rfl,svI (sucI (by omega)),trivial⟩,rfl⟩,by dsimp only;omega⟩)⟩
   by_cases e:j=i
   · subst e;exact h4
   · exact hp j (by omega)
 have e:i=len1:=by omega
 rw[e]at hp
 refine⟨trivial,⟨K,a1,len1,cap1,z1⟩,rfl,rfl,⟨⟨k1,k6⟩,(by show len1<=3000;omega),w1.1,w1.2⟩,fun x _=>?_⟩
 obtain⟨g,F,hs⟩:=Qg5 k1 k6 len1 (mvL z1 len1) (Qqi z1 len1) (by omega)
 have P:=Ql4 k1 k6 len1 (mvL z1 len1) (Qqi z1 len1) (by omega) (fun m hm=>by
  unfold mvL at hm
  obtain⟨j,hj,rfl⟩:=List.mem_map.1 hm
  exact hp j (List.mem_range.1 hj))
 have hs2:(XW K (mvL z1 len1)).steps<=120000:=by omega
 generalize XW K (mvL z1 len1)=Z at *
 have hv:=F.ver (by omega)
 obtain⟨b0,b1,b2,b3,b4⟩:=pay_all F P
 have q1:IntKind.wrap .i64 (Z.s.now 0+1)=Z.s.now 0+1:=QE (by omega) (by omega)
 have q2:IntKind.wrap .i64 (5*(Z.s.now 0+1))=5*(Z.s.now 0+1):=QE (by omega) (by omega)
 have q3:IntKind.wrap .i64 (2*(Z.s.now 0+1))=2*(Z.s.now 0+1):=QE (by omega) (by omega)
 have q4:IntKind.wrap .i64 (5*Z.s.now 0)=5*Z.s.now 0:=QE (by omega) (by omega)
 have q5:IntKind.wrap .i64 (2*Z.s.now 0)=2*Z.s.now 0:=QE (by omega) (by omega)
 have q6:IntKind.wrap .i64 (5*Z.s.now 0-1)=5*Z.s.now 0-1:=QE (by omega) (by omega)
 have q7:IntKind.wrap .i64 (2*Z.s.now 0-1)=2*Z.s.now 0-1:=QE (by omega) (by omega)
 refine⟨(Z,(),x),rfl,rfl,trivial,fun y _=>⟨(Z,(),y.1),rfl,rfl,hv,fun y2 _=>?_⟩⟩
 dsimp only
 rw[q1,q2,q3,q4,q5,q6,q7]
 refine Qr (fun h=>absurd h (by omega)) (fun _=>Qr (fun h=>absurd h (by omega)) (fun _=>Qr (fun h=>absurd h (by omega)) (fun _=>Qr (fun h=>absurd h (by omega)) (fun _=>⟨⟨⟨0,y2.1,by decide,fun u h=>absurd h (Nat.not_lt_zero _)⟩,⟨rfl,rfl,rfl,rfl,rfl,trivial⟩,rfl⟩,?_⟩))))
 rintro⟨i,G,hi,hq⟩
 dsimp only
 refine Qr (fun hlt=>⟨(Z,i,G),rfl,rfl,(by show i<4;omega),fun y _=>QD (fun _=>rfl) (fun h0=>⟨⟨i+1,y.1,by omega,fun u hu'=>?_⟩,⟨⟨rfl,rfl,rfl,rfl,svI (sucI (by omega)),trivial⟩,rfl⟩,by dsimp only;omega⟩)⟩) (fun hge=>?_)
 · by_cases e:u=i
   · subst e;exact h0
   · exact hq u (by omega)
 obtain⟨e1,e2⟩:=pay_idle P (fun u hu=>hq u (by omega))
 exact Xa (fun _=>svB (beq_iff_eq.2 e2)) (fun h=>absurd e1 h)
end Go.Proofs.YtinijfhoenajkaaGreatDoor
