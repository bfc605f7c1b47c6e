/- ShopAlone: the walk of the law. -/
import Derived.Test.YtinijfhoenajkaaGreatDoorZB5
namespace Go.Proofs.YtinijfhoenajkaaGreatDoor
open Go.RowKit
set_option linter.unusedVariables false
set_option maxRecDepth 100000
set_option maxHeartbeats 4000000
structure AlG (z:Sh) where
 i:Nat
 F:List Nat
 hi:i<=4
 h:∀u,u<i->(z.w u).does=0
def annAl (z:Sh) (a u v x:Int):Ann where
 σ:=AlG z
 I g:=([(2,sv (.int .i64 a)),(7,.o (.c (.p 1 0))),(9,.o (.c (.p 0 0))),(10,sv (.int .i64 g.i))],[.abs (QB shM ShS.z ShS.good z) g.F,.cells [.one (.v (.int .i64 u)),.one (.v (.int .i64 v)),.one (.v (.int .i64 x))] 31])
 dec g:=4-g.i
 pi env _:=[blkE env 9,blkE env 7]
 nz:=[]
theorem walk_ShopAlone (a0:Int) (a1:Option Addr) (len1 cap1:Nat) (z1:Nat->Nat->Int) (a2:Int) (u3 v3 x3:Int) (W:World) (hE:ErrType W) (w0:(Lit.int .i64 a0).wf=true) (w1:MvIn W a1 len1 cap1 z1) (w2:(Lit.int .i64 a2).wf=true):
 Calls Tryz.prog 4 #[.int .i64 a0,.slice a1 len1 cap1,.int .i64 a2,.agg #[.int .i64 u3,.int .i64 v3,.int .i64 x3]] W fun e w'=>e=.returned (.bool true)/\Below W.heap.size W w':=by
 refine Qqd (AG:=[(4,[(0,annAl (XW (1+QgI a0 6) (mvL z1 len1)) a2 u3 v3 x3)])]) (Γ:=[(15,.pure Qg8),(16,.inl Tryz.f16 (Tryz.f16.body.getD .skip)),(18,.pure QfO),(17,.inl Tryz.f17 (Tryz.f17.body.getD .skip)),(45,.mem (QiT W)),(21,.mem QiR.sh),(22,.pure Qg9),(24,.mem runG.sh),(23,.mem QqE.sh),(20,.pure XR)]) Tryz.func4 rfl Qg Qd
  (.cons (shops_con W _) (.cons (⟨by kernel_rfl,rfl,rfl⟩) (.cons (QqS W _) (.cons (⟨by kernel_rfl,rfl,rfl⟩) (.cons (play_con W) (.cons (doesH W _) (.cons (Qn8 W _) (.cons (runGH W _) (.cons (callNH W _) (.cons (QaF W _) (.nil _ _ _)))))))))))
  [.c (.v (.int .i64 a0)),.c (.r a1 len1 cap1 len1 7 mvK z1),.c (.v (.int .i64 a2)),.a [.one (.v (.int .i64 u3)),.one (.v (.int .i64 v3)),.one (.v (.int .i64 x3))]] (.bool true) 400 rfl ?_ rfl
 refine Qk (q:=True/\bif bif decide ((↑len1:Int)<=(120:Int))then false else true then SV.o (aB true)=SV.o (aB true)else True/\bif bif opOk u3 v3 x3 then false else true then SV.o (aB true)=SV.o (aB true)else True/\∃(s:PlS),[aI ((1:Int)+QgI a0 (6:Int)),SA.c (.r a1 len1 cap1 len1 7 (fun (j:Nat)=>bif Nat.beq j 6 then .u64 else .i64) z1)]=[aI s.1,SA.c (.r s.2 s.3 s.4 s.3 7 (fun (j:Nat)=>bif Nat.beq j 6 then .u64 else .i64) s.5)]/\eN/\(((1:Int)<=s.1/\s.1<=(6:Int))/\s.3<=3000/\Rws 7 mvK W (PlS.a s) (PlS.n s) s.4 s.5/\∀(i:Nat),i<s.3->U64 (s.5 i 6))/\∀(x:List Nat),True->(∃(s0:Ann.σ (annAl (XW ((1:Int)+QgI a0 (6:Int)) (mvL z1 len1)) a2 u3 v3 x3)),(eS (aI a2) (aI a2)/\eS (aP 0 0) (aP 0 0)/\eS (aP 1 0) (aP 1 0)/\eS (aI 0) (aI ↑s0.1)/\True)/\[SB.abs (QB shM ShS.z ShS.good (XW s.1 (mvL s.5 s.3))) x,SB.cells [sI u3,sI v3,sI x3] 31]=[SB.abs (QB shM ShS.z ShS.good (XW ((1:Int)+QgI a0 (6:Int)) (mvL z1 len1))) s0.2,SB.cells [sI u3,sI v3,sI x3] 31])/\∀(s:AlG (XW ((1:Int)+QgI a0 (6:Int)) (mvL z1 len1))),bif decide ((↑s.1:Int)<(4:Int))then ∃(s_1:Sh × Nat × List Nat),[aP 0 0,aI ↑s.1]=[aP 0 0,aI (↑s_1.2.1:Int)]/\[SB.abs (QB shM ShS.z ShS.good (XW ((1:Int)+QgI a0 (6:Int)) (mvL z1 len1))) s.2]=[SB.abs (QB shM ShS.z ShS.good s_1.1) s_1.2.2]/\s_1.2.1<4/\∀(x:List Nat × Unit),True->bif (Sh.w s_1.1 s_1.2.1).2 != (0:Int)then SV.o (aB true)=SV.o (aB true)else ∃(s':AlG (XW ((1:Int)+QgI a0 (6:Int)) (mvL z1 len1))),((eS (aI a2) (aI a2)/\eS (aP 1 0) (aP 1 0)/\eS (aP 0 0) (aP 0 0)/\eS (aI (IntKind.wrap .i64 ((↑s.1:Int)+(1:Int)))) (aI ↑s'.1)/\True)/\[SB.abs (QB shM ShS.z ShS.good s_1.1) x.1,SB.cells [sI u3,sI v3,sI x3] 31]=[SB.abs (QB shM ShS.z ShS.good (XW ((1:Int)+QgI a0 (6:Int)) (mvL z1 len1))) s'.2,SB.cells [sI u3,sI v3,sI x3] 31])/\4-s'.1<4-s.1 else ((0:Int)<(4:Int)/\(4:Int)<=(9223372036854775807:Int))/\∃(s_1:Sh × (Int × OpA) × List Nat),[aP 0 0,aI (QgI a2 (4:Int)),SA.a [sI u3,sI v3,sI x3]]=[aP 0 0,aI s_1.2.1.1,SA.a [sI s_1.2.1.2.1,sI s_1.2.1.2.2,sI s_1.2.1.2.3]]/\[SB.abs (QB shM ShS.z ShS.good (XW ((1:Int)+QgI a0 (6:Int)) (mvL z1 len1))) s.2]=[SB.abs (QB shM ShS.z ShS.good s_1.1) s_1.2.2]/\(CallOK s_1.1/\inT s_1.2.1.1=true/\(Sh.w s_1.1 (Int.toNat s_1.2.1.1)).2=(0:Int)/\opOk s_1.2.1.2.1 s_1.2.1.2.2 s_1.2.1.2.3=true)/\∀(x:List Nat × Unit),True->∃(s:Sh × (Int × Int) × List Nat),[aP 0 0,aI (QgI a2 (4:Int)),aI 1000]=[aP 0 0,aI s.2.1.1,aI s.2.1.2]/\[SB.abs (QB shM ShS.z ShS.good (bif inT s_1.2.1.1 then Sh.call s_1.1 (Int.toNat s_1.2.1.1) s_1.2.1.2.1 s_1.2.1.2.2 s_1.2.1.2.3 else s_1.1)) x.1]=[SB.abs (QB shM ShS.z ShS.good s.1) s.2.2]/\((inT s.2.1.1=true->RunOK s.1 (Int.toNat s.2.1.1) s.2.1.2)/\inT s.2.1.1=true/\runB s.2.1.2=true)/\∀(x:List Nat × Unit),True->bif decide ((↑(Sh.ran s.1 (Int.toNat s.2.1.1) (Int.toNat s.2.1.2)):Int)<=(84:Int))then ∃(s_2:Sh × Nat × List Nat),[aP 0 0,aI (QgI a2 (4:Int))]=[aP 0 0,aI (↑s_2.2.1:Int)]/\[SB.abs (QB shM ShS.z ShS.good (Sh.runA s.1 s.2.1.1 s.2.1.2)) x.1]=[SB.abs (QB shM ShS.z ShS.good s_2.1) s_2.2.2]/\s_2.2.1<4/\∀(x:List Nat × Unit),True->SV.o (aB ((Sh.w s_2.1 s_2.2.1).2==(0:Int)))=SV.o (aB true)else SV.o (aB false)=SV.o (aB true)) (by kernel_rfl) ?_
 have k1:1<=1+QgI a0 6:=by have:=QeC a0 6 (by decide);omega
 have k6:1+QgI a0 6<=6:=by have:=Qjl a0 6 (by decide);omega
 generalize 1+QgI a0 6=K at k1 k6 ⊢
 refine⟨trivial,Qnk (fun _=>rfl) (fun hh=>⟨trivial,XA (fun _=>rfl) (fun ho=>⟨trivial,⟨K,a1,len1,cap1,z1⟩,rfl,rfl,⟨⟨k1,k6⟩,(by show len1<=3000;omega),w1.1,w1.2⟩,fun x _=>?_⟩)⟩)⟩
 obtain⟨g,F2,hs⟩:=QmY k1 k6 len1 (mvL z1 len1) (Qqi z1 len1) (by omega)
 have hs2:(XW K (mvL z1 len1)).steps<=120000:=by omega
 have F:=F2.fi
 have hL:=F.lens (by omega)
 have hT:=F.steps0
 have hI:=F.i
 generalize XW K (mvL z1 len1)=Z at *
 have p0:=QeC a2 4 (by decide)
 have p4:=Qjl a2 4 (by decide)
 refine⟨⟨⟨0,x,by decide,fun u h=>absurd h (Nat.not_lt_zero _)⟩,⟨rfl,rfl,rfl,rfl,trivial⟩,rfl⟩,?_⟩
 rintro⟨i,G,hi,hp⟩
 dsimp only
 refine Qr (fun hlt=>⟨(Z,i,G),rfl,rfl,(by show i<4;omega),fun y _=>QD (fun _=>rfl) (fun h0=>⟨⟨i+1,y.1,by omega,fun u hu'=>?_⟩,⟨⟨rfl,rfl,rfl,svI (sucI (by omega)),trivial⟩,rfl⟩,by dsimp only;omega⟩)⟩) (fun hge=>?_)
 · by_cases e:u=i
   · subst e;exact h0
   · exact hp u (by omega)
 obtain rfl:i=4:=by omega
 obtain⟨t,ht⟩:=Int.eq_ofNat_of_zero_le p0
 rw[ht]at p4 ⊢
 have ht4:t<4:=by omega
 have hs3:Z.steps<100000000:=by omega
 obtain⟨g',A,hn⟩:=alone F2 ht4 (fun u hu=>hp u hu) ho (by omega)
 obtain⟨e1,e2⟩:=hn 1000 (by decide)
 have hT1:inT (t:Int)=true:=decide_eq_true (by omega)
 have hid:=A.idle
 have hci:=QfL F ht4 u3 v3 x3
 have hcs:=(Qaq Z t u3 v3 x3).2
 obtain⟨Y,hY⟩:∃Y,Y=Z.call t u3 v3 x3:=⟨_,rfl⟩
 rw[<- hY]at e1 e2 hid hci hcs
 obtain⟨V,hV⟩:∃V,V=Y.run t 84:=⟨_,rfl⟩
 rw[<- hV]at e1 hid
 have eY:(bif inT (t:Int)then Sh.call Z (Int.toNat (t:Int)) u3 v3 x3 else Z)=Y:=by rw[hT1,Int.toNat_natCast];exact hY.symm
 have eV:Sh.runA Y (t:Int) 1000=V:=by unfold Sh.runA;rw[hT1,Int.toNat_natCast];exact e1
 refine⟨⟨by decide,by decide⟩,(Z,((t:Int),⟨u3,v3,x3⟩),G),rfl,rfl,⟨CallOK.of F hs3,hT1,(by show (Z.w (Int.toNat (t:Int))).does=0;rw[Int.toNat_natCast];exact hp t ht4),ho⟩,fun y _=>⟨(Y,((t:Int),1000),y.1),rfl,abGo y.1 eY,⟨fun _=>(by show RunOK Y (Int.toNat (t:Int)) 1000;rw[Int.toNat_natCast];exact RunOK.of hci ht4 (by omega) 1000),hT1,rfl⟩,fun y2 _=>?_⟩⟩
 dsimp only
 rw[Int.toNat_natCast,show Int.toNat (1000:Int)=1000 from rfl,e2]
 exact Qr (fun _=>⟨(V,t,y2.1),rfl,abGo y2.1 eV,ht4,fun _ _=>svB (beq_iff_eq.2 hid)⟩) (fun h=>absurd (by decide) h)
end Go.Proofs.YtinijfhoenajkaaGreatDoor
