/- ShopGoes: the walk of the law. -/
import Derived.Test.YtinijfhoenajkaaGreatDoorZG6
namespace Go.Proofs.YtinijfhoenajkaaGreatDoor
open Go.RowKit
set_option linter.unusedVariables false
set_option maxRecDepth 100000
set_option maxHeartbeats 4000000
/-- The object of the record that counts. -/
theorem obj17 {K:Int}{z:Sh}{g:Gh}(F:FinI K z g) (hs:z.steps<100000000):toN 17 (fun i=>bif decide (1+i<32)then z.cur (1+i)else 0)=g.R.obj:=by
 have hS:=F.i.gl.sumR
 have hcb:=F.i.gl.cb
 have hB:(z.deeds.length:Int)<=1099511627776:=by omega
 have hcur:∀j,j<32->z.cur j=fL g.R.words j:=fun j hj=>F.cur hj
 have hR:=RecW.of hS.ok hB (f:=fun j=>bif decide (j<32)then z.cur j else 0) (Qfq hS.ok (fun j hj=>by show (bif decide (j<32)then z.cur j else 0)=_;rw[decide_eq_true hj];exact hcur j hj))
 exact (QqI _).symm.trans (congrArg Rec.obj hR.2)
structure GoG (K:Int) where
 i:Nat
 S:Sh
 g:Gh
 F:List Nat
 hi:i<=4
 h:Rest K i S g
 s:S.steps<=120001+100*(i:Int)
def annGo (K:Int):Ann where
 σ:=GoG K
 I g:=([(0,sv (.int .i64 K)),(7,.o (.c (.p 0 0))),(8,sv (.int .i64 g.i))],[.abs (Qz shM ShS.z ShS.good g.S) g.F])
 dec g:=4-g.i
 pi env _:=[blkE env 7]
 nz:=[]
structure Go2 (K:Int) where
 S:Sh
 g:Gh
 F:List Nat
 h:Rest K 4 S g
 s:S.steps<=120401
 m:Nat
 c:Nat
 nn:Bool
 f:Nat->Nat->Int
 hm:S.deeds.length<=m/\m<=c
 hz:IsR 6 Dd.at Dd.nil f (S.deeds.map Vd.d)
 j:Nat
 hj:j<=S.deeds.length
 Q:Sh
 q:Gh
 G:List Nat
 o:One K j (lgC K (S.deeds.map Vd.d) j) Q q
def annGo2 (K:Int):Ann where
 σ:=Go2 K
 I g:=([(7,.o (.c (.p 0 0))),(9,.o (.c (.p 1 0))),(56,.o (.c (.so 2 0 6 g.S.deeds.length g.c g.nn))),(57,sv (.int .i64 g.S.deeds.length)),(58,sv (.int .i64 g.j))],[.abs (Qz shM ShS.z ShS.good g.S) g.F,.abs (Qz shM ShS.z ShS.good g.Q) g.G,rowsD g.m g.c g.f])
 dec g:=g.S.deeds.length-g.j
 pi env _:=[blkE env 7,blkE env 9,blkE env 56]
 nz:=[]
def tabLz:Tab:=[(3,.one (.int .i64 0) (.int .i64)),
 (52,.one (.int .u64 0) (.int .u64)),
 (4,.one (.bool false) .bool),
 (25,.one (.pointer none) (.ptr 89)),
 (54,.str [.one (.v (.int .i64 0)),.one (.v (.int .i64 0)),.one (.v (.int .i64 0)),.one (.v (.int .i64 0)),.one (.v (.int .i64 0)),.one (.v (.int .i64 0)),.one (.v (.int .u64 0))] [(0,1,false),(1,1,false),(2,3,true),(5,1,false),(6,1,false)]),
 (22,.one (.slice none 0 0) (.slice 54)),
 (31,.str [.one (.v (.int .i64 0)),.one (.v (.int .i64 0)),.one (.v (.int .i64 0))] [(0,1,false),(1,1,false),(2,1,false)]),
 (33,.str [.one (.v (.int .i64 0)),.one (.v (.int .i64 0))] [(0,1,false),(1,1,false)]),
 (40,.one (.nilIface) .iface),
 (97,.one (.int .i64 0) (.int .i64)),
 (35,.str [.one (.v (.int .i64 0)),.one (.v (.int .i64 0)),.one (.v (.int .i64 0)),.one (.v (.int .i64 0)),.one (.v (.int .i64 0)),.one (.v (.int .i64 0)),.one (.v (.int .i64 0)),.one (.v (.int .i64 0)),.one (.v (.int .i64 0))] [(0,1,false),(1,1,false),(2,3,true),(5,2,true),(7,1,false),(8,1,false)]),
 (28,.one (.slice none 0 0) (.slice 35)),
 (65,.str [.one (.v (.int .i64 0)),.one (.v (.int .i64 0)),.one (.v (.int .i64 0)),.one (.v (.int .i64 0)),.one (.v (.int .i64 0)),.one (.v (.int .i64 0))] [(0,1,false),(1,3,true),(4,2,true)]),
 (48,.one (.slice none 0 0) (.slice 65)),
 (60,.arr [.ints (.int .u64) 32 (fun _=>0)] 32 1 false),
 (71,.arr [.ints (.int .u64) 17 (fun _=>0)] 17 1 false)]
theorem tabLz_ok:TabOk Tryz.prog tabLz:=.cons (⟨by kernel_rfl,by kernel_rfl,by kernel_rfl,by kernel_rfl,by kernel_rfl⟩) (.cons (⟨by kernel_rfl,by kernel_rfl,by kernel_rfl,by kernel_rfl,by kernel_rfl⟩) (.cons (⟨by kernel_rfl,by kernel_rfl,by kernel_rfl,by kernel_rfl,by kernel_rfl⟩) (.cons (⟨by kernel_rfl,by kernel_rfl,by kernel_rfl,by kernel_rfl,by kernel_rfl⟩) (.cons (⟨by kernel_rfl,by kernel_rfl,by kernel_rfl,by kernel_rfl⟩) (.cons (⟨by kernel_rfl,by kernel_rfl,by kernel_rfl,by kernel_rfl,by kernel_rfl⟩) (.cons (⟨by kernel_rfl,by kernel_rfl,by kernel_rfl,by kernel_rfl⟩) (.cons (⟨by kernel_rfl,by kernel_rfl,by kernel_rfl,by kernel_rfl⟩) (.cons (⟨by kernel_rfl,by kernel_rfl,by kernel_rfl,by kernel_rfl,by kernel_rfl⟩) (.cons (⟨by kernel_rfl,by kernel_rfl,by kernel_rfl,by kernel_rfl,by kernel_rfl⟩) (.cons (⟨by kernel_rfl,by kernel_rfl,by kernel_rfl,by kernel_rfl⟩) (.cons (⟨by kernel_rfl,by kernel_rfl,by kernel_rfl,by kernel_rfl,by kernel_rfl⟩) (.cons (⟨by kernel_rfl,by kernel_rfl,by kernel_rfl,by kernel_rfl⟩) (.cons (⟨by kernel_rfl,by kernel_rfl,by kernel_rfl,by kernel_rfl,by kernel_rfl⟩) (.cons (⟨by kernel_rfl,by kernel_rfl,by kernel_rfl,by kernel_rfl⟩) (.cons (⟨by kernel_rfl,by kernel_rfl,by kernel_rfl,by kernel_rfl⟩) (TabOk.nil _))))))))))))))))
theorem tabLz_tys:TysOk Tryz.prog tabLz:=TysOk.of (by kernel_rfl) (by kernel_rfl)
theorem walk_ShopGoes (a0:Int) (a1:Option Addr) (len1 cap1:Nat) (z1:Nat->Nat->Int) (a2:Int) (W:World) (hE:ErrType W) (w0:(Lit.int .i64 a0).wf=true) (w1:MvIn W a1 len1 cap1 z1) (w2:(Lit.int .u64 a2).wf=true):
 Calls Tryz.prog 14 #[.int .i64 a0,.slice a1 len1 cap1,.int .u64 a2] W fun e w'=>e=.returned (.bool true)/\Below W.heap.size W w':=by
 refine QqH (AG:=[(14,[(0,annGo (1+QgX a0 6)),(2,annGo2 (1+QgX a0 6))])]) (Γ:=[(15,.pure Qhn),(16,.inl Tryz.f16 (Tryz.f16.body.getD .skip)),(18,.pure QfZ),(17,.inl Tryz.f17 (Tryz.f17.body.getD .skip)),(45,.mem (Qi8 W)),(39,.pure QcG),(42,.mem craC.sh),(24,.mem runG.sh),(43,.mem Qja),(27,.mem ddsC.sh),(23,.mem Qq9.sh),(32,.mem recC.sh),(41,.pure Qbf)]) Tryz.func14 rfl tabLz_ok tabLz_tys
  (.cons (shops_con W _) (.cons (⟨by kernel_rfl,rfl,rfl⟩) (.cons (Qrn W _) (.cons (⟨by kernel_rfl,rfl,rfl⟩) (.cons (play_con W) (.cons (Qro W hE) (.cons (craH W _) (.cons (runGH W _) (.cons (newH W _) (.cons (ddsH W _) (.cons (callNH W _) (.cons (recH W _) (.cons (Qfy W _) (.nil _ _ _))))))))))))))
  [.c (.v (.int .i64 a0)),.c (.r a1 len1 cap1 len1 7 mvK z1),.c (.v (.int .u64 a2))] (.bool true) 400 rfl ?_ rfl
 refine Qj (q:=True/\True/\bif bif decide ((↑len1:Int)<=(120:Int))then false else true then SV.o (aB true)=SV.o (aB true)else True/\∃(s:PlS),[aI ((1:Int)+QgX a0 (6:Int)),SA.c (.r a1 len1 cap1 len1 7 (fun (j:Nat)=>bif Nat.beq j 6 then .u64 else .i64) z1)]=[aI s.1,SA.c (.r s.2 s.3 s.4 s.3 7 (fun (j:Nat)=>bif Nat.beq j 6 then .u64 else .i64) s.5)]/\eN/\(((1:Int)<=s.1/\s.1<=(6:Int))/\s.3<=3000/\Rws 7 mvK W (PlS.a s) (PlS.n s) s.4 s.5/\∀(i:Nat),i<s.3->U64 (s.5 i 6))/\∀(x:List Nat),True->∃(s_1:Sh × Int × List Nat),[aP 0 0,aU a2]=[aP 0 0,aU s_1.2.1]/\[SB.abs (Qz shM ShS.z ShS.good (XY s.1 (mvL s.5 s.3))) x]=[SB.abs (Qz shM ShS.z ShS.good s_1.1) s_1.2.2]/\Qlx s_1.1 s_1.2.1/\∀(x:List Nat × Unit),True->(∃(s0:Ann.σ (annGo ((1:Int)+QgX a0 (6:Int)))),(eS (aI ((1:Int)+QgX a0 (6:Int))) (aI ((1:Int)+QgX a0 (6:Int)))/\eS (aP 0 0) (aP 0 0)/\eS (aI 0) (aI ↑s0.1)/\True)/\[SB.abs (Qz shM ShS.z ShS.good (Sh.crash s_1.1 s_1.2.1)) x.1]=[SB.abs (Qz shM ShS.z ShS.good s0.2) s0.4])/\∀(s:GoG ((1:Int)+QgX a0 (6:Int))),bif decide ((↑s.1:Int)<(4:Int))then ∃(s_2:Sh × (Int × Int) × List Nat),[aP 0 0,aI ↑s.1,aI 100]=[aP 0 0,aI s_2.2.1.1,aI s_2.2.1.2]/\[SB.abs (Qz shM ShS.z ShS.good s.2) s.4]=[SB.abs (Qz shM ShS.z ShS.good s_2.1) s_2.2.2]/\((inT s_2.2.1.1=true->RunOK s_2.1 (Int.toNat s_2.2.1.1) s_2.2.1.2)/\inT s_2.2.1.1=true/\runB s_2.2.1.2=true)/\∀(x:List Nat × Unit),True->∃(s':GoG ((1:Int)+QgX a0 (6:Int))),((eS (aI ((1:Int)+QgX a0 (6:Int))) (aI ((1:Int)+QgX a0 (6:Int)))/\eS (aP 0 0) (aP 0 0)/\eS (aI (IntKind.wrap .i64 ((↑s.1:Int)+(1:Int)))) (aI ↑s'.1)/\True)/\[SB.abs (Qz shM ShS.z ShS.good (Sh.runA s_2.1 s_2.2.1.1 s_2.2.1.2)) x.1]=[SB.abs (Qz shM ShS.z ShS.good s'.2) s'.4])/\4-s'.1<4-s.1 else ∃(s_2:NewS),[aI ((1:Int)+QgX a0 (6:Int))]=[aI s_2.1]/\eN/\((1:Int)<=s_2.1/\s_2.1<=(6:Int))/\∀(x:List Nat),True->∃(s_3:Sh × Unit × List Nat),[aP 0 0]=[aP 0 0]/\[SB.abs (Qz shM ShS.z ShS.good s.2) s.4]=[SB.abs (Qz shM ShS.z ShS.good s_3.1) s_3.2.2]/\List.length s_3.1.7<=1000000000/\∀(x_1:List Nat × RwR),(List.length s_3.1.7<=x_1.2.1/\x_1.2.1<=x_1.2.2)/\IsR 6 Dd.at Dd.nil x_1.2.4 (List.map (fun (self:Vd)=>self.2) s_3.1.7)->List.length s_3.1.7<=x_1.2.2/\(∃(s0:Ann.σ (annGo2 ((1:Int)+QgX a0 (6:Int)))),(eS (aP 0 0) (aP 0 0)/\eS (aP 1 0) (aP 1 0)/\eS (SA.c (.so 2 0 6 (List.length s_3.1.7) x_1.2.2 x_1.2.3)) (SA.c (.so 2 0 6 (List.length (Go2.S s0).7) s0.7 s0.8))/\eS (aI (↑(List.length s_3.1.7):Int)) (aI (↑(List.length (Go2.S s0).7):Int))/\eS (aI 0) (aI ↑s0.12)/\True)/\[SB.abs (Qz shM ShS.z ShS.good s_3.1) x_1.1,SB.abs (Qz shM ShS.z ShS.good (Sh.new s_2.1)) x,wkD x_1.2.1 x_1.2.2 x_1.2.4]=[SB.abs (Qz shM ShS.z ShS.good s0.1) s0.3,SB.abs (Qz shM ShS.z ShS.good s0.14) s0.16,wkD s0.6 s0.7 s0.9])/\∀(s:Go2 ((1:Int)+QgX a0 (6:Int))),bif decide ((↑s.12:Int)<(↑(List.length (Go2.S s).7):Int))then ((0:Int)<=(↑s.12:Int)/\(↑s.12:Int)<(↑(List.length (Go2.S s).7):Int)/\0+List.length (Go2.S s).7<=s.7)/\0+Int.toNat (↑s.12:Int)<s.6/\∃(s_4:Sh × (Int × OpA) × List Nat),[aP 1 0,aI 0,SA.a [sI (s.9 (0+Int.toNat (↑s.12:Int)) 1),sI (s.9 (0+Int.toNat (↑s.12:Int)) 2),sI (s.9 (0+Int.toNat (↑s.12:Int)) 3)]]=[aP 1 0,aI s_4.2.1.1,SA.a [sI s_4.2.1.2.1,sI s_4.2.1.2.2,sI s_4.2.1.2.3]]/\[SB.abs (Qz shM ShS.z ShS.good s.14) s.16]=[SB.abs (Qz shM ShS.z ShS.good s_4.1) s_4.2.2]/\(CallOK s_4.1/\inT s_4.2.1.1=true/\(Sh.w s_4.1 (Int.toNat s_4.2.1.1)).2=(0:Int)/\opOk s_4.2.1.2.1 s_4.2.1.2.2 s_4.2.1.2.3=true)/\∀(x:List Nat × Unit),True->∃(s_5:Sh × (Int × Int) × List Nat),[aP 1 0,aI 0,aI 100]=[aP 1 0,aI s_5.2.1.1,aI s_5.2.1.2]/\[SB.abs (Qz shM ShS.z ShS.good (bif inT s_4.2.1.1 then Sh.call s_4.1 (Int.toNat s_4.2.1.1) s_4.2.1.2.1 s_4.2.1.2.2 s_4.2.1.2.3 else s_4.1)) x.1]=[SB.abs (Qz shM ShS.z ShS.good s_5.1) s_5.2.2]/\((inT s_5.2.1.1=true->RunOK s_5.1 (Int.toNat s_5.2.1.1) s_5.2.1.2)/\inT s_5.2.1.1=true/\runB s_5.2.1.2=true)/\∀(x:List Nat × Unit),True->∃(s':Go2 ((1:Int)+QgX a0 (6:Int))),((eS (aP 0 0) (aP 0 0)/\eS (aP 1 0) (aP 1 0)/\eS (SA.c (.so 2 0 6 (List.length (Go2.S s).7) s.7 s.8)) (SA.c (.so 2 0 6 (List.length (Go2.S s').7) s'.7 s'.8))/\eS (aI (↑(List.length (Go2.S s).7):Int)) (aI (↑(List.length (Go2.S s').7):Int))/\eS (aI (IntKind.wrap .i64 ((↑s.12:Int)+(1:Int)))) (aI ↑s'.12)/\True)/\[SB.abs (Qz shM ShS.z ShS.good s.1) s.3,SB.abs (Qz shM ShS.z ShS.good (Sh.runA s_5.1 s_5.2.1.1 s_5.2.1.2)) x.1,wkD s.6 s.7 s.9]=[SB.abs (Qz shM ShS.z ShS.good s'.1) s'.3,SB.abs (Qz shM ShS.z ShS.good s'.14) s'.16,wkD s'.6 s'.7 s'.9])/\List.length (Go2.S s').7-s'.12<List.length (Go2.S s).7-s.12 else ∃(s_4:Sh × Unit × List Nat),[aP 1 0]=[aP 1 0]/\[SB.abs (Qz shM ShS.z ShS.good s.14) s.16]=[SB.abs (Qz shM ShS.z ShS.good s_4.1) s_4.2.2]/\((0:Int)<=(Sh.s s_4.1).1 0/\(Sh.s s_4.1).1 0<(1000000000:Int))/\∀(x:List Nat × Unit),True->32=32/\∃(s_5:Sh × Unit × List Nat),[aP 0 0]=[aP 0 0]/\[SB.abs (Qz shM ShS.z ShS.good s.1) s.3]=[SB.abs (Qz shM ShS.z ShS.good s_5.1) s_5.2.2]/\((0:Int)<=(Sh.s s_5.1).1 0/\(Sh.s s_5.1).1 0<(1000000000:Int))/\∀(x_2:List Nat × Unit),True->32=32/\bif bif decide ([fL (toN 17 fun (i:Nat)=>bif decide (1+i<32)then Sh.cur s_4.1 (1+i)else (0:Int)) 0,fL (toN 17 fun (i:Nat)=>bif decide (1+i<32)then Sh.cur s_4.1 (1+i)else (0:Int)) 1,fL (toN 17 fun (i:Nat)=>bif decide (1+i<32)then Sh.cur s_4.1 (1+i)else (0:Int)) 2,fL (toN 17 fun (i:Nat)=>bif decide (1+i<32)then Sh.cur s_4.1 (1+i)else (0:Int)) 3,fL (toN 17 fun (i:Nat)=>bif decide (1+i<32)then Sh.cur s_4.1 (1+i)else (0:Int)) 4,fL (toN 17 fun (i:Nat)=>bif decide (1+i<32)then Sh.cur s_4.1 (1+i)else (0:Int)) 5,fL (toN 17 fun (i:Nat)=>bif decide (1+i<32)then Sh.cur s_4.1 (1+i)else (0:Int)) 6,fL (toN 17 fun (i:Nat)=>bif decide (1+i<32)then Sh.cur s_4.1 (1+i)else (0:Int)) 7,fL (toN 17 fun (i:Nat)=>bif decide (1+i<32)then Sh.cur s_4.1 (1+i)else (0:Int)) 8,fL (toN 17 fun (i:Nat)=>bif decide (1+i<32)then Sh.cur s_4.1 (1+i)else (0:Int)) 9,fL (toN 17 fun (i:Nat)=>bif decide (1+i<32)then Sh.cur s_4.1 (1+i)else (0:Int)) 10,fL (toN 17 fun (i:Nat)=>bif decide (1+i<32)then Sh.cur s_4.1 (1+i)else (0:Int)) 11,fL (toN 17 fun (i:Nat)=>bif decide (1+i<32)then Sh.cur s_4.1 (1+i)else (0:Int)) 12,fL (toN 17 fun (i:Nat)=>bif decide (1+i<32)then Sh.cur s_4.1 (1+i)else (0:Int)) 13,fL (toN 17 fun (i:Nat)=>bif decide (1+i<32)then Sh.cur s_4.1 (1+i)else (0:Int)) 14,fL (toN 17 fun (i:Nat)=>bif decide (1+i<32)then Sh.cur s_4.1 (1+i)else (0:Int)) 15,fL (toN 17 fun (i:Nat)=>bif decide (1+i<32)then Sh.cur s_4.1 (1+i)else (0:Int)) 16]=[fL (toN 17 fun (i:Nat)=>bif decide (1+i<32)then Sh.cur s_5.1 (1+i)else (0:Int)) 0,fL (toN 17 fun (i:Nat)=>bif decide (1+i<32)then Sh.cur s_5.1 (1+i)else (0:Int)) 1,fL (toN 17 fun (i:Nat)=>bif decide (1+i<32)then Sh.cur s_5.1 (1+i)else (0:Int)) 2,fL (toN 17 fun (i:Nat)=>bif decide (1+i<32)then Sh.cur s_5.1 (1+i)else (0:Int)) 3,fL (toN 17 fun (i:Nat)=>bif decide (1+i<32)then Sh.cur s_5.1 (1+i)else (0:Int)) 4,fL (toN 17 fun (i:Nat)=>bif decide (1+i<32)then Sh.cur s_5.1 (1+i)else (0:Int)) 5,fL (toN 17 fun (i:Nat)=>bif decide (1+i<32)then Sh.cur s_5.1 (1+i)else (0:Int)) 6,fL (toN 17 fun (i:Nat)=>bif decide (1+i<32)then Sh.cur s_5.1 (1+i)else (0:Int)) 7,fL (toN 17 fun (i:Nat)=>bif decide (1+i<32)then Sh.cur s_5.1 (1+i)else (0:Int)) 8,fL (toN 17 fun (i:Nat)=>bif decide (1+i<32)then Sh.cur s_5.1 (1+i)else (0:Int)) 9,fL (toN 17 fun (i:Nat)=>bif decide (1+i<32)then Sh.cur s_5.1 (1+i)else (0:Int)) 10,fL (toN 17 fun (i:Nat)=>bif decide (1+i<32)then Sh.cur s_5.1 (1+i)else (0:Int)) 11,fL (toN 17 fun (i:Nat)=>bif decide (1+i<32)then Sh.cur s_5.1 (1+i)else (0:Int)) 12,fL (toN 17 fun (i:Nat)=>bif decide (1+i<32)then Sh.cur s_5.1 (1+i)else (0:Int)) 13,fL (toN 17 fun (i:Nat)=>bif decide (1+i<32)then Sh.cur s_5.1 (1+i)else (0:Int)) 14,fL (toN 17 fun (i:Nat)=>bif decide (1+i<32)then Sh.cur s_5.1 (1+i)else (0:Int)) 15,fL (toN 17 fun (i:Nat)=>bif decide (1+i<32)then Sh.cur s_5.1 (1+i)else (0:Int)) 16])then true else false then ∃(s:Sh × Unit × List Nat),[aP 1 0]=[aP 1 0]/\[SB.abs (Qz shM ShS.z ShS.good s_4.1) x.1]=[SB.abs (Qz shM ShS.z ShS.good s.1) s.2.2]/\List.length s.1.7<=1000000000/\∀(x:List Nat × RwR),(List.length s.1.7<=x.2.1/\x.2.1<=x.2.2)/\IsR 6 Dd.at Dd.nil x.2.4 (List.map (fun (self:Vd)=>self.2) s.1.7)->List.length s.1.7<=x.2.2/\∃(s_6:Sh × Unit × List Nat),[aP 0 0]=[aP 0 0]/\[SB.abs (Qz shM ShS.z ShS.good s_5.1) x_2.1]=[SB.abs (Qz shM ShS.z ShS.good s_6.1) s_6.2.2]/\List.length s_6.1.7<=1000000000/\∀(x:List Nat × RwR),(List.length s_6.1.7<=x.2.1/\x.2.1<=x.2.2)/\IsR 6 Dd.at Dd.nil x.2.4 (List.map (fun (self:Vd)=>self.2) s_6.1.7)->List.length s_6.1.7<=x.2.2/\SV.o (aB ((↑(List.length s.1.7):Int)==(↑(List.length s_6.1.7):Int)))=SV.o (aB true)else SV.o (aB false)=SV.o (aB true)) (by kernel_rfl) ?_
 have k1:1<=1+QgX a0 6:=by have:=QeO a0 6 (by decide);omega
 have k6:1+QgX a0 6<=6:=by have:=QjA a0 6 (by decide);omega
 generalize 1+QgX a0 6=K at k1 k6 ⊢
 refine⟨trivial,trivial,QnG (fun _=>rfl) (fun hh=>⟨trivial,⟨K,a1,len1,cap1,z1⟩,rfl,rfl,⟨⟨k1,k6⟩,(by show len1<=3000;omega),w1.1,w1.2⟩,fun x _=>?_⟩)⟩
 obtain⟨g,F2,hs⟩:=Qng k1 k6 len1 (mvL z1 len1) (QqM z1 len1) (by omega)
 have hs2:(XY K (mvL z1 len1)).steps<=120000:=by omega
 have F:=F2.fi
 have hL:=F.lens (by omega)
 have hT:=F.steps0
 have hI:=F.i
 generalize XY K (mvL z1 len1)=Z at *
 have hu:U64 a2:=wfU w2
 have hcr:=F.craOK (by omega) hu
 have R0:Rest K 0 (Z.crash a2) (g.crash Z a2):=⟨fin_crash F2 a2,noh_crash Z a2,fun u h=>absurd h (Nat.not_lt_zero _)⟩
 have hY0:(Z.crash a2).steps=Z.steps+1:=rfl
 refine⟨(Z,a2,x),rfl,rfl,hcr,fun y _=>⟨⟨⟨0,Z.crash a2,_,y.1,by decide,R0,by omega⟩,⟨rfl,rfl,rfl,trivial⟩,rfl⟩,?_⟩⟩
 rintro⟨i,S,gS,G,hi,hR,hS⟩
 dsimp only
 have FS:=hR.f.fi
 refine Qr (fun hlt=>?_) (fun hge=>?_)
 · have hi4:i<4:=by omega
   obtain⟨g',R',hr,hW⟩:=hR.next hi4 (by omega) (n:=100) (by decide)
   have hst:=(QbQ i 100 S).2
   have hT1:inT (i:Int)=true:=decide_eq_true (by omega)
   have eR:S.runA (i:Int) 100=S.run i 100:=by unfold Sh.runA;rw[hT1,Int.toNat_natCast];rfl
   exact⟨(S,((i:Int),100),G),rfl,rfl,⟨fun _=>(by show RunOK S (Int.toNat (i:Int)) 100;rw[Int.toNat_natCast];exact RunOK.of FS hi4 (by omega) _),hT1,rfl⟩,fun y2 _=>⟨⟨i+1,S.run i 100,g',y2.1,by omega,R',by omega⟩,⟨⟨rfl,rfl,svI (sucI (by omega)),trivial⟩,abGo y2.1 eR⟩,by dsimp only;omega⟩⟩
 obtain rfl:i=4:=by omega
 have hLS:=FS.lens (by omega)
 refine⟨⟨K⟩,rfl,rfl,⟨k1,k6⟩,fun y2 _=>⟨(S,(),G),rfl,rfl,hLS.2,fun y3 hy3=>⟨Nat.le_trans hy3.1.1 hy3.1.2,⟨⟨S,gS,y3.1,hR,by omega,y3.2.m,y3.2.c,y3.2.nn,y3.2.z,hy3.1,hy3.2,0,Nat.zero_le _,Sh.new K,Gh.new K,y2,One.new k1 k6⟩,⟨rfl,rfl,rfl,rfl,rfl,trivial⟩,rfl⟩,?_⟩⟩⟩
 clear hy3 hLS FS R0 hS hR hL hI hT F F2 hcr
 rintro⟨S,gS,G,hR,hS,m,c,nn,f,hm,hz,j,hj,Q,gQ,G2,hO⟩
 dsimp only
 have FS:=hR.f.fi
 have FQ:=hO.f.fi
 have hLS:=FS.lens (by omega)
 have hcb:=FS.i.gl.cb
 have hQs:=hO.s
 have hQl:=hO.l
 have hLQ:=FQ.lens (by omega)
 have e0 (j:Nat):0+(j:Int).toNat=j:=by rw[Int.toNat_natCast,Nat.zero_add]
 have hml:(S.deeds.map Vd.d).length=S.deeds.length:=List.length_map _
 rw[e0]
 refine Qr (fun hlt=>?_) (fun hge=>?_)
 · have hlt':j<S.deeds.length:=by omega
   have q1:f j 1=((S.deeds.map Vd.d).getD j Dd.nil).k:=hz j (by omega) 1 (by decide)
   have q2:f j 2=((S.deeds.map Vd.d).getD j Dd.nil).key:=hz j (by omega) 2 (by decide)
   have q3:f j 3=((S.deeds.map Vd.d).getD j Dd.nil).x:=hz j (by omega) 3 (by decide)
   have ho:opOk (f j 1) (f j 2) (f j 3)=true:=by rw[q1,q2,q3];exact (FS.i.gl.sumR.legal j (by omega)).op
   have e:lgC K (S.deeds.map Vd.d) (j+1)=(objR K (lgC K (S.deeds.map Vd.d) j) (f j 1) (f j 2) (f j 3)).1:=by rw[q1,q2,q3];rfl
   obtain⟨g',O'⟩:=hO.next (by omega) ho
   rw[<- e]at O'
   have hcs:=(Qc5 Q 0 (f j 1) (f j 2) (f j 3)).2
   exact⟨⟨by omega,hlt,by omega⟩,by omega,(Q,(0,⟨f j 1,f j 2,f j 3⟩),G2),rfl,rfl,⟨CallOK.of FQ (by show Q.steps<100000000;omega),rfl,hO.i 0 (by decide),ho⟩,fun y4 _=>⟨(Q.call 0 (f j 1) (f j 2) (f j 3),(0,100),y4.1),rfl,rfl,⟨fun _=>(RunOK.of (t:=0) (Qnk FQ (by decide) (f j 1) (f j 2) (f j 3)) (by decide) (by omega) 100:RunOK (Q.call 0 (f j 1) (f j 2) (f j 3)) 0 100),rfl,rfl⟩,fun y5 _=>⟨⟨S,gS,G,hR,hS,m,c,nn,f,hm,hz,j+1,hlt',(Q.call 0 (f j 1) (f j 2) (f j 3)).run 0 100,g',y5.1,O'⟩,⟨⟨rfl,rfl,rfl,rfl,svI (sucI (by omega)),trivial⟩,rfl⟩,by dsimp only;omega⟩⟩⟩
 · have hjn:j=S.deeds.length:=by omega
   have eo:gQ.R.obj=gS.R.obj:=by rw[hO.o,hjn];exact FS.i.gl.sumR.obj
   refine⟨(Q,(),G2),rfl,rfl,FQ.ver (by omega),fun y4 _=>⟨rfl,(S,(),G),rfl,rfl,FS.ver (by omega),fun y5 _=>⟨rfl,?_⟩⟩⟩
   dsimp only
   rw[obj17 FQ (by omega),obj17 FS (by omega),eo]
   exact by_tdec (fun _=>⟨(Q,(),y4.1),rfl,rfl,hLQ.2,fun y6 hy6=>⟨Nat.le_trans hy6.1.1 hy6.1.2,(S,(),y5.1),rfl,rfl,hLS.2,fun y7 hy7=>⟨Nat.le_trans hy7.1.1 hy7.1.2,svB (beq_iff_eq.2 (by dsimp only;omega))⟩⟩⟩) (fun h=>absurd rfl h)
end Go.Proofs.YtinijfhoenajkaaGreatDoor
