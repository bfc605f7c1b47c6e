/- ShopLater: the walk of the law. -/
import Derived.Test.YtinijfhoenajkaaGreatDoorZF5
namespace Go.Proofs.YtinijfhoenajkaaGreatDoor
open Go.RowKit
set_option linter.unusedVariables false
set_option maxRecDepth 100000
set_option maxHeartbeats 4000000
theorem mvL_cat {z1 z2:Nat->Nat->Int}{n:Nat}:∀(k:Nat),mvL (fun i j=>bif Nat.ble (i+1) n then z1 i j else z2 (i-n) j) (n+k)=mvL z1 n++mvL z2 k
 |0=>by
  have e:mvL z2 0=[]:=rfl
  rw[Nat.add_zero,e,List.append_nil]
  unfold mvL
  refine List.map_congr_left fun i hi=>?_
  have hi:i+1<=n:=List.mem_range.1 hi
  unfold mvAt
  simp only[Nat.ble_eq_true_of_le hi,cond_true]
 |k+1=>by
  rw[<- Nat.add_assoc,Qdt,Qdt,mvL_cat k,List.append_assoc]
  have hb:Nat.ble (n+k+1) n=false:=by
   cases h:Nat.ble (n+k+1) n
   · rfl
   · exact absurd (Nat.le_of_ble_eq_true h) (by omega)
  congr 3
  unfold mvAt
  simp only[hb,cond_false,Nat.add_sub_cancel_left]
def tabLz:Tab:=[(3,.one (.int .i64 0) (.int .i64)),
 (52,.one (.int .u64 0) (.int .u64)),
 (4,.one (.bool false) .bool),
 (25,.one (.pointer none) (.ptr 89)),
 (54,.str [.one (.v (.int .i64 0)),.one (.v (.int .i64 0)),.one (.v (.int .i64 0)),.one (.v (.int .i64 0)),.one (.v (.int .i64 0)),.one (.v (.int .i64 0)),.one (.v (.int .u64 0))] [(0,1,false),(1,1,false),(2,3,true),(5,1,false),(6,1,false)]),
 (22,.one (.slice none 0 0) (.slice 54)),
 (31,.str [.one (.v (.int .i64 0)),.one (.v (.int .i64 0)),.one (.v (.int .i64 0))] [(0,1,false),(1,1,false),(2,1,false)]),
 (33,.str [.one (.v (.int .i64 0)),.one (.v (.int .i64 0))] [(0,1,false),(1,1,false)]),
 (40,.one (.nilIface) .iface),
 (97,.one (.int .i64 0) (.int .i64)),
 (35,.str [.one (.v (.int .i64 0)),.one (.v (.int .i64 0)),.one (.v (.int .i64 0)),.one (.v (.int .i64 0)),.one (.v (.int .i64 0)),.one (.v (.int .i64 0)),.one (.v (.int .i64 0)),.one (.v (.int .i64 0)),.one (.v (.int .i64 0))] [(0,1,false),(1,1,false),(2,3,true),(5,2,true),(7,1,false),(8,1,false)]),
 (28,.one (.slice none 0 0) (.slice 35)),
 (65,.str [.one (.v (.int .i64 0)),.one (.v (.int .i64 0)),.one (.v (.int .i64 0)),.one (.v (.int .i64 0)),.one (.v (.int .i64 0)),.one (.v (.int .i64 0))] [(0,1,false),(1,3,true),(4,2,true)]),
 (48,.one (.slice none 0 0) (.slice 65)),
 (60,.arr [.ints (.int .u64) 32 (fun _=>0)] 32 1 false),
 (107,.one (.slice none 0 0) (.slice 22))]
theorem tabLz_ok:TabOk Tryz.prog tabLz:=.cons (⟨by kernel_rfl,by kernel_rfl,by kernel_rfl,by kernel_rfl,by kernel_rfl⟩) (.cons (⟨by kernel_rfl,by kernel_rfl,by kernel_rfl,by kernel_rfl,by kernel_rfl⟩) (.cons (⟨by kernel_rfl,by kernel_rfl,by kernel_rfl,by kernel_rfl,by kernel_rfl⟩) (.cons (⟨by kernel_rfl,by kernel_rfl,by kernel_rfl,by kernel_rfl,by kernel_rfl⟩) (.cons (⟨by kernel_rfl,by kernel_rfl,by kernel_rfl,by kernel_rfl⟩) (.cons (⟨by kernel_rfl,by kernel_rfl,by kernel_rfl,by kernel_rfl,by kernel_rfl⟩) (.cons (⟨by kernel_rfl,by kernel_rfl,by kernel_rfl,by kernel_rfl⟩) (.cons (⟨by kernel_rfl,by kernel_rfl,by kernel_rfl,by kernel_rfl⟩) (.cons (⟨by kernel_rfl,by kernel_rfl,by kernel_rfl,by kernel_rfl,by kernel_rfl⟩) (.cons (⟨by kernel_rfl,by kernel_rfl,by kernel_rfl,by kernel_rfl,by kernel_rfl⟩) (.cons (⟨by kernel_rfl,by kernel_rfl,by kernel_rfl,by kernel_rfl⟩) (.cons (⟨by kernel_rfl,by kernel_rfl,by kernel_rfl,by kernel_rfl,by kernel_rfl⟩) (.cons (⟨by kernel_rfl,by kernel_rfl,by kernel_rfl,by kernel_rfl⟩) (.cons (⟨by kernel_rfl,by kernel_rfl,by kernel_rfl,by kernel_rfl,by kernel_rfl⟩) (.cons (⟨by kernel_rfl,by kernel_rfl,by kernel_rfl,by kernel_rfl⟩) (.cons (⟨by kernel_rfl,by kernel_rfl,by kernel_rfl,by kernel_rfl,by kernel_rfl⟩) (TabOk.nil _))))))))))))))))
theorem tabLz_tys:TysOk Tryz.prog tabLz:=TysOk.of (by kernel_rfl) (by kernel_rfl)
theorem walk_ShopLater (a0:Int) (a1:Option Addr) (len1 cap1:Nat) (z1:Nat->Nat->Int) (a2:Option Addr) (len2 cap2:Nat) (z2:Nat->Nat->Int) (W:World) (hE:ErrType W) (w0:(Lit.int .i64 a0).wf=true) (w1:MvIn W a1 len1 cap1 z1) (w2:MvIn W a2 len2 cap2 z2):
 Calls Tryz.prog 10 #[.int .i64 a0,.slice a1 len1 cap1,.slice a2 len2 cap2] W fun e w'=>e=.returned (.bool true)/\Below W.heap.size W w':=by
 refine Qpz (AG:=[]) (Γ:=[(15,.pure QgU),(16,.inl Tryz.f16 (Tryz.f16.body.getD .skip)),(18,.pure Qfy),(17,.inl Tryz.f17 (Tryz.f17.body.getD .skip)),(45,.mem (Qoq W)),(45,.mem QgV),(38,.inl Tryz.f38 (Tryz.f38.body.getD .skip)),(54,.rd Qjs),(19,.mem hisC.sh),(31,.mem QfA)]) Tryz.func10 rfl tabLz_ok tabLz_tys
  (.cons (shops_con W _) (.cons (⟨by kernel_rfl,rfl,rfl⟩) (.cons (Qqc W _) (.cons (⟨by kernel_rfl,rfl,rfl⟩) (.cons (playR_con W) (.cons (playO_con W _) (.cons (⟨by kernel_rfl,rfl,rfl⟩) (.cons (growM_con W _) (.cons (hisH W _) (.cons (eqrE_con W _) (.nil _ _ _)))))))))))
  [.c (.v (.int .i64 a0)),.c (.r a1 len1 cap1 len1 7 mvK z1),.c (.r a2 len2 cap2 len2 7 mvK z2)] (.bool true) 1200 rfl ?_ rfl
 refine Qj (q:=True/\bif bif decide ((↑len1:Int)<=(120:Int))then false else true then SV.o (aB true)=SV.o (aB true)else bif bif decide ((↑len2:Int)<=(120:Int))then false else true then SV.o (aB true)=SV.o (aB true)else True/\∃(s:PlS),[aI ((1:Int)+Qgt a0 (6:Int)),SA.c (.r a1 len1 cap1 len1 7 (fun (j:Nat)=>bif Nat.beq j 6 then .u64 else .i64) z1)]=[aI s.1,SA.c (.r s.2 s.3 s.4 s.3 7 (fun (j:Nat)=>bif Nat.beq j 6 then .u64 else .i64) s.5)]/\eN/\(((1:Int)<=s.1/\s.1<=(6:Int))/\s.3<=3000/\Rws 7 mvK W (PlS.a s) (PlS.n s) s.4 s.5/\∀(i:Nat),i<s.3->U64 (s.5 i 6))/\∀(x:List Nat),True->(iR (0:Int) (2:Int))/\bif decide (IntKind.wrap .i64 ((0:Int)+(↑len1:Int))<(0:Int))then QdZ (Oper.mk (some 21) (Op.makeInterface 9 (Operand.const (Value.string (ByteArray.mk #[(108:UInt8),(101:UInt8),(110:UInt8),(32:UInt8),(111:UInt8),(117:UInt8),(116:UInt8),(32:UInt8),(111:UInt8),(102:UInt8),(32:UInt8),(114:UInt8),(97:UInt8),(110:UInt8),(103:UInt8),(101:UInt8)])))) 20 "slices.go:496" #[] none)else (iR (1:Int) (2:Int))/\bif decide (IntKind.wrap .i64 (IntKind.wrap .i64 ((0:Int)+(↑len1:Int))+(↑len2:Int))<(0:Int))then QdZ (Oper.mk (some 21) (Op.makeInterface 9 (Operand.const (Value.string (ByteArray.mk #[(108:UInt8),(101:UInt8),(110:UInt8),(32:UInt8),(111:UInt8),(117:UInt8),(116:UInt8),(32:UInt8),(111:UInt8),(102:UInt8),(32:UInt8),(114:UInt8),(97:UInt8),(110:UInt8),(103:UInt8),(101:UInt8)])))) 20 "slices.go:496" #[] none)else ∃(s_1:Nat),[SA.c (.v (.slice none 0 0)),aI (IntKind.wrap .i64 (IntKind.wrap .i64 ((0:Int)+(↑len1:Int))+(↑len2:Int)))]=[SA.c (.v (.slice none 0 0)),aI ↑s_1]/\eN/\s_1<=1000/\∀(x_1:GrRM),True->(iR (0:Int) (2:Int))/\((0<=0/\x_1.1=x_1.1)/\(Rws (TyI.size (TyI.str [sI 0,sI 0,sI 0,sI 0,sI 0,sI 0,sU 0] [(0,1,false),(1,1,false),(2,3,true),(5,1,false),(6,1,false)])) (fun (j:Nat)=>bif Nat.beq j 6 then .u64 else .i64) W a1 len1 cap1 z1/\len1<=len1)/\0+len1<=68719476736)/\∀(c:Nat),0+len1<=c->(iR (1:Int) (2:Int))/\((0+len1<=0+len1/\c=c)/\(Rws (TyI.size (TyI.str [sI 0,sI 0,sI 0,sI 0,sI 0,sI 0,sU 0] [(0,1,false),(1,1,false),(2,3,true),(5,1,false),(6,1,false)])) (fun (j:Nat)=>bif Nat.beq j 6 then .u64 else .i64) W a2 len2 cap2 z2/\len2<=len2)/\0+len1+len2<=68719476736)/\∀(c:Nat),0+len1+len2<=c->∃(s_2:PlO),[aI ((1:Int)+Qgt a0 (6:Int)),SA.c (.so 4 0 7 (0+len1+len2) c x_1.2)]=[aI s_2.1,SA.c (.so 4 0 7 s_2.2 s_2.4 s_2.5)]/\[SB.rows 54 [.int .i64,.int .i64,.int .i64,.int .i64,.int .i64,.int .i64,.int .u64] 7 (0+len1+len2) c fun (i j:Nat)=>bif Nat.ble (i+1) (0+len1)then z1 i j else z2 (i-(0+len1)) j]=[SB.rows 54 [.int .i64,.int .i64,.int .i64,.int .i64,.int .i64,.int .i64,.int .u64] 7 s_2.3 s_2.4 s_2.6]/\(((1:Int)<=s_2.1/\s_2.1<=(6:Int))/\s_2.2<=3000/\(s_2.2<=s_2.3/\s_2.3<=s_2.4)/\∀(i:Nat),i<s_2.2->U64 (s_2.6 i 6))/\∀(x_2:List Nat),True->∃(s_3:Sh × Unit × List Nat),[aP 0 0]=[aP 0 0]/\[SB.abs (Qr shM ShS.z ShS.good (QW s.1 (mvL s.5 s.3))) x]=[SB.abs (Qr shM ShS.z ShS.good s_3.1) s_3.2.2]/\List.length s_3.1.6<=1000000000/\∀(x:List Nat × RwR),(List.length s_3.1.6<=x.2.1/\x.2.1<=x.2.2)/\IsE x.2.4 s_3.1.6->∃(s:Sh × Unit × List Nat),[aP 5 0]=[aP 5 0]/\[SB.abs (Qr shM ShS.z ShS.good (QW s_2.1 (mvL s_2.6 s_2.2))) x_2]=[SB.abs (Qr shM ShS.z ShS.good s.1) s.2.2]/\List.length s.1.6<=1000000000/\∀(x_3:List Nat × RwR),(List.length s.1.6<=x_3.2.1/\x_3.2.1<=x_3.2.2)/\IsE x_3.2.4 s.1.6->List.length s.1.6<=x_3.2.2/\List.length s_3.1.6<=x.2.2/\bif decide ((↑(List.length s.1.6):Int)>=(↑(List.length s_3.1.6):Int))then List.length s_3.1.6<=x.2.2/\((0:Int)<=(↑(List.length s_3.1.6):Int)/\(↑(List.length s_3.1.6):Int)<=(↑x_3.2.2:Int))/\∃(s:EqRS Ev),[SA.c (.so 7 0 9 (Int.toNat (↑(List.length s_3.1.6):Int)) x_3.2.2 x_3.2.3),SA.c (.so 6 0 9 (List.length s_3.1.6) x.2.2 x.2.3)]=[SA.c (.so 7 0 9 (List.length s.1) s.3 s.4),SA.c (.so 6 0 9 (List.length s.1) s.7 s.8)]/\[SB.rows 35 kI9 9 x_3.2.1 x_3.2.2 x_3.2.4,SB.rows 35 kI9 9 x.2.1 x.2.2 x.2.4]=[SB.rows 35 kI9 9 s.2 s.3 s.5,SB.rows 35 kI9 9 s.6 s.7 s.9]/\(List.length s.1<=1000000000/\(List.length s.1<=s.2/\s.2<=s.3)/\IsR 9 Ev.at Ev.nil s.5 s.1/\(List.length s.1<=s.6/\s.6<=s.7)/\IsR 9 Ev.at Ev.nil s.9 s.1)/\∀(x:Unit),True->SV.o (aB true)=SV.o (aB true)else SV.o (aB false)=SV.o (aB true)) (by kernel_rfl) ?_
 have k1:1<=1+Qgt a0 6:=by have:=Qeq a0 6 (by decide);omega
 have k6:1+Qgt a0 6<=6:=by have:=Qi4 a0 6 (by decide);omega
 generalize 1+Qgt a0 6=K at k1 k6 ⊢
 refine⟨trivial,QmQ (fun _=>rfl) (fun h1=>QmQ (fun _=>rfl) (fun h2=>⟨trivial,⟨K,a1,len1,cap1,z1⟩,rfl,rfl,⟨⟨k1,k6⟩,(by show len1<=3000;omega),w1.1,w1.2⟩,fun x _=>?_⟩))⟩
 dsimp only
 rw[show (0:Int)+(len1:Int)=(len1:Int) by omega,QC (x:=(len1:Int)) (by omega) (by omega),QC (x:=(len1:Int)+(len2:Int)) (by omega) (by omega),Nat.zero_add len1]
 refine⟨⟨by decide,by decide⟩,Qo (fun h=>absurd h (by omega)) (fun _=>⟨⟨by decide,by decide⟩,Qo (fun h=>absurd h (by omega)) (fun _=>⟨len1+len2,by rw[Int.natCast_add],rfl,by omega,?_⟩)⟩)⟩
 rintro⟨c0,n0⟩ -
 refine⟨⟨by decide,by decide⟩,⟨⟨Nat.le_refl _,rfl⟩,⟨w1.1,Nat.le_refl _⟩,by omega⟩,fun c3 hc3=>⟨⟨by decide,by decide⟩,⟨⟨Nat.le_refl _,rfl⟩,⟨w2.1,Nat.le_refl _⟩,by omega⟩,fun c4 hc4=>⟨⟨K,len1+len2,len1+len2,c4,n0,_⟩,rfl,rfl,⟨⟨k1,k6⟩,(by show len1+len2<=3000;omega),⟨Nat.le_refl _,hc4⟩,fun i hi=>?_⟩,fun x2 _=>?_⟩⟩⟩
 · have hi:i<len1+len2:=hi
   show U64 (bif Nat.ble (i+1) len1 then z1 i 6 else z2 (i-len1) 6)
   cases hb:Nat.ble (i+1) len1
   · have:¬i+1<=len1:=fun h=>by rw[Nat.ble_eq_true_of_le h]at hb;cases hb
     exact w2.2 _ (by omega)
   · exact w1.2 _ (Nat.le_of_ble_eq_true hb)
 have hcat:QW K (mvL (fun i j=>bif Nat.ble (i+1) len1 then z1 i j else z2 (i-len1) j) (len1+len2))=QW K (mvL z1 len1++mvL z2 len2):=by rw[mvL_cat]
 obtain⟨g,F,hs⟩:=QgR k1 k6 len1 (mvL z1 len1) (QlM z1 len1) (by omega)
 obtain⟨g2,F2,hs2⟩:=QgR k1 k6 (len1+len2) (mvL z1 len1++mvL z2 len2) (by rw[List.length_append,QlM,QlM]) (by omega)
 have hp:=later K (mvL z1 len1) (mvL z2 len2)
 obtain⟨Y,hY⟩:∃Y,Y=QW K (mvL z1 len1++mvL z2 len2):=⟨_,rfl⟩
 obtain⟨Z,hZ⟩:∃Z,Z=QW K (mvL z1 len1):=⟨_,rfl⟩
 rw[<- hY]at F2 hs2 hp hcat
 rw[<- hZ]at F hs hp
 have hLZ:=F.lens (by omega)
 have hLY:=F2.lens (by omega)
 have hle:=hp.length_le
 have het:=List.prefix_iff_eq_take.1 hp
 refine⟨(Z,(),x),rfl,abGo x hZ.symm,hLZ.1,fun y hy=>⟨(Y,(),x2),rfl,abGo x2 hcat,hLY.1,fun y2 hy2=>?_⟩⟩
 dsimp only at hy hy2 ⊢
 have hI:IsR 9 Ev.at Ev.nil y2.2.z Z.hist:=by rw[het];exact IsR.take hy2.2 _
 have a1:=hy.1
 have a2:=hy2.1
 refine⟨Nat.le_trans a2.1 a2.2,Nat.le_trans a1.1 a1.2,Qo (fun _=>⟨Nat.le_trans a1.1 a1.2,⟨by omega,by omega⟩,⟨Z.hist,y2.2.m,y2.2.c,y2.2.nn,y2.2.z,y.2.m,y.2.c,y.2.nn,y.2.z⟩,?_,rfl,⟨hLZ.1,⟨by dsimp only;omega,a2.2⟩,hI,a1,hy.2⟩,fun _ _=>rfl⟩) (fun h=>absurd (by omega) h)⟩
 show [SA.c (.so 7 0 9 (Int.toNat (Z.hist.length:Int)) y2.2.c y2.2.nn),SA.c (.so 6 0 9 Z.hist.length y.2.c y.2.nn)]=_
 rw[Int.toNat_natCast]
end Go.Proofs.YtinijfhoenajkaaGreatDoor
