/- StoryCommas: the walk of the law. -/
import Derived.Test.YtflgoaogcenmpaaDoorZN2
import Derived.Handed
namespace Go.Proofs.YtflgoaogcenmpaaDoor
open Go.RowKit
set_option linter.unusedVariables false
set_option maxRecDepth 100000
set_option maxHeartbeats 4000000
theorem wfI64 {x:Int}(h:(Lit.int .i64 x).wf=true) : -9223372036854775808<=x/\x<=9223372036854775807:=by
 simp[Lit.wf,IntKind.min,IntKind.max,IntKind.bits,IntKind.signed]at h
 omega
def tabSc:Tab:=[(3,.one (.int .i64 0) (.int .i64)),
 (4,.one (.bool false) .bool),
 (9,.one (.string ⟨#[]⟩) .str),
 (24,.str [.one (.v (.int .i64 0)),.one (.v (.int .i64 0)),.one (.v (.int .i64 0))] [(0,1,false),(1,1,false),(2,1,false)]),
 (47,.str [.one (.v (.int .i64 0)),.one (.v (.int .i64 0))] [(0,1,false),(1,1,false)]),
 (49,.str [.one (.v (.int .i64 0)),.one (.v (.int .i64 0)),.one (.v (.int .i64 0)),.one (.v (.int .i64 0)),.one (.v (.int .i64 0)),.one (.v (.int .i64 0))] [(0,1,false),(1,3,true),(4,2,true)]),
 (22,.one (.slice none 0 0) (.slice 49)),
 (79,.one (.slice none 0 0) (.slice 22)),
 (73,.str [.one (.v (.int .i64 0)),.one (.v (.int .i64 0)),.one (.v (.int .i64 0)),.one (.v (.int .i64 0)),.one (.v (.int .i64 0)),.one (.v (.int .i64 0)),.one (.v (.int .i64 0)),.one (.v (.int .i64 0)),.one (.v (.int .i64 0))] [(0,1,false),(1,1,false),(2,3,true),(5,2,true),(7,1,false),(8,1,false)]),
 (42,.one (.nilIface) .iface),
 (64,.one (.int .i64 0) (.int .i64))]
theorem tabSc_ok:TabOk Tryd.prog tabSc:=.cons (⟨by kernel_rfl,by kernel_rfl,by kernel_rfl,by kernel_rfl,by kernel_rfl⟩) (.cons (⟨by kernel_rfl,by kernel_rfl,by kernel_rfl,by kernel_rfl,by kernel_rfl⟩) (.cons (⟨by kernel_rfl,by kernel_rfl,by kernel_rfl,by kernel_rfl,by kernel_rfl⟩) (.cons (⟨by kernel_rfl,by kernel_rfl,by kernel_rfl,by kernel_rfl⟩) (.cons (⟨by kernel_rfl,by kernel_rfl,by kernel_rfl,by kernel_rfl⟩) (.cons (⟨by kernel_rfl,by kernel_rfl,by kernel_rfl,by kernel_rfl⟩) (.cons (⟨by kernel_rfl,by kernel_rfl,by kernel_rfl,by kernel_rfl,by kernel_rfl⟩) (.cons (⟨by kernel_rfl,by kernel_rfl,by kernel_rfl,by kernel_rfl,by kernel_rfl⟩) (.cons (⟨by kernel_rfl,by kernel_rfl,by kernel_rfl,by kernel_rfl⟩) (.cons (⟨by kernel_rfl,by kernel_rfl,by kernel_rfl,by kernel_rfl,by kernel_rfl⟩) (.cons (⟨by kernel_rfl,by kernel_rfl,by kernel_rfl,by kernel_rfl,by kernel_rfl⟩) (TabOk.nil _)))))))))))
theorem tabSc_tys:TysOk Tryd.prog tabSc:=TysOk.of (by kernel_rfl) (by kernel_rfl)
theorem walk_StoryCommas (a0:Option Addr) (len0 cap0:Nat) (z0:Nat->Nat->Int) (a1:Option Addr) (len1 cap1:Nat) (z1:Nat->Nat->Int) (W:World) (hL:TxLaid W) (w0:RowIn 6 (fun _=>.i64) W a0 len0 cap0 z0) (w1:RowIn 6 (fun _=>.i64) W a1 len1 cap1 z1) (hs:len0<=reachBytes/\len1<=reachBytes):
 Calls Tryd.prog 4 #[.slice a0 len0 cap0,.slice a1 len1 cap1] W fun e w'=>e=.returned (.bool true)/\Below W.heap.size W w':=by
 refine Qf6 (AG:=[]) (Γ:=[(19,.inl Tryd.f19 (Tryd.f19.body.getD .skip)),(23,.pure QeX),(33,.inl Tryd.f33 (Tryd.f33.body.getD .skip)),(34,.pure Qct),(35,.pure Qat),(36,.pure QfD),(21,.inl Tryd.f21 (Tryd.f21.body.getD .skip)),(38,.rd QeY),(20,.rd QbF),(20,.pure (QaI W))]) Tryd.func4 rfl tabSc_ok tabSc_tys
  (.cons ⟨by kernel_rfl,rfl,rfl⟩ (.cons (put_con W _) (.cons ⟨by kernel_rfl,rfl,rfl⟩ (.cons (QdL W hL) (.cons (QdF W hL) (.cons (QfN W hL) (.cons ⟨by kernel_rfl,rfl,rfl⟩ (.cons (grow_con W _) (.cons (Qgo W hL) (.cons (Qgn W hL) (.nil _ _ _)))))))))))
  [.c (.r a0 len0 cap0 len0 6 (fun _=>.i64) z0),.c (.r a1 len1 cap1 len1 6 (fun _=>.i64) z1)] (.bool true) 1200 rfl ?_ rfl
 refine Qed (q:=True/\((-9223372036854775808:Int)<=(9:Int)/\(9:Int)<=(9223372036854775807:Int))/\2<=1099511627776/\9<=1099511627776/\((-9223372036854775808:Int)<=(2:Int)/\(2:Int)<=(9223372036854775807:Int))/\10<=1099511627776/\15<=1099511627776/\True/\20<=1099511627776/\22<=1099511627776/\True/\26<=1099511627776/\33<=1099511627776/\((-9223372036854775808:Int)<=(4:Int)/\(4:Int)<=(9223372036854775807:Int))/\34<=1099511627776/\dP Tryd.f33 6 1 [xE 21,xE 20,xE 19,xR 18 0,xF 17 0,xE 16,xE 15,xE 14,xR 13 0,xF 12 0,xE 11,xE 10,xE 9,xR 8 0,xF 7 0,xE 6,xE 5,xE 4,xR 3 0,xF 2 0,xE 1,xE 0]/\bif (↑len0:Int)==(0:Int)then SV.o (aB true)=SV.o (aB true)else bif (↑len1:Int)==(0:Int)then SV.o (aB true)=SV.o (aB true)else bif decide (IntKind.wrap .i64 ((↑len0:Int)+(↑len1:Int))>(40:Int))then SV.o (aB true)=SV.o (aB true)else (iR (0:Int) (2:Int))/\bif decide (IntKind.wrap .i64 ((0:Int)+(↑len0:Int))<(0:Int))then Qbi (Oper.mk none (Op.panic (Operand.tmp 21)) 0 "slices.go:496" #[Edge.mk 0 Ground.data] none)else (iR (1:Int) (2:Int))/\bif decide (IntKind.wrap .i64 (IntKind.wrap .i64 ((0:Int)+(↑len0:Int))+(↑len1:Int))<(0:Int))then Qbi (Oper.mk none (Op.panic (Operand.tmp 21)) 0 "slices.go:496" #[Edge.mk 0 Ground.data] none)else ∃(s:Nat),[SA.c (.v (.slice none 0 0)),aI (IntKind.wrap .i64 (IntKind.wrap .i64 ((0:Int)+(↑len0:Int))+(↑len1:Int)))]=[SA.c (.v (.slice none 0 0)),aI ↑s]/\eN/\s<=1000/\∀(x:GrR),True->(iR (0:Int) (2:Int))/\((0<=0/\x.1=x.1)/\(Rws (TyI.size (TyI.str [sI 0,sI 0,sI 0,sI 0,sI 0,sI 0] [(0,1,false),(1,3,true),(4,2,true)])) (fun (x:Nat)=>.i64) W a0 len0 cap0 z0/\len0<=len0)/\0+len0<=68719476736)/\∀(c:Nat),0+len0<=c->(iR (1:Int) (2:Int))/\((0+len0<=0+len0/\c=c)/\(Rws (TyI.size (TyI.str [sI 0,sI 0,sI 0,sI 0,sI 0,sI 0] [(0,1,false),(1,3,true),(4,2,true)])) (fun (x:Nat)=>.i64) W a1 len1 cap1 z1/\len1<=len1)/\0+len0+len1<=68719476736)/\∀(c:Nat),0+len0+len1<=c->∃(s:DsO),[SA.c (.so 4 0 6 (0+len0+len1) c x.2)]=[SA.c (.so 4 0 6 s.1 s.3 s.4)]/\[SB.rows 49 kI6 6 (0+len0+len1) c fun (i j:Nat)=>bif Nat.ble (i+1) (0+len0)then z0 i j else z1 (i-(0+len0)) j]=[SB.rows 49 kI6 6 s.2 s.3 s.5]/\(s.1<=40/\s.1<=s.2/\∀(i:Nat),i<s.1->(-9223372036854775808:Int)<=s.5 i 0/\s.5 i 0<=(9223372036854775807:Int))/\∀(x:Unit),True->(len0=len0/\6=6/\(isI64 fun (x:Nat)=>.i64)/\len0<=40/\Rws 6 (fun (x:Nat)=>.i64) W a0 len0 cap0 z0/\∀(i:Nat),i<len0->(-9223372036854775808:Int)<=z0 i 0/\z0 i 0<=(9223372036854775807:Int))/\ByteArray.size (bsV (Xo z0 len0))+2<=1099511627776/\(len1=len1/\6=6/\(isI64 fun (x:Nat)=>.i64)/\len1<=40/\Rws 6 (fun (x:Nat)=>.i64) W a1 len1 cap1 z1/\∀(i:Nat),i<len1->(-9223372036854775808:Int)<=z1 i 0/\z1 i 0<=(9223372036854775807:Int))/\ByteArray.size (ByteArray.instAppend.1 (bsV (Xo z0 len0)) (ByteArray.mk (Array.mk [(44:UInt8),(32:UInt8)])))+ByteArray.size (bsV (Xo z1 len1))<=1099511627776/\SV.o (aB (ByteArray.toList (bsV (Xo s.5 s.1))==ByteArray.toList (ByteArray.instAppend.1 (ByteArray.instAppend.1 (bsV (Xo z0 len0)) (ByteArray.mk (Array.mk [(44:UInt8),(32:UInt8)]))) (bsV (Xo z1 len1)))))=SV.o (aB true)) (by kernel_rfl) ?_
 have hs0:len0<=140737488351232:=hs.1
 have hs1:len1<=140737488351232:=hs.2
 have t0:ThIn len0 z0:=fun i hi=>wfI64 (w0.2 i hi 0 (by decide))
 have t1:ThIn len1 z1:=fun i hi=>wfI64 (w1.2 i hi 0 (by decide))
 rw[show (0:Int)+(len0:Int)=(len0:Int) by omega,wrapI (x:=(len0:Int)) (by omega) (by omega),wrapI (x:=(len0:Int)+(len1:Int)) (by omega) (by omega),Nat.zero_add len0]
 refine⟨trivial,⟨by decide,by decide⟩,by decide,by decide,⟨by decide,by decide⟩,by decide,by decide,trivial,by decide,by decide,trivial,by decide,by decide,⟨by decide,by decide⟩,by decide,Qcr (by kernel_rfl),by_beq (fun _=>rfl) (fun e0=>by_beq (fun _=>rfl) (fun e1=>QdT (fun _=>rfl) (fun h40=>?_)))⟩
 have hn:len0+len1<=40:=by omega
 have d0:Xo z0 len0=Xo z0 len0:=rfl
 have l0:=Qb4 (z:=z0) (n:=len0) t0
 have l1:=Qb4 (z:=z1) (n:=len1) t1
 have hcat:=Qgp z0 z1 (n:=len0) (k:=len1) (by omega) (by omega)
 refine⟨⟨by decide,by decide⟩,QdT (fun h=>absurd h (by omega)) (fun _=>⟨⟨by decide,by decide⟩,QdT (fun h=>absurd h (by omega)) (fun _=>⟨len0+len1,by rw[Int.natCast_add],rfl,by omega,?_⟩)⟩)⟩
 rintro⟨c0,n0⟩ -
 refine⟨⟨by decide,by decide⟩,⟨⟨Nat.le_refl _,rfl⟩,⟨w0.1,Nat.le_refl _⟩,by omega⟩,fun c3 hc3=>⟨⟨by decide,by decide⟩,⟨⟨Nat.le_refl _,rfl⟩,⟨w1.1,Nat.le_refl _⟩,by omega⟩,fun c4 hc4=>⟨⟨len0+len1,len0+len1,c4,n0,catY len0 z0 z1⟩,rfl,rfl,⟨hn,Nat.le_refl _,fun i hi=>?_⟩,fun _ _=>⟨⟨rfl,rfl,rfl,by omega,w0.1,t0⟩,?_,⟨rfl,rfl,rfl,by omega,w1.1,t1⟩,?_,svB ?_⟩⟩⟩⟩
 · have hi:i<len0+len1:=hi
   show -9223372036854775808<=catY len0 z0 z1 i 0/\catY len0 z0 z1 i 0<=9223372036854775807
   unfold catY
   cases hb:Nat.ble (i+1) len0
   · have:¬i+1<=len0:=fun h=>by rw[Nat.ble_eq_true_of_le h]at hb;cases hb
     exact t1 _ (by omega)
   · exact t0 _ (Nat.le_of_ble_eq_true hb)
 · rw[Qda];omega
 · rw[QdU,Qda,Qda,List.length_append];simp only[List.length_cons,List.length_nil];omega
 · dsimp only
   rw[QdU,Qc7,hcat]
   exact beq_self_eq_true _
end Go.Proofs.YtflgoaogcenmpaaDoor
