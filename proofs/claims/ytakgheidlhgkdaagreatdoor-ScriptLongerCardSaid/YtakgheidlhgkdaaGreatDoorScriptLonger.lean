/- ScriptLonger: the walk of the law. -/
import Derived.Test.YtakgheidlhgkdaaGreatDoorZL5
import Derived.Handed
namespace Go.Proofs.YtakgheidlhgkdaaGreatDoor
open Go.RowKit
set_option linter.unusedVariables false
set_option maxRecDepth 100000
set_option maxHeartbeats 4000000
theorem sz_two {H:Type}{P:Program}{t0 t1:TypeId}{r:List TypeId}{a0 a1:ByteArray}{l:List (DataW H)}(h:(DataW.weightsEach P (t0::t1::r) (.lit (.string a0.data.toList)::.lit (.string a1.data.toList)::l)).all (· <=reachBytes)=true):a0.size<=reachBytes/\a1.size<=reachBytes:=by
 simp only[DataW.weightsEach,DataW.weights,List.cons_append,List.nil_append,List.all_cons,Bool.and_eq_true,decide_eq_true_eq]at h
 exact⟨h.1,h.2.1⟩
theorem walk_ScriptLonger (a0 a1:ByteArray) (w0:a0.size<=maxLen) (w1:a1.size<=maxLen) (W:World) (hE:ErrType W) (hs:a0.size<=reachBytes/\a1.size<=reachBytes):
 Calls Tryz.prog 4 #[.string a0,.string a1] W fun e w'=>e=.returned (.bool true)/\Below W.heap.size W w':=by
 refine QpJ (AG:=[]) (Γ:=[(6,.pure QgW),(7,.mem Qjz),(9,.mem QhZ)]) Tryz.func4 rfl Qf Qc
  (.cons (shops_con W _) (.cons (dec_con W _) (.cons (eqM_con W _) (.nil _ _ _))))
  [.c (.v (.string a0)),.c (.v (.string a1))] (.bool true) 400 rfl ?_ rfl
 refine Qj (q:=True/\bif decide (IntKind.wrap .i64 ((↑(ByteArray.size a0):Int)+(↑(ByteArray.size a1):Int))>(4000:Int))then SV.o (aB true)=SV.o (aB true)else ∃(s:ByteArray),[SA.c (.v (.string a0))]=[SA.c (.v (.string s))]/\eN/\ByteArray.size s<=4000/\∀(x:DcR),(x.1<=x.2/\x.2<=x.3)/\mvL x.5 x.1=decL (fun (i:Nat)=>UInt8.toNat (match List.get?Internal (ByteArray.data s).1 i with|some x=>x|none=>(0:UInt8))) (ByteArray.size s)->ByteArray.size a0+ByteArray.size a1<=1099511627776/\∃(s:ByteArray),[SA.c (.v (.string (ByteArray.instAppend.1 a0 a1)))]=[SA.c (.v (.string s))]/\eN/\ByteArray.size s<=4000/\∀(x_1:DcR),(x_1.1<=x_1.2/\x_1.2<=x_1.3)/\mvL x_1.5 x_1.1=decL (fun (i:Nat)=>UInt8.toNat (match List.get?Internal (ByteArray.data s).1 i with|some x=>x|none=>(0:UInt8))) (ByteArray.size s)->x.1<=x.3/\x_1.1<=x_1.3/\x.1<=x.3/\bif decide ((↑x_1.1:Int)>=(↑x.1:Int))then (((0:Int)<=if (0:Int)<IntKind.wrap .i64 ((↑x.1:Int)-(1:Int))then IntKind.wrap .i64 ((↑x.1:Int)-(1:Int))else (0:Int))/\(if (0:Int)<IntKind.wrap .i64 ((↑x.1:Int)-(1:Int))then IntKind.wrap .i64 ((↑x.1:Int)-(1:Int))else (0:Int))<=(↑x.3:Int))/\(((0:Int)<=if (0:Int)<IntKind.wrap .i64 ((↑x.1:Int)-(1:Int))then IntKind.wrap .i64 ((↑x.1:Int)-(1:Int))else (0:Int))/\(if (0:Int)<IntKind.wrap .i64 ((↑x.1:Int)-(1:Int))then IntKind.wrap .i64 ((↑x.1:Int)-(1:Int))else (0:Int))<=(↑x_1.3:Int))/\∃(s:EqMS),[SA.c (.so 0 0 7 (Int.toNat (if (0:Int)<IntKind.wrap .i64 ((↑x.1:Int)-(1:Int))then IntKind.wrap .i64 ((↑x.1:Int)-(1:Int))else (0:Int))) x.3 x.4),SA.c (.so 1 0 7 (Int.toNat (if (0:Int)<IntKind.wrap .i64 ((↑x.1:Int)-(1:Int))then IntKind.wrap .i64 ((↑x.1:Int)-(1:Int))else (0:Int))) x_1.3 x_1.4)]=[SA.c (.so 0 0 7 s.1 s.3 s.4),SA.c (.so 1 0 7 s.1 s.7 s.8)]/\[SB.rows 29 [.int .i64,.int .i64,.int .i64,.int .i64,.int .i64,.int .i64,.int .u64] 7 x.2 x.3 x.5,SB.rows 29 [.int .i64,.int .i64,.int .i64,.int .i64,.int .i64,.int .i64,.int .u64] 7 x_1.2 x_1.3 x_1.5]=[SB.rows 29 [.int .i64,.int .i64,.int .i64,.int .i64,.int .i64,.int .i64,.int .u64] 7 s.2 s.3 s.5,SB.rows 29 [.int .i64,.int .i64,.int .i64,.int .i64,.int .i64,.int .i64,.int .u64] 7 s.6 s.7 s.9]/\(s.1<=1000000000/\(s.1<=s.2/\s.2<=s.3)/\(s.1<=s.6/\s.6<=s.7)/\∀(i:Nat),i<s.1->∀(j:Nat),j<7->s.5 i j=s.9 i j)/\∀(x:Unit),True->dP Tryz.f4 7 2 [xE 14,xE 13,⟨12,[],[0,1],[],false⟩,xF 11 1,xE 10,xF 9 1,xF 8 0,xE 7,xF 6 0,xE 5,xE 4,xE 3,xF 2 0,xE 1,xF 0 1]/\SV.o (aB true)=SV.o (aB true)else dP Tryz.f4 7 2 [xE 14,xE 13,xE 12,xE 11,xE 10,xE 9,xE 8,xE 7,xE 6,xE 5,xE 4,xE 3,xF 2 0,xE 1,xF 0 1]/\SV.o (aB false)=SV.o (aB true)) (by kernel_rfl) ?_
 have w0:a0.size<=140737488351232:=hs.1
 have w1:a1.size<=140737488351232:=hs.2
 rw[Qw (x:=(a0.size:Int)+(a1.size:Int)) (by omega) (by omega)]
 refine⟨trivial,Qo (fun _=>rfl) (fun hl=>⟨a0,rfl,rfl,(by omega),?_⟩)⟩
 rintro⟨n,m,c,nn,z⟩ ⟨hm,hz⟩
 have hm:n<=m/\m<=c:=hm
 have hz:mvL z n=decL (bF a0) a0.size:=hz
 refine⟨by omega,a0++a1,rfl,rfl,(by rw[ByteArray.size_append];omega),?_⟩
 rintro⟨n2,m2,c2,nn2,z2⟩ ⟨hm2,hz2⟩
 have hm2:n2<=m2/\m2<=c2:=hm2
 have hz2:mvL z2 n2=decL (bF (a0++a1)) (a0++a1).size:=hz2
 obtain⟨-,k2,-⟩:=QpZ (QoT a0) a0.size a0.size 0 0
 have hlen:n=(decN (bF a0) a0.size a0.size 0 0).length:=(QpO z n).symm.trans (congrArg List.length hz)
 obtain⟨d1,d2⟩:=dec_more a0 a1
 rw[<- hz,<- hz2,QpO,QpO]at d1
 rw[<- hz,<- hz2,QpO]at d2
 have ek:(if (0:Int)<IntKind.wrap .i64 ((n:Int)-1)then IntKind.wrap .i64 ((n:Int)-1)else 0)=((n-1:Nat):Int):=by
  rw[Qw (by omega) (by omega)];split<;>omega
 dsimp only
 rw[ek,Int.toNat_natCast]
 refine⟨by omega,by omega,by omega,Qo (fun _=>⟨⟨by omega,by omega⟩,⟨by omega,by omega⟩,⟨n-1,m,c,nn,z,m2,c2,nn2,z2⟩,rfl,rfl,⟨(by show n-1<=1000000000;omega),⟨(by show n-1<=m;omega),hm.2⟩,⟨(by show n-1<=m2;omega),hm2.2⟩,fun i hi=>?_⟩,fun _ _=>⟨Qe (by kernel_rfl),rfl⟩⟩) (fun h=>absurd h (by omega))⟩
 have hi:i<n-1:=hi
 have:=d2 i (by omega)
 rw[mvL_get (by omega),mvL_get (by omega)]at this
 exact mv_cells (Option.some.inj this).symm
end Go.Proofs.YtakgheidlhgkdaaGreatDoor
