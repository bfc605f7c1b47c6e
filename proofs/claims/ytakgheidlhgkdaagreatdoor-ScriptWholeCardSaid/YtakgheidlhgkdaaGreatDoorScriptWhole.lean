/- ScriptWhole: the walk of the law. -/
import Derived.Test.YtakgheidlhgkdaaGreatDoorZL5
namespace Go.Proofs.YtakgheidlhgkdaaGreatDoor
open Go.RowKit
set_option linter.unusedVariables false
set_option maxRecDepth 100000
set_option maxHeartbeats 4000000
theorem decL_nil (b:ByteArray):b.data.toList=[]↔(decL (bF b) b.size).length=0:=by
 have e:b.data.toList.length=b.size:=Array.length_toList
 constructor
 · intro h
   have h0:b.size=0:=by rw[<- e,h];rfl
   show (decN (bF b) b.size b.size 0 0).length=0
   rw[QeU (bF b) (by omega)];rfl
 · intro h
   refine List.eq_nil_of_length_eq_zero (e.trans ?_)
   refine Nat.eq_zero_of_not_pos fun hp=>?_
   have:=QhU (bF b) (n:=b.size) (a:=0) (c:=0) hp (by decide)
   have h:(decN (bF b) b.size (b.size-0) 0 0).length=0:=h
   rw[this,List.length_cons]at h
   exact absurd h (Nat.succ_ne_zero _)
structure SwG (s:ByteArray) where
 b:ByteArray
 i:Nat
 n:Nat
 m:Nat
 c:Nat
 nn:Bool
 z:Nat->Nat->Int
 hb:b=s
 hi:i<=n
 hm:n<=m/\m<=c
 hz:mvL z n=decL (bF s) s.size
def annSw (s:ByteArray):Ann where
 σ:=SwG s
 I g:=([(0,sv (.string g.b)),(3,.o (.c (.so 0 0 7 g.n g.c g.nn))),(13,.o (.c (.so 0 0 7 g.n g.c g.nn))),(14,sv (.int .i64 g.n)),(15,sv (.int .i64 g.i))],[Qd8 g.m g.c g.z])
 dec g:=g.n-g.i
 pi env _:=[blkE env 3]
 nz:=[]
theorem walk_ScriptWhole (a0:ByteArray) (w0:a0.size<=maxLen) (W:World) (hE:ErrType W):
 Calls Tryz.prog 3 #[.string a0] W fun e w'=>e=.returned (.bool true)/\Below W.heap.size W w':=by
 refine QpJ (AG:=[(3,[(0,annSw a0)])]) (Γ:=[(6,.pure QgW),(7,.mem Qjz),(8,.pure XN)]) Tryz.func3 rfl Qf Qc
  (.cons (shops_con W _) (.cons (dec_con W _) (.cons (Qaz W _) (.nil _ _ _))))
  [.c (.v (.string a0))] (.bool true) 400 rfl ?_ rfl
 refine Qj (q:=True/\bif decide ((↑(ByteArray.size a0):Int)>(4000:Int))then SV.o (aB true)=SV.o (aB true)else ∃(s:ByteArray),[SA.c (.v (.string a0))]=[SA.c (.v (.string s))]/\eN/\ByteArray.size s<=4000/\∀(x:DcR),(x.1<=x.2/\x.2<=x.3)/\mvL x.5 x.1=decL (fun (i:Nat)=>UInt8.toNat (match List.get?Internal (ByteArray.data s).1 i with|some x=>x|none=>(0:UInt8))) (ByteArray.size s)->x.1<=x.3/\(∃(s0:Ann.σ (annSw a0)),(eS (SA.c (.v (.string a0))) (SA.c (.v (.string s0.1)))/\eS (SA.c (.so 0 0 7 x.1 x.3 x.4)) (SA.c (.so 0 0 7 s0.3 s0.5 s0.6))/\eS (SA.c (.so 0 0 7 x.1 x.3 x.4)) (SA.c (.so 0 0 7 s0.3 s0.5 s0.6))/\eS (aI ↑x.1) (aI ↑s0.3)/\eS (aI 0) (aI ↑s0.2)/\True)/\[SB.rows 29 [.int .i64,.int .i64,.int .i64,.int .i64,.int .i64,.int .i64,.int .u64] 7 x.2 x.3 x.5]=[SB.rows 29 [.int .i64,.int .i64,.int .i64,.int .i64,.int .i64,.int .i64,.int .u64] 7 s0.4 s0.5 s0.7])/\∀(s:SwG a0),bif decide ((↑s.2:Int)<(↑s.3:Int))then ((0:Int)<=(↑s.2:Int)/\(↑s.2:Int)<(↑s.3:Int)/\0+s.3<=s.5)/\0+Int.toNat (↑s.2:Int)<s.4/\bif decide (s.7 (0+Int.toNat (↑s.2:Int)) 1<(0:Int))then SV.o (aB false)=SV.o (aB true)else bif decide (s.7 (0+Int.toNat (↑s.2:Int)) 1>=(4:Int))then SV.o (aB false)=SV.o (aB true)else bif decide (s.7 (0+Int.toNat (↑s.2:Int)) 0<(1:Int))then SV.o (aB false)=SV.o (aB true)else bif decide (s.7 (0+Int.toNat (↑s.2:Int)) 0>(4:Int))then SV.o (aB false)=SV.o (aB true)else bif s.7 (0+Int.toNat (↑s.2:Int)) 0==(1:Int)then True/\bif bif opOk (s.7 (0+Int.toNat (↑s.2:Int)) 2) (s.7 (0+Int.toNat (↑s.2:Int)) 3) (s.7 (0+Int.toNat (↑s.2:Int)) 4)then false else true then SV.o (aB false)=SV.o (aB true)else bif s.7 (0+Int.toNat (↑s.2:Int)) 0==(2:Int)then bif decide (s.7 (0+Int.toNat (↑s.2:Int)) 5<(1:Int))then SV.o (aB false)=SV.o (aB true)else bif decide (s.7 (0+Int.toNat (↑s.2:Int)) 5>(100:Int))then SV.o (aB false)=SV.o (aB true)else ∃(s':SwG a0),((eS (SA.c (.v (.string s.1))) (SA.c (.v (.string s'.1)))/\eS (SA.c (.so 0 0 7 s.3 s.5 s.6)) (SA.c (.so 0 0 7 s'.3 s'.5 s'.6))/\eS (SA.c (.so 0 0 7 s.3 s.5 s.6)) (SA.c (.so 0 0 7 s'.3 s'.5 s'.6))/\eS (aI ↑s.3) (aI ↑s'.3)/\eS (aI (IntKind.wrap .i64 ((↑s.2:Int)+(1:Int)))) (aI ↑s'.2)/\True)/\[SB.rows 29 [.int .i64,.int .i64,.int .i64,.int .i64,.int .i64,.int .i64,.int .u64] 7 s.4 s.5 s.7]=[SB.rows 29 [.int .i64,.int .i64,.int .i64,.int .i64,.int .i64,.int .i64,.int .u64] 7 s'.4 s'.5 s'.7])/\s'.3-s'.2<s.3-s.2 else ∃(s':SwG a0),((eS (SA.c (.v (.string s.1))) (SA.c (.v (.string s'.1)))/\eS (SA.c (.so 0 0 7 s.3 s.5 s.6)) (SA.c (.so 0 0 7 s'.3 s'.5 s'.6))/\eS (SA.c (.so 0 0 7 s.3 s.5 s.6)) (SA.c (.so 0 0 7 s'.3 s'.5 s'.6))/\eS (aI ↑s.3) (aI ↑s'.3)/\eS (aI (IntKind.wrap .i64 ((↑s.2:Int)+(1:Int)))) (aI ↑s'.2)/\True)/\[SB.rows 29 [.int .i64,.int .i64,.int .i64,.int .i64,.int .i64,.int .i64,.int .u64] 7 s.4 s.5 s.7]=[SB.rows 29 [.int .i64,.int .i64,.int .i64,.int .i64,.int .i64,.int .i64,.int .u64] 7 s'.4 s'.5 s'.7])/\s'.3-s'.2<s.3-s.2 else bif s.7 (0+Int.toNat (↑s.2:Int)) 0==(2:Int)then bif decide (s.7 (0+Int.toNat (↑s.2:Int)) 5<(1:Int))then SV.o (aB false)=SV.o (aB true)else bif decide (s.7 (0+Int.toNat (↑s.2:Int)) 5>(100:Int))then SV.o (aB false)=SV.o (aB true)else ∃(s':SwG a0),((eS (SA.c (.v (.string s.1))) (SA.c (.v (.string s'.1)))/\eS (SA.c (.so 0 0 7 s.3 s.5 s.6)) (SA.c (.so 0 0 7 s'.3 s'.5 s'.6))/\eS (SA.c (.so 0 0 7 s.3 s.5 s.6)) (SA.c (.so 0 0 7 s'.3 s'.5 s'.6))/\eS (aI ↑s.3) (aI ↑s'.3)/\eS (aI (IntKind.wrap .i64 ((↑s.2:Int)+(1:Int)))) (aI ↑s'.2)/\True)/\[SB.rows 29 [.int .i64,.int .i64,.int .i64,.int .i64,.int .i64,.int .i64,.int .u64] 7 s.4 s.5 s.7]=[SB.rows 29 [.int .i64,.int .i64,.int .i64,.int .i64,.int .i64,.int .i64,.int .u64] 7 s'.4 s'.5 s'.7])/\s'.3-s'.2<s.3-s.2 else ∃(s':SwG a0),((eS (SA.c (.v (.string s.1))) (SA.c (.v (.string s'.1)))/\eS (SA.c (.so 0 0 7 s.3 s.5 s.6)) (SA.c (.so 0 0 7 s'.3 s'.5 s'.6))/\eS (SA.c (.so 0 0 7 s.3 s.5 s.6)) (SA.c (.so 0 0 7 s'.3 s'.5 s'.6))/\eS (aI ↑s.3) (aI ↑s'.3)/\eS (aI (IntKind.wrap .i64 ((↑s.2:Int)+(1:Int)))) (aI ↑s'.2)/\True)/\[SB.rows 29 [.int .i64,.int .i64,.int .i64,.int .i64,.int .i64,.int .i64,.int .u64] 7 s.4 s.5 s.7]=[SB.rows 29 [.int .i64,.int .i64,.int .i64,.int .i64,.int .i64,.int .i64,.int .u64] 7 s'.4 s'.5 s'.7])/\s'.3-s'.2<s.3-s.2 else s.3<=s.5/\bif decide ((↑s.3:Int)<=(3000:Int))then s.3<=s.5/\bif decide ((↑s.3:Int)<=(↑(ByteArray.size s.1):Int))then s.3<=s.5/\SV.o (aB ((ByteArray.toList s.1==ByteArray.toList (ByteArray.mk (Array.mk [])))==((↑s.3:Int)==(0:Int))))=SV.o (aB true)else SV.o (aB false)=SV.o (aB true)else SV.o (aB false)=SV.o (aB true)) (by kernel_rfl) ?_
 refine⟨trivial,Qo (fun _=>rfl) (fun hl=>⟨a0,rfl,rfl,(by omega),?_⟩)⟩
 rintro⟨n,m,c,nn,z⟩ ⟨hm,hz⟩
 have hm:n<=m/\m<=c:=hm
 have hz:mvL z n=decL (bF a0) a0.size:=hz
 refine⟨Nat.le_trans hm.1 hm.2,⟨⟨a0,0,n,m,c,nn,z,rfl,Nat.zero_le _,hm,hz⟩,⟨rfl,rfl,rfl,rfl,rfl,trivial⟩,rfl⟩,?_⟩
 rintro⟨b,i,n,m,c,nn,z,hb,hi,hm,hz⟩
 subst hb
 dsimp only
 rw[Int.toNat_natCast,Nat.zero_add i]
 obtain⟨k1,k2,k3⟩:=QpZ (QoT b) b.size b.size 0 0
 have hlen:n=(decN (bF b) b.size b.size 0 0).length:=(QpO z n).symm.trans (congrArg List.length hz)
 have k3:=k3 (Nat.zero_le _)
 refine Qo (fun hlt=>?_) (fun hge=>?_)
 · have hlt':i<n:=by omega
   have ok:MvOk (mvAt z i):=k1 _ (by
    show mvAt z i∈decL (bF b) b.size
    rw[<- hz];exact List.mem_map.2 ⟨i,List.mem_range.2 hlt',rfl⟩)
   have t0:0<=z i 1:=ok.t0
   have t4:z i 1<4:=ok.t4
   have q1:1<=z i 0:=ok.k1
   have q4:z i 0<=4:=ok.k4
   have hop:z i 0=1->opOk (z i 2) (z i 3) (z i 4)=true:=ok.op
   have hnn:z i 0=2->1<=z i 5/\z i 5<=100:=ok.n
   refine⟨⟨by omega,hlt,by omega⟩,by omega,Qo (fun h=>absurd h (by omega)) (fun _=>Qo (fun h=>absurd h (by omega)) (fun _=>Qo (fun h=>absurd h (by omega)) (fun _=>Qo (fun h=>absurd h (by omega)) (fun _=>Q5 (fun hk=>⟨trivial,?_⟩) (fun hk=>Q5 (fun h2=>Qo (fun h=>absurd h (by have:=hnn h2;omega)) (fun _=>Qo (fun h=>absurd h (by have:=hnn h2;omega)) (fun _=>⟨⟨b,i+1,n,m,c,nn,z,rfl,hlt',hm,hz⟩,⟨⟨rfl,rfl,rfl,rfl,svI (sucI (by omega)),trivial⟩,rfl⟩,by dsimp only;omega⟩))) (fun _=>⟨⟨b,i+1,n,m,c,nn,z,rfl,hlt',hm,hz⟩,⟨⟨rfl,rfl,rfl,rfl,svI (sucI (by omega)),trivial⟩,rfl⟩,by dsimp only;omega⟩))))))⟩
   rw[hop hk]
   exact Q5 (a:=z i 0) (b:=2) (fun h=>absurd (hk.symm.trans h) (by decide)) (fun _=>⟨⟨b,i+1,n,m,c,nn,z,rfl,hlt',hm,hz⟩,⟨⟨rfl,rfl,rfl,rfl,svI (sucI (by omega)),trivial⟩,rfl⟩,by dsimp only;omega⟩)
 · refine⟨by omega,Qo (fun _=>⟨by omega,Qo (fun _=>⟨by omega,svB ?_⟩) (fun h=>absurd h (by omega))⟩) (fun h=>absurd h (by omega))⟩
   rw[ByteArray.toList_eq,ByteArray.toList_eq,beq_iff_eq,Bool.eq_iff_iff,beq_iff_eq,beq_iff_eq]
   have:=decL_nil b
   have hl2:n=(decL (bF b) b.size).length:=hlen
   rw[<- hl2]at this
   exact this.trans ⟨fun h=>by rw[h];rfl,fun h=>by omega⟩
end Go.Proofs.YtakgheidlhgkdaaGreatDoor
