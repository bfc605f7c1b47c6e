/- ShopClock: the walk of the law. -/
import Derived.Test.YtinijfhoenajkaaGreatDoorZB5
namespace Go.Proofs.YtinijfhoenajkaaGreatDoor
open Go.RowKit
set_option linter.unusedVariables false
set_option maxRecDepth 100000
set_option maxHeartbeats 4000000
def lastS (h:List Ev) (i:Nat):Int:=if i=0 then 0 else (h.getD (i-1) Ev.nil).step
structure ClockG (z:Sh) where
 i:Nat
 b:Int
 m:Nat
 c:Nat
 nn:Bool
 f:Nat->Nat->Int
 hi:i<=z.hist.length
 hb:b=lastS z.hist i
 hm:z.hist.length<=m/\m<=c
 hz:IsE f z.hist
def annClock (z:Sh):Ann where
 σ:=ClockG z
 I g:=([(6,sv (.int .i64 g.b)),(21,.o (.c (.so 0 0 9 z.hist.length g.c g.nn))),(22,sv (.int .i64 z.hist.length)),(23,sv (.int .i64 g.i))],[evB g.m g.c g.f])
 dec g:=z.hist.length-g.i
 pi env _:=[blkE env 21]
 nz:=[]
theorem walk_ShopClock (a0:Int) (a1:Option Addr) (len1 cap1:Nat) (z1:Nat->Nat->Int) (W:World) (hE:ErrType W) (w0:(Lit.int .i64 a0).wf=true) (w1:MvIn W a1 len1 cap1 z1):
 Calls Tryz.prog 3 #[.int .i64 a0,.slice a1 len1 cap1] W fun e w'=>e=.returned (.bool true)/\Below W.heap.size W w':=by
 refine Qqd (AG:=[(3,[(0,annClock (XW (1+QgI a0 6) (mvL z1 len1)))])]) (Γ:=[(15,.pure Qg8),(16,.inl Tryz.f16 (Tryz.f16.body.getD .skip)),(18,.pure QfO),(17,.inl Tryz.f17 (Tryz.f17.body.getD .skip)),(45,.mem (QiT W)),(19,.mem hisC.sh)]) Tryz.func3 rfl Qg Qd
  (.cons (shops_con W _) (.cons (⟨by kernel_rfl,rfl,rfl⟩) (.cons (QqS W _) (.cons (⟨by kernel_rfl,rfl,rfl⟩) (.cons (play_con W) (.cons (hisH W _) (.nil _ _ _)))))))
  [.c (.v (.int .i64 a0)),.c (.r a1 len1 cap1 len1 7 mvK z1)] (.bool true) 400 rfl ?_ rfl
 refine Qk (q:=True/\bif bif decide ((↑len1:Int)<=(120:Int))then false else true then SV.o (aB true)=SV.o (aB true)else True/\∃(s:PlS),[aI ((1:Int)+QgI a0 (6:Int)),SA.c (.r a1 len1 cap1 len1 7 (fun (j:Nat)=>bif Nat.beq j 6 then .u64 else .i64) z1)]=[aI s.1,SA.c (.r s.2 s.3 s.4 s.3 7 (fun (j:Nat)=>bif Nat.beq j 6 then .u64 else .i64) s.5)]/\eN/\(((1:Int)<=s.1/\s.1<=(6:Int))/\s.3<=3000/\Rws 7 mvK W (PlS.a s) (PlS.n s) s.4 s.5/\∀(i:Nat),i<s.3->U64 (s.5 i 6))/\∀(x:List Nat),True->∃(s_1:Sh × Unit × List Nat),[aP 0 0]=[aP 0 0]/\[SB.abs (QB shM ShS.z ShS.good (XW s.1 (mvL s.5 s.3))) x]=[SB.abs (QB shM ShS.z ShS.good s_1.1) s_1.2.2]/\List.length s_1.1.6<=1000000000/\∀(x:List Nat × RwR),(List.length s_1.1.6<=x.2.1/\x.2.1<=x.2.2)/\IsE x.2.4 s_1.1.6->List.length s_1.1.6<=x.2.2/\(∃(s0:Ann.σ (annClock (XW ((1:Int)+QgI a0 (6:Int)) (mvL z1 len1)))),(eS (aI 0) (aI s0.2)/\eS (SA.c (.so 1 0 9 (List.length s_1.1.6) x.2.2 x.2.3)) (SA.c (.so 1 0 9 (List.length (XW ((1:Int)+QgI a0 (6:Int)) (mvL z1 len1)).6) s0.4 s0.5))/\eS (aI (↑(List.length s_1.1.6):Int)) (aI (↑(List.length (XW ((1:Int)+QgI a0 (6:Int)) (mvL z1 len1)).6):Int))/\eS (aI 0) (aI ↑s0.1)/\True)/\[SB.rows 35 kI9 9 x.2.1 x.2.2 x.2.4]=[SB.rows 35 kI9 9 s0.3 s0.4 s0.6])/\∀(s:ClockG (XW ((1:Int)+QgI a0 (6:Int)) (mvL z1 len1))),bif decide ((↑s.1:Int)<(↑(List.length (XW ((1:Int)+QgI a0 (6:Int)) (mvL z1 len1)).6):Int))then ((0:Int)<=(↑s.1:Int)/\(↑s.1:Int)<(↑(List.length (XW ((1:Int)+QgI a0 (6:Int)) (mvL z1 len1)).6):Int)/\0+List.length (XW ((1:Int)+QgI a0 (6:Int)) (mvL z1 len1)).6<=s.4)/\0+Int.toNat (↑s.1:Int)<s.3/\bif decide (s.6 (0+Int.toNat (↑s.1:Int)) 8<=s.2)then SV.o (aB false)=SV.o (aB true)else ∃(s':ClockG (XW ((1:Int)+QgI a0 (6:Int)) (mvL z1 len1))),((eS (aI (s.6 (0+Int.toNat (↑s.1:Int)) 8)) (aI s'.2)/\eS (SA.c (.so 0 0 9 (List.length (XW ((1:Int)+QgI a0 (6:Int)) (mvL z1 len1)).6) s.4 s.5)) (SA.c (.so 0 0 9 (List.length (XW ((1:Int)+QgI a0 (6:Int)) (mvL z1 len1)).6) s'.4 s'.5))/\eS (aI (↑(List.length (XW ((1:Int)+QgI a0 (6:Int)) (mvL z1 len1)).6):Int)) (aI (↑(List.length (XW ((1:Int)+QgI a0 (6:Int)) (mvL z1 len1)).6):Int))/\eS (aI (IntKind.wrap .i64 ((↑s.1:Int)+(1:Int)))) (aI ↑s'.1)/\True)/\[SB.rows 35 kI9 9 s.3 s.4 s.6]=[SB.rows 35 kI9 9 s'.3 s'.4 s'.6])/\List.length (XW ((1:Int)+QgI a0 (6:Int)) (mvL z1 len1)).6-s'.1<List.length (XW ((1:Int)+QgI a0 (6:Int)) (mvL z1 len1)).6-s.1 else SV.o (aB true)=SV.o (aB true)) (by kernel_rfl) ?_
 have k1:1<=1+QgI a0 6:=by have:=QeC a0 6 (by decide);omega
 have k6:1+QgI a0 6<=6:=by have:=Qjl a0 6 (by decide);omega
 generalize 1+QgI a0 6=K at k1 k6 ⊢
 refine⟨trivial,Qnk (fun _=>rfl) (fun hh=>⟨trivial,⟨K,a1,len1,cap1,z1⟩,rfl,rfl,⟨⟨k1,k6⟩,(by show len1<=3000;omega),w1.1,w1.2⟩,fun x _=>?_⟩)⟩
 obtain⟨g,F2,hs⟩:=QmY k1 k6 len1 (mvL z1 len1) (Qqi z1 len1) (by omega)
 have hs2:(XW K (mvL z1 len1)).steps<=120000:=by omega
 have F:=F2.fi
 have hL:=F.lens (by omega)
 have hT:=F.steps0
 have hI:=F.i
 generalize XW K (mvL z1 len1)=Z at *
 refine⟨(Z,(),x),rfl,rfl,hL.1,fun y hy=>⟨Nat.le_trans hy.1.1 hy.1.2,⟨⟨0,0,y.2.1,y.2.2,y.2.3,y.2.4,Nat.zero_le _,rfl,hy.1,hy.2⟩,⟨rfl,rfl,rfl,rfl,trivial⟩,rfl⟩,?_⟩⟩
 rintro⟨i,b,m,c,nn,f,hi,hb,hm,hz⟩
 dsimp only
 have e0:0+(i:Int).toNat=i:=by rw[Int.toNat_natCast,Nat.zero_add]
 rw[e0]
 refine Qr (fun hlt=>?_) (fun hge=>rfl)
 have hlt':i<Z.hist.length:=by omega
 have h8:f i 8=(Z.hist.getD i Ev.nil).step:=hz i hlt' 8 (by decide)
 obtain⟨-,of,H⟩:=F2.f
 have hgt:b<f i 8:=by
  rw[hb,h8]
  unfold lastS
  by_cases h0:i=0
  · rw[if_pos h0]
    have:=(H.ev (Z.hist.getD i Ev.nil) (by rw[List.getD_eq_getElem?_getD,List.getElem?_eq_getElem hlt'];exact List.getElem_mem _)).s0
    omega
  · rw[if_neg h0]
    have:=List.pairwise_iff_getElem.1 H.clk (i-1) i (by omega) hlt' (by omega)
    rw[List.getD_eq_getElem?_getD,List.getElem?_eq_getElem (by omega),List.getD_eq_getElem?_getD,List.getElem?_eq_getElem hlt'];exact this
 refine⟨⟨by omega,hlt,by omega⟩,by omega,Qr (fun h=>absurd h (by omega)) (fun _=>⟨⟨i+1,f i 8,m,c,nn,f,hlt',?_,hm,hz⟩,⟨⟨rfl,rfl,rfl,svI (sucI (by omega)),trivial⟩,rfl⟩,by dsimp only;omega⟩)⟩
 unfold lastS
 rw[if_neg (by omega),Nat.add_sub_cancel];exact h8
end Go.Proofs.YtinijfhoenajkaaGreatDoor
