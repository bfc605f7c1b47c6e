/- ShopFits: the walk of the law. -/
import Derived.Test.YtnhoblgmlmodnaaGreatDoorZI6
namespace Go.Proofs.YtnhoblgmlmodnaaGreatDoor
open List renaming length->Zg
open SA renaming c->Zu
open SB renaming rows->Zn,abs->ZF
open ShS renaming z->ZJ
open Go.RowKit
set_option linter.unusedVariables false
set_option maxRecDepth 100000
set_option maxHeartbeats 4000000
def tabLz:Tab:=[(3,.one (.int .i64 0) (.int .i64)),
 (50,.one (.int .u64 0) (.int .u64)),
 (4,.one (.bool false) .bool),
 (26,.one (.pointer none) (.ptr 85)),
 (118,.str [.one (.v (.int .i64 0)),.one (.v (.int .i64 0)),.one (.v (.int .i64 0)),.one (.v (.int .i64 0)),.one (.v (.int .i64 0)),.one (.v (.int .i64 0)),.one (.v (.int .u64 0))] [(0,1,false),(1,1,false),(2,3,true),(5,1,false),(6,1,false)]),
 (22,.one (.slice none 0 0) (.slice 118)),
 (31,.str [.one (.v (.int .i64 0)),.one (.v (.int .i64 0)),.one (.v (.int .i64 0))] [(0,1,false),(1,1,false),(2,1,false)]),
 (42,.str [.one (.v (.int .i64 0)),.one (.v (.int .i64 0))] [(0,1,false),(1,1,false)]),
 (33,.one (.nilIface) .iface),
 (66,.one (.int .i64 0) (.int .i64)),
 (53,.str [.one (.v (.int .i64 0)),.one (.v (.int .i64 0)),.one (.v (.int .i64 0)),.one (.v (.int .i64 0)),.one (.v (.int .i64 0)),.one (.v (.int .i64 0)),.one (.v (.int .i64 0)),.one (.v (.int .i64 0)),.one (.v (.int .i64 0))] [(0,1,false),(1,1,false),(2,3,true),(5,2,true),(7,1,false),(8,1,false)]),
 (47,.one (.slice none 0 0) (.slice 53)),
 (44,.str [.one (.v (.int .i64 0)),.one (.v (.int .i64 0)),.one (.v (.int .i64 0)),.one (.v (.int .i64 0)),.one (.v (.int .i64 0)),.one (.v (.int .i64 0))] [(0,1,false),(1,3,true),(4,2,true)]),
 (38,.one (.slice none 0 0) (.slice 44)),
 (73,.arr [.ints (.int .u64) 32 (λ_=>0)] 32 1 false),
 (97,.str [.one (.v (.int .i64 0)),.one (.v (.int .i64 0)),.one (.v (.int .i64 0)),.one (.v (.int .i64 0)),.one (.v (.int .i64 0)),.one (.v (.int .i64 0)),.one (.v (.int .i64 0)),.one (.v (.int .i64 0)),.one (.v (.int .i64 0))] [(0,1,false),(1,3,true),(4,1,false),(5,1,false),(6,1,false),(7,2,true)]),
 (93,.one (.slice none 0 0) (.slice 97)),
 (55,.one (.slice none 0 0) (.slice 3))]
theorem tabLz_ok:TabOk Tryz.prog tabLz:=.cons (⟨Zc,Zc,Zc,Zc,Zc⟩) (.cons (⟨Zc,Zc,Zc,Zc,Zc⟩) (.cons (⟨Zc,Zc,Zc,Zc,Zc⟩) (.cons (⟨Zc,Zc,Zc,Zc,Zc⟩) (.cons (⟨Zc,Zc,Zc,Zc⟩) (.cons (⟨Zc,Zc,Zc,Zc,Zc⟩) (.cons (⟨Zc,Zc,Zc,Zc⟩) (.cons (⟨Zc,Zc,Zc,Zc⟩) (.cons (⟨Zc,Zc,Zc,Zc,Zc⟩) (.cons (⟨Zc,Zc,Zc,Zc,Zc⟩) (.cons (⟨Zc,Zc,Zc,Zc⟩) (.cons (⟨Zc,Zc,Zc,Zc,Zc⟩) (.cons (⟨Zc,Zc,Zc,Zc⟩) (.cons (⟨Zc,Zc,Zc,Zc,Zc⟩) (.cons (⟨Zc,Zc,Zc,Zc⟩) (.cons (⟨Zc,Zc,Zc,Zc⟩) (.cons (⟨Zc,Zc,Zc,Zc,Zc⟩) (.cons (⟨Zc,Zc,Zc,Zc,Zc⟩) (TabOk.nil _))))))))))))))))))
theorem tabLz_tys:TysOk Tryz.prog tabLz:=TysOk.of Zc Zc
theorem walk_ShopFits (a0:Int) (a1:Option Addr) (len1 cap1:Nat) (z1:Nat->Nat->Int) (W:World) (hE:ErrType W) (w0:(Lit.int .i64 a0).wf=true) (w1:MvIn W a1 len1 cap1 z1):
 Calls Tryz.prog 4 #[.int .i64 a0,.slice a1 len1 cap1] W λe w'=>e=.returned (.bool true)/\Below W.heap.size W w':=by
 refine QrD (AG:=[]) (Γ:=[(8,.pure QhN),(10,.inl Tryz.f10 (Tryz.f10.body.getD .skip)),(12,.pure Qgf),(11,.inl Tryz.f11 (Tryz.f11.body.getD .skip)),(28,.mem (QjH W)),(9,.pure QcM),(21,.mem hisC.sh),(18,.mem ddsC.sh),(20,.mem Qoi)]) Tryz.func4 rfl tabLz_ok tabLz_tys
  (.cons (shops_con W _) (.cons (⟨Zc,rfl,rfl⟩) (.cons (Qss W _) (.cons (⟨Zc,rfl,rfl⟩) (.cons (play_con W) (.cons (Qst W hE) (.cons (hisH W _) (.cons (ddsH W _) (.cons (ft0_con W _) (.nil _ _ _))))))))))
  [.c (.v (.int .i64 a0)),.c (.r a1 len1 cap1 len1 7 mvK z1)] (.bool true) 400 rfl ?_ rfl
 refine Qj (q:=True/\True/\bif bif decide ((↑len1:Int)<=(120:Int))then false else true then SV.o (aB true)=SV.o (aB true)else True/\∃(s:PlS),[aI ((1:Int)+Qhl a0 (6:Int)),Zu (.r a1 len1 cap1 len1 7 (λ(j:Nat)=>bif Nat.beq j 6 then .u64 else .i64) z1)]=[aI s.1,Zu (.r s.2 s.3 s.4 s.3 7 (λ(j:Nat)=>bif Nat.beq j 6 then .u64 else .i64) s.5)]/\eN/\(((1:Int)<=s.1/\s.1<=(6:Int))/\s.3<=3000/\Rws 7 mvK W (PlS.a s) (PlS.n s) s.4 s.5/\∀(i:Nat),i<s.3->U64 (s.5 i 6))/\∀(x:List Nat),True->∃(s_1:Sh × Unit × List Nat),[aP 0 0]=[aP 0 0]/\[ZF (QA shM ZJ ShS.good (XL s.1 (mvL s.5 s.3))) x]=[ZF (QA shM ZJ ShS.good s_1.1) s_1.2.2]/\Zg s_1.1.6<=1000000000/\∀(x:List Nat × RwR),(Zg s_1.1.6<=x.2.1/\x.2.1<=x.2.2)/\IsE x.2.4 s_1.1.6->∃(s:Sh × Unit × List Nat),[aP 0 0]=[aP 0 0]/\[ZF (QA shM ZJ ShS.good s_1.1) x.1]=[ZF (QA shM ZJ ShS.good s.1) s.2.2]/\Zg s.1.7<=1000000000/\∀(x_1:List Nat × RwR),(Zg s.1.7<=x_1.2.1/\x_1.2.1<=x_1.2.2)/\IsR 6 Dd.at Dd.nil x_1.2.4 (List.map (λ(self:Vd)=>self.2) s.1.7)->∃(s_2:FtS),[Zu (.so 1 0 9 (Zg s_1.1.6) x.2.2 x.2.3),Zu (.so 2 0 6 (Zg s.1.7) x_1.2.2 x_1.2.3)]=[Zu (.so 1 0 9 (Zg s_2.1) s_2.3 s_2.4),Zu (.so 2 0 6 (Zg s_2.6) s_2.8 s_2.9)]/\[Zn 53 kI9 9 x.2.1 x.2.2 x.2.4,Zn 44 kI6 6 x_1.2.1 x_1.2.2 x_1.2.4]=[Zn 53 kI9 9 s_2.2 s_2.3 s_2.5,Zn 44 kI6 6 s_2.7 s_2.8 s_2.10]/\((WfH s_2.1/\(Zg s_2.1<=1000000000/\(Zg s_2.1<=s_2.2/\s_2.2<=s_2.3)/\IsE s_2.5 s_2.1)/\Zg s_2.6<=10000000/\(Zg s_2.6<=s_2.7/\s_2.7<=s_2.8)/\IsR 6 Dd.at Dd.nil s_2.10 s_2.6)/\fitC (Qh s_2.1) s_2.6=(0:Int))/\∀(x:Unit),True->SV.o (aB true)=SV.o (aB true)) Zc ?_
 have k1:1<=1+Qhl a0 6:=by have:=QeY a0 6 Zb;omega
 have k6:1+Qhl a0 6<=6:=by have:=Qj9 a0 6 Zb;omega
 generalize 1+Qhl a0 6=K at k1 k6 ⊢
 refine⟨Zd,Zd,Qop (λ_=>rfl) (λhh=>⟨Zd,⟨K,a1,len1,cap1,z1⟩,rfl,rfl,⟨⟨k1,k6⟩,(by show len1<=3000;omega),w1.1,w1.2⟩,λx _=>?_⟩)⟩
 obtain⟨g,F2,hs⟩:=QnW k1 k6 len1 (mvL z1 len1) (QrI z1 len1) Za
 have hs2:(XL K (mvL z1 len1)).steps<=120000:=Za
 have F:=F2.fi
 have hL:=F.lens Za
 have hT:=F.steps0
 have hI:=F.i
 have hW:=QoX k1 k6 len1 (mvL z1 len1) (QrI z1 len1) Za
 generalize XL K (mvL z1 len1)=Z at *
 refine⟨(Z,(),x),rfl,rfl,hL.1,λy hy=>⟨(Z,(),y.1),rfl,rfl,hL.2,λy2 hy2=>⟨ftZ Z.hist (Z.deeds.map Vd.d) y.2 y2.2,ftZ_args _ _ _ _ _,rfl,ftZ_pre F2 hW Za hy hy2,λ_ _=>rfl⟩⟩⟩
end Go.Proofs.YtnhoblgmlmodnaaGreatDoor
