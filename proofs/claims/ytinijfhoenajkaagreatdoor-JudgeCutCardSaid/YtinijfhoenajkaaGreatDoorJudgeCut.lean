/- JudgeCut: the walk of the law. -/
import Derived.Test.YtinijfhoenajkaaGreatDoorZE5
namespace Go.Proofs.YtinijfhoenajkaaGreatDoor
open Go.RowKit
set_option linter.unusedVariables false
set_option maxRecDepth 100000
set_option maxHeartbeats 4000000
def tabLz:Tab:=[(3,.one (.int .i64 0) (.int .i64)),
 (52,.one (.int .u64 0) (.int .u64)),
 (4,.one (.bool false) .bool),
 (25,.one (.pointer none) (.ptr 89)),
 (54,.str [.one (.v (.int .i64 0)),.one (.v (.int .i64 0)),.one (.v (.int .i64 0)),.one (.v (.int .i64 0)),.one (.v (.int .i64 0)),.one (.v (.int .i64 0)),.one (.v (.int .u64 0))] [(0,1,false),(1,1,false),(2,3,true),(5,1,false),(6,1,false)]),
 (22,.one (.slice none 0 0) (.slice 54)),
 (31,.str [.one (.v (.int .i64 0)),.one (.v (.int .i64 0)),.one (.v (.int .i64 0))] [(0,1,false),(1,1,false),(2,1,false)]),
 (33,.str [.one (.v (.int .i64 0)),.one (.v (.int .i64 0))] [(0,1,false),(1,1,false)]),
 (40,.one (.nilIface) .iface),
 (97,.one (.int .i64 0) (.int .i64)),
 (35,.str [.one (.v (.int .i64 0)),.one (.v (.int .i64 0)),.one (.v (.int .i64 0)),.one (.v (.int .i64 0)),.one (.v (.int .i64 0)),.one (.v (.int .i64 0)),.one (.v (.int .i64 0)),.one (.v (.int .i64 0)),.one (.v (.int .i64 0))] [(0,1,false),(1,1,false),(2,3,true),(5,2,true),(7,1,false),(8,1,false)]),
 (28,.one (.slice none 0 0) (.slice 35)),
 (65,.str [.one (.v (.int .i64 0)),.one (.v (.int .i64 0)),.one (.v (.int .i64 0)),.one (.v (.int .i64 0)),.one (.v (.int .i64 0)),.one (.v (.int .i64 0))] [(0,1,false),(1,3,true),(4,2,true)]),
 (48,.one (.slice none 0 0) (.slice 65)),
 (60,.arr [.ints (.int .u64) 32 (fun _=>0)] 32 1 false),
 (71,.arr [.ints (.int .u64) 17 (fun _=>0)] 17 1 false)]
theorem tabLz_ok:TabOk Tryz.prog tabLz:=.cons (⟨by kernel_rfl,by kernel_rfl,by kernel_rfl,by kernel_rfl,by kernel_rfl⟩) (.cons (⟨by kernel_rfl,by kernel_rfl,by kernel_rfl,by kernel_rfl,by kernel_rfl⟩) (.cons (⟨by kernel_rfl,by kernel_rfl,by kernel_rfl,by kernel_rfl,by kernel_rfl⟩) (.cons (⟨by kernel_rfl,by kernel_rfl,by kernel_rfl,by kernel_rfl,by kernel_rfl⟩) (.cons (⟨by kernel_rfl,by kernel_rfl,by kernel_rfl,by kernel_rfl⟩) (.cons (⟨by kernel_rfl,by kernel_rfl,by kernel_rfl,by kernel_rfl,by kernel_rfl⟩) (.cons (⟨by kernel_rfl,by kernel_rfl,by kernel_rfl,by kernel_rfl⟩) (.cons (⟨by kernel_rfl,by kernel_rfl,by kernel_rfl,by kernel_rfl⟩) (.cons (⟨by kernel_rfl,by kernel_rfl,by kernel_rfl,by kernel_rfl,by kernel_rfl⟩) (.cons (⟨by kernel_rfl,by kernel_rfl,by kernel_rfl,by kernel_rfl,by kernel_rfl⟩) (.cons (⟨by kernel_rfl,by kernel_rfl,by kernel_rfl,by kernel_rfl⟩) (.cons (⟨by kernel_rfl,by kernel_rfl,by kernel_rfl,by kernel_rfl,by kernel_rfl⟩) (.cons (⟨by kernel_rfl,by kernel_rfl,by kernel_rfl,by kernel_rfl⟩) (.cons (⟨by kernel_rfl,by kernel_rfl,by kernel_rfl,by kernel_rfl,by kernel_rfl⟩) (.cons (⟨by kernel_rfl,by kernel_rfl,by kernel_rfl,by kernel_rfl⟩) (.cons (⟨by kernel_rfl,by kernel_rfl,by kernel_rfl,by kernel_rfl⟩) (TabOk.nil _))))))))))))))))
theorem tabLz_tys:TysOk Tryz.prog tabLz:=TysOk.of (by kernel_rfl) (by kernel_rfl)
theorem walk_JudgeCut (a0:Int) (a1:Option Addr) (len1 cap1:Nat) (z1:Nat->Nat->Int) (a2:Int) (W:World) (hE:ErrType W) (w0:(Lit.int .i64 a0).wf=true) (w1:MvIn W a1 len1 cap1 z1) (w2:(Lit.int .i64 a2).wf=true):
 Calls Tryz.prog 13 #[.int .i64 a0,.slice a1 len1 cap1,.int .i64 a2] W fun e w'=>e=.returned (.bool true)/\Below W.heap.size W w':=by
 refine Qql (AG:=[]) (Γ:=[(15,.pure Qhf),(16,.inl Tryz.f16 (Tryz.f16.body.getD .skip)),(18,.pure QfT),(17,.inl Tryz.f17 (Tryz.f17.body.getD .skip)),(45,.mem (QiY W)),(39,.pure QcC),(27,.mem ddsC.sh),(22,.pure Qhg),(40,.mem Qc0)]) Tryz.func13 rfl tabLz_ok tabLz_tys
  (.cons (shops_con W _) (.cons (⟨by kernel_rfl,rfl,rfl⟩) (.cons (QqX W _) (.cons (⟨by kernel_rfl,rfl,rfl⟩) (.cons (play_con W) (.cons (QqY W hE) (.cons (ddsH W _) (.cons (Qon W _) (.cons (legal_con W _) (.nil _ _ _))))))))))
  [.c (.v (.int .i64 a0)),.c (.r a1 len1 cap1 len1 7 mvK z1),.c (.v (.int .i64 a2))] (.bool true) 400 rfl ?_ rfl
 refine Qi (q:=True/\True/\bif bif decide ((↑len1:Int)<=(120:Int))then false else true then SV.o (aB true)=SV.o (aB true)else True/\∃(s:PlS),[aI ((1:Int)+QgQ a0 (6:Int)),SA.c (.r a1 len1 cap1 len1 7 (fun (j:Nat)=>bif Nat.beq j 6 then .u64 else .i64) z1)]=[aI s.1,SA.c (.r s.2 s.3 s.4 s.3 7 (fun (j:Nat)=>bif Nat.beq j 6 then .u64 else .i64) s.5)]/\eN/\(((1:Int)<=s.1/\s.1<=(6:Int))/\s.3<=3000/\Rws 7 mvK W (PlS.a s) (PlS.n s) s.4 s.5/\∀(i:Nat),i<s.3->U64 (s.5 i 6))/\∀(x:List Nat),True->∃(s_1:Sh × Unit × List Nat),[aP 0 0]=[aP 0 0]/\[SB.abs (Qz shM ShS.z ShS.good (XW s.1 (mvL s.5 s.3))) x]=[SB.abs (Qz shM ShS.z ShS.good s_1.1) s_1.2.2]/\List.length s_1.1.7<=1000000000/\∀(x:List Nat × RwR),(List.length s_1.1.7<=x.2.1/\x.2.1<=x.2.2)/\IsR 6 Dd.at Dd.nil x.2.4 (List.map (fun (self:Vd)=>self.2) s_1.1.7)->List.length s_1.1.7<=x.2.2/\((0:Int)<IntKind.wrap .i64 ((↑(List.length s_1.1.7):Int)+(1:Int))/\IntKind.wrap .i64 ((↑(List.length s_1.1.7):Int)+(1:Int))<=(9223372036854775807:Int))/\((0:Int)<=QgQ a2 (IntKind.wrap .i64 ((↑(List.length s_1.1.7):Int)+(1:Int)))/\QgQ a2 (IntKind.wrap .i64 ((↑(List.length s_1.1.7):Int)+(1:Int)))<=(↑x.2.2:Int))/\∃(s:LgS),[aI ((1:Int)+QgQ a0 (6:Int)),SA.c (.so 1 0 6 (Int.toNat (QgQ a2 (IntKind.wrap .i64 ((↑(List.length s_1.1.7):Int)+(1:Int))))) x.2.2 x.2.3)]=[aI s.1,SA.c (.so 1 s.3 6 (List.length s.2) s.5 s.6)]/\[SB.rows 65 kI6 6 x.2.1 x.2.2 x.2.4]=[SB.rows 65 kI6 6 s.4 s.5 s.7]/\(((1:Int)<=s.1/\s.1<=(6:Int))/\Legal s.1 s.2/\List.length s.2<=1000000000/\(s.3+List.length s.2<=s.4/\s.4<=s.5)/\IsD (fun (i:Nat)=>s.7 (s.3+i)) s.2)/\∀(x_1:Unit),True->∃(s_2:LgS),[aI ((1:Int)+QgQ a0 (6:Int)),SA.c (.so 1 0 6 (List.length s_1.1.7) x.2.2 x.2.3)]=[aI s_2.1,SA.c (.so 1 s_2.3 6 (List.length s_2.2) s_2.5 s_2.6)]/\[SB.rows 65 kI6 6 s.4 s.5 s.7]=[SB.rows 65 kI6 6 s_2.4 s_2.5 s_2.7]/\(((1:Int)<=s_2.1/\s_2.1<=(6:Int))/\Legal s_2.1 s_2.2/\List.length s_2.2<=1000000000/\(s_2.3+List.length s_2.2<=s_2.4/\s_2.4<=s_2.5)/\IsD (fun (i:Nat)=>s_2.7 (s_2.3+i)) s_2.2)/\∀(x:Unit),True->SV.o (aB true)=SV.o (aB true)) (by kernel_rfl) ?_
 have k1:1<=1+QgQ a0 6:=by have:=QeI a0 6 (by decide);omega
 have k6:1+QgQ a0 6<=6:=by have:=Qjr a0 6 (by decide);omega
 generalize 1+QgQ a0 6=K at k1 k6 ⊢
 refine⟨trivial,trivial,Qi3 (fun _=>rfl) (fun hh=>⟨trivial,⟨K,a1,len1,cap1,z1⟩,rfl,rfl,⟨⟨k1,k6⟩,(by show len1<=3000;omega),w1.1,w1.2⟩,fun x _=>?_⟩)⟩
 obtain⟨g,F,hs⟩:=QjN k1 k6 len1 (mvL z1 len1) (Qqq z1 len1) (by omega)
 have hs2:(XW K (mvL z1 len1)).steps<=120000:=by omega
 have hL:=F.lens (by omega)
 have hT:=F.steps0
 have hI:=F.i
 generalize XW K (mvL z1 len1)=Z at *
 have hS:=hI.gl.sumR
 have hml:(Z.deeds.map Vd.d).length=Z.deeds.length:=List.length_map _
 have hw:IntKind.wrap .i64 ((Z.deeds.length:Int)+1)=(Z.deeds.length:Int)+1:=QC (by omega) (by omega)
 refine⟨(Z,(),x),rfl,rfl,hL.2,fun y hy=>?_⟩
 dsimp only
 rw[hw]
 have p0:=QeI a2 ((Z.deeds.length:Int)+1) (by omega)
 have p1:=Qjr a2 ((Z.deeds.length:Int)+1) (by omega)
 generalize QgQ a2 ((Z.deeds.length:Int)+1)=q at *
 obtain⟨n,rfl⟩:=Int.eq_ofNat_of_zero_le p0
 have hn:n<=(Z.deeds.map Vd.d).length:=by omega
 have htl:((Z.deeds.map Vd.d).take n).length=n:=by rw[List.length_take];omega
 have hd:Z.deeds.length<=y.2.m/\y.2.m<=y.2.c:=hy.1
 have hI2:IsD y.2.z (Z.deeds.map Vd.d):=IsD.of_rows hy.2
 rw[Int.toNat_natCast]
 refine⟨by omega,⟨by omega,by omega⟩,⟨by omega,by omega⟩,⟨K,(Z.deeds.map Vd.d).take n,0,y.2.m,y.2.c,y.2.nn,y.2.z⟩,congrArg (fun q=>[SA.c (SC.v (.int .i64 K)),SA.c (SC.so 1 0 6 q y.2.c y.2.nn)]) htl.symm,rfl,⟨⟨k1,k6⟩,(hS.legal.take n hn).1,(by show ((Z.deeds.map Vd.d).take n).length<=1000000000;omega),⟨(by show 0+((Z.deeds.map Vd.d).take n).length<=y.2.m;omega),hy.1.2⟩,fun i hi=>?_⟩,fun _ _=>⟨⟨K,Z.deeds.map Vd.d,0,y.2.m,y.2.c,y.2.nn,y.2.z⟩,congrArg (fun q=>[SA.c (SC.v (.int .i64 K)),SA.c (SC.so 1 0 6 q y.2.c y.2.nn)]) hml.symm,rfl,⟨⟨k1,k6⟩,hS.legal,(by show (Z.deeds.map Vd.d).length<=1000000000;rw[hml];exact hL.2),⟨(by show 0+(Z.deeds.map Vd.d).length<=y.2.m;omega),hy.1.2⟩,fun i hi=>(by show ((Z.deeds.map Vd.d).getD i Dd.nil).is (y.2.z (0+i));rw[Nat.zero_add];exact hI2 i hi)⟩,fun _ _=>rfl⟩⟩
 show (((Z.deeds.map Vd.d).take n).getD i Dd.nil).is (y.2.z (0+i))
 have hi:i<((Z.deeds.map Vd.d).take n).length:=hi
 rw[Nat.zero_add,show ((Z.deeds.map Vd.d).take n).getD i Dd.nil=(Z.deeds.map Vd.d).getD i Dd.nil from ?_]
 · exact hI2 i (by omega)
 · have:=Qar (m:=(Z.deeds.map Vd.d).drop n) (d:=Dd.nil) hi
   rw[List.take_append_drop]at this;exact this.symm
end Go.Proofs.YtinijfhoenajkaaGreatDoor
