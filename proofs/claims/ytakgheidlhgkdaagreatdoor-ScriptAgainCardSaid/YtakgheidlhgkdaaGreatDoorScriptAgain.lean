/- ScriptAgain: the walk of the law. -/
import Derived.Test.YtakgheidlhgkdaaGreatDoorZL5
namespace Go.Proofs.YtakgheidlhgkdaaGreatDoor
open Go.RowKit
set_option linter.unusedVariables false
set_option maxRecDepth 100000
set_option maxHeartbeats 4000000
/-- Decoded moves can be played. -/
theorem dec_u64 {b:ByteArray}{z:Nat->Nat->Int}{n:Nat}(hz:mvL z n=decL (bF b) b.size):n<=b.size/\∀i,i<n->U64 (z i 6):=by
 obtain⟨k1,k2,-⟩:=QpZ (QoT b) b.size b.size 0 0
 have hlen:n=(decN (bF b) b.size b.size 0 0).length:=(QpO z n).symm.trans (congrArg List.length hz)
 refine⟨by omega,fun i hi=>?_⟩
 have ok:MvOk (mvAt z i):=k1 _ (by
  show mvAt z i∈decL (bF b) b.size
  rw[<- hz];exact List.mem_map.2 ⟨i,List.mem_range.2 hi,rfl⟩)
 exact ok.l
def tabDw:Tab:=[(3,.one (.int .i64 0) (.int .i64)),
 (27,.one (.int .u64 0) (.int .u64)),
 (4,.one (.bool false) .bool),
 (9,.one (.string ⟨#[]⟩) .str),
 (5,.one (.int .u8 0) (.int .u8)),
 (35,.one (.pointer none) (.ptr 73)),
 (29,.str [.one (.v (.int .i64 0)),.one (.v (.int .i64 0)),.one (.v (.int .i64 0)),.one (.v (.int .i64 0)),.one (.v (.int .i64 0)),.one (.v (.int .i64 0)),.one (.v (.int .u64 0))] [(0,1,false),(1,1,false),(2,3,true),(5,1,false),(6,1,false)]),
 (23,.one (.slice none 0 0) (.slice 29)),
 (26,.str [.one (.v (.int .i64 0)),.one (.v (.int .i64 0)),.one (.v (.int .i64 0))] [(0,1,false),(1,1,false),(2,1,false)]),
 (40,.str [.one (.v (.int .i64 0)),.one (.v (.int .i64 0))] [(0,1,false),(1,1,false)]),
 (54,.one (.nilIface) .iface),
 (92,.one (.int .i64 0) (.int .i64)),
 (42,.str [.one (.v (.int .i64 0)),.one (.v (.int .i64 0)),.one (.v (.int .i64 0)),.one (.v (.int .i64 0)),.one (.v (.int .i64 0)),.one (.v (.int .i64 0)),.one (.v (.int .i64 0)),.one (.v (.int .i64 0)),.one (.v (.int .i64 0))] [(0,1,false),(1,1,false),(2,3,true),(5,2,true),(7,1,false),(8,1,false)]),
 (38,.one (.slice none 0 0) (.slice 42)),
 (47,.str [.one (.v (.int .i64 0)),.one (.v (.int .i64 0)),.one (.v (.int .i64 0)),.one (.v (.int .i64 0)),.one (.v (.int .i64 0)),.one (.v (.int .i64 0))] [(0,1,false),(1,3,true),(4,2,true)]),
 (45,.one (.slice none 0 0) (.slice 47)),
 (50,.arr [.ints (.int .u64) 32 (fun _=>0)] 32 1 false)]
theorem tabDw_ok:TabOk Tryz.prog tabDw:=.cons (⟨by kernel_rfl,by kernel_rfl,by kernel_rfl,by kernel_rfl,by kernel_rfl⟩) (.cons (⟨by kernel_rfl,by kernel_rfl,by kernel_rfl,by kernel_rfl,by kernel_rfl⟩) (.cons (⟨by kernel_rfl,by kernel_rfl,by kernel_rfl,by kernel_rfl,by kernel_rfl⟩) (.cons (⟨by kernel_rfl,by kernel_rfl,by kernel_rfl,by kernel_rfl,by kernel_rfl⟩) (.cons (⟨by kernel_rfl,by kernel_rfl,by kernel_rfl,by kernel_rfl,by kernel_rfl⟩) (.cons (⟨by kernel_rfl,by kernel_rfl,by kernel_rfl,by kernel_rfl,by kernel_rfl⟩) (.cons (⟨by kernel_rfl,by kernel_rfl,by kernel_rfl,by kernel_rfl⟩) (.cons (⟨by kernel_rfl,by kernel_rfl,by kernel_rfl,by kernel_rfl,by kernel_rfl⟩) (.cons (⟨by kernel_rfl,by kernel_rfl,by kernel_rfl,by kernel_rfl⟩) (.cons (⟨by kernel_rfl,by kernel_rfl,by kernel_rfl,by kernel_rfl⟩) (.cons (⟨by kernel_rfl,by kernel_rfl,by kernel_rfl,by kernel_rfl,by kernel_rfl⟩) (.cons (⟨by kernel_rfl,by kernel_rfl,by kernel_rfl,by kernel_rfl,by kernel_rfl⟩) (.cons (⟨by kernel_rfl,by kernel_rfl,by kernel_rfl,by kernel_rfl⟩) (.cons (⟨by kernel_rfl,by kernel_rfl,by kernel_rfl,by kernel_rfl,by kernel_rfl⟩) (.cons (⟨by kernel_rfl,by kernel_rfl,by kernel_rfl,by kernel_rfl⟩) (.cons (⟨by kernel_rfl,by kernel_rfl,by kernel_rfl,by kernel_rfl,by kernel_rfl⟩) (.cons (⟨by kernel_rfl,by kernel_rfl,by kernel_rfl,by kernel_rfl⟩) (TabOk.nil _)))))))))))))))))
theorem tabDw_tys:TysOk Tryz.prog tabDw:=TysOk.of (by kernel_rfl) (by kernel_rfl)
theorem walk_ScriptAgain (a0:Int) (a1:ByteArray) (w0:(Lit.int .i64 a0).wf=true) (w1:a1.size<=maxLen) (W:World) (hE:ErrType W):
 Calls Tryz.prog 5 #[.int .i64 a0,.string a1] W fun e w'=>e=.returned (.bool true)/\Below W.heap.size W w':=by
 refine QpJ (AG:=[]) (Γ:=[(6,.pure QgW),(10,.pure Qfz),(7,.mem Qjz),(11,.inl Tryz.f11 (Tryz.f11.body.getD .skip)),(26,.mem QgX),(13,.mem hisC.sh),(15,.mem ddsC.sh),(16,.mem recC.sh),(12,.mem QfB),(14,.mem QfC)]) Tryz.func5 rfl tabDw_ok tabDw_tys
  (.cons (shops_con W _) (.cons (Qqp W _) (.cons (dec_con W _) (.cons (⟨by kernel_rfl,rfl,rfl⟩) (.cons (playO_con W _) (.cons (hisH W _) (.cons (ddsH W _) (.cons (recH W _) (.cons (eqrE_con W _) (.cons (eqrD_con W _) (.nil _ _ _)))))))))))
  [.c (.v (.int .i64 a0)),.c (.v (.string a1))] (.bool true) 400 rfl ?_ rfl
 refine Qj (q:=True/\bif decide ((↑(ByteArray.size a1):Int)>(300:Int))then SV.o (aB true)=SV.o (aB true)else True/\∃(s:ByteArray),[SA.c (.v (.string a1))]=[SA.c (.v (.string s))]/\eN/\ByteArray.size s<=4000/\∀(x:DcR),(x.1<=x.2/\x.2<=x.3)/\mvL x.5 x.1=decL (fun (i:Nat)=>UInt8.toNat (match List.get?Internal (ByteArray.data s).1 i with|some x=>x|none=>(0:UInt8))) (ByteArray.size s)->∃(s:PlO),[aI ((1:Int)+Qgx a0 (6:Int)),SA.c (.so 0 0 7 x.1 x.3 x.4)]=[aI s.1,SA.c (.so 0 0 7 s.2 s.4 s.5)]/\[SB.rows 29 [.int .i64,.int .i64,.int .i64,.int .i64,.int .i64,.int .i64,.int .u64] 7 x.2 x.3 x.5]=[SB.rows 29 [.int .i64,.int .i64,.int .i64,.int .i64,.int .i64,.int .i64,.int .u64] 7 s.3 s.4 s.6]/\(((1:Int)<=s.1/\s.1<=(6:Int))/\s.2<=3000/\(s.2<=s.3/\s.3<=s.4)/\∀(i:Nat),i<s.2->U64 (s.6 i 6))/\∀(x:List Nat),True->∃(s_1:ByteArray),[SA.c (.v (.string a1))]=[SA.c (.v (.string s_1))]/\eN/\ByteArray.size s_1<=4000/\∀(x_1:DcR),(x_1.1<=x_1.2/\x_1.2<=x_1.3)/\mvL x_1.5 x_1.1=decL (fun (i:Nat)=>UInt8.toNat (match List.get?Internal (ByteArray.data s_1).1 i with|some x=>x|none=>(0:UInt8))) (ByteArray.size s_1)->∃(s_2:PlO),[aI ((1:Int)+Qgx a0 (6:Int)),SA.c (.so 2 0 7 x_1.1 x_1.3 x_1.4)]=[aI s_2.1,SA.c (.so 2 0 7 s_2.2 s_2.4 s_2.5)]/\[SB.rows 29 [.int .i64,.int .i64,.int .i64,.int .i64,.int .i64,.int .i64,.int .u64] 7 x_1.2 x_1.3 x_1.5]=[SB.rows 29 [.int .i64,.int .i64,.int .i64,.int .i64,.int .i64,.int .i64,.int .u64] 7 s_2.3 s_2.4 s_2.6]/\(((1:Int)<=s_2.1/\s_2.1<=(6:Int))/\s_2.2<=3000/\(s_2.2<=s_2.3/\s_2.3<=s_2.4)/\∀(i:Nat),i<s_2.2->U64 (s_2.6 i 6))/\∀(x_2:List Nat),True->∃(s_3:Sh × Unit × List Nat),[aP 1 0]=[aP 1 0]/\[SB.abs (QB shM ShS.z ShS.good (Qao s.1 (mvL s.6 s.2))) x]=[SB.abs (QB shM ShS.z ShS.good s_3.1) s_3.2.2]/\List.length s_3.1.6<=1000000000/\∀(x:List Nat × RwR),(List.length s_3.1.6<=x.2.1/\x.2.1<=x.2.2)/\IsE x.2.4 s_3.1.6->∃(s:Sh × Unit × List Nat),[aP 3 0]=[aP 3 0]/\[SB.abs (QB shM ShS.z ShS.good (Qao s_2.1 (mvL s_2.6 s_2.2))) x_2]=[SB.abs (QB shM ShS.z ShS.good s.1) s.2.2]/\List.length s.1.6<=1000000000/\∀(x_3:List Nat × RwR),(List.length s.1.6<=x_3.2.1/\x_3.2.1<=x_3.2.2)/\IsE x_3.2.4 s.1.6->∃(s_4:EqRS Ev),[SA.c (.so 4 0 9 (List.length s_3.1.6) x.2.2 x.2.3),SA.c (.so 5 0 9 (List.length s.1.6) x_3.2.2 x_3.2.3)]=[SA.c (.so 4 0 9 (List.length s_4.1) s_4.3 s_4.4),SA.c (.so 5 0 9 (List.length s_4.1) s_4.7 s_4.8)]/\[SB.rows 42 kI9 9 x.2.1 x.2.2 x.2.4,SB.rows 42 kI9 9 x_3.2.1 x_3.2.2 x_3.2.4]=[SB.rows 42 kI9 9 s_4.2 s_4.3 s_4.5,SB.rows 42 kI9 9 s_4.6 s_4.7 s_4.9]/\(List.length s_4.1<=1000000000/\(List.length s_4.1<=s_4.2/\s_4.2<=s_4.3)/\IsR 9 Ev.at Ev.nil s_4.5 s_4.1/\(List.length s_4.1<=s_4.6/\s_4.6<=s_4.7)/\IsR 9 Ev.at Ev.nil s_4.9 s_4.1)/\∀(x_4:Unit),True->∃(s_5:Sh × Unit × List Nat),[aP 1 0]=[aP 1 0]/\[SB.abs (QB shM ShS.z ShS.good s_3.1) x.1]=[SB.abs (QB shM ShS.z ShS.good s_5.1) s_5.2.2]/\List.length s_5.1.7<=1000000000/\∀(x:List Nat × RwR),(List.length s_5.1.7<=x.2.1/\x.2.1<=x.2.2)/\IsR 6 Dd.at Dd.nil x.2.4 (List.map (fun (self:Vd)=>self.2) s_5.1.7)->∃(s_6:Sh × Unit × List Nat),[aP 3 0]=[aP 3 0]/\[SB.abs (QB shM ShS.z ShS.good s.1) x_3.1]=[SB.abs (QB shM ShS.z ShS.good s_6.1) s_6.2.2]/\List.length s_6.1.7<=1000000000/\∀(x_5:List Nat × RwR),(List.length s_6.1.7<=x_5.2.1/\x_5.2.1<=x_5.2.2)/\IsR 6 Dd.at Dd.nil x_5.2.4 (List.map (fun (self:Vd)=>self.2) s_6.1.7)->∃(s:EqRS Dd),[SA.c (.so 6 0 6 (List.length s_5.1.7) x.2.2 x.2.3),SA.c (.so 7 0 6 (List.length s_6.1.7) x_5.2.2 x_5.2.3)]=[SA.c (.so 6 0 6 (List.length s.1) s.3 s.4),SA.c (.so 7 0 6 (List.length s.1) s.7 s.8)]/\[SB.rows 47 kI6 6 x.2.1 x.2.2 x.2.4,SB.rows 47 kI6 6 x_5.2.1 x_5.2.2 x_5.2.4]=[SB.rows 47 kI6 6 s.2 s.3 s.5,SB.rows 47 kI6 6 s.6 s.7 s.9]/\(List.length s.1<=1000000000/\(List.length s.1<=s.2/\s.2<=s.3)/\IsR 6 Dd.at Dd.nil s.5 s.1/\(List.length s.1<=s.6/\s.6<=s.7)/\IsR 6 Dd.at Dd.nil s.9 s.1)/\∀(x_6:Unit),True->∃(s:Sh × Unit × List Nat),[aP 1 0]=[aP 1 0]/\[SB.abs (QB shM ShS.z ShS.good s_5.1) x.1]=[SB.abs (QB shM ShS.z ShS.good s.1) s.2.2]/\((0:Int)<=(Sh.s s.1).1 0/\(Sh.s s.1).1 0<(1000000000:Int))/\∀(x:List Nat × Unit),True->∃(s_7:Sh × Unit × List Nat),[aP 3 0]=[aP 3 0]/\[SB.abs (QB shM ShS.z ShS.good s_6.1) x_5.1]=[SB.abs (QB shM ShS.z ShS.good s_7.1) s_7.2.2]/\((0:Int)<=(Sh.s s_7.1).1 0/\(Sh.s s_7.1).1 0<(1000000000:Int))/\∀(x:List Nat × Unit),True->SV.o (aB (bif decide ([Sh.cur s.1 0,Sh.cur s.1 1,Sh.cur s.1 2,Sh.cur s.1 3,Sh.cur s.1 4,Sh.cur s.1 5,Sh.cur s.1 6,Sh.cur s.1 7,Sh.cur s.1 8,Sh.cur s.1 9,Sh.cur s.1 10,Sh.cur s.1 11,Sh.cur s.1 12,Sh.cur s.1 13,Sh.cur s.1 14,Sh.cur s.1 15,Sh.cur s.1 16,Sh.cur s.1 17,Sh.cur s.1 18,Sh.cur s.1 19,Sh.cur s.1 20,Sh.cur s.1 21,Sh.cur s.1 22,Sh.cur s.1 23,Sh.cur s.1 24,Sh.cur s.1 25,Sh.cur s.1 26,Sh.cur s.1 27,Sh.cur s.1 28,Sh.cur s.1 29,Sh.cur s.1 30,Sh.cur s.1 31]=[Sh.cur s_7.1 0,Sh.cur s_7.1 1,Sh.cur s_7.1 2,Sh.cur s_7.1 3,Sh.cur s_7.1 4,Sh.cur s_7.1 5,Sh.cur s_7.1 6,Sh.cur s_7.1 7,Sh.cur s_7.1 8,Sh.cur s_7.1 9,Sh.cur s_7.1 10,Sh.cur s_7.1 11,Sh.cur s_7.1 12,Sh.cur s_7.1 13,Sh.cur s_7.1 14,Sh.cur s_7.1 15,Sh.cur s_7.1 16,Sh.cur s_7.1 17,Sh.cur s_7.1 18,Sh.cur s_7.1 19,Sh.cur s_7.1 20,Sh.cur s_7.1 21,Sh.cur s_7.1 22,Sh.cur s_7.1 23,Sh.cur s_7.1 24,Sh.cur s_7.1 25,Sh.cur s_7.1 26,Sh.cur s_7.1 27,Sh.cur s_7.1 28,Sh.cur s_7.1 29,Sh.cur s_7.1 30,Sh.cur s_7.1 31])then true else false))=SV.o (aB true)) (by kernel_rfl) ?_
 have k1:1<=1+Qgx a0 6:=by have:=Qes a0 6 (by decide);omega
 have k6:1+Qgx a0 6<=6:=by have:=Qja a0 6 (by decide);omega
 generalize 1+Qgx a0 6=K at k1 k6 ⊢
 refine⟨trivial,Qo (fun _=>rfl) (fun hl=>⟨trivial,a1,rfl,rfl,(by omega),?_⟩)⟩
 rintro⟨n,m,c,nn,z⟩ ⟨hm,hz⟩
 have hm:n<=m/\m<=c:=hm
 have hz:mvL z n=decL (bF a1) a1.size:=hz
 obtain⟨hn,hu⟩:=dec_u64 hz
 refine⟨⟨K,n,m,c,nn,z⟩,rfl,rfl,⟨⟨k1,k6⟩,(by show n<=3000;omega),hm,hu⟩,fun x1 _=>⟨a1,rfl,rfl,(by omega),?_⟩⟩
 rintro⟨n2,m2,c2,nn2,z2⟩ ⟨hm2,hz2⟩
 have hm2:n2<=m2/\m2<=c2:=hm2
 have hz2:mvL z2 n2=decL (bF a1) a1.size:=hz2
 obtain⟨hn2,hu2⟩:=dec_u64 hz2
 refine⟨⟨K,n2,m2,c2,nn2,z2⟩,rfl,rfl,⟨⟨k1,k6⟩,(by show n2<=3000;omega),hm2,hu2⟩,fun x2 _=>?_⟩
 obtain⟨g,F,hs⟩:=Qju k1 k6 n (mvL z n) (QpO z n) (by omega)
 have hf:Qao K (mvL z2 n2)=Qao K (mvL z n):=by rw[hz,hz2]
 obtain⟨Q,hQ⟩:∃Q,Q=Qao K (mvL z n):=⟨_,rfl⟩
 rw[<- hQ]at hf F hs
 have hL:=F.lens (by omega)
 have hv:=F.ver (by omega)
 refine⟨(Q,(),x1),rfl,abGo x1 hQ.symm,hL.1,fun y hy=>⟨(Q,(),x2),rfl,abGo x2 hf,hL.1,fun y2 hy2=>⟨eqEs Q.hist y.2 y2.2,rfl,rfl,⟨hL.1,hy.1,hy.2,hy2.1,hy2.2⟩,fun _ _=>⟨(Q,(),y.1),rfl,rfl,hL.2,fun y3 hy3=>⟨(Q,(),y2.1),rfl,rfl,hL.2,fun y4 hy4=>⟨eqDs Q.deeds y3.2 y4.2,eqDs_args Q.deeds _ _ _ _,rfl,eqDs_pre hL.2 hy3 hy4,fun _ _=>⟨(Q,(),y3.1),rfl,rfl,hv,fun y5 _=>⟨(Q,(),y4.1),rfl,rfl,hv,fun _ _=>svB ?_⟩⟩⟩⟩⟩⟩⟩⟩
 exact congrArg (fun b=>bif b then true else false) (decide_eq_true rfl)
end Go.Proofs.YtakgheidlhgkdaaGreatDoor
