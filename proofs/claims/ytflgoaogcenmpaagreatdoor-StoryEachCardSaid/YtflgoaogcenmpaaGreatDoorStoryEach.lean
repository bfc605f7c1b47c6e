/- StoryEach: the walk of the law. -/
import Derived.Test.YtflgoaogcenmpaaGreatDoorZP5
namespace Go.Proofs.YtflgoaogcenmpaaGreatDoor
open Go.RowKit
set_option linter.unusedVariables false
set_option maxRecDepth 100000
set_option maxHeartbeats 4000000
structure SeG (z:Sh) where
 i:Nat
 m:Nat
 c:Nat
 nn:Bool
 f:Nat->Nat->Int
 hi:i<=z.hist.length
 hm:z.hist.length<=m/\m<=c
 hz:IsE f z.hist
 m2:Nat
 c2:Nat
 y:Nat->Nat->Int
 hm2:z.hist.length+1<=m2/\m2<=c2
 hy:∀k,k<z.hist.length->sD (y k 0)=bsQ (QaB (f k))
def annSe (z:Sh):Ann where
 σ:=SeG z
 I g:=([(6,.o (.c (.so 0 0 9 z.hist.length g.c g.nn))),(7,.o (.c (.so 1 0 1 (z.hist.length+1) g.c2 true))),(44,sv (.int .i64 z.hist.length)),(45,sv (.int .i64 g.i))],[evB g.m g.c g.f,rowsX g.m2 g.c2 g.y])
 dec g:=z.hist.length-g.i
 pi env _:=[blkE env 6,blkE env 7]
 nz:=[]
theorem ev_in {K:Int}{z:Sh}{g:Gh}(F:Fin2 K z g) (hs:z.steps<=120000) {f:Nat->Nat->Int}(hz:IsE f z.hist):∀i,i<z.hist.length->EvIn (f i):=fun i hi=>by
 obtain⟨I,of,H⟩:=F.f
 have hl:=F.fi.lens (by omega)
 have hn:=I.gl.nle
 have h:=fun j hj=>hz i hi j hj
 have he:=H.ev (z.hist.getD i Ev.nil) (by rw[List.getD_eq_getElem?_getD,List.getElem?_eq_getElem hi];exact List.getElem_mem _)
 generalize z.hist.getD i Ev.nil=e at *
 have e0:f i 0=e.kind:=h 0 (by decide)
 have e1:f i 1=e.t:=h 1 (by decide)
 have e7:f i 7=e.whn:=h 7 (by decide)
 have e8:f i 8=e.step:=h 8 (by decide)
 unfold EvIn
 rw[e0,e1,e7,e8]
 refine⟨fun hk=>?_,fun hk=>?_,?_⟩
 · obtain⟨t,ht,h⟩:=he.t hk
   omega
 · obtain⟨j,hj,hjn,-⟩:=he.ans hk
   omega
 · have h0:=he.s0
   have h1:=he.s1
   omega
theorem pc_at (f:Nat->Nat->Int) {n k:Nat}(h:k<n):pcOf ((QbQ f n++[[]]).map bsQ) k=bsQ (QaB (f k)):=by
 rw[Qmy,List.getD_eq_getElem?_getD,List.getElem?_map,List.getElem?_append_left (by rw[Qrv];exact h),linesL_at f h];rfl
theorem pc_end (f:Nat->Nat->Int) (n:Nat):pcOf ((QbQ f n++[[]]).map bsQ) n=bsQ []:=by
 rw[Qmy,List.getD_eq_getElem?_getD,List.getElem?_map,List.getElem?_append_right (by rw[Qrv];exact Nat.le_refl _),Qrv,Nat.sub_self];rfl
theorem ev9_eq (f:Nat->Int):QaB (ev9 (f 0) (f 1) (f 2) (f 3) (f 4) (f 5) (f 6) (f 7) (f 8))=QaB f:=rfl
def tabSe:Tab:=[(3,.one (.int .i64 0) (.int .i64)),
 (4,.one (.bool false) .bool),
 (9,.one (.string ⟨#[]⟩) .str),
 (67,.one (.pointer none) (.ptr 122)),
 (181,.str [.one (.v (.int .i64 0)),.one (.v (.int .i64 0)),.one (.v (.int .i64 0)),.one (.v (.int .i64 0)),.one (.v (.int .i64 0)),.one (.v (.int .i64 0)),.one (.v (.int .u64 0))] [(0,1,false),(1,1,false),(2,3,true),(5,1,false),(6,1,false)]),
 (65,.one (.slice none 0 0) (.slice 181)),
 (32,.str [.one (.v (.int .i64 0)),.one (.v (.int .i64 0)),.one (.v (.int .i64 0))] [(0,1,false),(1,1,false),(2,1,false)]),
 (40,.str [.one (.v (.int .i64 0)),.one (.v (.int .i64 0))] [(0,1,false),(1,1,false)]),
 (49,.one (.nilIface) .iface),
 (91,.one (.int .i64 0) (.int .i64)),
 (76,.str [.one (.v (.int .i64 0)),.one (.v (.int .i64 0)),.one (.v (.int .i64 0)),.one (.v (.int .i64 0)),.one (.v (.int .i64 0)),.one (.v (.int .i64 0)),.one (.v (.int .i64 0)),.one (.v (.int .i64 0)),.one (.v (.int .i64 0))] [(0,1,false),(1,1,false),(2,3,true),(5,2,true),(7,1,false),(8,1,false)]),
 (69,.one (.slice none 0 0) (.slice 76)),
 (71,.one (.slice none 0 0) (.slice 9))]
theorem tabSe_ok:TabOk Tryz.prog tabSe:=.cons (⟨by kernel_rfl,by kernel_rfl,by kernel_rfl,by kernel_rfl,by kernel_rfl⟩) (.cons (⟨by kernel_rfl,by kernel_rfl,by kernel_rfl,by kernel_rfl,by kernel_rfl⟩) (.cons (⟨by kernel_rfl,by kernel_rfl,by kernel_rfl,by kernel_rfl,by kernel_rfl⟩) (.cons (⟨by kernel_rfl,by kernel_rfl,by kernel_rfl,by kernel_rfl,by kernel_rfl⟩) (.cons (⟨by kernel_rfl,by kernel_rfl,by kernel_rfl,by kernel_rfl⟩) (.cons (⟨by kernel_rfl,by kernel_rfl,by kernel_rfl,by kernel_rfl,by kernel_rfl⟩) (.cons (⟨by kernel_rfl,by kernel_rfl,by kernel_rfl,by kernel_rfl⟩) (.cons (⟨by kernel_rfl,by kernel_rfl,by kernel_rfl,by kernel_rfl⟩) (.cons (⟨by kernel_rfl,by kernel_rfl,by kernel_rfl,by kernel_rfl,by kernel_rfl⟩) (.cons (⟨by kernel_rfl,by kernel_rfl,by kernel_rfl,by kernel_rfl,by kernel_rfl⟩) (.cons (⟨by kernel_rfl,by kernel_rfl,by kernel_rfl,by kernel_rfl⟩) (.cons (⟨by kernel_rfl,by kernel_rfl,by kernel_rfl,by kernel_rfl,by kernel_rfl⟩) (.cons (⟨by kernel_rfl,by kernel_rfl,by kernel_rfl,by kernel_rfl,by kernel_rfl⟩) (TabOk.nil _)))))))))))))
theorem tabSe_tys:TysOk Tryz.prog tabSe:=TysOk.of (by kernel_rfl) (by kernel_rfl)
theorem walk_StoryEach (a0:Int) (a1:Option Addr) (len1 cap1:Nat) (z1:Nat->Nat->Int) (W:World) (hL:TxLaid W) (hM:∃m,W.cell? ⟨3,0,none⟩=some (.int .i64 m)) (w0:(Lit.int .i64 a0).wf=true) (w1:MvIn W a1 len1 cap1 z1):
 Calls Tryz.prog 6 #[.int .i64 a0,.slice a1 len1 cap1] W fun e w'=>e=.returned (.bool true)/\Below W.heap.size W w':=by
 refine QqO (AG:=[(6,[(0,annSe (XV (1+QgO a0 6) (mvL z1 len1)))])]) (Γ:=[(23,.inl Tryz.f23 (Tryz.f23.body.getD .skip)),(16,.pure Qj2),(30,.pure Qdx),(24,.pure Qhd),(25,.inl Tryz.f25 (Tryz.f25.body.getD .skip)),(8,.pure QfS),(26,.inl Tryz.f26 (Tryz.f26.body.getD .skip)),(55,.mem (Qi2 W)),(27,.mem hisC.sh),(29,.rd Qrc),(28,.rd Qj1)]) Tryz.func6 rfl tabSe_ok tabSe_tys
  (.cons ⟨by kernel_rfl,rfl,rfl⟩ (.cons (QqJ W _) (.cons (Qo0 W hL) (.cons (shops_con W _) (.cons (⟨by kernel_rfl,rfl,rfl⟩) (.cons (Qrw W _) (.cons (⟨by kernel_rfl,rfl,rfl⟩) (.cons (play_con W) (.cons (hisH W _) (.cons (prtS_con W hL) (.cons (split_con W hM) (.nil _ _ _))))))))))))
  [.c (.v (.int .i64 a0)),.c (.r a1 len1 cap1 len1 7 mvK z1)] (.bool true) 600 rfl ?_ rfl
 refine Qi (q:=True/\(EvIn fun (x:Nat)=>match x with|0=>(2:Int)|1=>(2:Int)|2=>(1:Int)|3=>(0:Int)|4=>(3:Int)|5=>(1:Int)|6=>(0:Int)|7=>(4:Int)|8=>(9:Int)|x=>(0:Int))/\True/\bif bif decide ((↑len1:Int)<=(120:Int))then false else true then SV.o (aB true)=SV.o (aB true)else True/\∃(s:PlS),[aI ((1:Int)+QgO a0 (6:Int)),SA.c (.r a1 len1 cap1 len1 7 (fun (j:Nat)=>bif Nat.beq j 6 then .u64 else .i64) z1)]=[aI s.1,SA.c (.r s.2 s.3 s.4 s.3 7 (fun (j:Nat)=>bif Nat.beq j 6 then .u64 else .i64) s.5)]/\eN/\(((1:Int)<=s.1/\s.1<=(6:Int))/\s.3<=3000/\Rws 7 mvK W (PlS.a s) (PlS.n s) s.4 s.5/\∀(i:Nat),i<s.3->U64 (s.5 i 6))/\∀(x:List Nat),True->∃(s_1:Sh × Unit × List Nat),[aP 0 0]=[aP 0 0]/\[SB.abs (QE shM ShS.z ShS.good (XV s.1 (mvL s.5 s.3))) x]=[SB.abs (QE shM ShS.z ShS.good s_1.1) s_1.2.2]/\List.length s_1.1.6<=1000000000/\∀(x:List Nat × RwR),(List.length s_1.1.6<=x.2.1/\x.2.1<=x.2.2)/\IsE x.2.4 s_1.1.6->∃(s:EvO),[SA.c (.so 1 0 9 (List.length s_1.1.6) x.2.2 x.2.3)]=[SA.c (.so 1 0 9 s.1 s.3 s.4)]/\[SB.rows 76 kI9 9 x.2.1 x.2.2 x.2.4]=[SB.rows 76 kI9 9 s.2 s.3 s.5]/\(s.1<=1000000/\s.1<=s.2/\∀(i:Nat),i<s.1->EvIn (s.5 i))/\∀(x_1:Unit),True->∃(s_2:SplS),[SA.c (.v (.string (bsV (QaO (QbQ s.5 s.1))))),SA.c (.v (.string (ByteArray.mk (Array.mk [(10:UInt8)]))))]=[SA.c (.v (.string s_2.1)),SA.c (.v (.string s_2.2))]/\eN/\(ByteArray.size s_2.1<4294967281/\1<=ByteArray.size s_2.2/\Lib.countB s_2.1 s_2.2<=1000000/\List.length (Lib.splitB s_2.2 0 (Lib.countB s_2.1 s_2.2) s_2.1)=Lib.countB s_2.1 s_2.2+1)/\∀(x_2:Unit),True->Lib.countB s_2.1 s_2.2+1<=Lib.countB s_2.1 s_2.2+1/\List.length s_1.1.6<=x.2.2/\bif (↑(Lib.countB s_2.1 s_2.2+1):Int) != IntKind.wrap .i64 ((↑(List.length s_1.1.6):Int)+(1:Int))then SV.o (aB false)=SV.o (aB true)else List.length s_1.1.6<=x.2.2/\((0:Int)<=(↑(List.length s_1.1.6):Int)/\(↑(List.length s_1.1.6):Int)<(↑(Lib.countB s_2.1 s_2.2+1):Int)/\0+Lib.countB s_2.1 s_2.2+1<=Lib.countB s_2.1 s_2.2+1)/\0+Int.toNat (↑(List.length s_1.1.6):Int)<Lib.countB s_2.1 s_2.2+1/\bif bif ByteArray.toList (sD (sE (pcOf (Lib.splitB s_2.2 0 (Lib.countB s_2.1 s_2.2) s_2.1) (0+Int.toNat (↑(List.length s_1.1.6):Int)))))==ByteArray.toList (ByteArray.mk (Array.mk []))then false else true then SV.o (aB false)=SV.o (aB true)else List.length s_1.1.6<=x.2.2/\(∃(s0:Ann.σ (annSe (XV ((1:Int)+QgO a0 (6:Int)) (mvL z1 len1)))),(eS (SA.c (.so 1 0 9 (List.length s_1.1.6) x.2.2 x.2.3)) (SA.c (.so 1 0 9 (List.length (XV ((1:Int)+QgO a0 (6:Int)) (mvL z1 len1)).6) s0.3 s0.4))/\eS (SA.c (.so 2 0 1 (Lib.countB s_2.1 s_2.2+1) (Lib.countB s_2.1 s_2.2+1) true)) (SA.c (.so 2 0 1 (List.length (XV ((1:Int)+QgO a0 (6:Int)) (mvL z1 len1)).6+1) s0.10 true))/\eS (aI (↑(List.length s_1.1.6):Int)) (aI (↑(List.length (XV ((1:Int)+QgO a0 (6:Int)) (mvL z1 len1)).6):Int))/\eS (aI 0) (aI ↑s0.1)/\True)/\[SB.rows 76 kI9 9 x.2.1 x.2.2 x.2.4,SB.rows 9 [CK.str] 1 (Lib.countB s_2.1 s_2.2+1) (Lib.countB s_2.1 s_2.2+1) fun (i x:Nat)=>sE (pcOf (Lib.splitB s_2.2 0 (Lib.countB s_2.1 s_2.2) s_2.1) i)]=[SB.rows 76 kI9 9 s0.2 s0.3 s0.5,SB.rows 9 [CK.str] 1 s0.9 s0.10 s0.11])/\∀(s:SeG (XV ((1:Int)+QgO a0 (6:Int)) (mvL z1 len1))),bif decide ((↑s.1:Int)<(↑(List.length (XV ((1:Int)+QgO a0 (6:Int)) (mvL z1 len1)).6):Int))then ((0:Int)<=(↑s.1:Int)/\(↑s.1:Int)<(↑(List.length (XV ((1:Int)+QgO a0 (6:Int)) (mvL z1 len1)).6+1):Int)/\0+List.length (XV ((1:Int)+QgO a0 (6:Int)) (mvL z1 len1)).6+1<=s.10)/\0+Int.toNat (↑s.1:Int)<s.9/\((0:Int)<=(↑s.1:Int)/\(↑s.1:Int)<(↑(List.length (XV ((1:Int)+QgO a0 (6:Int)) (mvL z1 len1)).6):Int)/\0+List.length (XV ((1:Int)+QgO a0 (6:Int)) (mvL z1 len1)).6<=s.3)/\0+Int.toNat (↑s.1:Int)<s.2/\(EvIn fun (x:Nat)=>match x with|0=>s.5 (0+Int.toNat (↑s.1:Int)) 0|1=>s.5 (0+Int.toNat (↑s.1:Int)) 1|2=>s.5 (0+Int.toNat (↑s.1:Int)) 2|3=>s.5 (0+Int.toNat (↑s.1:Int)) 3|4=>s.5 (0+Int.toNat (↑s.1:Int)) 4|5=>s.5 (0+Int.toNat (↑s.1:Int)) 5|6=>s.5 (0+Int.toNat (↑s.1:Int)) 6|7=>s.5 (0+Int.toNat (↑s.1:Int)) 7|8=>s.5 (0+Int.toNat (↑s.1:Int)) 8|x=>(0:Int))/\dP Tryz.f6 15 2 [xE 9,xE 8,xR 7 0,xF 6 0,xE 5,xF 4 0,xR 3 1,xF 2 1,xE 1,xF 0 1]/\bif bif ByteArray.toList (sD (s.11 (0+Int.toNat (↑s.1:Int)) 0))==ByteArray.toList (bsV (QaB fun (x:Nat)=>match x with|0=>s.5 (0+Int.toNat (↑s.1:Int)) 0|1=>s.5 (0+Int.toNat (↑s.1:Int)) 1|2=>s.5 (0+Int.toNat (↑s.1:Int)) 2|3=>s.5 (0+Int.toNat (↑s.1:Int)) 3|4=>s.5 (0+Int.toNat (↑s.1:Int)) 4|5=>s.5 (0+Int.toNat (↑s.1:Int)) 5|6=>s.5 (0+Int.toNat (↑s.1:Int)) 6|7=>s.5 (0+Int.toNat (↑s.1:Int)) 7|8=>s.5 (0+Int.toNat (↑s.1:Int)) 8|x=>(0:Int)))then false else true then SV.o (aB false)=SV.o (aB true)else ∃(s':SeG (XV ((1:Int)+QgO a0 (6:Int)) (mvL z1 len1))),((eS (SA.c (.so 0 0 9 (List.length (XV ((1:Int)+QgO a0 (6:Int)) (mvL z1 len1)).6) s.3 s.4)) (SA.c (.so 0 0 9 (List.length (XV ((1:Int)+QgO a0 (6:Int)) (mvL z1 len1)).6) s'.3 s'.4))/\eS (SA.c (.so 1 0 1 (List.length (XV ((1:Int)+QgO a0 (6:Int)) (mvL z1 len1)).6+1) s.10 true)) (SA.c (.so 1 0 1 (List.length (XV ((1:Int)+QgO a0 (6:Int)) (mvL z1 len1)).6+1) s'.10 true))/\eS (aI (↑(List.length (XV ((1:Int)+QgO a0 (6:Int)) (mvL z1 len1)).6):Int)) (aI (↑(List.length (XV ((1:Int)+QgO a0 (6:Int)) (mvL z1 len1)).6):Int))/\eS (aI (IntKind.wrap .i64 ((↑s.1:Int)+(1:Int)))) (aI ↑s'.1)/\True)/\[SB.rows 76 kI9 9 s.2 s.3 s.5,SB.rows 9 [CK.str] 1 s.9 s.10 s.11]=[SB.rows 76 kI9 9 s'.2 s'.3 s'.5,SB.rows 9 [CK.str] 1 s'.9 s'.10 s'.11])/\List.length (XV ((1:Int)+QgO a0 (6:Int)) (mvL z1 len1)).6-s'.1<List.length (XV ((1:Int)+QgO a0 (6:Int)) (mvL z1 len1)).6-s.1 else SV.o (aB true)=SV.o (aB true)) (by kernel_rfl) ?_
 have k1:1<=1+QgO a0 6:=by have:=QeH a0 6 (by decide);omega
 have k6:1+QgO a0 6<=6:=by have:=Qjy a0 6 (by decide);omega
 generalize 1+QgO a0 6=K at k1 k6 ⊢
 refine⟨trivial,⟨fun _=>⟨by decide,by decide⟩,fun _=>⟨by decide,by decide⟩,by decide,by decide⟩,trivial,QnQ (fun _=>rfl) (fun hh=>⟨trivial,⟨K,a1,len1,cap1,z1⟩,rfl,rfl,⟨⟨k1,k6⟩,(by show len1<=3000;omega),w1.1,w1.2⟩,fun x _=>?_⟩)⟩
 obtain⟨g,F2,hs⟩:=Qnp k1 k6 len1 (mvL z1 len1) (QqT z1 len1) (by omega)
 have hs2:(XV K (mvL z1 len1)).steps<=120000:=by omega
 have F:=F2.fi
 have hL2:=F.lens (by omega)
 have hls:(XV K (mvL z1 len1)).hist.length<=120000:=by have:=F.s;omega
 generalize XV K (mvL z1 len1)=Z at *
 refine⟨(Z,(),x),rfl,rfl,hL2.1,fun y hy=>?_⟩
 obtain⟨l0,⟨m,c,nn,f⟩⟩:=y
 obtain⟨⟨hm1,hm2⟩,hz⟩:=hy
 have hm1:Z.hist.length<=m:=hm1
 have hm2:m<=c:=hm2
 have hz:IsE f Z.hist:=hz
 have hev:=ev_in F2 hs2 hz
 refine⟨⟨Z.hist.length,m,c,nn,f⟩,rfl,rfl,⟨by show Z.hist.length<=1000000;omega,hm1,hev⟩,fun _ _=>?_⟩
 have hfl:=QjT (z:=f) (n:=Z.hist.length) hev
 obtain⟨hc,hsp⟩:=Qqz (QbQ f Z.hist.length) (linesL_no f _)
 rw[Qrv]at hc hsp
 have hsp2:Lib.splitB (bsQ [10]) 0 (Lib.countB (bsQ (QaO (QbQ f Z.hist.length))) (bsQ [10])) (bsQ (QaO (QbQ f Z.hist.length)))=(QbQ f Z.hist.length++[[]]).map bsQ:=by rw[hc];exact hsp
 refine⟨⟨bsQ (QaO (QbQ f Z.hist.length)),bsQ [10]⟩,rfl,rfl,⟨?_,?_,?_,?_⟩,fun _ _=>?_⟩
 · show (QaO (QbQ f Z.hist.length)).length<4294967281
   omega
 · show 1<=(bsQ [10]).size
   decide
 · show Lib.countB (bsQ (QaO (QbQ f Z.hist.length))) (bsQ [10])<=1000000
   rw[hc];omega
 · show (Lib.splitB (bsQ [10]) 0 (Lib.countB (bsQ (QaO (QbQ f Z.hist.length))) (bsQ [10])) (bsQ (QaO (QbQ f Z.hist.length)))).length=Lib.countB (bsQ (QaO (QbQ f Z.hist.length))) (bsQ [10])+1
   rw[hsp2,hc];simp[Qrv]
 dsimp only
 rw[hc,hsp]
 have hend:((sD (sE (pcOf ((QbQ f Z.hist.length++[[]]).map bsQ) (0+(Z.hist.length:Int).toNat)))).toList==(ByteArray.mk (Array.mk [])).toList)=true:=by
  rw[sD_sE,Int.toNat_natCast,Nat.zero_add,pc_end]
  exact beq_self_eq_true _
 refine⟨Nat.le_refl _,by omega,QG (fun h=>absurd (sucI (by omega)).symm h) (fun _=>⟨by omega,⟨by omega,by omega,by omega⟩,by omega,XA (fun hb=>absurd (hb.symm.trans hend) (by decide)) (fun _=>⟨by omega,⟨⟨0,m,c,nn,f,Nat.zero_le _,⟨hm1,hm2⟩,hz,Z.hist.length+1,Z.hist.length+1,fun i _=>sE (pcOf ((QbQ f Z.hist.length++[[]]).map bsQ) i),⟨Nat.le_refl _,Nat.le_refl _⟩,fun k hk=>by rw[sD_sE];exact pc_at f hk⟩,⟨rfl,rfl,rfl,rfl,trivial⟩,rfl⟩,?_⟩)⟩)⟩
 clear hend hsp hsp2 hc hfl hev
 rintro⟨i,m,c,nn,f,hi,⟨hm1,hm2⟩,hz,m2,c2,y,⟨hm3,hm4⟩,hy⟩
 have hev:=ev_in F2 hs2 hz
 dsimp only
 rw[Int.toNat_natCast,Nat.zero_add i]
 refine Qp (fun hlt=>?_) (fun hge=>rfl)
 have hlt':i<Z.hist.length:=by omega
 have heq:((sD (y i 0)).toList==(bsV (QaB (ev9 (f i 0) (f i 1) (f i 2) (f i 3) (f i 4) (f i 5) (f i 6) (f i 7) (f i 8)))).toList)=true:=by
  rw[ev9_eq,hy i hlt']
  exact beq_self_eq_true _
 refine⟨⟨by omega,by omega,by omega⟩,by omega,⟨by omega,by omega,by omega⟩,by omega,hev i hlt',Qf (by kernel_rfl),XA (fun hb=>absurd (hb.symm.trans heq) (by decide)) (fun _=>⟨⟨i+1,m,c,nn,f,hlt',⟨hm1,hm2⟩,hz,m2,c2,y,⟨hm3,hm4⟩,hy⟩,⟨⟨rfl,rfl,rfl,svI (sucI (by omega)),trivial⟩,rfl⟩,by dsimp only;omega⟩)⟩
end Go.Proofs.YtflgoaogcenmpaaGreatDoor
