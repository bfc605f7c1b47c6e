/- BatchClosed: the walk of the law. -/
import Derived.Test.YtflgoaogcenmpaaDoorZQ4
namespace Go.Proofs.YtflgoaogcenmpaaDoor
open Go.RowKit
set_option linter.unusedVariables false
set_option maxRecDepth 100000
set_option maxHeartbeats 4000000
def askZ (a:Ask):Nat->Nat->Int:=fun i j=>match List.get?Internal (match List.get?Internal [[(a.t:Int),a.g,a.k,a.key,a.x]] i with|some x=>x|none=>[]) j with|some x=>x|none=>(0:Int)
theorem insL_is {z z2 z3:Nat->Nat->Int}{l:List Ask}{i:Nat}{a:Ask}(h:IsA z l) (hi:i<=l.length) (ha:a.is (z2 0)) (h3:z3=insZ i z z2):IsA z3 (insL i a l):=by
 subst h3
 have hl:(l.take i).length=i:=by rw[List.length_take];omega
 intro q hq
 unfold insL at hq ⊢
 rw[List.length_append,List.length_cons,List.length_drop,hl]at hq
 rw[List.getD_eq_getElem?_getD]
 rcases Nat.lt_trichotomy q i with h1|h1|h1
 · rw[List.getElem?_append_left (by omega),List.getElem?_take,if_pos h1,<- List.getD_eq_getElem?_getD,QkQ z z2 h1]
   exact h q (by omega)
 · subst h1
   rw[List.getElem?_append_right (by omega),hl,Nat.sub_self,List.getElem?_cons_zero,QkS]
   exact ha
 · rw[List.getElem?_append_right (by omega),hl,show q-i=(q-1-i)+1 by omega,List.getElem?_cons_succ,List.getElem?_drop,show i+(q-1-i)=q-1 by omega,<- List.getD_eq_getElem?_getD,QkR z z2 h1]
   exact h (q-1) (by omega)
theorem insL_len {l:List Ask}{i:Nat}{a:Ask}(hi:i<=l.length):(insL i a l).length=l.length+1:=by
 unfold insL
 rw[List.length_append,List.length_cons,List.length_drop,List.length_take];omega
theorem walk_BatchClosed (a0:Int) (a1:Option Addr) (len1 cap1:Nat) (z1:Nat->Nat->Int) (a2:Option Addr) (len2 cap2:Nat) (z2:Nat->Nat->Int) (a3 a4 x5_0 x5_1 x5_2:Int) (W:World) (w0:(Lit.int .i64 a0).wf=true) (w1:Rws 6 (fun _=>.i64) W a1 len1 cap1 z1) (w2:Rws 6 (fun _=>.i64) W a2 len2 cap2 z2) (w3:(Lit.int .i64 a3).wf=true) (w4:(Lit.int .i64 a4).wf=true):
 Calls Tryd.prog 3 #[.int .i64 a0,.slice a1 len1 cap1,.slice a2 len2 cap2,.int .i64 a3,.int .i64 a4,.agg #[.int .i64 x5_0,.int .i64 x5_1,.int .i64 x5_2]] W fun e w'=>e=.returned (.bool true)/\Below W.heap.size W w':=by
 refine QkI (AG:=[]) (Γ:=[(5,.pure Xx),(6,.pure QbV),(7,.pure Qbv),(9,.pure QdP),(8,.pure (Qbt W)),(10,.pure QcM),(12,.mem (Qgg W)),(11,.mem QeV),(15,.mem QeW),(16,.pure Q1),(14,.mem QcN),(17,.mem QgO),(18,.mem QfE)]) Tryd.func3 rfl Qg Qc
  (.cons (Qk9 W _) (.cons (Qkd W _) (.cons (Qf0 W _) (.cons (Qlg W _) (.cons (Qkq W) (.cons (Qev W _) (.cons (asks_con W) (.cons (delA_con W _) (.cons (cloA_con W _) (.cons (Qdo W _) (.cons (insA_con W _) (.cons (Qk8 W _) (.cons (eqd_con W _) (.nil _ _ _))))))))))))))
  [.c (.v (.int .i64 a0)),.c (.r a1 len1 cap1 len1 6 (fun _=>.i64) z1),.c (.r a2 len2 cap2 len2 6 (fun _=>.i64) z2),.c (.v (.int .i64 a3)),.c (.v (.int .i64 a4)),.a [.one (.v (.int .i64 x5_0)),.one (.v (.int .i64 x5_1)),.one (.v (.int .i64 x5_2))]] (.bool true) 900 rfl ?_ rfl
 refine Qh (q:=True/\True/\True/\bif bif opOk x5_0 x5_1 x5_2 then false else true then SV.o (aB true)=SV.o (aB true)else True/\((1:Int)<=(1:Int)+Qaj a0 (6:Int)/\(1:Int)+Qaj a0 (6:Int)<=(6:Int)/\len1=len1/\6=6/\(AllI fun (x:Nat)=>.i64)/\Rws 6 (fun (x:Nat)=>.i64) W a1 len1 cap1 z1)/\((0:Int)<(4:Int)/\(4:Int)<=(9223372036854775807:Int))/\∃(s:AskS),[SA.c (.r a2 len2 cap2 len2 6 (fun (x:Nat)=>.i64) z2)]=[SA.c (.r s.1 s.2 s.3 s.2 6 (fun (x:Nat)=>.i64) s.4)]/\eN/\Rws 6 (fun (x:Nat)=>.i64) W (AskS.a s) (AskS.n s) s.3 s.4/\∀(x:LstR),(List.length (asTo s.4 (min s.2 12))<=x.1/\x.1<=x.2)/\IsA x.4 (asTo s.4 (min s.2 12))->∃(s_1:IdS),[SA.c (.so 3 0 5 (List.length (asTo s.4 (min s.2 12))) x.2 x.3),SA.c (.fn 13 [(0,0)])]=[SA.c (.so 3 0 5 (List.length s_1.1) s_1.3 s_1.4),SA.c (.fn 13 [(0,0)])]/\[SB.rows 36 kI5 5 x.1 x.2 x.4,SB.cells [sI (Qaj a4 (4:Int))] 3]=[SB.rows 36 kI5 5 s_1.2 s_1.3 s_1.5,SB.cells [sI (s_1.6 0)] 3]/\(List.length s_1.1<=1000/\(List.length s_1.1<=s_1.2/\s_1.2<=s_1.3)/\IsA s_1.5 s_1.1)/\∀(x:DelR),IsA x.1 (othA (s_1.6 0) s_1.1)->List.length (othA (s_1.6 0) s_1.1)<=s_1.3/\dP Tryd.f3 8 4 [⟨1,[],[3,4],[],true⟩,xR 11 1,xR 9 0,xR 8 2,xR 7 0,xE 5,xE 4,xF 3 3,xE 2,xF 0 3]/\∃(s:CkS),[SA.c (.so 3 0 5 (List.length (othA (s_1.6 0) s_1.1)) s_1.3 s_1.4)]=[SA.c (.so 3 0 5 s.1 s.3 s.4)]/\[SB.rows 36 kI5 5 s_1.2 s_1.3 x.1]=[SB.rows 36 kI5 5 s.2 s.3 s.5]/\(s.1<=10000000/\s.1<=s.2/\s.2<=s.3)/\∀(x:CkR),((s.1<=x.1/\x.1<=x.2)/\∀(i:Nat),i<s.1->∀(j:Nat),x.4 i j=s.5 i j)->((0:Int)<IntKind.wrap .i64 ((↑(List.length (othA (s_1.6 0) s_1.1)):Int)+(1:Int))/\IntKind.wrap .i64 ((↑(List.length (othA (s_1.6 0) s_1.1)):Int)+(1:Int))<=(9223372036854775807:Int))/\(32=32/\(0:Int)<=s_1.6 0/\s_1.6 0<(4:Int)/\(0:Int)<=fL (Rec.words (wrTo ((1:Int)+Qaj a0 (6:Int)) z1 (min len1 30))) 26/\fL (Rec.words (wrTo ((1:Int)+Qaj a0 (6:Int)) z1 (min len1 30))) 26<(16:Int))/\dP Tryd.f3 8 4 [⟨14,[],[4,5,6],[],true⟩,⟨13,[],[5],[5],false⟩,xE 12,xE 10,xE 6,⟨1,[],[3,4],[4],true⟩,xR 11 1,xR 9 0,xR 8 2,xR 7 0,xE 5,xE 4,xF 3 3,xE 2,xF 0 3]/\∃(s_2:InAS),[SA.c (.so 4 0 5 s.1 x.2 x.3),aI (Qaj a3 (IntKind.wrap .i64 ((↑(List.length (othA (s_1.6 0) s_1.1)):Int)+(1:Int)))),SA.c (.so 5 0 5 1 1 true)]=[SA.c (.so 4 0 5 s_2.1 s_2.3 s_2.4),aI ↑s_2.7,SA.c (.so 5 0 5 1 1 true)]/\[SB.rows 36 kI5 5 x.1 x.2 x.4,SB.rows 36 kI5 5 1 1 fun (i j:Nat)=>match List.get?Internal (match List.get?Internal [[s_1.6 0,QC (fL (Rec.words (wrTo ((1:Int)+Qaj a0 (6:Int)) z1 (min len1 30))) 26) (Int.toNat (s_1.6 0)),x5_0,x5_1,x5_2]] i with|some x=>x|none=>[]) j with|some x=>x|none=>(0:Int)]=[SB.rows 36 kI5 5 s_2.2 s_2.3 s_2.5,SB.rows 36 kI5 5 1 1 s_2.6]/\(s_2.1<=1000/\s_2.7<=s_2.1/\s_2.1<=s_2.2/\s_2.2<=s_2.3)/\∀(x:InAR),s_2.1+1<=x.1->dP Tryd.f3 8 4 [xF 15 6,⟨14,[],[4,5,6],[6],true⟩,⟨13,[],[5],[5],false⟩,xE 12,xE 10,xE 6,⟨1,[],[3,4],[4],true⟩,xR 11 1,xR 9 0,xR 8 2,xR 7 0,xE 5,xE 4,xF 3 3,xE 2,xF 0 3]/\∃(s_3:BdS),[SA.a [nU 32 (fL (Rec.words (wrTo ((1:Int)+Qaj a0 (6:Int)) z1 (min len1 30))))],SA.c (.so 3 0 5 (List.length (othA (s_1.6 0) s_1.1)) s_1.3 s_1.4)]=[SA.a [nU 32 s_3.2],SA.c (.so 3 s_3.4 5 (List.length s_3.3) s_3.6 s_3.7)]/\[SB.rows 36 kI5 5 s.2 s.3 s.5]=[SB.rows 36 kI5 5 s_3.5 s_3.6 s_3.8]/\((RecOK (1099511000000:Int) s_3.1/\toN 32 s_3.2=Rec.words s_3.1)/\AsksOK s_3.3/\List.length s_3.3<=100/\(s_3.4+List.length s_3.3<=s_3.5/\s_3.5<=s_3.6)/\IsA (fun (i:Nat)=>s_3.8 (s_3.4+i)) s_3.3)/\∀(x_1:BdR),(List.length (bD s_3.1 s_3.3)<=x_1.2/\x_1.2<=x_1.3)/\IsD x_1.5 (bD s_3.1 s_3.3)/\toN 32 x_1.1=Rec.words (bDo s_3.1 s_3.3)->∃(s:BdS),[SA.a [nU 32 (fL (Rec.words (wrTo ((1:Int)+Qaj a0 (6:Int)) z1 (min len1 30))))],SA.c (.so 6 0 5 (s_2.1+1) x.1 x.2)]=[SA.a [nU 32 s.2],SA.c (.so 6 s.4 5 (List.length s.3) s.6 s.7)]/\[SB.rows 36 kI5 5 (s_2.1+1) x.1 fun (q b:Nat)=>bif Nat.ble (q+1) s_2.7 then s_2.5 q b else bif Nat.beq q s_2.7 then s_2.6 0 b else s_2.5 (match q with|0=>0|Nat.succ a=>a) b]=[SB.rows 36 kI5 5 s.5 s.6 s.8]/\((RecOK (1099511000000:Int) s.1/\toN 32 s.2=Rec.words s.1)/\AsksOK s.3/\List.length s.3<=100/\(s.4+List.length s.3<=s.5/\s.5<=s.6)/\IsA (fun (i:Nat)=>s.8 (s.4+i)) s.3)/\∀(x:BdR),(List.length (bD s.1 s.3)<=x.2/\x.2<=x.3)/\IsD x.5 (bD s.1 s.3)/\toN 32 x.1=Rec.words (bDo s.1 s.3)->bif bif decide ([x_1.1 0,x_1.1 1,x_1.1 2,x_1.1 3,x_1.1 4,x_1.1 5,x_1.1 6,x_1.1 7,x_1.1 8,x_1.1 9,x_1.1 10,x_1.1 11,x_1.1 12,x_1.1 13,x_1.1 14,x_1.1 15,x_1.1 16,x_1.1 17,x_1.1 18,x_1.1 19,x_1.1 20,x_1.1 21,x_1.1 22,x_1.1 23,x_1.1 24,x_1.1 25,x_1.1 26,x_1.1 27,x_1.1 28,x_1.1 29,x_1.1 30,x_1.1 31]=[x.1 0,x.1 1,x.1 2,x.1 3,x.1 4,x.1 5,x.1 6,x.1 7,x.1 8,x.1 9,x.1 10,x.1 11,x.1 12,x.1 13,x.1 14,x.1 15,x.1 16,x.1 17,x.1 18,x.1 19,x.1 20,x.1 21,x.1 22,x.1 23,x.1 24,x.1 25,x.1 26,x.1 27,x.1 28,x.1 29,x.1 30,x.1 31])then true else false then ∃(s_4:EqS),[SA.c (.so 7 0 6 (List.length (bD s_3.1 s_3.3)) x_1.3 x_1.4),SA.c (.so 9 0 6 (List.length (bD s.1 s.3)) x.3 x.4)]=[SA.c (.so 7 0 6 (List.length s_4.1) s_4.3 s_4.4),SA.c (.so 9 0 6 (List.length s_4.1) s_4.7 s_4.8)]/\[SB.rows 49 kI6 6 x_1.2 x_1.3 x_1.5,SB.rows 49 kI6 6 x.2 x.3 x.5]=[SB.rows 49 kI6 6 s_4.2 s_4.3 s_4.5,SB.rows 49 kI6 6 s_4.6 s_4.7 s_4.9]/\(List.length s_4.1<=1000/\(List.length s_4.1<=s_4.2/\s_4.2<=s_4.3)/\IsD s_4.5 s_4.1/\(List.length s_4.1<=s_4.6/\s_4.6<=s_4.7)/\IsD s_4.9 s_4.1)/\∀(x:Unit),True->SV.o (aB true)=SV.o (aB true)else SV.o (aB false)=SV.o (aB true)) (by kernel_rfl) ?_
 have h1:=Xf a0 6 (by decide)
 have h2:=Qb2 a0 6 (by decide)
 have t0:=Xf a4 4 (by decide)
 have t4:=Qb2 a4 4 (by decide)
 have hr:=QhE (1+Qaj a0 6) z1 (by omega) (by omega) (min len1 30)
 generalize hR:wrTo (1+Qaj a0 6) z1 (min len1 30)=r at *
 have hk:=Qi5 z2 (min len2 12)
 have hl:=QgS z2 (min len2 12)
 generalize hL:asTo z2 (min len2 12)=l0 at *
 have hB:RecOK 1099511000000 r:=hr.mono (by omega)
 have hf:=Qak (Rec.words_len hB)
 obtain⟨e26,-,-⟩:=Qkr hB hf
 have g0:=hB.g0
 have g1:=hB.g1
 obtain⟨t,ht,htl⟩:∃t:Nat,Qaj a4 4=(t:Int)/\t<4:=⟨(Qaj a4 4).toNat,by omega,by omega⟩
 rw[ht]
 refine⟨trivial,trivial,trivial,Qau (fun _=>rfl) (fun ho=>⟨trivial,⟨by omega,by omega,rfl,rfl,rfl,w1⟩,⟨by decide,by decide⟩,⟨a2,len2,cap2,z2⟩,rfl,rfl,w2,?_⟩)⟩
 dsimp only
 rw[hL]
 rintro⟨m,c,nn,z⟩ ⟨⟨hm,hc⟩,hz⟩
 have hm:l0.length<=m:=hm
 have hc:m<=c:=hc
 have hz:IsA z l0:=hz
 refine⟨⟨l0,m,c,nn,z,fun _=>(t:Int)⟩,rfl,rfl,⟨by show l0.length<=1000;omega,⟨hm,hc⟩,hz⟩,?_⟩
 rintro⟨za⟩ hza
 dsimp only at hza ⊢
 have hol:=oth_len (t:Int) l0
 have hom:∀a∈othA (t:Int) l0,a∈l0/\(a.t:Int)≠(t:Int):=fun a h=>oth_mem h
 generalize othA (t:Int) l0=l at *
 have hlo:AsksOK l:=fun a h=>hk a (hom a h).1
 refine⟨by omega,Qd (by kernel_rfl),⟨l.length,m,c,nn,za⟩,rfl,rfl,⟨by show l.length<=10000000;omega,by show l.length<=m;omega,hc⟩,?_⟩
 rintro⟨mc,cc,nc,zc⟩ ⟨⟨hmc,hcc⟩,hzc⟩
 have hmc:l.length<=mc:=hmc
 have hcc:mc<=cc:=hcc
 have hzc:∀i,i<l.length->∀j,zc i j=za i j:=hzc
 have hzl:IsA zc l:=hza.sub hzc
 dsimp only
 have eS:IntKind.wrap .i64 ((l.length:Int)+1)=((l.length+1:Nat):Int):=sucI (by omega)
 rw[eS,e26,Int.toNat_natCast]
 have p0:=Xf a3 ((l.length+1:Nat):Int) (by omega)
 have p1:=Qb2 a3 ((l.length+1:Nat):Int) (by omega)
 obtain⟨i,hi,hil⟩:∃i:Nat,Qaj a3 ((l.length+1:Nat):Int)=(i:Int)/\i<=l.length:=⟨(Qaj a3 ((l.length+1:Nat):Int)).toNat,by omega,by omega⟩
 rw[hi]
 refine⟨⟨by omega,by omega⟩,⟨rfl,by omega,by omega,by omega,by omega⟩,Qd (by kernel_rfl),⟨l.length,mc,cc,nc,zc,_,i⟩,rfl,rfl,⟨by show l.length<=1000;omega,hil,hmc,hcc⟩,?_⟩
 rintro⟨ci,ni⟩ hci
 have hci:l.length+1<=ci:=hci
 have ha:(⟨t,QC r.tog t,x5_0,x5_1,x5_2⟩:Ask).ok:=⟨htl,QhH _ _,ho⟩
 have hcl:=bR_closed hB (l.take i) (l.drop i) ⟨t,QC r.tog t,x5_0,x5_1,x5_2⟩ (fun a h=>hlo a (List.mem_of_mem_take h)) htl (fun a h e=>(hom a (List.mem_of_mem_take h)).2 (by rw[e])) rfl
 rw[List.take_append_drop]at hcl
 have eR:bR r (insL i ⟨t,QC r.tog t,x5_0,x5_1,x5_2⟩ l)=bR r l:=hcl.1
 have eD:bD r (insL i ⟨t,QC r.tog t,x5_0,x5_1,x5_2⟩ l)=bD r l:=hcl.2
 have eO:bDo r (insL i ⟨t,QC r.tog t,x5_0,x5_1,x5_2⟩ l)=bDo r l:=by unfold bDo;rw[eR]
 have hlen:=insL_len (a:=⟨t,QC r.tog t,x5_0,x5_1,x5_2⟩) hil
 have hbl:=bD_le l r
 have hio:AsksOK (insL i ⟨t,QC r.tog t,x5_0,x5_1,x5_2⟩ l):=fun a h=>by
  unfold insL at h
  rcases List.mem_append.1 h with h|h
  · exact hlo a (List.mem_of_mem_take h)
  · rcases List.mem_cons.1 h with rfl|h
    · exact ha
    · exact hlo a (List.mem_of_mem_drop h)
 refine⟨Qd (by kernel_rfl),⟨r,fL r.words,l,0,m,c,nn,za⟩,rfl,rfl,⟨⟨hB,hf⟩,hlo,by show l.length<=100;omega,⟨by show 0+l.length<=m;omega,hc⟩,fun q hq=>by show (l.getD q Ask.nil).is (za (0+q));rw[Nat.zero_add];exact hza q hq⟩,?_⟩
 rintro⟨fx,mx,cx,nx,zx⟩ ⟨hx1,hx2,hx3⟩
 dsimp only at hx1 hx2 hx3 ⊢
 refine⟨⟨r,fL r.words,insL i ⟨t,QC r.tog t,x5_0,x5_1,x5_2⟩ l,0,l.length+1,ci,ni,_⟩,congrArg (fun k=>[SA.a [.ints (.int .u64) 32 (fL r.words)],SA.c (.so 6 0 5 k ci ni)]) hlen.symm,rfl,⟨⟨hB,hf⟩,hio,by show (insL i _ l).length<=100;omega,⟨by show 0+(insL i _ l).length<=l.length+1;omega,hci⟩,fun q hq=>?_⟩,?_⟩
 · dsimp only
   rw[Nat.zero_add q]
   exact insL_is (z2:=askZ ⟨t,QC r.tog t,x5_0,x5_1,x5_2⟩) (a:=⟨t,QC r.tog t,x5_0,x5_1,x5_2⟩) hzl hil ⟨rfl,rfl,rfl,rfl,rfl⟩ rfl q hq
 rintro⟨fy,my,cy,ny,zy⟩ ⟨hy1,hy2,hy3⟩
 dsimp only at hy1 hy2 hy3 ⊢
 rw[eD]at hy1 hy2 ⊢
 rw[eO]at hy3
 refine by_tdec (fun _=>⟨⟨bD r l,mx,cx,nx,zx,my,cy,ny,zy⟩,rfl,rfl,⟨by show (bD r l).length<=1000;omega,hx1,hx2,hy1,hy2⟩,fun _ _=>rfl⟩) (fun h=>absurd ?_ h)
 exact hx3.trans hy3.symm
end Go.Proofs.YtflgoaogcenmpaaDoor
