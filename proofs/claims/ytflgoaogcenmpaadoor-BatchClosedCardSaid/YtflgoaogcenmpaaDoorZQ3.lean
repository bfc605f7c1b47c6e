/- What the proof leans on, gathered. -/
import Derived.Laws.Entries
import Derived.Test.YtflgoaogcenmpaaDoorProg
import Derived.Test.YtflgoaogcenmpaaDoorZQ2
namespace Go.Proofs.YtflgoaogcenmpaaDoor
set_option linter.unusedVariables false
set_option maxRecDepth 100000
set_option maxHeartbeats 8000000
section
open Go.RowKit
theorem QiN:(Con.mem (Ql deqR)).holds Tryd.prog 62:=by
 intro w0 S
 refine Qbo (AG:=[]) (Γ:=[(79,.rd XQ),(80,.mem Qah),(81,.mem XE)]) (fun _=>noW) Tryd.func62 rfl (by kernel_rfl) Qg Qc (fun w S' _ _=>.cons (Qch w S') (.cons (Qhi w S') (.cons (Qhu w S') (.nil _ _ _)))) (Ql deqR) (fun x0 h=>by cases h) (fun s ρ w _ _ _=>Q7 w _)
  nzL rpL 400 ?_
 rintro⟨l,m,c,nn,z,k,key,x⟩ w ⟨h1,⟨h2m,h2c⟩,h4,h5,h6⟩ -
 refine⟨rfl,?_⟩
 dsimp only at h1 h2m h2c h4 h5 h6
 have h2:=Nat.le_trans h2m h2c
 have hs:0+l.length<=m/\l.length<=1000:=⟨by omega,by omega⟩
 have hk:k=1\/k=2\/k=3\/k=4\/k=5\/k=6:=by omega
 rcases hk with rfl|rfl|rfl|rfl|rfl|rfl
 ·
  refine Qh (q:=∃(s:CloS),[SA.c (.so 0 0 1 (List.length l) c nn)]=[SA.c (.so 0 s.1 1 s.2 s.4 s.5)]/\[SB.rows 3 [.int .i64] 1 m c z]=[SB.rows 3 [.int .i64] 1 s.3 s.4 s.6]/\(s.1+s.2<=s.3/\s.2<=1000)/\∀(x_1:CloR),(s.2<=x_1.1/\((match Nat.beq s.4 0 with|false=>false|true=>bif s.5 then false else true)=true->x_1.2=false/\x_1.1=0)/\∀(i:Nat),i<s.2->x_1.3 i 0=s.6 (s.1+i) 0)->s.2<=x_1.1/\bif decide ((↑s.2:Int)>=(6:Int))then endN (Ql deqR) nzL rpL (LstS.mk l m c nn z (1:Int) key x) (SV.t [SA.c (.so 3 0 1 s.2 x_1.1 x_1.2),SA.a [sI 3,sI 0]]) [SB.rows 3 [.int .i64] 1 m c z,SB.cells [sI 1,sI key,sI x] 24,SB.cells [sI 3,sI 0] 47,SB.rows 3 [.int .i64] 1 s.2 x_1.1 x_1.3]else ((s.2<=s.2/\x_1.1=x_1.1)/\(1<=1/\1=1)/\s.2+1<=68719476736)/\∀(c_1:Nat),s.2+1<=c_1->endN (Ql deqR) nzL rpL (LstS.mk l m c nn z (1:Int) key x) (SV.t [SA.c (.so 5 0 1 (s.2+1) c_1 x_1.2),SA.a [sI 1,sI 0]]) [SB.rows 3 [.int .i64] 1 m c z,SB.cells [sI 1,sI key,sI x] 24,SB.cells [sI 1,sI 0] 47,SB.gone,SB.rows 3 [.int .i64] 1 1 1 fun (i j:Nat)=>match List.get?Internal (match List.get?Internal [[x]] i with|some x=>x|none=>[]) j with|some x=>x|none=>(0:Int),SB.rows 3 [.int .i64] 1 (s.2+1) c_1 fun (i j:Nat)=>bif Nat.ble (i+1) s.2 then x_1.3 i j else match List.get?Internal (match List.get?Internal [[x]] (0+(i-s.2))with|some x=>x|none=>[]) j with|some x=>x|none=>(0:Int)]) (by kernel_rfl) ?_
  refine⟨⟨0,l.length,m,c,nn,z⟩,rfl,rfl,hs,fun y hy=>⟨hy.1,Qi (fun h=>?_) (fun h=>?_)⟩⟩
  · have e:deqR l 1 x=(l,3,0):=by unfold deqR;rw[if_pos (by decide),if_pos (by dsimp only at h;omega)]
    exact Qo _ _ _ _ _ _ _ _ _ _ _ rfl rfl rfl _ e rfl (Nat.le_refl _) hy.1 (h4.sub fun i hi=>(hy.2.2 i hi).trans (by rw[Nat.zero_add])) rfl rfl
  · dsimp only at h hy ⊢
    have e:deqR l 1 x=(l++[x],1,0):=by unfold deqR;rw[if_pos (by decide),if_neg (by omega),if_pos rfl]
    refine⟨⟨⟨Nat.le_refl _,rfl⟩,⟨Nat.le_refl _,rfl⟩,by omega⟩,fun c' hc'=>?_⟩
    exact Qo _ _ _ _ _ _ _ _ _ _ _ rfl rfl rfl _ e (by simp) (Nat.le_refl _) hc' (h4.snoc (fun i hi=>(catT hi).trans ((hy.2.2 i hi).trans (by rw[Nat.zero_add]))) (catF.trans (by rw[Nat.sub_self];rfl))) rfl rfl
 ·
  refine Qh (q:=∃(s:CloS),[SA.c (.so 0 0 1 (List.length l) c nn)]=[SA.c (.so 0 s.1 1 s.2 s.4 s.5)]/\[SB.rows 3 [.int .i64] 1 m c z]=[SB.rows 3 [.int .i64] 1 s.3 s.4 s.6]/\(s.1+s.2<=s.3/\s.2<=1000)/\∀(x_1:CloR),(s.2<=x_1.1/\((match Nat.beq s.4 0 with|false=>false|true=>bif s.5 then false else true)=true->x_1.2=false/\x_1.1=0)/\∀(i:Nat),i<s.2->x_1.3 i 0=s.6 (s.1+i) 0)->s.2<=x_1.1/\bif (↑s.2:Int)==(0:Int)then endN (Ql deqR) nzL rpL (LstS.mk l m c nn z (2:Int) key x) (SV.t [SA.c (.so 3 0 1 s.2 x_1.1 x_1.2),SA.a [sI 2,sI 0]]) [SB.rows 3 [.int .i64] 1 m c z,SB.cells [sI 2,sI key,sI x] 24,SB.cells [sI 2,sI 0] 47,SB.rows 3 [.int .i64] 1 s.2 x_1.1 x_1.3]else ((0:Int)<=(0:Int)/\(0:Int)<(↑s.2:Int)/\0+s.2<=x_1.1)/\0<s.2/\∃(s_1:DelS),[SA.c (.so 3 0 1 s.2 x_1.1 x_1.2),aI 0,aI 1]=[SA.c (.so 3 0 1 (List.length s_1.1) s_1.3 s_1.4),aI ↑s_1.6,aI (↑(s_1.6+1):Int)]/\[SB.rows 3 [.int .i64] 1 s.2 x_1.1 x_1.3]=[SB.rows 3 [.int .i64] 1 s_1.2 s_1.3 s_1.5]/\((s_1.6<List.length s_1.1/\List.length s_1.1<=1000)/\(List.length s_1.1<=s_1.2/\s_1.2<=s_1.3)/\IsL s_1.5 s_1.1)/\∀(x_2:LstR),((x_2.1=match List.length s_1.1 with|0=>0|Nat.succ a=>a)/\x_2.2=s_1.3)/\IsL x_2.4 (List.eraseIdx s_1.1 s_1.6)->endN (Ql deqR) nzL rpL (LstS.mk l m c nn z (2:Int) key x) (SV.t [SA.c (.so 4 0 1 (match List.length s_1.1 with|0=>0|Nat.succ a=>a) x_2.2 true),SA.a [sI 1,sI (x_1.3 0 0)]]) [SB.rows 3 [.int .i64] 1 m c z,SB.cells [sI 2,sI key,sI x] 24,SB.cells [sI 1,sI (x_1.3 0 0)] 47,SB.gone,SB.rows 3 [.int .i64] 1 x_2.1 x_2.2 x_2.4]) (by kernel_rfl) ?_
  refine⟨⟨0,l.length,m,c,nn,z⟩,rfl,rfl,hs,fun y hy=>⟨hy.1,Qar (fun h=>?_) (fun h=>?_)⟩⟩
  · have e:deqR l 2 x=(l,2,0):=by unfold deqR;rw[if_neg (by decide),if_pos (by decide),if_pos (by dsimp only at h;omega)]
    exact Qo _ _ _ _ _ _ _ _ _ _ _ rfl rfl rfl _ e rfl (Nat.le_refl _) hy.1 (h4.sub fun i hi=>(hy.2.2 i hi).trans (by rw[Nat.zero_add])) rfl rfl
  · dsimp only at h hy ⊢
    have hn:0<l.length:=by omega
    have e:deqR l 2 x=(l.eraseIdx 0,1,l.getD 0 0):=by unfold deqR;rw[if_neg (by decide),if_pos (by decide),if_neg (by omega),if_neg (by decide),if_neg (by decide)]
    have hy0 (i:Nat) (hi:i<l.length):y.3 (0+i) 0=l.getD i 0:=(congrArg (y.3 · 0) (Nat.zero_add i)).trans ((hy.2.2 i hi).trans ((congrArg (z · 0) (Nat.zero_add i)).trans (h4 i hi)))
    refine⟨⟨by omega,by omega,by have:=hy.1;omega⟩,hn,⟨l,l.length,y.1,y.2,y.3,0⟩,rfl,rfl,⟨⟨hn,Nat.le_trans h1 (by decide)⟩,⟨Nat.le_refl _,hy.1⟩,h4.sub fun i hi=>(hy.2.2 i hi).trans (by rw[Nat.zero_add])⟩,fun q hq=>?_⟩
    exact Qo _ _ _ _ _ _ _ _ _ _ _ rfl rfl rfl _ e (by rw[List.length_eraseIdx,if_pos hn];rfl) (Nat.le_of_eq (show l.length-1=q.1 from hq.1.1.symm)) (Nat.le_trans (Nat.le_of_eq (show q.1=l.length-1 from hq.1.1)) (Nat.le_trans (Nat.le_trans (Nat.sub_le _ _) hy.1) (Nat.le_of_eq hq.1.2.symm))) hq.2 rfl (hy0 0 hn)
 ·
  refine Qh (q:=∃(s:CloS),[SA.c (.so 0 0 1 (List.length l) c nn)]=[SA.c (.so 0 s.1 1 s.2 s.4 s.5)]/\[SB.rows 3 [.int .i64] 1 m c z]=[SB.rows 3 [.int .i64] 1 s.3 s.4 s.6]/\(s.1+s.2<=s.3/\s.2<=1000)/\∀(x_1:CloR),(s.2<=x_1.1/\((match Nat.beq s.4 0 with|false=>false|true=>bif s.5 then false else true)=true->x_1.2=false/\x_1.1=0)/\∀(i:Nat),i<s.2->x_1.3 i 0=s.6 (s.1+i) 0)->s.2<=x_1.1/\bif decide ((↑s.2:Int)>=(6:Int))then endN (Ql deqR) nzL rpL (LstS.mk l m c nn z (3:Int) key x) (SV.t [SA.c (.so 3 0 1 s.2 x_1.1 x_1.2),SA.a [sI 3,sI 0]]) [SB.rows 3 [.int .i64] 1 m c z,SB.cells [sI 3,sI key,sI x] 24,SB.cells [sI 3,sI 0] 47,SB.rows 3 [.int .i64] 1 s.2 x_1.1 x_1.3]else ∃(s_1:InsS),[SA.c (.so 3 0 1 s.2 x_1.1 x_1.2),aI 0,SA.c (.so 4 0 1 1 1 true)]=[SA.c (.so 3 0 1 (List.length s_1.1) s_1.3 s_1.4),aI 0,SA.c (.so 4 0 1 1 1 true)]/\[SB.rows 3 [.int .i64] 1 s.2 x_1.1 x_1.3,SB.rows 3 [.int .i64] 1 1 1 fun (i j:Nat)=>match List.get?Internal (match List.get?Internal [[x]] i with|some x=>x|none=>[]) j with|some x=>x|none=>(0:Int)]=[SB.rows 3 [.int .i64] 1 s_1.2 s_1.3 s_1.5,SB.rows 3 [.int .i64] 1 1 1 s_1.6]/\(List.length s_1.1<=1000/\(List.length s_1.1<=s_1.2/\s_1.2<=s_1.3)/\IsL s_1.5 s_1.1)/\∀(x_2:LstR),(x_2.1=List.length s_1.1+1/\x_2.1<=x_2.2)/\IsL x_2.4 (s_1.6 0 0::s_1.1)->endN (Ql deqR) nzL rpL (LstS.mk l m c nn z (3:Int) key x) (SV.t [SA.c (.so 5 0 1 (List.length s_1.1+1) x_2.2 x_2.3),SA.a [sI 1,sI 0]]) [SB.rows 3 [.int .i64] 1 m c z,SB.cells [sI 3,sI key,sI x] 24,SB.cells [sI 1,sI 0] 47,SB.gone,SB.gone,SB.rows 3 [.int .i64] 1 x_2.1 x_2.2 x_2.4]) (by kernel_rfl) ?_
  refine⟨⟨0,l.length,m,c,nn,z⟩,rfl,rfl,hs,fun y hy=>⟨hy.1,Qi (fun h=>?_) (fun h=>?_)⟩⟩
  · have e:deqR l 3 x=(l,3,0):=by unfold deqR;rw[if_pos (by decide),if_pos (by dsimp only at h;omega)]
    exact Qo _ _ _ _ _ _ _ _ _ _ _ rfl rfl rfl _ e rfl (Nat.le_refl _) hy.1 (h4.sub fun i hi=>(hy.2.2 i hi).trans (by rw[Nat.zero_add])) rfl rfl
  · dsimp only at h hy ⊢
    have e:deqR l 3 x=(x::l,1,0):=by unfold deqR;rw[if_pos (by decide),if_neg (by omega),if_neg (by decide)]
    refine⟨⟨l,l.length,y.1,y.2,y.3,_⟩,rfl,rfl,⟨Nat.le_trans h1 (by decide),⟨Nat.le_refl _,hy.1⟩,h4.sub fun i hi=>(hy.2.2 i hi).trans (by rw[Nat.zero_add])⟩,fun q hq=>?_⟩
    exact Qo _ _ _ _ _ _ _ _ _ _ _ rfl rfl rfl _ e rfl (by rw[hq.1.1];exact Nat.le_refl _) hq.1.2 hq.2 rfl rfl
 ·
  refine Qh (q:=∃(s:CloS),[SA.c (.so 0 0 1 (List.length l) c nn)]=[SA.c (.so 0 s.1 1 s.2 s.4 s.5)]/\[SB.rows 3 [.int .i64] 1 m c z]=[SB.rows 3 [.int .i64] 1 s.3 s.4 s.6]/\(s.1+s.2<=s.3/\s.2<=1000)/\∀(x_1:CloR),(s.2<=x_1.1/\((match Nat.beq s.4 0 with|false=>false|true=>bif s.5 then false else true)=true->x_1.2=false/\x_1.1=0)/\∀(i:Nat),i<s.2->x_1.3 i 0=s.6 (s.1+i) 0)->s.2<=x_1.1/\bif (↑s.2:Int)==(0:Int)then endN (Ql deqR) nzL rpL (LstS.mk l m c nn z (4:Int) key x) (SV.t [SA.c (.so 3 0 1 s.2 x_1.1 x_1.2),SA.a [sI 2,sI 0]]) [SB.rows 3 [.int .i64] 1 m c z,SB.cells [sI 4,sI key,sI x] 24,SB.cells [sI 2,sI 0] 47,SB.rows 3 [.int .i64] 1 s.2 x_1.1 x_1.3]else s.2<=x_1.1/\((0:Int)<=IntKind.wrap .i64 ((↑s.2:Int)-(1:Int))/\IntKind.wrap .i64 ((↑s.2:Int)-(1:Int))<(↑s.2:Int)/\0+s.2<=x_1.1)/\0+Int.toNat (IntKind.wrap .i64 ((↑s.2:Int)-(1:Int)))<s.2/\∃(s_1:DelS),[SA.c (.so 3 0 1 s.2 x_1.1 x_1.2),aI (IntKind.wrap .i64 ((↑s.2:Int)-(1:Int))),aI (IntKind.wrap .i64 (IntKind.wrap .i64 ((↑s.2:Int)-(1:Int))+(1:Int)))]=[SA.c (.so 3 0 1 (List.length s_1.1) s_1.3 s_1.4),aI ↑s_1.6,aI (↑(s_1.6+1):Int)]/\[SB.rows 3 [.int .i64] 1 s.2 x_1.1 x_1.3]=[SB.rows 3 [.int .i64] 1 s_1.2 s_1.3 s_1.5]/\((s_1.6<List.length s_1.1/\List.length s_1.1<=1000)/\(List.length s_1.1<=s_1.2/\s_1.2<=s_1.3)/\IsL s_1.5 s_1.1)/\∀(x_2:LstR),((x_2.1=match List.length s_1.1 with|0=>0|Nat.succ a=>a)/\x_2.2=s_1.3)/\IsL x_2.4 (List.eraseIdx s_1.1 s_1.6)->endN (Ql deqR) nzL rpL (LstS.mk l m c nn z (4:Int) key x) (SV.t [SA.c (.so 4 0 1 (match List.length s_1.1 with|0=>0|Nat.succ a=>a) x_2.2 true),SA.a [sI 1,sI (x_1.3 (0+Int.toNat (IntKind.wrap .i64 ((↑s.2:Int)-(1:Int)))) 0)]]) [SB.rows 3 [.int .i64] 1 m c z,SB.cells [sI 4,sI key,sI x] 24,SB.cells [sI 1,sI (x_1.3 (0+Int.toNat (IntKind.wrap .i64 ((↑s.2:Int)-(1:Int)))) 0)] 47,SB.gone,SB.rows 3 [.int .i64] 1 x_2.1 x_2.2 x_2.4]) (by kernel_rfl) ?_
  refine⟨⟨0,l.length,m,c,nn,z⟩,rfl,rfl,hs,fun y hy=>⟨hy.1,Qar (fun h=>?_) (fun h=>?_)⟩⟩
  · have e:deqR l 4 x=(l,2,0):=by unfold deqR;rw[if_neg (by decide),if_pos (by decide),if_pos (by dsimp only at h;omega)]
    exact Qo _ _ _ _ _ _ _ _ _ _ _ rfl rfl rfl _ e rfl (Nat.le_refl _) hy.1 (h4.sub fun i hi=>(hy.2.2 i hi).trans (by rw[Nat.zero_add])) rfl rfl
  · dsimp only at h hy ⊢
    have hn:0<l.length:=by omega
    have e:deqR l 4 x=(l.eraseIdx (l.length-1),1,l.getD (l.length-1) 0):=by unfold deqR;rw[if_neg (by decide),if_pos (by decide),if_neg (by omega),if_neg (by decide),if_pos rfl]
    have hy0 (i:Nat) (hi:i<l.length):y.3 (0+i) 0=l.getD i 0:=(congrArg (y.3 · 0) (Nat.zero_add i)).trans ((hy.2.2 i hi).trans ((congrArg (z · 0) (Nat.zero_add i)).trans (h4 i hi)))
    have ew:IntKind.wrap .i64 ((l.length:Int)-1)=((l.length-1:Nat):Int):=by rw[Q8 (by omega) (by omega)];omega
    rw[ew,sucI (by omega),Int.toNat_natCast]
    refine⟨hy.1,⟨by omega,by omega,by have:=hy.1;omega⟩,by omega,⟨l,l.length,y.1,y.2,y.3,l.length-1⟩,rfl,rfl,⟨⟨Nat.sub_lt hn (by decide),Nat.le_trans h1 (by decide)⟩,⟨Nat.le_refl _,hy.1⟩,h4.sub fun i hi=>(hy.2.2 i hi).trans (by rw[Nat.zero_add])⟩,fun q hq=>?_⟩
    exact Qo _ _ _ _ _ _ _ _ _ _ _ rfl rfl rfl _ e (by rw[List.length_eraseIdx,if_pos (Nat.sub_lt hn (by decide))];rfl) (Nat.le_of_eq (show l.length-1=q.1 from hq.1.1.symm)) (Nat.le_trans (Nat.le_of_eq (show q.1=l.length-1 from hq.1.1)) (Nat.le_trans (Nat.le_trans (Nat.sub_le _ _) hy.1) (Nat.le_of_eq hq.1.2.symm))) hq.2 rfl (hy0 _ (by omega))
 ·
  refine Qh (q:=∃(s:CloS),[SA.c (.so 0 0 1 (List.length l) c nn)]=[SA.c (.so 0 s.1 1 s.2 s.4 s.5)]/\[SB.rows 3 [.int .i64] 1 m c z]=[SB.rows 3 [.int .i64] 1 s.3 s.4 s.6]/\(s.1+s.2<=s.3/\s.2<=1000)/\∀(x_1:CloR),(s.2<=x_1.1/\((match Nat.beq s.4 0 with|false=>false|true=>bif s.5 then false else true)=true->x_1.2=false/\x_1.1=0)/\∀(i:Nat),i<s.2->x_1.3 i 0=s.6 (s.1+i) 0)->s.2<=x_1.1/\bif (↑s.2:Int)==(0:Int)then endN (Ql deqR) nzL rpL (LstS.mk l m c nn z (5:Int) key x) (SV.t [SA.c (.so 3 0 1 s.2 x_1.1 x_1.2),SA.a [sI 2,sI 0]]) [SB.rows 3 [.int .i64] 1 m c z,SB.cells [sI 5,sI key,sI x] 24,SB.cells [sI 2,sI 0] 47,SB.rows 3 [.int .i64] 1 s.2 x_1.1 x_1.3]else ((0:Int)<=(0:Int)/\(0:Int)<(↑s.2:Int)/\0+s.2<=x_1.1)/\0<s.2/\endN (Ql deqR) nzL rpL (LstS.mk l m c nn z (5:Int) key x) (SV.t [SA.c (.so 3 0 1 s.2 x_1.1 x_1.2),SA.a [sI 1,sI (x_1.3 0 0)]]) [SB.rows 3 [.int .i64] 1 m c z,SB.cells [sI 5,sI key,sI x] 24,SB.cells [sI 1,sI (x_1.3 0 0)] 47,SB.rows 3 [.int .i64] 1 s.2 x_1.1 x_1.3]) (by kernel_rfl) ?_
  refine⟨⟨0,l.length,m,c,nn,z⟩,rfl,rfl,hs,fun y hy=>⟨hy.1,Qar (fun h=>?_) (fun h=>?_)⟩⟩
  · have e:deqR l 5 x=(l,2,0):=by unfold deqR;rw[if_neg (by decide),if_pos (by decide),if_pos (by dsimp only at h;omega)]
    exact Qo _ _ _ _ _ _ _ _ _ _ _ rfl rfl rfl _ e rfl (Nat.le_refl _) hy.1 (h4.sub fun i hi=>(hy.2.2 i hi).trans (by rw[Nat.zero_add])) rfl rfl
  · dsimp only at h hy ⊢
    have hn:0<l.length:=by omega
    have e:deqR l 5 x=(l,1,l.getD 0 0):=by unfold deqR;rw[if_neg (by decide),if_pos (by decide),if_neg (by omega),if_pos rfl]
    have hy0 (i:Nat) (hi:i<l.length):y.3 (0+i) 0=l.getD i 0:=(congrArg (y.3 · 0) (Nat.zero_add i)).trans ((hy.2.2 i hi).trans ((congrArg (z · 0) (Nat.zero_add i)).trans (h4 i hi)))
    refine⟨⟨by omega,by omega,by have:=hy.1;omega⟩,hn,?_⟩
    exact Qo _ _ _ _ _ _ _ _ _ _ _ rfl rfl rfl _ e rfl (Nat.le_refl _) hy.1 (h4.sub fun i hi=>(hy.2.2 i hi).trans (by rw[Nat.zero_add])) rfl (hy0 0 hn)
 ·
  refine Qh (q:=∃(s:CloS),[SA.c (.so 0 0 1 (List.length l) c nn)]=[SA.c (.so 0 s.1 1 s.2 s.4 s.5)]/\[SB.rows 3 [.int .i64] 1 m c z]=[SB.rows 3 [.int .i64] 1 s.3 s.4 s.6]/\(s.1+s.2<=s.3/\s.2<=1000)/\∀(x_1:CloR),(s.2<=x_1.1/\((match Nat.beq s.4 0 with|false=>false|true=>bif s.5 then false else true)=true->x_1.2=false/\x_1.1=0)/\∀(i:Nat),i<s.2->x_1.3 i 0=s.6 (s.1+i) 0)->s.2<=x_1.1/\endN (Ql deqR) nzL rpL (LstS.mk l m c nn z (6:Int) key x) (SV.t [SA.c (.so 3 0 1 s.2 x_1.1 x_1.2),SA.a [sI 1,sI (↑s.2:Int)]]) [SB.rows 3 [.int .i64] 1 m c z,SB.cells [sI 6,sI key,sI x] 24,SB.cells [sI 1,sI (↑s.2:Int)] 47,SB.rows 3 [.int .i64] 1 s.2 x_1.1 x_1.3]) (by kernel_rfl) ?_
  exact⟨⟨0,l.length,m,c,nn,z⟩,rfl,rfl,hs,fun y hy=>⟨hy.1,Qo _ _ _ _ _ _ _ _ _ _ _ rfl rfl rfl (l,1,(l.length:Int)) rfl rfl (Nat.le_refl _) hy.1 (h4.sub fun i hi=>(hy.2.2 i hi).trans (by rw[Nat.zero_add])) rfl rfl⟩⟩
structure UpS where
 l:List Int
 m:Nat
 c:Nat
 nn:Bool
 z:Nat->Nat->Int
abbrev UpS.pre (s:UpS):Prop:=s.l.length<=1000/\s.l.length<=s.m/\s.m<=s.c/\IsL s.z s.l
def Xb (p:List Int->Prop) (F:List Int->List Int):MCon where
 σ:=UpS
 χ:=Nat->Nat->Int
 pre s:=s.pre/\p s.l
 args s:=[.c (.so 0 0 1 s.l.length s.c s.nn)]
 mem s:=[Xk s.m s.c s.z]
 ok s z:=IsL z (F s.l)
 val s z:=.o (.c (.so 0 0 1 s.l.length s.c s.nn))
 mem' s z:=[Xk s.m s.c z]
 k:=1
 len:=1
 det:=none
 find args M:=some (blkA args)
theorem Qbk {p:List Int->Prop}{F:List Int->List Int}{s:UpS}{z:Nat->Nat->Int}(h:IsL z (F s.l)):endN (Xb p F) [] (QI 1) s (.o (.c (.so 0 0 1 s.l.length s.c s.nn))) [Xk s.m s.c z]:=
 ⟨z,h,rfl,rfl⟩
structure UpG (s:UpS) where
 l:List Int
 i:Nat
 z:Nat->Nat->Int
 hl:l.length=s.l.length
 hi:i<l.length
 hz:IsL z l
 he:∃f,i<=f/\upF f l i=upOf s.l
def annUp (s:UpS):Ann where
 σ:=UpG s
 I g:=([(0,.o (.c (.so 0 0 1 s.l.length s.c s.nn))),(3,sv (.int .i64 g.i))],[Xk s.m s.c g.z])
 dec g:=g.i
 pi _ _:=[0]
 nz:=[]
theorem Qgq {z:Nat->Nat->Int}{a b:Nat}{u v w:Int}(j:Nat) (ha:z (0+a) 0=u) (hb:z (0+b) 0=v) (hj:z j 0=w):
 (bif (match Nat.beq j (0+b)with|false=>false|true=>Nat.ble 0 0)then (match List.get?Internal [z (0+a) 0] 0 with|some x=>x|none=>(0:Int))
  else bif (match Nat.beq j (0+a)with|false=>false|true=>Nat.ble 0 0)then (match List.get?Internal [z (0+b) 0] 0 with|some x=>x|none=>(0:Int))else z j 0)=if j=b then u else if j=a then v else w:=by
 rw[Nat.zero_add]at *
 rw[Nat.zero_add]at *
 subst ha hb hj
 by_cases h1:j=b
 · subst h1;simp[List.get?Internal];rfl
 · rw[show Nat.beq j b=false from nbeq h1,if_neg h1]
   by_cases h2:j=a
   · subst h2;simp[List.get?Internal];rfl
   · rw[show Nat.beq j a=false from nbeq h2,if_neg h2];rfl
theorem up_con:(Con.mem (Xb (fun l=>0<l.length) upOf)).holds Tryd.prog 82:=by
 intro w0 S
 refine Qw (Γ:=[]) (fun _=>noW) Tryd.func82 rfl (by kernel_rfl) Qg Qc (fun _ _ _ _=>.nil _ _ _) (Xb _ upOf) (fun s=>[(82,[(0,annUp s)])]) (fun x0 h=>by cases h) (fun s ρ w _ _ _=>Q7 w _) [] (QI 1) 400 ?_
 rintro⟨l,m,c,nn,z⟩ w ⟨⟨h1,h2,h3,h4⟩,h5⟩ -
 refine⟨rfl,?_⟩
 dsimp only at h1 h2 h3 h4 h5
 refine Qh (q:=List.length l<=c/\(∃(s0:Ann.σ (annUp (UpS.mk l m c nn z))),(eS (SA.c (.so 0 0 1 (List.length l) c nn)) (SA.c (.so 0 0 1 (List.length l) c nn))/\eS (aI (IntKind.wrap .i64 ((↑(List.length l):Int)-(1:Int)))) (aI ↑s0.2)/\True)/\[SB.rows 3 [.int .i64] 1 m c z]=[SB.rows 3 [.int .i64] 1 m c s0.3])/\∀(s:UpG (UpS.mk l m c nn z)),bif decide ((↑s.2:Int)>(0:Int))then ((0:Int)<=(↑s.2:Int)/\(↑s.2:Int)<(↑(List.length l):Int)/\0+List.length l<=c)/\0+Int.toNat (↑s.2:Int)<m/\(2:Int)≠(0:Int)/\((0:Int)<=IntKind.wrap .i64 (Int.tdiv (IntKind.wrap .i64 ((↑s.2:Int)-(1:Int))) (2:Int))/\IntKind.wrap .i64 (Int.tdiv (IntKind.wrap .i64 ((↑s.2:Int)-(1:Int))) (2:Int))<(↑(List.length l):Int)/\0+List.length l<=c)/\0+Int.toNat (IntKind.wrap .i64 (Int.tdiv (IntKind.wrap .i64 ((↑s.2:Int)-(1:Int))) (2:Int)))<m/\dP Tryd.f82 2 1 [xE 14,xE 13,xR 12 0,xF 11 0,xE 10,xE 9,xE 8,xF 7 0,xR 6 0,xF 5 0,xE 4,xF 3 0,xE 2,xE 1,xE 0]/\bif decide (s.3 (0+Int.toNat (↑s.2:Int)) 0<s.3 (0+Int.toNat (IntKind.wrap .i64 (Int.tdiv (IntKind.wrap .i64 ((↑s.2:Int)-(1:Int))) (2:Int)))) 0)then (2:Int)≠(0:Int)/\(2:Int)≠(0:Int)/\((0:Int)<=IntKind.wrap .i64 (Int.tdiv (IntKind.wrap .i64 ((↑s.2:Int)-(1:Int))) (2:Int))/\IntKind.wrap .i64 (Int.tdiv (IntKind.wrap .i64 ((↑s.2:Int)-(1:Int))) (2:Int))<(↑(List.length l):Int)/\0+List.length l<=c)/\0+Int.toNat (IntKind.wrap .i64 (Int.tdiv (IntKind.wrap .i64 ((↑s.2:Int)-(1:Int))) (2:Int)))<m/\((0:Int)<=(↑s.2:Int)/\(↑s.2:Int)<(↑(List.length l):Int)/\0+List.length l<=c)/\0+Int.toNat (↑s.2:Int)<m/\((0:Int)<=(↑s.2:Int)/\(↑s.2:Int)<(↑(List.length l):Int)/\0+List.length l<=c)/\0+Int.toNat (↑s.2:Int)<m/\((0:Int)<=IntKind.wrap .i64 (Int.tdiv (IntKind.wrap .i64 ((↑s.2:Int)-(1:Int))) (2:Int))/\IntKind.wrap .i64 (Int.tdiv (IntKind.wrap .i64 ((↑s.2:Int)-(1:Int))) (2:Int))<(↑(List.length l):Int)/\0+List.length l<=c)/\0+Int.toNat (IntKind.wrap .i64 (Int.tdiv (IntKind.wrap .i64 ((↑s.2:Int)-(1:Int))) (2:Int)))<m/\dP Tryd.f82 4 1 [⟨19,[],[0],[],false⟩,xF 18 0,⟨17,[],[0],[],false⟩,xF 16 0,xR 15 0,xF 14 0,xE 13,xF 12 0,xR 11 0,xF 10 0,xE 9,xE 8,xE 7,xF 6 0,xE 5,xE 4,xE 3,xF 2 0,xE 1,xF 0 0]/\(2:Int)≠(0:Int)/\∃(s':UpG (UpS.mk l m c nn z)),((eS (SA.c (.so 0 0 1 (List.length l) c nn)) (SA.c (.so 0 0 1 (List.length l) c nn))/\eS (aI (IntKind.wrap .i64 (Int.tdiv (IntKind.wrap .i64 ((↑s.2:Int)-(1:Int))) (2:Int)))) (aI ↑s'.2)/\True)/\[SB.rows 3 [.int .i64] 1 m c fun (i j:Nat)=>bif match Nat.beq i (0+Int.toNat (IntKind.wrap .i64 (Int.tdiv (IntKind.wrap .i64 ((↑s.2:Int)-(1:Int))) (2:Int))))with|false=>false|true=>Nat.ble j 0 then match List.get?Internal [s.3 (0+Int.toNat (↑s.2:Int)) 0] j with|some x=>x|none=>(0:Int)else bif match Nat.beq i (0+Int.toNat (↑s.2:Int))with|false=>false|true=>Nat.ble j 0 then match List.get?Internal [s.3 (0+Int.toNat (IntKind.wrap .i64 (Int.tdiv (IntKind.wrap .i64 ((↑s.2:Int)-(1:Int))) (2:Int)))) 0] j with|some x=>x|none=>(0:Int)else s.3 i j]=[SB.rows 3 [.int .i64] 1 m c s'.3])/\s'.2<s.2 else endN (Xb (fun (l:List Int)=>0<List.length l) upOf) [] (QI 1) (UpS.mk l m c nn z) (SV.o (SA.c (.so 0 0 1 (List.length l) c nn))) [SB.rows 3 [.int .i64] 1 m c s.3]else dP Tryd.f82 2 1 [xE 14,xE 13,xE 12,xE 11,xE 10,xE 9,xE 8,xE 7,xE 6,xE 5,xE 4,xE 3,xE 2,xE 1,xE 0]/\endN (Xb (fun (l:List Int)=>0<List.length l) upOf) [] (QI 1) (UpS.mk l m c nn z) (SV.o (SA.c (.so 0 0 1 (List.length l) c nn))) [SB.rows 3 [.int .i64] 1 m c s.3]) (by kernel_rfl) ?_
 refine⟨by omega,⟨⟨l,l.length-1,z,rfl,by omega,h4,⟨l.length-1,Nat.le_refl _,rfl⟩⟩,⟨rfl,by rw[lenW h1];congr 5;show _=((l.length-1:Nat):Int);omega,trivial⟩,rfl⟩,?_⟩
 rintro⟨l',i,z',hl,hi,hz,f,hf,he⟩
 dsimp only at hl hi hz hf he ⊢
 refine Qi (fun hpos=>?_) (fun hn=>⟨Qd (by kernel_rfl),Qbk ?_⟩)
 · have e:IntKind.wrap .i64 (Int.tdiv (IntKind.wrap .i64 ((i:Int)-1)) 2)=(((i-1)/2:Nat):Int):=by
    rw[Q8 (x:=(i:Int)-1) (by omega) (by omega),Int.tdiv_eq_ediv_of_nonneg (by omega),Q8 (by omega) (by omega)];omega
   have hz1:z' (0+i) 0=hp l' i:=(congrArg (z' · 0) (Nat.zero_add i)).trans (hz i hi)
   have hz2:z' (0+(i-1)/2) 0=hp l' ((i-1)/2):=(congrArg (z' · 0) (Nat.zero_add _)).trans (hz ((i-1)/2) (by omega))
   rw[e,Int.toNat_natCast,Int.toNat_natCast]
   refine⟨⟨by omega,by omega,by omega⟩,by omega,by decide,⟨by omega,by omega,by omega⟩,by omega,Qd (by kernel_rfl),Qi (fun hlt=>?_) (fun hge=>Qbk ?_)⟩
   · refine⟨by decide,by decide,⟨by omega,by omega,by omega⟩,by omega,⟨by omega,by omega,by omega⟩,by omega,⟨by omega,by omega,by omega⟩,by omega,⟨by omega,by omega,by omega⟩,by omega,Qd (by kernel_rfl),by decide,
      ⟨swp l' i ((i-1)/2),(i-1)/2,_,by rw[Qk,hl],by rw[Qk];omega,?_,⟨f-1,by omega,?_⟩⟩,⟨⟨rfl,rfl,trivial⟩,rfl⟩,by dsimp only;omega⟩
     · intro j hj
       rw[Qk]at hj
       show _=hp (swp l' i ((i-1)/2)) j
       rw[Qa2 _ _ _ _ hi (by omega)]
       exact Qgq j hz1 hz2 (hz j (by omega))
     · obtain⟨f,rfl⟩:∃f',f=f'+1:=⟨f-1,by omega⟩
       rw[<- he];simp only[upF,Nat.add_sub_cancel]
       rw[if_pos ⟨by omega,hz1 ▸ hz2 ▸ hlt⟩]
   · rw[<- he]
     cases f with
     |zero=>exact hz
     |succ f=>simp only[upF];rw[if_neg (fun h=>hge (by rw[hz1,hz2];exact h.2))];exact hz
 · rw[<- he]
   cases f with
   |zero=>exact hz
   |succ f=>simp only[upF];rw[if_neg (by omega)];exact hz
structure DnG (s:UpS) where
 l:List Int
 i:Nat
 z:Nat->Nat->Int
 hl:l.length=s.l.length
 hi:i<=l.length
 hz:IsL z l
 he:∃f,l.length<=i+f/\QbT f l i=XM s.l
def Qja (s:UpS):Ann where
 σ:=DnG s
 I g:=([(0,.o (.c (.so 0 0 1 s.l.length s.c s.nn))),(3,sv (.int .i64 g.i))],[Xk s.m s.c g.z])
 dec g:=s.l.length-g.i
 pi _ _:=[0]
 nz:=[]
theorem QjR:(Con.mem (Xb (fun _=>True) XM)).holds Tryd.prog 83:=by
 intro w0 S
 refine Qw (Γ:=[]) (fun _=>noW) Tryd.func83 rfl (by kernel_rfl) Qg Qc (fun _ _ _ _=>.nil _ _ _) (Xb _ XM) (fun s=>[(83,[(0,Qja s)])]) (fun x0 h=>by cases h) (fun s ρ w _ _ _=>Q7 w _) [] (QI 1) 400 ?_
 rintro⟨l,m,c,nn,z⟩ w ⟨⟨h1,h2,h3,h4⟩,-⟩ -
 refine⟨rfl,?_⟩
 dsimp only at h1 h2 h3 h4
 refine Qh (q:=(∃(s0:Ann.σ (Qja (UpS.mk l m c nn z))),(eS (SA.c (.so 0 0 1 (List.length l) c nn)) (SA.c (.so 0 0 1 (List.length l) c nn))/\eS (aI 0) (aI ↑s0.2)/\True)/\[SB.rows 3 [.int .i64] 1 m c z]=[SB.rows 3 [.int .i64] 1 m c s0.3])/\∀(s:DnG (UpS.mk l m c nn z)),List.length l<=c/\bif decide (IntKind.wrap .i64 (IntKind.wrap .i64 (IntKind.wrap .i64 ((2:Int)*(↑s.2:Int))+(1:Int))+(1:Int))<(↑(List.length l):Int))then ((0:Int)<=IntKind.wrap .i64 (IntKind.wrap .i64 (IntKind.wrap .i64 ((2:Int)*(↑s.2:Int))+(1:Int))+(1:Int))/\IntKind.wrap .i64 (IntKind.wrap .i64 (IntKind.wrap .i64 ((2:Int)*(↑s.2:Int))+(1:Int))+(1:Int))<(↑(List.length l):Int)/\0+List.length l<=c)/\0+Int.toNat (IntKind.wrap .i64 (IntKind.wrap .i64 (IntKind.wrap .i64 ((2:Int)*(↑s.2:Int))+(1:Int))+(1:Int)))<m/\((0:Int)<=IntKind.wrap .i64 (IntKind.wrap .i64 ((2:Int)*(↑s.2:Int))+(1:Int))/\IntKind.wrap .i64 (IntKind.wrap .i64 ((2:Int)*(↑s.2:Int))+(1:Int))<(↑(List.length l):Int)/\0+List.length l<=c)/\0+Int.toNat (IntKind.wrap .i64 (IntKind.wrap .i64 ((2:Int)*(↑s.2:Int))+(1:Int)))<m/\dP Tryd.f83 3 1 [xE 16,xE 15,xR 14 0,xF 13 0,xE 12,xF 11 0,xR 10 0,xF 9 0,xE 8,xE 7,xF 6 0,xE 5,xE 4,xE 3,xF 2 0,xE 1,xE 0]/\bif decide (s.3 (0+Int.toNat (IntKind.wrap .i64 (IntKind.wrap .i64 (IntKind.wrap .i64 ((2:Int)*(↑s.2:Int))+(1:Int))+(1:Int)))) 0<s.3 (0+Int.toNat (IntKind.wrap .i64 (IntKind.wrap .i64 ((2:Int)*(↑s.2:Int))+(1:Int)))) 0)then List.length l<=c/\bif decide (IntKind.wrap .i64 (IntKind.wrap .i64 (IntKind.wrap .i64 ((2:Int)*(↑s.2:Int))+(1:Int))+(1:Int))>=(↑(List.length l):Int))then dP Tryd.f83 5 1 [xE 14,xE 13,xE 12,xE 11,xE 10,xE 9,xE 8,xE 7,xE 6,xE 5,xE 4,xE 3,xE 2,xF 1 0,xE 0]/\endN (Xb (fun (x:List Int)=>True) XM) [] (QI 1) (UpS.mk l m c nn z) (SV.o (SA.c (.so 0 0 1 (List.length l) c nn))) [SB.rows 3 [.int .i64] 1 m c s.3]else ((0:Int)<=(↑s.2:Int)/\(↑s.2:Int)<(↑(List.length l):Int)/\0+List.length l<=c)/\0+Int.toNat (↑s.2:Int)<m/\((0:Int)<=IntKind.wrap .i64 (IntKind.wrap .i64 (IntKind.wrap .i64 ((2:Int)*(↑s.2:Int))+(1:Int))+(1:Int))/\IntKind.wrap .i64 (IntKind.wrap .i64 (IntKind.wrap .i64 ((2:Int)*(↑s.2:Int))+(1:Int))+(1:Int))<(↑(List.length l):Int)/\0+List.length l<=c)/\0+Int.toNat (IntKind.wrap .i64 (IntKind.wrap .i64 (IntKind.wrap .i64 ((2:Int)*(↑s.2:Int))+(1:Int))+(1:Int)))<m/\dP Tryd.f83 5 1 [xE 14,xE 13,xR 12 0,xF 11 0,xE 10,xF 9 0,xR 8 0,xF 7 0,xE 6,xF 5 0,xE 4,xE 3,xE 2,xF 1 0,xE 0]/\bif decide (s.3 (0+Int.toNat (↑s.2:Int)) 0<=s.3 (0+Int.toNat (IntKind.wrap .i64 (IntKind.wrap .i64 (IntKind.wrap .i64 ((2:Int)*(↑s.2:Int))+(1:Int))+(1:Int)))) 0)then endN (Xb (fun (x:List Int)=>True) XM) [] (QI 1) (UpS.mk l m c nn z) (SV.o (SA.c (.so 0 0 1 (List.length l) c nn))) [SB.rows 3 [.int .i64] 1 m c s.3]else ((0:Int)<=IntKind.wrap .i64 (IntKind.wrap .i64 (IntKind.wrap .i64 ((2:Int)*(↑s.2:Int))+(1:Int))+(1:Int))/\IntKind.wrap .i64 (IntKind.wrap .i64 (IntKind.wrap .i64 ((2:Int)*(↑s.2:Int))+(1:Int))+(1:Int))<(↑(List.length l):Int)/\0+List.length l<=c)/\0+Int.toNat (IntKind.wrap .i64 (IntKind.wrap .i64 (IntKind.wrap .i64 ((2:Int)*(↑s.2:Int))+(1:Int))+(1:Int)))<m/\((0:Int)<=(↑s.2:Int)/\(↑s.2:Int)<(↑(List.length l):Int)/\0+List.length l<=c)/\0+Int.toNat (↑s.2:Int)<m/\((0:Int)<=(↑s.2:Int)/\(↑s.2:Int)<(↑(List.length l):Int)/\0+List.length l<=c)/\0+Int.toNat (↑s.2:Int)<m/\((0:Int)<=IntKind.wrap .i64 (IntKind.wrap .i64 (IntKind.wrap .i64 ((2:Int)*(↑s.2:Int))+(1:Int))+(1:Int))/\IntKind.wrap .i64 (IntKind.wrap .i64 (IntKind.wrap .i64 ((2:Int)*(↑s.2:Int))+(1:Int))+(1:Int))<(↑(List.length l):Int)/\0+List.length l<=c)/\0+Int.toNat (IntKind.wrap .i64 (IntKind.wrap .i64 (IntKind.wrap .i64 ((2:Int)*(↑s.2:Int))+(1:Int))+(1:Int)))<m/\dP Tryd.f83 7 1 [⟨15,[],[0],[],false⟩,xF 14 0,⟨13,[],[0],[],false⟩,xF 12 0,xR 11 0,xF 10 0,xE 9,xF 8 0,xR 7 0,xF 6 0,xE 5,xF 4 0,xE 3,xF 2 0,xE 1,xF 0 0]/\∃(s':DnG (UpS.mk l m c nn z)),((eS (SA.c (.so 0 0 1 (List.length l) c nn)) (SA.c (.so 0 0 1 (List.length l) c nn))/\eS (aI (IntKind.wrap .i64 (IntKind.wrap .i64 (IntKind.wrap .i64 ((2:Int)*(↑s.2:Int))+(1:Int))+(1:Int)))) (aI ↑s'.2)/\True)/\[SB.rows 3 [.int .i64] 1 m c fun (i j:Nat)=>bif match Nat.beq i (0+Int.toNat (IntKind.wrap .i64 (IntKind.wrap .i64 (IntKind.wrap .i64 ((2:Int)*(↑s.2:Int))+(1:Int))+(1:Int))))with|false=>false|true=>Nat.ble j 0 then match List.get?Internal [s.3 (0+Int.toNat (↑s.2:Int)) 0] j with|some x=>x|none=>(0:Int)else bif match Nat.beq i (0+Int.toNat (↑s.2:Int))with|false=>false|true=>Nat.ble j 0 then match List.get?Internal [s.3 (0+Int.toNat (IntKind.wrap .i64 (IntKind.wrap .i64 (IntKind.wrap .i64 ((2:Int)*(↑s.2:Int))+(1:Int))+(1:Int)))) 0] j with|some x=>x|none=>(0:Int)else s.3 i j]=[SB.rows 3 [.int .i64] 1 m c s'.3])/\List.length l-s'.2<List.length l-s.2 else List.length l<=c/\bif decide (IntKind.wrap .i64 (IntKind.wrap .i64 ((2:Int)*(↑s.2:Int))+(1:Int))>=(↑(List.length l):Int))then dP Tryd.f83 5 1 [xE 14,xE 13,xE 12,xE 11,xE 10,xE 9,xE 8,xE 7,xE 6,xE 5,xE 4,xE 3,xE 2,xF 1 0,xE 0]/\endN (Xb (fun (x:List Int)=>True) XM) [] (QI 1) (UpS.mk l m c nn z) (SV.o (SA.c (.so 0 0 1 (List.length l) c nn))) [SB.rows 3 [.int .i64] 1 m c s.3]else ((0:Int)<=(↑s.2:Int)/\(↑s.2:Int)<(↑(List.length l):Int)/\0+List.length l<=c)/\0+Int.toNat (↑s.2:Int)<m/\((0:Int)<=IntKind.wrap .i64 (IntKind.wrap .i64 ((2:Int)*(↑s.2:Int))+(1:Int))/\IntKind.wrap .i64 (IntKind.wrap .i64 ((2:Int)*(↑s.2:Int))+(1:Int))<(↑(List.length l):Int)/\0+List.length l<=c)/\0+Int.toNat (IntKind.wrap .i64 (IntKind.wrap .i64 ((2:Int)*(↑s.2:Int))+(1:Int)))<m/\dP Tryd.f83 5 1 [xE 14,xE 13,xR 12 0,xF 11 0,xE 10,xF 9 0,xR 8 0,xF 7 0,xE 6,xF 5 0,xE 4,xE 3,xE 2,xF 1 0,xE 0]/\bif decide (s.3 (0+Int.toNat (↑s.2:Int)) 0<=s.3 (0+Int.toNat (IntKind.wrap .i64 (IntKind.wrap .i64 ((2:Int)*(↑s.2:Int))+(1:Int)))) 0)then endN (Xb (fun (x:List Int)=>True) XM) [] (QI 1) (UpS.mk l m c nn z) (SV.o (SA.c (.so 0 0 1 (List.length l) c nn))) [SB.rows 3 [.int .i64] 1 m c s.3]else ((0:Int)<=IntKind.wrap .i64 (IntKind.wrap .i64 ((2:Int)*(↑s.2:Int))+(1:Int))/\IntKind.wrap .i64 (IntKind.wrap .i64 ((2:Int)*(↑s.2:Int))+(1:Int))<(↑(List.length l):Int)/\0+List.length l<=c)/\0+Int.toNat (IntKind.wrap .i64 (IntKind.wrap .i64 ((2:Int)*(↑s.2:Int))+(1:Int)))<m/\((0:Int)<=(↑s.2:Int)/\(↑s.2:Int)<(↑(List.length l):Int)/\0+List.length l<=c)/\0+Int.toNat (↑s.2:Int)<m/\((0:Int)<=(↑s.2:Int)/\(↑s.2:Int)<(↑(List.length l):Int)/\0+List.length l<=c)/\0+Int.toNat (↑s.2:Int)<m/\((0:Int)<=IntKind.wrap .i64 (IntKind.wrap .i64 ((2:Int)*(↑s.2:Int))+(1:Int))/\IntKind.wrap .i64 (IntKind.wrap .i64 ((2:Int)*(↑s.2:Int))+(1:Int))<(↑(List.length l):Int)/\0+List.length l<=c)/\0+Int.toNat (IntKind.wrap .i64 (IntKind.wrap .i64 ((2:Int)*(↑s.2:Int))+(1:Int)))<m/\dP Tryd.f83 7 1 [⟨15,[],[0],[],false⟩,xF 14 0,⟨13,[],[0],[],false⟩,xF 12 0,xR 11 0,xF 10 0,xE 9,xF 8 0,xR 7 0,xF 6 0,xE 5,xF 4 0,xE 3,xF 2 0,xE 1,xF 0 0]/\∃(s':DnG (UpS.mk l m c nn z)),((eS (SA.c (.so 0 0 1 (List.length l) c nn)) (SA.c (.so 0 0 1 (List.length l) c nn))/\eS (aI (IntKind.wrap .i64 (IntKind.wrap .i64 ((2:Int)*(↑s.2:Int))+(1:Int)))) (aI ↑s'.2)/\True)/\[SB.rows 3 [.int .i64] 1 m c fun (i j:Nat)=>bif match Nat.beq i (0+Int.toNat (IntKind.wrap .i64 (IntKind.wrap .i64 ((2:Int)*(↑s.2:Int))+(1:Int))))with|false=>false|true=>Nat.ble j 0 then match List.get?Internal [s.3 (0+Int.toNat (↑s.2:Int)) 0] j with|some x=>x|none=>(0:Int)else bif match Nat.beq i (0+Int.toNat (↑s.2:Int))with|false=>false|true=>Nat.ble j 0 then match List.get?Internal [s.3 (0+Int.toNat (IntKind.wrap .i64 (IntKind.wrap .i64 ((2:Int)*(↑s.2:Int))+(1:Int)))) 0] j with|some x=>x|none=>(0:Int)else s.3 i j]=[SB.rows 3 [.int .i64] 1 m c s'.3])/\List.length l-s'.2<List.length l-s.2 else dP Tryd.f83 3 1 [xE 16,xE 15,xE 14,xE 13,xE 12,xE 11,xE 10,xE 9,xE 8,xE 7,xE 6,xE 5,xE 4,xE 3,xF 2 0,xE 1,xE 0]/\List.length l<=c/\bif decide (IntKind.wrap .i64 (IntKind.wrap .i64 ((2:Int)*(↑s.2:Int))+(1:Int))>=(↑(List.length l):Int))then dP Tryd.f83 5 1 [xE 14,xE 13,xE 12,xE 11,xE 10,xE 9,xE 8,xE 7,xE 6,xE 5,xE 4,xE 3,xE 2,xF 1 0,xE 0]/\endN (Xb (fun (x:List Int)=>True) XM) [] (QI 1) (UpS.mk l m c nn z) (SV.o (SA.c (.so 0 0 1 (List.length l) c nn))) [SB.rows 3 [.int .i64] 1 m c s.3]else ((0:Int)<=(↑s.2:Int)/\(↑s.2:Int)<(↑(List.length l):Int)/\0+List.length l<=c)/\0+Int.toNat (↑s.2:Int)<m/\((0:Int)<=IntKind.wrap .i64 (IntKind.wrap .i64 ((2:Int)*(↑s.2:Int))+(1:Int))/\IntKind.wrap .i64 (IntKind.wrap .i64 ((2:Int)*(↑s.2:Int))+(1:Int))<(↑(List.length l):Int)/\0+List.length l<=c)/\0+Int.toNat (IntKind.wrap .i64 (IntKind.wrap .i64 ((2:Int)*(↑s.2:Int))+(1:Int)))<m/\dP Tryd.f83 5 1 [xE 14,xE 13,xR 12 0,xF 11 0,xE 10,xF 9 0,xR 8 0,xF 7 0,xE 6,xF 5 0,xE 4,xE 3,xE 2,xF 1 0,xE 0]/\bif decide (s.3 (0+Int.toNat (↑s.2:Int)) 0<=s.3 (0+Int.toNat (IntKind.wrap .i64 (IntKind.wrap .i64 ((2:Int)*(↑s.2:Int))+(1:Int)))) 0)then endN (Xb (fun (x:List Int)=>True) XM) [] (QI 1) (UpS.mk l m c nn z) (SV.o (SA.c (.so 0 0 1 (List.length l) c nn))) [SB.rows 3 [.int .i64] 1 m c s.3]else ((0:Int)<=IntKind.wrap .i64 (IntKind.wrap .i64 ((2:Int)*(↑s.2:Int))+(1:Int))/\IntKind.wrap .i64 (IntKind.wrap .i64 ((2:Int)*(↑s.2:Int))+(1:Int))<(↑(List.length l):Int)/\0+List.length l<=c)/\0+Int.toNat (IntKind.wrap .i64 (IntKind.wrap .i64 ((2:Int)*(↑s.2:Int))+(1:Int)))<m/\((0:Int)<=(↑s.2:Int)/\(↑s.2:Int)<(↑(List.length l):Int)/\0+List.length l<=c)/\0+Int.toNat (↑s.2:Int)<m/\((0:Int)<=(↑s.2:Int)/\(↑s.2:Int)<(↑(List.length l):Int)/\0+List.length l<=c)/\0+Int.toNat (↑s.2:Int)<m/\((0:Int)<=IntKind.wrap .i64 (IntKind.wrap .i64 ((2:Int)*(↑s.2:Int))+(1:Int))/\IntKind.wrap .i64 (IntKind.wrap .i64 ((2:Int)*(↑s.2:Int))+(1:Int))<(↑(List.length l):Int)/\0+List.length l<=c)/\0+Int.toNat (IntKind.wrap .i64 (IntKind.wrap .i64 ((2:Int)*(↑s.2:Int))+(1:Int)))<m/\dP Tryd.f83 7 1 [⟨15,[],[0],[],false⟩,xF 14 0,⟨13,[],[0],[],false⟩,xF 12 0,xR 11 0,xF 10 0,xE 9,xF 8 0,xR 7 0,xF 6 0,xE 5,xF 4 0,xE 3,xF 2 0,xE 1,xF 0 0]/\∃(s':DnG (UpS.mk l m c nn z)),((eS (SA.c (.so 0 0 1 (List.length l) c nn)) (SA.c (.so 0 0 1 (List.length l) c nn))/\eS (aI (IntKind.wrap .i64 (IntKind.wrap .i64 ((2:Int)*(↑s.2:Int))+(1:Int)))) (aI ↑s'.2)/\True)/\[SB.rows 3 [.int .i64] 1 m c fun (i j:Nat)=>bif match Nat.beq i (0+Int.toNat (IntKind.wrap .i64 (IntKind.wrap .i64 ((2:Int)*(↑s.2:Int))+(1:Int))))with|false=>false|true=>Nat.ble j 0 then match List.get?Internal [s.3 (0+Int.toNat (↑s.2:Int)) 0] j with|some x=>x|none=>(0:Int)else bif match Nat.beq i (0+Int.toNat (↑s.2:Int))with|false=>false|true=>Nat.ble j 0 then match List.get?Internal [s.3 (0+Int.toNat (IntKind.wrap .i64 (IntKind.wrap .i64 ((2:Int)*(↑s.2:Int))+(1:Int)))) 0] j with|some x=>x|none=>(0:Int)else s.3 i j]=[SB.rows 3 [.int .i64] 1 m c s'.3])/\List.length l-s'.2<List.length l-s.2) (by kernel_rfl) ?_
 refine⟨⟨⟨l,0,z,rfl,Nat.zero_le _,h4,⟨l.length,by omega,rfl⟩⟩,⟨rfl,rfl,trivial⟩,rfl⟩,?_⟩
 rintro⟨l',i,z',hl,hi,hz,f,hf,he⟩
 dsimp only at hl hi hz hf he ⊢
 have e1:IntKind.wrap .i64 ((2:Int)*(i:Int))=((2*i:Nat):Int):=by rw[Q8 (by omega) (by omega)];omega
 have e2:IntKind.wrap .i64 (((2*i:Nat):Int)+1)=((2*i+1:Nat):Int):=by rw[Q8 (by omega) (by omega)];omega
 have e3:IntKind.wrap .i64 (((2*i+1:Nat):Int)+1)=((2*i+2:Nat):Int):=by rw[Q8 (by omega) (by omega)];omega
 rw[e1,e2,e3,Int.toNat_natCast,Int.toNat_natCast,Int.toNat_natCast]
 have zh (j:Nat) (hj:j<l'.length):z' (0+j) 0=hp l' j:=(congrArg (z' · 0) (Nat.zero_add j)).trans (hz j hj)
 have kidA (ha:2*i+2<l'.length) (hb:z' (0+(2*i+2)) 0<z' (0+(2*i+1)) 0):kid l' i=2*i+2:=by
  rw[zh _ ha,zh _ (by omega)]at hb;exact if_pos ⟨ha,hb⟩
 have kidB (hb:l'.length<=2*i+2\/¬z' (0+(2*i+2)) 0<z' (0+(2*i+1)) 0):kid l' i=2*i+1:=by
  refine if_neg (fun h=>?_)
  rcases hb with hb|hb
  · omega
  · rw[zh _ h.1,zh _ (by omega)]at hb;exact hb h.2
 have stop1 (k:Nat) (hk:kid l' i=k) (h:l'.length<=k):IsL z' (XM l):=by
  rw[<- he]
  cases f with
  |zero=>exact hz
  |succ f=>simp only[QbT];rw[if_pos (.inl (by omega))];exact hz
 have stop2 (k:Nat) (hk:kid l' i=k) (h0:i<l'.length) (h1:k<l'.length) (h:z' (0+i) 0<=z' (0+k) 0):IsL z' (XM l):=by
  rw[zh _ h0,zh _ h1,<- hk]at h
  rw[<- he]
  cases f with
  |zero=>exact hz
  |succ f=>simp only[QbT];rw[if_pos (.inr h)];exact hz
 have go (k:Nat) (hk:kid l' i=k) (h0:i<l'.length) (h1:k<l'.length) (h:¬z' (0+i) 0<=z' (0+k) 0):∃f',(swp l' i k).length<=k+f'/\QbT f' (swp l' i k) k=XM l:=by
  rw[zh _ h0,zh _ h1,<- hk]at h
  obtain⟨f,rfl⟩:∃f',f=f'+1:=⟨f-1,by omega⟩
  refine⟨f,by rw[Qk];omega,?_⟩
  rw[<- he];simp only[QbT];rw[if_neg (fun hh=>hh.elim (by omega) h),hk]
 repeat' (first|exact Qd (by kernel_rfl)|refine And.intro ?_ ?_|refine Qi (fun _=>?_) (fun _=>?_))
 all_goals (try omega)
 · rename_i a b c d
   exact Qbk (stop2 _ (kidA (by omega) b) (by omega) (by omega) d)
 · rename_i a b c d
   refine⟨⟨swp l' i (2*i+2),2*i+2,_,by rw[Qk,hl],by rw[Qk];omega,?_,go _ (kidA (by omega) b) (by omega) (by omega) d⟩,⟨⟨rfl,rfl,trivial⟩,rfl⟩,by dsimp only;omega⟩
   intro j hj
   rw[Qk]at hj
   show _=hp (swp l' i (2*i+2)) j
   rw[Qa2 _ _ _ _ (by omega) (by omega)]
   exact Qgq j (zh _ (by omega)) (zh _ (by omega)) (hz j hj)
 · rename_i a b c d
   exact Qbk (stop2 _ (kidB (.inr b)) (by omega) (by omega) d)
 · rename_i a b c d
   refine⟨⟨swp l' i (2*i+1),2*i+1,_,by rw[Qk,hl],by rw[Qk];omega,?_,go _ (kidB (.inr b)) (by omega) (by omega) d⟩,⟨⟨rfl,rfl,trivial⟩,rfl⟩,by dsimp only;omega⟩
   intro j hj
   rw[Qk]at hj
   show _=hp (swp l' i (2*i+1)) j
   rw[Qa2 _ _ _ _ (by omega) (by omega)]
   exact Qgq j (zh _ (by omega)) (zh _ (by omega)) (hz j hj)
 · exact Qbk (stop1 _ (kidB (.inl (by omega))) (by omega))
 · rename_i a c d
   exact Qbk (stop2 _ (kidB (.inl (by omega))) (by omega) (by omega) d)
 · rename_i a c d
   refine⟨⟨swp l' i (2*i+1),2*i+1,_,by rw[Qk,hl],by rw[Qk];omega,?_,go _ (kidB (.inl (by omega))) (by omega) (by omega) d⟩,⟨⟨rfl,rfl,trivial⟩,rfl⟩,by dsimp only;omega⟩
   intro j hj
   rw[Qk]at hj
   show _=hp (swp l' i (2*i+1)) j
   rw[Qa2 _ _ _ _ (by omega) (by omega)]
   exact Qgq j (zh _ (by omega)) (zh _ (by omega)) (hz j hj)
theorem QjK:(Con.mem (Ql QM)).holds Tryd.prog 63:=by
 intro w0 S
 refine Qbo (AG:=[]) (Γ:=[(79,.rd XQ),(82,.mem (Xb (fun l=>0<l.length) upOf)),(83,.mem (Xb (fun _=>True) XM))]) (fun _=>noW) Tryd.func63 rfl (by kernel_rfl) Qg Qc (fun w S' _ _=>.cons (Qch w S') (.cons (up_con w S') (.cons (QjR w S') (.nil _ _ _)))) (Ql QM) (fun x0 h=>by cases h) (fun s ρ w _ _ _=>Q7 w _)
  nzL rpL 400 ?_
 rintro⟨l,m,c,nn,z,k,key,x⟩ w ⟨h1,⟨h2m,h2c⟩,h4,h5,h6⟩ -
 refine⟨rfl,?_⟩
 dsimp only at h1 h2m h2c h4 h5 h6
 have h2:=Nat.le_trans h2m h2c
 have hs:0+l.length<=m/\l.length<=1000:=⟨by omega,by omega⟩
 have hk:k=1\/k=2\/k=3\/k=4\/k=5\/k=6:=by omega
 rcases hk with rfl|rfl|rfl|rfl|rfl|rfl
 ·
  refine Qh (q:=∃(s:CloS),[SA.c (.so 0 0 1 (List.length l) c nn)]=[SA.c (.so 0 s.1 1 s.2 s.4 s.5)]/\[SB.rows 3 [.int .i64] 1 m c z]=[SB.rows 3 [.int .i64] 1 s.3 s.4 s.6]/\(s.1+s.2<=s.3/\s.2<=1000)/\∀(x_1:CloR),(s.2<=x_1.1/\((match Nat.beq s.4 0 with|false=>false|true=>bif s.5 then false else true)=true->x_1.2=false/\x_1.1=0)/\∀(i:Nat),i<s.2->x_1.3 i 0=s.6 (s.1+i) 0)->s.2<=x_1.1/\bif decide ((↑s.2:Int)>=(6:Int))then endN (Ql QM) nzL rpL (LstS.mk l m c nn z (1:Int) key x) (SV.t [SA.c (.so 3 0 1 s.2 x_1.1 x_1.2),SA.a [sI 3,sI 0]]) [SB.rows 3 [.int .i64] 1 m c z,SB.cells [sI 1,sI key,sI x] 24,SB.cells [sI 3,sI 0] 47,SB.rows 3 [.int .i64] 1 s.2 x_1.1 x_1.3]else ((s.2<=s.2/\x_1.1=x_1.1)/\(1<=1/\1=1)/\s.2+1<=68719476736)/\∀(c_1:Nat),s.2+1<=c_1->∃(s_1:UpS),[SA.c (.so 5 0 1 (s.2+1) c_1 x_1.2)]=[SA.c (.so 5 0 1 (List.length s_1.1) s_1.3 s_1.4)]/\[SB.rows 3 [.int .i64] 1 (s.2+1) c_1 fun (i j:Nat)=>bif Nat.ble (i+1) s.2 then x_1.3 i j else match List.get?Internal (match List.get?Internal [[x]] (0+(i-s.2))with|some x=>x|none=>[]) j with|some x=>x|none=>(0:Int)]=[SB.rows 3 [.int .i64] 1 s_1.2 s_1.3 s_1.5]/\((List.length s_1.1<=1000/\List.length s_1.1<=s_1.2/\s_1.2<=s_1.3/\IsL s_1.5 s_1.1)/\0<List.length s_1.1)/\∀(x_2:Nat->Nat->Int),IsL x_2 (upOf s_1.1)->endN (Ql QM) nzL rpL (LstS.mk l m c nn z (1:Int) key x) (SV.t [SA.c (.so 5 0 1 (List.length s_1.1) s_1.3 s_1.4),SA.a [sI 1,sI 0]]) [SB.rows 3 [.int .i64] 1 m c z,SB.cells [sI 1,sI key,sI x] 24,SB.cells [sI 1,sI 0] 47,SB.gone,SB.rows 3 [.int .i64] 1 1 1 fun (i j:Nat)=>match List.get?Internal (match List.get?Internal [[x]] i with|some x=>x|none=>[]) j with|some x=>x|none=>(0:Int),SB.rows 3 [.int .i64] 1 s_1.2 s_1.3 x_2]) (by kernel_rfl) ?_
  refine⟨⟨0,l.length,m,c,nn,z⟩,rfl,rfl,hs,fun y hy=>⟨hy.1,Qi (fun h=>?_) (fun h=>?_)⟩⟩
  · have e:QM l 1 x=(l,3,0):=by unfold QM;rw[if_pos rfl,if_pos (by dsimp only at h;omega)]
    exact Qo _ _ _ _ _ _ _ _ _ _ _ rfl rfl rfl _ e rfl (Nat.le_refl _) hy.1 (h4.sub fun i hi=>(hy.2.2 i hi).trans (by rw[Nat.zero_add])) rfl rfl
  · dsimp only at h hy ⊢
    have e:QM l 1 x=(upOf (l++[x]),1,0):=by unfold QM upOf;rw[if_pos rfl,if_neg (by omega),List.length_append];rfl
    have hl:(l++[x]).length=l.length+1:=by simp
    refine⟨⟨⟨Nat.le_refl _,rfl⟩,⟨Nat.le_refl _,rfl⟩,by omega⟩,fun c' hc'=>⟨⟨l++[x],l.length+1,c',y.2,_⟩,by rw[hl],rfl,⟨⟨by rw[hl];omega,by rw[hl];exact Nat.le_refl _,hc',?_⟩,by rw[hl];omega⟩,fun z' hz'=>?_⟩⟩
    · exact h4.snoc (x:=x) (fun i hi=>(catT hi).trans ((hy.2.2 i hi).trans (by rw[Nat.zero_add]))) (catF.trans (by rw[Nat.sub_self];rfl))
    exact Qo _ _ _ _ _ _ _ _ _ _ _ rfl rfl rfl _ e (Qd8 _ _ _).symm (by rw[hl];exact Nat.le_refl _) hc' hz' rfl rfl
 ·
  refine Qh (q:=∃(s:CloS),[SA.c (.so 0 0 1 (List.length l) c nn)]=[SA.c (.so 0 s.1 1 s.2 s.4 s.5)]/\[SB.rows 3 [.int .i64] 1 m c z]=[SB.rows 3 [.int .i64] 1 s.3 s.4 s.6]/\(s.1+s.2<=s.3/\s.2<=1000)/\∀(x_1:CloR),(s.2<=x_1.1/\((match Nat.beq s.4 0 with|false=>false|true=>bif s.5 then false else true)=true->x_1.2=false/\x_1.1=0)/\∀(i:Nat),i<s.2->x_1.3 i 0=s.6 (s.1+i) 0)->s.2<=x_1.1/\bif (↑s.2:Int)==(0:Int)then endN (Ql QM) nzL rpL (LstS.mk l m c nn z (2:Int) key x) (SV.t [SA.c (.so 3 0 1 s.2 x_1.1 x_1.2),SA.a [sI 2,sI 0]]) [SB.rows 3 [.int .i64] 1 m c z,SB.cells [sI 2,sI key,sI x] 24,SB.cells [sI 2,sI 0] 47,SB.rows 3 [.int .i64] 1 s.2 x_1.1 x_1.3]else ((0:Int)<=(0:Int)/\(0:Int)<(↑s.2:Int)/\0+s.2<=x_1.1)/\0<s.2/\s.2<=x_1.1/\((0:Int)<=IntKind.wrap .i64 ((↑s.2:Int)-(1:Int))/\IntKind.wrap .i64 ((↑s.2:Int)-(1:Int))<(↑s.2:Int)/\0+s.2<=x_1.1)/\0+Int.toNat (IntKind.wrap .i64 ((↑s.2:Int)-(1:Int)))<s.2/\((0:Int)<=(0:Int)/\(0:Int)<(↑s.2:Int)/\0+s.2<=x_1.1)/\0<s.2/\((0:Int)<=IntKind.wrap .i64 ((↑s.2:Int)-(1:Int))/\IntKind.wrap .i64 ((↑s.2:Int)-(1:Int))<=(↑x_1.1:Int))/\∃(s_1:UpS),[SA.c (.so 3 0 1 (Int.toNat (IntKind.wrap .i64 ((↑s.2:Int)-(1:Int)))) x_1.1 x_1.2)]=[SA.c (.so 3 0 1 (List.length s_1.1) s_1.3 s_1.4)]/\[SB.rows 3 [.int .i64] 1 s.2 x_1.1 fun (i j:Nat)=>bif match Nat.beq i 0 with|false=>false|true=>Nat.ble j 0 then match List.get?Internal [x_1.3 (0+Int.toNat (IntKind.wrap .i64 ((↑s.2:Int)-(1:Int)))) 0] j with|some x=>x|none=>(0:Int)else x_1.3 i j]=[SB.rows 3 [.int .i64] 1 s_1.2 s_1.3 s_1.5]/\((List.length s_1.1<=1000/\List.length s_1.1<=s_1.2/\s_1.2<=s_1.3/\IsL s_1.5 s_1.1)/\True)/\∀(x_2:Nat->Nat->Int),IsL x_2 (XM s_1.1)->endN (Ql QM) nzL rpL (LstS.mk l m c nn z (2:Int) key x) (SV.t [SA.c (.so 3 0 1 (List.length s_1.1) s_1.3 s_1.4),SA.a [sI 1,sI (x_1.3 0 0)]]) [SB.rows 3 [.int .i64] 1 m c z,SB.cells [sI 2,sI key,sI x] 24,SB.cells [sI 1,sI (x_1.3 0 0)] 47,SB.rows 3 [.int .i64] 1 s_1.2 s_1.3 x_2]) (by kernel_rfl) ?_
  refine⟨⟨0,l.length,m,c,nn,z⟩,rfl,rfl,hs,fun y hy=>⟨hy.1,Qar (fun h=>?_) (fun h=>?_)⟩⟩
  · have e:QM l 2 x=(l,2,0):=by unfold QM;rw[if_neg (by decide),if_pos (.inl rfl),if_pos (by dsimp only at h;omega)]
    exact Qo _ _ _ _ _ _ _ _ _ _ _ rfl rfl rfl _ e rfl (Nat.le_refl _) hy.1 (h4.sub fun i hi=>(hy.2.2 i hi).trans (by rw[Nat.zero_add])) rfl rfl
  · dsimp only at h hy ⊢
    have hn:0<l.length:=by omega
    have e:QM l 2 x=(XM ((l.set 0 (hp l (l.length-1))).take (l.length-1)),1,hp l 0):=by
     unfold QM XM;rw[if_neg (by decide),if_pos (.inl rfl),if_neg (by omega),if_neg (by decide)];congr 2;simp
    have ew:IntKind.wrap .i64 ((l.length:Int)-1)=((l.length-1:Nat):Int):=by rw[Q8 (by omega) (by omega)];omega
    have ht:((l.set 0 (hp l (l.length-1))).take (l.length-1)).length=l.length-1:=by simp
    have hy0 (i:Nat) (hi:i<l.length):y.3 i 0=hp l i:=(hy.2.2 i hi).trans ((congrArg (z · 0) (Nat.zero_add i)).trans (h4 i hi))
    rw[ew,Int.toNat_natCast]
    refine⟨⟨by omega,by omega,by omega⟩,by omega,by omega,⟨by omega,by omega,by omega⟩,by omega,⟨by omega,by omega,by omega⟩,by omega,⟨by omega,by omega⟩,
     ⟨(l.set 0 (hp l (l.length-1))).take (l.length-1),l.length,y.1,y.2,_⟩,by rw[ht],rfl,⟨⟨by rw[ht];omega,Nat.le_trans (Nat.le_of_eq ht) (Nat.sub_le _ _),hy.1,fun i hi=>?_⟩,trivial⟩,fun z' hz'=>?_⟩
    · rw[ht]at hi
      show _=hp _ i
      by_cases h0:i=0
      · subst h0
        simp only[hp,List.getD_eq_getElem?_getD,List.getElem?_take,if_pos hi,List.getElem?_set_self hn,Option.getD_some]
        exact (congrArg (y.3 · 0) (Nat.zero_add _)).trans ((hy0 _ (by omega)).trans (by simp[hp,List.getD_eq_getElem?_getD]))
      · rw[QfS l _ _ i hi (by omega)];dsimp only;rw[show Nat.beq i 0=false from nbeq h0]
        exact hy0 i (by omega)
    · exact Qo _ _ _ _ _ _ _ _ _ _ _ rfl rfl rfl _ e (QcV _ _ _).symm (Nat.le_trans (Nat.le_of_eq ht) (Nat.sub_le _ _)) hy.1 hz' rfl (hy0 0 hn)
 ·
  refine Qh (q:=∃(s:CloS),[SA.c (.so 0 0 1 (List.length l) c nn)]=[SA.c (.so 0 s.1 1 s.2 s.4 s.5)]/\[SB.rows 3 [.int .i64] 1 m c z]=[SB.rows 3 [.int .i64] 1 s.3 s.4 s.6]/\(s.1+s.2<=s.3/\s.2<=1000)/\∀(x_1:CloR),(s.2<=x_1.1/\((match Nat.beq s.4 0 with|false=>false|true=>bif s.5 then false else true)=true->x_1.2=false/\x_1.1=0)/\∀(i:Nat),i<s.2->x_1.3 i 0=s.6 (s.1+i) 0)->endN (Ql QM) nzL rpL (LstS.mk l m c nn z (3:Int) key x) (SV.t [SA.c (.so 3 0 1 s.2 x_1.1 x_1.2),SA.a [sI 5,sI 0]]) [SB.rows 3 [.int .i64] 1 m c z,SB.cells [sI 3,sI key,sI x] 24,SB.cells [sI 5,sI 0] 47,SB.rows 3 [.int .i64] 1 s.2 x_1.1 x_1.3]) (by kernel_rfl) ?_
  exact⟨⟨0,l.length,m,c,nn,z⟩,rfl,rfl,hs,fun y hy=>Qo _ _ _ _ _ _ _ _ _ _ _ rfl rfl rfl (l,5,0) rfl rfl (Nat.le_refl _) hy.1 (h4.sub fun i hi=>(hy.2.2 i hi).trans (by rw[Nat.zero_add])) rfl rfl⟩
 ·
  refine Qh (q:=∃(s:CloS),[SA.c (.so 0 0 1 (List.length l) c nn)]=[SA.c (.so 0 s.1 1 s.2 s.4 s.5)]/\[SB.rows 3 [.int .i64] 1 m c z]=[SB.rows 3 [.int .i64] 1 s.3 s.4 s.6]/\(s.1+s.2<=s.3/\s.2<=1000)/\∀(x_1:CloR),(s.2<=x_1.1/\((match Nat.beq s.4 0 with|false=>false|true=>bif s.5 then false else true)=true->x_1.2=false/\x_1.1=0)/\∀(i:Nat),i<s.2->x_1.3 i 0=s.6 (s.1+i) 0)->endN (Ql QM) nzL rpL (LstS.mk l m c nn z (4:Int) key x) (SV.t [SA.c (.so 3 0 1 s.2 x_1.1 x_1.2),SA.a [sI 5,sI 0]]) [SB.rows 3 [.int .i64] 1 m c z,SB.cells [sI 4,sI key,sI x] 24,SB.cells [sI 5,sI 0] 47,SB.rows 3 [.int .i64] 1 s.2 x_1.1 x_1.3]) (by kernel_rfl) ?_
  exact⟨⟨0,l.length,m,c,nn,z⟩,rfl,rfl,hs,fun y hy=>Qo _ _ _ _ _ _ _ _ _ _ _ rfl rfl rfl (l,5,0) rfl rfl (Nat.le_refl _) hy.1 (h4.sub fun i hi=>(hy.2.2 i hi).trans (by rw[Nat.zero_add])) rfl rfl⟩
 ·
  refine Qh (q:=∃(s:CloS),[SA.c (.so 0 0 1 (List.length l) c nn)]=[SA.c (.so 0 s.1 1 s.2 s.4 s.5)]/\[SB.rows 3 [.int .i64] 1 m c z]=[SB.rows 3 [.int .i64] 1 s.3 s.4 s.6]/\(s.1+s.2<=s.3/\s.2<=1000)/\∀(x_1:CloR),(s.2<=x_1.1/\((match Nat.beq s.4 0 with|false=>false|true=>bif s.5 then false else true)=true->x_1.2=false/\x_1.1=0)/\∀(i:Nat),i<s.2->x_1.3 i 0=s.6 (s.1+i) 0)->s.2<=x_1.1/\bif (↑s.2:Int)==(0:Int)then endN (Ql QM) nzL rpL (LstS.mk l m c nn z (5:Int) key x) (SV.t [SA.c (.so 3 0 1 s.2 x_1.1 x_1.2),SA.a [sI 2,sI 0]]) [SB.rows 3 [.int .i64] 1 m c z,SB.cells [sI 5,sI key,sI x] 24,SB.cells [sI 2,sI 0] 47,SB.rows 3 [.int .i64] 1 s.2 x_1.1 x_1.3]else ((0:Int)<=(0:Int)/\(0:Int)<(↑s.2:Int)/\0+s.2<=x_1.1)/\0<s.2/\endN (Ql QM) nzL rpL (LstS.mk l m c nn z (5:Int) key x) (SV.t [SA.c (.so 3 0 1 s.2 x_1.1 x_1.2),SA.a [sI 1,sI (x_1.3 0 0)]]) [SB.rows 3 [.int .i64] 1 m c z,SB.cells [sI 5,sI key,sI x] 24,SB.cells [sI 1,sI (x_1.3 0 0)] 47,SB.rows 3 [.int .i64] 1 s.2 x_1.1 x_1.3]) (by kernel_rfl) ?_
  refine⟨⟨0,l.length,m,c,nn,z⟩,rfl,rfl,hs,fun y hy=>⟨hy.1,Qar (fun h=>?_) (fun h=>?_)⟩⟩
  · have e:QM l 5 x=(l,2,0):=by unfold QM;rw[if_neg (by decide),if_pos (.inr rfl),if_pos (by dsimp only at h;omega)]
    exact Qo _ _ _ _ _ _ _ _ _ _ _ rfl rfl rfl _ e rfl (Nat.le_refl _) hy.1 (h4.sub fun i hi=>(hy.2.2 i hi).trans (by rw[Nat.zero_add])) rfl rfl
  · dsimp only at h hy ⊢
    have hn:0<l.length:=by omega
    have e:QM l 5 x=(l,1,hp l 0):=by unfold QM;rw[if_neg (by decide),if_pos (.inr rfl),if_neg (by omega),if_pos rfl]
    exact⟨⟨by omega,by omega,by omega⟩,hn,Qo _ _ _ _ _ _ _ _ _ _ _ rfl rfl rfl _ e rfl (Nat.le_refl _) hy.1 (h4.sub fun i hi=>(hy.2.2 i hi).trans (by rw[Nat.zero_add])) rfl ((hy.2.2 0 hn).trans ((congrArg (z · 0) (Nat.zero_add 0)).trans (h4 0 hn)))⟩
 ·
  refine Qh (q:=∃(s:CloS),[SA.c (.so 0 0 1 (List.length l) c nn)]=[SA.c (.so 0 s.1 1 s.2 s.4 s.5)]/\[SB.rows 3 [.int .i64] 1 m c z]=[SB.rows 3 [.int .i64] 1 s.3 s.4 s.6]/\(s.1+s.2<=s.3/\s.2<=1000)/\∀(x_1:CloR),(s.2<=x_1.1/\((match Nat.beq s.4 0 with|false=>false|true=>bif s.5 then false else true)=true->x_1.2=false/\x_1.1=0)/\∀(i:Nat),i<s.2->x_1.3 i 0=s.6 (s.1+i) 0)->s.2<=x_1.1/\endN (Ql QM) nzL rpL (LstS.mk l m c nn z (6:Int) key x) (SV.t [SA.c (.so 3 0 1 s.2 x_1.1 x_1.2),SA.a [sI 1,sI (↑s.2:Int)]]) [SB.rows 3 [.int .i64] 1 m c z,SB.cells [sI 6,sI key,sI x] 24,SB.cells [sI 1,sI (↑s.2:Int)] 47,SB.rows 3 [.int .i64] 1 s.2 x_1.1 x_1.3]) (by kernel_rfl) ?_
  exact⟨⟨0,l.length,m,c,nn,z⟩,rfl,rfl,hs,fun y hy=>⟨hy.1,Qo _ _ _ _ _ _ _ _ _ _ _ rfl rfl rfl (l,1,(l.length:Int)) rfl rfl (Nat.le_refl _) hy.1 (h4.sub fun i hi=>(hy.2.2 i hi).trans (by rw[Nat.zero_add])) rfl rfl⟩⟩
abbrev Qa7 (f:Nat->Int):SB:=.cells [.ints (.int .i64) 16 f] 112
def QeT:PCon:=⟨fun args=>match args with
 |[.c (.v (.int .i64 k))]=>0<=k/\k<=1000
 |_=>False,fun args=>match args with
 |[.c (.v (.int .i64 k))]=>sv (.int .i64 (k*5%8))
 |_=>sv undef,fun _=>none⟩
theorem QjJ:(Con.pure QeT).holds Tryd.prog 95:=by
 refine Qm (AG:=[]) (Γ:=[]) Tryd.func95 rfl (by kernel_rfl) Qg Qc (fun _=>GamOk.nil _ _ _) QeT 200 ?_
 intro W args hp
 unfold QeT at hp;dsimp only at hp;split at hp
 case h_2=>exact hp.elim
 rename_i k
 refine⟨rfl,?_⟩
 refine Qh (q:=(8:Int)≠(0:Int)/\SV.o (aI (Int.tmod (IntKind.wrap .i64 (k*(5:Int))) (8:Int)))=SV.o (aI (k*(5:Int)%(8:Int)))/\true=true) (by kernel_rfl) ?_
 exact⟨by decide,by rw[Q8 (by omega) (by omega),Int.tmod_eq_emod_of_nonneg (by omega)],rfl⟩
structure AtS where
 f:Nat->Int
 k:Int
def QeX:MCon:=dcon AtS (fun s=>0<=s.k/\s.k<=1000) (fun s=>[.c (.p 0 0),.c (.v (.int .i64 s.k))]) (fun s=>[Qa7 s.f])
 (fun s=>sv (.int .i64 (atI (toN 16 s.f) s.k))) (fun s=>[Qa7 s.f]) 1 (fun args _=>some (blkA args))
structure AtG (s:AtS) where
 i:Nat
 hi:i<=8
 he:QdV (toN 16 s.f) s.k (8-i) i=atI (toN 16 s.f) s.k
def Qkp (s:AtS):Ann where
 σ:=AtG s
 I g:=([(0,.o (.c (.p 0 0))),(1,sv (.int .i64 s.k)),(7,sv (.int .i64 g.i))],[Qa7 s.f])
 dec g:=8-g.i
 pi _ _:=[0]
 nz:=[]
theorem Qi3:(Con.mem QeX).holds Tryd.prog 77:=by
 intro w0 S
 refine Qw (Γ:=[(95,.pure QeT)]) (fun _=>noW) Tryd.func77 rfl (by kernel_rfl) Qg Qc (fun w S' _ _=>.cons (QjJ w S') (.nil _ _ _)) QeX (fun s=>[(77,[(0,Qkp s)])]) (fun x0 h s x=>⟨rfl,trivial⟩) (fun s ρ w _ _ _=>Q7 w _) [] (QI 1) 400 ?_
 rintro⟨f,k⟩ w ⟨h0,h1⟩ -
 refine⟨rfl,?_⟩
 dsimp only at h0 h1
 refine Qh (q:=(∃(s0:Ann.σ (Qkp (AtS.mk f k))),(eS (aP 0 0) (aP 0 0)/\eS (aI k) (aI k)/\eS (aI 0) (aI ↑s0.1)/\True)/\[SB.cells [nI 16 f] 112]=[SB.cells [nI 16 f] 112])/\∀(s:AtG (AtS.mk f k)),bif decide ((↑s.1:Int)<(8:Int))then ((0:Int)<=k/\k<=(1000:Int))/\(8:Int)≠(0:Int)/\((0:Int)<=Int.tmod (IntKind.wrap .i64 (k*(5:Int)%(8:Int)+(↑s.1:Int))) (8:Int)/\Int.tmod (IntKind.wrap .i64 (k*(5:Int)%(8:Int)+(↑s.1:Int))) (8:Int)<(8:Int))/\0+Int.toNat (Int.tmod (IntKind.wrap .i64 (k*(5:Int)%(8:Int)+(↑s.1:Int))) (8:Int))+Int.toNat (Int.tmod (IntKind.wrap .i64 (k*(5:Int)%(8:Int)+(↑s.1:Int))) (8:Int))<16/\bif f (0+Int.toNat (Int.tmod (IntKind.wrap .i64 (k*(5:Int)%(8:Int)+(↑s.1:Int))) (8:Int))+Int.toNat (Int.tmod (IntKind.wrap .i64 (k*(5:Int)%(8:Int)+(↑s.1:Int))) (8:Int)))==k then endN QeX [] (QI 1) (AtS.mk f k) (SV.o (aI (Int.tmod (IntKind.wrap .i64 (k*(5:Int)%(8:Int)+(↑s.1:Int))) (8:Int)))) [SB.cells [nI 16 f] 112]else ((0:Int)<=Int.tmod (IntKind.wrap .i64 (k*(5:Int)%(8:Int)+(↑s.1:Int))) (8:Int)/\Int.tmod (IntKind.wrap .i64 (k*(5:Int)%(8:Int)+(↑s.1:Int))) (8:Int)<(8:Int))/\0+Int.toNat (Int.tmod (IntKind.wrap .i64 (k*(5:Int)%(8:Int)+(↑s.1:Int))) (8:Int))+Int.toNat (Int.tmod (IntKind.wrap .i64 (k*(5:Int)%(8:Int)+(↑s.1:Int))) (8:Int))<16/\bif f (0+Int.toNat (Int.tmod (IntKind.wrap .i64 (k*(5:Int)%(8:Int)+(↑s.1:Int))) (8:Int))+Int.toNat (Int.tmod (IntKind.wrap .i64 (k*(5:Int)%(8:Int)+(↑s.1:Int))) (8:Int)))==(0:Int)then endN QeX [] (QI 1) (AtS.mk f k) (SV.o (aI (Int.tmod (IntKind.wrap .i64 (k*(5:Int)%(8:Int)+(↑s.1:Int))) (8:Int)))) [SB.cells [nI 16 f] 112]else ∃(s':AtG (AtS.mk f k)),((eS (aP 0 0) (aP 0 0)/\eS (aI k) (aI k)/\eS (aI (IntKind.wrap .i64 ((↑s.1:Int)+(1:Int)))) (aI ↑s'.1)/\True)/\[SB.cells [nI 16 f] 112]=[SB.cells [nI 16 f] 112])/\8-s'.1<8-s.1 else endN QeX [] (QI 1) (AtS.mk f k) (SV.o (aI (-1:Int))) [SB.cells [nI 16 f] 112]) (by kernel_rfl) ?_
 refine⟨⟨⟨0,by omega,rfl⟩,⟨rfl,rfl,rfl,trivial⟩,rfl⟩,?_⟩
 rintro⟨i,hi,he⟩
 dsimp only at hi he ⊢
 have hend:∀a:Int,a=atI (toN 16 f) k->endN QeX [] (QI 1) ⟨f,k⟩ (sv (.int .i64 a)) [Qa7 f]:=fun a h=>by subst h;exact⟨(),trivial,rfl,rfl⟩
 refine Qi (fun hlt=>?_) (fun hge=>hend _ ?_)
 · have es:Int.tmod (IntKind.wrap .i64 (k*5%8+(i:Int))) 8=((Qx k i:Nat):Int):=by
    rw[Q8 (by omega) (by omega),Int.tmod_eq_emod_of_nonneg (by omega)];unfold Qx;omega
   have hs:=XB k i
   have hf:f (0+Qx k i+Qx k i)=tk (toN 16 f) (Qx k i):=by unfold tk;rw[QJ (by omega)];rfl
   rw[es,Int.toNat_natCast,hf]
   obtain⟨n,hn⟩:∃n,8-i=n+1:=⟨7-i,by omega⟩
   rw[hn]at he
   simp only[QdV]at he
   refine⟨⟨h0,h1⟩,by decide,⟨by omega,by omega⟩,by omega,Qar (fun h=>?_) (fun h=>⟨⟨by omega,by omega⟩,by omega,Qar (fun h2=>?_) (fun h2=>?_)⟩)⟩
   · rw[if_pos ((hit_iff _ _ _).2 (.inl h))]at he;exact hend _ he
   · rw[if_pos ((hit_iff _ _ _).2 (.inr h2))]at he;exact hend _ he
   · rw[if_neg (by rw[(QcS _ _ _).2 ⟨h,h2⟩];decide)]at he
     exact⟨⟨i+1,by omega,by rw[show 8-(i+1)=n by omega];exact he⟩,⟨⟨rfl,rfl,svI (sucI (by omega)),trivial⟩,rfl⟩,by dsimp only;omega⟩
 · obtain rfl:i=8:=by omega
   rw[<- he];rfl
def QcL:PCon:=⟨fun args=>match args with
 |[.a [.ints (.int .i64) n f]]=>n=16
 |_=>False,fun args=>match args with
 |[.a [.ints (.int .i64) n f]]=>sv (.int .i64 (lenT (toN 16 f)))
 |_=>sv undef,fun _=>none⟩
structure LenG where
 i:Nat
 hi:i<=8
def Qkm (f:Nat->Int):Ann where
 σ:=LenG
 I g:=([(3,sv (.int .i64 (QaH (toN 16 f) g.i))),(6,.o (.a [.ints (.int .i64) 16 f])),(7,sv (.int .i64 g.i))],[])
 dec g:=8-g.i
 pi _ _:=[]
 nz:=[]
def agLen:List SA->List (Nat × Anns)
 |[.a [.ints (.int .i64) n f]]=>[(76,[(0,Qkm f)])]
 |_=>[]
theorem Qgo:(Con.pure QcL).holds Tryd.prog 76:=by
 refine Qp (Γ:=[]) Tryd.func76 rfl (by kernel_rfl) Qg Qc (fun _=>GamOk.nil _ _ _) QcL agLen 400 ?_
 intro W args hp
 unfold QcL at hp;dsimp only at hp;split at hp
 case h_2=>exact hp.elim
 rename_i n f
 subst hp
 refine⟨rfl,?_⟩
 refine Qh (q:=(∃(s0:Ann.σ (Qkm f)),(eS (aI 0) (aI (↑(QaH (toN 16 f) s0.1):Int))/\eS (SA.a [nI 16 f]) (SA.a [nI 16 f])/\eS (aI 0) (aI ↑s0.1)/\True)/\([]:List SB)=[])/\∀(s:LenG),bif decide ((↑s.1:Int)<(8:Int))then (iR (↑s.1:Int) (8:Int))/\bif f (0+Int.toNat (↑s.1:Int)+Int.toNat (↑s.1:Int)) != (0:Int)then ∃(s':LenG),((eS (aI (IntKind.wrap .i64 ((↑(QaH (toN 16 f) s.1):Int)+(1:Int)))) (aI (↑(QaH (toN 16 f) s'.1):Int))/\eS (SA.a [nI 16 f]) (SA.a [nI 16 f])/\eS (aI (IntKind.wrap .i64 ((↑s.1:Int)+(1:Int)))) (aI ↑s'.1)/\True)/\([]:List SB)=[])/\8-s'.1<8-s.1 else ∃(s':LenG),((eS (aI (↑(QaH (toN 16 f) s.1):Int)) (aI (↑(QaH (toN 16 f) s'.1):Int))/\eS (SA.a [nI 16 f]) (SA.a [nI 16 f])/\eS (aI (IntKind.wrap .i64 ((↑s.1:Int)+(1:Int)))) (aI ↑s'.1)/\True)/\([]:List SB)=[])/\8-s'.1<8-s.1 else endP QcL [SA.a [nI 16 f]] (SV.o (aI (↑(QaH (toN 16 f) s.1):Int))) []) (by kernel_rfl) ?_
 refine⟨⟨⟨0,by omega⟩,⟨rfl,rfl,rfl,trivial⟩,rfl⟩,?_⟩
 rintro⟨i,hi⟩
 dsimp only
 have hc:=QjY (toN 16 f) i
 refine Qi (fun hlt=>⟨⟨by omega,by omega⟩,?_⟩) (fun hge=>?_)
 · have hf:f (0+(i:Int).toNat+(i:Int).toNat)=tk (toN 16 f) i:=by unfold tk;rw[QJ (by omega)];rfl
   rw[hf]
   refine XG (fun h=>?_) (fun h=>?_)
   · exact⟨⟨i+1,by omega⟩,⟨⟨svI ((sucI (by omega)).trans (by simp only[QaH];rw[if_neg h])),rfl,svI (sucI (by omega)),trivial⟩,rfl⟩,by dsimp only;omega⟩
   · exact⟨⟨i+1,by omega⟩,⟨⟨svI (by simp only[QaH];rw[if_pos h];rfl),rfl,svI (sucI (by omega)),trivial⟩,rfl⟩,by dsimp only;omega⟩
 · obtain rfl:i=8:=by omega
   exact⟨rfl,fun ρ=>rfl⟩
def QO:PCon:=⟨fun args=>match args with
 |[.a [.ints (.int .i64) n f]]=>n=16/\Good (toN 16 f)
 |_=>False,fun _=>sv (.bool true),fun _=>none⟩
def QgU (f:Nat->Int):Ann where
 σ:=LenG
 I g:=([(1,.o (.c (.p 0 0))),(8,.o (.a [.ints (.int .i64) 16 f])),(9,sv (.int .i64 g.i))],[Qa7 f])
 dec g:=8-g.i
 pi _ _:=[0]
 nz:=[]
def Qle:List SA->List (Nat × Anns)
 |[.a [.ints (.int .i64) n f]]=>[(75,[(0,QgU f)])]
 |_=>[]
theorem Qg0:(Con.pure QO).holds Tryd.prog 75:=by
 refine Qp (Γ:=[(76,.pure QcL),(77,.mem QeX)]) Tryd.func75 rfl (by kernel_rfl) Qg Qc (fun W=>.cons (Qgo W _) (.cons (Qi3 W _) (.nil _ _ _))) QO Qle 400 ?_
 intro W args hp
 unfold QO at hp;dsimp only at hp;split at hp
 case h_2=>exact hp.elim
 rename_i n f
 obtain⟨rfl,hg⟩:=hp
 refine⟨rfl,?_⟩
 refine Qh (q:=16=16/\bif decide ((↑(lenT (toN 16 f)):Int)>(6:Int))then endP QO [SA.a [nI 16 f]] (SV.o (aB false)) []else (∃(s0:Ann.σ (QgU f)),(eS (aP 0 0) (aP 0 0)/\eS (SA.a [nI 16 f]) (SA.a [nI 16 f])/\eS (aI 0) (aI ↑s0.1)/\True)/\[SB.cells [nI 16 f] 112]=[SB.cells [nI 16 f] 112])/\∀(s:LenG),bif decide ((↑s.1:Int)<(8:Int))then (iR (↑s.1:Int) (8:Int))/\bif decide (f (0+Int.toNat (↑s.1:Int)+Int.toNat (↑s.1:Int))<(0:Int))then endP QO [SA.a [nI 16 f]] (SV.o (aB false)) []else bif decide (f (0+Int.toNat (↑s.1:Int)+Int.toNat (↑s.1:Int))>(1000:Int))then endP QO [SA.a [nI 16 f]] (SV.o (aB false)) []else bif decide (f (0+Int.toNat (↑s.1:Int)+Int.toNat (↑s.1:Int)+1)<(0:Int))then endP QO [SA.a [nI 16 f]] (SV.o (aB false)) []else bif decide (f (0+Int.toNat (↑s.1:Int)+Int.toNat (↑s.1:Int)+1)>(4294967295:Int))then endP QO [SA.a [nI 16 f]] (SV.o (aB false)) []else bif f (0+Int.toNat (↑s.1:Int)+Int.toNat (↑s.1:Int))==(0:Int)then bif f (0+Int.toNat (↑s.1:Int)+Int.toNat (↑s.1:Int)+1) != (0:Int)then endP QO [SA.a [nI 16 f]] (SV.o (aB false)) []else bif f (0+Int.toNat (↑s.1:Int)+Int.toNat (↑s.1:Int)) != (0:Int)then ∃(s_1:AtS),[aP 0 0,aI (f (0+Int.toNat (↑s.1:Int)+Int.toNat (↑s.1:Int)))]=[aP 0 0,aI s_1.2]/\[SB.cells [nI 16 f] 112]=[SB.cells [nI 16 s_1.1] 112]/\((0:Int)<=s_1.2/\s_1.2<=(1000:Int))/\∀(x:Unit),True->bif atI (toN 16 s_1.1) s_1.2 != (↑s.1:Int)then endP QO [SA.a [nI 16 f]] (SV.o (aB false)) []else ∃(s':LenG),((eS (aP 0 0) (aP 0 0)/\eS (SA.a [nI 16 f]) (SA.a [nI 16 f])/\eS (aI (IntKind.wrap .i64 ((↑s.1:Int)+(1:Int)))) (aI ↑s'.1)/\True)/\[SB.cells [nI 16 s_1.1] 112]=[SB.cells [nI 16 f] 112])/\8-s'.1<8-s.1 else ∃(s':LenG),((eS (aP 0 0) (aP 0 0)/\eS (SA.a [nI 16 f]) (SA.a [nI 16 f])/\eS (aI (IntKind.wrap .i64 ((↑s.1:Int)+(1:Int)))) (aI ↑s'.1)/\True)/\[SB.cells [nI 16 f] 112]=[SB.cells [nI 16 f] 112])/\8-s'.1<8-s.1 else bif f (0+Int.toNat (↑s.1:Int)+Int.toNat (↑s.1:Int)) != (0:Int)then ∃(s_1:AtS),[aP 0 0,aI (f (0+Int.toNat (↑s.1:Int)+Int.toNat (↑s.1:Int)))]=[aP 0 0,aI s_1.2]/\[SB.cells [nI 16 f] 112]=[SB.cells [nI 16 s_1.1] 112]/\((0:Int)<=s_1.2/\s_1.2<=(1000:Int))/\∀(x:Unit),True->bif atI (toN 16 s_1.1) s_1.2 != (↑s.1:Int)then endP QO [SA.a [nI 16 f]] (SV.o (aB false)) []else ∃(s':LenG),((eS (aP 0 0) (aP 0 0)/\eS (SA.a [nI 16 f]) (SA.a [nI 16 f])/\eS (aI (IntKind.wrap .i64 ((↑s.1:Int)+(1:Int)))) (aI ↑s'.1)/\True)/\[SB.cells [nI 16 s_1.1] 112]=[SB.cells [nI 16 f] 112])/\8-s'.1<8-s.1 else ∃(s':LenG),((eS (aP 0 0) (aP 0 0)/\eS (SA.a [nI 16 f]) (SA.a [nI 16 f])/\eS (aI (IntKind.wrap .i64 ((↑s.1:Int)+(1:Int)))) (aI ↑s'.1)/\True)/\[SB.cells [nI 16 f] 112]=[SB.cells [nI 16 f] 112])/\8-s'.1<8-s.1 else endP QO [SA.a [nI 16 f]] (SV.o (aB true)) []) (by kernel_rfl) ?_
 refine⟨rfl,Qi (fun h=>absurd hg.few (by omega)) (fun _=>⟨⟨⟨0,by omega⟩,⟨rfl,rfl,rfl,trivial⟩,rfl⟩,?_⟩)⟩
 rintro⟨i,hi⟩
 dsimp only
 refine Qi (fun hlt=>⟨⟨by omega,by omega⟩,?_⟩) (fun _=>⟨rfl,fun ρ=>rfl⟩)
 have hi8:i<8:=by omega
 have hk:f (0+(i:Int).toNat+(i:Int).toNat)=tk (toN 16 f) i:=by unfold tk;rw[QJ (by omega)];rfl
 have hv:f (0+(i:Int).toNat+(i:Int).toNat+1)=tv (toN 16 f) i:=by unfold tv;rw[QJ (by omega)];rfl
 have k0:=hg.key0 i hi8
 have k1:=hg.key1 i hi8
 have v0:=hg.val0 i hi8
 have v1:=hg.val1 i hi8
 have hnext:∀(M:List SB),M=[Qa7 f]->∃s':LenG,((some (SV.o (SA.c (.p 0 0)))=some (SV.o (SA.c (.p 0 0)))/\some (SV.o (SA.a [.ints (.int .i64) 16 f]))=some (SV.o (SA.a [.ints (.int .i64) 16 f]))/\some (sv (.int .i64 (IntKind.wrap .i64 ((i:Int)+1))))=some (sv (.int .i64 s'.i))/\True)/\M=[Qa7 f])/\8-s'.i<8-i:=
  fun M hM=>⟨⟨i+1,by omega⟩,⟨⟨rfl,rfl,svI (sucI (by omega)),trivial⟩,hM⟩,by dsimp only;omega⟩
 refine Qi (fun h=>absurd h (by omega)) (fun _=>Qi (fun h=>absurd h (by omega)) (fun _=>Qi (fun h=>absurd h (by omega)) (fun _=>Qi (fun h=>absurd h (by omega)) (fun _=>Qar (fun h=>?_) (fun h=>?_)))))
 · refine XG (fun h2=>absurd ?_ h2) (fun _=>XG (fun h3=>absurd h h3) (fun _=>hnext _ rfl))
   rw[hv];exact hg.none i hi8 (by rw[<- hk];exact h)
 · refine XG (fun _=>⟨⟨f,_⟩,rfl,rfl,⟨by rw[hk];exact k0,by rw[hk];exact k1⟩,fun _ _=>?_⟩) (fun h3=>absurd h3 h)
   refine XG (fun h4=>absurd ?_ h4) (fun _=>hnext _ rfl)
   dsimp only
   rw[hk];exact hg.found i hi8 (by rw[<- hk];exact h)
def Qbf:PCon:=⟨fun args=>match args with
 |[.a [.ints (.int .i64) n f],.c (.v (.int .i64 i))]=>n=16/\Good (toN 16 f)/\0<=i/\i<8/\tk (toN 16 f) i.toNat≠0
 |_=>False,fun args=>match args with
 |[.a [.ints (.int .i64) n f],.c (.v (.int .i64 i))]=>.o (.a [.ints (.int .i64) 16 (fL (QcX (toN 16 f) i.toNat))])
 |_=>sv undef,fun _=>none⟩
structure CloG (t:List Int) (i:Nat) where
 n:Nat
 f:Nat->Int
 hn:n<Q0 t i
 hf:toN 16 f=Qhe t i n
def QfO (t:List Int) (i:Nat):Ann where
 σ:=CloG t i
 I g:=([(2,.o (.c (.p 0 0))),(4,.o (.c (.p 1 0))),(5,sv (.int .i64 (((i+1+g.n)%8:Nat):Int)))],[Qa7 g.f,Qa7 (fun _=>0)])
 dec g:=Q0 t i-g.n
 pi _ _:=[0,1]
 nz:=[]
def Qka:List SA->List (Nat × Anns)
 |[.a [.ints (.int .i64) n f],.c (.v (.int .i64 i))]=>[(78,[(0,QfO (toN 16 f) i.toNat)])]
 |_=>[]
theorem Qgl (f:Nat->Int) (i j:Nat) (a b:Int):
 (bif (match Nat.ble (0+i+i) j with|false=>false|true=>Nat.ble j (0+i+i+1))then (match List.get?Internal [a,b] (j-(0+i+i))with|some x=>x|none=>(0:Int))else f j)=if j=i*2+1 then b else if j=i*2 then a else f j:=by
 by_cases h1:j=i*2+1
 · subst h1
   rw[show Nat.ble (0+i+i) (i*2+1)=true from QfJ (by omega),show Nat.ble (i*2+1) (0+i+i+1)=true from QfJ (by omega),if_pos rfl,show i*2+1-(0+i+i)=1 by omega];rfl
 · rw[if_neg h1]
   by_cases h2:j=i*2
   · subst h2
     rw[show Nat.ble (0+i+i) (i*2)=true from QfJ (by omega),show Nat.ble (i*2) (0+i+i+1)=true from QfJ (by omega),if_pos rfl,show i*2-(0+i+i)=0 by omega];rfl
   · rw[if_neg h2]
     by_cases h3:0+i+i<=j
     · rw[show Nat.ble (0+i+i) j=true from QfJ h3,show Nat.ble j (0+i+i+1)=false from QiY (by omega)];rfl
     · rw[show Nat.ble (0+i+i) j=false from QiY (by omega)];rfl
theorem Qc4 (f:Nat->Int) (i:Nat) (a b:Int) (h:i<8):
 toN 16 (fun j=>bif (match Nat.ble (0+i+i) j with|false=>false|true=>Nat.ble j (0+i+i+1))then (match List.get?Internal [a,b] (j-(0+i+i))with|some x=>x|none=>(0:Int))else f j)=setS (toN 16 f) i a b:=by
 unfold setS
 rw[QfR,QfR]
 exact Qdi fun j hj=>Qgl f i j a b
theorem Qhy:(Con.pure Qbf).holds Tryd.prog 78:=by
 refine Qp (Γ:=[(77,.mem QeX)]) Tryd.func78 rfl (by kernel_rfl) Qg Qc (fun W=>.cons (Qi3 W _) (.nil _ _ _)) Qbf Qka 400 ?_
 intro W args hp
 unfold Qbf at hp;dsimp only at hp;split at hp
 case h_2=>exact hp.elim
 rename_i n f i
 obtain⟨rfl,hg,h0,h8,hk⟩:=hp
 refine⟨rfl,?_⟩
 refine Qh (q:=(iR i (8:Int))/\0+Int.toNat i+Int.toNat i+1+1<=16/\(8:Int)≠(0:Int)/\(∃(s0:Ann.σ (QfO (toN 16 f) (Int.toNat i))),(eS (aP 0 0) (aP 0 0)/\eS (aP 1 0) (aP 1 0)/\eS (aI (Int.tmod (IntKind.wrap .i64 (i+(1:Int))) (8:Int))) (aI (↑((Int.toNat i+1+s0.1)%8):Int))/\True)/\[SB.cells [nI 16 fun (j:Nat)=>bif match Nat.ble (0+Int.toNat i+Int.toNat i) j with|false=>false|true=>Nat.ble j (0+Int.toNat i+Int.toNat i+1)then match List.get?Internal [(0:Int),(0:Int)] (j-(0+Int.toNat i+Int.toNat i))with|some x=>x|none=>(0:Int)else f j] 112,SB.cells [nI 16 zF] 112]=[SB.cells [nI 16 s0.2] 112,SB.cells [nI 16 zF] 112])/\∀(s:CloG (toN 16 f) (Int.toNat i)),((0:Int)<=(↑((Int.toNat i+1+s.1)%8):Int)/\(↑((Int.toNat i+1+s.1)%8):Int)<(8:Int))/\0+Int.toNat (↑((Int.toNat i+1+s.1)%8):Int)+Int.toNat (↑((Int.toNat i+1+s.1)%8):Int)<16/\bif s.2 (0+Int.toNat (↑((Int.toNat i+1+s.1)%8):Int)+Int.toNat (↑((Int.toNat i+1+s.1)%8):Int)) != (0:Int)then ((0:Int)<=(↑((Int.toNat i+1+s.1)%8):Int)/\(↑((Int.toNat i+1+s.1)%8):Int)<(8:Int))/\0+Int.toNat (↑((Int.toNat i+1+s.1)%8):Int)+Int.toNat (↑((Int.toNat i+1+s.1)%8):Int)+1+1<=16/\((0:Int)<=(↑((Int.toNat i+1+s.1)%8):Int)/\(↑((Int.toNat i+1+s.1)%8):Int)<(8:Int))/\0+Int.toNat (↑((Int.toNat i+1+s.1)%8):Int)+Int.toNat (↑((Int.toNat i+1+s.1)%8):Int)+1+1<=16/\∃(s_1:AtS),[aP 0 0,aI (s.2 (0+Int.toNat (↑((Int.toNat i+1+s.1)%8):Int)+Int.toNat (↑((Int.toNat i+1+s.1)%8):Int)))]=[aP 0 0,aI s_1.2]/\[SB.cells [nI 16 fun (j:Nat)=>bif match Nat.ble (0+Int.toNat (↑((Int.toNat i+1+s.1)%8):Int)+Int.toNat (↑((Int.toNat i+1+s.1)%8):Int)) j with|false=>false|true=>Nat.ble j (0+Int.toNat (↑((Int.toNat i+1+s.1)%8):Int)+Int.toNat (↑((Int.toNat i+1+s.1)%8):Int)+1)then match List.get?Internal [(0:Int),(0:Int)] (j-(0+Int.toNat (↑((Int.toNat i+1+s.1)%8):Int)+Int.toNat (↑((Int.toNat i+1+s.1)%8):Int)))with|some x=>x|none=>(0:Int)else s.2 j] 112]=[SB.cells [nI 16 s_1.1] 112]/\((0:Int)<=s_1.2/\s_1.2<=(1000:Int))/\∀(x:Unit),True->((0:Int)<=atI (toN 16 s_1.1) s_1.2/\atI (toN 16 s_1.1) s_1.2<(8:Int))/\0+Int.toNat (atI (toN 16 s_1.1) s_1.2)+Int.toNat (atI (toN 16 s_1.1) s_1.2)+1+1<=16/\dP Tryd.f78 7 3 [⟨5,[],[0],[],false⟩,xF 4 0,xR 3 2,⟨2,[],[0],[],false⟩,xR 1 2,xF 0 2]/\(8:Int)≠(0:Int)/\∃(s':CloG (toN 16 f) (Int.toNat i)),((eS (aP 0 0) (aP 0 0)/\eS (aP 1 0) (aP 1 0)/\eS (aI (Int.tmod (IntKind.wrap .i64 ((↑((Int.toNat i+1+s.1)%8):Int)+(1:Int))) (8:Int))) (aI (↑((Int.toNat i+1+s'.1)%8):Int))/\True)/\[SB.cells [nI 16 fun (j:Nat)=>bif match Nat.ble (0+Int.toNat (atI (toN 16 s_1.1) s_1.2)+Int.toNat (atI (toN 16 s_1.1) s_1.2)) j with|false=>false|true=>Nat.ble j (0+Int.toNat (atI (toN 16 s_1.1) s_1.2)+Int.toNat (atI (toN 16 s_1.1) s_1.2)+1)then match List.get?Internal [s.2 (0+Int.toNat (↑((Int.toNat i+1+s.1)%8):Int)+Int.toNat (↑((Int.toNat i+1+s.1)%8):Int)),s.2 (0+Int.toNat (↑((Int.toNat i+1+s.1)%8):Int)+Int.toNat (↑((Int.toNat i+1+s.1)%8):Int)+1)] (j-(0+Int.toNat (atI (toN 16 s_1.1) s_1.2)+Int.toNat (atI (toN 16 s_1.1) s_1.2)))with|some x=>x|none=>(0:Int)else s_1.1 j] 112,SB.cells [nI 16 zF] 112]=[SB.cells [nI 16 s'.2] 112,SB.cells [nI 16 zF] 112])/\Q0 (toN 16 f) (Int.toNat i)-s'.1<Q0 (toN 16 f) (Int.toNat i)-s.1 else endP Qbf [SA.a [nI 16 f],aI i] (SV.o (SA.a [nI 16 s.2])) []) (by kernel_rfl) ?_
 obtain⟨n0,rfl⟩:=Int.eq_ofNat_of_zero_le h0
 rw[Int.toNat_natCast]at hk ⊢
 have hn8:n0<8:=by omega
 obtain⟨E1,E7,hrun,hstop⟩:=QaV hg n0 hn8 hk
 refine⟨⟨by omega,by omega⟩,by omega,by decide,⟨⟨0,_,by omega,?_⟩,⟨rfl,rfl,svI ?_,trivial⟩,rfl⟩,?_⟩
 · exact Qc4 _ n0 0 0 hn8
 · dsimp only;rw[sucI (by omega),Int.tmod_eq_emod_of_nonneg (by omega)];omega
 rintro⟨n,g,hn,hgt⟩
 dsimp only at hn hgt ⊢
 have hI:=QdE hg n0 hn8 hk n hn
 rw[<- hgt]at hI
 have hj:(n0+1+n)%8<8:=Nat.mod_lt _ (by decide)
 have hq:tk (toN 16 g) ((n0+(n+1))%8)=tk (toN 16 g) ((n0+1+n)%8):=by congr 2;omega
 have hst:(toN 16 g)=Qhe (toN 16 f) n0 n:=hgt
 generalize hm:(n0+1+n)%8=q at *
 rw[Int.toNat_natCast]
 have gk:g (0+q+q)=tk (toN 16 g) q:=by unfold tk;rw[QJ (by omega)];rfl
 have gv:g (0+q+q+1)=tv (toN 16 g) q:=by unfold tv;rw[QJ (by omega)];rfl
 have k0:=hI.key0 q hj
 have k1:=hI.key1 q hj
 refine⟨⟨by omega,by omega⟩,by omega,XG (fun h=>?_) (fun h=>?_)⟩
 · have hne:n+1<Q0 (toN 16 f) n0:=by
    rcases Nat.lt_or_ge (n+1) (Q0 (toN 16 f) n0)with h1|h1
    · exact h1
    · exfalso;apply h
      rw[gk,<- hq,show n+1=Q0 (toN 16 f) n0 by omega];exact hI.stop
   have hU:=Qc4 g q 0 0 hj
   have hat:=(Qgs hI hn8 hne E7)
   rw[hm]at hat
   obtain⟨a,ha,hae,-⟩:=hat
   refine⟨⟨by omega,by omega⟩,by omega,⟨by omega,by omega⟩,by omega,⟨_,_⟩,rfl,rfl,⟨by rw[gk];exact k0,by rw[gk];exact k1⟩,fun _ _=>?_⟩
   dsimp only[cond]at hU ⊢
   rw[hU,gk,hae,Int.toNat_natCast,gv]
   refine⟨⟨by omega,by omega⟩,by omega,Qd (by kernel_rfl),by decide,⟨n+1,_,hne,?_⟩,⟨⟨rfl,rfl,svI ?_,trivial⟩,rfl⟩,by dsimp only;omega⟩
   · refine (Qc4 _ a _ _ ha).trans ?_
     rw[hU]
     simp only[Qhe]
     rw[<- hst,hm]
     unfold Qjl
     rw[hae];rfl
   · dsimp only;rw[sucI (by omega),Int.tmod_eq_emod_of_nonneg (by omega)];omega
 · have hne:n+1=Q0 (toN 16 f) n0:=by
    rcases Nat.lt_or_ge (n+1) (Q0 (toN 16 f) n0)with h1|h1
    · exact absurd (hq.trans (gk.symm.trans h)) (hI.run (n+1) (by omega) h1)
    · omega
   refine⟨rfl,fun ρ=>Xv fun i hi=>?_⟩
   dsimp only[Int.toNat_natCast]
   rw[show QcX (toN 16 f) n0=toN 16 g by rw[hst];unfold QcX;rw[<- hne];rfl,QcT hi]
def QQ:PCon:=⟨fun args=>match args with
 |[.a [.ints (.int .i64) n f],.a [.one (.v (.int .i64 k)),.one (.v (.int .i64 key)),.one (.v (.int .i64 x))]]=>n=16/\Good (toN 16 f)/\opOk k key x=true
 |_=>False,fun args=>match args with
 |[.a [.ints (.int .i64) n f],.a [.one (.v (.int .i64 k)),.one (.v (.int .i64 key)),.one (.v (.int .i64 x))]]=>
  .t [.a [.ints (.int .i64) 16 (fL (doT (toN 16 f) k key x).1)],ansA (doT (toN 16 f) k key x).2.1 (doT (toN 16 f) k key x).2.2]
 |_=>sv undef,fun _=>none⟩
theorem Xq (f f':Nat->Int) (k key x c v:Int) (M:List SB) (h:doT (toN 16 f) k key x=(toN 16 f',c,v)):endP QQ [.a [.ints (.int .i64) 16 f],opA k key x] (.t [.a [.ints (.int .i64) 16 f'],ansA c v]) M:=by
 refine⟨rfl,fun ρ=>?_⟩
 simp only[PCon.out,QQ,SV.den,List.map_cons,List.map_nil]
 rw[h,Xv (f:=f') (g:=fL (toN 16 f')) (fun i hi=>(QcT hi).symm)]
theorem Qku:(Con.pure QQ).holds Tryd.prog 57:=by
 refine Qp (Γ:=[(76,.pure QcL),(77,.mem QeX),(78,.pure Qbf)]) Tryd.func57 rfl (by kernel_rfl) Qg Qc (fun W=>.cons (Qgo W _) (.cons (Qi3 W _) (.cons (Qhy W _) (.nil _ _ _)))) QQ (fun _=>[]) 600 ?_
 intro W args hp
 unfold QQ at hp;dsimp only at hp;split at hp
 case h_2=>exact hp.elim
 rename_i n f k key x
 obtain⟨rfl,hg,ho⟩:=hp
 refine⟨rfl,?_⟩
 have ho:=of_decide_eq_true ho
 have hk:k=1\/k=2\/k=3\/k=4\/k=5\/k=6:=by omega
 rcases hk with rfl|rfl|rfl|rfl|rfl|rfl
 ·
  refine Qh (q:=bif decide (key<(1:Int))then endP QQ [SA.a [nI 16 f],SA.a [sI 1,sI key,sI x]] (SV.t [SA.a [nI 16 f],SA.a [sI 5,sI 0]]) []else bif decide (key>(1000:Int))then endP QQ [SA.a [nI 16 f],SA.a [sI 1,sI key,sI x]] (SV.t [SA.a [nI 16 f],SA.a [sI 5,sI 0]]) []else ∃(s:AtS),[aP 0 0,aI key]=[aP 0 0,aI s.2]/\[SB.cells [nI 16 f] 112]=[SB.cells [nI 16 s.1] 112]/\((0:Int)<=s.2/\s.2<=(1000:Int))/\∀(x_1:Unit),True->bif decide (atI (toN 16 s.1) s.2>=(0:Int))then ((0:Int)<=atI (toN 16 s.1) s.2/\atI (toN 16 s.1) s.2<(8:Int))/\0+Int.toNat (atI (toN 16 s.1) s.2)+Int.toNat (atI (toN 16 s.1) s.2)<16/\dP Tryd.f57 6 4 [xE 11,xE 10,xE 9,xR 8 1,xF 7 1,xR 6 0,xF 5 0,xF 4 0,xE 3,xE 2,xE 1,xE 0]/\bif bif s.1 (0+Int.toNat (atI (toN 16 s.1) s.2)+Int.toNat (atI (toN 16 s.1) s.2))==key then false else true then 16=16/\bif decide ((↑(lenT (toN 16 s.1)):Int)>=(6:Int))then endP QQ [SA.a [nI 16 f],SA.a [sI 1,sI key,sI x]] (SV.t [SA.a [nI 16 s.1],SA.a [sI 3,sI 0]]) []else ((0:Int)<=atI (toN 16 s.1) s.2/\atI (toN 16 s.1) s.2<(8:Int))/\0+Int.toNat (atI (toN 16 s.1) s.2)+Int.toNat (atI (toN 16 s.1) s.2)+1+1<=16/\endP QQ [SA.a [nI 16 f],SA.a [sI 1,sI key,sI x]] (SV.t [SA.a [nI 16 fun (j:Nat)=>bif match Nat.ble (0+Int.toNat (atI (toN 16 s.1) s.2)+Int.toNat (atI (toN 16 s.1) s.2)) j with|false=>false|true=>Nat.ble j (0+Int.toNat (atI (toN 16 s.1) s.2)+Int.toNat (atI (toN 16 s.1) s.2)+1)then match List.get?Internal [key,x] (j-(0+Int.toNat (atI (toN 16 s.1) s.2)+Int.toNat (atI (toN 16 s.1) s.2)))with|some x=>x|none=>(0:Int)else s.1 j],SA.a [sI 1,sI 0]]) []else ((0:Int)<=atI (toN 16 s.1) s.2/\atI (toN 16 s.1) s.2<(8:Int))/\0+Int.toNat (atI (toN 16 s.1) s.2)+Int.toNat (atI (toN 16 s.1) s.2)+1+1<=16/\endP QQ [SA.a [nI 16 f],SA.a [sI 1,sI key,sI x]] (SV.t [SA.a [nI 16 fun (j:Nat)=>bif match Nat.ble (0+Int.toNat (atI (toN 16 s.1) s.2)+Int.toNat (atI (toN 16 s.1) s.2)) j with|false=>false|true=>Nat.ble j (0+Int.toNat (atI (toN 16 s.1) s.2)+Int.toNat (atI (toN 16 s.1) s.2)+1)then match List.get?Internal [key,x] (j-(0+Int.toNat (atI (toN 16 s.1) s.2)+Int.toNat (atI (toN 16 s.1) s.2)))with|some x=>x|none=>(0:Int)else s.1 j],SA.a [sI 1,sI 0]]) []else dP Tryd.f57 6 4 [xE 11,xE 10,xE 9,xE 8,xE 7,xE 6,xE 5,xE 4,xE 3,xE 2,xE 1,xE 0]/\16=16/\bif decide ((↑(lenT (toN 16 s.1)):Int)>=(6:Int))then endP QQ [SA.a [nI 16 f],SA.a [sI 1,sI key,sI x]] (SV.t [SA.a [nI 16 s.1],SA.a [sI 3,sI 0]]) []else ((0:Int)<=atI (toN 16 s.1) s.2/\atI (toN 16 s.1) s.2<(8:Int))/\0+Int.toNat (atI (toN 16 s.1) s.2)+Int.toNat (atI (toN 16 s.1) s.2)+1+1<=16/\endP QQ [SA.a [nI 16 f],SA.a [sI 1,sI key,sI x]] (SV.t [SA.a [nI 16 fun (j:Nat)=>bif match Nat.ble (0+Int.toNat (atI (toN 16 s.1) s.2)+Int.toNat (atI (toN 16 s.1) s.2)) j with|false=>false|true=>Nat.ble j (0+Int.toNat (atI (toN 16 s.1) s.2)+Int.toNat (atI (toN 16 s.1) s.2)+1)then match List.get?Internal [key,x] (j-(0+Int.toNat (atI (toN 16 s.1) s.2)+Int.toNat (atI (toN 16 s.1) s.2)))with|some x=>x|none=>(0:Int)else s.1 j],SA.a [sI 1,sI 0]]) []) (by kernel_rfl) ?_
  refine Qi (fun h=>Xq _ _ _ _ _ _ _ _ (by unfold doT;rw[if_neg (by decide),if_pos (.inr (.inl h))])) (fun h1=>Qi (fun h=>absurd h (by omega)) (fun h2=>?_))
  have hw:¬(((1:Int)≠1/\(1:Int)≠2/\(1:Int)≠5)\/key<1\/1000<key):=by omega
  obtain⟨i,hi,hai,-,-⟩:=hg.at key
  have fk:f (0+i+i)=tk (toN 16 f) i:=by unfold tk;rw[QJ (by omega)];rfl
  have fv:f (0+i+i+1)=tv (toN 16 f) i:=by unfold tv;rw[QJ (by omega)];rfl
  have hth:thereB (toN 16 f) key=(tk (toN 16 f) i==key):=by unfold thereB;rw[hai,decide_eq_true (by omega),Int.toNat_natCast];rfl
  refine⟨⟨f,key⟩,rfl,rfl,⟨ho.2.2.1,ho.2.2.2.1⟩,fun _ _=>?_⟩
  dsimp only
  rw[hai,Int.toNat_natCast,fk]
  refine Qi (fun _=>⟨⟨by omega,by omega⟩,by omega,Qd (by kernel_rfl),?_⟩) (fun h=>absurd h (by omega))
  have hput (h:¬(thereB (toN 16 f) key=false/\6<=lenT (toN 16 f))):doT (toN 16 f) 1 key x=(setS (toN 16 f) i key x,1,0):=by
   unfold doT;rw[if_neg (by decide),if_neg hw,if_pos rfl,if_neg h,hai];rfl
  have hU:=Qc4 f i key x hi
  refine QgP (fun h=>⟨rfl,Qi (fun h6=>Xq _ _ _ _ _ _ _ _ ?_) (fun h6=>⟨⟨by omega,by omega⟩,by omega,Xq _ _ _ _ _ _ _ _ ?_⟩)⟩) (fun h=>⟨⟨by omega,by omega⟩,by omega,Xq _ _ _ _ _ _ _ _ ?_⟩)
  · have ht:thereB (toN 16 f) key=false:=by rw[hth];exact beq_eq_false_iff_ne.2 h
    unfold doT;rw[if_neg (by decide),if_neg hw,if_pos rfl,if_pos ⟨ht,by omega⟩]
  · rw[hput (fun hh=>by omega)];exact congrArg (·,1,0) hU.symm
  · rw[hput (fun hh=>by rw[hth]at hh;exact absurd h (beq_eq_false_iff_ne.1 hh.1))];exact congrArg (·,1,0) hU.symm
 ·
  refine Qh (q:=bif decide (key<(1:Int))then endP QQ [SA.a [nI 16 f],SA.a [sI 2,sI key,sI x]] (SV.t [SA.a [nI 16 f],SA.a [sI 5,sI 0]]) []else bif decide (key>(1000:Int))then endP QQ [SA.a [nI 16 f],SA.a [sI 2,sI key,sI x]] (SV.t [SA.a [nI 16 f],SA.a [sI 5,sI 0]]) []else ∃(s:AtS),[aP 0 0,aI key]=[aP 0 0,aI s.2]/\[SB.cells [nI 16 f] 112]=[SB.cells [nI 16 s.1] 112]/\((0:Int)<=s.2/\s.2<=(1000:Int))/\∀(x_1:Unit),True->bif decide (atI (toN 16 s.1) s.2>=(0:Int))then ((0:Int)<=atI (toN 16 s.1) s.2/\atI (toN 16 s.1) s.2<(8:Int))/\0+Int.toNat (atI (toN 16 s.1) s.2)+Int.toNat (atI (toN 16 s.1) s.2)<16/\dP Tryd.f57 6 4 [xE 11,xE 10,xE 9,xR 8 1,xF 7 1,xR 6 0,xF 5 0,xF 4 0,xE 3,xE 2,xE 1,xE 0]/\bif bif s.1 (0+Int.toNat (atI (toN 16 s.1) s.2)+Int.toNat (atI (toN 16 s.1) s.2))==key then false else true then endP QQ [SA.a [nI 16 f],SA.a [sI 2,sI key,sI x]] (SV.t [SA.a [nI 16 s.1],SA.a [sI 4,sI 0]]) []else ((0:Int)<=atI (toN 16 s.1) s.2/\atI (toN 16 s.1) s.2<(8:Int))/\0+Int.toNat (atI (toN 16 s.1) s.2)+Int.toNat (atI (toN 16 s.1) s.2)+1<16/\(16=16/\Good (toN 16 s.1)/\(0:Int)<=atI (toN 16 s.1) s.2/\atI (toN 16 s.1) s.2<(8:Int)/\tk (toN 16 s.1) (Int.toNat (atI (toN 16 s.1) s.2))≠(0:Int))/\endP QQ [SA.a [nI 16 f],SA.a [sI 2,sI key,sI x]] (SV.t [SA.a [nI 16 (fL (QcX (toN 16 s.1) (Int.toNat (atI (toN 16 s.1) s.2))))],SA.a [sI 1,sI (s.1 (0+Int.toNat (atI (toN 16 s.1) s.2)+Int.toNat (atI (toN 16 s.1) s.2)+1))]]) []else dP Tryd.f57 6 4 [xE 11,xE 10,xE 9,xE 8,xE 7,xE 6,xE 5,xE 4,xE 3,xE 2,xE 1,xE 0]/\endP QQ [SA.a [nI 16 f],SA.a [sI 2,sI key,sI x]] (SV.t [SA.a [nI 16 s.1],SA.a [sI 4,sI 0]]) []) (by kernel_rfl) ?_
  refine Qi (fun h=>Xq _ _ _ _ _ _ _ _ (by unfold doT;rw[if_neg (by decide),if_pos (.inr (.inl h))])) (fun h1=>Qi (fun h=>absurd h (by omega)) (fun h2=>?_))
  have hw:¬(((2:Int)≠1/\(2:Int)≠2/\(2:Int)≠5)\/key<1\/1000<key):=by omega
  obtain⟨i,hi,hai,-,-⟩:=hg.at key
  have fk:f (0+i+i)=tk (toN 16 f) i:=by unfold tk;rw[QJ (by omega)];rfl
  have fv:f (0+i+i+1)=tv (toN 16 f) i:=by unfold tv;rw[QJ (by omega)];rfl
  have hth:thereB (toN 16 f) key=(tk (toN 16 f) i==key):=by unfold thereB;rw[hai,decide_eq_true (by omega),Int.toNat_natCast];rfl
  refine⟨⟨f,key⟩,rfl,rfl,⟨ho.2.2.1,ho.2.2.2.1⟩,fun _ _=>?_⟩
  dsimp only
  rw[hai,Int.toNat_natCast,fk]
  refine Qi (fun _=>⟨⟨by omega,by omega⟩,by omega,Qd (by kernel_rfl),?_⟩) (fun h=>absurd h (by omega))
  refine QgP (fun h=>Xq _ _ _ _ _ _ _ _ ?_) (fun h=>⟨⟨by omega,by omega⟩,by omega,⟨rfl,hg,by omega,by omega,by rw[h];omega⟩,Xq _ _ _ _ _ _ _ _ ?_⟩)
  · have ht:thereB (toN 16 f) key=false:=by rw[hth];exact beq_eq_false_iff_ne.2 h
    unfold doT;rw[if_neg (by decide),if_neg hw,if_neg (by decide),if_pos ht]
  · have ht:¬thereB (toN 16 f) key=false:=by rw[hth,beq_iff_eq.2 h];decide
    unfold doT;rw[if_neg (by decide),if_neg hw,if_neg (by decide),if_neg ht,if_pos rfl,hai,Int.toNat_natCast,fv]
    rw[Qak (QdR hg i hi (by rw[h];omega)).len]
 ·
  refine Qh (q:=endP QQ [SA.a [nI 16 f],SA.a [sI 3,sI key,sI x]] (SV.t [SA.a [nI 16 f],SA.a [sI 5,sI 0]]) []) (by kernel_rfl) ?_
  exact Xq _ _ _ _ _ _ _ _ (by unfold doT;rw[if_neg (by decide),if_pos (.inl (by decide))])
 ·
  refine Qh (q:=endP QQ [SA.a [nI 16 f],SA.a [sI 4,sI key,sI x]] (SV.t [SA.a [nI 16 f],SA.a [sI 5,sI 0]]) []) (by kernel_rfl) ?_
  exact Xq _ _ _ _ _ _ _ _ (by unfold doT;rw[if_neg (by decide),if_pos (.inl (by decide))])
 ·
  refine Qh (q:=bif decide (key<(1:Int))then endP QQ [SA.a [nI 16 f],SA.a [sI 5,sI key,sI x]] (SV.t [SA.a [nI 16 f],SA.a [sI 5,sI 0]]) []else bif decide (key>(1000:Int))then endP QQ [SA.a [nI 16 f],SA.a [sI 5,sI key,sI x]] (SV.t [SA.a [nI 16 f],SA.a [sI 5,sI 0]]) []else ∃(s:AtS),[aP 0 0,aI key]=[aP 0 0,aI s.2]/\[SB.cells [nI 16 f] 112]=[SB.cells [nI 16 s.1] 112]/\((0:Int)<=s.2/\s.2<=(1000:Int))/\∀(x_1:Unit),True->bif decide (atI (toN 16 s.1) s.2>=(0:Int))then ((0:Int)<=atI (toN 16 s.1) s.2/\atI (toN 16 s.1) s.2<(8:Int))/\0+Int.toNat (atI (toN 16 s.1) s.2)+Int.toNat (atI (toN 16 s.1) s.2)<16/\dP Tryd.f57 6 4 [xE 11,xE 10,xE 9,xR 8 1,xF 7 1,xR 6 0,xF 5 0,xF 4 0,xE 3,xE 2,xE 1,xE 0]/\bif bif s.1 (0+Int.toNat (atI (toN 16 s.1) s.2)+Int.toNat (atI (toN 16 s.1) s.2))==key then false else true then endP QQ [SA.a [nI 16 f],SA.a [sI 5,sI key,sI x]] (SV.t [SA.a [nI 16 s.1],SA.a [sI 4,sI 0]]) []else ((0:Int)<=atI (toN 16 s.1) s.2/\atI (toN 16 s.1) s.2<(8:Int))/\0+Int.toNat (atI (toN 16 s.1) s.2)+Int.toNat (atI (toN 16 s.1) s.2)+1<16/\endP QQ [SA.a [nI 16 f],SA.a [sI 5,sI key,sI x]] (SV.t [SA.a [nI 16 s.1],SA.a [sI 1,sI (s.1 (0+Int.toNat (atI (toN 16 s.1) s.2)+Int.toNat (atI (toN 16 s.1) s.2)+1))]]) []else dP Tryd.f57 6 4 [xE 11,xE 10,xE 9,xE 8,xE 7,xE 6,xE 5,xE 4,xE 3,xE 2,xE 1,xE 0]/\endP QQ [SA.a [nI 16 f],SA.a [sI 5,sI key,sI x]] (SV.t [SA.a [nI 16 s.1],SA.a [sI 4,sI 0]]) []) (by kernel_rfl) ?_
  refine Qi (fun h=>Xq _ _ _ _ _ _ _ _ (by unfold doT;rw[if_neg (by decide),if_pos (.inr (.inl h))])) (fun h1=>Qi (fun h=>absurd h (by omega)) (fun h2=>?_))
  have hw:¬(((5:Int)≠1/\(5:Int)≠2/\(5:Int)≠5)\/key<1\/1000<key):=by omega
  obtain⟨i,hi,hai,-,-⟩:=hg.at key
  have fk:f (0+i+i)=tk (toN 16 f) i:=by unfold tk;rw[QJ (by omega)];rfl
  have fv:f (0+i+i+1)=tv (toN 16 f) i:=by unfold tv;rw[QJ (by omega)];rfl
  have hth:thereB (toN 16 f) key=(tk (toN 16 f) i==key):=by unfold thereB;rw[hai,decide_eq_true (by omega),Int.toNat_natCast];rfl
  refine⟨⟨f,key⟩,rfl,rfl,⟨ho.2.2.1,ho.2.2.2.1⟩,fun _ _=>?_⟩
  dsimp only
  rw[hai,Int.toNat_natCast,fk]
  refine Qi (fun _=>⟨⟨by omega,by omega⟩,by omega,Qd (by kernel_rfl),?_⟩) (fun h=>absurd h (by omega))
  refine QgP (fun h=>Xq _ _ _ _ _ _ _ _ ?_) (fun h=>⟨⟨by omega,by omega⟩,by omega,Xq _ _ _ _ _ _ _ _ ?_⟩)
  · have ht:thereB (toN 16 f) key=false:=by rw[hth];exact beq_eq_false_iff_ne.2 h
    unfold doT;rw[if_neg (by decide),if_neg hw,if_neg (by decide),if_pos ht]
  · have ht:¬thereB (toN 16 f) key=false:=by rw[hth,beq_iff_eq.2 h];decide
    unfold doT;rw[if_neg (by decide),if_neg hw,if_neg (by decide),if_neg ht,if_neg (by decide),hai,Int.toNat_natCast,fv]
 ·
  refine Qh (q:=16=16/\dP Tryd.f57 2 4 [⟨5,[],[3],[],false⟩,⟨4,[],[2],[],false⟩,xE 3,xE 2,xR 1 0,xR 0 0]/\endP QQ [SA.a [nI 16 f],SA.a [sI 6,sI key,sI x]] (SV.t [SA.a [nI 16 f],SA.a [sI 1,sI (↑(lenT (toN 16 f)):Int)]]) []) (by kernel_rfl) ?_
  exact⟨rfl,Qd (by kernel_rfl),Xq _ _ _ _ _ _ _ _ (by unfold doT;rw[if_pos rfl])⟩
abbrev QdS (f:Nat->Int):SB:=.cells [.ints (.int .u64) 17 f] 83
abbrev Qcj (f:Nat->Int):SA:=.a [.ints (.int .u64) 17 f]
def QaG:MCon:=dcon UpS (fun s=>s.pre) (fun s=>[.c (.so 0 0 1 s.l.length s.c s.nn)]) (fun s=>[Xk s.m s.c s.z]) (fun s=>sv (.bool (Qc3 s.l))) (fun s=>[Xk s.m s.c s.z]) 1 (fun args _=>some (blkA args))
structure HrG (s:UpS) where
 i:Nat
 hi:i<=s.l.length
 he:QaB s.l i=true
def QfN (s:UpS):Ann where
 σ:=HrG s
 I g:=([(0,.o (.c (.so 0 0 1 s.l.length s.c s.nn))),(5,sv (.int .i64 s.l.length)),(6,sv (.int .i64 g.i))],[Xk s.m s.c s.z])
 dec g:=s.l.length-g.i
 pi _ _:=[0]
 nz:=[]
theorem Qhm:(Con.mem QaG).holds Tryd.prog 66:=by
 intro w0 S
 refine Qw (Γ:=[]) (fun _=>noW) Tryd.func66 rfl (by kernel_rfl) Qg Qc (fun _ _ _ _=>.nil _ _ _) QaG (fun s=>[(66,[(0,QfN s)])]) (fun x0 h s x=>⟨rfl,trivial⟩) (fun s ρ w _ _ _=>Q7 w _) [] (QI 1) 400 ?_
 rintro⟨l,m,c,nn,z⟩ w ⟨h1,h2,h3,h4⟩ -
 refine⟨rfl,?_⟩
 dsimp only at h1 h2 h3 h4
 refine Qh (q:=List.length l<=c/\(∃(s0:Ann.σ (QfN (UpS.mk l m c nn z))),(eS (SA.c (.so 0 0 1 (List.length l) c nn)) (SA.c (.so 0 0 1 (List.length l) c nn))/\eS (aI (↑(List.length l):Int)) (aI (↑(List.length l):Int))/\eS (aI 0) (aI ↑s0.1)/\True)/\[SB.rows 3 [.int .i64] 1 m c z]=[SB.rows 3 [.int .i64] 1 m c z])/\∀(s:HrG (UpS.mk l m c nn z)),bif decide ((↑s.1:Int)<(↑(List.length l):Int))then bif decide ((↑s.1:Int)>(0:Int))then ((0:Int)<=(↑s.1:Int)/\(↑s.1:Int)<(↑(List.length l):Int)/\0+List.length l<=c)/\0+Int.toNat (↑s.1:Int)<m/\(2:Int)≠(0:Int)/\((0:Int)<=IntKind.wrap .i64 (Int.tdiv (IntKind.wrap .i64 ((↑s.1:Int)-(1:Int))) (2:Int))/\IntKind.wrap .i64 (Int.tdiv (IntKind.wrap .i64 ((↑s.1:Int)-(1:Int))) (2:Int))<(↑(List.length l):Int)/\0+List.length l<=c)/\0+Int.toNat (IntKind.wrap .i64 (Int.tdiv (IntKind.wrap .i64 ((↑s.1:Int)-(1:Int))) (2:Int)))<m/\dP Tryd.f66 4 1 [xE 14,xE 13,xR 12 0,xF 11 0,xE 10,xE 9,xE 8,xF 7 0,xR 6 0,xF 5 0,xE 4,xF 3 0,xE 2,xE 1,xE 0]/\bif decide (z (0+Int.toNat (↑s.1:Int)) 0<z (0+Int.toNat (IntKind.wrap .i64 (Int.tdiv (IntKind.wrap .i64 ((↑s.1:Int)-(1:Int))) (2:Int)))) 0)then endN QaG [] (QI 1) (UpS.mk l m c nn z) (SV.o (aB false)) [SB.rows 3 [.int .i64] 1 m c z]else ∃(s':HrG (UpS.mk l m c nn z)),((eS (SA.c (.so 0 0 1 (List.length l) c nn)) (SA.c (.so 0 0 1 (List.length l) c nn))/\eS (aI (↑(List.length l):Int)) (aI (↑(List.length l):Int))/\eS (aI (IntKind.wrap .i64 ((↑s.1:Int)+(1:Int)))) (aI ↑s'.1)/\True)/\[SB.rows 3 [.int .i64] 1 m c z]=[SB.rows 3 [.int .i64] 1 m c z])/\List.length l-s'.1<List.length l-s.1 else dP Tryd.f66 4 1 [xE 14,xE 13,xE 12,xE 11,xE 10,xE 9,xE 8,xE 7,xE 6,xE 5,xE 4,xE 3,xE 2,xE 1,xE 0]/\∃(s':HrG (UpS.mk l m c nn z)),((eS (SA.c (.so 0 0 1 (List.length l) c nn)) (SA.c (.so 0 0 1 (List.length l) c nn))/\eS (aI (↑(List.length l):Int)) (aI (↑(List.length l):Int))/\eS (aI (IntKind.wrap .i64 ((↑s.1:Int)+(1:Int)))) (aI ↑s'.1)/\True)/\[SB.rows 3 [.int .i64] 1 m c z]=[SB.rows 3 [.int .i64] 1 m c z])/\List.length l-s'.1<List.length l-s.1 else List.length l<=c/\endN QaG [] (QI 1) (UpS.mk l m c nn z) (SV.o (aB (decide ((↑(List.length l):Int)<=(6:Int))))) [SB.rows 3 [.int .i64] 1 m c z]) (by kernel_rfl) ?_
 refine⟨by omega,⟨⟨0,Nat.zero_le _,rfl⟩,⟨rfl,rfl,rfl,trivial⟩,rfl⟩,?_⟩
 rintro⟨i,hi,he⟩
 dsimp only at hi he ⊢
 have zh (j:Nat) (hj:j<l.length):z (0+j) 0=hp l j:=(congrArg (z · 0) (Nat.zero_add j)).trans (h4 j hj)
 have hend (b:Bool) (h:Qc3 l=b):endN QaG [] (QI 1) ⟨l,m,c,nn,z⟩ (sv (.bool b)) [Xk m c z]:=by subst h;exact⟨(),trivial,rfl,rfl⟩
 have nx (hlt:i<l.length) (h:QaB l (i+1)=true):∃s':HrG ⟨l,m,c,nn,z⟩,((some (SV.o (SA.c (.so 0 0 1 l.length c nn)))=some (SV.o (SA.c (.so 0 0 1 l.length c nn)))/\some (sv (.int .i64 l.length))=some (sv (.int .i64 l.length))/\some (sv (.int .i64 (IntKind.wrap .i64 ((i:Int)+1))))=some (sv (.int .i64 s'.i))/\True)/\[Xk m c z]=[Xk m c z])/\l.length-s'.i<l.length-i:=
  ⟨⟨i+1,hlt,h⟩,⟨⟨rfl,rfl,svI (sucI (by omega)),trivial⟩,rfl⟩,by dsimp only;omega⟩
 refine Qi (fun hlt=>?_) (fun hge=>⟨by omega,hend _ ?_⟩)
 · refine Qi (fun hpos=>?_) (fun hz0=>⟨Qd (by kernel_rfl),nx (by omega) ?_⟩)
   · have e:IntKind.wrap .i64 (Int.tdiv (IntKind.wrap .i64 ((i:Int)-1)) 2)=(((i-1)/2:Nat):Int):=by
      rw[Q8 (x:=(i:Int)-1) (by omega) (by omega),Int.tdiv_eq_ediv_of_nonneg (by omega),Q8 (by omega) (by omega)];omega
     rw[e,Int.toNat_natCast,Int.toNat_natCast]
     refine⟨⟨by omega,by omega,by omega⟩,by omega,by decide,⟨by omega,by omega,by omega⟩,by omega,Qd (by kernel_rfl),Qi (fun h=>hend _ ?_) (fun h=>nx (by omega) ?_)⟩
     · rw[zh i (by omega),zh _ (by omega)]at h
       unfold Qc3
       rw[Qhn l (i+1) l.length ?_ (by omega)];rfl
       simp only[QaB]
       rw[decide_eq_false (by omega),Bool.and_false]
     · rw[zh i (by omega),zh _ (by omega)]at h
       simp only[QaB,he,Bool.true_and,decide_eq_true_eq];omega
   · simp only[QaB,he,Bool.true_and,decide_eq_true_eq];omega
 · obtain rfl:i=l.length:=by omega
   unfold Qc3
   rw[he,Bool.true_and,decide_eq_decide];omega
structure QbY where
 f:Nat->Int
 l:List Int
def Qbe:MCon where
 σ:=QbY
 χ:=LstR
 pre s:=toN 17 s.f=lstC s.l/\s.l.length<=6/\InR s.l
 args s:=[Qcj s.f]
 mem s:=[]
 ok s x:=(s.l.length<=x.m/\x.m<=x.c)/\IsL x.z s.l
 val s x:=.t [.c (.so 0 0 1 s.l.length x.c x.nn),.c (.v (.bool true))]
 mem' s x:=[Xk x.m x.c x.z]
 k:=0
 len:=1
 det:=none
 find args M:=some []
structure LiG (l:List Int) where
 i:Nat
 n:Nat
 m:Nat
 c:Nat
 nn:Bool
 z:Nat->Nat->Int
 hi:i<=16
 hn:n=min i l.length
 hm:n<=m/\m<=c
 hz:IsL z (l.take i)
def Qi9 (s:QbY):Ann where
 σ:=LiG s.l
 I g:=([(1,.o (.c (.p 0 0))),(4,.o (.c (.so 1 0 1 g.n g.c g.nn))),(11,.o (.c (.s 0 1 16 16))),(12,sv (.int .i64 16)),(13,sv (.int .i64 g.i))],[QdS s.f,Xk g.m g.c g.z])
 dec g:=16-g.i
 pi env M:=match lk env 4 with
  |some (.o (.c (.so b _ _ _ _ _)))=>[0,b]
  |_=>[0]
 nz:=[.tmp 4 3 1 [.int .i64]]
theorem QgC:(Con.mem Qbe).holds Tryd.prog 59:=by
 intro w0 S
 refine Qw (Γ:=[]) (fun _=>noW) Tryd.func59 rfl (by kernel_rfl) Qg Qc (fun _ _ _ _=>.nil _ _ _) Qbe (fun s=>[(59,[(0,Qi9 s)])]) (fun x0 h=>by cases h) (fun s ρ w _ _ _=>Q7 w _) [.tmp 0 3 1 [.int .i64]] rpL 400 ?_
 rintro⟨f,l⟩ w ⟨h1,h2,h3⟩ -
 refine⟨rfl,?_⟩
 dsimp only at h1 h2 h3
 refine Qh (q:=(iR (0:Int) (17:Int))/\0<17/\bif decide (f 0>(6:Int))then endN Qbe [NZ.tmp 0 3 1 [.int .i64]] rpL (QbY.mk f l) (SV.t [SA.c (.v (.slice none 0 0)),aB false]) [SB.cells [nU 17 f] 83]else ((0:Int)<=(1:Int)/\(1:Int)<=(17:Int)/\(17:Int)<=(17:Int))/\(∃(s0:Ann.σ (Qi9 (QbY.mk f l))),(eS (aP 0 0) (aP 0 0)/\eS (SA.c (.so 1 0 1 0 0 false)) (SA.c (.so 1 0 1 s0.2 s0.4 s0.5))/\eS (SA.c (.s 0 1 16 16)) (SA.c (.s 0 1 16 16))/\eS (aI 16) (aI 16)/\eS (aI 0) (aI ↑s0.1)/\True)/\[SB.cells [nU 17 f] 83,SB.rows 3 [.int .i64] 1 0 0 fun (x x_1:Nat)=>(0:Int)]=[SB.cells [nU 17 f] 83,SB.rows 3 [.int .i64] 1 s0.3 s0.4 s0.6])/\∀(s:LiG l),bif decide ((↑s.1:Int)<(16:Int))then (iR (↑s.1:Int) (16:Int))/\1+Int.toNat (↑s.1:Int)<17/\(iR (0:Int) (17:Int))/\0<17/\bif decide (f (1+Int.toNat (↑s.1:Int))>(4294967295:Int))then endN Qbe [NZ.tmp 0 3 1 [.int .i64]] rpL (QbY.mk f l) (SV.t [SA.c (.v (.slice none 0 0)),aB false]) [SB.cells [nU 17 f] 83,SB.rows 3 [.int .i64] 1 s.3 s.4 s.6]else bif bif decide ((↑s.1:Int)<IntKind.wrap .i64 (f 0))then false else true then bif f (1+Int.toNat (↑s.1:Int)) != (0:Int)then endN Qbe [NZ.tmp 0 3 1 [.int .i64]] rpL (QbY.mk f l) (SV.t [SA.c (.v (.slice none 0 0)),aB false]) [SB.cells [nU 17 f] 83,SB.rows 3 [.int .i64] 1 s.3 s.4 s.6]else bif decide ((↑s.1:Int)<IntKind.wrap .i64 (f 0))then ((s.2<=s.3/\s.4=s.4)/\(1<=1/\1=1)/\s.2+1<=68719476736)/\∀(c:Nat),s.2+1<=c->∃(s':LiG l),((eS (aP 0 0) (aP 0 0)/\eS (SA.c (.so 3 0 1 (s.2+1) c s.5)) (SA.c (.so 3 0 1 s'.2 s'.4 s'.5))/\eS (SA.c (.s 0 1 16 16)) (SA.c (.s 0 1 16 16))/\eS (aI 16) (aI 16)/\eS (aI (IntKind.wrap .i64 ((↑s.1:Int)+(1:Int)))) (aI ↑s'.1)/\True)/\[SB.cells [nU 17 f] 83,SB.rows 3 [.int .i64] 1 (s.2+1) c fun (i j:Nat)=>bif Nat.ble (i+1) s.2 then s.6 i j else match List.get?Internal (match List.get?Internal [[IntKind.wrap .i64 (f (1+Int.toNat (↑s.1:Int)))]] (0+(i-s.2))with|some x=>x|none=>[]) j with|some x=>x|none=>(0:Int)]=[SB.cells [nU 17 f] 83,SB.rows 3 [.int .i64] 1 s'.3 s'.4 s'.6])/\16-s'.1<16-s.1 else ∃(s':LiG l),((eS (aP 0 0) (aP 0 0)/\eS (SA.c (.so 1 0 1 s.2 s.4 s.5)) (SA.c (.so 1 0 1 s'.2 s'.4 s'.5))/\eS (SA.c (.s 0 1 16 16)) (SA.c (.s 0 1 16 16))/\eS (aI 16) (aI 16)/\eS (aI (IntKind.wrap .i64 ((↑s.1:Int)+(1:Int)))) (aI ↑s'.1)/\True)/\[SB.cells [nU 17 f] 83,SB.rows 3 [.int .i64] 1 s.3 s.4 s.6]=[SB.cells [nU 17 f] 83,SB.rows 3 [.int .i64] 1 s'.3 s'.4 s'.6])/\16-s'.1<16-s.1 else bif decide ((↑s.1:Int)<IntKind.wrap .i64 (f 0))then ((s.2<=s.3/\s.4=s.4)/\(1<=1/\1=1)/\s.2+1<=68719476736)/\∀(c:Nat),s.2+1<=c->∃(s':LiG l),((eS (aP 0 0) (aP 0 0)/\eS (SA.c (.so 3 0 1 (s.2+1) c s.5)) (SA.c (.so 3 0 1 s'.2 s'.4 s'.5))/\eS (SA.c (.s 0 1 16 16)) (SA.c (.s 0 1 16 16))/\eS (aI 16) (aI 16)/\eS (aI (IntKind.wrap .i64 ((↑s.1:Int)+(1:Int)))) (aI ↑s'.1)/\True)/\[SB.cells [nU 17 f] 83,SB.rows 3 [.int .i64] 1 (s.2+1) c fun (i j:Nat)=>bif Nat.ble (i+1) s.2 then s.6 i j else match List.get?Internal (match List.get?Internal [[IntKind.wrap .i64 (f (1+Int.toNat (↑s.1:Int)))]] (0+(i-s.2))with|some x=>x|none=>[]) j with|some x=>x|none=>(0:Int)]=[SB.cells [nU 17 f] 83,SB.rows 3 [.int .i64] 1 s'.3 s'.4 s'.6])/\16-s'.1<16-s.1 else ∃(s':LiG l),((eS (aP 0 0) (aP 0 0)/\eS (SA.c (.so 1 0 1 s.2 s.4 s.5)) (SA.c (.so 1 0 1 s'.2 s'.4 s'.5))/\eS (SA.c (.s 0 1 16 16)) (SA.c (.s 0 1 16 16))/\eS (aI 16) (aI 16)/\eS (aI (IntKind.wrap .i64 ((↑s.1:Int)+(1:Int)))) (aI ↑s'.1)/\True)/\[SB.cells [nU 17 f] 83,SB.rows 3 [.int .i64] 1 s.3 s.4 s.6]=[SB.cells [nU 17 f] 83,SB.rows 3 [.int .i64] 1 s'.3 s'.4 s'.6])/\16-s'.1<16-s.1 else endN Qbe [NZ.tmp 0 3 1 [.int .i64]] rpL (QbY.mk f l) (SV.t [SA.c (.so 1 0 1 s.2 s.4 s.5),aB true]) [SB.cells [nU 17 f] 83,SB.rows 3 [.int .i64] 1 s.3 s.4 s.6]) (by kernel_rfl) ?_
 have f0:f 0=l.length:=by
  have:=QJ (n:=17) (f:=f) (i:=0) (by decide)
  rw[h1]at this;exact this.symm
 have fi (i:Nat) (hi:i<16):f (1+i)=l.getD i 0:=by
  have:=QJ (n:=17) (f:=f) (i:=1+i) (by omega)
  rw[h1,Nat.add_comm 1 i,List.getD_eq_getElem?_getD,QjB l i hi (by omega)]at this
  rw[Nat.add_comm 1 i];exact this.symm
 rw[f0,Q8 (x:=(l.length:Int)) (by omega) (by omega)]
 refine⟨⟨by omega,by omega⟩,by omega,Qi (fun h=>absurd h (by omega)) (fun _=>⟨⟨by omega,by omega,by omega⟩,⟨⟨0,0,0,0,false,_,by omega,(Nat.zero_min _).symm,⟨Nat.le_refl _,Nat.le_refl _⟩,fun i hi=>by rw[List.take_zero]at hi;exact absurd hi (Nat.not_lt_zero _)⟩,⟨rfl,rfl,rfl,rfl,rfl,trivial⟩,rfl⟩,?_⟩)⟩
 rintro⟨i,n,m,c,nn,z,hi,hn,hm,hz⟩
 dsimp only at hi hn hm hz ⊢
 have hv:0<=l.getD i 0/\l.getD i 0<=4294967295:=by
  rcases Nat.lt_or_ge i l.length with h|h
  · exact h3.get i h
  · rw[List.getD_eq_getElem?_getD,List.getElem?_eq_none h];simp
 refine Qi (fun hlt=>?_) (fun hge=>?_)
 · rw[Int.toNat_natCast,fi i (by omega)]
   refine⟨⟨by omega,by omega⟩,by omega,⟨by omega,by omega⟩,by omega,Qi (fun h=>absurd h (by omega)) (fun _=>?_)⟩
   rcases Nat.lt_or_ge i l.length with hil|hil
   · refine QiU (fun h=>absurd h (by omega)) (fun _=>Qi (fun _=>?_) (fun h=>absurd h (by omega)))
     obtain rfl:n=i:=by omega
     rw[Q8 (x:=l.getD n 0) (by omega) (by omega)]
     refine⟨⟨⟨hm.1,rfl⟩,⟨Nat.le_refl _,rfl⟩,by omega⟩,fun c' hc'=>⟨⟨n+1,n+1,n+1,c',nn,_,by omega,by omega,⟨Nat.le_refl _,hc'⟩,?_⟩,⟨⟨rfl,rfl,rfl,rfl,svI (sucI (by omega)),trivial⟩,rfl⟩,by dsimp only;omega⟩⟩
     have ht:l.take (n+1)=l.take n++[l.getD n 0]:=by
      rw[List.take_add_one,List.getElem?_eq_getElem hil];simp[List.getD_eq_getElem?_getD,hil]
     have hti:(l.take n).length=n:=by simp;omega
     show IsL _ (l.take (n+1))
     rw[ht]
     refine hz.snoc (fun j hj=>?_) ?_
     · rw[hti]at hj;exact catT hj
     · rw[hti];exact catF.trans (by rw[Nat.sub_self];rfl)
   · have hg0:l.getD i 0=0:=by rw[List.getD_eq_getElem?_getD,List.getElem?_eq_none hil];rfl
     rw[hg0]
     refine QiU (fun _=>XG (fun h=>absurd rfl h) (fun _=>Qi (fun h=>absurd h (by omega)) (fun _=>?_))) (fun h=>absurd h (by omega))
     exact⟨⟨i+1,n,m,c,nn,z,by omega,by omega,hm,by show IsL z (l.take (i+1));rw[List.take_of_length_le (by omega)];rw[List.take_of_length_le hil]at hz;exact hz⟩,⟨⟨rfl,rfl,rfl,rfl,svI (sucI (by omega)),trivial⟩,rfl⟩,by dsimp only;omega⟩
 · obtain rfl:i=16:=by omega
   obtain rfl:n=l.length:=by omega
   rw[List.take_of_length_le (by omega)]at hz
   exact QaW (x':=.t [.c (.so 1 0 1 l.length c nn),.c (.v (.bool true))]) (M':=[QdS f,Xk m c z]) rfl ⟨m,c,nn,z⟩ ⟨hm,hz⟩ rfl rfl rfl
def Qcf:MCon:=dcon UpS (fun s=>s.pre/\s.l.length<=6/\InR s.l) (fun s=>[.c (.so 0 0 1 s.l.length s.c s.nn)]) (fun s=>[Xk s.m s.c s.z]) (fun s=>.o (Qcj (fL (lstC s.l)))) (fun s=>[Xk s.m s.c s.z]) 1 (fun args _=>some (blkA args))
structure LdG (s:UpS) where
 i:Nat
 hi:i<=s.l.length
def QfM (s:UpS):Ann where
 σ:=LdG s
 I g:=([(2,.o (.c (.p 1 0))),(3,.o (.c (.p 2 0))),(10,.o (.c (.so 0 0 1 s.l.length s.c s.nn))),(11,sv (.int .i64 s.l.length)),(12,sv (.int .i64 g.i))],[Xk s.m s.c s.z,QdS (fun _=>0),QdS (fL (Qba s.l g.i))])
 dec g:=s.l.length-g.i
 pi _ _:=[0,1,2]
 nz:=[]
theorem Qhd:(Con.mem Qcf).holds Tryd.prog 64:=by
 intro w0 S
 refine Qw (Γ:=[]) (fun _=>noW) Tryd.func64 rfl (by kernel_rfl) Qg Qc (fun _ _ _ _=>.nil _ _ _) Qcf (fun s=>[(64,[(0,QfM s)])]) (fun x0 h s x=>⟨rfl,trivial⟩) (fun s ρ w _ _ _=>Q7 w _) [] (QI 1) 400 ?_
 rintro⟨l,m,c,nn,z⟩ w ⟨⟨h1,h2,h3,h4⟩,h5,h6⟩ -
 refine⟨rfl,?_⟩
 dsimp only at h1 h2 h3 h4 h5 h6
 refine Qh (q:=List.length l<=c/\List.length l<=c/\(∃(s0:Ann.σ (QfM (UpS.mk l m c nn z))),(eS (aP 1 0) (aP 1 0)/\eS (aP 2 0) (aP 2 0)/\eS (SA.c (.so 0 0 1 (List.length l) c nn)) (SA.c (.so 0 0 1 (List.length l) c nn))/\eS (aI (↑(List.length l):Int)) (aI (↑(List.length l):Int))/\eS (aI 0) (aI ↑s0.1)/\True)/\[SB.rows 3 [.int .i64] 1 m c z,SB.cells [nU 17 zF] 83,SB.cells [nU 17 fun (i:Nat)=>bif Nat.beq i 0 then IntKind.wrap .u64 (↑(List.length l):Int)else (0:Int)] 83]=[SB.rows 3 [.int .i64] 1 m c z,SB.cells [nU 17 zF] 83,SB.cells [nU 17 (fL (Qba l s0.1))] 83])/\∀(s:LdG (UpS.mk l m c nn z)),bif decide ((↑s.1:Int)<(↑(List.length l):Int))then ((0:Int)<=(↑s.1:Int)/\(↑s.1:Int)<(↑(List.length l):Int)/\0+List.length l<=c)/\0+Int.toNat (↑s.1:Int)<m/\((0:Int)<=IntKind.wrap .i64 ((↑s.1:Int)+(1:Int))/\IntKind.wrap .i64 ((↑s.1:Int)+(1:Int))<(17:Int))/\Int.toNat (IntKind.wrap .i64 ((↑s.1:Int)+(1:Int)))<17/\∃(s':LdG (UpS.mk l m c nn z)),((eS (aP 1 0) (aP 1 0)/\eS (aP 2 0) (aP 2 0)/\eS (SA.c (.so 0 0 1 (List.length l) c nn)) (SA.c (.so 0 0 1 (List.length l) c nn))/\eS (aI (↑(List.length l):Int)) (aI (↑(List.length l):Int))/\eS (aI (IntKind.wrap .i64 ((↑s.1:Int)+(1:Int)))) (aI ↑s'.1)/\True)/\[SB.rows 3 [.int .i64] 1 m c z,SB.cells [nU 17 zF] 83,SB.cells [nU 17 fun (i:Nat)=>bif Nat.beq i (Int.toNat (IntKind.wrap .i64 ((↑s.1:Int)+(1:Int))))then IntKind.wrap .u64 (z (0+Int.toNat (↑s.1:Int)) 0)else fL (Qba l s.1) i] 83]=[SB.rows 3 [.int .i64] 1 m c z,SB.cells [nU 17 zF] 83,SB.cells [nU 17 (fL (Qba l s'.1))] 83])/\List.length l-s'.1<List.length l-s.1 else endN Qcf [] (QI 1) (UpS.mk l m c nn z) (SV.o (SA.a [nU 17 (fL (Qba l s.1))])) [SB.rows 3 [.int .i64] 1 m c z,SB.cells [nU 17 (fL (Qba l s.1))] 83,SB.cells [nU 17 (fL (Qba l s.1))] 83]) (by kernel_rfl) ?_
 rw[Qdf (by omega) (by omega)]
 refine⟨by omega,by omega,⟨⟨0,Nat.zero_le _⟩,⟨rfl,rfl,rfl,rfl,rfl,trivial⟩,?_⟩,?_⟩
 · rw[show (fun i:Nat=>bif Nat.beq i 0 then (l.length:Int)else 0)=fL (Qba l 0)from funext fun j=>by
    rw[Qg9]
    cases j<;>rfl]
 rintro⟨i,hi⟩
 dsimp only at hi ⊢
 refine Qi (fun hlt=>?_) (fun hge=>?_)
 · have hil:i<l.length:=by omega
   have hv:=h6.get i hil
   have zh:z (0+i) 0=l.getD i 0:=(congrArg (z · 0) (Nat.zero_add i)).trans (h4 i hil)
   rw[sucI (by omega),Int.toNat_natCast,Int.toNat_natCast,zh,Qdf (by omega) (by omega)]
   refine⟨⟨by omega,by omega,by omega⟩,by omega,⟨by omega,by omega⟩,by omega,⟨i+1,hil⟩,⟨⟨rfl,rfl,rfl,rfl,rfl,trivial⟩,?_⟩,by dsimp only;omega⟩
   rw[show (fun j:Nat=>bif Nat.beq j (i+1)then l.getD i 0 else fL (Qba l i) j)=fL (Qba l (i+1))from funext fun j=>by
    rw[Qha l i j hil]
    by_cases h:j=i+1
    · subst h;rw[if_pos rfl,show Nat.beq (i+1) (i+1)=true from Nat.beq_refl _];rfl
    · rw[if_neg h,show Nat.beq j (i+1)=false from nbeq h];rfl]
 · obtain rfl:i=l.length:=by omega
   rw[Qis]
   exact⟨(),trivial,rfl,rfl⟩
def Xz:PCon:=⟨fun args=>match args with
 |[.a [.ints (.int .u64) n f]]=>n=17/\Good (toN 16 f)/\f 16=0
 |_=>False,fun args=>match args with
 |[.a [.ints (.int .u64) n f]]=>.t [.a [.ints (.int .i64) 16 (fL (toN 16 f))],.c (.v (.bool true))]
 |_=>sv undef,fun _=>none⟩
structure SlG (f:Nat->Int) where
 i:Nat
 g:Nat->Int
 hi:i<=8
 hg:∀j,j<2*i->g j=f j
def QgT (f:Nat->Int):Ann where
 σ:=SlG f
 I g:=([(1,.o (.c (.p 0 0))),(2,.o (.c (.p 1 0))),(4,.o (.c (.p 2 0))),(6,sv (.int .i64 g.i))],[QdS f,Qa7 (fun _=>0),Qa7 g.g])
 dec g:=8-g.i
 pi _ _:=[0,1,2]
 nz:=[]
def Qld:List SA->List (Nat × Anns)
 |[.a [.ints (.int .u64) n f]]=>[(56,[(0,QgT f)])]
 |_=>[]
theorem Qe9:(Con.pure Xz).holds Tryd.prog 56:=by
 refine Qp (Γ:=[(75,.pure QO)]) Tryd.func56 rfl (by kernel_rfl) Qg Qc (fun W=>.cons (Qg0 W _) (.nil _ _ _)) Xz Qld 400 ?_
 intro W args hp
 unfold Xz at hp;dsimp only at hp;split at hp
 case h_2=>exact hp.elim
 rename_i n f
 obtain⟨rfl,hg,h0⟩:=hp
 refine⟨rfl,?_⟩
 refine Qh (q:=(∃(s0:Ann.σ (QgT f)),(eS (aP 0 0) (aP 0 0)/\eS (aP 1 0) (aP 1 0)/\eS (aP 2 0) (aP 2 0)/\eS (aI 0) (aI ↑s0.1)/\True)/\[SB.cells [nU 17 f] 83,SB.cells [nI 16 zF] 112,SB.cells [nI 16 zF] 112]=[SB.cells [nU 17 f] 83,SB.cells [nI 16 zF] 112,SB.cells [nI 16 s0.2] 112])/\∀(s:SlG f),bif decide ((↑s.1:Int)<(8:Int))then ((0:Int)<=IntKind.wrap .i64 ((2:Int)*(↑s.1:Int))/\IntKind.wrap .i64 ((2:Int)*(↑s.1:Int))<(17:Int))/\Int.toNat (IntKind.wrap .i64 ((2:Int)*(↑s.1:Int)))<17/\bif decide (f (Int.toNat (IntKind.wrap .i64 ((2:Int)*(↑s.1:Int))))>(1000:Int))then endP Xz [SA.a [nU 17 f]] (SV.t [SA.a [nI 16 s.2],aB false]) []else ((0:Int)<=IntKind.wrap .i64 (IntKind.wrap .i64 ((2:Int)*(↑s.1:Int))+(1:Int))/\IntKind.wrap .i64 (IntKind.wrap .i64 ((2:Int)*(↑s.1:Int))+(1:Int))<(17:Int))/\Int.toNat (IntKind.wrap .i64 (IntKind.wrap .i64 ((2:Int)*(↑s.1:Int))+(1:Int)))<17/\bif decide (f (Int.toNat (IntKind.wrap .i64 (IntKind.wrap .i64 ((2:Int)*(↑s.1:Int))+(1:Int))))>(4294967295:Int))then endP Xz [SA.a [nU 17 f]] (SV.t [SA.a [nI 16 s.2],aB false]) []else ((0:Int)<=IntKind.wrap .i64 ((2:Int)*(↑s.1:Int))/\IntKind.wrap .i64 ((2:Int)*(↑s.1:Int))<(17:Int))/\Int.toNat (IntKind.wrap .i64 ((2:Int)*(↑s.1:Int)))<17/\((0:Int)<=IntKind.wrap .i64 (IntKind.wrap .i64 ((2:Int)*(↑s.1:Int))+(1:Int))/\IntKind.wrap .i64 (IntKind.wrap .i64 ((2:Int)*(↑s.1:Int))+(1:Int))<(17:Int))/\Int.toNat (IntKind.wrap .i64 (IntKind.wrap .i64 ((2:Int)*(↑s.1:Int))+(1:Int)))<17/\(iR (↑s.1:Int) (8:Int))/\0+Int.toNat (↑s.1:Int)+Int.toNat (↑s.1:Int)+1+1<=16/\dP Tryd.f56 7 3 [⟨14,[],[2],[],false⟩,xF 13 2,xE 12,xE 11,xR 10 0,xF 9 0,xE 8,xE 7,xE 6,xE 5,xR 4 0,xF 3 0,xE 2,xE 1,xE 0]/\∃(s':SlG f),((eS (aP 0 0) (aP 0 0)/\eS (aP 1 0) (aP 1 0)/\eS (aP 2 0) (aP 2 0)/\eS (aI (IntKind.wrap .i64 ((↑s.1:Int)+(1:Int)))) (aI ↑s'.1)/\True)/\[SB.cells [nU 17 f] 83,SB.cells [nI 16 zF] 112,SB.cells [nI 16 fun (j:Nat)=>bif match Nat.ble (0+Int.toNat (↑s.1:Int)+Int.toNat (↑s.1:Int)) j with|false=>false|true=>Nat.ble j (0+Int.toNat (↑s.1:Int)+Int.toNat (↑s.1:Int)+1)then match List.get?Internal [IntKind.wrap .i64 (f (Int.toNat (IntKind.wrap .i64 ((2:Int)*(↑s.1:Int))))),IntKind.wrap .i64 (f (Int.toNat (IntKind.wrap .i64 (IntKind.wrap .i64 ((2:Int)*(↑s.1:Int))+(1:Int)))))] (j-(0+Int.toNat (↑s.1:Int)+Int.toNat (↑s.1:Int)))with|some x=>x|none=>(0:Int)else s.2 j] 112]=[SB.cells [nU 17 f] 83,SB.cells [nI 16 zF] 112,SB.cells [nI 16 s'.2] 112])/\8-s'.1<8-s.1 else (iR (16:Int) (17:Int))/\16<17/\bif f 16==(0:Int)then (16=16/\Good (toN 16 s.2))/\dP Tryd.f56 9 3 [xE 9,⟨8,[],[1],[],false⟩,xE 7,xE 6,xR 5 2,xE 4,xE 3,xR 2 0,xF 1 0,xR 0 2]/\endP Xz [SA.a [nU 17 f]] (SV.t [SA.a [nI 16 s.2],aB true]) []else dP Tryd.f56 9 3 [xE 9,⟨8,[],[1],[],false⟩,xE 7,xE 6,xE 5,xE 4,xE 3,xR 2 0,xF 1 0,xR 0 2]/\endP Xz [SA.a [nU 17 f]] (SV.t [SA.a [nI 16 s.2],aB false]) []) (by kernel_rfl) ?_
 refine⟨⟨⟨0,fun _=>0,by omega,fun j hj=>by omega⟩,⟨rfl,rfl,rfl,rfl,trivial⟩,rfl⟩,?_⟩
 rintro⟨i,g,hi,hg'⟩
 dsimp only at hi hg' ⊢
 refine Qi (fun hlt=>?_) (fun hge=>?_)
 · have e1:IntKind.wrap .i64 ((2:Int)*(i:Int))=((2*i:Nat):Int):=by rw[Q8 (by omega) (by omega)];omega
   rw[e1,sucI (by omega),Int.toNat_natCast,Int.toNat_natCast]
   have hi8:i<8:=by omega
   have fk:f (2*i)=tk (toN 16 f) i:=by unfold tk;rw[QJ (by omega),Nat.mul_comm]
   have fv:f (2*i+1)=tv (toN 16 f) i:=by unfold tv;rw[QJ (by omega),Nat.mul_comm]
   have k0:=hg.key0 i hi8
   have k1:=hg.key1 i hi8
   have v0:=hg.val0 i hi8
   have v1:=hg.val1 i hi8
   refine⟨⟨by omega,by omega⟩,by omega,Qi (fun h=>absurd h (by omega)) (fun _=>⟨⟨by omega,by omega⟩,by omega,Qi (fun h=>absurd h (by omega)) (fun _=>⟨⟨by omega,by omega⟩,by omega,⟨by omega,by omega⟩,by omega,⟨by omega,by omega⟩,by omega,Qd (by kernel_rfl),⟨i+1,_,by omega,?_⟩,⟨⟨rfl,rfl,rfl,svI (sucI (by omega)),trivial⟩,rfl⟩,by dsimp only;omega⟩)⟩)⟩
   intro j hj
   rw[Int.toNat_natCast]
   refine (Qgl g i j _ _).trans ?_
   rw[Q8 (by omega) (by omega),Q8 (by omega) (by omega)]
   by_cases h1:j=i*2+1
   · rw[if_pos h1,h1,Nat.mul_comm]
   · rw[if_neg h1]
     by_cases h2:j=i*2
     · rw[if_pos h2,h2,Nat.mul_comm]
     · rw[if_neg h2];exact hg' j (by omega)
 · obtain rfl:i=8:=by omega
   have e:toN 16 g=toN 16 f:=Qdi fun j hj=>hg' j (by omega)
   rw[h0]
   refine⟨⟨by omega,by omega⟩,by omega,Qar (fun _=>⟨⟨rfl,by rw[e];exact hg⟩,Qd (by kernel_rfl),rfl,fun ρ=>?_⟩) (fun h=>absurd rfl h)⟩
   simp only[PCon.out,Xz,SV.den,List.map_cons,List.map_nil]
   rw[Xv (f:=g) (g:=fL (toN 16 f)) (fun i hi=>by rw[QcT hi];exact hg' i (by omega))]
def Qde:PCon:=⟨fun args=>match args with
 |[.c (.v (.int .i64 n)),.a [.one (.v (.int .i64 k)),.one (.v (.int .i64 key)),.one (.v (.int .i64 x))]]=>0<=n/\n<=4294967295/\opOk k key x=true
 |_=>False,fun args=>match args with
 |[.c (.v (.int .i64 n)),.a [.one (.v (.int .i64 k)),.one (.v (.int .i64 key)),.one (.v (.int .i64 x))]]=>
  .t [.c (.v (.int .i64 (QT n k x))),ansA (Q6 n k x) (Xd n k x)]
 |_=>sv undef,fun _=>none⟩
theorem QhJ:(Con.pure Qde).holds Tryd.prog 58:=by
 refine Qm (AG:=[]) (Γ:=[]) Tryd.func58 rfl (by kernel_rfl) Qg Qc (fun _=>GamOk.nil _ _ _) Qde 400 ?_
 intro W args hp
 unfold Qde at hp;dsimp only at hp;split at hp
 case h_2=>exact hp.elim
 rename_i n k key x
 obtain⟨h0,h1,ho⟩:=hp
 refine⟨rfl,?_⟩
 have ho:=of_decide_eq_true ho
 have hk:k=1\/k=2\/k=3\/k=4\/k=5\/k=6:=by omega
 rcases hk with rfl|rfl|rfl|rfl|rfl|rfl
 ·
  refine Qh (q:=bif decide (x>IntKind.wrap .i64 ((4294967295:Int)-n))then SV.t [aI n,SA.a [sI 3,sI 0]]=SV.t [aI (QT n (1:Int) x),SA.a [sI (Q6 n (1:Int) x),sI (Xd n (1:Int) x)]]/\true=true else SV.t [aI (IntKind.wrap .i64 (n+x)),SA.a [sI 1,sI n]]=SV.t [aI (QT n (1:Int) x),SA.a [sI (Q6 n (1:Int) x),sI (Xd n (1:Int) x)]]/\true=true) (by kernel_rfl) ?_
  rw[Q8 (by omega) (by omega)]
  refine Qi (fun h=>⟨?_,rfl⟩) (fun h=>?_)
  · unfold QT Q6 Xd;rw[if_pos rfl,if_pos rfl,if_pos rfl,if_pos (by omega),if_pos (by omega),if_pos (by omega)]
  · rw[Q8 (by omega) (by omega)]
    refine⟨?_,rfl⟩
    unfold QT Q6 Xd;rw[if_pos rfl,if_pos rfl,if_pos rfl,if_neg (by omega),if_neg (by omega),if_neg (by omega)]
 ·
  refine Qh (q:=bif decide (x>n)then SV.t [aI n,SA.a [sI 2,sI 0]]=SV.t [aI (QT n (2:Int) x),SA.a [sI (Q6 n (2:Int) x),sI (Xd n (2:Int) x)]]/\true=true else SV.t [aI (IntKind.wrap .i64 (n-x)),SA.a [sI 1,sI n]]=SV.t [aI (QT n (2:Int) x),SA.a [sI (Q6 n (2:Int) x),sI (Xd n (2:Int) x)]]/\true=true) (by kernel_rfl) ?_
  refine Qi (fun h=>⟨?_,rfl⟩) (fun h=>?_)
  · rw[show QT n 2 x=n from by unfold QT;rw[if_neg (by decide),if_pos rfl,if_pos (by omega)],show Q6 n 2 x=2 from by unfold Q6;rw[if_neg (by decide),if_pos rfl,if_pos (by omega)],show Xd n 2 x=0 from by unfold Xd;rw[if_neg (by decide),if_pos rfl,if_pos (by omega)]]
  · rw[Q8 (by omega) (by omega),show QT n 2 x=n-x from by unfold QT;rw[if_neg (by decide),if_pos rfl,if_neg (by omega)],show Q6 n 2 x=1 from by unfold Q6;rw[if_neg (by decide),if_pos rfl,if_neg (by omega)],show Xd n 2 x=n from by unfold Xd;rw[if_neg (by decide),if_pos rfl,if_neg (by omega)]]
    exact⟨rfl,rfl⟩
 ·
  refine Qh (q:=SV.t [aI n,SA.a [sI 5,sI 0]]=SV.t [aI (QT n (3:Int) x),SA.a [sI (Q6 n (3:Int) x),sI (Xd n (3:Int) x)]]/\true=true) (by kernel_rfl) ?_
  exact⟨rfl,rfl⟩
 ·
  refine Qh (q:=SV.t [aI n,SA.a [sI 5,sI 0]]=SV.t [aI (QT n (4:Int) x),SA.a [sI (Q6 n (4:Int) x),sI (Xd n (4:Int) x)]]/\true=true) (by kernel_rfl) ?_
  exact⟨rfl,rfl⟩
 ·
  refine Qh (q:=SV.t [aI n,SA.a [sI 1,sI n]]=SV.t [aI (QT n (5:Int) x),SA.a [sI (Q6 n (5:Int) x),sI (Xd n (5:Int) x)]]/\true=true) (by kernel_rfl) ?_
  exact⟨rfl,rfl⟩
 ·
  refine Qh (q:=SV.t [aI n,SA.a [sI 1,sI n]]=SV.t [aI (QT n (6:Int) x),SA.a [sI (Q6 n (6:Int) x),sI (Xd n (6:Int) x)]]/\true=true) (by kernel_rfl) ?_
  exact⟨rfl,rfl⟩
def QjW:PCon:=⟨fun args=>match args with
 |[.c (.v (.int .i64 n))]=>True
 |_=>False,fun args=>match args with
 |[.c (.v (.int .i64 n))]=>sv (.bool (decide (1<=n/\n<=6)))
 |_=>sv undef,fun _=>none⟩
theorem is_con:(Con.pure QjW).holds Tryd.prog 39:=by
 refine Qm (AG:=[]) (Γ:=[]) Tryd.func39 rfl (by kernel_rfl) Qg Qc (fun _=>GamOk.nil _ _ _) QjW 400 ?_
 intro W args hp
 unfold QjW at hp;dsimp only at hp;split at hp
 case h_2=>exact hp.elim
 rename_i n
 refine⟨rfl,?_⟩
 refine Qh (q:=bif decide (n>=(1:Int))then SV.o (aB (decide (n<=(6:Int))))=SV.o (aB (decide ((1:Int)<=n/\n<=(6:Int))))/\true=true else SV.o (aB false)=SV.o (aB (decide ((1:Int)<=n/\n<=(6:Int))))/\true=true) (by kernel_rfl) ?_
 exact Qi (fun h=>⟨svB (by rw[decide_eq_decide];omega),rfl⟩) (fun h=>⟨svB (by symm;rw[decide_eq_false_iff_not];omega),rfl⟩)
def QaF:PCon:=⟨fun args=>match args with
 |[.a [.one (.v (.int .i64 a)),.one (.v (.int .i64 b)),.one (.v (.int .i64 c))]]=>True
 |_=>False,fun args=>match args with
 |[.a [.one (.v (.int .i64 a)),.one (.v (.int .i64 b)),.one (.v (.int .i64 c))]]=>sv (.bool (opOk a b c))
 |_=>sv undef,fun _=>none⟩
theorem Qg7:(Con.pure QaF).holds Tryd.prog 55:=by
 refine Qm (AG:=[]) (Γ:=[]) Tryd.func55 rfl (by kernel_rfl) Qg Qc (fun _=>GamOk.nil _ _ _) QaF 400 ?_
 intro W args hp
 unfold QaF at hp;dsimp only at hp;split at hp
 case h_2=>exact hp.elim
 rename_i a b c
 refine⟨rfl,?_⟩
 refine Qh (q:=bif decide (a>=(1:Int))then bif decide (a<=(6:Int))then bif decide (b>=(0:Int))then bif decide (b<=(1000:Int))then bif decide (c>=(0:Int))then SV.o (aB (decide (c<=(4294967295:Int))))=SV.o (aB (opOk a b c))/\true=true else SV.o (aB false)=SV.o (aB (opOk a b c))/\true=true else SV.o (aB false)=SV.o (aB (opOk a b c))/\true=true else SV.o (aB false)=SV.o (aB (opOk a b c))/\true=true else SV.o (aB false)=SV.o (aB (opOk a b c))/\true=true else SV.o (aB false)=SV.o (aB (opOk a b c))/\true=true) (by kernel_rfl) ?_
 repeat' (first|refine Qi (fun _=>?_) (fun _=>?_)|refine And.intro ?_ ?_)
 all_goals (first|rfl|(refine svB ?_;unfold opOk;first|(rw[decide_eq_decide];omega)|(symm;rw[decide_eq_false_iff_not];omega)))
def Qce:PCon:=⟨fun args=>match args with
 |[.c (.v (.int .i64 k)),.a [.ints (.int .u64) n f]]=>n=17/\ObjForm k (toN 17 f)
 |_=>False,fun args=>match args with
 |[.c (.v (.int .i64 k)),.a [.ints (.int .u64) n f]]=>sv (.bool (Xo k (toN 17 f)))
 |_=>sv undef,fun _=>none⟩
theorem Qfg:(Con.pure Qce).holds Tryd.prog 46:=by
 refine Qm (AG:=[]) (Γ:=[(59,.mem Qbe),(66,.mem QaG),(56,.pure Xz)]) Tryd.func46 rfl (by kernel_rfl) Qg Qc (fun W=>.cons (QgC W _) (.cons (Qhm W _) (.cons (Qe9 W _) (.nil _ _ _)))) Qce 400 ?_
 intro W args hp
 unfold Qce at hp;dsimp only at hp;split at hp
 case h_2=>exact hp.elim
 rename_i k n f
 obtain⟨rfl,h⟩:=hp
 refine⟨rfl,?_⟩
 have hk:k=1\/k=2\/k=3\/k=4\/k=5\/k=6:=by
  rcases h with (⟨h1,h2,-⟩|⟨h1,-⟩|⟨h1,-⟩)|⟨h1,-⟩<;>omega
 rcases hk with rfl|rfl|rfl|rfl|rfl|rfl
 ·
  refine Qh (q:=∃(s:QbY),[SA.a [nU 17 f]]=[SA.a [nU 17 s.1]]/\eN/\(toN 17 s.1=lstC s.2/\List.length s.2<=6/\InR s.2)/\∀(x:LstR),(List.length s.2<=x.1/\x.1<=x.2)/\IsL x.4 s.2->SV.o (aB true)=SV.o (aB (Xo (1:Int) (toN 17 f)))/\true=true) (by kernel_rfl) ?_
  obtain⟨l,e,h1,h2,-⟩:=h.list (by decide) (by decide)
  exact⟨⟨f,l⟩,rfl,rfl,⟨e,h1,h2⟩,fun _ _=>⟨rfl,rfl⟩⟩
 ·
  refine Qh (q:=∃(s:QbY),[SA.a [nU 17 f]]=[SA.a [nU 17 s.1]]/\eN/\(toN 17 s.1=lstC s.2/\List.length s.2<=6/\InR s.2)/\∀(x:LstR),(List.length s.2<=x.1/\x.1<=x.2)/\IsL x.4 s.2->SV.o (aB true)=SV.o (aB (Xo (2:Int) (toN 17 f)))/\true=true) (by kernel_rfl) ?_
  obtain⟨l,e,h1,h2,-⟩:=h.list (by decide) (by decide)
  exact⟨⟨f,l⟩,rfl,rfl,⟨e,h1,h2⟩,fun _ _=>⟨rfl,rfl⟩⟩
 ·
  refine Qh (q:=∃(s:QbY),[SA.a [nU 17 f]]=[SA.a [nU 17 s.1]]/\eN/\(toN 17 s.1=lstC s.2/\List.length s.2<=6/\InR s.2)/\∀(x:LstR),(List.length s.2<=x.1/\x.1<=x.2)/\IsL x.4 s.2->SV.o (aB true)=SV.o (aB (Xo (3:Int) (toN 17 f)))/\true=true) (by kernel_rfl) ?_
  obtain⟨l,e,h1,h2,-⟩:=h.list (by decide) (by decide)
  exact⟨⟨f,l⟩,rfl,rfl,⟨e,h1,h2⟩,fun _ _=>⟨rfl,rfl⟩⟩
 ·
  refine Qh (q:=∃(s:QbY),[SA.a [nU 17 f]]=[SA.a [nU 17 s.1]]/\eN/\(toN 17 s.1=lstC s.2/\List.length s.2<=6/\InR s.2)/\∀(x:LstR),(List.length s.2<=x.1/\x.1<=x.2)/\IsL x.4 s.2->∃(s_1:UpS),[SA.c (.so 1 0 1 (List.length s.2) x.2 x.3)]=[SA.c (.so 1 0 1 (List.length s_1.1) s_1.3 s_1.4)]/\[SB.rows 3 [.int .i64] 1 x.1 x.2 x.4]=[SB.rows 3 [.int .i64] 1 s_1.2 s_1.3 s_1.5]/\(List.length s_1.1<=1000/\List.length s_1.1<=s_1.2/\s_1.2<=s_1.3/\IsL s_1.5 s_1.1)/\∀(x:Unit),True->SV.o (aB (Qc3 s_1.1))=SV.o (aB (Xo (4:Int) (toN 17 f)))/\true=true) (by kernel_rfl) ?_
  obtain⟨l,e,h1,h2,-⟩:=h.list (by decide) (by decide)
  refine⟨⟨f,l⟩,rfl,rfl,⟨e,h1,h2⟩,fun y hy=>⟨⟨l,y.1,y.2,y.3,y.4⟩,rfl,rfl,⟨Nat.le_trans h1 (by decide),hy.1.1,hy.1.2,hy.2⟩,fun _ _=>⟨svB ?_,rfl⟩⟩⟩
  show Qc3 l=Qc3 (((toN 17 f).drop 1).take ((toN 17 f).getD 0 0).toNat)
  rw[e,QdD]
 ·
  refine Qh (q:=(17=17/\Good (toN 16 f)/\f 16=(0:Int))/\SV.o (aB true)=SV.o (aB (Xo (5:Int) (toN 17 f)))/\true=true) (by kernel_rfl) ?_
  obtain⟨g,h0⟩:=h.tab
  exact⟨⟨rfl,g,h0⟩,rfl,rfl⟩
 ·
  refine Qh (q:=(iR (0:Int) (17:Int))/\0<17/\bif decide (f 0<=(4294967295:Int))then (iR (0:Int) (17:Int))/\0<17/\SV.o (aB (bif decide ([f 0,f 1,f 2,f 3,f 4,f 5,f 6,f 7,f 8,f 9,f 10,f 11,f 12,f 13,f 14,f 15,f 16]=[f 0,(0:Int),(0:Int),(0:Int),(0:Int),(0:Int),(0:Int),(0:Int),(0:Int),(0:Int),(0:Int),(0:Int),(0:Int),(0:Int),(0:Int),(0:Int),(0:Int)])then true else false))=SV.o (aB (Xo (6:Int) (toN 17 f)))/\true=true else SV.o (aB false)=SV.o (aB (Xo (6:Int) (toN 17 f)))/\true=true) (by kernel_rfl) ?_
  obtain⟨h0,h1,z⟩:=h.tally
  rw[z 1 (by decide) (by decide),z 2 (by decide) (by decide),z 3 (by decide) (by decide),z 4 (by decide) (by decide),z 5 (by decide) (by decide),z 6 (by decide) (by decide),z 7 (by decide) (by decide),z 8 (by decide) (by decide),z 9 (by decide) (by decide),z 10 (by decide) (by decide),z 11 (by decide) (by decide),z 12 (by decide) (by decide),z 13 (by decide) (by decide),z 14 (by decide) (by decide),z 15 (by decide) (by decide),z 16 (by decide) (by decide)]
  refine⟨⟨by decide,by decide⟩,by decide,Qi (fun _=>⟨⟨by decide,by decide⟩,by decide,svB ?_,rfl⟩) (fun h=>absurd h1 h)⟩
  rw[decide_eq_true rfl];rfl
def XD:PCon:=⟨fun args=>match args with
 |[.c (.v (.int .i64 k)),.a [.ints (.int .u64) n f],.a [.one (.v (.int .i64 w)),.one (.v (.int .i64 key)),.one (.v (.int .i64 x))]]=>n=17/\QbX k (toN 17 f)
 |_=>False,fun args=>match args with
 |[.c (.v (.int .i64 k)),.a [.ints (.int .u64) n f],.a [.one (.v (.int .i64 w)),.one (.v (.int .i64 key)),.one (.v (.int .i64 x))]]=>
  .t [Qcj (fL (objR k (toN 17 f) w key x).1),ansA (objR k (toN 17 f) w key x).2.1 (objR k (toN 17 f) w key x).2.2,.c (.v .nilIface)]
 |_=>sv undef,fun args=>match args with
 |[.c (.v (.int .i64 k)),.a [.ints (.int .u64) n f],.a [.one (.v (.int .i64 w)),.one (.v (.int .i64 key)),.one (.v (.int .i64 x))]]=>
  some (opOk w key x,.t [Qcj (fun _=>0),ansA 0 0,.c (.v (.iface 64 (.int .i64 1)))])
 |_=>none⟩
theorem QcK (k:Int) (f f':Nat->Int) (w key x c v:Int) (M:List SB) (ho:opOk w key x=true) (d:List Int) (h:objR k (toN 17 f) w key x=(d,c,v)) (e:∀i,i<17->f' i=fL d i):
 endP XD [.c (.v (.int .i64 k)),Qcj f,opA w key x] (.t [Qcj f',ansA c v,.c (.v .nilIface)]) M:=by
 refine⟨rfl,fun ρ=>?_⟩
 simp only[PCon.out,XD,ho,cond_true,SV.den,List.map_cons,List.map_nil]
 rw[h,Xv e]
theorem Qek (k:Int) (f:Nat->Int) (w key x:Int) (M:List SB) (ho:¬opOk w key x=true):
 endP XD [.c (.v (.int .i64 k)),Qcj f,opA w key x] (.t [Qcj (fun _=>0),ansA 0 0,.c (.v (.iface 64 (.int .i64 1)))]) M:=by
 refine⟨rfl,fun ρ=>?_⟩
 simp only[PCon.out,XD,Bool.not_eq_true]at *
 rw[ho];rfl
structure DoG (d:List Int) where
 i:Nat
 g:Nat->Int
 hi:i<=8
 h1:∀j,j<2*i->g j=fL d j
 h2:∀j,2*i<=j->g j=0
def annDo (d:List Int) (c v:Int):Ann where
 σ:=DoG d
 I g:=([(6,.o (.c (.p 0 0))),(7,.o (.c (.p 1 0))),(11,.o (.c (.p 2 0))),(12,.o (.c (.p 3 0))),(47,.o (.a [.ints (.int .i64) 16 (fL d)])),(48,sv (.int .i64 g.i))],
   [QdS (fun _=>0),.cells [.one (.v (.int .i64 0)),.one (.v (.int .i64 0))] 47,.cells [.one (.v (.int .i64 c)),.one (.v (.int .i64 v))] 47,QdS g.g])
 dec g:=8-g.i
 pi env _:=[blkE env 6,blkE env 7,blkE env 11,blkE env 12]
 nz:=[]
def agDo:List SA->List (Nat × Anns)
 |[_,.a [.ints (.int .u64) n f],.a [.one (.v (.int .i64 w)),.one (.v (.int .i64 key)),.one (.v (.int .i64 x))]]=>[(40,[(1,annDo (doT (toN 16 f) w key x).1 (doT (toN 16 f) w key x).2.1 (doT (toN 16 f) w key x).2.2)])]
 |_=>[]
theorem do_con:(Con.pure XD).holds Tryd.prog 40:=by
 refine Qp (Γ:=[(55,.pure QaF),(46,.pure Qce),(56,.pure Xz),(57,.pure QQ),(58,.pure Qde),(59,.mem Qbe),(64,.mem Qcf),(60,.mem (Ql queR)),(61,.mem (Ql stkR)),(62,.mem (Ql deqR)),(63,.mem (Ql QM))]) Tryd.func40 rfl (by kernel_rfl) Qg Qc
  (fun W=>.cons (Qg7 W _) (.cons (Qfg W _) (.cons (Qe9 W _) (.cons (Qku W _) (.cons (QhJ W _) (.cons (QgC W _) (.cons (Qhd W _) (.cons (Qh7 W _) (.cons (QhS W _) (.cons (QiN W _) (.cons (QjK W _) (.nil _ _ _)))))))))))) XD agDo 1000 ?_
 intro W args hp
 unfold XD at hp;dsimp only at hp;split at hp
 case h_2=>exact hp.elim
 rename_i k n f w key x
 obtain⟨rfl,h⟩:=hp
 refine⟨rfl,?_⟩
 have hk:k=1\/k=2\/k=3\/k=4\/k=5\/k=6:=by
  rcases h with⟨h1,h2,-⟩|⟨h1,-⟩|⟨h1,-⟩<;>omega
 rcases hk with rfl|rfl|rfl|rfl|rfl|rfl
 ·
  refine Qh (q:=True/\bif bif opOk w key x then false else true then endP XD [aI 1,SA.a [nU 17 f],SA.a [sI w,sI key,sI x]] (SV.t [SA.a [nU 17 zF],SA.a [sI 0,sI 0],SA.c (.v (.iface 64 (Value.int .i64 (1:Int))))]) []else (17=17/\ObjForm (1:Int) (toN 17 f))/\bif bif Xo (1:Int) (toN 17 f)then false else true then endP XD [aI 1,SA.a [nU 17 f],SA.a [sI w,sI key,sI x]] (SV.t [SA.a [nU 17 zF],SA.a [sI 0,sI 0],SA.c (.v (.iface 64 (Value.int .i64 (1:Int))))]) []else ∃(s:QbY),[SA.a [nU 17 f]]=[SA.a [nU 17 s.1]]/\eN/\(toN 17 s.1=lstC s.2/\List.length s.2<=6/\InR s.2)/\∀(x_1:LstR),(List.length s.2<=x_1.1/\x_1.1<=x_1.2)/\IsL x_1.4 s.2->∃(s_1:LstS),[SA.c (.so 4 0 1 (List.length s.2) x_1.2 x_1.3),SA.a [sI w,sI key,sI x]]=[SA.c (.so 4 0 1 (List.length s_1.1) s_1.3 s_1.4),SA.a [sI s_1.6,sI s_1.7,sI s_1.8]]/\[SB.rows 3 [.int .i64] 1 x_1.1 x_1.2 x_1.4]=[SB.rows 3 [.int .i64] 1 s_1.2 s_1.3 s_1.5]/\(List.length s_1.1<=6/\(List.length s_1.1<=s_1.2/\s_1.2<=s_1.3)/\IsL s_1.5 s_1.1/\InR s_1.1/\(1:Int)<=s_1.6/\s_1.6<=(6:Int))/\∀(x_2:LstR),(List.length (queR (LstS.l s_1) (LstS.k s_1) (LstS.x s_1)).1<=x_2.1/\x_2.1<=x_2.2)/\IsL x_2.4 (queR (LstS.l s_1) (LstS.k s_1) (LstS.x s_1)).1->∃(s:UpS),[SA.c (.so 6 0 1 (List.length (queR (LstS.l s_1) (LstS.k s_1) (LstS.x s_1)).1) x_2.2 x_2.3)]=[SA.c (.so 6 0 1 (List.length s.1) s.3 s.4)]/\[SB.rows 3 [.int .i64] 1 x_2.1 x_2.2 x_2.4]=[SB.rows 3 [.int .i64] 1 s.2 s.3 s.5]/\((List.length s.1<=1000/\List.length s.1<=s.2/\s.2<=s.3/\IsL s.5 s.1)/\List.length s.1<=6/\InR s.1)/\∀(x_3:Unit),True->dP Tryd.f40 20 8 [xE 5,⟨4,[],[3],[],false⟩,⟨3,[],[2],[],false⟩,xR 2 7,⟨1,[],[6],[],false⟩,xF 0 6]/\endP XD [aI 1,SA.a [nU 17 f],SA.a [sI w,sI key,sI x]] (SV.t [SA.a [nU 17 (fL (lstC s.1))],SA.a [sI (Prod.snd (queR (LstS.l s_1) (LstS.k s_1) (LstS.x s_1))).1,sI (Prod.snd (queR (LstS.l s_1) (LstS.k s_1) (LstS.x s_1))).2],SA.c (.v Value.nilIface)]) []) (by kernel_rfl) ?_
  obtain⟨l,e,h1,h2,h3⟩:=(ObjForm.list (.inl h) (by decide) (by decide))
  refine⟨trivial,Qau (fun ho=>Qek _ _ _ _ _ _ (by rw[ho];decide)) (fun ho=>⟨⟨rfl,.inl h⟩,Qau (fun hr=>?_) (fun _=>?_)⟩)⟩
  · cases hr
  have hw:=of_decide_eq_true ho
  have hl:=(Qh8 l w x h1 h2 hw.2.2.2.2.1 hw.2.2.2.2.2 ⟨hw.1,hw.2.1⟩).1
  refine⟨⟨f,l⟩,rfl,rfl,⟨e,h1,h2⟩,fun y hy=>⟨⟨l,y.1,y.2,y.3,y.4,w,key,x⟩,rfl,rfl,⟨h1,hy.1,hy.2,h2,hw.1,hw.2.1⟩,fun q hq=>⟨⟨(queR l w x).1,q.1,q.2,q.3,q.4⟩,rfl,rfl,⟨⟨Nat.le_trans hl.len (by decide),hq.1.1,hq.1.2,hq.2⟩,hl.len,hl.inr⟩,fun _ _=>⟨Qd (by kernel_rfl),QcK _ _ _ _ _ _ _ _ _ ho _ ?_ (fun _ _=>rfl)⟩⟩⟩⟩
  rw[e,Qax 1 l w key x (by decide) (by decide)]
  unfold lstR;rw[if_pos rfl]
 ·
  refine Qh (q:=True/\bif bif opOk w key x then false else true then endP XD [aI 2,SA.a [nU 17 f],SA.a [sI w,sI key,sI x]] (SV.t [SA.a [nU 17 zF],SA.a [sI 0,sI 0],SA.c (.v (.iface 64 (Value.int .i64 (1:Int))))]) []else (17=17/\ObjForm (2:Int) (toN 17 f))/\bif bif Xo (2:Int) (toN 17 f)then false else true then endP XD [aI 2,SA.a [nU 17 f],SA.a [sI w,sI key,sI x]] (SV.t [SA.a [nU 17 zF],SA.a [sI 0,sI 0],SA.c (.v (.iface 64 (Value.int .i64 (1:Int))))]) []else ∃(s:QbY),[SA.a [nU 17 f]]=[SA.a [nU 17 s.1]]/\eN/\(toN 17 s.1=lstC s.2/\List.length s.2<=6/\InR s.2)/\∀(x_1:LstR),(List.length s.2<=x_1.1/\x_1.1<=x_1.2)/\IsL x_1.4 s.2->∃(s_1:LstS),[SA.c (.so 4 0 1 (List.length s.2) x_1.2 x_1.3),SA.a [sI w,sI key,sI x]]=[SA.c (.so 4 0 1 (List.length s_1.1) s_1.3 s_1.4),SA.a [sI s_1.6,sI s_1.7,sI s_1.8]]/\[SB.rows 3 [.int .i64] 1 x_1.1 x_1.2 x_1.4]=[SB.rows 3 [.int .i64] 1 s_1.2 s_1.3 s_1.5]/\(List.length s_1.1<=6/\(List.length s_1.1<=s_1.2/\s_1.2<=s_1.3)/\IsL s_1.5 s_1.1/\InR s_1.1/\(1:Int)<=s_1.6/\s_1.6<=(6:Int))/\∀(x_2:LstR),(List.length (stkR (LstS.l s_1) (LstS.k s_1) (LstS.x s_1)).1<=x_2.1/\x_2.1<=x_2.2)/\IsL x_2.4 (stkR (LstS.l s_1) (LstS.k s_1) (LstS.x s_1)).1->∃(s:UpS),[SA.c (.so 6 0 1 (List.length (stkR (LstS.l s_1) (LstS.k s_1) (LstS.x s_1)).1) x_2.2 x_2.3)]=[SA.c (.so 6 0 1 (List.length s.1) s.3 s.4)]/\[SB.rows 3 [.int .i64] 1 x_2.1 x_2.2 x_2.4]=[SB.rows 3 [.int .i64] 1 s.2 s.3 s.5]/\((List.length s.1<=1000/\List.length s.1<=s.2/\s.2<=s.3/\IsL s.5 s.1)/\List.length s.1<=6/\InR s.1)/\∀(x_3:Unit),True->dP Tryd.f40 20 8 [xE 5,⟨4,[],[3],[],false⟩,⟨3,[],[2],[],false⟩,xR 2 7,⟨1,[],[6],[],false⟩,xF 0 6]/\endP XD [aI 2,SA.a [nU 17 f],SA.a [sI w,sI key,sI x]] (SV.t [SA.a [nU 17 (fL (lstC s.1))],SA.a [sI (Prod.snd (stkR (LstS.l s_1) (LstS.k s_1) (LstS.x s_1))).1,sI (Prod.snd (stkR (LstS.l s_1) (LstS.k s_1) (LstS.x s_1))).2],SA.c (.v Value.nilIface)]) []) (by kernel_rfl) ?_
  obtain⟨l,e,h1,h2,h3⟩:=(ObjForm.list (.inl h) (by decide) (by decide))
  refine⟨trivial,Qau (fun ho=>Qek _ _ _ _ _ _ (by rw[ho];decide)) (fun ho=>⟨⟨rfl,.inl h⟩,Qau (fun hr=>?_) (fun _=>?_)⟩)⟩
  · cases hr
  have hw:=of_decide_eq_true ho
  have hl:=(QhQ l w x h1 h2 hw.2.2.2.2.1 hw.2.2.2.2.2 ⟨hw.1,hw.2.1⟩).1
  refine⟨⟨f,l⟩,rfl,rfl,⟨e,h1,h2⟩,fun y hy=>⟨⟨l,y.1,y.2,y.3,y.4,w,key,x⟩,rfl,rfl,⟨h1,hy.1,hy.2,h2,hw.1,hw.2.1⟩,fun q hq=>⟨⟨(stkR l w x).1,q.1,q.2,q.3,q.4⟩,rfl,rfl,⟨⟨Nat.le_trans hl.len (by decide),hq.1.1,hq.1.2,hq.2⟩,hl.len,hl.inr⟩,fun _ _=>⟨Qd (by kernel_rfl),QcK _ _ _ _ _ _ _ _ _ ho _ ?_ (fun _ _=>rfl)⟩⟩⟩⟩
  rw[e,Qax 2 l w key x (by decide) (by decide)]
  unfold lstR;rw[if_neg (by decide),if_pos rfl]
 ·
  refine Qh (q:=True/\bif bif opOk w key x then false else true then endP XD [aI 3,SA.a [nU 17 f],SA.a [sI w,sI key,sI x]] (SV.t [SA.a [nU 17 zF],SA.a [sI 0,sI 0],SA.c (.v (.iface 64 (Value.int .i64 (1:Int))))]) []else (17=17/\ObjForm (3:Int) (toN 17 f))/\bif bif Xo (3:Int) (toN 17 f)then false else true then endP XD [aI 3,SA.a [nU 17 f],SA.a [sI w,sI key,sI x]] (SV.t [SA.a [nU 17 zF],SA.a [sI 0,sI 0],SA.c (.v (.iface 64 (Value.int .i64 (1:Int))))]) []else ∃(s:QbY),[SA.a [nU 17 f]]=[SA.a [nU 17 s.1]]/\eN/\(toN 17 s.1=lstC s.2/\List.length s.2<=6/\InR s.2)/\∀(x_1:LstR),(List.length s.2<=x_1.1/\x_1.1<=x_1.2)/\IsL x_1.4 s.2->∃(s_1:LstS),[SA.c (.so 4 0 1 (List.length s.2) x_1.2 x_1.3),SA.a [sI w,sI key,sI x]]=[SA.c (.so 4 0 1 (List.length s_1.1) s_1.3 s_1.4),SA.a [sI s_1.6,sI s_1.7,sI s_1.8]]/\[SB.rows 3 [.int .i64] 1 x_1.1 x_1.2 x_1.4]=[SB.rows 3 [.int .i64] 1 s_1.2 s_1.3 s_1.5]/\(List.length s_1.1<=6/\(List.length s_1.1<=s_1.2/\s_1.2<=s_1.3)/\IsL s_1.5 s_1.1/\InR s_1.1/\(1:Int)<=s_1.6/\s_1.6<=(6:Int))/\∀(x_2:LstR),(List.length (deqR (LstS.l s_1) (LstS.k s_1) (LstS.x s_1)).1<=x_2.1/\x_2.1<=x_2.2)/\IsL x_2.4 (deqR (LstS.l s_1) (LstS.k s_1) (LstS.x s_1)).1->∃(s:UpS),[SA.c (.so 6 0 1 (List.length (deqR (LstS.l s_1) (LstS.k s_1) (LstS.x s_1)).1) x_2.2 x_2.3)]=[SA.c (.so 6 0 1 (List.length s.1) s.3 s.4)]/\[SB.rows 3 [.int .i64] 1 x_2.1 x_2.2 x_2.4]=[SB.rows 3 [.int .i64] 1 s.2 s.3 s.5]/\((List.length s.1<=1000/\List.length s.1<=s.2/\s.2<=s.3/\IsL s.5 s.1)/\List.length s.1<=6/\InR s.1)/\∀(x_3:Unit),True->dP Tryd.f40 20 8 [xE 5,⟨4,[],[3],[],false⟩,⟨3,[],[2],[],false⟩,xR 2 7,⟨1,[],[6],[],false⟩,xF 0 6]/\endP XD [aI 3,SA.a [nU 17 f],SA.a [sI w,sI key,sI x]] (SV.t [SA.a [nU 17 (fL (lstC s.1))],SA.a [sI (Prod.snd (deqR (LstS.l s_1) (LstS.k s_1) (LstS.x s_1))).1,sI (Prod.snd (deqR (LstS.l s_1) (LstS.k s_1) (LstS.x s_1))).2],SA.c (.v Value.nilIface)]) []) (by kernel_rfl) ?_
  obtain⟨l,e,h1,h2,h3⟩:=(ObjForm.list (.inl h) (by decide) (by decide))
  refine⟨trivial,Qau (fun ho=>Qek _ _ _ _ _ _ (by rw[ho];decide)) (fun ho=>⟨⟨rfl,.inl h⟩,Qau (fun hr=>?_) (fun _=>?_)⟩)⟩
  · cases hr
  have hw:=of_decide_eq_true ho
  have hl:=(QiO l w x h1 h2 hw.2.2.2.2.1 hw.2.2.2.2.2 ⟨hw.1,hw.2.1⟩).1
  refine⟨⟨f,l⟩,rfl,rfl,⟨e,h1,h2⟩,fun y hy=>⟨⟨l,y.1,y.2,y.3,y.4,w,key,x⟩,rfl,rfl,⟨h1,hy.1,hy.2,h2,hw.1,hw.2.1⟩,fun q hq=>⟨⟨(deqR l w x).1,q.1,q.2,q.3,q.4⟩,rfl,rfl,⟨⟨Nat.le_trans hl.len (by decide),hq.1.1,hq.1.2,hq.2⟩,hl.len,hl.inr⟩,fun _ _=>⟨Qd (by kernel_rfl),QcK _ _ _ _ _ _ _ _ _ ho _ ?_ (fun _ _=>rfl)⟩⟩⟩⟩
  rw[e,Qax 3 l w key x (by decide) (by decide)]
  unfold lstR;rw[if_neg (by decide),if_neg (by decide),if_pos rfl]
 ·
  refine Qh (q:=True/\bif bif opOk w key x then false else true then endP XD [aI 4,SA.a [nU 17 f],SA.a [sI w,sI key,sI x]] (SV.t [SA.a [nU 17 zF],SA.a [sI 0,sI 0],SA.c (.v (.iface 64 (Value.int .i64 (1:Int))))]) []else (17=17/\ObjForm (4:Int) (toN 17 f))/\bif bif Xo (4:Int) (toN 17 f)then false else true then endP XD [aI 4,SA.a [nU 17 f],SA.a [sI w,sI key,sI x]] (SV.t [SA.a [nU 17 zF],SA.a [sI 0,sI 0],SA.c (.v (.iface 64 (Value.int .i64 (1:Int))))]) []else ∃(s:QbY),[SA.a [nU 17 f]]=[SA.a [nU 17 s.1]]/\eN/\(toN 17 s.1=lstC s.2/\List.length s.2<=6/\InR s.2)/\∀(x_1:LstR),(List.length s.2<=x_1.1/\x_1.1<=x_1.2)/\IsL x_1.4 s.2->∃(s_1:LstS),[SA.c (.so 4 0 1 (List.length s.2) x_1.2 x_1.3),SA.a [sI w,sI key,sI x]]=[SA.c (.so 4 0 1 (List.length s_1.1) s_1.3 s_1.4),SA.a [sI s_1.6,sI s_1.7,sI s_1.8]]/\[SB.rows 3 [.int .i64] 1 x_1.1 x_1.2 x_1.4]=[SB.rows 3 [.int .i64] 1 s_1.2 s_1.3 s_1.5]/\(List.length s_1.1<=6/\(List.length s_1.1<=s_1.2/\s_1.2<=s_1.3)/\IsL s_1.5 s_1.1/\InR s_1.1/\(1:Int)<=s_1.6/\s_1.6<=(6:Int))/\∀(x_2:LstR),(List.length (QM (LstS.l s_1) (LstS.k s_1) (LstS.x s_1)).1<=x_2.1/\x_2.1<=x_2.2)/\IsL x_2.4 (QM (LstS.l s_1) (LstS.k s_1) (LstS.x s_1)).1->∃(s:UpS),[SA.c (.so 6 0 1 (List.length (QM (LstS.l s_1) (LstS.k s_1) (LstS.x s_1)).1) x_2.2 x_2.3)]=[SA.c (.so 6 0 1 (List.length s.1) s.3 s.4)]/\[SB.rows 3 [.int .i64] 1 x_2.1 x_2.2 x_2.4]=[SB.rows 3 [.int .i64] 1 s.2 s.3 s.5]/\((List.length s.1<=1000/\List.length s.1<=s.2/\s.2<=s.3/\IsL s.5 s.1)/\List.length s.1<=6/\InR s.1)/\∀(x_3:Unit),True->dP Tryd.f40 20 8 [xE 5,⟨4,[],[3],[],false⟩,⟨3,[],[2],[],false⟩,xR 2 7,⟨1,[],[6],[],false⟩,xF 0 6]/\endP XD [aI 4,SA.a [nU 17 f],SA.a [sI w,sI key,sI x]] (SV.t [SA.a [nU 17 (fL (lstC s.1))],SA.a [sI (Prod.snd (QM (LstS.l s_1) (LstS.k s_1) (LstS.x s_1))).1,sI (Prod.snd (QM (LstS.l s_1) (LstS.k s_1) (LstS.x s_1))).2],SA.c (.v Value.nilIface)]) []) (by kernel_rfl) ?_
  obtain⟨l,e,h1,h2,h3⟩:=(ObjForm.list (.inl h) (by decide) (by decide))
  refine⟨trivial,Qau (fun ho=>Qek _ _ _ _ _ _ (by rw[ho];decide)) (fun ho=>⟨⟨rfl,.inl h⟩,Qau (fun hr=>?_) (fun _=>?_)⟩)⟩
  · have hh:Xo 4 (toN 17 f)=Qc3 l:=by show Qc3 _=_;rw[e,QdD]
    rw[hh,(Qfs l).2 ⟨h3 rfl h,h1⟩]at hr;cases hr
  have hw:=of_decide_eq_true ho
  have hl:=(QgH l w x h1 h2 hw.2.2.2.2.1 hw.2.2.2.2.2 ⟨hw.1,hw.2.1⟩).1
  refine⟨⟨f,l⟩,rfl,rfl,⟨e,h1,h2⟩,fun y hy=>⟨⟨l,y.1,y.2,y.3,y.4,w,key,x⟩,rfl,rfl,⟨h1,hy.1,hy.2,h2,hw.1,hw.2.1⟩,fun q hq=>⟨⟨(QM l w x).1,q.1,q.2,q.3,q.4⟩,rfl,rfl,⟨⟨Nat.le_trans hl.len (by decide),hq.1.1,hq.1.2,hq.2⟩,hl.len,hl.inr⟩,fun _ _=>⟨Qd (by kernel_rfl),QcK _ _ _ _ _ _ _ _ _ ho _ ?_ (fun _ _=>rfl)⟩⟩⟩⟩
  rw[e,Qax 4 l w key x (by decide) (by decide)]
  unfold lstR;rw[if_neg (by decide),if_neg (by decide),if_neg (by decide)]
 ·
  refine Qh (q:=True/\bif bif opOk w key x then false else true then endP XD [aI 5,SA.a [nU 17 f],SA.a [sI w,sI key,sI x]] (SV.t [SA.a [nU 17 zF],SA.a [sI 0,sI 0],SA.c (.v (.iface 64 (Value.int .i64 (1:Int))))]) []else (17=17/\ObjForm (5:Int) (toN 17 f))/\bif bif Xo (5:Int) (toN 17 f)then false else true then endP XD [aI 5,SA.a [nU 17 f],SA.a [sI w,sI key,sI x]] (SV.t [SA.a [nU 17 zF],SA.a [sI 0,sI 0],SA.c (.v (.iface 64 (Value.int .i64 (1:Int))))]) []else (17=17/\Good (toN 16 f)/\f 16=(0:Int))/\(16=16/\Good (toN 16 (fL (toN 16 f)))/\opOk w key x=true)/\(∃(s0:Ann.σ (annDo (Prod.fst (doT (toN 16 f) w key x)) (Prod.fst (Prod.snd (doT (toN 16 f) w key x))) (Prod.snd (Prod.snd (doT (toN 16 f) w key x))))),(eS (aP 2 0) (aP 2 0)/\eS (aP 3 0) (aP 3 0)/\eS (aP 5 0) (aP 5 0)/\eS (aP 6 0) (aP 6 0)/\eS (SA.a [nI 16 (fL (doT (toN 16 (fL (toN 16 f))) w key x).1)]) (SA.a [nI 16 (fL (doT (toN 16 f) w key x).1)])/\eS (aI 0) (aI ↑s0.1)/\True)/\[SB.cells [nU 17 zF] 83,SB.cells [sI 0,sI 0] 47,SB.cells [sI (Prod.snd (doT (toN 16 (fL (toN 16 f))) w key x)).1,sI (Prod.snd (doT (toN 16 (fL (toN 16 f))) w key x)).2] 47,SB.cells [nU 17 zF] 83]=[SB.cells [nU 17 zF] 83,SB.cells [sI 0,sI 0] 47,SB.cells [sI (Prod.snd (doT (toN 16 f) w key x)).1,sI (Prod.snd (doT (toN 16 f) w key x)).2] 47,SB.cells [nU 17 s0.2] 83])/\∀(s:DoG (doT (toN 16 f) w key x).1),bif decide ((↑s.1:Int)<(8:Int))then (iR (↑s.1:Int) (8:Int))/\((0:Int)<=IntKind.wrap .i64 ((2:Int)*(↑s.1:Int))/\IntKind.wrap .i64 ((2:Int)*(↑s.1:Int))<(17:Int))/\Int.toNat (IntKind.wrap .i64 ((2:Int)*(↑s.1:Int)))<17/\((0:Int)<=IntKind.wrap .i64 (IntKind.wrap .i64 ((2:Int)*(↑s.1:Int))+(1:Int))/\IntKind.wrap .i64 (IntKind.wrap .i64 ((2:Int)*(↑s.1:Int))+(1:Int))<(17:Int))/\Int.toNat (IntKind.wrap .i64 (IntKind.wrap .i64 ((2:Int)*(↑s.1:Int))+(1:Int)))<17/\dP Tryd.f40 11 5 [⟨14,[],[3],[],false⟩,xF 13 3,⟨12,[],[3],[],false⟩,xF 11 3,xE 10,xR 9 4,xF 8 4,xE 7,xR 6 4,xF 5 4,xE 4,xE 3,xE 2,xE 1,xE 0]/\∃(s':DoG (doT (toN 16 f) w key x).1),((eS (aP 0 0) (aP 0 0)/\eS (aP 1 0) (aP 1 0)/\eS (aP 2 0) (aP 2 0)/\eS (aP 3 0) (aP 3 0)/\eS (SA.a [nI 16 (fL (doT (toN 16 f) w key x).1)]) (SA.a [nI 16 (fL (doT (toN 16 f) w key x).1)])/\eS (aI (IntKind.wrap .i64 ((↑s.1:Int)+(1:Int)))) (aI ↑s'.1)/\True)/\[SB.cells [nU 17 zF] 83,SB.cells [sI 0,sI 0] 47,SB.cells [sI (Prod.snd (doT (toN 16 f) w key x)).1,sI (Prod.snd (doT (toN 16 f) w key x)).2] 47,SB.cells [nU 17 fun (i:Nat)=>bif Nat.beq i (Int.toNat (IntKind.wrap .i64 (IntKind.wrap .i64 ((2:Int)*(↑s.1:Int))+(1:Int))))then IntKind.wrap .u64 (fL (doT (toN 16 f) w key x).1 (0+Int.toNat (↑s.1:Int)+Int.toNat (↑s.1:Int)+1))else bif Nat.beq i (Int.toNat (IntKind.wrap .i64 ((2:Int)*(↑s.1:Int))))then IntKind.wrap .u64 (fL (doT (toN 16 f) w key x).1 (0+Int.toNat (↑s.1:Int)+Int.toNat (↑s.1:Int)))else s.2 i] 83]=[SB.cells [nU 17 zF] 83,SB.cells [sI 0,sI 0] 47,SB.cells [sI (Prod.snd (doT (toN 16 f) w key x)).1,sI (Prod.snd (doT (toN 16 f) w key x)).2] 47,SB.cells [nU 17 s'.2] 83])/\8-s'.1<8-s.1 else dP Tryd.f40 13 4 [xE 4,⟨3,[],[1],[],false⟩,⟨2,[],[0],[],false⟩,xR 1 2,xR 0 3]/\endP XD [aI 5,SA.a [nU 17 f],SA.a [sI w,sI key,sI x]] (SV.t [SA.a [nU 17 s.2],SA.a [sI (Prod.snd (doT (toN 16 f) w key x)).1,sI (Prod.snd (doT (toN 16 f) w key x)).2],SA.c (.v Value.nilIface)]) []) (by kernel_rfl) ?_
  obtain⟨hg,h0⟩:=(ObjForm.tab (.inl h))
  refine⟨trivial,Qau (fun ho=>Qek _ _ _ _ _ _ (by rw[ho];decide)) (fun ho=>⟨⟨rfl,.inl h⟩,Qau (fun hr=>by cases hr) (fun _=>?_)⟩)⟩
  have hw:=of_decide_eq_true ho
  have hG:=QgK hg w key x hw.2.2.2.2.1 hw.2.2.2.2.2
  have he:objR 5 (toN 17 f) w key x=((doT (toN 16 f) w key x).1++[0],(doT (toN 16 f) w key x).2):=by
   rw[Qgn,h0,QcC _ hg]
  rw[Qak (XX 16 f)]
  generalize doT (toN 16 f) w key x=D at *
  obtain⟨d,c,v⟩:=D
  dsimp only at hG he ⊢
  refine⟨⟨rfl,hg,h0⟩,⟨rfl,hg,ho⟩,⟨⟨0,fun _=>0,by omega,fun j hj=>by omega,fun _ _=>rfl⟩,⟨rfl,rfl,rfl,rfl,rfl,rfl,trivial⟩,rfl⟩,?_⟩
  rintro⟨i,g,hi,g1,g2⟩
  dsimp only at hi g1 g2 ⊢
  refine Qi (fun hlt=>?_) (fun hge=>⟨Qd (by kernel_rfl),QcK _ _ _ _ _ _ _ _ _ ho _ he (fun j hj=>?_)⟩)
  · have e1:IntKind.wrap .i64 ((2:Int)*(i:Int))=((2*i:Nat):Int):=by rw[Q8 (by omega) (by omega)];omega
    have hi8:i<8:=by omega
    have fk:fL d (0+i+i)=tk d i:=by unfold tk fL;rfl
    have fv:fL d (0+i+i+1)=tv d i:=by unfold tv fL;rfl
    have k0:=hG.key0 i hi8
    have k1:=hG.key1 i hi8
    have v0:=hG.val0 i hi8
    have v1:=hG.val1 i hi8
    rw[e1,sucI (by omega),Int.toNat_natCast,Int.toNat_natCast,Int.toNat_natCast,fk,fv,Qdf (by omega) (by omega),Qdf (by omega) (by omega)]
    refine⟨⟨by omega,by omega⟩,⟨by omega,by omega⟩,by omega,⟨by omega,by omega⟩,by omega,Qd (by kernel_rfl),⟨i+1,_,by omega,fun j hj=>?_,fun j hj=>?_⟩,⟨⟨rfl,rfl,rfl,rfl,rfl,svI (sucI (by omega)),trivial⟩,rfl⟩,by dsimp only;omega⟩
    · by_cases a1:j=2*i+1
      · subst a1;rw[show Nat.beq (2*i+1) (2*i+1)=true from Nat.beq_refl _];unfold tv fL;rw[Nat.mul_comm]
      · rw[show Nat.beq j (2*i+1)=false from nbeq a1]
        by_cases a2:j=2*i
        · subst a2;rw[show Nat.beq (2*i) (2*i)=true from Nat.beq_refl _];unfold tk fL;rw[Nat.mul_comm];rfl
        · rw[show Nat.beq j (2*i)=false from nbeq a2];exact g1 j (by omega)
    · rw[show Nat.beq j (2*i+1)=false from nbeq (by omega),show Nat.beq j (2*i)=false from nbeq (by omega)];exact g2 j (by omega)
  · by_cases hj16:j<16
    · rw[g1 j (by omega),Q9 (by rw[hG.len];exact hj16)]
    · rw[g2 j (by omega),QZ (by rw[hG.len];omega),hG.len,show j=16 by omega];rfl
 ·
  refine Qh (q:=True/\bif bif opOk w key x then false else true then endP XD [aI 6,SA.a [nU 17 f],SA.a [sI w,sI key,sI x]] (SV.t [SA.a [nU 17 zF],SA.a [sI 0,sI 0],SA.c (.v (.iface 64 (Value.int .i64 (1:Int))))]) []else (17=17/\ObjForm (6:Int) (toN 17 f))/\bif bif Xo (6:Int) (toN 17 f)then false else true then endP XD [aI 6,SA.a [nU 17 f],SA.a [sI w,sI key,sI x]] (SV.t [SA.a [nU 17 zF],SA.a [sI 0,sI 0],SA.c (.v (.iface 64 (Value.int .i64 (1:Int))))]) []else (iR (0:Int) (17:Int))/\0<17/\((0:Int)<=IntKind.wrap .i64 (f 0)/\IntKind.wrap .i64 (f 0)<=(4294967295:Int)/\opOk w key x=true)/\dP Tryd.f40 16 5 [xE 6,⟨5,[],[3],[],false⟩,⟨4,[],[2],[],false⟩,xR 3 4,xE 2,xE 1,xE 0]/\endP XD [aI 6,SA.a [nU 17 f],SA.a [sI w,sI key,sI x]] (SV.t [SA.a [nU 17 fun (i:Nat)=>bif Nat.beq i 0 then IntKind.wrap .u64 (QT (IntKind.wrap .i64 (f 0)) w x)else (0:Int)],SA.a [sI (Q6 (IntKind.wrap .i64 (f 0)) w x),sI (Xd (IntKind.wrap .i64 (f 0)) w x)],SA.c (.v Value.nilIface)]) []) (by kernel_rfl) ?_
  obtain⟨h0,h1,z⟩:=ObjForm.tally (.inl h)
  refine⟨trivial,Qau (fun ho=>Qek _ _ _ _ _ _ (by rw[ho];decide)) (fun ho=>⟨⟨rfl,.inl h⟩,Qau (fun hr=>by cases hr) (fun _=>?_)⟩)⟩
  have hw:=of_decide_eq_true ho
  have e:toN 17 f=f 0::List.replicate 16 0:=by
   rcases h with⟨-,h,-⟩|⟨h,-⟩|⟨-,n,e,-⟩
   · omega
   · omega
   · have:=QJ (n:=17) (f:=f) (i:=0) (by decide)
     rw[e]at this
     rw[e,<- this];rfl
  rw[Q8 (by omega) (by omega),Qdf (Qe4 _ _ _ h0 hw.2.2.2.2.1) (Int.lt_of_le_of_lt (Qe5 _ _ _ h1 hw.2.2.2.2.1) (by decide))]
  refine⟨⟨by decide,by decide⟩,by decide,⟨h0,h1,ho⟩,Qd (by kernel_rfl),QcK _ _ _ _ _ _ _ _ _ ho _ (by rw[e,QcB]) (fun j hj=>?_)⟩
  cases j with
  |zero=>rfl
  |succ j=>rw[Xi,Qc9];rfl
end
section
def getN (w a n:Nat):Nat:=w/2^a%2^n
def flipN (w a:Nat):Nat:=w ^^^ 2^a
theorem QaK {x:Nat}(h:x<18446744073709551616):IntKind.wrap .u64 (x:Int)=x:=by
 simp only[IntKind.wrap,IntKind.bits,IntKind.signed];simp;omega
theorem ofI (x:Nat):BitVec.ofInt 64 (x:Int)=BitVec.ofNat 64 x:=by simp
theorem QgQ {x y:Nat}(hx:x<2^64) (hy:y<2^64):bits .and .u64 (x:Int) (y:Int)=((x &&& y:Nat):Int):=by
 show IntKind.wrap .u64 ((BitVec.ofInt 64 (x:Int) &&& BitVec.ofInt 64 (y:Int)).toNat:Int)=_
 rw[ofI,ofI,BitVec.toNat_and,BitVec.toNat_ofNat,BitVec.toNat_ofNat,Nat.mod_eq_of_lt hx,Nat.mod_eq_of_lt hy,QaK (Nat.lt_of_le_of_lt Nat.and_le_left hx)]
theorem Qk5 {x y:Nat}(hx:x<2^64) (hy:y<2^64):bits .or .u64 (x:Int) (y:Int)=((x ||| y:Nat):Int):=by
 show IntKind.wrap .u64 ((BitVec.ofInt 64 (x:Int) ||| BitVec.ofInt 64 (y:Int)).toNat:Int)=_
 rw[ofI,ofI,BitVec.toNat_or,BitVec.toNat_ofNat,BitVec.toNat_ofNat,Nat.mod_eq_of_lt hx,Nat.mod_eq_of_lt hy,QaK (Nat.or_lt_two_pow hx hy)]
theorem Qj3 {x y:Nat}(hx:x<2^64) (hy:y<2^64):bits .xor .u64 (x:Int) (y:Int)=((x ^^^ y:Nat):Int):=by
 show IntKind.wrap .u64 ((BitVec.ofInt 64 (x:Int) ^^^ BitVec.ofInt 64 (y:Int)).toNat:Int)=_
 rw[ofI,ofI,BitVec.toNat_xor,BitVec.toNat_ofNat,BitVec.toNat_ofNat,Nat.mod_eq_of_lt hx,Nat.mod_eq_of_lt hy,QaK (Nat.xor_lt_two_pow hx hy)]
def Qfk (n:Int):Int:=bif decide (64<=n)then 18446744073709551615 else 2^n.toNat-1
def QbA (a n:Int):Bool:=decide (0<=a/\1<=n/\a<64/\n<=64-a)
def getZ (w a n:Int):Int:=(getN w.toNat a.toNat n.toNat:Nat)
def bitZ (w a:Int):Bool:=decide (0<=a/\a<64)&&w.toNat.testBit a.toNat
def Qby (w a:Int):Int:=bif decide (0<=a/\a<64)then (flipN w.toNat a.toNat:Nat)else w
abbrev U64 (w:Int):Prop:=0<=w/\w<18446744073709551616
theorem U64.nat {w:Int}(h:U64 w):∃n:Nat,w=n/\n<2^64:=⟨w.toNat,by omega,by omega⟩
theorem onesN (n:Nat) (h:n<=64):Qfk (n:Int)=((2^n-1:Nat):Int):=by
 have h1:=Nat.two_pow_pos n
 have h2:((2^n:Nat):Int)=2^n:=by push_cast;rfl
 unfold Qfk
 by_cases h64:n=64
 · subst h64;rfl
 · rw[decide_eq_false (by omega)]
   simp only[cond_false,Int.toNat_natCast]
   omega
theorem QkG (n:Nat) (h:n<=64):2^n-1<2^64:=by
 have h1:=Nat.two_pow_pos n
 have:=Nat.pow_le_pow_right (show 0<2 by decide) h
 omega
theorem QhY (x a:Nat) (h:a<=64):Int.fdiv (x:Int) (2^(min (a:Int).toNat 64))=((x/2^a:Nat):Int):=by
 rw[Int.toNat_natCast,Nat.min_eq_left h,Int.fdiv_eq_ediv_of_nonneg _ (Int.pow_nonneg (by decide))]
 push_cast;rfl
theorem QfT (x a:Nat) (h:a<=64) (hx:x*2^a<18446744073709551616):IntKind.wrap .u64 ((x:Int)*2^(min (a:Int).toNat 64))=((x*2^a:Nat):Int):=by
 rw[Int.toNat_natCast,Nat.min_eq_left h,show (x:Int)*2^a=((x*2^a:Nat):Int) by push_cast;rfl,QaK hx]
theorem QjM {w a n:Int}(hw:U64 w) (h:QbA a n=true):bits .and .u64 (Int.fdiv w (2^(min a.toNat 64))) (Qfk n)=getZ w a n:=by
 obtain⟨x,rfl,hx⟩:=hw.nat
 have h:=of_decide_eq_true h
 obtain⟨b,rfl⟩:=Int.eq_ofNat_of_zero_le (show 0<=a by omega)
 obtain⟨m,rfl⟩:=Int.eq_ofNat_of_zero_le (show 0<=n by omega)
 rw[QhY x b (by omega),onesN m (by omega),QgQ (Nat.lt_of_le_of_lt (Nat.div_le_self _ _) hx) (QkG m (by omega)),Nat.and_two_pow_sub_one_eq_mod]
 rfl
theorem Qj4 {w a:Int}(hw:U64 w) (h:0<=a/\a<64):(bits .and .u64 (Int.fdiv w (2^(min a.toNat 64))) 1==1)=bitZ w a:=by
 obtain⟨x,rfl,hx⟩:=hw.nat
 obtain⟨b,rfl⟩:=Int.eq_ofNat_of_zero_le h.1
 have:=QgQ (x:=x/2^b) (y:=1) (Nat.lt_of_le_of_lt (Nat.div_le_self _ _) hx) (by decide)
 rw[QhY x b (by omega),show (1:Int)=((1:Nat):Int)from rfl,this,Nat.and_one_is_mod]
 unfold bitZ
 rw[decide_eq_true h,Bool.true_and,Int.toNat_natCast,Int.toNat_natCast,Nat.testBit_eq_decide_div_mod_eq]
 by_cases h1:x/2^b%2=1
 · rw[h1];rfl
 · rw[decide_eq_false h1,beq_eq_false_iff_ne]
   intro hc;exact h1 (by exact_mod_cast hc)
theorem QiF {w a:Int}(hw:U64 w) (h:0<=a/\a<64):bits .xor .u64 w (IntKind.wrap .u64 (1*2^(min a.toNat 64)))=Qby w a:=by
 obtain⟨x,rfl,hx⟩:=hw.nat
 obtain⟨b,rfl⟩:=Int.eq_ofNat_of_zero_le h.1
 have l:1*2^b<2^64:=by rw[Nat.one_mul];exact Nat.pow_lt_pow_right (by decide) (by omega)
 rw[show (1:Int)=((1:Nat):Int)from rfl,QfT 1 b (by omega) l,Qj3 hx l,Nat.one_mul]
 unfold Qby
 rw[decide_eq_true h];rfl
end
section
open Go.RowKit
abbrev uA (n:Int):SA:=.c (.v (.int .u64 n))
def nilE:SA:=.c (.v .nilIface)
def QeS:PCon:=⟨fun args=>match args with
 |[.c (.v (.int .i64 n))]=>0<=n/\n<=64
 |_=>False,fun args=>match args with
 |[.c (.v (.int .i64 n))]=>sv (.int .u64 (Qfk n))
 |_=>sv undef,fun _=>none⟩
theorem Qjv:(Con.pure QeS).holds Tryd.prog 85:=by
 refine Qm (AG:=[]) (Γ:=[]) Tryd.func85 rfl (by kernel_rfl) Qg Qc (fun _=>GamOk.nil _ _ _) QeS 200 ?_
 intro W args hp
 unfold QeS at hp;dsimp only at hp;split at hp
 case h_2=>exact hp.elim
 rename_i n
 refine⟨rfl,?_⟩
 refine Qh (q:=bif decide (n>=(64:Int))then SV.o (aU 18446744073709551615)=SV.o (aU (Qfk n))/\true=true else (0:Int)<=n/\SV.o (aU (IntKind.wrap .u64 (IntKind.wrap .u64 ((1:Int)*(2:Int)^min (Int.toNat n) 64)-(1:Int))))=SV.o (aU (Qfk n))/\true=true) (by kernel_rfl) ?_
 obtain⟨m,rfl⟩:=Int.eq_ofNat_of_zero_le hp.1
 refine Qz (fun h=>⟨?_,rfl⟩) (fun h=>⟨hp.1,?_,rfl⟩)
 · unfold Qfk;rw[decide_eq_true (of_decide_eq_true h)];rfl
 · have h:=of_decide_eq_false h
   have l:=Nat.pow_lt_pow_right (show 1<2 by decide) (show m<64 by omega)
   have l2:=Nat.two_pow_pos m
   have e1:=QfT 1 m (by omega) (by omega)
   rw[show (1:Int)*2^min (m:Int).toNat 64=((1:Nat):Int)*2^min (m:Int).toNat 64 from rfl,e1,onesN m (by omega)]
   rw[show ((1*2^m:Nat):Int)-1=((2^m-1:Nat):Int) by omega,QaK (by omega)]
def Qcd:PCon:=⟨fun args=>match args with
 |[.c (.v (.int .i64 a)),.c (.v (.int .i64 n))]=>True
 |_=>False,fun args=>match args with
 |[.c (.v (.int .i64 a)),.c (.v (.int .i64 n))]=>sv (.bool (QbA a n))
 |_=>sv undef,fun _=>none⟩
theorem QgY:(Con.pure Qcd).holds Tryd.prog 84:=by
 refine Qm (AG:=[]) (Γ:=[]) Tryd.func84 rfl (by kernel_rfl) Qg Qc (fun _=>GamOk.nil _ _ _) Qcd 200 ?_
 intro W args hp
 unfold Qcd at hp;dsimp only at hp;split at hp
 case h_2=>exact hp.elim
 rename_i a n
 refine⟨rfl,?_⟩
 refine Qh (q:=bif decide (a>=(0:Int))then bif decide (n>=(1:Int))then bif decide (a<(64:Int))then SV.o (aB (decide (n<=IntKind.wrap .i64 ((64:Int)-a))))=SV.o (aB (QbA a n))/\true=true else SV.o (aB false)=SV.o (aB (QbA a n))/\true=true else SV.o (aB false)=SV.o (aB (QbA a n))/\true=true else SV.o (aB false)=SV.o (aB (QbA a n))/\true=true) (by kernel_rfl) ?_
 have hw:decide (a>=0)=true->decide (a<64)=true->IntKind.wrap .i64 (64-a)=64-a:=fun h1 h2=>by
  have:=of_decide_eq_true h1;have:=of_decide_eq_true h2
  simp only[IntKind.wrap,IntKind.bits,IntKind.signed];simp;omega
 refine Qz (fun h1=>Qz (fun h2=>Qz (fun h3=>⟨?_,rfl⟩) (fun h3=>⟨?_,rfl⟩)) (fun h2=>⟨?_,rfl⟩)) (fun h1=>⟨?_,rfl⟩)
 · rw[hw h1 h3];refine svB ?_;unfold QbA;simp only[decide_eq_true_eq,decide_eq_decide]at *;omega
 all_goals (refine svB ?_;unfold QbA;symm;simp only[decide_eq_true_eq,decide_eq_false_iff_not]at *;omega)
def QgM:PCon:=⟨fun args=>match args with
 |[.c (.v (.int .u64 w)),.c (.v (.int .i64 a)),.c (.v (.int .i64 n))]=>U64 w/\QbA a n=true
 |_=>False,fun args=>match args with
 |[.c (.v (.int .u64 w)),.c (.v (.int .i64 a)),.c (.v (.int .i64 n))]=>.t [uA (getZ w a n),nilE]
 |_=>sv undef,fun _=>none⟩
theorem QkT:(Con.pure QgM).holds Tryd.prog 65:=by
 refine Qm (AG:=[]) (Γ:=[(84,.pure Qcd),(85,.pure QeS)]) Tryd.func65 rfl (by kernel_rfl) Qg Qc
  (fun W=>.cons (QgY W _) (.cons (Qjv W _) (.nil _ _ _))) QgM 200 ?_
 intro W args hp
 unfold QgM at hp;dsimp only at hp;split at hp
 case h_2=>exact hp.elim
 rename_i w a n
 refine⟨rfl,?_⟩
 refine Qh (q:=True/\bif bif QbA a n then false else true then SV.t [aU 0,SA.c (.v (.iface 64 (Value.int .i64 (2:Int))))]=SV.t [aU (getZ w a n),SA.c (.v Value.nilIface)]/\true=true else (0:Int)<=a/\((0:Int)<=n/\n<=(64:Int))/\dP Tryd.f65 3 0 [xE 7,xE 6,xE 5,xE 4,xE 3,xE 2,xE 1,xE 0]/\SV.t [aU (bits BinOp.and .u64 (Int.fdiv w ((2:Int)^min (Int.toNat a) 64)) (Qfk n)),SA.c (.v Value.nilIface)]=SV.t [aU (getZ w a n),SA.c (.v Value.nilIface)]/\true=true) (by kernel_rfl) ?_
 have h:=of_decide_eq_true hp.2
 rw[hp.2]
 exact⟨trivial,by omega,⟨by omega,by omega⟩,Qd (by kernel_rfl),by rw[QjM hp.1 hp.2],rfl⟩
def QgN:PCon:=⟨fun args=>match args with
 |[.c (.v (.int .u64 w)),.c (.v (.int .i64 a))]=>U64 w
 |_=>False,fun args=>match args with
 |[.c (.v (.int .u64 w)),.c (.v (.int .i64 a))]=>sv (.bool (bitZ w a))
 |_=>sv undef,fun _=>none⟩
theorem Qk7:(Con.pure QgN).holds Tryd.prog 30:=by
 refine Qm (AG:=[]) (Γ:=[]) Tryd.func30 rfl (by kernel_rfl) Qg Qc (fun _=>GamOk.nil _ _ _) QgN 200 ?_
 intro W args hp
 unfold QgN at hp;dsimp only at hp;split at hp
 case h_2=>exact hp.elim
 rename_i w a
 refine⟨rfl,?_⟩
 refine Qh (q:=bif decide (a>=(0:Int))then bif decide (a<(64:Int))then (0:Int)<=a/\SV.o (aB (bits BinOp.and .u64 (Int.fdiv w ((2:Int)^min (Int.toNat a) 64)) (1:Int)==(1:Int)))=SV.o (aB (bitZ w a))/\true=true else SV.o (aB false)=SV.o (aB (bitZ w a))/\true=true else SV.o (aB false)=SV.o (aB (bitZ w a))/\true=true) (by kernel_rfl) ?_
 refine Qz (fun h1=>Qz (fun h2=>⟨of_decide_eq_true h1,?_,rfl⟩) (fun h2=>⟨?_,rfl⟩)) (fun h1=>⟨?_,rfl⟩)
 · exact svB (Qj4 hp ⟨of_decide_eq_true h1,of_decide_eq_true h2⟩)
 · refine svB ?_;unfold bitZ;rw[decide_eq_false (by have:=of_decide_eq_false h2;omega)];rfl
 · refine svB ?_;unfold bitZ;rw[decide_eq_false (by have:=of_decide_eq_false h1;omega)];rfl
def QeU:PCon:=⟨fun args=>match args with
 |[.c (.v (.int .u64 w)),.c (.v (.int .i64 a))]=>U64 w
 |_=>False,fun args=>match args with
 |[.c (.v (.int .u64 w)),.c (.v (.int .i64 a))]=>sv (.int .u64 (Qby w a))
 |_=>sv undef,fun _=>none⟩
theorem QjO:(Con.pure QeU).holds Tryd.prog 44:=by
 refine Qm (AG:=[]) (Γ:=[]) Tryd.func44 rfl (by kernel_rfl) Qg Qc (fun _=>GamOk.nil _ _ _) QeU 200 ?_
 intro W args hp
 unfold QeU at hp;dsimp only at hp;split at hp
 case h_2=>exact hp.elim
 rename_i w a
 refine⟨rfl,?_⟩
 refine Qh (q:=bif decide (a<(0:Int))then SV.o (aU w)=SV.o (aU (Qby w a))/\true=true else bif decide (a>=(64:Int))then SV.o (aU w)=SV.o (aU (Qby w a))/\true=true else (0:Int)<=a/\SV.o (aU (bits BinOp.xor .u64 w (IntKind.wrap .u64 ((1:Int)*(2:Int)^min (Int.toNat a) 64))))=SV.o (aU (Qby w a))/\true=true) (by kernel_rfl) ?_
 refine Qz (fun h1=>⟨?_,rfl⟩) (fun h1=>Qz (fun h2=>⟨?_,rfl⟩) (fun h2=>⟨by have:=of_decide_eq_false h1;omega,?_,rfl⟩))
 · unfold Qby;rw[decide_eq_false (by have:=of_decide_eq_true h1;omega)];rfl
 · unfold Qby;rw[decide_eq_false (by have:=of_decide_eq_true h2;omega)];rfl
 · have h1:=of_decide_eq_false h1;have h2:=of_decide_eq_false h2
   rw[QiF hp ⟨by omega,by omega⟩]
end
section
structure Rec where
 kind:Int
 obj:List Int
 ans:List Int
 whn:List Int
 tog:Int
 ver:Int
 cnt:Int
def Rec.words (r:Rec):List Int:=r.kind::(r.obj++(r.ans++(r.whn++[r.tog,r.ver,r.cnt,0,0,0])))
def ansW (c v:Int):Int:=c*4294967296+v
def QC (g:Int) (t:Nat):Int:=g/2^t%2
def Qat (g:Int) (t:Nat):Int:=if QC g t=1 then g-2^t else g+2^t
structure RecOK (B:Int) (r:Rec):Prop where
 k1:1<=r.kind
 k6:r.kind<=6
 ok:QbX r.kind r.obj
 a4:r.ans.length=4
 w4:r.whn.length=4
 g0:0<=r.tog
 g1:r.tog<16
 v0:0<=r.ver
 v1:r.ver<=1099511627776
 c0:0<=r.cnt
 c1:r.cnt<=B
 each:∀t,t<4->(r.ans.getD t 0=0/\r.whn.getD t 0=0)\/((∃c v,QB c v/\r.ans.getD t 0=ansW c v)/\1<=r.whn.getD t 0/\r.whn.getD t 0<=r.cnt)
 once:∀t u,t<4->u<t->r.whn.getD t 0≠0->r.whn.getD u 0≠r.whn.getD t 0
def Rec.new (kind:Int):Rec:=⟨kind,List.replicate 17 0,[0,0,0,0],[0,0,0,0],0,0,0⟩
def Rec.done (r:Rec) (t:Nat) (k key x:Int):Rec:=
 { r with obj:=(objR r.kind r.obj k key x).1,ans:=r.ans.set t (ansW (objR r.kind r.obj k key x).2.1 (objR r.kind r.obj k key x).2.2),whn:=r.whn.set t (r.cnt+1),cnt:=r.cnt+1,tog:=Qat r.tog t }
theorem Qg1 (g:Int) (t:Nat) (ht:t<4) (h0:0<=g) (h1:g<16):0<=Qat g t/\Qat g t<16:=by
 unfold Qat QC
 rcases (show t=0\/t=1\/t=2\/t=3 by omega)with rfl|rfl|rfl|rfl<;>(simp only[Int.reducePow];split<;>omega)
theorem QfQ (g:Int) (t u:Nat) (ht:t<4) (hu:u<4) (h0:0<=g) (h1:g<16):QC (Qat g t) u=if u=t then 1-QC g t else QC g u:=by
 unfold Qat QC
 rcases (show t=0\/t=1\/t=2\/t=3 by omega)with rfl|rfl|rfl|rfl<;>rcases (show u=0\/u=1\/u=2\/u=3 by omega)with rfl|rfl|rfl|rfl<;>(simp only[Int.reducePow];split<;>simp<;>omega)
theorem Qcb (l:List Int) (i j:Nat) (x:Int) (h:i<l.length):(l.set i x).getD j 0=if j=i then x else l.getD j 0:=by
 rw[List.getD_eq_getElem?_getD,List.getElem?_set,List.getD_eq_getElem?_getD]
 by_cases e:i=j
 · subst e;simp[h]
 · rw[if_neg e,if_neg (fun h=>e h.symm)]
theorem RecOK.done {B:Int}{r:Rec}(h:RecOK B r) (t:Nat) (ht:t<4) (k key x:Int) (ho:opOk k key x=true):RecOK (B+1) (r.done t k key x):=by
 have hl:=QcA h.ok k key x ho
 have hg:=Qg1 r.tog t ht h.g0 h.g1
 have hc0:=h.c0
 have hc1:=h.c1
 have ha4:=h.a4
 have hw4:=h.w4
 refine⟨h.k1,h.k6,QkL h.ok k key x ho,by simp[Rec.done,ha4],by simp[Rec.done,hw4],hg.1,hg.2,h.v0,h.v1,by simp only[Rec.done];omega,by simp only[Rec.done];omega,fun u hu=>?_,fun u v hu hv hne=>?_⟩
 · simp only[Rec.done]
   rw[Qcb _ _ _ _ (by omega),Qcb _ _ _ _ (by omega)]
   by_cases e:u=t
   · rw[if_pos e,if_pos e];exact .inr ⟨⟨_,_,hl.1,rfl⟩,by omega,by omega⟩
   · rw[if_neg e,if_neg e]
     rcases h.each u hu with h1|⟨h1,h2,h3⟩
     · exact .inl h1
     · exact .inr ⟨h1,h2,by omega⟩
 · simp only[Rec.done]at hne ⊢
   rw[Qcb _ _ _ _ (by omega)]at hne ⊢
   rw[Qcb _ _ _ _ (by omega)]
   by_cases e:u=t
   · rw[if_pos e,if_neg (by omega)]
     rcases h.each v (by omega)with h1|⟨h1,h2,h3⟩
     · rw[h1.2];omega
     · omega
   · rw[if_neg e]at hne ⊢
     by_cases e2:v=t
     · rw[if_pos e2]
       rcases h.each u (by omega)with h1|⟨h1,h2,h3⟩
       · exact absurd h1.2 hne
       · omega
     · rw[if_neg e2];exact h.once u v hu hv hne
theorem RecOK.new {kind:Int}(h1:1<=kind) (h6:kind<=6):RecOK 0 (Rec.new kind):=by
 refine⟨h1,h6,Qg8 kind h1 h6,rfl,rfl,Int.le_refl _,(by decide:(0:Int)<16),Int.le_refl _,(by decide:(0:Int)<=1099511627776),Int.le_refl _,Int.le_refl _,fun t ht=>.inl ?_,fun t u ht hu hne=>?_⟩
 · rcases (show t=0\/t=1\/t=2\/t=3 by omega)with rfl|rfl|rfl|rfl<;>exact⟨rfl,rfl⟩
 · exfalso;apply hne
   rcases (show t=0\/t=1\/t=2\/t=3 by omega)with rfl|rfl|rfl|rfl<;>rfl
theorem RecOK.mono {B B':Int}{r:Rec}(h:RecOK B r) (hb:B<=B'):RecOK B' r:={ h with c1:=Int.le_trans h.c1 hb }
theorem Rec.words_len {B:Int}{r:Rec}(h:RecOK B r):r.words.length=32:=by
 simp[Rec.words,h.a4,h.w4,Xl h.ok]
def Rec.ofW (l:List Int):Rec:=⟨l.getD 0 0,(l.drop 1).take 17,(l.drop 18).take 4,(l.drop 22).take 4,l.getD 26 0,l.getD 27 0,l.getD 28 0⟩
theorem Rec.ofW_words {B:Int}{r:Rec}(h:RecOK B r):Rec.ofW r.words=r:=by
 obtain⟨kind,obj,ans,whn,tog,ver,cnt⟩:=r
 have h17:=Xl h.ok
 have ha:=h.a4
 have hw:=h.w4
 dsimp only at h17 ha hw
 match obj,h17 with
 |[_,_,_,_,_,_,_,_,_,_,_,_,_,_,_,_,_],_=>
  match ans,ha with
  |[_,_,_,_],_=>
   match whn,hw with
   |[_,_,_,_],_=>rfl
def RecW (f:Nat->Int):Prop:=RecOK 1099511627776 (Rec.ofW (toN 32 f))/\toN 32 f=(Rec.ofW (toN 32 f)).words
theorem RecW.of {B:Int}{r:Rec}(h:RecOK B r) (hB:B<=1099511627776) {f:Nat->Int}(e:toN 32 f=r.words):RecW f/\Rec.ofW (toN 32 f)=r:=by
 have h2:Rec.ofW (toN 32 f)=r:=by rw[e];exact Rec.ofW_words h
 exact⟨⟨by rw[h2];exact h.mono hB,by rw[h2];exact e⟩,h2⟩
section
variable (f:Nat->Int)
theorem Qex:(Rec.ofW (toN 32 f)).kind=f 0:=rfl
theorem Qf3:(Rec.ofW (toN 32 f)).tog=f 26:=rfl
theorem Qig:(Rec.ofW (toN 32 f)).ver=f 27:=rfl
theorem QdA:(Rec.ofW (toN 32 f)).cnt=f 28:=rfl
theorem QkJ:(Rec.ofW (toN 32 f)).obj=toN 17 (fun i=>f (1+i)):=rfl
theorem QkK (t:Nat) (ht:t<4):(Rec.ofW (toN 32 f)).ans.getD t 0=f (18+t):=by
 show (((toN 32 f).drop 18).take 4).getD t 0=_
 rw[<- QJ (n:=32) (f:=f) (i:=18+t) (by omega)]
 simp only[List.getD_eq_getElem?_getD,List.getElem?_take,if_pos ht,List.getElem?_drop]
theorem Qf2 (t:Nat) (ht:t<4):(Rec.ofW (toN 32 f)).whn.getD t 0=f (22+t):=by
 show (((toN 32 f).drop 22).take 4).getD t 0=_
 rw[<- QJ (n:=32) (f:=f) (i:=22+t) (by omega)]
 simp only[List.getD_eq_getElem?_getD,List.getElem?_take,if_pos ht,List.getElem?_drop]
end
theorem RecW.tail {f:Nat->Int}(h:RecW f):f 29=0/\f 30=0/\f 31=0:=by
 obtain⟨h1,h2⟩:=h
 have g (i:Nat) (hi:i<32):f i=(Rec.ofW (toN 32 f)).words.getD i 0:=by rw[<- h2,QJ hi]
 generalize Rec.ofW (toN 32 f)=r at *
 obtain⟨kind,obj,ans,whn,tog,ver,cnt⟩:=r
 have h17:=Xl h1.ok
 have ha:=h1.a4
 have hw:=h1.w4
 dsimp only at h17 ha hw
 rw[g 29 (by decide),g 30 (by decide),g 31 (by decide)]
 match obj,h17 with
 |[_,_,_,_,_,_,_,_,_,_,_,_,_,_,_,_,_],_=>
  match ans,ha with
  |[_,_,_,_],_=>
   match whn,hw with
   |[_,_,_,_],_=>exact⟨rfl,rfl,rfl⟩
theorem Qa4 (r:Rec) (h17:r.obj.length=17) (ha:r.ans.length=4) (hw:r.whn.length=4) (i:Nat) (hi:i<32):
 fL r.words i=if i=0 then r.kind else if i<=17 then fL r.obj (i-1)else if i<=21 then fL r.ans (i-18)else if i<=25 then fL r.whn (i-22)else if i=26 then r.tog else if i=27 then r.ver else if i=28 then r.cnt else 0:=by
 unfold Rec.words
 rcases Nat.eq_zero_or_pos i with h0|h0
 · subst h0;rfl
 obtain⟨j,rfl⟩:∃j,i=j+1:=⟨i-1,by omega⟩
 rw[Xi,if_neg (by omega)]
 by_cases h1:j+1<=17
 · rw[if_pos h1,Q9 (by omega),Nat.add_sub_cancel]
 rw[if_neg h1,QZ (by omega),h17]
 by_cases h2:j+1<=21
 · rw[if_pos h2,Q9 (by omega),show j-17=j+1-18 by omega]
 rw[if_neg h2,QZ (by omega),ha]
 by_cases h3:j+1<=25
 · rw[if_pos h3,Q9 (by omega),show j-17-4=j+1-22 by omega]
 rw[if_neg h3,QZ (by omega),hw]
 have:j=25\/j=26\/j=27\/j=28\/j=29\/j=30:=by omega
 rcases this with rfl|rfl|rfl|rfl|rfl|rfl<;>rfl
theorem RecW.get {f:Nat->Int}(h:RecW f) (i:Nat) (hi:i<32):f i=fL (Rec.ofW (toN 32 f)).words i:=by
 rw[<- h.2];exact (QcT hi).symm
def Xa (c v:Int):Bool:=decide (1<=c/\c<=5/\0<=v/\v<=4294967295/\(c=1\/v=0))
theorem QcQ (c v:Int):Xa c v=true↔QB c v:=by unfold Xa QB;exact decide_eq_true_iff
theorem Qi8 {c v:Int}(h:QB c v):ansW c v/4294967296%4294967296=c/\ansW c v%4294967296=v/\0<=ansW c v/\ansW c v<25769803776/\ansW c v≠0:=by
 obtain⟨h1,h2,h3,h4,-⟩:=h
 unfold ansW;omega
end
section
theorem QkV {w:Int}(h:U64 w):getZ w 32 32=w/4294967296%4294967296:=by
 obtain⟨x,rfl,hx⟩:=h.nat
 show ((x/4294967296%4294967296:Nat):Int)=_
 omega
theorem QkU {w:Int}(h:U64 w):getZ w 0 32=w%4294967296:=by
 obtain⟨x,rfl,hx⟩:=h.nat
 show ((x/1%4294967296:Nat):Int)=_
 omega
theorem QjN:∀w:Fin 16,∀t:Fin 4,(((w.val ^^^ 2^t.val:Nat):Nat):Int)=Qat (w.val:Int) t.val:=by decide
theorem Qk6:∀w:Fin 16,∀t:Fin 4,w.val.testBit t.val=(QC (w.val:Int) t.val==1):=by decide
theorem QiG {g:Int}{t:Nat}(h0:0<=g) (h1:g<16) (ht:t<4):Qby g t=Qat g t:=by
 obtain⟨x,rfl⟩:=Int.eq_ofNat_of_zero_le h0
 unfold Qby
 rw[decide_eq_true (by omega)]
 exact QjN ⟨x,by omega⟩ ⟨t,ht⟩
theorem Qj5 {g:Int}{t:Nat}(h0:0<=g) (h1:g<16) (ht:t<4):bitZ g t=(QC g t==1):=by
 obtain⟨x,rfl⟩:=Int.eq_ofNat_of_zero_le h0
 unfold bitZ
 rw[decide_eq_true (by omega),Bool.true_and]
 exact Qk6 ⟨x,by omega⟩ ⟨t,ht⟩
theorem QhH (g:Int) (t:Nat):QC g t=0\/QC g t=1:=by unfold QC;omega
theorem Qj9 {c v:Int}(h:QB c v):bits .or .u64 (IntKind.wrap .u64 (IntKind.wrap .u64 c*2^(min (32:Int).toNat 64))) (IntKind.wrap .u64 v)=ansW c v:=by
 obtain⟨h1,h2,h3,h4,-⟩:=h
 obtain⟨x,rfl⟩:=Int.eq_ofNat_of_zero_le (show 0<=c by omega)
 obtain⟨y,rfl⟩:=Int.eq_ofNat_of_zero_le h3
 rw[QaK (x:=x) (by omega),QaK (x:=y) (by omega)]
 rw[show IntKind.wrap .u64 ((x:Int)*2^(min (32:Int).toNat 64))=((x*2^32:Nat):Int)from QfT x 32 (by decide) (by omega)]
 rw[Qk5 (by omega) (by omega)]
 unfold ansW
 have:=Nat.two_pow_add_eq_or_of_lt (i:=32) (b:=y) (by omega) x
 rw[Nat.mul_comm,<- this]
 show ((4294967296*x+y:Nat):Int)=_
 omega
theorem beqD (i a:Nat):Nat.beq i a=decide (i=a):=by
 by_cases h:i=a
 · subst h;rw[decide_eq_true rfl];exact Nat.beq_refl _
 · rw[decide_eq_false h]
   cases hb:Nat.beq i a
   · rfl
   · exact absurd (Nat.eq_of_beq_eq_true hb) h
theorem QjV {α:Type}(p:Prop) [Decidable p] (a b:α):(bif decide p then a else b)=if p then a else b:=by
 by_cases h:p
 · rw[decide_eq_true h,if_pos h];rfl
 · rw[decide_eq_false h,if_neg h];rfl
theorem Qdc {f:Nat->Int}(h:RecW f) (T:Nat) (hT:T<4) (k key x:Int) (ho:opOk k key x=true) (i:Nat) (hi:i<32):
 (bif Nat.beq i 26 then Qby (f 26) T else bif Nat.beq i (22+T)then f 28+1 else bif Nat.beq i 28 then f 28+1 else bif Nat.beq i (18+T)then ansW (objR (f 0) (toN 17 fun i=>f (1+i)) k key x).2.1 (objR (f 0) (toN 17 fun i=>f (1+i)) k key x).2.2
  else bif (match Nat.ble 1 i with|false=>false|true=>Nat.ble i 17)then fL (objR (f 0) (toN 17 fun i=>f (1+i)) k key x).1 (Nat.pred i)else f i)=fL ((Rec.ofW (toN 32 f)).done T k key x).words i:=by
 have hR:=h.1
 have hd:=hR.done T hT k key x ho
 have h17:=Xl hd.ok
 rw[Qa4 _ h17 hd.a4 hd.w4 i hi,h.get i hi,Qa4 _ (Xl hR.ok) hR.a4 hR.w4 i hi]
 have e26:Qby (f 26) T=Qat (f 26) T:=QiG hR.g0 hR.g1 hT
 have eb:(match Nat.ble 1 i with|false=>false|true=>Nat.ble i 17)=decide (1<=i/\i<=17):=by
  by_cases h1:1<=i
  · rw[show Nat.ble 1 i=true from Nat.ble_eq_true_of_le h1]
    by_cases h2:i<=17
    · rw[decide_eq_true ⟨h1,h2⟩];exact Nat.ble_eq_true_of_le h2
    · rw[decide_eq_false (fun hh=>h2 hh.2)]
      cases hb:Nat.ble i 17
      · rfl
      · exact absurd (Nat.le_of_ble_eq_true hb) h2
  · rw[decide_eq_false (fun hh=>h1 hh.1)]
    obtain rfl:i=0:=by omega
    rfl
 simp only[beqD,QjV,eb,e26]
 simp only[Rec.done,Qex,Qf3,Qig,QdA,QkJ]
 have ea (j:Nat) (u:Int) (hj:T<(Rec.ofW (toN 32 f)).ans.length):fL ((Rec.ofW (toN 32 f)).ans.set T u) j=if j=T then u else fL (Rec.ofW (toN 32 f)).ans j:=QgJ hj
 have ew (j:Nat) (u:Int) (hj:T<(Rec.ofW (toN 32 f)).whn.length):fL ((Rec.ofW (toN 32 f)).whn.set T u) j=if j=T then u else fL (Rec.ofW (toN 32 f)).whn j:=QgJ hj
 rw[ea _ _ (by rw[hR.a4];exact hT),ew _ _ (by rw[hR.w4];exact hT)]
 by_cases a0:i=0
 · subst a0;simp;rw[if_neg (by omega),if_neg (by omega)]
 by_cases a1:i<=17
 · rw[if_neg (by omega),if_neg (by omega),if_neg (by omega),if_neg (by omega),if_pos ⟨by omega,a1⟩,if_neg a0,if_pos a1]
   obtain⟨j,rfl⟩:∃j,i=j+1:=⟨i-1,by omega⟩
   rfl
 by_cases a2:i<=21
 · rw[if_neg (by omega:¬i=26),if_neg (by omega:¬i=22+T),if_neg (by omega:¬i=28)]
   rw[if_neg a0,if_neg a1,if_pos a2]
   by_cases b:i=18+T
   · rw[if_pos b,if_neg a0,if_neg a1,if_pos a2,if_pos (by omega)]
   · rw[if_neg b,if_neg (by omega),if_neg a0,if_neg a1,if_pos a2,if_neg (by omega)]
 by_cases a3:i<=25
 · rw[if_neg (by omega:¬i=26)]
   rw[if_neg a0,if_neg a1,if_neg a2,if_pos a3]
   by_cases b:i=22+T
   · rw[if_pos b,if_neg a0,if_neg a1,if_neg a2,if_pos a3,if_pos (by omega)]
   · rw[if_neg b,if_neg (by omega),if_neg (by omega),if_neg (by omega),if_neg a0,if_neg a1,if_neg a2,if_pos a3,if_neg (by omega)]
 have:i=26\/i=27\/i=28\/i=29\/i=30\/i=31:=by omega
 rcases this with rfl|rfl|rfl|rfl|rfl|rfl
 · simp
 all_goals (rw[if_neg (by omega),if_neg (by omega)];simp;try omega)
end
section
open Go.RowKit
def Qbv:PCon:=QaF
theorem Qf0:(Con.pure Qbv).holds Tryd.prog 7:=by
 refine Qm (AG:=[]) (Γ:=[]) Tryd.func7 rfl (by kernel_rfl) Qg Qc (fun _=>GamOk.nil _ _ _) Qbv 400 ?_
 intro W args hp
 unfold Qbv QaF at hp;dsimp only at hp;split at hp
 case h_2=>exact hp.elim
 rename_i a b c
 refine⟨rfl,?_⟩
 refine Qh (q:=bif decide (a>=(1:Int))then bif decide (a<=(6:Int))then bif decide (b>=(0:Int))then bif decide (b<=(1000:Int))then bif decide (c>=(0:Int))then SV.o (aB (decide (c<=(4294967295:Int))))=SV.o (aB (opOk a b c))/\true=true else SV.o (aB false)=SV.o (aB (opOk a b c))/\true=true else SV.o (aB false)=SV.o (aB (opOk a b c))/\true=true else SV.o (aB false)=SV.o (aB (opOk a b c))/\true=true else SV.o (aB false)=SV.o (aB (opOk a b c))/\true=true else SV.o (aB false)=SV.o (aB (opOk a b c))/\true=true) (by kernel_rfl) ?_
 repeat' (first|refine Qi (fun _=>?_) (fun _=>?_)|refine And.intro ?_ ?_)
 all_goals (first|rfl|(refine svB ?_;unfold opOk;first|(rw[decide_eq_decide];omega)|(symm;rw[decide_eq_false_iff_not];omega)))
def QdQ:PCon:=⟨fun args=>match args with
 |[.a [.one (.v (.int .i64 a)),.one (.v (.int .i64 b))]]=>True
 |_=>False,fun args=>match args with
 |[.a [.one (.v (.int .i64 a)),.one (.v (.int .i64 b))]]=>sv (.bool (Xa a b))
 |_=>sv undef,fun _=>none⟩
theorem QgI:(Con.pure QdQ).holds Tryd.prog 51:=by
 refine Qm (AG:=[]) (Γ:=[]) Tryd.func51 rfl (by kernel_rfl) Qg Qc (fun _=>GamOk.nil _ _ _) QdQ 400 ?_
 intro W args hp
 unfold QdQ at hp;dsimp only at hp;split at hp
 case h_2=>exact hp.elim
 rename_i a b
 refine⟨rfl,?_⟩
 refine Qh (q:=bif decide (a>=(1:Int))then bif decide (a<=(5:Int))then bif decide (b>=(0:Int))then bif decide (b<=(4294967295:Int))then bif a==(1:Int)then SV.o (aB true)=SV.o (aB (Xa a b))/\true=true else SV.o (aB (b==(0:Int)))=SV.o (aB (Xa a b))/\true=true else SV.o (aB false)=SV.o (aB (Xa a b))/\true=true else SV.o (aB false)=SV.o (aB (Xa a b))/\true=true else SV.o (aB false)=SV.o (aB (Xa a b))/\true=true else SV.o (aB false)=SV.o (aB (Xa a b))/\true=true) (by kernel_rfl) ?_
 repeat' (first|refine Qi (fun _=>?_) (fun _=>?_)|refine Qar (fun _=>?_) (fun _=>?_)|refine And.intro ?_ ?_)
 all_goals (first|rfl|(refine svB ?_;unfold Xa;first|(symm;rw[decide_eq_false_iff_not];omega)|(symm;rw[decide_eq_true_iff];omega)|(rw[decide_eq_decide];omega)|(rw[Bool.eq_iff_iff,beq_iff_eq,decide_eq_true_iff];omega)))
def Qcg:PCon:=⟨fun args=>match args with
 |[.a [.one (.v (.int .i64 a)),.one (.v (.int .i64 b))]]=>QB a b
 |_=>False,fun args=>match args with
 |[.a [.one (.v (.int .i64 a)),.one (.v (.int .i64 b))]]=>.t [uA (ansW a b),nilE]
 |_=>sv undef,fun _=>none⟩
theorem QhB:(Con.pure Qcg).holds Tryd.prog 43:=by
 refine Qm (AG:=[]) (Γ:=[(51,.pure QdQ)]) Tryd.func43 rfl (by kernel_rfl) Qg Qc (fun W=>.cons (QgI W _) (.nil _ _ _)) Qcg 400 ?_
 intro W args hp
 unfold Qcg at hp;dsimp only at hp;split at hp
 case h_2=>exact hp.elim
 rename_i a b
 refine⟨rfl,?_⟩
 refine Qh (q:=True/\bif bif Xa a b then false else true then SV.t [aU 0,SA.c (.v (.iface 64 (Value.int .i64 (1:Int))))]=SV.t [aU (ansW a b),SA.c (.v Value.nilIface)]/\true=true else (0:Int)<=(32:Int)/\SV.t [aU (bits BinOp.or .u64 (IntKind.wrap .u64 (IntKind.wrap .u64 a*(4294967296:Int))) (IntKind.wrap .u64 b)),SA.c (.v Value.nilIface)]=SV.t [aU (ansW a b),SA.c (.v Value.nilIface)]/\true=true) (by kernel_rfl) ?_
 have hb:=(QcQ a b).2 hp
 have hw:=Qj9 hp
 rw[show (2:Int)^(min (32:Int).toNat 64)=4294967296 from rfl]at hw
 refine⟨trivial,Qau (fun h=>absurd (hb.symm.trans h) (by decide)) (fun _=>⟨by decide,?_,rfl⟩)⟩
 rw[hw]
def QdO:PCon:=⟨fun args=>match args with
 |[.c (.v (.int .u64 w))]=>U64 w
 |_=>False,fun args=>match args with
 |[.c (.v (.int .u64 w))]=>.t [ansA (w/4294967296%4294967296) (w%4294967296),nilE]
 |_=>sv undef,fun args=>match args with
 |[.c (.v (.int .u64 w))]=>some (Xa (w/4294967296%4294967296) (w%4294967296),.t [ansA 0 0,.c (.v (.iface 64 (.int .i64 3)))])
 |_=>none⟩
theorem Qgm:(Con.pure QdO).holds Tryd.prog 45:=by
 refine Qm (AG:=[]) (Γ:=[(51,.pure QdQ),(65,.pure QgM)]) Tryd.func45 rfl (by kernel_rfl) Qg Qc (fun W=>.cons (QgI W _) (.cons (QkT W _) (.nil _ _ _))) QdO 400 ?_
 intro W args hp
 unfold QdO at hp;dsimp only at hp;split at hp
 case h_2=>exact hp.elim
 rename_i w
 refine⟨rfl,?_⟩
 refine Qh (q:=(U64 w/\true=true)/\(U64 w/\true=true)/\True/\bif bif Xa (IntKind.wrap .i64 (getZ w (32:Int) (32:Int))) (IntKind.wrap .i64 (getZ w (0:Int) (32:Int)))then false else true then (SV.t [SA.a [sI 0,sI 0],SA.c (.v (.iface 64 (Value.int .i64 (3:Int))))]=bif Xa (w/(4294967296:Int)%(4294967296:Int)) (w%(4294967296:Int))then SV.t [SA.a [sI (w/(4294967296:Int)%(4294967296:Int)),sI (w%(4294967296:Int))],SA.c (.v Value.nilIface)]else SV.t [SA.a [sI 0,sI 0],SA.c (.v (.iface 64 (Value.int .i64 (3:Int))))])/\true=true else (SV.t [SA.a [sI (IntKind.wrap .i64 (getZ w (32:Int) (32:Int))),sI (IntKind.wrap .i64 (getZ w (0:Int) (32:Int)))],SA.c (.v Value.nilIface)]=bif Xa (w/(4294967296:Int)%(4294967296:Int)) (w%(4294967296:Int))then SV.t [SA.a [sI (w/(4294967296:Int)%(4294967296:Int)),sI (w%(4294967296:Int))],SA.c (.v Value.nilIface)]else SV.t [SA.a [sI 0,sI 0],SA.c (.v (.iface 64 (Value.int .i64 (3:Int))))])/\true=true) (by kernel_rfl) ?_
 have e1:=QkV hp
 have e2:=QkU hp
 rw[e1,e2,Q8 (by omega) (by omega),Q8 (by omega) (by omega)]
 exact⟨⟨hp,rfl⟩,⟨hp,rfl⟩,trivial,Qau (fun h=>⟨by rw[h];rfl,rfl⟩) (fun h=>⟨by rw[h];rfl,rfl⟩)⟩
abbrev recA (f:Nat->Int):SA:=.a [.ints (.int .u64) 32 f]
abbrev recB (f:Nat->Int):SB:=.cells [.ints (.int .u64) 32 f] 29
abbrev errA (n:Int):SA:=.c (.v (.iface 64 (.int .i64 n)))
def QaY:PCon:=⟨fun args=>match args with
 |[.c (.v (.int .i64 k))]=>1<=k/\k<=6
 |_=>False,fun args=>match args with
 |[.c (.v (.int .i64 k))]=>.t [recA (fL (Rec.new k).words),nilE]
 |_=>sv undef,fun _=>none⟩
theorem Qeu:(Con.pure QaY).holds Tryd.prog 22:=by
 refine Qp (Γ:=[(39,.pure QjW)]) Tryd.func22 rfl (by kernel_rfl) Qg Qc (fun W=>.cons (is_con W _) (.nil _ _ _)) QaY (fun _=>[]) 400 ?_
 intro W args hp
 unfold QaY at hp;dsimp only at hp;split at hp
 case h_2=>exact hp.elim
 rename_i k
 refine⟨rfl,?_⟩
 refine Qh (q:=True/\bif bif decide ((1:Int)<=k/\k<=(6:Int))then false else true then endP QaY [aI k] (SV.t [SA.a [nU 32 zF],SA.c (.v (.iface 64 (Value.int .i64 (1:Int))))]) []else endP QaY [aI k] (SV.t [SA.a [nU 32 fun (i:Nat)=>bif Nat.beq i 0 then IntKind.wrap .u64 k else (0:Int)],SA.c (.v Value.nilIface)]) []) (by kernel_rfl) ?_
 refine⟨trivial,Qau (fun h=>absurd (show decide (1<=k/\k<=6)=true from decide_eq_true hp) (by rw[h];decide)) (fun _=>⟨rfl,fun ρ=>?_⟩)⟩
 have e:∀i,i<32->(fun i=>bif Nat.beq i 0 then k else 0) i=fL (Rec.new k).words i:=fun i hi=>by
  cases i with
  |zero=>rfl
  |succ j=>rw[show (Rec.new k).words=k::List.replicate 31 0 from rfl,Xi,Qc9];rfl
 simp only[PCon.out,QaY,SV.den,List.map_cons,List.map_nil]
 rw[Qdf (by omega) (by omega),Xv e];rfl
def Qbu:PCon:=⟨fun args=>match args with
 |[.a [.ints (.int .u64) n f]]=>n=32/\0<=f 0/\f 0<=6
 |_=>False,fun args=>match args with
 |[.a [.ints (.int .u64) n f]]=>sv (.int .i64 (f 0))
 |_=>sv undef,fun _=>none⟩
theorem Qff:(Con.pure Qbu).holds Tryd.prog 41:=by
 refine Qp (Γ:=[]) Tryd.func41 rfl (by kernel_rfl) Qg Qc (fun W=>.nil _ _ _) Qbu (fun _=>[]) 400 ?_
 intro W args hp
 unfold Qbu at hp;dsimp only at hp;split at hp
 case h_2=>exact hp.elim
 rename_i n f
 obtain⟨rfl,h0,h6⟩:=hp
 refine⟨rfl,?_⟩
 refine Qh (q:=(iR (0:Int) (32:Int))/\0<32/\endP Qbu [SA.a [nU 32 f]] (SV.o (aI (IntKind.wrap .i64 (if (4294967296:Int)<f 0 then (4294967296:Int)else f 0)))) []) (by kernel_rfl) ?_
 refine⟨⟨by decide,by decide⟩,by decide,rfl,fun ρ=>?_⟩
 rw[if_neg (by omega),Q8 (by omega) (by omega)];rfl
def XV:PCon:=⟨fun args=>match args with
 |[.a [.ints (.int .u64) n f]]=>n=32
 |_=>False,fun args=>match args with
 |[.a [.ints (.int .u64) n f]]=>.o (Qcj (fL (toN 17 (fun i=>f (1+i)))))
 |_=>sv undef,fun _=>none⟩
theorem Qdr:(Con.pure XV).holds Tryd.prog 42:=by
 refine Qp (Γ:=[]) Tryd.func42 rfl (by kernel_rfl) Qg Qc (fun W=>.nil _ _ _) XV (fun _=>[]) 400 ?_
 intro W args hp
 unfold XV at hp;dsimp only at hp;split at hp
 case h_2=>exact hp.elim
 rename_i n f
 subst hp
 refine⟨rfl,?_⟩
 refine Qh (q:=((0:Int)<=(1:Int)/\(1:Int)<=(18:Int)/\(18:Int)<=(32:Int))/\endP XV [SA.a [nU 32 f]] (SV.o (SA.a [nU 17 fun (i:Nat)=>f (1+i)])) []) (by kernel_rfl) ?_
 exact⟨⟨by decide,by decide,by decide⟩,rfl,fun ρ=>Xv fun i hi=>(QcT (n:=17) (f:=fun i=>f (1+i)) hi).symm⟩
def Q1:PCon:=⟨fun args=>match args with
 |[.a [.ints (.int .u64) n f],.c (.v (.int .i64 t))]=>n=32/\0<=t/\t<4/\0<=f 26/\f 26<16
 |_=>False,fun args=>match args with
 |[.a [.ints (.int .u64) n f],.c (.v (.int .i64 t))]=>sv (.int .i64 (QC (f 26) t.toNat))
 |_=>sv undef,fun _=>none⟩
theorem Qdo:(Con.pure Q1).holds Tryd.prog 16:=by
 refine Qp (Γ:=[(30,.pure QgN)]) Tryd.func16 rfl (by kernel_rfl) Qg Qc (fun W=>.cons (Qk7 W _) (.nil _ _ _)) Q1 (fun _=>[]) 400 ?_
 intro W args hp
 unfold Q1 at hp;dsimp only at hp;split at hp
 case h_2=>exact hp.elim
 rename_i n f t
 obtain⟨rfl,h0,h4,g0,g16⟩:=hp
 refine⟨rfl,?_⟩
 refine Qh (q:=bif decide (t<(0:Int))then endP Q1 [SA.a [nU 32 f],aI t] (SV.o (aI 0)) []else bif decide (t>=(4:Int))then endP Q1 [SA.a [nU 32 f],aI t] (SV.o (aI 0)) []else (iR (26:Int) (32:Int))/\26<32/\U64 (f 26)/\bif bif bitZ (f 26) t then false else true then endP Q1 [SA.a [nU 32 f],aI t] (SV.o (aI 0)) []else endP Q1 [SA.a [nU 32 f],aI t] (SV.o (aI 1)) []) (by kernel_rfl) ?_
 obtain⟨T,rfl⟩:=Int.eq_ofNat_of_zero_le h0
 refine Qi (fun h=>absurd h (by omega)) (fun _=>Qi (fun h=>absurd h (by omega)) (fun _=>⟨⟨by decide,by decide⟩,by decide,⟨g0,by omega⟩,?_⟩))
 rw[Qj5 g0 g16 (by omega)]
 have h01:=QhH (f 26) T
 refine Qau (fun h=>⟨rfl,fun ρ=>?_⟩) (fun h=>⟨rfl,fun ρ=>?_⟩)
 · show Value.int .i64 0=Value.int .i64 (QC (f 26) T)
   have:¬QC (f 26) T=1:=by simpa using h
   rw[show QC (f 26) T=0 by omega]
 · show Value.int .i64 1=Value.int .i64 (QC (f 26) T)
   rw[show QC (f 26) T=1 by simpa using h]
def QP:PCon:=⟨fun args=>match args with
 |[.a [.ints (.int .u64) n f],.c (.v (.int .i64 t))]=>n=32/\0<=t/\t<4/\U64 (f (18+t.toNat))/\0<=f (22+t.toNat)/\f (22+t.toNat)<=9223372036854775807
 |_=>False,fun args=>match args with
 |[.a [.ints (.int .u64) n f],.c (.v (.int .i64 t))]=>.t [ansA (f (18+t.toNat)/4294967296%4294967296) (f (18+t.toNat)%4294967296),.c (.v (.int .i64 (f (22+t.toNat)))),nilE]
 |_=>sv undef,fun args=>match args with
 |[.a [.ints (.int .u64) n f],.c (.v (.int .i64 t))]=>some (Xa (f (18+t.toNat)/4294967296%4294967296) (f (18+t.toNat)%4294967296),.t [ansA 0 0,.c (.v (.int .i64 0)),errA 8])
 |_=>none⟩
theorem Qdt:(Con.pure QP).holds Tryd.prog 25:=by
 refine Qp (Γ:=[(45,.pure QdO)]) Tryd.func25 rfl (by kernel_rfl) Qg Qc (fun W=>.cons (Qgm W _) (.nil _ _ _)) QP (fun _=>[]) 400 ?_
 intro W args hp
 unfold QP at hp;dsimp only at hp;split at hp
 case h_2=>exact hp.elim
 rename_i n f t
 obtain⟨rfl,h0,h4,hu,w0,w1⟩:=hp
 refine⟨rfl,?_⟩
 refine Qh (q:=bif decide (t<(0:Int))then endP QP [SA.a [nU 32 f],aI t] (SV.t [SA.a [sI 0,sI 0],aI 0,SA.c (.v (.iface 64 (Value.int .i64 (2:Int))))]) []else bif decide (t>=(4:Int))then endP QP [SA.a [nU 32 f],aI t] (SV.t [SA.a [sI 0,sI 0],aI 0,SA.c (.v (.iface 64 (Value.int .i64 (2:Int))))]) []else ((0:Int)<=IntKind.wrap .i64 ((18:Int)+t)/\IntKind.wrap .i64 ((18:Int)+t)<(32:Int))/\Int.toNat (IntKind.wrap .i64 ((18:Int)+t))<32/\U64 (f (Int.toNat (IntKind.wrap .i64 ((18:Int)+t))))/\bif Xa (f (Int.toNat (IntKind.wrap .i64 ((18:Int)+t)))/(4294967296:Int)%(4294967296:Int)) (f (Int.toNat (IntKind.wrap .i64 ((18:Int)+t)))%(4294967296:Int))then ((0:Int)<=IntKind.wrap .i64 ((22:Int)+t)/\IntKind.wrap .i64 ((22:Int)+t)<(32:Int))/\Int.toNat (IntKind.wrap .i64 ((22:Int)+t))<32/\dP Tryd.f25 6 3 [xE 8,xE 7,⟨6,[],[1],[],false⟩,xE 5,xR 4 0,xF 3 0,xE 2,xE 1,xR 0 2]/\endP QP [SA.a [nU 32 f],aI t] (SV.t [SA.a [sI (f (Int.toNat (IntKind.wrap .i64 ((18:Int)+t)))/(4294967296:Int)%(4294967296:Int)),sI (f (Int.toNat (IntKind.wrap .i64 ((18:Int)+t)))%(4294967296:Int))],aI (IntKind.wrap .i64 (f (Int.toNat (IntKind.wrap .i64 ((22:Int)+t))))),SA.c (.v Value.nilIface)]) []else endP QP [SA.a [nU 32 f],aI t] (SV.t [SA.a [sI 0,sI 0],aI 0,SA.c (.v (.iface 64 (Value.int .i64 (8:Int))))]) []) (by kernel_rfl) ?_
 obtain⟨T,rfl⟩:=Int.eq_ofNat_of_zero_le h0
 rw[Int.toNat_natCast]at hu w0 w1
 have e1:IntKind.wrap .i64 ((18:Int)+(T:Int))=((18+T:Nat):Int):=by rw[Q8 (by omega) (by omega)];omega
 have e2:IntKind.wrap .i64 ((22:Int)+(T:Int))=((22+T:Nat):Int):=by rw[Q8 (by omega) (by omega)];omega
 rw[e1,e2,Int.toNat_natCast,Int.toNat_natCast,Q8 (x:=f (22+T)) (by omega) (by omega)]
 refine Qi (fun h=>absurd h (by omega)) (fun _=>Qi (fun h=>absurd h (by omega)) (fun _=>⟨⟨by omega,by omega⟩,by omega,hu,Qz (fun h=>⟨⟨by omega,by omega⟩,by omega,Qd (by kernel_rfl),rfl,fun ρ=>?_⟩) (fun h=>⟨rfl,fun ρ=>?_⟩)⟩))
 · simp only[PCon.out,QP,Int.toNat_natCast,h,cond_true];rfl
 · simp only[PCon.out,QP,Int.toNat_natCast,h,cond_false]
def Qr:PCon:=⟨fun args=>match args with
 |[.a [.ints (.int .u64) n f]]=>n=32/\RecW f
 |_=>False,fun _=>sv (.bool true),fun _=>none⟩
structure RoG where
 t:Nat
 ht:t<=4
structure RiG where
 t:Nat
 u:Nat
 ht:t<4
 hu:u<=t
def annO (f:Nat->Int):Ann where
 σ:=RoG
 I g:=([(1,.o (.c (.p 0 0))),(3,sv (.int .u64 (f 28))),(35,sv (.int .i64 g.t))],[recB f])
 dec g:=4-g.t
 pi _ _:=[0]
 nz:=[]
def annI (f:Nat->Int):Ann where
 rel:=some fun a b=>b.t=a.t
 σ:=RiG
 I g:=([(1,.o (.c (.p 0 0))),(3,sv (.int .u64 (f 28))),(6,sv (.int .u64 (f (22+g.t)))),(35,sv (.int .i64 g.t)),(69,sv (.int .i64 g.t)),(70,sv (.int .i64 g.u))],[recB f])
 dec g:=g.t-g.u
 pi _ _:=[0]
 nz:=[]
def agRR:List SA->List (Nat × Anns)
 |[.a [.ints (.int .u64) n f]]=>[(26,[(0,annO f),(2,annI f)])]
 |_=>[]
theorem Qcx:(Con.pure Qr).holds Tryd.prog 26:=by
 refine Qp (Γ:=[(41,.pure Qbu),(42,.pure XV),(46,.pure Qce),(45,.pure QdO)]) Tryd.func26 rfl (by kernel_rfl) Qg Qc
  (fun W=>.cons (Qff W _) (.cons (Qdr W _) (.cons (Qfg W _) (.cons (Qgm W _) (.nil _ _ _))))) Qr agRR 600 ?_
 intro W args hp
 unfold Qr at hp;dsimp only at hp;split at hp
 case h_2=>exact hp.elim
 rename_i n f
 obtain⟨rfl,h⟩:=hp
 refine⟨rfl,?_⟩
 refine Qh (q:=(iR (28:Int) (32:Int))/\28<32/\(32=32/\(0:Int)<=f 0/\f 0<=(6:Int))/\32=32/\(17=17/\ObjForm (f 0) (toN 17 (fL (toN 17 fun (i:Nat)=>f (1+i)))))/\bif bif Xo (f 0) (toN 17 (fL (toN 17 fun (i:Nat)=>f (1+i))))then false else true then dP Tryd.f26 2 1 [xE 20,xE 19,xE 18,xE 17,xE 16,xE 15,xE 14,xE 13,xE 12,xE 11,xE 10,xE 9,xE 8,xE 7,xE 6,xE 5,xE 4,xE 3,xR 2 0,xE 1,xR 0 0]/\endP Qr [SA.a [nU 32 f]] (SV.o (aB false)) []else (iR (26:Int) (32:Int))/\26<32/\(0:Int)<=(4:Int)/\bif Int.fdiv (f 26) (16:Int) != (0:Int)then dP Tryd.f26 2 1 [xE 20,xE 19,xE 18,xE 17,xE 16,xE 15,xE 14,xE 13,xE 12,xE 11,xE 10,xE 9,xR 8 0,xF 7 0,xE 6,xE 5,xE 4,xE 3,xR 2 0,xE 1,xR 0 0]/\endP Qr [SA.a [nU 32 f]] (SV.o (aB false)) []else bif decide (f 28>(1099511627776:Int))then dP Tryd.f26 2 1 [xE 20,xE 19,xE 18,xE 17,xE 16,xE 15,xE 14,xE 13,xE 12,xE 11,xE 10,xE 9,xR 8 0,xF 7 0,xE 6,xE 5,xE 4,xE 3,xR 2 0,xE 1,xR 0 0]/\endP Qr [SA.a [nU 32 f]] (SV.o (aB false)) []else (iR (27:Int) (32:Int))/\27<32/\dP Tryd.f26 2 1 [xE 20,xE 19,xR 18 0,xF 17 0,xE 16,xE 15,xE 14,xE 13,xE 12,xE 11,xE 10,xE 9,xR 8 0,xF 7 0,xE 6,xE 5,xE 4,xE 3,xR 2 0,xE 1,xR 0 0]/\bif decide (f 27>(1099511627776:Int))then endP Qr [SA.a [nU 32 f]] (SV.o (aB false)) []else (∃(s0:Ann.σ (annO f)),(eS (aP 0 0) (aP 0 0)/\eS (aU (f 28)) (aU (f 28))/\eS (aI 0) (aI ↑s0.1)/\True)/\[SB.cells [nU 32 f] 29]=[SB.cells [nU 32 f] 29])/\∀(s:RoG),bif decide ((↑s.1:Int)<(4:Int))then ((0:Int)<=IntKind.wrap .i64 ((18:Int)+(↑s.1:Int))/\IntKind.wrap .i64 ((18:Int)+(↑s.1:Int))<(32:Int))/\Int.toNat (IntKind.wrap .i64 ((18:Int)+(↑s.1:Int)))<32/\((0:Int)<=IntKind.wrap .i64 ((22:Int)+(↑s.1:Int))/\IntKind.wrap .i64 ((22:Int)+(↑s.1:Int))<(32:Int))/\Int.toNat (IntKind.wrap .i64 ((22:Int)+(↑s.1:Int)))<32/\dP Tryd.f26 7 1 [xE 9,xE 8,xR 7 0,xF 6 0,xE 5,xE 4,xR 3 0,xF 2 0,xE 1,xE 0]/\U64 (f (Int.toNat (IntKind.wrap .i64 ((18:Int)+(↑s.1:Int)))))/\bif Xa (f (Int.toNat (IntKind.wrap .i64 ((18:Int)+(↑s.1:Int))))/(4294967296:Int)%(4294967296:Int)) (f (Int.toNat (IntKind.wrap .i64 ((18:Int)+(↑s.1:Int))))%(4294967296:Int))then bif decide (f (Int.toNat (IntKind.wrap .i64 ((22:Int)+(↑s.1:Int))))>f 28)then endP Qr [SA.a [nU 32 f]] (SV.o (aB false)) []else bif bif (f (Int.toNat (IntKind.wrap .i64 ((18:Int)+(↑s.1:Int))))==(0:Int))==(f (Int.toNat (IntKind.wrap .i64 ((22:Int)+(↑s.1:Int))))==(0:Int))then false else true then endP Qr [SA.a [nU 32 f]] (SV.o (aB false)) []else ∃(s0:RiG),((eS (aP 0 0) (aP 0 0)/\eS (aU (f 28)) (aU (f 28))/\eS (aU (f (Int.toNat (IntKind.wrap .i64 ((22:Int)+(↑s.1:Int)))))) (aU (f (22+s0.1)))/\eS (aI ↑s.1) (aI ↑s0.1)/\eS (aI ↑s.1) (aI ↑s0.1)/\eS (aI 0) (aI ↑s0.2)/\True)/\[SB.cells [nU 32 f] 29]=[SB.cells [nU 32 f] 29])/\s0.1=s0.1/\∀(s_1:RiG),s_1.1=s0.1->bif decide ((↑s_1.2:Int)<(↑s_1.1:Int))then bif f (22+s_1.1) != (0:Int)then ((0:Int)<=IntKind.wrap .i64 ((22:Int)+(↑s_1.2:Int))/\IntKind.wrap .i64 ((22:Int)+(↑s_1.2:Int))<(32:Int))/\Int.toNat (IntKind.wrap .i64 ((22:Int)+(↑s_1.2:Int)))<32/\bif f (Int.toNat (IntKind.wrap .i64 ((22:Int)+(↑s_1.2:Int))))==f (22+s_1.1)then endP Qr [SA.a [nU 32 f]] (SV.o (aB false)) []else ∃(s':RiG),((eS (aP 0 0) (aP 0 0)/\eS (aU (f 28)) (aU (f 28))/\eS (aU (f (22+s_1.1))) (aU (f (22+s'.1)))/\eS (aI ↑s_1.1) (aI ↑s'.1)/\eS (aI ↑s_1.1) (aI ↑s'.1)/\eS (aI (IntKind.wrap .i64 ((↑s_1.2:Int)+(1:Int)))) (aI ↑s'.2)/\True)/\[SB.cells [nU 32 f] 29]=[SB.cells [nU 32 f] 29])/\s'.1=s0.1/\s'.1-s'.2<s_1.1-s_1.2 else ∃(s':RiG),((eS (aP 0 0) (aP 0 0)/\eS (aU (f 28)) (aU (f 28))/\eS (aU (f (22+s_1.1))) (aU (f (22+s'.1)))/\eS (aI ↑s_1.1) (aI ↑s'.1)/\eS (aI ↑s_1.1) (aI ↑s'.1)/\eS (aI (IntKind.wrap .i64 ((↑s_1.2:Int)+(1:Int)))) (aI ↑s'.2)/\True)/\[SB.cells [nU 32 f] 29]=[SB.cells [nU 32 f] 29])/\s'.1=s0.1/\s'.1-s'.2<s_1.1-s_1.2 else ∃(s':RoG),((eS (aP 0 0) (aP 0 0)/\eS (aU (f 28)) (aU (f 28))/\eS (aI (IntKind.wrap .i64 ((↑s_1.1:Int)+(1:Int)))) (aI ↑s'.1)/\True)/\[SB.cells [nU 32 f] 29]=[SB.cells [nU 32 f] 29])/\4-s'.1<4-s.1 else bif f (Int.toNat (IntKind.wrap .i64 ((18:Int)+(↑s.1:Int)))) != (0:Int)then endP Qr [SA.a [nU 32 f]] (SV.o (aB false)) []else bif decide (f (Int.toNat (IntKind.wrap .i64 ((22:Int)+(↑s.1:Int))))>f 28)then endP Qr [SA.a [nU 32 f]] (SV.o (aB false)) []else bif bif (f (Int.toNat (IntKind.wrap .i64 ((18:Int)+(↑s.1:Int))))==(0:Int))==(f (Int.toNat (IntKind.wrap .i64 ((22:Int)+(↑s.1:Int))))==(0:Int))then false else true then endP Qr [SA.a [nU 32 f]] (SV.o (aB false)) []else ∃(s0:RiG),((eS (aP 0 0) (aP 0 0)/\eS (aU (f 28)) (aU (f 28))/\eS (aU (f (Int.toNat (IntKind.wrap .i64 ((22:Int)+(↑s.1:Int)))))) (aU (f (22+s0.1)))/\eS (aI ↑s.1) (aI ↑s0.1)/\eS (aI ↑s.1) (aI ↑s0.1)/\eS (aI 0) (aI ↑s0.2)/\True)/\[SB.cells [nU 32 f] 29]=[SB.cells [nU 32 f] 29])/\s0.1=s0.1/\∀(s_1:RiG),s_1.1=s0.1->bif decide ((↑s_1.2:Int)<(↑s_1.1:Int))then bif f (22+s_1.1) != (0:Int)then ((0:Int)<=IntKind.wrap .i64 ((22:Int)+(↑s_1.2:Int))/\IntKind.wrap .i64 ((22:Int)+(↑s_1.2:Int))<(32:Int))/\Int.toNat (IntKind.wrap .i64 ((22:Int)+(↑s_1.2:Int)))<32/\bif f (Int.toNat (IntKind.wrap .i64 ((22:Int)+(↑s_1.2:Int))))==f (22+s_1.1)then endP Qr [SA.a [nU 32 f]] (SV.o (aB false)) []else ∃(s':RiG),((eS (aP 0 0) (aP 0 0)/\eS (aU (f 28)) (aU (f 28))/\eS (aU (f (22+s_1.1))) (aU (f (22+s'.1)))/\eS (aI ↑s_1.1) (aI ↑s'.1)/\eS (aI ↑s_1.1) (aI ↑s'.1)/\eS (aI (IntKind.wrap .i64 ((↑s_1.2:Int)+(1:Int)))) (aI ↑s'.2)/\True)/\[SB.cells [nU 32 f] 29]=[SB.cells [nU 32 f] 29])/\s'.1=s0.1/\s'.1-s'.2<s_1.1-s_1.2 else ∃(s':RiG),((eS (aP 0 0) (aP 0 0)/\eS (aU (f 28)) (aU (f 28))/\eS (aU (f (22+s_1.1))) (aU (f (22+s'.1)))/\eS (aI ↑s_1.1) (aI ↑s'.1)/\eS (aI ↑s_1.1) (aI ↑s'.1)/\eS (aI (IntKind.wrap .i64 ((↑s_1.2:Int)+(1:Int)))) (aI ↑s'.2)/\True)/\[SB.cells [nU 32 f] 29]=[SB.cells [nU 32 f] 29])/\s'.1=s0.1/\s'.1-s'.2<s_1.1-s_1.2 else ∃(s':RoG),((eS (aP 0 0) (aP 0 0)/\eS (aU (f 28)) (aU (f 28))/\eS (aI (IntKind.wrap .i64 ((↑s_1.1:Int)+(1:Int)))) (aI ↑s'.1)/\True)/\[SB.cells [nU 32 f] 29]=[SB.cells [nU 32 f] 29])/\4-s'.1<4-s.1 else ((0:Int)<=(29:Int)/\(29:Int)<=(32:Int)/\(32:Int)<=(32:Int))/\(iR (0:Int) (3:Int))/\29<32/\bif f 29 != (0:Int)then endP Qr [SA.a [nU 32 f]] (SV.o (aB false)) []else (iR (1:Int) (3:Int))/\30<32/\bif f 30 != (0:Int)then endP Qr [SA.a [nU 32 f]] (SV.o (aB false)) []else (iR (2:Int) (3:Int))/\31<32/\bif f 31 != (0:Int)then endP Qr [SA.a [nU 32 f]] (SV.o (aB false)) []else endP Qr [SA.a [nU 32 f]] (SV.o (aB true)) []) (by kernel_rfl) ?_
 obtain⟨t29,t30,t31⟩:=h.tail
 have hR:=h.1
 have k1:=hR.k1
 have k6:=hR.k6
 have c1:=hR.c1
 have v1:=hR.v1
 have g0:=hR.g0
 have g1:=hR.g1
 rw[Qex]at k1 k6
 rw[QdA]at c1
 rw[Qig]at v1
 rw[Qf3]at g0 g1
 have hok:QbX (f 0) (toN 17 fun i=>f (1+i)):=hR.ok
 have hrv:Xo (f 0) (toN 17 fun i=>f (1+i))=true:=by
  unfold Xo
  cases h4:(f 0==4)
  · rfl
  · have h4:=eq_of_beq h4
    obtain⟨l,e,l6,-,hh⟩:=ObjForm.list (.inl hok) (by omega) (by omega)
    simp only[cond_true]
    rw[e,QdD];exact (Qfs l).2 ⟨hh h4 hok,l6⟩
 have each (t:Nat) (ht:t<4):U64 (f (18+t))/\((f (18+t)=0/\f (22+t)=0)\/(Xa (f (18+t)/4294967296%4294967296) (f (18+t)%4294967296)=true/\f (18+t)≠0/\1<=f (22+t)/\f (22+t)<=f 28)):=by
  have:=hR.each t ht
  rw[QkK f t ht,Qf2 f t ht,QdA]at this
  rcases this with⟨a,b⟩|⟨⟨c,v,hA,e⟩,b,d⟩
  · exact⟨⟨by omega,by omega⟩,.inl ⟨a,b⟩⟩
  · have hw:=Qi8 hA
    rw[<- e]at hw
    exact⟨⟨by omega,by omega⟩,.inr ⟨by rw[hw.1,hw.2.1];exact (QcQ c v).2 hA,by omega,b,d⟩⟩
 have once (t u:Nat) (ht:t<4) (hu:u<t) (hn:f (22+t)≠0):f (22+u)≠f (22+t):=by
  have:=hR.once t u ht hu
  rw[Qf2 f t ht,Qf2 f u (by omega)]at this
  exact this hn
 have wa (t:Nat) (ht:t<4):IntKind.wrap .i64 ((18:Int)+(t:Int))=((18+t:Nat):Int):=by rw[Q8 (by omega) (by omega)];omega
 have ww (t:Nat) (ht:t<4):IntKind.wrap .i64 ((22:Int)+(t:Int))=((22+t:Nat):Int):=by rw[Q8 (by omega) (by omega)];omega
 rw[Qak (XX 17 _),hrv,t29,t30,t31,show Int.fdiv (f 26) 16=0 by rw[Int.fdiv_eq_ediv_of_nonneg _ (by decide)];omega]
 have hlast:∀(t:Nat),t<4->∀M,M=[recB f]->∃s':RoG,((some (SV.o (SA.c (.p 0 0)))=some (SV.o (SA.c (.p 0 0)))/\some (sv (.int .u64 (f 28)))=some (sv (.int .u64 (f 28)))/\some (sv (.int .i64 (IntKind.wrap .i64 ((t:Int)+1))))=some (sv (.int .i64 s'.t))/\True)/\M=[recB f])/\4-s'.t<4-t:=
  fun t ht M hM=>⟨⟨t+1,by omega⟩,⟨⟨rfl,rfl,svI (sucI (by omega)),trivial⟩,hM⟩,by dsimp only;omega⟩
 refine⟨⟨by decide,by decide⟩,by decide,⟨rfl,by omega,by omega⟩,rfl,⟨rfl,.inl hok⟩,Qau (fun h=>by cases h) (fun _=>⟨⟨by decide,by decide⟩,by decide,by decide,XG (fun h=>absurd rfl h) (fun _=>Qi (fun h=>absurd h (by omega)) (fun _=>⟨⟨by decide,by decide⟩,by decide,Qd (by kernel_rfl),Qi (fun h=>absurd h (by omega)) (fun _=>⟨⟨⟨0,by omega⟩,⟨rfl,rfl,rfl,trivial⟩,rfl⟩,?_⟩)⟩))⟩)⟩
 rintro⟨t,ht⟩
 dsimp only
 refine Qi (fun hlt=>?_) (fun _=>⟨⟨by decide,by decide,by decide⟩,⟨by decide,by decide⟩,by decide,XG (fun h=>absurd rfl h) (fun _=>⟨⟨by decide,by decide⟩,by decide,XG (fun h=>absurd rfl h) (fun _=>⟨⟨by decide,by decide⟩,by decide,XG (fun h=>absurd rfl h) (fun _=>⟨rfl,fun ρ=>rfl⟩)⟩)⟩)⟩)
 have ht4:t<4:=by omega
 obtain⟨hu,he⟩:=each t ht4
 rw[wa t ht4,ww t ht4,Int.toNat_natCast,Int.toNat_natCast]
 refine⟨⟨by omega,by omega⟩,by omega,⟨by omega,by omega⟩,by omega,Qd (by kernel_rfl),hu,?_⟩
 rcases he with⟨a0,b0⟩|⟨ha,a0,b0,b1⟩
 · rw[a0,b0]
   refine Qz (fun h=>absurd h (by decide)) (fun _=>XG (fun h=>absurd rfl h) (fun _=>Qi (fun h=>absurd h (by have:=hR.c0;rw[QdA]at this;omega)) (fun _=>Qau (fun h=>by cases h) (fun _=>?_))))
   refine⟨⟨t,0,ht4,by omega⟩,⟨⟨rfl,rfl,by rw[b0],rfl,rfl,rfl,trivial⟩,rfl⟩,rfl,?_⟩
   rintro⟨t',u,ht',hu'⟩ (rfl:t'=t)
   dsimp only
   rw[b0]
   refine Qi (fun hlt2=>XG (fun h=>absurd rfl h) (fun _=>?_)) (fun _=>hlast _ ht4 _ rfl)
   exact⟨⟨t',u+1,ht',by omega⟩,⟨⟨rfl,rfl,by rw[b0],rfl,rfl,svI (sucI (by omega)),trivial⟩,rfl⟩,rfl,by dsimp only;omega⟩
 · refine Qz (fun _=>?_) (fun h=>absurd (ha.symm.trans h) (by decide))
   refine Qi (fun h=>absurd h (by omega)) (fun _=>Qau (fun h=>?_) (fun _=>?_))
   · rw[show (f (18+t)==0)=false from beq_eq_false_iff_ne.2 a0,show (f (22+t)==0)=false from beq_eq_false_iff_ne.2 (by omega)]at h
     cases h
   refine⟨⟨t,0,ht4,by omega⟩,⟨⟨rfl,rfl,rfl,rfl,rfl,rfl,trivial⟩,rfl⟩,rfl,?_⟩
   rintro⟨t',u,ht',hu'⟩ (rfl:t'=t)
   dsimp only
   refine Qi (fun hlt2=>XG (fun _=>?_) (fun h=>absurd h (by omega))) (fun _=>hlast _ ht4 _ rfl)
   rw[ww u (by omega),Int.toNat_natCast]
   refine⟨⟨by omega,by omega⟩,by omega,Qar (fun h=>absurd h (once t' u ht' (by omega) (by omega))) (fun _=>?_)⟩
   exact⟨⟨t',u+1,ht',by omega⟩,⟨⟨rfl,rfl,rfl,rfl,rfl,svI (sucI (by omega)),trivial⟩,rfl⟩,rfl,by dsimp only;omega⟩
def QE:PCon:=⟨fun args=>match args with
 |[.a [.ints (.int .u64) n f],.c (.v (.int .i64 t)),.a [.one (.v (.int .i64 k)),.one (.v (.int .i64 key)),.one (.v (.int .i64 x))]]=>n=32/\RecW f/\0<=t/\t<4
 |_=>False,fun args=>match args with
 |[.a [.ints (.int .u64) n f],.c (.v (.int .i64 t)),.a [.one (.v (.int .i64 k)),.one (.v (.int .i64 key)),.one (.v (.int .i64 x))]]=>.t [recA (fL ((Rec.ofW (toN 32 f)).done t.toNat k key x).words),nilE]
 |_=>sv undef,fun args=>match args with
 |[.a [.ints (.int .u64) n f],.c (.v (.int .i64 t)),.a [.one (.v (.int .i64 k)),.one (.v (.int .i64 key)),.one (.v (.int .i64 x))]]=>some (opOk k key x,.t [recA (fun _=>0),errA 1])
 |_=>none⟩
theorem Qb0 (f g:Nat->Int) (T:Nat) (t k key x:Int) (ht:t.toNat=T) (ho:opOk k key x=true) (M:List SB) (hg:∀i,i<32->g i=fL ((Rec.ofW (toN 32 f)).done T k key x).words i):
 endP QE [recA f,.c (.v (.int .i64 t)),opA k key x] (.t [recA g,.c (.v .nilIface)]) M:=by
 refine⟨rfl,fun ρ=>?_⟩
 subst ht
 simp only[PCon.out,QE,ho,cond_true,SV.den,List.map_cons,List.map_nil]
 rw[Xv hg];rfl
theorem Qds:(Con.pure QE).holds Tryd.prog 24:=by
 refine Qp (Γ:=[(26,.pure Qr),(41,.pure Qbu),(42,.pure XV),(40,.pure XD),(43,.pure Qcg),(44,.pure QeU)]) Tryd.func24 rfl (by kernel_rfl) Qg Qc
  (fun W=>.cons (Qcx W _) (.cons (Qff W _) (.cons (Qdr W _) (.cons (do_con W _) (.cons (QhB W _) (.cons (QjO W _) (.nil _ _ _))))))) QE (fun _=>[]) 600 ?_
 intro W args hp
 unfold QE at hp;dsimp only at hp;split at hp
 case h_2=>exact hp.elim
 rename_i n f t k key x
 obtain⟨rfl,h,h0,h4⟩:=hp
 refine⟨rfl,?_⟩
 have hR:=h.1
 have k1:=hR.k1
 have k6:=hR.k6
 have c0:=hR.c0
 have c1:=hR.c1
 have g0:=hR.g0
 have g1:=hR.g1
 rw[Qex]at k1 k6
 rw[QdA]at c0 c1
 rw[Qf3]at g0 g1
 have hok:QbX (f 0) (toN 17 fun i=>f (1+i)):=hR.ok
 have ht:t=0\/t=1\/t=2\/t=3:=by omega
 rcases ht with rfl|rfl|rfl|rfl
 ·
  refine Qh (q:=(32=32/\RecW f)/\(32=32/\(0:Int)<=f 0/\f 0<=(6:Int))/\32=32/\(17=17/\QbX (f 0) (toN 17 (fL (toN 17 fun (i:Nat)=>f (1+i)))))/\bif opOk k key x then dP Tryd.f24 5 3 [xE 14,⟨13,[],[4],[],false⟩,⟨12,[],[3],[],false⟩,⟨11,[],[4],[4],false⟩,⟨10,[],[3],[3],false⟩,xE 9,xE 8,xE 7,xE 6,xE 5,xR 4 1,xE 3,xR 2 0,xE 1,xR 0 0]/\((0:Int)<=(1:Int)/\(1:Int)<=(32:Int)/\(32:Int)<=(32:Int))/\((0:Int)<=(0:Int)/\(0:Int)<=(17:Int)/\(17:Int)<=(17:Int))/\dP Tryd.f24 8 5 [⟨2,[3],[0],[],false⟩,xF 1 3,xF 0 0]/\QB (Prod.snd (objR (f 0) (toN 17 (fL (toN 17 fun (i:Nat)=>f (1+i)))) k key x)).1 (Prod.snd (objR (f 0) (toN 17 (fL (toN 17 fun (i:Nat)=>f (1+i)))) k key x)).2/\(iR (18:Int) (32:Int))/\18<32/\(iR (28:Int) (32:Int))/\28<32/\(iR (28:Int) (32:Int))/\28<32/\(iR (28:Int) (32:Int))/\28<32/\(iR (22:Int) (32:Int))/\22<32/\(iR (26:Int) (32:Int))/\26<32/\U64 (f 26)/\(iR (26:Int) (32:Int))/\26<32/\endP QE [SA.a [nU 32 f],aI 0,SA.a [sI k,sI key,sI x]] (SV.t [SA.a [nU 32 fun (i:Nat)=>bif Nat.beq i 26 then Qby (f 26) (0:Int)else bif Nat.beq i 22 then IntKind.wrap .u64 (f 28+(1:Int))else bif Nat.beq i 28 then IntKind.wrap .u64 (f 28+(1:Int))else bif Nat.beq i 18 then ansW (Prod.snd (objR (f 0) (toN 17 (fL (toN 17 fun (i:Nat)=>f (1+i)))) k key x)).1 (Prod.snd (objR (f 0) (toN 17 (fL (toN 17 fun (i:Nat)=>f (1+i)))) k key x)).2 else bif match Nat.ble 1 i with|false=>false|true=>Nat.ble i 17 then fL (objR (f 0) (toN 17 (fL (toN 17 fun (i:Nat)=>f (1+i)))) k key x).1 (match i with|0=>0|Nat.succ a=>a)else f i],SA.c (.v Value.nilIface)]) []else dP Tryd.f24 5 3 [xE 14,⟨13,[],[4],[],false⟩,⟨12,[],[3],[],false⟩,⟨11,[],[4],[4],false⟩,⟨10,[],[3],[3],false⟩,xE 9,xE 8,xE 7,xE 6,xE 5,xR 4 1,xE 3,xR 2 0,xE 1,xR 0 0]/\endP QE [SA.a [nU 32 f],aI 0,SA.a [sI k,sI key,sI x]] (SV.t [SA.a [nU 32 zF],SA.c (.v (.iface 64 (Value.int .i64 (1:Int))))]) []) (by kernel_rfl) ?_
  refine⟨⟨rfl,h⟩,⟨rfl,by omega,by omega⟩,rfl,⟨rfl,by rw[Qak (XX 17 _)];exact hok⟩,?_⟩
  rw[Qak (XX 17 _)]
  refine Qz (fun ho=>?_) (fun ho=>⟨Qd (by kernel_rfl),rfl,fun ρ=>?_⟩)
  · have hA:=(QcA hok k key x ho).1
    rw[Qdf (x:=f 28+1) (by omega) (by omega)]
    refine⟨Qd (by kernel_rfl),⟨by decide,by decide,by decide⟩,⟨by decide,by decide,by decide⟩,Qd (by kernel_rfl),hA,?_⟩
    repeat (first|refine⟨by decide,?_⟩|refine⟨⟨g0,by omega⟩,?_⟩)
    exact Qb0 f _ 0 0 k key x rfl ho _ (fun i hi=>Qdc h 0 (by decide) k key x ho i hi)
  · simp only[PCon.out,QE,ho,cond_false]
 ·
  refine Qh (q:=(32=32/\RecW f)/\(32=32/\(0:Int)<=f 0/\f 0<=(6:Int))/\32=32/\(17=17/\QbX (f 0) (toN 17 (fL (toN 17 fun (i:Nat)=>f (1+i)))))/\bif opOk k key x then dP Tryd.f24 5 3 [xE 14,⟨13,[],[4],[],false⟩,⟨12,[],[3],[],false⟩,⟨11,[],[4],[4],false⟩,⟨10,[],[3],[3],false⟩,xE 9,xE 8,xE 7,xE 6,xE 5,xR 4 1,xE 3,xR 2 0,xE 1,xR 0 0]/\((0:Int)<=(1:Int)/\(1:Int)<=(32:Int)/\(32:Int)<=(32:Int))/\((0:Int)<=(0:Int)/\(0:Int)<=(17:Int)/\(17:Int)<=(17:Int))/\dP Tryd.f24 8 5 [⟨2,[3],[0],[],false⟩,xF 1 3,xF 0 0]/\QB (Prod.snd (objR (f 0) (toN 17 (fL (toN 17 fun (i:Nat)=>f (1+i)))) k key x)).1 (Prod.snd (objR (f 0) (toN 17 (fL (toN 17 fun (i:Nat)=>f (1+i)))) k key x)).2/\(iR (19:Int) (32:Int))/\19<32/\(iR (28:Int) (32:Int))/\28<32/\(iR (28:Int) (32:Int))/\28<32/\(iR (28:Int) (32:Int))/\28<32/\(iR (23:Int) (32:Int))/\23<32/\(iR (26:Int) (32:Int))/\26<32/\U64 (f 26)/\(iR (26:Int) (32:Int))/\26<32/\endP QE [SA.a [nU 32 f],aI 1,SA.a [sI k,sI key,sI x]] (SV.t [SA.a [nU 32 fun (i:Nat)=>bif Nat.beq i 26 then Qby (f 26) (1:Int)else bif Nat.beq i 23 then IntKind.wrap .u64 (f 28+(1:Int))else bif Nat.beq i 28 then IntKind.wrap .u64 (f 28+(1:Int))else bif Nat.beq i 19 then ansW (Prod.snd (objR (f 0) (toN 17 (fL (toN 17 fun (i:Nat)=>f (1+i)))) k key x)).1 (Prod.snd (objR (f 0) (toN 17 (fL (toN 17 fun (i:Nat)=>f (1+i)))) k key x)).2 else bif match Nat.ble 1 i with|false=>false|true=>Nat.ble i 17 then fL (objR (f 0) (toN 17 (fL (toN 17 fun (i:Nat)=>f (1+i)))) k key x).1 (match i with|0=>0|Nat.succ a=>a)else f i],SA.c (.v Value.nilIface)]) []else dP Tryd.f24 5 3 [xE 14,⟨13,[],[4],[],false⟩,⟨12,[],[3],[],false⟩,⟨11,[],[4],[4],false⟩,⟨10,[],[3],[3],false⟩,xE 9,xE 8,xE 7,xE 6,xE 5,xR 4 1,xE 3,xR 2 0,xE 1,xR 0 0]/\endP QE [SA.a [nU 32 f],aI 1,SA.a [sI k,sI key,sI x]] (SV.t [SA.a [nU 32 zF],SA.c (.v (.iface 64 (Value.int .i64 (1:Int))))]) []) (by kernel_rfl) ?_
  refine⟨⟨rfl,h⟩,⟨rfl,by omega,by omega⟩,rfl,⟨rfl,by rw[Qak (XX 17 _)];exact hok⟩,?_⟩
  rw[Qak (XX 17 _)]
  refine Qz (fun ho=>?_) (fun ho=>⟨Qd (by kernel_rfl),rfl,fun ρ=>?_⟩)
  · have hA:=(QcA hok k key x ho).1
    rw[Qdf (x:=f 28+1) (by omega) (by omega)]
    refine⟨Qd (by kernel_rfl),⟨by decide,by decide,by decide⟩,⟨by decide,by decide,by decide⟩,Qd (by kernel_rfl),hA,?_⟩
    repeat (first|refine⟨by decide,?_⟩|refine⟨⟨g0,by omega⟩,?_⟩)
    exact Qb0 f _ 1 1 k key x rfl ho _ (fun i hi=>Qdc h 1 (by decide) k key x ho i hi)
  · simp only[PCon.out,QE,ho,cond_false]
 ·
  refine Qh (q:=(32=32/\RecW f)/\(32=32/\(0:Int)<=f 0/\f 0<=(6:Int))/\32=32/\(17=17/\QbX (f 0) (toN 17 (fL (toN 17 fun (i:Nat)=>f (1+i)))))/\bif opOk k key x then dP Tryd.f24 5 3 [xE 14,⟨13,[],[4],[],false⟩,⟨12,[],[3],[],false⟩,⟨11,[],[4],[4],false⟩,⟨10,[],[3],[3],false⟩,xE 9,xE 8,xE 7,xE 6,xE 5,xR 4 1,xE 3,xR 2 0,xE 1,xR 0 0]/\((0:Int)<=(1:Int)/\(1:Int)<=(32:Int)/\(32:Int)<=(32:Int))/\((0:Int)<=(0:Int)/\(0:Int)<=(17:Int)/\(17:Int)<=(17:Int))/\dP Tryd.f24 8 5 [⟨2,[3],[0],[],false⟩,xF 1 3,xF 0 0]/\QB (Prod.snd (objR (f 0) (toN 17 (fL (toN 17 fun (i:Nat)=>f (1+i)))) k key x)).1 (Prod.snd (objR (f 0) (toN 17 (fL (toN 17 fun (i:Nat)=>f (1+i)))) k key x)).2/\(iR (20:Int) (32:Int))/\20<32/\(iR (28:Int) (32:Int))/\28<32/\(iR (28:Int) (32:Int))/\28<32/\(iR (28:Int) (32:Int))/\28<32/\(iR (24:Int) (32:Int))/\24<32/\(iR (26:Int) (32:Int))/\26<32/\U64 (f 26)/\(iR (26:Int) (32:Int))/\26<32/\endP QE [SA.a [nU 32 f],aI 2,SA.a [sI k,sI key,sI x]] (SV.t [SA.a [nU 32 fun (i:Nat)=>bif Nat.beq i 26 then Qby (f 26) (2:Int)else bif Nat.beq i 24 then IntKind.wrap .u64 (f 28+(1:Int))else bif Nat.beq i 28 then IntKind.wrap .u64 (f 28+(1:Int))else bif Nat.beq i 20 then ansW (Prod.snd (objR (f 0) (toN 17 (fL (toN 17 fun (i:Nat)=>f (1+i)))) k key x)).1 (Prod.snd (objR (f 0) (toN 17 (fL (toN 17 fun (i:Nat)=>f (1+i)))) k key x)).2 else bif match Nat.ble 1 i with|false=>false|true=>Nat.ble i 17 then fL (objR (f 0) (toN 17 (fL (toN 17 fun (i:Nat)=>f (1+i)))) k key x).1 (match i with|0=>0|Nat.succ a=>a)else f i],SA.c (.v Value.nilIface)]) []else dP Tryd.f24 5 3 [xE 14,⟨13,[],[4],[],false⟩,⟨12,[],[3],[],false⟩,⟨11,[],[4],[4],false⟩,⟨10,[],[3],[3],false⟩,xE 9,xE 8,xE 7,xE 6,xE 5,xR 4 1,xE 3,xR 2 0,xE 1,xR 0 0]/\endP QE [SA.a [nU 32 f],aI 2,SA.a [sI k,sI key,sI x]] (SV.t [SA.a [nU 32 zF],SA.c (.v (.iface 64 (Value.int .i64 (1:Int))))]) []) (by kernel_rfl) ?_
  refine⟨⟨rfl,h⟩,⟨rfl,by omega,by omega⟩,rfl,⟨rfl,by rw[Qak (XX 17 _)];exact hok⟩,?_⟩
  rw[Qak (XX 17 _)]
  refine Qz (fun ho=>?_) (fun ho=>⟨Qd (by kernel_rfl),rfl,fun ρ=>?_⟩)
  · have hA:=(QcA hok k key x ho).1
    rw[Qdf (x:=f 28+1) (by omega) (by omega)]
    refine⟨Qd (by kernel_rfl),⟨by decide,by decide,by decide⟩,⟨by decide,by decide,by decide⟩,Qd (by kernel_rfl),hA,?_⟩
    repeat (first|refine⟨by decide,?_⟩|refine⟨⟨g0,by omega⟩,?_⟩)
    exact Qb0 f _ 2 2 k key x rfl ho _ (fun i hi=>Qdc h 2 (by decide) k key x ho i hi)
  · simp only[PCon.out,QE,ho,cond_false]
 ·
  refine Qh (q:=(32=32/\RecW f)/\(32=32/\(0:Int)<=f 0/\f 0<=(6:Int))/\32=32/\(17=17/\QbX (f 0) (toN 17 (fL (toN 17 fun (i:Nat)=>f (1+i)))))/\bif opOk k key x then dP Tryd.f24 5 3 [xE 14,⟨13,[],[4],[],false⟩,⟨12,[],[3],[],false⟩,⟨11,[],[4],[4],false⟩,⟨10,[],[3],[3],false⟩,xE 9,xE 8,xE 7,xE 6,xE 5,xR 4 1,xE 3,xR 2 0,xE 1,xR 0 0]/\((0:Int)<=(1:Int)/\(1:Int)<=(32:Int)/\(32:Int)<=(32:Int))/\((0:Int)<=(0:Int)/\(0:Int)<=(17:Int)/\(17:Int)<=(17:Int))/\dP Tryd.f24 8 5 [⟨2,[3],[0],[],false⟩,xF 1 3,xF 0 0]/\QB (Prod.snd (objR (f 0) (toN 17 (fL (toN 17 fun (i:Nat)=>f (1+i)))) k key x)).1 (Prod.snd (objR (f 0) (toN 17 (fL (toN 17 fun (i:Nat)=>f (1+i)))) k key x)).2/\(iR (21:Int) (32:Int))/\21<32/\(iR (28:Int) (32:Int))/\28<32/\(iR (28:Int) (32:Int))/\28<32/\(iR (28:Int) (32:Int))/\28<32/\(iR (25:Int) (32:Int))/\25<32/\(iR (26:Int) (32:Int))/\26<32/\U64 (f 26)/\(iR (26:Int) (32:Int))/\26<32/\endP QE [SA.a [nU 32 f],aI 3,SA.a [sI k,sI key,sI x]] (SV.t [SA.a [nU 32 fun (i:Nat)=>bif Nat.beq i 26 then Qby (f 26) (3:Int)else bif Nat.beq i 25 then IntKind.wrap .u64 (f 28+(1:Int))else bif Nat.beq i 28 then IntKind.wrap .u64 (f 28+(1:Int))else bif Nat.beq i 21 then ansW (Prod.snd (objR (f 0) (toN 17 (fL (toN 17 fun (i:Nat)=>f (1+i)))) k key x)).1 (Prod.snd (objR (f 0) (toN 17 (fL (toN 17 fun (i:Nat)=>f (1+i)))) k key x)).2 else bif match Nat.ble 1 i with|false=>false|true=>Nat.ble i 17 then fL (objR (f 0) (toN 17 (fL (toN 17 fun (i:Nat)=>f (1+i)))) k key x).1 (match i with|0=>0|Nat.succ a=>a)else f i],SA.c (.v Value.nilIface)]) []else dP Tryd.f24 5 3 [xE 14,⟨13,[],[4],[],false⟩,⟨12,[],[3],[],false⟩,⟨11,[],[4],[4],false⟩,⟨10,[],[3],[3],false⟩,xE 9,xE 8,xE 7,xE 6,xE 5,xR 4 1,xE 3,xR 2 0,xE 1,xR 0 0]/\endP QE [SA.a [nU 32 f],aI 3,SA.a [sI k,sI key,sI x]] (SV.t [SA.a [nU 32 zF],SA.c (.v (.iface 64 (Value.int .i64 (1:Int))))]) []) (by kernel_rfl) ?_
  refine⟨⟨rfl,h⟩,⟨rfl,by omega,by omega⟩,rfl,⟨rfl,by rw[Qak (XX 17 _)];exact hok⟩,?_⟩
  rw[Qak (XX 17 _)]
  refine Qz (fun ho=>?_) (fun ho=>⟨Qd (by kernel_rfl),rfl,fun ρ=>?_⟩)
  · have hA:=(QcA hok k key x ho).1
    rw[Qdf (x:=f 28+1) (by omega) (by omega)]
    refine⟨Qd (by kernel_rfl),⟨by decide,by decide,by decide⟩,⟨by decide,by decide,by decide⟩,Qd (by kernel_rfl),hA,?_⟩
    repeat (first|refine⟨by decide,?_⟩|refine⟨⟨g0,by omega⟩,?_⟩)
    exact Qb0 f _ 3 3 k key x rfl ho _ (fun i hi=>Qdc h 3 (by decide) k key x ho i hi)
  · simp only[PCon.out,QE,ho,cond_false]
end
section
def Qaj (a n:Int):Int:=(a%18446744073709551616)%n
theorem Xf (a n:Int) (h:0<n):0<=Qaj a n:=Int.emod_nonneg _ (by omega)
theorem Qb2 (a n:Int) (h:0<n):Qaj a n<n:=Int.emod_lt_of_pos _ h
theorem wrap_i64 {x:Int}(h : -9223372036854775808<=x/\x<9223372036854775808):IntKind.wrap .i64 x=x:=by
 simp only[IntKind.wrap,IntKind.bits,IntKind.signed];simp;omega
theorem QhD {x:Int}(h:0<=x/\x<18446744073709551616):IntKind.wrap .u64 x=x:=by
 simp only[IntKind.wrap,IntKind.bits,IntKind.signed];simp;omega
theorem Qjr (a n:Int) (h:0<n/\n<=9223372036854775807):IntKind.wrap .u64 n≠0/\IntKind.wrap .i64 ((IntKind.wrap .u64 a).tmod (IntKind.wrap .u64 n))=Qaj a n:=by
 have e:IntKind.u64.wrap a=a%18446744073709551616:=by simp[IntKind.wrap,IntKind.signed,IntKind.bits]
 have h1:0<=a%18446744073709551616:=Int.emod_nonneg _ (by decide)
 rw[QhD (x:=n) (by omega),e,Int.tmod_eq_emod_of_nonneg h1]
 have:=Xf a n h.1
 have:=Qb2 a n h.1
 have e2:a%18446744073709551616%n=Qaj a n:=rfl
 rw[e2]
 exact⟨by omega,wrap_i64 ⟨by omega,by omega⟩⟩
def wrTo (kind:Int) (z:Nat->Nat->Int):Nat->Rec
 |0=>Rec.new kind
 |i+1=>bif opOk (z i 1) (z i 2) (z i 3)then (wrTo kind z i).done (Qaj (z i 0) 4).toNat (z i 1) (z i 2) (z i 3)else wrTo kind z i
theorem pick4 (a:Int):(Qaj a 4).toNat<4:=by
 have h1:=Xf a 4 (by decide)
 have h2:=Qb2 a 4 (by decide)
 omega
theorem QhE (kind:Int) (z:Nat->Nat->Int) (h1:1<=kind) (h6:kind<=6):∀i:Nat,RecOK (i:Int) (wrTo kind z i)
 |0=>RecOK.new h1 h6
 |i+1=>by
  have ih:=QhE kind z h1 h6 i
  simp only[wrTo]
  cases ho:opOk (z i 1) (z i 2) (z i 3)
  · exact ih.mono (by omega)
  · have:=ih.done _ (pick4 (z i 0)) _ _ _ ho
    rw[show ((i+1:Nat):Int)=(i:Int)+1 by omega];exact this
theorem Qh3 {B:Int}{r:Rec}(h:RecOK B r) (hB:B<=1099511627776):RecW (fL r.words)/\Rec.ofW (toN 32 (fL r.words))=r:=
 RecW.of h hB (Qak (Rec.words_len h))
def AllI (ks:Nat->IntKind):Prop:=ks=fun _=>.i64
theorem fL_cnt (r:Rec) (h17:r.obj.length=17) (ha:r.ans.length=4) (hw:r.whn.length=4):fL r.words 28=r.cnt/\fL r.words 27=r.ver/\fL r.words 26=r.tog:=by
 have g:=Qa4 r h17 ha hw
 exact⟨g 28 (by decide),g 27 (by decide),g 26 (by decide)⟩
theorem Qi4 {B:Int}{r:Rec}(h:RecOK B r) (t:Nat) (ht:t<4):fL r.words (18+t)=fL r.ans t:=by
 rw[Qa4 r (Xl h.ok) h.a4 h.w4 (18+t) (by omega),if_neg (by omega),if_neg (by omega),if_pos (by omega),Nat.add_sub_cancel_left]
theorem Qi2 {B:Int}{r:Rec}(h:RecOK B r) (t:Nat) (ht:t<4):fL r.words (22+t)=fL r.whn t:=by
 rw[Qa4 r (Xl h.ok) h.a4 h.w4 (22+t) (by omega),if_neg (by omega),if_neg (by omega),if_neg (by omega),if_pos (by omega),Nat.add_sub_cancel_left]
theorem rec_at {B:Int}{r:Rec}(h:RecOK B r) (hB:B<=1099511627776) (t:Nat) (ht:t<4):U64 (fL r.words (18+t))/\0<=fL r.words (22+t)/\fL r.words (22+t)<=9223372036854775807:=by
 have e1:fL r.words (18+t)=r.ans.getD t 0:=Qi4 h t ht
 have e2:fL r.words (22+t)=r.whn.getD t 0:=Qi2 h t ht
 have c1:=h.c1
 rw[e1,e2]
 rcases h.each t ht with⟨a,b⟩|⟨⟨c,v,hA,e⟩,b,d⟩
 · exact⟨⟨by omega,by omega⟩,by omega,by omega⟩
 · have hw:=Qi8 hA
   exact⟨⟨by omega,by omega⟩,by omega,by omega⟩
theorem QkX {B:Int}{r:Rec}(h:RecOK B r) (T:Nat) (hT:T<4) (k key x:Int) (ho:opOk k key x=true) (t:Nat) (ht:t<4):
 fL (r.done T k key x).words (18+t)=(if t=T then ansW (objR r.kind r.obj k key x).2.1 (objR r.kind r.obj k key x).2.2 else fL r.words (18+t))/\fL (r.done T k key x).words (22+t)=(if t=T then r.cnt+1 else fL r.words (22+t)):=by
 have hd:=h.done T hT k key x ho
 rw[Qi4 hd t ht,Qi4 h t ht,Qi2 hd t ht,Qi2 h t ht]
 exact⟨QgJ (by rw[h.a4];exact hT),QgJ (by rw[h.w4];exact hT)⟩
end
section
open Go.RowKit
def QcM:PCon:=⟨fun args=>match args with
 |[.c (.v (.int .i64 a)),.c (.v (.int .i64 n))]=>0<n/\n<=9223372036854775807
 |_=>False,fun args=>match args with
 |[.c (.v (.int .i64 a)),.c (.v (.int .i64 n))]=>sv (.int .i64 (Qaj a n))
 |_=>sv undef,fun _=>none⟩
theorem Qev:(Con.pure QcM).holds Tryd.prog 10:=by
 refine Qm (AG:=[]) (Γ:=[]) Tryd.func10 rfl (by kernel_rfl) Qg Qc (fun _=>GamOk.nil _ _ _) QcM 400 ?_
 intro W args hp
 unfold QcM at hp;dsimp only at hp;split at hp
 case h_2=>exact hp.elim
 rename_i a n
 refine⟨rfl,?_⟩
 refine Qh (q:=IntKind.wrap .u64 n≠(0:Int)/\SV.o (aI (IntKind.wrap .i64 (Int.tmod (IntKind.wrap .u64 a) (IntKind.wrap .u64 n))))=SV.o (aI (Qaj a n))/\true=true) (by kernel_rfl) ?_
 have:=Qjr a n hp
 exact⟨this.1,by rw[this.2],rfl⟩
def QdP:PCon:=⟨fun args=>match args with
 |[.c (.v (.int .i64 a))]=>True
 |_=>False,fun args=>match args with
 |[.c (.v (.int .i64 a))]=>sv (.int .i64 (1+Qaj a 6))
 |_=>sv undef,fun _=>none⟩
theorem Qlg:(Con.pure QdP).holds Tryd.prog 9:=by
 refine Qm (AG:=[]) (Γ:=[(10,.pure QcM)]) Tryd.func9 rfl (by kernel_rfl) Qg Qc (fun W=>.cons (Qev W _) (.nil _ _ _)) QdP 400 ?_
 intro W args hp
 unfold QdP at hp;dsimp only at hp;split at hp
 case h_2=>exact hp.elim
 rename_i a
 refine⟨rfl,?_⟩
 refine Qh (q:=((0:Int)<(6:Int)/\(6:Int)<=(9223372036854775807:Int))/\SV.o (aI (IntKind.wrap .i64 ((1:Int)+Qaj a (6:Int))))=SV.o (aI ((1:Int)+Qaj a (6:Int)))/\true=true) (by kernel_rfl) ?_
 have h1:=Xf a 6 (by decide)
 have h2:=Qb2 a 6 (by decide)
 exact⟨⟨by decide,by decide⟩,by rw[Q8 (by omega) (by omega)],rfl⟩
def QfC:PCon:=⟨fun args=>match args with
 |[.c (.v (.int .i64 a))]=>True
 |_=>False,fun args=>match args with
 |[.c (.v (.int .i64 a))]=>.o (opA 1 0 a)
 |_=>sv undef,fun _=>none⟩
theorem Qh9:(Con.pure QfC).holds Tryd.prog 23:=by
 refine Qm (AG:=[]) (Γ:=[]) Tryd.func23 rfl (by kernel_rfl) Qg Qc (fun _=>GamOk.nil _ _ _) QfC 400 ?_
 intro W args hp
 unfold QfC at hp;dsimp only at hp;split at hp
 case h_2=>exact hp.elim
 rename_i a
 refine⟨rfl,?_⟩
 refine Qh (q:=SV.o (SA.a [sI 1,sI 0,sI a])=SV.o (SA.a [sI 1,sI 0,sI a])/\true=true) (by kernel_rfl) ?_
 exact⟨rfl,rfl⟩
def QbV:PCon:=⟨fun args=>match args with
 |[]=>True
 |_=>False,fun _=>sv (.bool true),fun _=>none⟩
theorem Qkd:(Con.pure QbV).holds Tryd.prog 6:=by
 refine Qm (AG:=[]) (Γ:=[(22,.pure QaY),(23,.pure QfC),(24,.pure QE),(25,.pure QP),(26,.pure Qr),(16,.pure Q1)]) Tryd.func6 rfl (by kernel_rfl) Qg Qc
  (fun W=>.cons (Qeu W _) (.cons (Qh9 W _) (.cons (Qds W _) (.cons (Qdt W _) (.cons (Qcx W _) (.cons (Qdo W _) (.nil _ _ _))))))) QbV 400 ?_
 intro W args hp
 unfold QbV at hp;dsimp only at hp;split at hp
 case h_2=>exact hp.elim
 refine⟨rfl,?_⟩
 refine Qh (q:=((1:Int)<=(1:Int)/\(1:Int)<=(6:Int))/\True/\(32=32/\RecW (fL (Rec.words (Rec.new (1:Int))))/\(0:Int)<=(2:Int)/\(2:Int)<(4:Int))/\dP Tryd.f6 2 1 [xE 8,⟨7,[],[1],[],false⟩,⟨6,[],[1],[1],false⟩,xE 5,xE 4,xE 3,xE 2,xE 1,xR 0 0]/\(32=32/\(0:Int)<=(2:Int)/\(2:Int)<(4:Int)/\U64 (4294967296:Int)/\(0:Int)<=(1:Int)/\(1:Int)<=(9223372036854775807:Int))/\(32=32/\RecW (fL (Rec.words (Rec.new (1:Int)))))/\(32=32/\RecW (fL (Rec.words (Rec.done (Rec.ofW (toN 32 (fL (Rec.words (Rec.new (1:Int)))))) 2 (1:Int) (0:Int) (9:Int)))))/\(32=32/\(0:Int)<=(2:Int)/\(2:Int)<(4:Int)/\(0:Int)<=(4:Int)/\(4:Int)<(16:Int))/\(32=32/\(0:Int)<=(2:Int)/\(2:Int)<(4:Int)/\(0:Int)<=(0:Int)/\(0:Int)<(16:Int))/\SV.o (aB true)=SV.o (aB true)/\true=true) (by kernel_rfl) ?_
 have r0:=Qh3 (RecOK.new (kind:=1) (by decide) (by decide)) (by decide)
 have r1:=Qh3 ((RecOK.new (kind:=1) (by decide) (by decide)).done 2 (by decide) 1 0 9 (by decide)) (by decide)
 rw[r0.2]
 exact⟨⟨by decide,by decide⟩,trivial,⟨rfl,r0.1,by decide,by decide⟩,Qd (by kernel_rfl),⟨rfl,by decide,by decide,⟨by decide,by decide⟩,by decide,by decide⟩,⟨rfl,r0.1⟩,⟨rfl,r1.1⟩,⟨rfl,by decide,by decide,by decide,by decide⟩,⟨rfl,by decide,by decide,by decide,by decide⟩,rfl,rfl⟩
def Qbt (W:World):PCon:=⟨fun args=>match args with
 |[.c (.v (.int .i64 k)),.c (.r a n c m sz ks z)]=>1<=k/\k<=6/\n=m/\sz=6/\AllI ks/\Rws 6 (fun _=>.i64) W a m c z
 |_=>False,fun args=>match args with
 |[.c (.v (.int .i64 k)),.c (.r a n c m sz ks z)]=>.o (recA (fL (wrTo k z (min m 30)).words))
 |_=>sv undef,fun _=>none⟩
structure WrG (m:Nat) where
 i:Nat
 hi:i<=m
def annWr (k:Int) (a:Option Addr) (m c n:Nat) (z:Nat->Nat->Int):Ann where
 σ:=WrG m
 I g:=([(4,.o (.c (.p 0 0))),(5,.o (.c (.p 1 0))),(20,.o (.c (.r a m c n 6 (fun _=>.i64) z))),(21,sv (.int .i64 m)),(22,sv (.int .i64 g.i))],[recB (fun _=>0),recB (fL (wrTo k z g.i).words)])
 dec g:=m-g.i
 pi env _:=[blkE env 4,blkE env 5]
 nz:=[]
def agWr:List SA->List (Nat × Anns)
 |[.c (.v (.int .i64 k)),.c (.r a n c m sz ks z)]=>[(8,[(0,annWr k a (min m 30) c m z)])]
 |_=>[]
theorem Qkq (W:World):(Con.pure (Qbt W)).holdsAt Tryd.prog W (fun _=>False) 8:=by
 refine Qa9 (Γ:=[(22,.pure QaY),(10,.pure QcM),(24,.pure QE)]) Tryd.func8 rfl (by kernel_rfl) Qg Qc
  (fun w _=>.cons (Qeu w _) (.cons (Qev w _) (.cons (Qds w _) (.nil _ _ _)))) (Qbt W) agWr 400 ?_
 intro w args hp hK
 unfold Qbt at hp;dsimp only at hp;split at hp
 case h_2=>exact hp.elim
 rename_i k a n c m sz ks z
 obtain⟨h1,h6,rfl,rfl,rfl,hr⟩:=hp
 refine⟨rfl,?_⟩
 refine Qh (q:=((1:Int)<=k/\k<=(6:Int))/\(((0:Int)<=if (30:Int)<(↑n:Int)then (30:Int)else (↑n:Int))/\(if (30:Int)<(↑n:Int)then (30:Int)else (↑n:Int))<=(↑c:Int))/\(∃(s0:Ann.σ (annWr k a (min n 30) c n z)),(eS (aP 0 0) (aP 0 0)/\eS (aP 1 0) (aP 1 0)/\eS (SA.c (.r a (Int.toNat (if (30:Int)<(↑n:Int)then (30:Int)else (↑n:Int))) c n 6 (fun (x:Nat)=>.i64) z)) (SA.c (.r a (min n 30) c n 6 (fun (x:Nat)=>.i64) z))/\eS (aI (↑(Int.toNat (if (30:Int)<(↑n:Int)then (30:Int)else (↑n:Int))):Int)) (aI (↑(min n 30):Int))/\eS (aI 0) (aI ↑s0.1)/\True)/\[SB.cells [nU 32 zF] 29,SB.cells [nU 32 (fL (Rec.words (Rec.new k)))] 29]=[SB.cells [nU 32 zF] 29,SB.cells [nU 32 (fL (Rec.words (wrTo k z s0.1)))] 29])/\∀(s:WrG (min n 30)),bif decide ((↑s.1:Int)<(↑(min n 30):Int))then (Rws 6 (fun (x:Nat)=>.i64) w a n c z/\(0:Int)<=(↑s.1:Int)/\(↑s.1:Int)<(↑(min n 30):Int)/\Int.toNat (↑s.1:Int)<n)/\(Rws 6 (fun (x:Nat)=>.i64) w a n c z/\Int.toNat (↑s.1:Int)<n)/\((0:Int)<(4:Int)/\(4:Int)<=(9223372036854775807:Int))/\(32=32/\RecW (fL (Rec.words (wrTo k z s.1)))/\(0:Int)<=Qaj (z (Int.toNat (↑s.1:Int)) 0) (4:Int)/\Qaj (z (Int.toNat (↑s.1:Int)) 0) (4:Int)<(4:Int))/\bif opOk (z (Int.toNat (↑s.1:Int)) 1) (z (Int.toNat (↑s.1:Int)) 2) (z (Int.toNat (↑s.1:Int)) 3)then dP Tryd.f8 5 3 [xE 12,⟨11,[],[3],[],false⟩,⟨10,[],[3],[3],false⟩,xE 9,xE 8,xE 7,xE 6,xR 5 2,xF 4 2,xE 3,xR 2 2,xF 1 2,xR 0 1]/\∃(s':WrG (min n 30)),((eS (aP 0 0) (aP 0 0)/\eS (aP 1 0) (aP 1 0)/\eS (SA.c (.r a (min n 30) c n 6 (fun (x:Nat)=>.i64) z)) (SA.c (.r a (min n 30) c n 6 (fun (x:Nat)=>.i64) z))/\eS (aI (↑(min n 30):Int)) (aI (↑(min n 30):Int))/\eS (aI (IntKind.wrap .i64 ((↑s.1:Int)+(1:Int)))) (aI ↑s'.1)/\True)/\[SB.cells [nU 32 zF] 29,SB.cells [nU 32 (fL (Rec.words (Rec.done (Rec.ofW (toN 32 (fL (Rec.words (wrTo k z s.1))))) (Int.toNat (Qaj (z (Int.toNat (↑s.1:Int)) 0) (4:Int))) (z (Int.toNat (↑s.1:Int)) 1) (z (Int.toNat (↑s.1:Int)) 2) (z (Int.toNat (↑s.1:Int)) 3))))] 29]=[SB.cells [nU 32 zF] 29,SB.cells [nU 32 (fL (Rec.words (wrTo k z s'.1)))] 29])/\min n 30-s'.1<min n 30-s.1 else dP Tryd.f8 5 3 [xE 12,⟨11,[],[3],[],false⟩,⟨10,[],[3],[3],false⟩,xE 9,xE 8,xE 7,xE 6,xR 5 2,xF 4 2,xE 3,xR 2 2,xF 1 2,xR 0 1]/\∃(s':WrG (min n 30)),((eS (aP 0 0) (aP 0 0)/\eS (aP 1 0) (aP 1 0)/\eS (SA.c (.r a (min n 30) c n 6 (fun (x:Nat)=>.i64) z)) (SA.c (.r a (min n 30) c n 6 (fun (x:Nat)=>.i64) z))/\eS (aI (↑(min n 30):Int)) (aI (↑(min n 30):Int))/\eS (aI (IntKind.wrap .i64 ((↑s.1:Int)+(1:Int)))) (aI ↑s'.1)/\True)/\[SB.cells [nU 32 zF] 29,SB.cells [nU 32 (fL (Rec.words (wrTo k z s.1)))] 29]=[SB.cells [nU 32 zF] 29,SB.cells [nU 32 (fL (Rec.words (wrTo k z s'.1)))] 29])/\min n 30-s'.1<min n 30-s.1 else endP (Qbt W) [aI k,SA.c (.r a n c n 6 (fun (x:Nat)=>.i64) z)] (SV.o (SA.a [nU 32 (fL (Rec.words (wrTo k z s.1)))])) []) (by kernel_rfl) ?_
 have e30:(if (30:Int)<(n:Int)then (30:Int)else (n:Int))=((min n 30:Nat):Int):=by split<;>omega
 have hc:=hr.1
 rw[e30,Int.toNat_natCast]
 refine⟨⟨h1,h6⟩,⟨by omega,by omega⟩,⟨⟨0,Nat.zero_le _⟩,⟨rfl,rfl,rfl,rfl,rfl,trivial⟩,rfl⟩,?_⟩
 rintro⟨i,hi⟩
 dsimp only
 refine Qi (fun hlt=>?_) (fun hge=>?_)
 · have hrw:=hr.below (hK.below (Nat.le_refl _) (fun _ h=>h.elim))
   have hok:=QhE k z h1 h6 i
   have hf:=Qh3 hok (by omega)
   have p0:=Xf (z i 0) 4 (by decide)
   have p4:=Qb2 (z i 0) 4 (by decide)
   rw[Int.toNat_natCast,hf.2]
   refine⟨⟨hrw,by omega,hlt,by omega⟩,⟨hrw,by omega⟩,⟨by decide,by decide⟩,⟨rfl,hf.1,p0,p4⟩,Qz (fun ho=>?_) (fun ho=>?_)⟩
   · refine⟨Qd (by kernel_rfl),⟨i+1,by omega⟩,⟨⟨rfl,rfl,rfl,rfl,svI (sucI (by omega)),trivial⟩,?_⟩,by dsimp only;omega⟩
     simp only[wrTo,ho,cond_true]
   · refine⟨Qd (by kernel_rfl),⟨i+1,by omega⟩,⟨⟨rfl,rfl,rfl,rfl,svI (sucI (by omega)),trivial⟩,?_⟩,by dsimp only;omega⟩
     simp only[wrTo,ho,cond_false]
 · obtain rfl:i=min n 30:=by omega
   exact⟨rfl,fun ρ=>rfl⟩
end
section
structure Ask where
 t:Nat
 g:Int
 k:Int
 key:Int
 x:Int
structure Dd where
 t:Int
 k:Int
 key:Int
 x:Int
 c:Int
 v:Int
def Ask.nil:Ask:=⟨0,0,0,0,0⟩
def Dd.nil:Dd:=⟨0,0,0,0,0,0⟩
def Ask.is (a:Ask) (z:Nat->Int):Prop:=z 0=(a.t:Int)/\z 1=a.g/\z 2=a.k/\z 3=a.key/\z 4=a.x
def Dd.is (a:Dd) (z:Nat->Int):Prop:=z 0=(a.t:Int)/\z 1=a.k/\z 2=a.key/\z 3=a.x/\z 4=a.c/\z 5=a.v
def IsA (z:Nat->Nat->Int) (l:List Ask):Prop:=∀i,i<l.length->(l.getD i Ask.nil).is (z i)
def IsD (z:Nat->Nat->Int) (l:List Dd):Prop:=∀i,i<l.length->(l.getD i Dd.nil).is (z i)
theorem getD_snoc {α:Type}{l:List α}{a d:α}{i:Nat}(h:i<(l++[a]).length):(i<l.length/\(l++[a]).getD i d=l.getD i d)\/(i=l.length/\(l++[a]).getD i d=a):=by
 rw[List.length_append,List.length_singleton]at h
 simp only[List.getD_eq_getElem?_getD]
 by_cases h1:i<l.length
 · exact .inl ⟨h1,by rw[List.getElem?_append_left h1]⟩
 · obtain rfl:i=l.length:=by omega
   exact .inr ⟨rfl,by simp⟩
theorem IsA.sub {z z':Nat->Nat->Int}{l:List Ask}(h:IsA z l) (e:∀i,i<l.length->∀j,z' i j=z i j):IsA z' l:=fun i hi=>by
 have:=h i hi;unfold Ask.is at this ⊢;simp only[e i hi];exact this
theorem IsD.sub {z z':Nat->Nat->Int}{l:List Dd}(h:IsD z l) (e:∀i,i<l.length->∀j,z' i j=z i j):IsD z' l:=fun i hi=>by
 have:=h i hi;unfold Dd.is at this ⊢;simp only[e i hi];exact this
theorem IsA.snoc {z z':Nat->Nat->Int}{l:List Ask}{a:Ask}(h:IsA z l) (e:∀i,i<l.length->∀j,z' i j=z i j) (e2:a.is (z' l.length)):IsA z' (l++[a]):=fun i hi=>by
 rcases getD_snoc (d:=Ask.nil) hi with⟨h1,h2⟩|⟨rfl,h2⟩
 · rw[h2];exact h.sub e i h1
 · rw[h2];exact e2
theorem IsD.snoc {z z':Nat->Nat->Int}{l:List Dd}{a:Dd}(h:IsD z l) (e:∀i,i<l.length->∀j,z' i j=z i j) (e2:a.is (z' l.length)):IsD z' (l++[a]):=fun i hi=>by
 rcases getD_snoc (d:=Dd.nil) hi with⟨h1,h2⟩|⟨rfl,h2⟩
 · rw[h2];exact h.sub e i h1
 · rw[h2];exact e2
theorem IsD.eq {z z':Nat->Nat->Int}{l:List Dd}(h:IsD z l) (h':IsD z' l):∀i,i<l.length->∀j,j<6->z i j=z' i j:=fun i hi j hj=>by
 have a:=h i hi
 have b:=h' i hi
 obtain⟨a0,a1,a2,a3,a4,a5⟩:=a
 obtain⟨b0,b1,b2,b3,b4,b5⟩:=b
 rcases (show j=0\/j=1\/j=2\/j=3\/j=4\/j=5 by omega)with rfl|rfl|rfl|rfl|rfl|rfl
 · rw[a0,b0]
 · rw[a1,b1]
 · rw[a2,b2]
 · rw[a3,b3]
 · rw[a4,b4]
 · rw[a5,b5]
def Ask.ok (a:Ask):Prop:=a.t<4/\(a.g=0\/a.g=1)/\opOk a.k a.key a.x=true
def AsksOK (l:List Ask):Prop:=∀a∈l,a.ok
def bOpen (r:Rec) (a:Ask):Bool:=QC r.tog a.t != a.g
def Qai (r:Rec) (a:Ask):Rec:=bif bOpen r a then r.done a.t a.k a.key a.x else r
def bDeed (r:Rec) (a:Ask):Dd:=⟨a.t,a.k,a.key,a.x,(objR r.kind r.obj a.k a.key a.x).2.1,(objR r.kind r.obj a.k a.key a.x).2.2⟩
def bDs (r:Rec) (a:Ask):List Dd:=bif bOpen r a then [bDeed r a]else []
def bR:Rec->List Ask->Rec
 |r,[]=>r
 |r,a::l=>bR (Qai r a) l
def bD:Rec->List Ask->List Dd
 |r,[]=>[]
 |r,a::l=>bDs r a++bD (Qai r a) l
def Rec.at (r:Rec) (v:Int):Rec:={ r with ver:=v }
def bDo (r:Rec) (l:List Ask):Rec:=(bR r l).at ((bR r l).ver+1)
theorem Qcl:∀(r:Rec) (l m:List Ask),bR r (l++m)=bR (bR r l) m
 |r,[],m=>rfl
 |r,a::l,m=>Qcl (Qai r a) l m
theorem Qcm:∀(r:Rec) (l m:List Ask),bD r (l++m)=bD r l++bD (bR r l) m
 |r,[],m=>rfl
 |r,a::l,m=>by show bDs r a++bD (Qai r a) (l++m)=(bDs r a++bD (Qai r a) l)++_;rw[Qcm (Qai r a) l m,List.append_assoc];rfl
theorem bD_one (r:Rec) (a:Ask):bD r [a]=bDs r a:=List.append_nil _
theorem Qlb (r:Rec) (l:List Ask) (a:Ask):bR r (l++[a])=Qai (bR r l) a:=Qcl r l [a]
theorem Qlc (r:Rec) (l:List Ask) (a:Ask):bD r (l++[a])=bD r l++bDs (bR r l) a:=by rw[Qcm,bD_one]
theorem Qa5 {l:List Ask}{i:Nat}(h:i<l.length):l.take (i+1)=l.take i++[l.getD i Ask.nil]:=by
 rw[List.take_add_one,List.getElem?_eq_getElem h];simp[List.getD_eq_getElem?_getD,h]
theorem AsksOK.get {l:List Ask}(h:AsksOK l) {i:Nat}(hi:i<l.length):(l.getD i Ask.nil).ok:=by
 rw[List.getD_eq_getElem?_getD,List.getElem?_eq_getElem hi];exact h _ (List.getElem_mem hi)
theorem AsksOK.tail {a:Ask}{l:List Ask}(h:AsksOK (a::l)):AsksOK l:=fun b hb=>h b (List.mem_cons_of_mem _ hb)
theorem QgR {B:Int}{r:Rec}{a:Ask}(h:RecOK B r) (ha:a.ok):RecOK (B+1) (Qai r a):=by
 unfold Qai
 cases bOpen r a
 · exact h.mono (by omega)
 · exact h.done a.t ha.1 a.k a.key a.x ha.2.2
theorem bR_ok:∀ {l:List Ask}{B:Int}{r:Rec},RecOK B r->AsksOK l->RecOK (B+l.length) (bR r l)
 |[],B,r,h,_=>h.mono (by simp)
 |a::l,B,r,h,ha=>by
  have:=bR_ok (l:=l) (QgR h (ha a List.mem_cons_self)) ha.tail
  rw[show B+1+(l.length:Int)=B+((a::l).length:Int) by simp;omega]at this;exact this
theorem Qi0 (r:Rec) (a:Ask):(Qai r a).ver=r.ver:=by unfold Qai;cases bOpen r a<;>rfl
theorem Qkk:∀(l:List Ask) (r:Rec),(bR r l).ver=r.ver
 |[],r=>rfl
 |a::l,r=>(Qkk l (Qai r a)).trans (Qi0 r a)
theorem bD_le:∀(l:List Ask) (r:Rec),(bD r l).length<=l.length
 |[],r=>Nat.le_refl _
 |a::l,r=>by
  have:=bD_le l (Qai r a)
  show (bDs r a++bD (Qai r a) l).length<=_
  rw[List.length_append,List.length_cons]
  have h1:(bDs r a).length<=1:=by unfold bDs;cases bOpen r a<;>simp
  omega
theorem Qeo {r:Rec}{a:Ask}(h:bOpen r a=false):Qai r a=r/\bDs r a=[]:=by unfold Qai bDs;rw[h];exact⟨rfl,rfl⟩
theorem Qi1 {B:Int}{r:Rec}{a:Ask}(h:RecOK B r) (ha:a.ok) (t:Nat) (ht:t<4):QC (Qai r a).tog t=if t=a.t then a.g else QC r.tog t:=by
 unfold Qai
 have hb01:QC r.tog a.t=0\/QC r.tog a.t=1:=by unfold QC;omega
 cases ho:bOpen r a
 · have:QC r.tog a.t=a.g:=by simpa [bOpen] using ho
   show QC r.tog t=_
   split
   · rename_i e;rw[e];exact this
   · rfl
 · have:QC r.tog a.t≠a.g:=by simpa [bOpen] using ho
   have e:=QfQ r.tog a.t t ha.1 ht h.g0 h.g1
   show QC (Qat r.tog a.t) t=_
   rw[e]
   split
   · have:=ha.2.1;omega
   · rfl
theorem Qkl:∀ {l:List Ask}{B:Int}{r:Rec},RecOK B r->AsksOK l->∀t,t<4->(∀a∈l,a.t≠t)->QC (bR r l).tog t=QC r.tog t
 |[],B,r,_,_,t,_,_=>rfl
 |a::l,B,r,h,ha,t,ht,hn=>by
  have h1:=Qkl (l:=l) (QgR h (ha a List.mem_cons_self)) ha.tail t ht (fun b hb=>hn b (List.mem_cons_of_mem _ hb))
  have h2:=Qi1 h (ha a List.mem_cons_self) t ht
  rw[if_neg (fun e=>hn a List.mem_cons_self e.symm)]at h2
  exact h1.trans h2
theorem bR_closed {B:Int}{r:Rec}(h:RecOK B r) (l m:List Ask) (c:Ask) (hl:AsksOK l) (hc:c.t<4) (hn:∀a∈l,a.t≠c.t) (hg:QC r.tog c.t=c.g):
 bR r (l++c::m)=bR r (l++m)/\bD r (l++c::m)=bD r (l++m):=by
 have hs:bOpen (bR r l) c=false:=by
  unfold bOpen;rw[Qkl h hl c.t hc hn,hg];simp
 have h1:=Qeo hs
 rw[Qcl,Qcl,Qcm,Qcm]
 show bR (Qai (bR r l) c) m=_/\bD r l++(bDs (bR r l) c++bD (Qai (bR r l) c) m)=_
 rw[h1.1,h1.2];exact⟨rfl,rfl⟩
def asOne (z:Nat->Nat->Int) (i:Nat):Ask:=⟨(Qaj (z i 0) 4).toNat,Qaj ((i:Int)+(z i 4).tmod 2+2) 2,z i 1,z i 2,z i 3⟩
def asTo (z:Nat->Nat->Int):Nat->List Ask
 |0=>[]
 |i+1=>bif opOk (z i 1) (z i 2) (z i 3)then asTo z i++[asOne z i]else asTo z i
theorem Qi5 (z:Nat->Nat->Int):∀n,AsksOK (asTo z n)
 |0=>fun a h=>by simp[asTo]at h
 |n+1=>fun a h=>by
  simp only[asTo]at h
  cases ho:opOk (z n 1) (z n 2) (z n 3)
  · rw[ho]at h;exact Qi5 z n a h
  · rw[ho]at h
    rcases List.mem_append.1 h with h|h
    · exact Qi5 z n a h
    · obtain rfl:=List.mem_singleton.1 h
      refine⟨pick4 _,?_,ho⟩
      have h1:=Xf ((n:Int)+(z n 4).tmod 2+2) 2 (by decide)
      have h2:=Qb2 ((n:Int)+(z n 4).tmod 2+2) 2 (by decide)
      show Qaj _ 2=0\/Qaj _ 2=1
      omega
theorem QgS (z:Nat->Nat->Int):∀n,(asTo z n).length<=n
 |0=>Nat.le_refl _
 |n+1=>by
  have:=QgS z n
  simp only[asTo]
  cases opOk (z n 1) (z n 2) (z n 3)
  · exact Nat.le_trans this (Nat.le_succ _)
  · rw[cond_true,List.length_append,List.length_singleton];omega
theorem Qjh {r:Rec}(h17:r.obj.length=17) (ha:r.ans.length=4) (hw:r.whn.length=4) (v:Int):r.words.set 27 v=(r.at v).words:=by
 obtain⟨kind,obj,ans,whn,tog,ver,cnt⟩:=r
 dsimp only at h17 ha hw
 match obj,h17 with
 |[_,_,_,_,_,_,_,_,_,_,_,_,_,_,_,_,_],_=>
  match ans,ha with
  |[_,_,_,_],_=>
   match whn,hw with
   |[_,_,_,_],_=>rfl
theorem toN_at {B:Int}{r:Rec}{f:Nat->Int}(h:RecOK B r) (hf:toN 32 f=r.words) (v:Int):toN 32 (fun i=>bif Nat.beq i 27 then v else f i)=(r.at v).words:=by
 rw[<- Qjh (Xl h.ok) h.a4 h.w4,<- hf,QfR]
 refine Qdi fun i hi=>?_
 by_cases e:i=27
 · subst e;rfl
 · rw[if_neg e]
   cases hb:Nat.beq i 27
   · rfl
   · exact absurd (Nat.eq_of_beq_eq_true hb) e
theorem Qkr {B:Int}{r:Rec}{f:Nat->Int}(h:RecOK B r) (hf:toN 32 f=r.words):f 26=r.tog/\f 27=r.ver/\f 28=r.cnt:=by
 have g:=fL_cnt r (Xl h.ok) h.a4 h.w4
 have e (i:Nat) (hi:i<32):f i=fL r.words i:=by rw[<- hf,QcT hi]
 exact⟨(e 26 (by decide)).trans g.2.2,(e 27 (by decide)).trans g.2.1,(e 28 (by decide)).trans g.1⟩
theorem QiM {B:Int}{r:Rec}(h:RecOK B r) (hB:B+1<=1099511627776) (T:Nat) (hT:T<4) (k key x:Int) (ho:opOk k key x=true):
 fL (r.done T k key x).words (18+T)/4294967296%4294967296=(objR r.kind r.obj k key x).2.1/\fL (r.done T k key x).words (18+T)%4294967296=(objR r.kind r.obj k key x).2.2 /\
 Xa (fL (r.done T k key x).words (18+T)/4294967296%4294967296) (fL (r.done T k key x).words (18+T)%4294967296)=true:=by
 have hA:=(QcA h.ok k key x ho).1
 have hw:=Qi8 hA
 have eT:=QkX h T hT k key x ho T hT
 rw[if_pos rfl,if_pos rfl]at eT
 rw[eT.1,hw.1,hw.2.1]
 exact⟨rfl,rfl,(QcQ _ _).2 hA⟩
def batL:List Ask:=[⟨1,1,1,0,5⟩,⟨1,1,1,0,5⟩,⟨0,0,1,0,1⟩]
theorem Qla:AsksOK batL:=by
 intro a h
 simp only[batL,List.mem_cons,List.not_mem_nil,or_false]at h
 rcases h with rfl|rfl|rfl<;>exact⟨by decide,by decide,by decide⟩
theorem batL_d:bD (Rec.new 6) batL=[⟨1,1,0,5,1,0⟩]:=by rfl
end
section
open Go.RowKit
abbrev Qa3 (m c:Nat) (z:Nat->Nat->Int):SB:=.rows 36 [.int .i64,.int .i64,.int .i64,.int .i64,.int .i64] 5 m c z
abbrev Qfe (m c:Nat) (z:Nat->Nat->Int):SB:=.rows 49 [.int .i64,.int .i64,.int .i64,.int .i64,.int .i64,.int .i64] 6 m c z
abbrev nzD (t:Nat):NZ:=.tmp t 49 6 [.int .i64,.int .i64,.int .i64,.int .i64,.int .i64,.int .i64]
abbrev nzA (t:Nat):NZ:=.tmp t 36 5 [.int .i64,.int .i64,.int .i64,.int .i64,.int .i64]
def QaZ:PCon:=⟨fun args=>match args with
 |[.a [.ints (.int .u64) n f],.a [.one (.v (.int .i64 t)),.one (.v (.int .i64 g)),.one (.v (.int .i64 a)),.one (.v (.int .i64 b)),.one (.v (.int .i64 c))]]=>n=32/\0<=t/\t<4/\(g=0\/g=1)/\0<=f 26/\f 26<16
 |_=>False,fun args=>match args with
 |[.a [.ints (.int .u64) n f],.a [.one (.v (.int .i64 t)),.one (.v (.int .i64 g)),.one (.v (.int .i64 a)),.one (.v (.int .i64 b)),.one (.v (.int .i64 c))]]=>.t [.c (.v (.bool (QC (f 26) t.toNat != g))),nilE]
 |_=>sv undef,fun _=>none⟩
theorem Qju:(Con.pure QaZ).holds Tryd.prog 31:=by
 refine Qp (Γ:=[(16,.pure Q1)]) Tryd.func31 rfl (by kernel_rfl) Qg Qc (fun W=>.cons (Qdo W _) (.nil _ _ _)) QaZ (fun _=>[]) 400 ?_
 intro W args hp
 unfold QaZ at hp;dsimp only at hp;split at hp
 case h_2=>exact hp.elim
 rename_i n f t g a b c
 obtain⟨rfl,h0,h4,hg,f0,f1⟩:=hp
 refine⟨rfl,?_⟩
 refine Qh (q:=bif decide (t<(0:Int))then endP QaZ [SA.a [nU 32 f],SA.a [sI t,sI g,sI a,sI b,sI c]] (SV.t [aB false,SA.c (.v (.iface 64 (Value.int .i64 (2:Int))))]) []else bif decide (t>=(4:Int))then endP QaZ [SA.a [nU 32 f],SA.a [sI t,sI g,sI a,sI b,sI c]] (SV.t [aB false,SA.c (.v (.iface 64 (Value.int .i64 (2:Int))))]) []else bif g != (0:Int)then bif g != (1:Int)then endP QaZ [SA.a [nU 32 f],SA.a [sI t,sI g,sI a,sI b,sI c]] (SV.t [aB false,SA.c (.v (.iface 64 (Value.int .i64 (1:Int))))]) []else (32=32/\(0:Int)<=t/\t<(4:Int)/\(0:Int)<=f 26/\f 26<(16:Int))/\dP Tryd.f31 5 2 [xE 8,xE 7,xE 6,xR 5 1,xF 4 1,xE 3,xR 2 1,xF 1 1,xR 0 0]/\endP QaZ [SA.a [nU 32 f],SA.a [sI t,sI g,sI a,sI b,sI c]] (SV.t [aB (QC (f 26) (Int.toNat t) != g),SA.c (.v Value.nilIface)]) []else (32=32/\(0:Int)<=t/\t<(4:Int)/\(0:Int)<=f 26/\f 26<(16:Int))/\dP Tryd.f31 5 2 [xE 8,xE 7,xE 6,xR 5 1,xF 4 1,xE 3,xR 2 1,xF 1 1,xR 0 0]/\endP QaZ [SA.a [nU 32 f],SA.a [sI t,sI g,sI a,sI b,sI c]] (SV.t [aB (QC (f 26) (Int.toNat t) != g),SA.c (.v Value.nilIface)]) []) (by kernel_rfl) ?_
 have hd:(32=32/\0<=t/\t<4/\0<=f 26/\f 26<16):=⟨rfl,h0,h4,f0,f1⟩
 refine Qi (fun h=>absurd h (by omega)) (fun _=>Qi (fun h=>absurd h (by omega)) (fun _=>XG (fun h=>XG (fun h=>absurd hg (by omega)) (fun _=>?_)) (fun _=>?_)))
 · exact⟨hd,Qd (by kernel_rfl),rfl,fun ρ=>rfl⟩
 · exact⟨hd,Qd (by kernel_rfl),rfl,fun ρ=>rfl⟩
theorem OldOk.none (w:World) {ρ:Nat->Nat}{k:Nat}:OldOk w w (feet (denM ρ k [])):=fun w' k=>⟨fun sz ks a m c z h=>h.below (k.below (Nat.le_refl _) (fun g ⟨e,he,_⟩=>absurd he List.not_mem_nil)),fun b o v h=>(k.cell (Qgh h) (fun ⟨e,he,_⟩=>absurd he List.not_mem_nil)).trans h⟩
structure AskS where
 a:Option Addr
 n:Nat
 c:Nat
 z:Nat->Nat->Int
def Qgg (W:World):MCon where
 σ:=AskS
 χ:=LstR
 pre s:=Rws 6 (fun _=>.i64) W s.a s.n s.c s.z
 args s:=[.c (.r s.a s.n s.c s.n 6 (fun _=>.i64) s.z)]
 mem s:=[]
 ok s x:=((asTo s.z (min s.n 12)).length<=x.m/\x.m<=x.c)/\IsA x.z (asTo s.z (min s.n 12))
 val s x:=.o (.c (.so 0 0 5 (asTo s.z (min s.n 12)).length x.c x.nn))
 mem' s x:=[Qa3 x.m x.c x.z]
 k:=0
 len:=1
 det:=none
 find args M:=some []
structure AsG (s:AskS) where
 i:Nat
 m:Nat
 c:Nat
 nn:Bool
 z:Nat->Nat->Int
 hi:i<=min s.n 12
 hm:(asTo s.z i).length<=m/\m<=c
 hz:IsA z (asTo s.z i)
def Qjb (s:AskS):Ann where
 σ:=AsG s
 I g:=([(3,.o (.c (.so 0 0 5 (asTo s.z g.i).length g.c g.nn))),(10,.o (.c (.r s.a (min s.n 12) s.c s.n 6 (fun _=>.i64) s.z))),(11,sv (.int .i64 (min s.n 12:Nat))),(12,sv (.int .i64 g.i))],[Qa3 g.m g.c g.z])
 dec g:=min s.n 12-g.i
 pi env _:=[blkE env 3]
 nz:=[nzA 3]
theorem asks_con (W:World):(Con.mem (Qgg W)).holdsAt Tryd.prog W (fun _=>False) 12:=by
 refine Qw (Γ:=[(7,.pure Qbv),(10,.pure QcM)]) (fun w=>w) Tryd.func12 rfl (by kernel_rfl) Qg Qc (fun w S' _ _=>.cons (Qf0 w _) (.cons (Qev w _) (.nil _ _ _))) (Qgg W) (fun s=>[(12,[(0,Qjb s)])]) (fun x0 h=>by cases h)
  (fun s ρ w _ _ _=>OldOk.none w) [nzA 0] rpL 400 ?_
 rintro⟨a,n,c,z⟩ w hr hK
 refine⟨rfl,?_⟩
 have hr:=Rws.below hr (hK.below (Nat.le_refl _) (fun _ h=>h.elim))
 have hc:=hr.1
 dsimp only at hr hc
 refine Qh (q:=(((0:Int)<=if (12:Int)<(↑n:Int)then (12:Int)else (↑n:Int))/\(if (12:Int)<(↑n:Int)then (12:Int)else (↑n:Int))<=(↑c:Int))/\(∃(s0:Ann.σ (Qjb (AskS.mk a n c z))),(eS (SA.c (.so 0 0 5 0 0 false)) (SA.c (.so 0 0 5 (List.length (asTo z s0.1)) s0.3 s0.4))/\eS (SA.c (.r a (Int.toNat (if (12:Int)<(↑n:Int)then (12:Int)else (↑n:Int))) c n 6 (fun (x:Nat)=>.i64) z)) (SA.c (.r a (min n 12) c n 6 (fun (x:Nat)=>.i64) z))/\eS (aI (↑(Int.toNat (if (12:Int)<(↑n:Int)then (12:Int)else (↑n:Int))):Int)) (aI (↑(min n 12):Int))/\eS (aI 0) (aI ↑s0.1)/\True)/\[SB.rows 36 kI5 5 0 0 fun (x x_1:Nat)=>(0:Int)]=[SB.rows 36 kI5 5 s0.2 s0.3 s0.5])/\∀(s:AsG (AskS.mk a n c z)),bif decide ((↑s.1:Int)<(↑(min n 12):Int))then (Rws 6 (fun (x:Nat)=>.i64) w a n c z/\(0:Int)<=(↑s.1:Int)/\(↑s.1:Int)<(↑(min n 12):Int)/\Int.toNat (↑s.1:Int)<n)/\(Rws 6 (fun (x:Nat)=>.i64) w a n c z/\Int.toNat (↑s.1:Int)<n)/\True/\bif opOk (z (Int.toNat (↑s.1:Int)) 1) (z (Int.toNat (↑s.1:Int)) 2) (z (Int.toNat (↑s.1:Int)) 3)then ((0:Int)<(4:Int)/\(4:Int)<=(9223372036854775807:Int))/\(2:Int)≠(0:Int)/\((0:Int)<(2:Int)/\(2:Int)<=(9223372036854775807:Int))/\dP Tryd.f12 6 2 [⟨16,[2],[0,3],[],true⟩,⟨15,[],[2],[2],false⟩,xE 14,xR 13 1,xF 12 1,xE 11,xE 10,xE 9,xE 8,xR 7 1,xF 6 1,xF 5 1,xE 4,xE 3,xR 2 1,xF 1 1,xF 0 0]/\((List.length (asTo z s.1)<=s.2/\s.3=s.3)/\(1<=1/\1=1)/\List.length (asTo z s.1)+1<=68719476736)/\∀(c_1:Nat),List.length (asTo z s.1)+1<=c_1->dP Tryd.f12 6 2 [xF 17 3,⟨16,[2],[0,3],[3],true⟩,⟨15,[],[2],[2],false⟩,xE 14,xR 13 1,xF 12 1,xE 11,xE 10,xE 9,xE 8,xR 7 1,xF 6 1,xF 5 1,xE 4,xE 3,xR 2 1,xF 1 1,xF 0 0]/\∃(s':AsG (AskS.mk a n c z)),((eS (SA.c (.so 3 0 5 (List.length (asTo z s.1)+1) c_1 s.4)) (SA.c (.so 3 0 5 (List.length (asTo z s'.1)) s'.3 s'.4))/\eS (SA.c (.r a (min n 12) c n 6 (fun (x:Nat)=>.i64) z)) (SA.c (.r a (min n 12) c n 6 (fun (x:Nat)=>.i64) z))/\eS (aI (↑(min n 12):Int)) (aI (↑(min n 12):Int))/\eS (aI (IntKind.wrap .i64 ((↑s.1:Int)+(1:Int)))) (aI ↑s'.1)/\True)/\[SB.rows 36 kI5 5 (List.length (asTo z s.1)+1) c_1 fun (i j:Nat)=>bif Nat.ble (i+1) (List.length (asTo z s.1))then s.5 i j else match List.get?Internal (match List.get?Internal [[Qaj (z (Int.toNat (↑s.1:Int)) 0) (4:Int),Qaj (IntKind.wrap .i64 (IntKind.wrap .i64 ((↑s.1:Int)+Int.tmod (z (Int.toNat (↑s.1:Int)) 4) (2:Int))+(2:Int))) (2:Int),z (Int.toNat (↑s.1:Int)) 1,z (Int.toNat (↑s.1:Int)) 2,z (Int.toNat (↑s.1:Int)) 3]] (0+(i-List.length (asTo z s.1)))with|some x=>x|none=>[]) j with|some x=>x|none=>(0:Int)]=[SB.rows 36 kI5 5 s'.2 s'.3 s'.5])/\min n 12-s'.1<min n 12-s.1 else ∃(s':AsG (AskS.mk a n c z)),((eS (SA.c (.so 0 0 5 (List.length (asTo z s.1)) s.3 s.4)) (SA.c (.so 0 0 5 (List.length (asTo z s'.1)) s'.3 s'.4))/\eS (SA.c (.r a (min n 12) c n 6 (fun (x:Nat)=>.i64) z)) (SA.c (.r a (min n 12) c n 6 (fun (x:Nat)=>.i64) z))/\eS (aI (↑(min n 12):Int)) (aI (↑(min n 12):Int))/\eS (aI (IntKind.wrap .i64 ((↑s.1:Int)+(1:Int)))) (aI ↑s'.1)/\True)/\[SB.rows 36 kI5 5 s.2 s.3 s.5]=[SB.rows 36 kI5 5 s'.2 s'.3 s'.5])/\min n 12-s'.1<min n 12-s.1 else endN (Qgg W) [nzA 0] rpL (AskS.mk a n c z) (SV.o (SA.c (.so 0 0 5 (List.length (asTo z s.1)) s.3 s.4))) [SB.rows 36 kI5 5 s.2 s.3 s.5]) (by kernel_rfl) ?_
 have e12:(if (12:Int)<(n:Int)then (12:Int)else (n:Int))=((min n 12:Nat):Int):=by split<;>omega
 rw[e12,Int.toNat_natCast]
 refine⟨⟨by omega,by omega⟩,⟨⟨0,0,0,false,_,Nat.zero_le _,⟨Nat.le_refl _,Nat.le_refl _⟩,fun i hi=>absurd hi (Nat.not_lt_zero _)⟩,⟨rfl,rfl,rfl,rfl,trivial⟩,rfl⟩,?_⟩
 rintro⟨i,m1,c1,nn,z1,hi,hm,hz⟩
 dsimp only at hi hm hz ⊢
 have hl:=QgS z i
 refine Qi (fun hlt=>?_) (fun hge=>?_)
 · rw[Int.toNat_natCast]
   refine⟨⟨hr,by omega,hlt,by omega⟩,⟨hr,by omega⟩,trivial,Qz (fun ho=>?_) (fun ho=>?_)⟩
   · have ht : -1<=(z i 4).tmod 2/\(z i 4).tmod 2<=1:=by
      rcases Int.le_total 0 (z i 4)with h|h
      · rw[Int.tmod_eq_emod_of_nonneg h];omega
      · have:(z i 4).tmod 2=-((-(z i 4)).tmod 2):=by rw[Int.neg_tmod];omega
        rw[this,Int.tmod_eq_emod_of_nonneg (by omega)];omega
     rw[Q8 (x:=(i:Int)+(z i 4).tmod 2) (by omega) (by omega),Q8 (x:=(i:Int)+(z i 4).tmod 2+2) (by omega) (by omega)]
     have e:asTo z (i+1)=asTo z i++[asOne z i]:=by simp only[asTo,ho,cond_true]
     have el:(asTo z (i+1)).length=(asTo z i).length+1:=by rw[e,List.length_append];rfl
     have p0:=Xf (z i 0) 4 (by decide)
     refine⟨⟨by decide,by decide⟩,by decide,⟨by decide,by decide⟩,Qd (by kernel_rfl),⟨⟨hm.1,rfl⟩,⟨Nat.le_refl _,rfl⟩,by omega⟩,fun c' hc'=>⟨Qd (by kernel_rfl),⟨i+1,(asTo z i).length+1,c',nn,_,(by omega:i+1<=min n 12),⟨by show (asTo z (i+1)).length<=_;omega,hc'⟩,?_⟩,⟨⟨congrArg (fun k=>some (SV.o (SA.c (SC.so 3 0 5 k c' nn)))) el.symm,rfl,rfl,svI (sucI (by omega)),trivial⟩,rfl⟩,by dsimp only;omega⟩⟩
     show IsA _ (asTo z (i+1))
     rw[e]
     refine hz.snoc (fun j hj k=>catT hj) ⟨?_,?_,?_,?_,?_⟩
     · refine catF.trans ?_
       rw[Nat.sub_self];show Qaj (z i 0) 4=((Qaj (z i 0) 4).toNat:Int);omega
     all_goals exact catF.trans (by rw[Nat.sub_self];rfl)
   · have e:asTo z (i+1)=asTo z i:=by simp only[asTo,ho,cond_false]
     exact⟨⟨i+1,m1,c1,nn,z1,(by omega:i+1<=min n 12),by rw[e];exact hm,by rw[e];exact hz⟩,⟨⟨congrArg (fun k=>some (SV.o (SA.c (SC.so 0 0 5 k c1 nn)))) (congrArg List.length e).symm,rfl,rfl,svI (sucI (by omega)),trivial⟩,rfl⟩,by dsimp only;omega⟩
 · obtain rfl:i=min n 12:=by omega
   exact QaW (x':=.o (.c (.so 0 0 5 (asTo z (min n 12)).length c1 nn))) (M':=[Qa3 m1 c1 z1]) rfl ⟨m1,c1,nn,z1⟩ ⟨hm,hz⟩ rfl rfl rfl
structure BdS where
 r:Rec
 f:Nat->Int
 l:List Ask
 lo:Nat
 m:Nat
 c:Nat
 nn:Bool
 z:Nat->Nat->Int
structure BdR where
 f:Nat->Int
 m:Nat
 c:Nat
 nn:Bool
 z:Nat->Nat->Int
abbrev BdS.pre (s:BdS):Prop:=(RecOK 1099511000000 s.r/\toN 32 s.f=s.r.words)/\AsksOK s.l/\s.l.length<=100/\(s.lo+s.l.length<=s.m/\s.m<=s.c)/\IsA (fun i=>s.z (s.lo+i)) s.l
def QgO:MCon where
 σ:=BdS
 χ:=BdR
 pre s:=s.pre
 args s:=[recA s.f,.c (.so 0 s.lo 5 s.l.length s.c s.nn)]
 mem s:=[Qa3 s.m s.c s.z]
 ok s x:=((bD s.r s.l).length<=x.m/\x.m<=x.c)/\IsD x.z (bD s.r s.l)/\toN 32 x.f=(bDo s.r s.l).words
 val s x:=.t [recA x.f,.c (.so 1 0 6 (bD s.r s.l).length x.c x.nn),nilE]
 mem' s x:=[Qa3 s.m s.c s.z,Qfe x.m x.c x.z]
 k:=1
 len:=2
 det:=none
 find args M:=some (blkA args)
structure BdG (s:BdS) where
 i:Nat
 f:Nat->Int
 m:Nat
 c:Nat
 nn:Bool
 z:Nat->Nat->Int
 hi:i<=s.l.length
 hf:toN 32 f=(bR s.r (s.l.take i)).words
 hm:(bD s.r (s.l.take i)).length<=m/\m<=c
 hz:IsD z (bD s.r (s.l.take i))
def Qko (s:BdS):Ann where
 σ:=BdG s
 I g:=([(2,.o (.c (.p 1 0))),(4,.o (.c (.p 2 0))),(7,.o (.c (.so 3 0 6 (bD s.r (s.l.take g.i)).length g.c g.nn))),(20,.o (.c (.so 0 s.lo 5 s.l.length s.c s.nn))),(21,sv (.int .i64 s.l.length)),(22,sv (.int .i64 g.i))],[Qa3 s.m s.c s.z,recB g.f,recB (fun _=>0),Qfe g.m g.c g.z])
 dec g:=s.l.length-g.i
 pi env _:=[0,blkE env 2,blkE env 4,blkE env 7]
 nz:=[nzD 7]
def rpB:SV->List SB->List Nat:=fun x M=>match x with
 |.t [_,.c (.so b _ _ _ _ _),_]=>[0,b]
 |_=>[]
theorem Qk8:(Con.mem QgO).holds Tryd.prog 17:=by
 intro w0 S
 refine Qw (Γ:=[(26,.pure Qr),(31,.pure QaZ),(24,.pure QE),(25,.pure QP)]) (fun _=>noW) Tryd.func17 rfl (by kernel_rfl) Qg Qc
  (fun w S' _ _=>.cons (Qcx w _) (.cons (Qju w _) (.cons (Qds w _) (.cons (Qdt w _) (.nil _ _ _))))) QgO (fun s=>[(17,[(0,Qko s)])]) (fun x0 h=>by cases h) (fun s ρ w _ _ _=>Q7 w _) [nzD 1] rpB 400 ?_
 rintro⟨r,f,l,lo,m,c,nn,z⟩ w ⟨⟨hr,hf⟩,ha,h3,⟨hm,hc⟩,hz⟩ -
 refine⟨rfl,?_⟩
 dsimp only at hr hf ha h3 hm hc hz
 refine Qh (q:=(32=32/\RecW f)/\List.length l<=c/\(∃(s0:Ann.σ (Qko (BdS.mk r f l lo m c nn z))),(eS (aP 1 0) (aP 1 0)/\eS (aP 2 0) (aP 2 0)/\eS (SA.c (.so 3 0 6 0 0 false)) (SA.c (.so 3 0 6 (List.length (bD r (List.take s0.1 l))) s0.4 s0.5))/\eS (SA.c (.so 0 lo 5 (List.length l) c nn)) (SA.c (.so 0 lo 5 (List.length l) c nn))/\eS (aI (↑(List.length l):Int)) (aI (↑(List.length l):Int))/\eS (aI 0) (aI ↑s0.1)/\True)/\[SB.rows 36 kI5 5 m c z,SB.cells [nU 32 f] 29,SB.cells [nU 32 zF] 29,SB.rows 49 kI6 6 0 0 fun (x x_1:Nat)=>(0:Int)]=[SB.rows 36 kI5 5 m c z,SB.cells [nU 32 s0.2] 29,SB.cells [nU 32 zF] 29,SB.rows 49 kI6 6 s0.3 s0.4 s0.6])/\∀(s:BdG (BdS.mk r f l lo m c nn z)),bif decide ((↑s.1:Int)<(↑(List.length l):Int))then ((0:Int)<=(↑s.1:Int)/\(↑s.1:Int)<(↑(List.length l):Int)/\lo+List.length l<=c)/\lo+Int.toNat (↑s.1:Int)<m/\(32=32/\(0:Int)<=z (lo+Int.toNat (↑s.1:Int)) 0/\z (lo+Int.toNat (↑s.1:Int)) 0<(4:Int)/\(z (lo+Int.toNat (↑s.1:Int)) 1=(0:Int)\/z (lo+Int.toNat (↑s.1:Int)) 1=(1:Int))/\(0:Int)<=s.2 26/\s.2 26<(16:Int))/\bif bif QC (s.2 26) (Int.toNat (z (lo+Int.toNat (↑s.1:Int)) 0)) != z (lo+Int.toNat (↑s.1:Int)) 1 then false else true then ∃(s':BdG (BdS.mk r f l lo m c nn z)),((eS (aP 1 0) (aP 1 0)/\eS (aP 2 0) (aP 2 0)/\eS (SA.c (.so 3 0 6 (List.length (bD r (List.take s.1 l))) s.4 s.5)) (SA.c (.so 3 0 6 (List.length (bD r (List.take s'.1 l))) s'.4 s'.5))/\eS (SA.c (.so 0 lo 5 (List.length l) c nn)) (SA.c (.so 0 lo 5 (List.length l) c nn))/\eS (aI (↑(List.length l):Int)) (aI (↑(List.length l):Int))/\eS (aI (IntKind.wrap .i64 ((↑s.1:Int)+(1:Int)))) (aI ↑s'.1)/\True)/\[SB.rows 36 kI5 5 m c z,SB.cells [nU 32 s.2] 29,SB.cells [nU 32 zF] 29,SB.rows 49 kI6 6 s.3 s.4 s.6]=[SB.rows 36 kI5 5 m c z,SB.cells [nU 32 s'.2] 29,SB.cells [nU 32 zF] 29,SB.rows 49 kI6 6 s'.3 s'.4 s'.6])/\List.length l-s'.1<List.length l-s.1 else (32=32/\RecW s.2/\(0:Int)<=z (lo+Int.toNat (↑s.1:Int)) 0/\z (lo+Int.toNat (↑s.1:Int)) 0<(4:Int))/\bif opOk (z (lo+Int.toNat (↑s.1:Int)) 2) (z (lo+Int.toNat (↑s.1:Int)) 3) (z (lo+Int.toNat (↑s.1:Int)) 4)then (32=32/\(0:Int)<=z (lo+Int.toNat (↑s.1:Int)) 0/\z (lo+Int.toNat (↑s.1:Int)) 0<(4:Int)/\U64 (fL (Rec.words (Rec.done (Rec.ofW (toN 32 s.2)) (Int.toNat (z (lo+Int.toNat (↑s.1:Int)) 0)) (z (lo+Int.toNat (↑s.1:Int)) 2) (z (lo+Int.toNat (↑s.1:Int)) 3) (z (lo+Int.toNat (↑s.1:Int)) 4))) (18+Int.toNat (z (lo+Int.toNat (↑s.1:Int)) 0)))/\(0:Int)<=fL (Rec.words (Rec.done (Rec.ofW (toN 32 s.2)) (Int.toNat (z (lo+Int.toNat (↑s.1:Int)) 0)) (z (lo+Int.toNat (↑s.1:Int)) 2) (z (lo+Int.toNat (↑s.1:Int)) 3) (z (lo+Int.toNat (↑s.1:Int)) 4))) (22+Int.toNat (z (lo+Int.toNat (↑s.1:Int)) 0))/\fL (Rec.words (Rec.done (Rec.ofW (toN 32 s.2)) (Int.toNat (z (lo+Int.toNat (↑s.1:Int)) 0)) (z (lo+Int.toNat (↑s.1:Int)) 2) (z (lo+Int.toNat (↑s.1:Int)) 3) (z (lo+Int.toNat (↑s.1:Int)) 4))) (22+Int.toNat (z (lo+Int.toNat (↑s.1:Int)) 0))<=(9223372036854775807:Int))/\bif Xa (fL (Rec.words (Rec.done (Rec.ofW (toN 32 s.2)) (Int.toNat (z (lo+Int.toNat (↑s.1:Int)) 0)) (z (lo+Int.toNat (↑s.1:Int)) 2) (z (lo+Int.toNat (↑s.1:Int)) 3) (z (lo+Int.toNat (↑s.1:Int)) 4))) (18+Int.toNat (z (lo+Int.toNat (↑s.1:Int)) 0))/(4294967296:Int)%(4294967296:Int)) (fL (Rec.words (Rec.done (Rec.ofW (toN 32 s.2)) (Int.toNat (z (lo+Int.toNat (↑s.1:Int)) 0)) (z (lo+Int.toNat (↑s.1:Int)) 2) (z (lo+Int.toNat (↑s.1:Int)) 3) (z (lo+Int.toNat (↑s.1:Int)) 4))) (18+Int.toNat (z (lo+Int.toNat (↑s.1:Int)) 0))%(4294967296:Int))then ((List.length (bD r (List.take s.1 l))<=s.3/\s.4=s.4)/\(1<=1/\1=1)/\List.length (bD r (List.take s.1 l))+1<=68719476736)/\∀(c_1:Nat),List.length (bD r (List.take s.1 l))+1<=c_1->∃(s':BdG (BdS.mk r f l lo m c nn z)),((eS (aP 1 0) (aP 1 0)/\eS (aP 2 0) (aP 2 0)/\eS (SA.c (.so 7 0 6 (List.length (bD r (List.take s.1 l))+1) c_1 s.5)) (SA.c (.so 7 0 6 (List.length (bD r (List.take s'.1 l))) s'.4 s'.5))/\eS (SA.c (.so 0 lo 5 (List.length l) c nn)) (SA.c (.so 0 lo 5 (List.length l) c nn))/\eS (aI (↑(List.length l):Int)) (aI (↑(List.length l):Int))/\eS (aI (IntKind.wrap .i64 ((↑s.1:Int)+(1:Int)))) (aI ↑s'.1)/\True)/\[SB.rows 36 kI5 5 m c z,SB.cells [nU 32 (fL (Rec.words (Rec.done (Rec.ofW (toN 32 s.2)) (Int.toNat (z (lo+Int.toNat (↑s.1:Int)) 0)) (z (lo+Int.toNat (↑s.1:Int)) 2) (z (lo+Int.toNat (↑s.1:Int)) 3) (z (lo+Int.toNat (↑s.1:Int)) 4))))] 29,SB.cells [nU 32 zF] 29,SB.rows 49 kI6 6 (List.length (bD r (List.take s.1 l))+1) c_1 fun (i j:Nat)=>bif Nat.ble (i+1) (List.length (bD r (List.take s.1 l)))then s.6 i j else match List.get?Internal (match List.get?Internal [[z (lo+Int.toNat (↑s.1:Int)) 0,z (lo+Int.toNat (↑s.1:Int)) 2,z (lo+Int.toNat (↑s.1:Int)) 3,z (lo+Int.toNat (↑s.1:Int)) 4,fL (Rec.words (Rec.done (Rec.ofW (toN 32 s.2)) (Int.toNat (z (lo+Int.toNat (↑s.1:Int)) 0)) (z (lo+Int.toNat (↑s.1:Int)) 2) (z (lo+Int.toNat (↑s.1:Int)) 3) (z (lo+Int.toNat (↑s.1:Int)) 4))) (18+Int.toNat (z (lo+Int.toNat (↑s.1:Int)) 0))/(4294967296:Int)%(4294967296:Int),fL (Rec.words (Rec.done (Rec.ofW (toN 32 s.2)) (Int.toNat (z (lo+Int.toNat (↑s.1:Int)) 0)) (z (lo+Int.toNat (↑s.1:Int)) 2) (z (lo+Int.toNat (↑s.1:Int)) 3) (z (lo+Int.toNat (↑s.1:Int)) 4))) (18+Int.toNat (z (lo+Int.toNat (↑s.1:Int)) 0))%(4294967296:Int)]] (0+(i-List.length (bD r (List.take s.1 l))))with|some x=>x|none=>[]) j with|some x=>x|none=>(0:Int)]=[SB.rows 36 kI5 5 m c z,SB.cells [nU 32 s'.2] 29,SB.cells [nU 32 zF] 29,SB.rows 49 kI6 6 s'.3 s'.4 s'.6])/\List.length l-s'.1<List.length l-s.1 else ((List.length (bD r (List.take s.1 l))<=s.3/\s.4=s.4)/\(1<=1/\1=1)/\List.length (bD r (List.take s.1 l))+1<=68719476736)/\∀(c_1:Nat),List.length (bD r (List.take s.1 l))+1<=c_1->∃(s':BdG (BdS.mk r f l lo m c nn z)),((eS (aP 1 0) (aP 1 0)/\eS (aP 2 0) (aP 2 0)/\eS (SA.c (.so 7 0 6 (List.length (bD r (List.take s.1 l))+1) c_1 s.5)) (SA.c (.so 7 0 6 (List.length (bD r (List.take s'.1 l))) s'.4 s'.5))/\eS (SA.c (.so 0 lo 5 (List.length l) c nn)) (SA.c (.so 0 lo 5 (List.length l) c nn))/\eS (aI (↑(List.length l):Int)) (aI (↑(List.length l):Int))/\eS (aI (IntKind.wrap .i64 ((↑s.1:Int)+(1:Int)))) (aI ↑s'.1)/\True)/\[SB.rows 36 kI5 5 m c z,SB.cells [nU 32 (fL (Rec.words (Rec.done (Rec.ofW (toN 32 s.2)) (Int.toNat (z (lo+Int.toNat (↑s.1:Int)) 0)) (z (lo+Int.toNat (↑s.1:Int)) 2) (z (lo+Int.toNat (↑s.1:Int)) 3) (z (lo+Int.toNat (↑s.1:Int)) 4))))] 29,SB.cells [nU 32 zF] 29,SB.rows 49 kI6 6 (List.length (bD r (List.take s.1 l))+1) c_1 fun (i j:Nat)=>bif Nat.ble (i+1) (List.length (bD r (List.take s.1 l)))then s.6 i j else match List.get?Internal (match List.get?Internal [[z (lo+Int.toNat (↑s.1:Int)) 0,z (lo+Int.toNat (↑s.1:Int)) 2,z (lo+Int.toNat (↑s.1:Int)) 3,z (lo+Int.toNat (↑s.1:Int)) 4,(0:Int),(0:Int)]] (0+(i-List.length (bD r (List.take s.1 l))))with|some x=>x|none=>[]) j with|some x=>x|none=>(0:Int)]=[SB.rows 36 kI5 5 m c z,SB.cells [nU 32 s'.2] 29,SB.cells [nU 32 zF] 29,SB.rows 49 kI6 6 s'.3 s'.4 s'.6])/\List.length l-s'.1<List.length l-s.1 else Qcr (Oper.mk (some 57) (Op.call (Call.mk (Callee.value (Operand.func 32)) #[Operand.tmp 56] #[42])) 64 "batch.go:42" #[Edge.mk 1 Ground.data] none)else (iR (27:Int) (32:Int))/\27<32/\(iR (27:Int) (32:Int))/\27<32/\endN QgO [nzD 1] rpB (BdS.mk r f l lo m c nn z) (SV.t [SA.a [nU 32 fun (i:Nat)=>bif Nat.beq i 27 then IntKind.wrap .u64 (s.2 27+(1:Int))else s.2 i],SA.c (.so 3 0 6 (List.length (bD r (List.take s.1 l))) s.4 s.5),SA.c (.v Value.nilIface)]) [SB.rows 36 kI5 5 m c z,SB.cells [nU 32 fun (i:Nat)=>bif Nat.beq i 27 then IntKind.wrap .u64 (s.2 27+(1:Int))else s.2 i] 29,SB.cells [nU 32 fun (i:Nat)=>bif Nat.beq i 27 then IntKind.wrap .u64 (s.2 27+(1:Int))else s.2 i] 29,SB.rows 49 kI6 6 s.3 s.4 s.6]) (by kernel_rfl) ?_
 have hW0:=RecW.of hr (by decide) hf
 refine⟨⟨rfl,hW0.1⟩,by omega,⟨⟨0,f,0,0,false,_,Nat.zero_le _,hf,⟨Nat.le_refl _,Nat.le_refl _⟩,fun i hi=>absurd hi (Nat.not_lt_zero _)⟩,⟨rfl,rfl,rfl,rfl,rfl,rfl,trivial⟩,rfl⟩,?_⟩
 rintro⟨i,f1,m1,c1,n1,z1,hi,hf1,hm1,hz1⟩
 dsimp only at hi hf1 hm1 hz1 ⊢
 have hle:=bD_le (l.take i) r
 have hlt2:(l.take i).length<=100:=by rw[List.length_take];omega
 have hq:RecOK 1099511000100 (bR r (l.take i)):=(bR_ok (l:=l.take i) hr (fun a h=>ha a (List.mem_of_mem_take h))).mono (by omega)
 have hv:(bR r (l.take i)).ver=r.ver:=Qkk _ _
 have hW:=RecW.of hq (by decide) hf1
 obtain⟨e26,e27,-⟩:=Qkr hq hf1
 have g0:=hq.g0
 have g1:=hq.g1
 have v0:=hq.v0
 have v1:=hq.v1
 refine Qi (fun hlt=>?_) (fun hge=>?_)
 · have hi':i<l.length:=by omega
   have eR:bR r (l.take (i+1))=Qai (bR r (l.take i)) (l.getD i Ask.nil):=by rw[Qa5 hi',Qlb]
   have eD:bD r (l.take (i+1))=bD r (l.take i)++bDs (bR r (l.take i)) (l.getD i Ask.nil):=by rw[Qa5 hi',Qlc]
   obtain⟨a0,a1,a2,a3,a4⟩:=hz i hi'
   have hak:=ha.get hi'
   dsimp only at a0 a1 a2 a3 a4
   generalize l.getD i Ask.nil=a at *
   have ht:=hak.1
   rw[Int.toNat_natCast,a0,a1,a2,a3,a4,Int.toNat_natCast,hW.2,e26]
   refine⟨⟨by omega,by omega,by omega⟩,by omega,⟨rfl,by omega,by omega,hak.2.1,by omega,by omega⟩,Qau (fun ho=>?_) (fun ho=>?_)⟩
   · have hs:=Qeo (r:=bR r (l.take i)) (a:=a) ho
     rw[hs.1]at eR
     rw[hs.2,List.append_nil]at eD
     exact⟨⟨i+1,f1,m1,c1,n1,z1,hi',eR ▸ hf1,eD ▸ hm1,eD ▸ hz1⟩,⟨⟨rfl,rfl,congrArg (fun k=>some (SV.o (SA.c (SC.so 3 0 6 k c1 n1)))) (congrArg List.length eD).symm,rfl,rfl,svI (sucI (by omega)),trivial⟩,rfl⟩,by dsimp only;omega⟩
   · have ho':bOpen (bR r (l.take i)) a=true:=ho
     have hd:=hq.done a.t ht a.k a.key a.x hak.2.2
     have bT:=rec_at hd (by decide) a.t ht
     have hT:=QiM hq (by decide) a.t ht a.k a.key a.x hak.2.2
     have hs:Qai (bR r (l.take i)) a=(bR r (l.take i)).done a.t a.k a.key a.x:=by unfold Qai;rw[ho'];rfl
     have hds:bDs (bR r (l.take i)) a=[bDeed (bR r (l.take i)) a]:=by unfold bDs;rw[ho'];rfl
     rw[hs]at eR
     rw[hds]at eD
     have el:(bD r (l.take (i+1))).length=(bD r (l.take i)).length+1:=by rw[eD,List.length_append];rfl
     refine⟨⟨rfl,hW.1,by omega,by omega⟩,Qz (fun _=>?_) (fun h=>absurd (hak.2.2.symm.trans h) (by decide))⟩
     refine⟨⟨rfl,by omega,by omega,bT⟩,Qz (fun _=>?_) (fun h=>absurd (hT.2.2.symm.trans h) (by decide))⟩
     refine⟨⟨⟨hm1.1,rfl⟩,⟨Nat.le_refl _,rfl⟩,by omega⟩,fun c' hc'=>⟨⟨i+1,_,(bD r (l.take i)).length+1,c',n1,_,hi',(Qak (Rec.words_len hd)).trans (by rw[eR]),⟨by show (bD r (l.take (i+1))).length<=_;omega,hc'⟩,?_⟩,⟨⟨rfl,rfl,congrArg (fun k=>some (SV.o (SA.c (SC.so 7 0 6 k c' n1)))) el.symm,rfl,rfl,svI (sucI (by omega)),trivial⟩,rfl⟩,by dsimp only;omega⟩⟩
     show IsD _ (bD r (l.take (i+1)))
     rw[eD]
     refine hz1.snoc (fun j hj k=>catT hj) ⟨?_,?_,?_,?_,?_,?_⟩
     · exact catF.trans (by rw[Nat.sub_self];rfl)
     · exact catF.trans (by rw[Nat.sub_self];rfl)
     · exact catF.trans (by rw[Nat.sub_self];rfl)
     · exact catF.trans (by rw[Nat.sub_self];rfl)
     · exact catF.trans (by rw[Nat.sub_self];exact hT.1)
     · exact catF.trans (by rw[Nat.sub_self];exact hT.2.1)
 · obtain rfl:i=l.length:=by omega
   rw[List.take_length]at hf1 hm1 hz1 hq e27 v0 v1 ⊢
   rw[e27,Qdf (x:=(bR r l).ver+1) (by omega) (by omega)]
   refine⟨⟨by decide,by decide⟩,by decide,⟨by decide,by decide⟩,by decide,?_⟩
   exact QaW (x':=.t [recA (fun i=>bif Nat.beq i 27 then (bR r l).ver+1 else f1 i),.c (.so 3 0 6 (bD r l).length c1 n1),nilE]) rfl ⟨_,m1,c1,n1,z1⟩ ⟨hm1,hz1,toN_at hq hf1 _⟩ rfl rfl rfl
def Xx:PCon:=⟨fun args=>match args with
 |[]=>True
 |_=>False,fun _=>sv (.bool true),fun _=>none⟩
theorem Qk9:(Con.pure Xx).holds Tryd.prog 5:=by
 refine Qp (Γ:=[(22,.pure QaY),(23,.pure QfC),(17,.mem QgO)]) Tryd.func5 rfl (by kernel_rfl) Qg Qc
  (fun W=>.cons (Qeu W _) (.cons (Qh9 W _) (.cons (Qk8 W _) (.nil _ _ _)))) Xx (fun _=>[]) 400 ?_
 intro W args hp
 unfold Xx at hp;dsimp only at hp;split at hp
 case h_2=>exact hp.elim
 refine⟨rfl,?_⟩
 refine Qh (q:=((1:Int)<=(6:Int)/\(6:Int)<=(6:Int))/\True/\True/\True/\dP Tryd.f5 2 1 [⟨8,[],[1,3],[],true⟩,⟨13,[],[2],[2],false⟩,⟨7,[],[1],[1],false⟩,xE 6,xE 5,xE 4,xE 3,xE 2,xE 1,xR 0 0]/\∃(s:BdS),[SA.a [nU 32 (fL (Rec.words (Rec.new (6:Int))))],SA.c (.so 1 0 5 3 3 true)]=[SA.a [nU 32 s.2],SA.c (.so 1 s.4 5 (List.length s.3) s.6 s.7)]/\[SB.rows 36 kI5 5 3 3 fun (i j:Nat)=>match List.get?Internal (match List.get?Internal [[(1:Int),(1:Int),(1:Int),(0:Int),(5:Int)],[(1:Int),(1:Int),(1:Int),(0:Int),(5:Int)],[(0:Int),(0:Int),(1:Int),(0:Int),(1:Int)]] i with|some x=>x|none=>[]) j with|some x=>x|none=>(0:Int)]=[SB.rows 36 kI5 5 s.5 s.6 s.8]/\((RecOK (1099511000000:Int) s.1/\toN 32 s.2=Rec.words s.1)/\AsksOK s.3/\List.length s.3<=100/\(s.4+List.length s.3<=s.5/\s.5<=s.6)/\IsA (fun (i:Nat)=>s.8 (s.4+i)) s.3)/\∀(x:BdR),(List.length (bD s.1 s.3)<=x.2/\x.2<=x.3)/\IsD x.5 (bD s.1 s.3)/\toN 32 x.1=Rec.words (bDo s.1 s.3)->dP Tryd.f5 2 1 [xE 16,xF 15 3,⟨14,[],[2],[],false⟩,xE 12,xF 11 3,xE 10,xF 9 3,⟨8,[],[1,3],[3],true⟩,⟨13,[],[2],[2],false⟩,⟨7,[],[1],[1],false⟩,xE 6,xE 5,xE 4,xE 3,xE 2,xE 1,xR 0 0]/\List.length (bD s.1 s.3)<=x.3/\bif (↑(List.length (bD s.1 s.3)):Int)==(1:Int)then ((0:Int)<=(0:Int)/\(0:Int)<(↑(List.length (bD s.1 s.3)):Int)/\0+List.length (bD s.1 s.3)<=x.3)/\0<x.2/\True/\bif bif x.5 0 0==(1:Int)then bif x.5 0 1==(1:Int)then bif x.5 0 2==(0:Int)then bif x.5 0 3==(5:Int)then bif x.5 0 4==(1:Int)then bif x.5 0 5==(0:Int)then true else false else false else false else false else false else false then (iR (27:Int) (32:Int))/\27<32/\bif x.1 27==(1:Int)then (iR (1:Int) (32:Int))/\1<32/\dP Tryd.f5 3 4 [xE 30,xE 29,xE 28,xR 27 2,xF 26 2,xE 25,xE 24,xE 23,xR 22 2,xF 21 2,xE 20,xE 19,xE 18,xE 17,xE 16,xE 15,xR 14 3,xF 13 3,xF 12 3,xE 11,xE 10,xE 9,xE 8,xF 7 3,xE 6,xE 5,xE 4,xE 3,xE 2,xE 1,xE 0]/\endP Xx [] (SV.o (aB (x.1 1==(5:Int)))) []else dP Tryd.f5 3 4 [xE 30,xE 29,xE 28,xE 27,xE 26,xE 25,xE 24,xE 23,xR 22 2,xF 21 2,xE 20,xE 19,xE 18,xE 17,xE 16,xE 15,xR 14 3,xF 13 3,xF 12 3,xE 11,xE 10,xE 9,xE 8,xF 7 3,xE 6,xE 5,xE 4,xE 3,xE 2,xE 1,xE 0]/\endP Xx [] (SV.o (aB false)) []else dP Tryd.f5 3 4 [xE 30,xE 29,xE 28,xE 27,xE 26,xE 25,xE 24,xE 23,xE 22,xE 21,xE 20,xE 19,xE 18,xE 17,xE 16,xE 15,xR 14 3,xF 13 3,xF 12 3,xE 11,xE 10,xE 9,xE 8,xF 7 3,xE 6,xE 5,xE 4,xE 3,xE 2,xE 1,xE 0]/\endP Xx [] (SV.o (aB false)) []else dP Tryd.f5 3 4 [xE 30,xE 29,xE 28,xE 27,xE 26,xE 25,xE 24,xE 23,xE 22,xE 21,xE 20,xE 19,xE 18,xE 17,xE 16,xE 15,xE 14,xE 13,xE 12,xE 11,xE 10,xE 9,xE 8,xF 7 3,xE 6,xE 5,xE 4,xE 3,xE 2,xE 1,xE 0]/\endP Xx [] (SV.o (aB false)) []) (by kernel_rfl) ?_
 have hr:=(RecOK.new (kind:=6) (by decide) (by decide)).mono (B':=1099511000000) (by decide)
 refine⟨⟨by decide,by decide⟩,trivial,trivial,trivial,Qd (by kernel_rfl),⟨Rec.new 6,fL (Rec.new 6).words,batL,0,3,3,true,_⟩,rfl,rfl,⟨⟨hr,Qak (Rec.words_len hr)⟩,Qla,by decide,⟨by decide,by decide⟩,?_⟩,?_⟩
 · intro i hi
   have:i=0\/i=1\/i=2:=by have:i<3:=hi;omega
   rcases this with rfl|rfl|rfl<;>exact⟨rfl,rfl,rfl,rfl,rfl⟩
 · rintro⟨f,m,c,nn,z⟩ ⟨⟨hm,hc⟩,hz,hf⟩
   dsimp only at hm hc hz hf ⊢
   rw[batL_d]at hm hz ⊢
   obtain⟨z0,z1,z2,z3,z4,z5⟩:=hz 0 (by decide)
   have f27:f 27=1:=by
    have:=QcT (n:=32) (f:=f) (i:=27) (by decide)
    rw[<- this,hf];rfl
   have f1:f 1=5:=by
    have:=QcT (n:=32) (f:=f) (i:=1) (by decide)
    rw[<- this,hf];rfl
   have z0:z 0 0=1:=z0
   have z1:z 0 1=1:=z1
   have z2:z 0 2=0:=z2
   have z3:z 0 3=5:=z3
   have z4:z 0 4=1:=z4
   have z5:z 0 5=0:=z5
   have hm:1<=m:=hm
   rw[z0,z1,z2,z3,z4,z5,f27,f1]
   exact⟨Qd (by kernel_rfl),(by show 1<=c;omega),⟨by decide,by decide,(by show 0+1<=c;omega)⟩,(by omega:0<m),trivial,⟨by decide,by decide⟩,by decide,⟨by decide,by decide⟩,by decide,Qd (by kernel_rfl),rfl,fun ρ=>rfl⟩
end
section
def IdOk (l:List Ask) (t:Int) (k:Int):Prop:=(k=-1/\∀a∈l,(a.t:Int)≠t)\/∃i:Nat,k=(i:Int)/\i<l.length/\((l.getD i Ask.nil).t:Int)=t/\∀a∈l.take i,(a.t:Int)≠t
theorem QhL {l:List Ask}{t:Int}{i:Nat}(hi:i<l.length) (h:∀a∈l.take i,(a.t:Int)≠t) (hn:((l.getD i Ask.nil).t:Int)≠t):∀a∈l.take (i+1),(a.t:Int)≠t:=by
 intro a ha
 rw[Qa5 hi]at ha
 rcases List.mem_append.1 ha with ha|ha
 · exact h a ha
 · obtain rfl:=List.mem_singleton.1 ha;exact hn
end
section
open Go.RowKit
structure EqS where
 l:List Dd
 m:Nat
 c:Nat
 nn:Bool
 z:Nat->Nat->Int
 m2:Nat
 c2:Nat
 nn2:Bool
 z2:Nat->Nat->Int
def QfE:MCon:=dcon EqS (fun s=>s.l.length<=1000/\(s.l.length<=s.m/\s.m<=s.c)/\IsD s.z s.l/\(s.l.length<=s.m2/\s.m2<=s.c2)/\IsD s.z2 s.l)
 (fun s=>[.c (.so 0 0 6 s.l.length s.c s.nn),.c (.so 1 0 6 s.l.length s.c2 s.nn2)]) (fun s=>[Qfe s.m s.c s.z,Qfe s.m2 s.c2 s.z2]) (fun s=>sv (.bool true)) (fun s=>[Qfe s.m s.c s.z,Qfe s.m2 s.c2 s.z2]) 2 (fun args _=>some (blkA args))
structure EqG (s:EqS) where
 i:Nat
 hi:i<=s.l.length
def Qkn (s:EqS):Ann where
 σ:=EqG s
 I g:=([(0,.o (.c (.so 0 0 6 s.l.length s.c s.nn))),(1,.o (.c (.so 1 0 6 s.l.length s.c2 s.nn2))),(12,sv (.int .i64 s.l.length)),(13,sv (.int .i64 g.i))],[Qfe s.m s.c s.z,Qfe s.m2 s.c2 s.z2])
 dec g:=s.l.length-g.i
 pi _ _:=[0,1]
 nz:=[]
theorem eqd_con:(Con.mem QfE).holds Tryd.prog 18:=by
 intro w0 S
 refine Qw (Γ:=[]) (fun _=>noW) Tryd.func18 rfl (by kernel_rfl) Qg Qc (fun _ _ _ _=>.nil _ _ _) QfE (fun s=>[(18,[(0,Qkn s)])]) (fun x0 h s x=>⟨rfl,trivial⟩) (fun s ρ w _ _ _=>Q7 w _) [] (QI 2) 400 ?_
 rintro⟨l,m,c,nn,z,m2,c2,nn2,z2⟩ w ⟨h0,h1,h2,h3,h4⟩ -
 refine⟨rfl,?_⟩
 dsimp only at h0 h1 h2 h3 h4
 refine Qh (q:=List.length l<=c/\List.length l<=c2/\bif (↑(List.length l):Int) != (↑(List.length l):Int)then endN QfE [] (QI 2) (EqS.mk l m c nn z m2 c2 nn2 z2) (SV.o (aB false)) [SB.rows 49 kI6 6 m c z,SB.rows 49 kI6 6 m2 c2 z2]else List.length l<=c/\(∃(s0:Ann.σ (Qkn (EqS.mk l m c nn z m2 c2 nn2 z2))),(eS (SA.c (.so 0 0 6 (List.length l) c nn)) (SA.c (.so 0 0 6 (List.length l) c nn))/\eS (SA.c (.so 1 0 6 (List.length l) c2 nn2)) (SA.c (.so 1 0 6 (List.length l) c2 nn2))/\eS (aI (↑(List.length l):Int)) (aI (↑(List.length l):Int))/\eS (aI 0) (aI ↑s0.1)/\True)/\[SB.rows 49 kI6 6 m c z,SB.rows 49 kI6 6 m2 c2 z2]=[SB.rows 49 kI6 6 m c z,SB.rows 49 kI6 6 m2 c2 z2])/\∀(s:EqG (EqS.mk l m c nn z m2 c2 nn2 z2)),bif decide ((↑s.1:Int)<(↑(List.length l):Int))then ((0:Int)<=(↑s.1:Int)/\(↑s.1:Int)<(↑(List.length l):Int)/\0+List.length l<=c)/\0+Int.toNat (↑s.1:Int)<m/\((0:Int)<=(↑s.1:Int)/\(↑s.1:Int)<(↑(List.length l):Int)/\0+List.length l<=c2)/\0+Int.toNat (↑s.1:Int)<m2/\dP Tryd.f18 6 2 [xE 8,xR 7 1,xF 6 1,xE 5,xF 4 1,xR 3 0,xF 2 0,xE 1,xF 0 0]/\bif bif bif z (0+Int.toNat (↑s.1:Int)) 0==z2 (0+Int.toNat (↑s.1:Int)) 0 then bif z (0+Int.toNat (↑s.1:Int)) 1==z2 (0+Int.toNat (↑s.1:Int)) 1 then bif z (0+Int.toNat (↑s.1:Int)) 2==z2 (0+Int.toNat (↑s.1:Int)) 2 then bif z (0+Int.toNat (↑s.1:Int)) 3==z2 (0+Int.toNat (↑s.1:Int)) 3 then bif z (0+Int.toNat (↑s.1:Int)) 4==z2 (0+Int.toNat (↑s.1:Int)) 4 then bif z (0+Int.toNat (↑s.1:Int)) 5==z2 (0+Int.toNat (↑s.1:Int)) 5 then true else false else false else false else false else false else false then false else true then endN QfE [] (QI 2) (EqS.mk l m c nn z m2 c2 nn2 z2) (SV.o (aB false)) [SB.rows 49 kI6 6 m c z,SB.rows 49 kI6 6 m2 c2 z2]else ∃(s':EqG (EqS.mk l m c nn z m2 c2 nn2 z2)),((eS (SA.c (.so 0 0 6 (List.length l) c nn)) (SA.c (.so 0 0 6 (List.length l) c nn))/\eS (SA.c (.so 1 0 6 (List.length l) c2 nn2)) (SA.c (.so 1 0 6 (List.length l) c2 nn2))/\eS (aI (↑(List.length l):Int)) (aI (↑(List.length l):Int))/\eS (aI (IntKind.wrap .i64 ((↑s.1:Int)+(1:Int)))) (aI ↑s'.1)/\True)/\[SB.rows 49 kI6 6 m c z,SB.rows 49 kI6 6 m2 c2 z2]=[SB.rows 49 kI6 6 m c z,SB.rows 49 kI6 6 m2 c2 z2])/\List.length l-s'.1<List.length l-s.1 else endN QfE [] (QI 2) (EqS.mk l m c nn z m2 c2 nn2 z2) (SV.o (aB true)) [SB.rows 49 kI6 6 m c z,SB.rows 49 kI6 6 m2 c2 z2]) (by kernel_rfl) ?_
 have he:=fun i hi j hj=>IsD.eq h2 h4 i hi j hj
 refine⟨by omega,by omega,XG (fun h=>absurd rfl h) (fun _=>⟨by omega,⟨⟨0,Nat.zero_le _⟩,⟨rfl,rfl,rfl,rfl,trivial⟩,rfl⟩,?_⟩)⟩
 rintro⟨i,hi⟩
 dsimp only at hi ⊢
 refine Qi (fun hlt=>?_) (fun hge=>⟨(),trivial,rfl,rfl⟩)
 have hlt':i<l.length:=by omega
 rw[Int.toNat_natCast,Nat.zero_add i,he i hlt' 0 (by decide),he i hlt' 1 (by decide),he i hlt' 2 (by decide),he i hlt' 3 (by decide),he i hlt' 4 (by decide),he i hlt' 5 (by decide)]
 exact⟨⟨by omega,by omega,by omega⟩,by omega,⟨by omega,by omega,by omega⟩,by omega,Qd (by kernel_rfl),Qau (fun h=>absurd h (by simp)) (fun _=>⟨⟨i+1,hlt'⟩,⟨⟨rfl,rfl,rfl,svI (sucI (by omega)),trivial⟩,rfl⟩,by dsimp only;omega⟩)⟩
abbrev askA (x:Nat->Int):SA:=.a [.one (.v (.int .i64 (x 0))),.one (.v (.int .i64 (x 1))),.one (.v (.int .i64 (x 2))),.one (.v (.int .i64 (x 3))),.one (.v (.int .i64 (x 4)))]
abbrev intB (x:Nat->Int):SB:=.cells [.one (.v (.int .i64 (x 0)))] 3
def QfF (B:(Nat->Int)->SB):MCon:=dcon ((Nat->Int) × (Nat->Int)) (fun _=>True) (fun s=>[askA s.1,.c (.p 0 0)]) (fun s=>[B s.2]) (fun s=>sv (.bool (s.1 0==s.2 0))) (fun s=>[B s.2]) 1 (fun args _=>some (blkA args))
structure IdS where
 l:List Ask
 m:Nat
 c:Nat
 nn:Bool
 z:Nat->Nat->Int
 x:Nat->Int
abbrev IdS.pre (s:IdS):Prop:=s.l.length<=1000/\(s.l.length<=s.m/\s.m<=s.c)/\IsA s.z s.l
def Qki:List SA->List SB->Option (List Nat):=fun args _=>match args with
 |[.c (.so b _ _ _ _ _),.c (.fn _ ((x,_)::_))]=>some [b,x]
 |_=>none
def QfD (g:Nat) (B:(Nat->Int)->SB):MCon where
 σ:=IdS
 χ:=Int
 pre s:=s.pre
 args s:=[.c (.so 0 0 5 s.l.length s.c s.nn),.c (.fn g [(1,0)])]
 mem s:=[Qa3 s.m s.c s.z,B s.x]
 ok s k:=IdOk s.l (s.x 0) k
 val s k:=sv (.int .i64 k)
 mem' s k:=[Qa3 s.m s.c s.z,B s.x]
 k:=2
 len:=2
 det:=none
 find:=Qki
structure IdG (s:IdS) where
 i:Nat
 hi:i<=s.l.length
 hn:∀a∈s.l.take i,(a.t:Int)≠s.x 0
theorem Qci:(Con.mem (QfF intB)).holds Tryd.prog 13:=by
 intro w0 S
 refine Qw (Γ:=[]) (fun _=>noW) Tryd.func13 rfl (by kernel_rfl) Qg Qc (fun _ _ _ _=>.nil _ _ _) (QfF intB) (fun s=>[]) (fun x0 h s x=>⟨rfl,trivial⟩) (fun s ρ w _ _ _=>Q7 w _) [] (QI 1) 400 ?_
 rintro⟨y,x⟩ w - -
 refine⟨rfl,?_⟩
 refine Qh (q:=endN (QfF intB) [] (QI 1) (y,x) (SV.o (aB (y 0==x 0))) [SB.cells [sI (x 0)] 3,SB.cells [sI (y 0),sI (y 1),sI (y 2),sI (y 3),sI (y 4)] 36]) (by kernel_rfl) ?_
 exact⟨(),trivial,rfl,rfl⟩
def QcZ (s:IdS):Ann where
 σ:=IdG s
 I g:=([(0,.o (.c (.so 0 0 5 s.l.length s.c s.nn))),(1,.o (.c (.fn 13 [(1,0)]))),(7,sv (.int .i64 s.l.length)),(8,sv (.int .i64 g.i))],[Qa3 s.m s.c s.z,intB s.x])
 dec g:=s.l.length-g.i
 pi _ _:=[0,1]
 nz:=[]
theorem QeI:(Con.mem (QfD 13 intB)).holds Tryd.prog 27:=by
 intro w0 S
 refine Qw (Γ:=[(13,.mem (QfF intB))]) (fun _=>noW) Tryd.func27 rfl (by kernel_rfl) Qg Qc (fun w S' _ _=>.cons (Qci w S') (.nil _ _ _)) (QfD 13 intB) (fun s=>[(27,[(0,QcZ s)])]) (fun x0 h=>by cases h) (fun s ρ w _ _ _=>Q7 w _) [] (QI 2) 400 ?_
 rintro⟨l,m,c,nn,z,x⟩ w ⟨h0,h1,h2⟩ -
 refine⟨rfl,?_⟩
 dsimp only at h0 h1 h2
 refine Qh (q:=List.length l<=c/\(∃(s0:Ann.σ (QcZ (IdS.mk l m c nn z x))),(eS (SA.c (.so 0 0 5 (List.length l) c nn)) (SA.c (.so 0 0 5 (List.length l) c nn))/\eS (SA.c (.fn 13 [(1,0)])) (SA.c (.fn 13 [(1,0)]))/\eS (aI (↑(List.length l):Int)) (aI (↑(List.length l):Int))/\eS (aI 0) (aI ↑s0.1)/\True)/\[SB.rows 36 kI5 5 m c z,SB.cells [sI (x 0)] 3]=[SB.rows 36 kI5 5 m c z,SB.cells [sI (x 0)] 3])/\∀(s:IdG (IdS.mk l m c nn z x)),bif decide ((↑s.1:Int)<(↑(List.length l):Int))then ((0:Int)<=(↑s.1:Int)/\(↑s.1:Int)<(↑(List.length l):Int)/\0+List.length l<=c)/\0+Int.toNat (↑s.1:Int)<m/\∃(s_1:(Nat->Int) × (Nat->Int)),[SA.a [sI (z (0+Int.toNat (↑s.1:Int)) 0),sI (z (0+Int.toNat (↑s.1:Int)) 1),sI (z (0+Int.toNat (↑s.1:Int)) 2),sI (z (0+Int.toNat (↑s.1:Int)) 3),sI (z (0+Int.toNat (↑s.1:Int)) 4)],aP 1 0]=[SA.a [sI (s_1.1 0),sI (s_1.1 1),sI (s_1.1 2),sI (s_1.1 3),sI (s_1.1 4)],aP 1 0]/\[SB.cells [sI (x 0)] 3]=[SB.cells [sI (s_1.2 0)] 3]/\True/\∀(x_1:Unit),True->bif s_1.1 0==s_1.2 0 then endN (QfD 13 intB) [] (QI 2) (IdS.mk l m c nn z x) (SV.o (aI ↑s.1)) [SB.rows 36 kI5 5 m c z,SB.cells [sI (s_1.2 0)] 3]else ∃(s':IdG (IdS.mk l m c nn z x)),((eS (SA.c (.so 0 0 5 (List.length l) c nn)) (SA.c (.so 0 0 5 (List.length l) c nn))/\eS (SA.c (.fn 13 [(1,0)])) (SA.c (.fn 13 [(1,0)]))/\eS (aI (↑(List.length l):Int)) (aI (↑(List.length l):Int))/\eS (aI (IntKind.wrap .i64 ((↑s.1:Int)+(1:Int)))) (aI ↑s'.1)/\True)/\[SB.rows 36 kI5 5 m c z,SB.cells [sI (s_1.2 0)] 3]=[SB.rows 36 kI5 5 m c z,SB.cells [sI (x 0)] 3])/\List.length l-s'.1<List.length l-s.1 else endN (QfD 13 intB) [] (QI 2) (IdS.mk l m c nn z x) (SV.o (aI (-1:Int))) [SB.rows 36 kI5 5 m c z,SB.cells [sI (x 0)] 3]) (by kernel_rfl) ?_
 refine⟨by omega,⟨⟨0,Nat.zero_le _,by simp⟩,⟨rfl,rfl,rfl,rfl,trivial⟩,rfl⟩,?_⟩
 rintro⟨i,hi,hn⟩
 dsimp only at hi hn ⊢
 refine Qi (fun hlt=>?_) (fun hge=>?_)
 · have hlt':i<l.length:=by omega
   have a0:=(h2 i hlt').1
   rw[Int.toNat_natCast,Nat.zero_add i]
   refine⟨⟨by omega,by omega,by omega⟩,by omega,(z i,x),rfl,rfl,trivial,fun _ _=>?_⟩
   dsimp only
   refine Qar (fun e=>?_) (fun e=>?_)
   · exact⟨(i:Int),.inr ⟨i,rfl,hlt',a0.symm.trans e,hn⟩,rfl,rfl⟩
   · exact⟨⟨i+1,hlt',QhL hlt' hn (fun h=>e (a0.trans h))⟩,⟨⟨rfl,rfl,rfl,svI (sucI (by omega)),trivial⟩,rfl⟩,by dsimp only;omega⟩
 · obtain rfl:i=l.length:=by omega
   rw[List.take_length]at hn
   exact⟨(-1:Int),.inl ⟨rfl,hn⟩,rfl,rfl⟩
def othA (x:Int):List Ask->List Ask
 |[]=>[]
 |a::r=>bif (a.t:Int)==x then othA x r else a::othA x r
theorem Qcz (x:Int):∀l:List Ask,othA x l=l.filter fun a=>!((a.t:Int)==x)
 |[]=>rfl
 |a::r=>by
  simp only[othA,List.filter_cons,Qcz x r]
  cases ((a.t:Int)==x)<;>rfl
theorem oth_len (x:Int) (l:List Ask):(othA x l).length<=l.length:=by rw[Qcz];exact List.length_filter_le _ _
theorem Qif {x:Int}{l:List Ask}(h:∀a∈l,(a.t:Int)≠x):othA x l=l:=by
 rw[Qcz]
 refine List.filter_eq_self.2 fun a ha=>?_
 have:=h a ha
 simpa using this
theorem Qie {x:Int}{l:List Ask}{n:Nat}(hn:n<l.length) (h:((l.getD n Ask.nil).t:Int)=x):othA x (l.take (n+1))=othA x (l.take n):=by
 rw[Qa5 hn];simp only[Qcz]
 rw[List.filter_append,List.filter_cons_of_neg (by rw[h];simp),List.filter_nil,List.append_nil]
theorem oth_in {x:Int}{l:List Ask}{n:Nat}(hn:n<l.length) (h:((l.getD n Ask.nil).t:Int)≠x):othA x (l.take (n+1))=othA x (l.take n)++[l.getD n Ask.nil]:=by
 rw[Qa5 hn];simp only[Qcz]
 rw[List.filter_append,List.filter_cons_of_pos (by simpa using h),List.filter_nil]
theorem IsA.take {z:Nat->Nat->Int}{l:List Ask}(h:IsA z l) (n:Nat):IsA z (l.take n):=fun i hi=>by
 rw[List.length_take]at hi
 have:=h i (by omega)
 rw[List.getD_eq_getElem?_getD,List.getElem?_take,if_pos (by omega),<- List.getD_eq_getElem?_getD]
 exact this
theorem updA {z2:Nat->Nat->Int}{i j:Nat}(q:Nat) (b:Nat):(fun (a b:Nat)=>bif (match Nat.beq a i with|false=>false|true=>Nat.ble b 4)then (match List.get?Internal [z2 j 0,z2 j 1,z2 j 2,z2 j 3,z2 j 4] b with|some x=>x|none=>(0:Int))else z2 a b) q b=if q=i/\b<5 then z2 j b else z2 q b:=by
 dsimp only
 by_cases hq:q=i
 · subst hq
   rw[show Nat.beq q q=true from Nat.beq_refl q]
   by_cases hb:b<5
   · rw[if_pos ⟨rfl,hb⟩]
     rcases (show b=0\/b=1\/b=2\/b=3\/b=4 by omega)with rfl|rfl|rfl|rfl|rfl<;>rfl
   · rw[if_neg (fun h=>hb h.2)]
     have:Nat.ble b 4=false:=by
      cases h:Nat.ble b 4
      · rfl
      · exact absurd (Nat.le_of_ble_eq_true h) (by omega)
     simp only[this,cond_false]
 · rw[if_neg (fun h=>hq h.1)]
   simp only[nbeq hq,cond_false]
theorem oth_mem {x:Int}{l:List Ask}{a:Ask}(h:a∈othA x l):a∈l/\(a.t:Int)≠x:=by
 rw[Qcz]at h
 obtain⟨h1,h2⟩:=List.mem_filter.1 h
 exact⟨h1,by simpa using h2⟩
structure DelR where
 z:Nat->Nat->Int
def QeV:MCon where
 σ:=IdS
 χ:=DelR
 pre s:=s.pre
 args s:=[.c (.so 0 0 5 s.l.length s.c s.nn),.c (.fn 13 [(1,0)])]
 mem s:=[Qa3 s.m s.c s.z,intB s.x]
 ok s x:=IsA x.z (othA (s.x 0) s.l)
 val s x:=.o (.c (.so 0 0 5 (othA (s.x 0) s.l).length s.c s.nn))
 mem' s x:=[Qa3 s.m s.c x.z,intB s.x]
 k:=2
 len:=2
 det:=none
 find:=Qki
structure DeG (s:IdS) where
 i:Nat
 j:Nat
 z:Nat->Nat->Int
 hi:i<j
 hj:j<=s.l.length
 hl:i=(othA (s.x 0) (s.l.take j)).length
 h:IsA z (othA (s.x 0) (s.l.take j))
 r:∀q,j<=q->∀k,k<5->z q k=s.z q k
def annDe (s:IdS):Ann where
 σ:=DeG s
 I g:=([(0,.o (.c (.so 0 0 5 s.l.length s.c s.nn))),(1,.o (.c (.fn 13 [(1,0)]))),(5,sv (.int .i64 g.i)),(6,sv (.int .i64 g.j))],[Qa3 s.m s.c g.z,intB s.x])
 dec g:=s.l.length-g.j
 pi _ _:=[0,1]
 nz:=[]
theorem delA_con:(Con.mem QeV).holds Tryd.prog 11:=by
 intro w0 S
 refine Qw (Γ:=[(27,.mem (QfD 13 intB)),(13,.mem (QfF intB))]) (fun _=>noW) Tryd.func11 rfl (by kernel_rfl) Qg Qc (fun w S' _ _=>.cons (QeI w S') (.cons (Qci w S') (.nil _ _ _))) QeV (fun s=>[(11,[(0,annDe s)])]) (fun x0 h=>by cases h)
  (fun s ρ w _ _ _=>Q7 w _) [] (fun v M=>[0,1]) 600 ?_
 rintro⟨l,m,c,nn,z,x⟩ w ⟨h0,h1,h2⟩ -
 refine⟨rfl,?_⟩
 dsimp only at h0 h1 h2
 refine Qh (q:=∃(s:IdS),[SA.c (.so 0 0 5 (List.length l) c nn),SA.c (.fn 13 [(1,0)])]=[SA.c (.so 0 0 5 (List.length s.1) s.3 s.4),SA.c (.fn 13 [(1,0)])]/\[SB.rows 36 kI5 5 m c z,SB.cells [sI (x 0)] 3]=[SB.rows 36 kI5 5 s.2 s.3 s.5,SB.cells [sI (s.6 0)] 3]/\(List.length s.1<=1000/\(List.length s.1<=s.2/\s.2<=s.3)/\IsA s.5 s.1)/\∀(x_1:Int),IdOk s.1 (s.6 0) x_1->bif x_1==(-1:Int)then endN QeV [] (fun (v:SV) (M:List SB)=>[0,1]) (IdS.mk l m c nn z x) (SV.o (SA.c (.so 0 0 5 (List.length l) c nn))) [SB.rows 36 kI5 5 s.2 s.3 s.5,SB.cells [sI (s.6 0)] 3]else (∃(s0:Ann.σ (annDe (IdS.mk l m c nn z x))),(eS (SA.c (.so 0 0 5 (List.length l) c nn)) (SA.c (.so 0 0 5 (List.length l) c nn))/\eS (SA.c (.fn 13 [(1,0)])) (SA.c (.fn 13 [(1,0)]))/\eS (aI x_1) (aI ↑s0.1)/\eS (aI (IntKind.wrap .i64 (x_1+(1:Int)))) (aI ↑s0.2)/\True)/\[SB.rows 36 kI5 5 s.2 s.3 s.5,SB.cells [sI (s.6 0)] 3]=[SB.rows 36 kI5 5 m c s0.3,SB.cells [sI (x 0)] 3])/\∀(s:DeG (IdS.mk l m c nn z x)),List.length l<=c/\bif decide ((↑s.2:Int)<(↑(List.length l):Int))then ((0:Int)<=(↑s.2:Int)/\(↑s.2:Int)<(↑(List.length l):Int)/\0+List.length l<=c)/\0+Int.toNat (↑s.2:Int)<m/\∃(s_1:(Nat->Int) × (Nat->Int)),[SA.a [sI (s.3 (0+Int.toNat (↑s.2:Int)) 0),sI (s.3 (0+Int.toNat (↑s.2:Int)) 1),sI (s.3 (0+Int.toNat (↑s.2:Int)) 2),sI (s.3 (0+Int.toNat (↑s.2:Int)) 3),sI (s.3 (0+Int.toNat (↑s.2:Int)) 4)],aP 1 0]=[SA.a [sI (s_1.1 0),sI (s_1.1 1),sI (s_1.1 2),sI (s_1.1 3),sI (s_1.1 4)],aP 1 0]/\[SB.cells [sI (x 0)] 3]=[SB.cells [sI (s_1.2 0)] 3]/\True/\∀(x_2:Unit),True->bif bif s_1.1 0==s_1.2 0 then false else true then ((0:Int)<=(↑s.1:Int)/\(↑s.1:Int)<(↑(List.length l):Int)/\0+List.length l<=c)/\0+Int.toNat (↑s.1:Int)<m/\∃(s':DeG (IdS.mk l m c nn z x)),((eS (SA.c (.so 0 0 5 (List.length l) c nn)) (SA.c (.so 0 0 5 (List.length l) c nn))/\eS (SA.c (.fn 13 [(1,0)])) (SA.c (.fn 13 [(1,0)]))/\eS (aI (IntKind.wrap .i64 ((↑s.1:Int)+(1:Int)))) (aI ↑s'.1)/\eS (aI (IntKind.wrap .i64 ((↑s.2:Int)+(1:Int)))) (aI ↑s'.2)/\True)/\[SB.rows 36 kI5 5 m c fun (i j:Nat)=>bif match Nat.beq i (0+Int.toNat (↑s.1:Int))with|false=>false|true=>Nat.ble j 4 then match List.get?Internal [s.3 (0+Int.toNat (↑s.2:Int)) 0,s.3 (0+Int.toNat (↑s.2:Int)) 1,s.3 (0+Int.toNat (↑s.2:Int)) 2,s.3 (0+Int.toNat (↑s.2:Int)) 3,s.3 (0+Int.toNat (↑s.2:Int)) 4] j with|some x=>x|none=>(0:Int)else s.3 i j,SB.cells [sI (s_1.2 0)] 3]=[SB.rows 36 kI5 5 m c s'.3,SB.cells [sI (x 0)] 3])/\List.length l-s'.2<List.length l-s.2 else ∃(s':DeG (IdS.mk l m c nn z x)),((eS (SA.c (.so 0 0 5 (List.length l) c nn)) (SA.c (.so 0 0 5 (List.length l) c nn))/\eS (SA.c (.fn 13 [(1,0)])) (SA.c (.fn 13 [(1,0)]))/\eS (aI ↑s.1) (aI ↑s'.1)/\eS (aI (IntKind.wrap .i64 ((↑s.2:Int)+(1:Int)))) (aI ↑s'.2)/\True)/\[SB.rows 36 kI5 5 m c s.3,SB.cells [sI (s_1.2 0)] 3]=[SB.rows 36 kI5 5 m c s'.3,SB.cells [sI (x 0)] 3])/\List.length l-s'.2<List.length l-s.2 else ((0:Int)<=(↑s.1:Int)/\(↑s.1:Int)<=(↑(List.length l):Int)/\(↑(List.length l):Int)<=(↑c:Int)/\(0=0\/(↑s.1:Int)<(↑c:Int)))/\(0<Int.toNat (↑(List.length l):Int)-Int.toNat (↑s.1:Int)/\0+Int.toNat (↑s.1:Int)+(Int.toNat (↑(List.length l):Int)-Int.toNat (↑s.1:Int))<=m/\c=c)/\((0:Int)<=(↑s.1:Int)/\(↑s.1:Int)<=(↑c:Int))/\endN QeV [] (fun (v:SV) (M:List SB)=>[0,1]) (IdS.mk l m c nn z x) (SV.o (SA.c (.so 0 0 5 (Int.toNat (↑s.1:Int)) c nn))) [SB.rows 36 kI5 5 m c fun (i j:Nat)=>bif match Nat.ble (0+Int.toNat (↑s.1:Int)) i with|false=>false|true=>Nat.ble (i+1) (0+Int.toNat (↑s.1:Int)+(Int.toNat (↑(List.length l):Int)-Int.toNat (↑s.1:Int)))then (0:Int)else s.3 i j,SB.cells [sI (x 0)] 3]) (by kernel_rfl) ?_
 refine⟨⟨l,m,c,nn,z,x⟩,rfl,rfl,⟨h0,h1,h2⟩,fun k hk=>?_⟩
 dsimp only at hk
 rcases hk with⟨rfl,hn⟩|⟨i0,rfl,hi0,ht0,hn⟩
 · refine Qar (fun _=>?_) (fun h=>absurd rfl h)
   have e:=Qif hn
   exact QaW (x':=.o (.c (.so 0 0 5 l.length c nn))) rfl ⟨z⟩ (by show IsA z (othA (x 0) l);rw[e];exact h2) rfl (congrArg (fun k=>SV.o (SA.c (SC.so 0 0 5 k c nn))) (congrArg List.length e).symm) rfl
 · have e1:othA (x 0) (l.take (i0+1))=l.take i0:=(Qie hi0 ht0).trans (Qif hn)
   refine Qar (fun h=>absurd h (by omega)) (fun _=>⟨⟨⟨i0,i0+1,z,Nat.lt_succ_self _,hi0,by show i0=(othA (x 0) (l.take (i0+1))).length;rw[e1,List.length_take];omega,by show IsA z (othA (x 0) (l.take (i0+1)));rw[e1];exact h2.take _,fun _ _ _ _=>rfl⟩,⟨rfl,rfl,rfl,svI (sucI (by omega)),trivial⟩,rfl⟩,?_⟩)
   clear e1
   rintro⟨i,j,z2,hij,hjn,hil,hz,hr⟩
   dsimp only at hij hjn hil hz hr ⊢
   have e0 (j:Nat):0+(j:Int).toNat=j:=by rw[Int.toNat_natCast,Nat.zero_add]
   rw[e0 j,e0 i]
   refine⟨by omega,Qi (fun hlt=>?_) (fun hge=>?_)⟩
   · have hlt':j<l.length:=by omega
     obtain⟨a0,a1,a2,a3,a4⟩:=h2 j hlt'
     have b0:=(hr j (Nat.le_refl _) 0 (by decide)).trans a0
     have b1:=(hr j (Nat.le_refl _) 1 (by decide)).trans a1
     have b2:=(hr j (Nat.le_refl _) 2 (by decide)).trans a2
     have b3:=(hr j (Nat.le_refl _) 3 (by decide)).trans a3
     have b4:=(hr j (Nat.le_refl _) 4 (by decide)).trans a4
     refine⟨⟨by omega,hlt,by omega⟩,by omega,(z2 j,x),rfl,rfl,trivial,fun _ _=>QgP (fun hne=>?_) (fun heq=>?_)⟩
     · have hne:((l.getD j Ask.nil).t:Int)≠x 0:=fun h=>hne (b0.trans h)
       have e:=oth_in hlt' hne
       refine⟨⟨by omega,by omega,by omega⟩,by omega,⟨i+1,j+1,_,by omega,hlt',?_,?_,?_⟩,⟨⟨rfl,rfl,svI (sucI (by omega)),svI (sucI (by omega)),trivial⟩,rfl⟩,by dsimp only;omega⟩
       · show i+1=(othA (x 0) (l.take (j+1))).length
         rw[e,List.length_append,<- hil];rfl
       · show IsA _ (othA (x 0) (l.take (j+1)))
         rw[e]
         refine hz.snoc (fun q hq b=>(updA q b).trans (if_neg (by omega))) ⟨?_,?_,?_,?_,?_⟩
         · exact (updA _ 0).trans ((if_pos ⟨hil.symm,by decide⟩).trans b0)
         · exact (updA _ 1).trans ((if_pos ⟨hil.symm,by decide⟩).trans b1)
         · exact (updA _ 2).trans ((if_pos ⟨hil.symm,by decide⟩).trans b2)
         · exact (updA _ 3).trans ((if_pos ⟨hil.symm,by decide⟩).trans b3)
         · exact (updA _ 4).trans ((if_pos ⟨hil.symm,by decide⟩).trans b4)
       · intro q hq b hb
         exact ((updA q b).trans (if_neg (by omega))).trans (hr q (by omega) b hb)
     · have heq:((l.getD j Ask.nil).t:Int)=x 0:=b0.symm.trans heq
       have e:=Qie hlt' heq
       exact⟨⟨i,j+1,z2,by omega,hlt',by show i=(othA (x 0) (l.take (j+1))).length;rw[e];exact hil,by show IsA z2 (othA (x 0) (l.take (j+1)));rw[e];exact hz,fun q hq=>hr q (by omega)⟩,⟨⟨rfl,rfl,rfl,svI (sucI (by omega)),trivial⟩,rfl⟩,by dsimp only;omega⟩
   · have hjn':j=l.length:=by omega
     subst hjn'
     rw[List.take_length]at hil hz
     refine⟨⟨by omega,by omega,by omega,.inl rfl⟩,⟨by omega,by omega,rfl⟩,⟨by omega,by omega⟩,?_⟩
     rw[Int.toNat_natCast i,Int.toNat_natCast l.length]
     refine QaW (x':=.o (.c (.so 0 0 5 i c nn))) rfl ⟨_⟩ ?_ rfl (congrArg (fun k=>SV.o (SA.c (SC.so 0 0 5 k c nn))) hil) rfl
     refine hz.sub fun q hq b=>?_
     have hq:q<i:=by rw[hil];exact hq
     have hb:Nat.ble i q=false:=by
      cases h:Nat.ble i q
      · rfl
      · exact absurd (Nat.le_of_ble_eq_true h) (by omega)
     simp only[hb]
end
end Go.Proofs.YtflgoaogcenmpaaDoor
