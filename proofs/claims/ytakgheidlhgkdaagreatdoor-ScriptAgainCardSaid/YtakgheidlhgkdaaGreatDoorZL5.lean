/- What the proof leans on, gathered. -/
import Derived.Test.YtakgheidlhgkdaaGreatDoorRows
import Derived.WalkKit
import Derived.Test.YtakgheidlhgkdaaGreatDoorProg
import Derived.ChangeVars
import Derived.JoinedOf
import Derived.RowKit
import Derived.LaidLaws
import Derived.LaidHandle
import Derived.Stop.Joined
import Derived.Test.YtakgheidlhgkdaaGreatDoorZL4
namespace Go.Proofs.YtakgheidlhgkdaaGreatDoor
set_option linter.unusedVariables false
set_option maxRecDepth 100000
set_option maxHeartbeats 8000000
section
open Go.RowKit
theorem Qpt {ρ:Nat->Nat}{i:Nat}{a b:Sto}(h1:∀j,j<72->a.now j=b.now j) (h2:∀j,j<72->a.good j=b.good j) (h3:∀j,j<36->a.want j=b.want j) (h4:a.fl=b.fl) (h5:a.fe=b.fe):denB ρ i (stoB a)=denB ρ i (stoB b):=by
 have e1:(List.range 72).map (fun i=>mkV (.int .u64) (a.now i))=(List.range 72).map (fun i=>mkV (.int .u64) (b.now i)):=List.map_congr_left fun j hj=>by rw[h1 j (List.mem_range.1 hj)]
 have e2:(List.range 72).map (fun i=>mkV (.int .u64) (a.good i))=(List.range 72).map (fun i=>mkV (.int .u64) (b.good i)):=List.map_congr_left fun j hj=>by rw[h2 j (List.mem_range.1 hj)]
 have e3:(List.range 36).map (fun i=>mkV .bool (a.want i))=(List.range 36).map (fun i=>mkV .bool (b.want i)):=List.map_congr_left fun j hj=>by rw[h3 j (List.mem_range.1 hj)]
 simp only[denB,Qd,Seg.den]
 rw[e1,e2,e3,h4,h5]
structure QbB where
 s:Sto
 l:Int
def crTo (s:QbB) (n:Nat):Sto:={ s.s with now:=fun j=>bif decide (j/8<n)then Qs s.l s.s j else s.s.now j,good:=fun j=>bif decide (j/8<n)then Qs s.l s.s j else s.s.good j }
theorem QmU (s:QbB):crTo s 0=s.s:=by
 unfold crTo
 have e (j:Nat):decide (j/8<0)=false:=decide_eq_false (Nat.not_lt_zero _)
 simp only[e,cond_false]
def lnB (i j:Nat):Bool:=Nat.ble (8*i) j&&Nat.ble j (8*i+1+1+1+1+1+1+1)
theorem lnB_d (i j:Nat):lnB i j=decide (j/8=i):=by
 unfold lnB
 rw[Qk1,Qk1,<- Bool.decide_and,decide_eq_decide];omega
theorem QgG {f g:Nat->Int}{i j:Nat}:(bif lnB i j then f (8*i+(j-8*i))else g j)=(bif decide (j/8=i)then f j else g j):=by
 rw[lnB_d]
 by_cases e:j/8=i
 · rw[decide_eq_true e,show 8*i+(j-8*i)=j by omega]
 · rw[decide_eq_false e];rfl
theorem QgF (i j:Nat):decide (j/8<i+1)=(decide (j/8=i)||decide (j/8<i)):=by
 rw[<- Bool.decide_or,decide_eq_decide];omega
theorem Qow (s:QbB) {i:Nat}(hi:i<9) (hb:s.l/2^i%2=1) (j:Nat):(bif decide (j/8=i)then (crTo s i).now j else (crTo s i).good j)=(crTo s (i+1)).good j:=by
 unfold crTo
 dsimp only
 rw[QgF]
 by_cases e:j/8=i
 · rw[decide_eq_true e,decide_eq_false (show ¬j/8<i by omega)]
   show s.s.now j=Qs s.l s.s j
   unfold Qs
   rw[decide_eq_true (show j<72 by omega),e,decide_eq_true hb];rfl
 · rw[decide_eq_false e];rfl
theorem Qp3 (s:QbB) {i:Nat}(hi:i<9) (hb:s.l/2^i%2=1) (j:Nat):(bif decide (j/8=i)then (crTo s (i+1)).good j else (crTo s i).now j)=(crTo s (i+1)).now j:=by
 unfold crTo
 dsimp only
 rw[QgF]
 by_cases e:j/8=i
 · rw[decide_eq_true e];rfl
 · rw[decide_eq_false e];rfl
theorem Qp4 (s:QbB) {i:Nat}(hi:i<9) (hb:s.l/2^i%2≠1) (j:Nat):(bif decide (j/8=i)then (crTo s i).good j else (crTo s i).now j)=(crTo s (i+1)).now j:=by
 unfold crTo
 dsimp only
 rw[QgF]
 by_cases e:j/8=i
 · rw[decide_eq_true e,decide_eq_false (show ¬j/8<i by omega)]
   show s.s.good j=Qs s.l s.s j
   unfold Qs
   rw[e,decide_eq_false hb,Bool.and_false];rfl
 · rw[decide_eq_false e];rfl
theorem Qox (s:QbB) {i:Nat}(hi:i<9) (hb:s.l/2^i%2≠1) (j:Nat):(crTo s i).good j=(crTo s (i+1)).good j:=by
 unfold crTo
 dsimp only
 rw[QgF]
 by_cases e:j/8=i
 · rw[decide_eq_true e,decide_eq_false (show ¬j/8<i by omega)]
   show s.s.good j=Qs s.l s.s j
   unfold Qs
   rw[e,decide_eq_false hb,Bool.and_false];rfl
 · rw[decide_eq_false e];rfl
theorem bit_at {l:Int}(h:U64 l) {i:Nat}(hi:i<9):bits BinOp.and .u64 (Int.fdiv l (2^min (Int.toNat (i:Int)) 64)) 1=l/2^i%2:=by
 have:=QgO (w:=l) (a:=(i:Int)) (n:=1) h (by unfold Qcd;exact decide_eq_true (by omega))
 rw[show QfP 1=1 from rfl]at this
 rw[this]
 have ht:(l.toNat:Int)=l:=by have:=h.1;omega
 unfold getZ getN
 rw[Int.toNat_natCast]
 have hc:i=0\/i=1\/i=2\/i=3\/i=4\/i=5\/i=6\/i=7\/i=8:=by omega
 rcases hc with rfl|rfl|rfl|rfl|rfl|rfl|rfl|rfl|rfl<;>(simp only[Int.toNat_one,Nat.pow_one,Nat.reducePow,Int.reducePow];omega)
theorem Qll {a b:Sto}{n g:Nat->Int}(h1:n=b.now) (h2:g=b.good) (h3:a.want=b.want) (h4:a.fl=b.fl) (h5:a.fe=b.fe):[stoB ⟨n,g,a.want,a.fl,a.fe⟩]=[stoB b]:=by
 rw[h1,h2,h3,h4,h5]
def QdI (b:Bool):MCon:=dcon QbB (fun s=>U64 s.l) (fun s=>[.c (.p 0 0),.c (.v (.int .u64 s.l))]) (fun s=>[stoB s.s]) (fun s=>.t []) (fun s=>[stoB (bif b then s.s.crash s.l else { crTo s 9 with want:=fun _=>0 })]) 1 (fun args _=>some (blkA args))
structure CrG where
 i:Nat
 hi:i<=9
def annCr (s:QbB):Ann where
 σ:=CrG
 I g:=([(0,.o (.c (.p 0 0))),(1,sv (.int .u64 s.l)),(5,sv (.int .i64 g.i))],[stoB (crTo s g.i)])
 dec g:=9-g.i
 pi env _:=[0]
 nz:=[]
theorem Qlk:(Con.mem (QdI false)).holds Tryz.prog 35:=by
 intro w0 S
 refine Qa (Γ:=[]) (fun _=>noW) Tryz.func35 rfl (by kernel_rfl) Qf Qc (fun w S' _ _=>.nil _ _ _) (QdI false) (fun s=>[(35,[(0,annCr s)])]) (fun x0 h s x=>⟨rfl,trivial⟩) (fun s ρ w _ _ _=>Qh w _) [] (Qm 1) 400 ?_
 rintro⟨s,l⟩ w h0 -
 refine⟨rfl,?_⟩
 have h0:U64 l:=h0
 refine Qj (q:=(∃(s0:Ann.σ (annCr (QbB.mk s l))),(eS (aP 0 0) (aP 0 0)/\eS (aU l) (aU l)/\eS (aI 0) (aI ↑s0.1)/\True)/\[SB.cells [nU 72 s.1,nU 72 s.2,nB 36 s.3,sI s.4,sI s.5] 103]=[SB.cells [nU 72 fun (j:Nat)=>bif decide (j/8<s0.1)then Qs l s j else s.1 j,nU 72 fun (j:Nat)=>bif decide (j/8<s0.1)then Qs l s j else s.2 j,nB 36 s.3,sI s.4,sI s.5] 103])/\∀(s_1:CrG),bif decide ((↑s_1.1:Int)<(9:Int))then (0:Int)<=(↑s_1.1:Int)/\bif bits BinOp.and .u64 (Int.fdiv l ((2:Int)^min (Int.toNat (↑s_1.1:Int)) 64)) (1:Int)==(1:Int)then (iR (↑s_1.1:Int) (9:Int))/\t8 s_1.1+1+1+1+1+1+1+1+1<=72/\(iR (↑s_1.1:Int) (9:Int))/\t8 s_1.1+1+1+1+1+1+1+1+1<=72/\dP Tryz.f35 4 1 [⟨11,[],[0],[],false⟩,xF 10 0,xF 9 0,xF 8 0,xR 7 0,xF 6 0,xF 5 0,xF 4 0,xE 3,xF 2 0,xE 1,xF 0 0]/\(iR (↑s_1.1:Int) (9:Int))/\t8 s_1.1+1+1+1+1+1+1+1+1<=72/\(iR (↑s_1.1:Int) (9:Int))/\t8 s_1.1+1+1+1+1+1+1+1+1<=72/\dP Tryz.f35 5 1 [⟨11,[],[0],[],false⟩,xF 10 0,xF 9 0,xF 8 0,xR 7 0,xF 6 0,xF 5 0,xF 4 0,xE 3,xF 2 0,xE 1,xF 0 0]/\∃(s':CrG),((eS (aP 0 0) (aP 0 0)/\eS (aU l) (aU l)/\eS (aI (IntKind.wrap .i64 ((↑s_1.1:Int)+(1:Int)))) (aI ↑s'.1)/\True)/\[SB.cells [nU 72 fun (j:Nat)=>bif match Nat.ble (t8 s_1.1) j with|false=>false|true=>Nat.ble j (t8 s_1.1+1+1+1+1+1+1+1)then bif match Nat.ble (t8 s_1.1) (t8 s_1.1+(j-(t8 s_1.1)))with|false=>false|true=>Nat.ble (t8 s_1.1+(j-(t8 s_1.1))) (t8 s_1.1+1+1+1+1+1+1+1)then bif decide ((t8 s_1.1+(t8 s_1.1+(j-(t8 s_1.1))-(t8 s_1.1)))/8<s_1.1)then Qs l s (t8 s_1.1+(t8 s_1.1+(j-(t8 s_1.1))-(t8 s_1.1)))else s.1 (t8 s_1.1+(t8 s_1.1+(j-(t8 s_1.1))-(t8 s_1.1)))else bif decide ((t8 s_1.1+(j-(t8 s_1.1)))/8<s_1.1)then Qs l s (t8 s_1.1+(j-(t8 s_1.1)))else s.2 (t8 s_1.1+(j-(t8 s_1.1)))else bif decide (j/8<s_1.1)then Qs l s j else s.1 j,nU 72 fun (j:Nat)=>bif match Nat.ble (t8 s_1.1) j with|false=>false|true=>Nat.ble j (t8 s_1.1+1+1+1+1+1+1+1)then bif decide ((t8 s_1.1+(j-(t8 s_1.1)))/8<s_1.1)then Qs l s (t8 s_1.1+(j-(t8 s_1.1)))else s.1 (t8 s_1.1+(j-(t8 s_1.1)))else bif decide (j/8<s_1.1)then Qs l s j else s.2 j,nB 36 s.3,sI s.4,sI s.5] 103]=[SB.cells [nU 72 fun (j:Nat)=>bif decide (j/8<s'.1)then Qs l s j else s.1 j,nU 72 fun (j:Nat)=>bif decide (j/8<s'.1)then Qs l s j else s.2 j,nB 36 s.3,sI s.4,sI s.5] 103])/\9-s'.1<9-s_1.1 else (iR (↑s_1.1:Int) (9:Int))/\t8 s_1.1+1+1+1+1+1+1+1+1<=72/\(iR (↑s_1.1:Int) (9:Int))/\t8 s_1.1+1+1+1+1+1+1+1+1<=72/\dP Tryz.f35 5 1 [⟨11,[],[0],[],false⟩,xF 10 0,xF 9 0,xF 8 0,xR 7 0,xF 6 0,xF 5 0,xF 4 0,xE 3,xF 2 0,xE 1,xF 0 0]/\∃(s':CrG),((eS (aP 0 0) (aP 0 0)/\eS (aU l) (aU l)/\eS (aI (IntKind.wrap .i64 ((↑s_1.1:Int)+(1:Int)))) (aI ↑s'.1)/\True)/\[SB.cells [nU 72 fun (j:Nat)=>bif match Nat.ble (t8 s_1.1) j with|false=>false|true=>Nat.ble j (t8 s_1.1+1+1+1+1+1+1+1)then bif decide ((t8 s_1.1+(j-(t8 s_1.1)))/8<s_1.1)then Qs l s (t8 s_1.1+(j-(t8 s_1.1)))else s.2 (t8 s_1.1+(j-(t8 s_1.1)))else bif decide (j/8<s_1.1)then Qs l s j else s.1 j,nU 72 fun (j:Nat)=>bif decide (j/8<s_1.1)then Qs l s j else s.2 j,nB 36 s.3,sI s.4,sI s.5] 103]=[SB.cells [nU 72 fun (j:Nat)=>bif decide (j/8<s'.1)then Qs l s j else s.1 j,nU 72 fun (j:Nat)=>bif decide (j/8<s'.1)then Qs l s j else s.2 j,nB 36 s.3,sI s.4,sI s.5] 103])/\9-s'.1<9-s_1.1 else endN (QdI false) [] (Qm 1) (QbB.mk s l) (SV.t []) [SB.cells [nU 72 fun (j:Nat)=>bif decide (j/8<s_1.1)then Qs l s j else s.1 j,nU 72 fun (j:Nat)=>bif decide (j/8<s_1.1)then Qs l s j else s.2 j,nB 36 zF,sI s.4,sI s.5] 103]) (by kernel_rfl) ?_
 unfold t8
 refine⟨⟨⟨0,by decide⟩,⟨rfl,rfl,rfl,trivial⟩,?_⟩,?_⟩
 · show [stoB s]=[stoB (crTo ⟨s,l⟩ 0)]
   rw[QmU]
 rintro⟨i,hi⟩
 dsimp only at hi ⊢
 refine Qo (fun hlt=>?_) (fun hge=>?_)
 · have hlt':i<9:=by omega
   have e8:0+i+i+i+i+i+i+i+i=8*i:=by omega
   rw[bit_at h0 hlt',Int.toNat_natCast,e8]
   refine⟨by omega,Q5 (fun hb=>?_) (fun hb=>?_)⟩
   · refine⟨⟨by omega,by omega⟩,by omega,⟨by omega,by omega⟩,by omega,Qe (by kernel_rfl),⟨by omega,by omega⟩,by omega,⟨by omega,by omega⟩,by omega,Qe (by kernel_rfl),⟨i+1,hlt'⟩,⟨⟨rfl,rfl,svI (sucI (by omega)),trivial⟩,?_⟩,by dsimp only;omega⟩
     have hgood:(fun j=>bif lnB i j then (crTo ⟨s,l⟩ i).now (8*i+(j-8*i))else (crTo ⟨s,l⟩ i).good j)=(crTo ⟨s,l⟩ (i+1)).good:=funext fun j=>QgG.trans (Qow ⟨s,l⟩ hlt' hb j)
     have hnow:(fun j=>bif lnB i j then (fun j=>bif lnB i j then (crTo ⟨s,l⟩ i).now (8*i+(j-8*i))else (crTo ⟨s,l⟩ i).good j) (8*i+(j-8*i))else (crTo ⟨s,l⟩ i).now j)=(crTo ⟨s,l⟩ (i+1)).now:=by
      rw[hgood];exact funext fun j=>QgG.trans (Qp3 ⟨s,l⟩ hlt' hb j)
     exact Qll (a:=crTo ⟨s,l⟩ i) (b:=crTo ⟨s,l⟩ (i+1)) hnow hgood rfl rfl rfl
   · refine⟨⟨by omega,by omega⟩,by omega,⟨by omega,by omega⟩,by omega,Qe (by kernel_rfl),⟨i+1,hlt'⟩,⟨⟨rfl,rfl,svI (sucI (by omega)),trivial⟩,?_⟩,by dsimp only;omega⟩
     have hgood:(crTo ⟨s,l⟩ i).good=(crTo ⟨s,l⟩ (i+1)).good:=funext fun j=>Qox ⟨s,l⟩ hlt' hb j
     have hnow:(fun j=>bif lnB i j then (crTo ⟨s,l⟩ i).good (8*i+(j-8*i))else (crTo ⟨s,l⟩ i).now j)=(crTo ⟨s,l⟩ (i+1)).now:=funext fun j=>QgG.trans (Qp4 ⟨s,l⟩ hlt' hb j)
     exact Qll (a:=crTo ⟨s,l⟩ i) (b:=crTo ⟨s,l⟩ (i+1)) hnow hgood rfl rfl rfl
 · obtain rfl:i=9:=by omega
   exact Qi rfl () trivial rfl rfl rfl
theorem Qhk:(Con.mem (QdI true)).holds Tryz.prog 35:=by
 intro w0 S
 have h:=Qlk w0 S
 refine⟨h.1,fun x0 _ s x=>⟨rfl,trivial⟩,fun ρ s w hp hk hm=>(h.2.2 ρ s w hp hk hm).mono ?_⟩
 rintro e w' ⟨x,ρ',-,h1,h2,h3,h4⟩
 refine⟨(),ρ',trivial,h1,rfl,h3,?_⟩
 have e:denM ρ' 0 [stoB { crTo s 9 with want:=fun _=>0 }]=denM ρ' 0 [stoB (s.s.crash s.l)]:=by
  simp only[denM]
  rw[Qpt (a:={ crTo s 9 with want:=fun _=>0 }) (b:=s.s.crash s.l) (fun j hj=>?_) (fun j hj=>?_) (fun _ _=>rfl) rfl rfl]
  · show (bif decide (j/8<9)then Qs s.l s.s j else s.s.now j)=Qs s.l s.s j
    rw[decide_eq_true (by omega)];rfl
  · show (bif decide (j/8<9)then Qs s.l s.s j else s.s.good j)=Qs s.l s.s j
    rw[decide_eq_true (by omega)];rfl
 show Mem w _ (denM ρ' 0 [stoB (s.s.crash s.l)]) w'
 rw[<- e];exact h4
structure QcA where
 s:Sto
 l:Int
def Qbz:MCon:=dcon QcA (fun _=>True) (fun s=>[.c (.p 0 0),.c (.v (.int .i64 s.l))]) (fun s=>[stoB s.s]) (fun s=>.o (.c (.v (bif decide (0<=s.l/\s.l<9)then .nilIface else .iface 92 (.int .i64 2))))) (fun s=>[stoB (bif decide (0<=s.l/\s.l<9)then s.s.evict s.l.toNat else s.s)]) 1 (fun args _=>some (blkA args))
theorem Qhj:(Con.mem Qbz).holds Tryz.prog 31:=by
 intro w0 S
 refine Qa (Γ:=[]) (fun _=>noW) Tryz.func31 rfl (by kernel_rfl) Qf Qc (fun w S' _ _=>.nil _ _ _) Qbz (fun s=>[]) (fun x0 h s x=>⟨rfl,trivial⟩) (fun s ρ w _ _ _=>Qh w _) [] (Qm 1) 400 ?_
 rintro⟨s,l⟩ w - -
 refine⟨rfl,?_⟩
 refine Qj (q:=bif decide (l<(0:Int))then endN Qbz [] (Qm 1) (QcA.mk s l) (SV.o (SA.c (.v (.iface 92 (Value.int .i64 (2:Int)))))) [SB.cells [nU 72 s.1,nU 72 s.2,nB 36 s.3,sI s.4,sI s.5] 103]else bif decide (l>=(9:Int))then endN Qbz [] (Qm 1) (QcA.mk s l) (SV.o (SA.c (.v (.iface 92 (Value.int .i64 (2:Int)))))) [SB.cells [nU 72 s.1,nU 72 s.2,nB 36 s.3,sI s.4,sI s.5] 103]else (iR l (9:Int))/\0+Int.toNat l+Int.toNat l+Int.toNat l+Int.toNat l+Int.toNat l+Int.toNat l+Int.toNat l+Int.toNat l+1+1+1+1+1+1+1+1<=72/\(iR l (9:Int))/\0+Int.toNat l+Int.toNat l+Int.toNat l+Int.toNat l+Int.toNat l+Int.toNat l+Int.toNat l+Int.toNat l+1+1+1+1+1+1+1+1<=72/\dP Tryz.f31 3 1 [⟨11,[],[0],[],false⟩,xF 10 0,xF 9 0,xF 8 0,xR 7 0,xF 6 0,xF 5 0,xF 4 0,xE 3,xF 2 0,xE 1,xF 0 0]/\endN Qbz [] (Qm 1) (QcA.mk s l) (SV.o (SA.c (.v Value.nilIface))) [SB.cells [nU 72 s.1,nU 72 fun (j:Nat)=>bif match Nat.ble (0+Int.toNat l+Int.toNat l+Int.toNat l+Int.toNat l+Int.toNat l+Int.toNat l+Int.toNat l+Int.toNat l) j with|false=>false|true=>Nat.ble j (0+Int.toNat l+Int.toNat l+Int.toNat l+Int.toNat l+Int.toNat l+Int.toNat l+Int.toNat l+Int.toNat l+1+1+1+1+1+1+1)then s.1 (0+Int.toNat l+Int.toNat l+Int.toNat l+Int.toNat l+Int.toNat l+Int.toNat l+Int.toNat l+Int.toNat l+(j-(0+Int.toNat l+Int.toNat l+Int.toNat l+Int.toNat l+Int.toNat l+Int.toNat l+Int.toNat l+Int.toNat l)))else s.2 j,nB 36 s.3,sI s.4,sI s.5] 103]) (by kernel_rfl) ?_
 refine Qo (fun h=>?_) (fun h=>Qo (fun h2=>?_) (fun h2=>?_))
 · have e:decide (0<=l/\l<9)=false:=decide_eq_false (by omega)
   refine Qi rfl () trivial rfl ?_ ?_
   · show _=SV.ren _ (.o (.c (.v (bif decide (0<=l/\l<9)then _ else _))))
     rw[e];rfl
   · show _=[stoB (bif decide (0<=l/\l<9)then s.evict l.toNat else s)].map _
     rw[e];rfl
 · have e:decide (0<=l/\l<9)=false:=decide_eq_false (by omega)
   refine Qi rfl () trivial rfl ?_ ?_
   · show _=SV.ren _ (.o (.c (.v (bif decide (0<=l/\l<9)then _ else _))))
     rw[e];rfl
   · show _=[stoB (bif decide (0<=l/\l<9)then s.evict l.toNat else s)].map _
     rw[e];rfl
 · have e:decide (0<=l/\l<9)=true:=decide_eq_true (by omega)
   have e8:0+l.toNat+l.toNat+l.toNat+l.toNat+l.toNat+l.toNat+l.toNat+l.toNat=8*l.toNat:=by omega
   rw[e8]
   refine⟨⟨by omega,by omega⟩,by omega,⟨by omega,by omega⟩,by omega,Qe (by kernel_rfl),Qi rfl () trivial rfl ?_ ?_⟩
   · show _=SV.ren _ (.o (.c (.v (bif decide (0<=l/\l<9)then _ else _))))
     rw[e];rfl
   · show [stoB ⟨s.now,fun j=>bif lnB l.toNat j then s.now (8*l.toNat+(j-8*l.toNat))else s.good j,s.want,s.fl,s.fe⟩]=[stoB (bif decide (0<=l/\l<9)then s.evict l.toNat else s)].map _
     rw[e,show (fun j=>bif lnB l.toNat j then s.now (8*l.toNat+(j-8*l.toNat))else s.good j)=(s.evict l.toNat).good from funext fun j=>QgG];rfl
def QeW:MCon:=dcon (Nat->Int) (fun _=>True) (fun _=>[.c (.p 0 0)]) (fun s=>[ramB s]) (fun _=>.t []) (fun _=>[ramB (fun _=>0)]) 1 (fun args _=>some (blkA args))
theorem Qm0:(Con.mem QeW).holds Tryz.prog 36:=by
 intro w0 S
 refine Qa (Γ:=[]) (fun _=>noW) Tryz.func36 rfl (by kernel_rfl) Qf Qc (fun w S' _ _=>.nil _ _ _) QeW (fun s=>[]) (fun x0 h s x=>⟨rfl,trivial⟩) (fun s ρ w _ _ _=>Qh w _) [] (Qm 1) 400 ?_
 rintro s w - -
 refine⟨rfl,?_⟩
 refine Qj (q:=endN QeW [] (Qm 1) s (SV.t []) [SB.cells [nU 16 zF] 82]) (by kernel_rfl) ?_
 exact⟨(),trivial,rfl,rfl⟩
def QdH:MCon where
 σ:=Unit
 χ:=Unit
 pre _:=True
 args _:=[]
 mem _:=[]
 ok _ _:=True
 val _ _:=.o (.c (.p 0 0))
 mem' _ _:=[stoB Sto.new]
 k:=0
 len:=1
 det:=some ()
 find _ _:=some []
theorem QjO:(Con.mem QdH).holds Tryz.prog 29:=by
 intro w0 S
 refine Qa (Γ:=[]) (fun _=>noW) Tryz.func29 rfl (by kernel_rfl) Qf Qc (fun w S' _ _=>.nil _ _ _) QdH (fun _=>[]) (fun x0 h s x=>⟨rfl,trivial⟩) (fun s ρ w _ _ _=>Qh w _) [] (fun _ _=>[0]) 400 ?_
 rintro⟨⟩ W - -
 refine⟨rfl,?_⟩
 refine Qj (q:=endN QdH [] (fun (x:SV) (x_1:List SB)=>[0]) PUnit.unit (SV.o (aP 0 0)) [SB.cells [nU 72 zF,nU 72 zF,nB 36 zF,sI 0,sI 0] 103]) (by kernel_rfl) ?_
 exact⟨(),trivial,rfl,rfl⟩
def QmM (t:Nat):TCon Sh Unit Unit where
 pre z _:=True
 args _:=[.c (.v (.int .i64 t))]
 ok _ _ _:=True
 next z _ _:=z
 val _ z _ _:=sv (.int .i64 (z.w t).does)
 new _ _ _ _:=[]
 len:=0
abbrev QaU (t:Nat):MCon:=(QmM t).low shM ShS.z ShS.good 17 7 Qcm
theorem QhR:(Con.mem (QaU 0)).holds Tryz.prog 23:=by
 intro w0 S
 refine Qa (Γ:=[(32,.inl Tryz.f32 (Tryz.f32.body.getD .skip))]) (fun _=>noW) Tryz.func23 rfl (by kernel_rfl) Qf Qc (fun w S' _ _=>.cons ⟨by kernel_rfl,rfl,rfl⟩ (.nil _ _ _)) (QaU 0) (fun _=>[]) (fun x0 h=>by cases h) (fun s ρ w _ _ _=>Qh w _) [] (fun _ M=>shAt M 0) 600 ?_
 rintro⟨⟨z,r,mh,ch,nh,zh,mv,cv,nv,zv⟩,⟨⟩⟩ W ⟨h0,-⟩ -
 refine⟨rfl,?_⟩
 refine Qj (q:=i04/\endN (QaU 0) [] (fun (x:SV) (M:List SB)=>shAt M 0) (ShS.mk z r mh ch nh zh mv cv nv zv,PUnit.unit) (SV.o (aI (Sh.w z 0).2)) (shI (shD z.4 z.5 15 (List.length z.6) ch nh 16 (List.length z.7) cv nv) z.1 (Sh.s z) (stX (Sh.w z) r) (stA r) (stD r) (evB mh ch zh) (vdB mv cv zv) [])) (by kernel_rfl) ?_
 have h0:(⟨z,r,mh,ch,nh,zh,mv,cv,nv,zv⟩:ShS).good:=h0
 exact⟨⟨by decide,by decide⟩,Qi rfl ⟨⟨z,r,mh,ch,nh,zh,mv,cv,nv,zv⟩,()⟩ ⟨h0,rfl,trivial⟩ rfl rfl rfl⟩
theorem QmP:(Con.mem (QaU 1)).holds Tryz.prog 23:=by
 intro w0 S
 refine Qa (Γ:=[(32,.inl Tryz.f32 (Tryz.f32.body.getD .skip))]) (fun _=>noW) Tryz.func23 rfl (by kernel_rfl) Qf Qc (fun w S' _ _=>.cons ⟨by kernel_rfl,rfl,rfl⟩ (.nil _ _ _)) (QaU 1) (fun _=>[]) (fun x0 h=>by cases h) (fun s ρ w _ _ _=>Qh w _) [] (fun _ M=>shAt M 0) 600 ?_
 rintro⟨⟨z,r,mh,ch,nh,zh,mv,cv,nv,zv⟩,⟨⟩⟩ W ⟨h0,-⟩ -
 refine⟨rfl,?_⟩
 refine Qj (q:=(iR (1:Int) (4:Int))/\endN (QaU 1) [] (fun (x:SV) (M:List SB)=>shAt M 0) (ShS.mk z r mh ch nh zh mv cv nv zv,PUnit.unit) (SV.o (aI (Sh.w z 1).2)) (shI (shD z.4 z.5 15 (List.length z.6) ch nh 16 (List.length z.7) cv nv) z.1 (Sh.s z) (stX (Sh.w z) r) (stA r) (stD r) (evB mh ch zh) (vdB mv cv zv) [])) (by kernel_rfl) ?_
 have h0:(⟨z,r,mh,ch,nh,zh,mv,cv,nv,zv⟩:ShS).good:=h0
 exact⟨⟨by decide,by decide⟩,Qi rfl ⟨⟨z,r,mh,ch,nh,zh,mv,cv,nv,zv⟩,()⟩ ⟨h0,rfl,trivial⟩ rfl rfl rfl⟩
theorem QmO:(Con.mem (QaU 2)).holds Tryz.prog 23:=by
 intro w0 S
 refine Qa (Γ:=[(32,.inl Tryz.f32 (Tryz.f32.body.getD .skip))]) (fun _=>noW) Tryz.func23 rfl (by kernel_rfl) Qf Qc (fun w S' _ _=>.cons ⟨by kernel_rfl,rfl,rfl⟩ (.nil _ _ _)) (QaU 2) (fun _=>[]) (fun x0 h=>by cases h) (fun s ρ w _ _ _=>Qh w _) [] (fun _ M=>shAt M 0) 600 ?_
 rintro⟨⟨z,r,mh,ch,nh,zh,mv,cv,nv,zv⟩,⟨⟩⟩ W ⟨h0,-⟩ -
 refine⟨rfl,?_⟩
 refine Qj (q:=(iR (2:Int) (4:Int))/\endN (QaU 2) [] (fun (x:SV) (M:List SB)=>shAt M 0) (ShS.mk z r mh ch nh zh mv cv nv zv,PUnit.unit) (SV.o (aI (Sh.w z 2).2)) (shI (shD z.4 z.5 15 (List.length z.6) ch nh 16 (List.length z.7) cv nv) z.1 (Sh.s z) (stX (Sh.w z) r) (stA r) (stD r) (evB mh ch zh) (vdB mv cv zv) [])) (by kernel_rfl) ?_
 have h0:(⟨z,r,mh,ch,nh,zh,mv,cv,nv,zv⟩:ShS).good:=h0
 exact⟨⟨by decide,by decide⟩,Qi rfl ⟨⟨z,r,mh,ch,nh,zh,mv,cv,nv,zv⟩,()⟩ ⟨h0,rfl,trivial⟩ rfl rfl rfl⟩
theorem QmN:(Con.mem (QaU 3)).holds Tryz.prog 23:=by
 intro w0 S
 refine Qa (Γ:=[(32,.inl Tryz.f32 (Tryz.f32.body.getD .skip))]) (fun _=>noW) Tryz.func23 rfl (by kernel_rfl) Qf Qc (fun w S' _ _=>.cons ⟨by kernel_rfl,rfl,rfl⟩ (.nil _ _ _)) (QaU 3) (fun _=>[]) (fun x0 h=>by cases h) (fun s ρ w _ _ _=>Qh w _) [] (fun _ M=>shAt M 0) 600 ?_
 rintro⟨⟨z,r,mh,ch,nh,zh,mv,cv,nv,zv⟩,⟨⟩⟩ W ⟨h0,-⟩ -
 refine⟨rfl,?_⟩
 refine Qj (q:=(iR (3:Int) (4:Int))/\endN (QaU 3) [] (fun (x:SV) (M:List SB)=>shAt M 0) (ShS.mk z r mh ch nh zh mv cv nv zv,PUnit.unit) (SV.o (aI (Sh.w z 3).2)) (shI (shD z.4 z.5 15 (List.length z.6) ch nh 16 (List.length z.7) cv nv) z.1 (Sh.s z) (stX (Sh.w z) r) (stA r) (stD r) (evB mh ch zh) (vdB mv cv zv) [])) (by kernel_rfl) ?_
 have h0:(⟨z,r,mh,ch,nh,zh,mv,cv,nv,zv⟩:ShS).good:=h0
 exact⟨⟨by decide,by decide⟩,Qi rfl ⟨⟨z,r,mh,ch,nh,zh,mv,cv,nv,zv⟩,()⟩ ⟨h0,rfl,trivial⟩ rfl rfl rfl⟩
def evC:TCon Sh Int Unit where
 pre z _:=True
 args a:=[.c (.v (.int .i64 a))]
 ok _ _ _:=True
 next z a _:=z.evict a
 val _ z a _:=.o (.c (.v (bif decide (0<=a/\a<9)then .nilIface else .iface 92 (.int .i64 2))))
 new _ _ _ _:=[]
 len:=0
abbrev Qp7:MCon:=evC.low shM ShS.z ShS.good 17 7 Qcm
theorem Qor (z:Sh) (a:Int):z.evict a={ z with s:=bif decide (0<=a/\a<9)then z.s.evict a.toNat else z.s }:=by
 unfold Sh.evict
 by_cases h:0<=a/\a<9
 · rw[if_pos h,decide_eq_true h];rfl
 · rw[if_neg h,decide_eq_false h];rfl
theorem ev_con:(Con.mem Qp7).holds Tryz.prog 38:=by
 intro w0 S
 refine Qa (Γ:=[(31,.mem Qbz)]) (fun _=>noW) Tryz.func38 rfl (by kernel_rfl) Qf Qc (fun w S' _ _=>.cons (Qhj w S') (.nil _ _ _)) Qp7 (fun _=>[]) (fun x0 h=>by cases h) (fun s ρ w _ _ _=>Qh w _) [] (fun _ M=>shAt M 0) 600 ?_
 rintro⟨⟨z,r,mh,ch,nh,zh,mv,cv,nv,zv⟩,a⟩ W ⟨h0,-⟩ -
 refine⟨rfl,?_⟩
 refine Qj (q:=∃(s:QcA),[aP 2 0,aI a]=[aP 2 0,aI s.2]/\[stoB (Sh.s z)]=[stoB (QcA.s s)]/\True/\∀(x:Unit),True->endN Qp7 [] (fun (x:SV) (M:List SB)=>shAt M 0) (ShS.mk z r mh ch nh zh mv cv nv zv,a) (SV.o (SA.c (.v (bif decide (iR s.2 (9:Int))then Value.nilIface else Value.iface 92 (Value.int .i64 (2:Int)))))) (shI (shD z.4 z.5 15 (List.length z.6) ch nh 16 (List.length z.7) cv nv) z.1 (bif decide ((0:Int)<=QcA.l s/\QcA.l s<(9:Int))then Sto.evict (QcA.s s) (Int.toNat (QcA.l s))else QcA.s s) (stX (Sh.w z) r) (stA r) (stD r) (evB mh ch zh) (vdB mv cv zv) [])) (by kernel_rfl) ?_
 have h0:(⟨z,r,mh,ch,nh,zh,mv,cv,nv,zv⟩:ShS).good:=h0
 refine⟨⟨z.s,a⟩,rfl,rfl,trivial,fun _ _=>?_⟩
 exact Qi rfl ⟨⟨{ z with s:=bif decide (0<=a/\a<9)then z.s.evict a.toNat else z.s },r,mh,ch,nh,zh,mv,cv,nv,zv⟩,()⟩ ⟨⟨h0.w,h0.h1,h0.h2,h0.h,h0.v1,h0.v2,h0.v⟩,(Qor z a).symm,trivial⟩ rfl rfl rfl
structure RwR where
 m:Nat
 c:Nat
 nn:Bool
 z:Nat->Nat->Int
def ddsC:TCon Sh Unit RwR where
 pre z _:=z.deeds.length<=1000000000
 args _:=[]
 ok z _ r:=(z.deeds.length<=r.m/\r.m<=r.c)/\IsR 6 Dd.at Dd.nil r.z (z.deeds.map Vd.d)
 next z _ _:=z
 val n z _ r:=.o (.c (.so n 0 6 z.deeds.length r.c r.nn))
 new _ _ _ r:=[wkD r.m r.c r.z]
 len:=1
abbrev QmZ:MCon:=ddsC.low shM ShS.z ShS.good 17 7 Qcm
structure DdsG (z:Sh) where
 i:Nat
 ln:Nat
 r:RwR
 hi:i<=z.deeds.length
 hl:i=ln
 h1:i<=r.m
 h2:r.m<=r.c
 h:IsR 6 Dd.at Dd.nil r.z ((z.deeds.take i).map Vd.d)
abbrev nzDd (t:Nat):NZ:=.tmp t 47 6 [.int .i64,.int .i64,.int .i64,.int .i64,.int .i64,.int .i64]
def Qpg (s:ShS):Ann where
 σ:=DdsG s.z
 I g:=([(0,.o (.c (.p 0 0))),(3,.o (.c (.so 17 0 6 g.ln g.r.c g.r.nn))),(9,.o (.c (.so 16 0 7 s.z.deeds.length s.cv s.nv))),(10,sv (.int .i64 s.z.deeds.length)),(11,sv (.int .i64 g.i))],shM s++[wkD g.r.m g.r.c g.r.z])
 dec g:=s.z.deeds.length-g.i
 pi env M:=shAt M 0++[blkE env 3]
 nz:=[nzDd 3]
theorem Qp1:(Con.mem QmZ).holds Tryz.prog 15:=by
 intro w0 S
 refine Qa (Γ:=[]) (fun _=>noW) Tryz.func15 rfl (by kernel_rfl) Qf Qc (fun w S' _ _=>.nil _ _ _) QmZ (fun s=>[(15,[(0,Qpg s.1)])]) (fun x0 h=>by cases h) (fun s ρ w _ _ _=>Qh w _) [] (fun x M=>shAt M 0++(match x with
  |.o (.c (.so b _ _ _ _ _))=>[b]
  |_=>[])) 600 ?_
 rintro⟨⟨z,r,mh,ch,nh,zh,mv,cv,nv,zv⟩,⟨⟩⟩ W ⟨h0,h1⟩ -
 refine⟨rfl,?_⟩
 dsimp only
 refine Qj (q:=List.length z.7<=cv/\(∃(s0:Ann.σ (Qpg (ShS.mk z r mh ch nh zh mv cv nv zv))),(eS (aP 0 0) (aP 0 0)/\eS (SA.c (.so 17 0 6 0 0 false)) (SA.c (.so 17 0 6 s0.2 (DdsG.r s0).2 (DdsG.r s0).3))/\eS (SA.c (.so 16 0 7 (List.length z.7) cv nv)) (SA.c (.so 16 0 7 (List.length z.7) cv nv))/\eS (aI (↑(List.length z.7):Int)) (aI (↑(List.length z.7):Int))/\eS (aI 0) (aI ↑s0.1)/\True)/\(shI (shD z.4 z.5 15 (List.length z.6) ch nh 16 (List.length z.7) cv nv) z.1 (Sh.s z) (stX (Sh.w z) r) (stA r) (stD r) (evB mh ch zh) (vdB mv cv zv) [wd0])=(shI (shD z.4 z.5 15 (List.length z.6) ch nh 16 (List.length z.7) cv nv) z.1 (Sh.s z) (stX (Sh.w z) r) (stA r) (stD r) (evB mh ch zh) (vdB mv cv zv) [wkD (DdsG.r s0).1 (DdsG.r s0).2 (DdsG.r s0).4]))/\∀(s:DdsG z),bif decide ((↑s.1:Int)<(↑(List.length z.7):Int))then ((0:Int)<=(↑s.1:Int)/\(↑s.1:Int)<(↑(List.length z.7):Int)/\0+List.length z.7<=cv)/\0+Int.toNat (↑s.1:Int)<mv/\((s.2<=(DdsG.r s).1/\(DdsG.r s).2=(DdsG.r s).2)/\(1<=1/\1=1)/\s.2+1<=68719476736)/\∀(c:Nat),s.2+1<=c->∃(s':DdsG z),((eS (aP 0 0) (aP 0 0)/\eS (SA.c (.so 20 0 6 (s.2+1) c (DdsG.r s).3)) (SA.c (.so 20 0 6 s'.2 (DdsG.r s').2 (DdsG.r s').3))/\eS (SA.c (.so 16 0 7 (List.length z.7) cv nv)) (SA.c (.so 16 0 7 (List.length z.7) cv nv))/\eS (aI (↑(List.length z.7):Int)) (aI (↑(List.length z.7):Int))/\eS (aI (IntKind.wrap .i64 ((↑s.1:Int)+(1:Int)))) (aI ↑s'.1)/\True)/\(shI (shD z.4 z.5 15 (List.length z.6) ch nh 16 (List.length z.7) cv nv) z.1 (Sh.s z) (stX (Sh.w z) r) (stA r) (stD r) (evB mh ch zh) (vdB mv cv zv) [wkD (s.2+1) c fun (i j:Nat)=>bif Nat.ble (i+1) s.2 then (DdsG.r s).4 i j else match List.get?Internal (match List.get?Internal [[zv (0+Int.toNat (↑s.1:Int)) 1,zv (0+Int.toNat (↑s.1:Int)) 2,zv (0+Int.toNat (↑s.1:Int)) 3,zv (0+Int.toNat (↑s.1:Int)) 4,zv (0+Int.toNat (↑s.1:Int)) 5,zv (0+Int.toNat (↑s.1:Int)) 6]] (0+(i-s.2))with|some x=>x|none=>[]) j with|some x=>x|none=>(0:Int)])=(shI (shD z.4 z.5 15 (List.length z.6) ch nh 16 (List.length z.7) cv nv) z.1 (Sh.s z) (stX (Sh.w z) r) (stA r) (stD r) (evB mh ch zh) (vdB mv cv zv) [wkD (DdsG.r s').1 (DdsG.r s').2 (DdsG.r s').4]))/\List.length z.7-s'.1<List.length z.7-s.1 else endN QmZ [] (fun (x:SV) (M:List SB)=>shAt M 0++match x with|SV.o (SA.c (.so b lo sz n c nn))=>[b]|x=>[]) (ShS.mk z r mh ch nh zh mv cv nv zv,PUnit.unit) (SV.o (SA.c (.so 17 0 6 s.2 (DdsG.r s).2 (DdsG.r s).3))) (shI (shD z.4 z.5 15 (List.length z.6) ch nh 16 (List.length z.7) cv nv) z.1 (Sh.s z) (stX (Sh.w z) r) (stA r) (stD r) (evB mh ch zh) (vdB mv cv zv) [wkD (DdsG.r s).1 (DdsG.r s).2 (DdsG.r s).4])) (by kernel_rfl) ?_
 have h0:(⟨z,r,mh,ch,nh,zh,mv,cv,nv,zv⟩:ShS).good:=h0
 have h1:z.deeds.length<=1000000000:=h1
 have hv1:=h0.v1
 have hv2:=h0.v2
 have hzv:=h0.v
 dsimp only at hv1 hv2 hzv
 refine⟨by omega,⟨⟨0,0,⟨0,0,false,fun _ _=>0⟩,Nat.zero_le _,rfl,Nat.le_refl _,Nat.le_refl _,fun i hi=>absurd hi (Nat.not_lt_zero _)⟩,⟨rfl,rfl,rfl,rfl,rfl,trivial⟩,rfl⟩,?_⟩
 rintro⟨i,ln,⟨m,c,nn,zz⟩,hi,hl,g1,g2,gz⟩
 dsimp only at hi hl g1 g2 gz ⊢
 subst hl
 refine Qo (fun hlt=>?_) (fun hge=>?_)
 · have hlt':i<z.deeds.length:=by omega
   have hx:(z.deeds.take (i+1)).map Vd.d=(z.deeds.take i).map Vd.d++[(z.deeds.getD i Vd.nil).d]:=by
    rw[List.take_add_one,List.getElem?_eq_getElem hlt',Option.toList_some,List.map_append,List.getD_eq_getElem?_getD,List.getElem?_eq_getElem hlt'];rfl
   have hlen:((z.deeds.take i).map Vd.d).length=i:=by rw[List.length_map,List.length_take];omega
   refine⟨⟨by omega,by omega,by omega⟩,by omega,⟨⟨g1,rfl⟩,⟨Nat.le_refl _,rfl⟩,by omega⟩,fun c' hc'=>⟨⟨i+1,i+1,⟨i+1,c',nn,_⟩,hlt',rfl,Nat.le_refl _,hc',?_⟩,⟨⟨rfl,rfl,rfl,rfl,svI (sucI (by omega)),trivial⟩,rfl⟩,by dsimp only;omega⟩⟩
   rw[hx]
   refine gz.snoc (fun j hj k _=>catT (by omega)) (fun j hj=>?_)
   rw[hlen]
   refine catF.trans ?_
   rw[Nat.sub_self,Int.toNat_natCast,Nat.zero_add]
   have hq:=hzv i hlt'
   match j,hj with
   |0,_=>exact hq 1 (by decide)
   |1,_=>exact hq 2 (by decide)
   |2,_=>exact hq 3 (by decide)
   |3,_=>exact hq 4 (by decide)
   |4,_=>exact hq 5 (by decide)
   |5,_=>exact hq 6 (by decide)
 · obtain rfl:i=z.deeds.length:=by omega
   rw[List.take_length]at gz
   exact Qi rfl ⟨⟨z,r,mh,ch,nh,zh,mv,cv,nv,zv⟩,⟨m,c,nn,zz⟩⟩ ⟨h0,rfl,⟨g1,g2⟩,gz⟩ rfl rfl rfl
def hisC:TCon Sh Unit RwR where
 pre z _:=z.hist.length<=1000000000
 args _:=[]
 ok z _ r:=(z.hist.length<=r.m/\r.m<=r.c)/\IsE r.z z.hist
 next z _ _:=z
 val n z _ r:=.o (.c (.so n 0 9 z.hist.length r.c r.nn))
 new _ _ _ r:=[evB r.m r.c r.z]
 len:=1
abbrev QmY:MCon:=hisC.low shM ShS.z ShS.good 17 7 Qcm
theorem QpS:(Con.mem QmY).holds Tryz.prog 13:=by
 intro w0 S
 refine Qa (Γ:=[]) (fun _=>noW) Tryz.func13 rfl (by kernel_rfl) Qf Qc (fun w S' _ _=>.nil _ _ _) QmY (fun s=>[]) (fun x0 h=>by cases h) (fun s ρ w _ _ _=>Qh w _) [] (fun x M=>shAt M 0++(match x with
  |.o (.c (.so b _ _ _ _ _))=>[b]
  |_=>[])) 600 ?_
 rintro⟨⟨z,r,mh,ch,nh,zh,mv,cv,nv,zv⟩,⟨⟩⟩ W ⟨h0,h1⟩ -
 refine⟨rfl,?_⟩
 refine Qj (q:=(True/\(0+List.length z.6<=mh/\ch=ch)/\0+List.length z.6<=68719476736)/\∀(c:Nat),0+List.length z.6<=c->endN QmY [] (fun (x:SV) (M:List SB)=>shAt M 0++match x with|SV.o (SA.c (.so b lo sz n c nn))=>[b]|x=>[]) (ShS.mk z r mh ch nh zh mv cv nv zv,PUnit.unit) (SV.o (SA.c (.so 17 0 9 (0+List.length z.6) c false))) (shI (shD z.4 z.5 15 (List.length z.6) ch nh 16 (List.length z.7) cv nv) z.1 (Sh.s z) (stX (Sh.w z) r) (stA r) (stD r) (evB mh ch zh) (vdB mv cv zv) [evB (0+List.length z.6) c fun (i j:Nat)=>zh (0+i) j])) (by kernel_rfl) ?_
 have h0:(⟨z,r,mh,ch,nh,zh,mv,cv,nv,zv⟩:ShS).good:=h0
 have h1:z.hist.length<=1000000000:=h1
 have hh1:=h0.h1
 have hh2:=h0.h2
 have hzh:=h0.h
 dsimp only at hh1 hh2 hzh
 refine⟨⟨trivial,⟨by omega,rfl⟩,by omega⟩,fun c hc=>?_⟩
 rw[Nat.zero_add]at hc ⊢
 refine Qi rfl ⟨⟨z,r,mh,ch,nh,zh,mv,cv,nv,zv⟩,⟨z.hist.length,c,false,_⟩⟩ ⟨h0,rfl,⟨Nat.le_refl _,hc⟩,hzh.sub (fun j hj k _=>?_)⟩ rfl rfl rfl
 show zh (0+j) k=zh j k
 rw[Nat.zero_add]
def oneC (t:Nat):TCon Sh Unit Unit where
 pre z _:=True
 args _:=[.c (.v (.int .i64 t))]
 ok _ _ _:=True
 next z _ _:=z
 val n z _ _:=.t [.c (.p (bif n.beq 17 then 3+t else 0) 0),.c (.v .nilIface)]
 new _ _ _ _:=[]
 len:=0
abbrev QdL (t:Nat):MCon:=(oneC t).low shM ShS.z ShS.good 17 7 Qcm
def Qeq (n0:Nat) (n1:Nat) (z:Sh) (r:Nat->WkR) (mh:Nat) (ch:Nat) (nh:Bool) (zh:Nat->Nat->Int) (mv:Nat) (cv:Nat) (nv:Bool) (zv:Nat->Nat->Int):Prop:=(iR (n0:Int) (4:Int))/\endN (QdL n0) [] (fun (x:SV) (M:List SB)=>shAt M 0) (ShS.mk z r mh ch nh zh mv cv nv zv,PUnit.unit) (SV.t [aP n1 0,SA.c (.v Value.nilIface)]) (shI (shD z.4 z.5 15 (List.length z.6) ch nh 16 (List.length z.7) cv nv) z.1 (Sh.s z) (stX (Sh.w z) r) (stA r) (stD r) (evB mh ch zh) (vdB mv cv zv) [])
theorem Qjd:(Con.mem (QdL 0)).holds Tryz.prog 32:=by
 intro w0 S
 refine Qa (Γ:=[]) (fun _=>noW) Tryz.func32 rfl (by kernel_rfl) Qf Qc (fun w S' _ _=>.nil _ _ _) (QdL 0) (fun _=>[]) (fun x0 h=>by cases h) (fun s ρ w _ _ _=>Qh w _) [] (fun _ M=>shAt M 0) 600 ?_
 rintro⟨⟨z,r,mh,ch,nh,zh,mv,cv,nv,zv⟩,⟨⟩⟩ W ⟨h0,-⟩ -
 refine⟨rfl,?_⟩
 refine Qj (q:=Qeq 0 3 z r mh ch nh zh mv cv nv zv) (by kernel_rfl) ?_
 unfold Qeq
 have h0:(⟨z,r,mh,ch,nh,zh,mv,cv,nv,zv⟩:ShS).good:=h0
 exact⟨⟨by decide,by decide⟩,Qi rfl ⟨⟨z,r,mh,ch,nh,zh,mv,cv,nv,zv⟩,()⟩ ⟨h0,rfl,trivial⟩ rfl rfl rfl⟩
theorem QnX:(Con.mem (QdL 1)).holds Tryz.prog 32:=by
 intro w0 S
 refine Qa (Γ:=[]) (fun _=>noW) Tryz.func32 rfl (by kernel_rfl) Qf Qc (fun w S' _ _=>.nil _ _ _) (QdL 1) (fun _=>[]) (fun x0 h=>by cases h) (fun s ρ w _ _ _=>Qh w _) [] (fun _ M=>shAt M 0) 600 ?_
 rintro⟨⟨z,r,mh,ch,nh,zh,mv,cv,nv,zv⟩,⟨⟩⟩ W ⟨h0,-⟩ -
 refine⟨rfl,?_⟩
 refine Qj (q:=Qeq 1 4 z r mh ch nh zh mv cv nv zv) (by kernel_rfl) ?_
 unfold Qeq
 have h0:(⟨z,r,mh,ch,nh,zh,mv,cv,nv,zv⟩:ShS).good:=h0
 exact⟨⟨by decide,by decide⟩,Qi rfl ⟨⟨z,r,mh,ch,nh,zh,mv,cv,nv,zv⟩,()⟩ ⟨h0,rfl,trivial⟩ rfl rfl rfl⟩
theorem QnW:(Con.mem (QdL 2)).holds Tryz.prog 32:=by
 intro w0 S
 refine Qa (Γ:=[]) (fun _=>noW) Tryz.func32 rfl (by kernel_rfl) Qf Qc (fun w S' _ _=>.nil _ _ _) (QdL 2) (fun _=>[]) (fun x0 h=>by cases h) (fun s ρ w _ _ _=>Qh w _) [] (fun _ M=>shAt M 0) 600 ?_
 rintro⟨⟨z,r,mh,ch,nh,zh,mv,cv,nv,zv⟩,⟨⟩⟩ W ⟨h0,-⟩ -
 refine⟨rfl,?_⟩
 refine Qj (q:=Qeq 2 5 z r mh ch nh zh mv cv nv zv) (by kernel_rfl) ?_
 unfold Qeq
 have h0:(⟨z,r,mh,ch,nh,zh,mv,cv,nv,zv⟩:ShS).good:=h0
 exact⟨⟨by decide,by decide⟩,Qi rfl ⟨⟨z,r,mh,ch,nh,zh,mv,cv,nv,zv⟩,()⟩ ⟨h0,rfl,trivial⟩ rfl rfl rfl⟩
theorem QnV:(Con.mem (QdL 3)).holds Tryz.prog 32:=by
 intro w0 S
 refine Qa (Γ:=[]) (fun _=>noW) Tryz.func32 rfl (by kernel_rfl) Qf Qc (fun w S' _ _=>.nil _ _ _) (QdL 3) (fun _=>[]) (fun x0 h=>by cases h) (fun s ρ w _ _ _=>Qh w _) [] (fun _ M=>shAt M 0) 600 ?_
 rintro⟨⟨z,r,mh,ch,nh,zh,mv,cv,nv,zv⟩,⟨⟩⟩ W ⟨h0,-⟩ -
 refine⟨rfl,?_⟩
 refine Qj (q:=Qeq 3 6 z r mh ch nh zh mv cv nv zv) (by kernel_rfl) ?_
 unfold Qeq
 have h0:(⟨z,r,mh,ch,nh,zh,mv,cv,nv,zv⟩:ShS).good:=h0
 exact⟨⟨by decide,by decide⟩,Qi rfl ⟨⟨z,r,mh,ch,nh,zh,mv,cv,nv,zv⟩,()⟩ ⟨h0,rfl,trivial⟩ rfl rfl rfl⟩
theorem QpH (v:Value) (a:Int) (h:a<0\/4<=a) (w:World):Calls Tryz.prog 32 #[v,.int .i64 a] w fun e w'=>e=.returned (.tuple #[.pointer none,.iface 92 (.int .i64 2)])/\w=w':=by
 rcases h with h|h
 · have h1:decide (a<0)=true:=decide_eq_true h
   go_enter Tryz.func32,Tryz.ntmps32
   go_wp2
   go_ret2
   exact⟨rfl,rfl⟩
 · have h1:decide (a<0)=false:=decide_eq_false (by omega)
   have h2:decide (a>=4)=true:=decide_eq_true h
   go_enter Tryz.func32,Tryz.ntmps32
   go_wp2
   go_ret2
   exact⟨rfl,rfl⟩
def Qg0:PCon:=⟨fun args=>match args with
 |[.c _,.c (.v (.int .i64 a))]=>a<0\/4<=a
 |_=>False,fun args=>.t [.c (.v (.pointer none)),.c (.v (.iface 92 (.int .i64 2)))],fun _=>none⟩
theorem Qjc:(Con.pure Qg0).holds Tryz.prog 32:=by
 intro w0 S
 refine⟨by kernel_rfl,fun ρ args w hp hK=>?_⟩
 unfold Qg0 at hp;dsimp only at hp;split at hp
 case h_2=>exact hp.elim
 rename_i x a
 refine (QpH (x.den ρ) a hp w).mono ?_
 rintro e w' ⟨rfl,rfl⟩
 exact⟨rfl,Below.refl _ _⟩
def calX:TCon Sh (Int × OpA) Unit where
 pre z a:=a.1<0\/4<=a.1
 args a:=[.c (.v (.int .i64 a.1)),.a [.one (.v (.int .i64 a.2.k)),.one (.v (.int .i64 a.2.key)),.one (.v (.int .i64 a.2.x))]]
 ok _ _ _:=True
 next z _ _:=z
 val n z _ _:=.o (.c (.v (.iface 92 (.int .i64 2))))
 new _ _ _ _:=[]
 len:=0
abbrev QiM:MCon:=calX.low shM ShS.z ShS.good 17 7 Qcm
theorem QoJ:(Con.mem QiM).holds Tryz.prog 18:=by
 intro w0 S
 refine Qa (Γ:=[(32,.pure Qg0)]) (fun _=>noW) Tryz.func18 rfl (by kernel_rfl) Qf Qc (fun w S' _ _=>.cons (Qjc w _) (.nil _ _ _)) QiM (fun _=>[]) (fun x0 h=>by cases h) (fun s ρ w _ _ _=>Qh w _) [] (fun _ M=>shAt M 0) 600 ?_
 rintro⟨⟨z,r,mh,ch,nh,zh,mv,cv,nv,zv⟩,a,k,key,x⟩ W ⟨h0,h1⟩ -
 refine⟨rfl,?_⟩
 refine Qj (q:=(a<(0:Int)\/(4:Int)<=a)/\endN QiM [] (fun (x:SV) (M:List SB)=>shAt M 0) (ShS.mk z r mh ch nh zh mv cv nv zv,a,OpA.mk k key x) (SV.o (SA.c (.v (.iface 92 (Value.int .i64 (2:Int)))))) (shI (shD z.4 z.5 15 (List.length z.6) ch nh 16 (List.length z.7) cv nv) z.1 (Sh.s z) (stX (Sh.w z) r) (stA r) (stD r) (evB mh ch zh) (vdB mv cv zv) [SB.cells [sI k,sI key,sI x] 26])) (by kernel_rfl) ?_
 have h0:(⟨z,r,mh,ch,nh,zh,mv,cv,nv,zv⟩:ShS).good:=h0
 exact⟨h1,Qi rfl ⟨⟨z,r,mh,ch,nh,zh,mv,cv,nv,zv⟩,()⟩ ⟨h0,rfl,trivial⟩ rfl rfl rfl⟩
def TCon.Does {X Y α χ:Type}(c:TCon Y α χ) (L:X->List SB) (y:X->Y) (good:X->Prop) (P:Program) (w0:World) (S:Nat->Prop) (f:FuncId) (a:α):Prop:=
 ∀(ρ:Nat->Nat) (z:Y) (F:List Nat) (w:World),c.pre z a->Kept S w0 w->Mem w (feet (denM ρ 0 [.abs (QB L y good z) F])) (denM ρ 0 [.abs (QB L y good z) F]) w ->
  Calls P f ((SA.c (.p 0 0)::c.args a).map (SA.den ρ)).toArray w fun e w'=>∃(x:List Nat × χ) (ρ':Nat->Nat),c.ok z a x.2/\(∀i,i<1->ρ' i=ρ i)/\(SB.abs (QB L y good (c.next z a x.2)) x.1::c.new 1 z a x.2).length=1+c.len/\e=.returned ((c.val 1 z a x.2).den ρ') /\
   Mem w (feet (denM ρ 0 [.abs (QB L y good z) F])) (denM ρ' 0 (.abs (QB L y good (c.next z a x.2)) x.1::c.new 1 z a x.2)) w'
theorem TCon.high_of {X Y α χ:Type}{c:TCon Y α χ}{L:X->List SB}{y:X->Y}{good:X->Prop}{P:Program}{f:FuncId}{w0:World}{S:Nat->Prop}(he:Qbk P f=true) (h:∀a,c.Does L y good P w0 S f a):(Con.mem (c.high L y good)).holdsAt P w0 S f:=
 ⟨he,fun x0 h=>(by cases h),fun ρ s w hp hK HM=>h s.2.1 ρ s.1 s.2.2 w hp hK HM⟩
theorem TCon.does_of {X Y α χ α' χ':Type}(c:TCon Y α χ) (c':TCon Y α' χ') {L:X->List SB}{y:X->Y}{good:X->Prop}{n k:Nat}{find:List SA->List SB->Option (List Nat)}{P:Program}{f:FuncId}{w0:World}{S:Nat->Prop}
 (h:(Con.mem (c.low L y good n k find)).holdsAt P w0 S f) (hk:0<k) (hn:∀x,good x->(L x).length=n) (a:α) (a':α') (harg:c'.args a'=c.args a) (ha:QaI (sc 1) (c.args a)=true) (hpre:∀z,c'.pre z a'->c.pre z a)
 (hv:∀z r,c'.pre (y z) a'->c.ok (y z) a r->∀ρ ρ':Nat->Nat,(∀i,ρ' (1+i)=ρ (n+i))->ρ' 0=ρ 0->∃r',c'.ok (y z) a' r'/\c'.next (y z) a' r'=c.next (y z) a r/\(c'.val 1 (y z) a' r').den ρ'=(c.val n (y z) a r).den ρ/\denM ρ' 1 (c'.new 1 (y z) a' r')=denM ρ n (c.new n (y z) a r)/\(c'.new 1 (y z) a' r').length=c'.len):c'.Does L y good P w0 S f a':=by
 intro ρ z F w hp hK HM
 have hA:=HM.holds (.abs (ρ 0) (QB L y good z) F) (List.mem_singleton.2 rfl)
 obtain⟨x,ρ1,rfl,hg,hρ,HM1,hF⟩:=hA
 have harg2:(SA.c (.p 0 0)::c'.args a').map (SA.den ρ)=(SA.c (.p 0 0)::c.args a).map (SA.den ρ1):=by
  rw[harg]
  refine List.map_congr_left fun v hv=>?_
  have hav:v.av (sc 1)=true:=by
   rcases List.mem_cons.1 hv with rfl|hv
   · rfl
   · exact Qbd ha v hv
  exact SA.av_den (fun i hi=>by have:=Xs hi;obtain rfl:i=0:=(by omega);exact hρ.symm) hav
 have hfe:∀g,feet (denM ρ 0 [.abs (QB L y good (y x)) F]) g↔feet (denM ρ1 0 (L x)) g:=fun g=>by
  rw[hF g]
  exact⟨fun ⟨e,he,hf⟩=>by obtain rfl:=List.mem_singleton.1 he;exact hf,fun hg=>⟨_,List.mem_singleton.2 rfl,hg⟩⟩
 have:=h.2.2 ρ1 (x,a) w ⟨hg,hpre _ hp⟩ hK HM1
 rw[harg2]
 refine this.mono ?_
 rintro e w' ⟨⟨x',r⟩,ρ',⟨hg',hy',hok⟩,hag,hlen,rfl,HM'⟩
 have HM':Mem w (feet (denM ρ1 0 (L x))) (denM ρ' 0 (L x'++c.new n (y x) a r)) w':=HM'
 have hl':=hn x' hg'
 rw[QeT,hl',Nat.zero_add]at HM'
 obtain⟨r',hok',hnext,hv1,hv2,hv4⟩:=hv x r hp hok ρ' (fun i=>if i=0 then ρ' 0 else ρ' (n+(i-1))) (fun i=>by rw[if_neg (by omega),show 1+i-1=i by omega]) rfl
 refine⟨(feetL (denM ρ' 0 (L x')),r'),fun i=>if i=0 then ρ' 0 else ρ' (n+(i-1)),hok',fun i hi=>?_,?_,?_,?_⟩
 · obtain rfl:i=0:=by omega
   show (if 0=0 then ρ' 0 else ρ' (n+(0-1)))=ρ 0
   rw[if_pos rfl,hag 0 hk];exact hρ
 · show (c'.new 1 (y x) a' r').length+1=1+c'.len
   omega
 · show Ending.returned ((c.val n (y x) a r).den ρ')=Ending.returned ((c'.val 1 (y x) a' r').den (fun i=>if i=0 then ρ' 0 else ρ' (n+(i-1))))
   rw[hv1]
 · show Mem w _ ([En.abs (if 0=0 then ρ' 0 else ρ' (n+(0-1))) (QB L y good (c'.next (y x) a' r')) (feetL (denM ρ' 0 (L x')))]++denM _ 1 (c'.new 1 (y x) a' r')) w'
   rw[if_pos rfl,hv2,hnext]
   have hd:=List.pairwise_append.1 HM'.dist
   refine (Mem.subset (S:=feet (denM ρ1 0 (L x))) ⟨HM'.kept,fun e he=>?_,fun e he g hg=>?_,List.pairwise_append.2 ⟨List.pairwise_singleton _ _,hd.2.1,fun e he f hf g hg hfg=>?_⟩⟩ (fun g hg=>(hfe g).2 hg))
   · rcases List.mem_append.1 he with he|he
     · obtain rfl:=List.mem_singleton.1 he
       exact⟨x',ρ',hy',hg',rfl,⟨Kept.refl _ _,fun e he=>HM'.holds e (List.mem_append_left _ he),fun e he g hg=>.inl ⟨e,he,hg⟩,hd.1⟩,fun g=>(feetL_iff _ g).symm⟩
     · exact HM'.holds e (List.mem_append_right _ he)
   · rcases List.mem_append.1 he with he|he
     · obtain rfl:=List.mem_singleton.1 he
       obtain⟨e',he',hf'⟩:=(feetL_iff _ g).1 hg
       exact HM'.own e' (List.mem_append_left _ he') g hf'
     · exact HM'.own e (List.mem_append_right _ he) g hg
   · obtain rfl:=List.mem_singleton.1 he
     obtain⟨e',he',hf'⟩:=(feetL_iff _ g).1 hg
     exact hd.2.2 e' he' f hf g hf' hfg
end
section
section
variable {z z':Sh}{g:Gh}{of:List Nat}
end
end
section
section
variable {K:Int}{z:Sh}{g:Gh}{of:List Nat}{t:Nat}
end
end
section
section
variable {K:Int}{z:Sh}{g:Gh}{of:List Nat}{t:Nat}
theorem QfW (z:Sh) (t:Nat):z.steps<=(z.step t).steps/\(z.step t).steps<=z.steps+1:=by
 unfold Sh.step
 split
 · omega
 · unfold Sh.stepped
   dsimp only
   split<;>split<;>(show z.steps<=z.steps+1/\z.steps+1<=z.steps+1;omega)
theorem Qdp (t:Nat):∀(n:Nat) (z:Sh),z.steps<=(z.run t n).steps/\(z.run t n).steps<=z.steps+n
 |0,z=>by show z.steps<=z.steps/\z.steps<=z.steps+((0:Nat):Int);omega
 |n+1,z=>by
  have h1:=QfW z t
  have h2:=Qdp t n (z.step t)
  show z.steps<=((z.step t).run t n).steps/\((z.step t).run t n).steps<=z.steps+((n+1:Nat):Int)
  omega
end
end
section
structure SoC where
 ms:Nat->Int
 mo:Nat->Int
 W:Nat->Wk
 tog:Nat->Int
 hist:List Ev
 deeds:List Vd
 R:Rec
 V:Int
def askB (R:Rec) (ms:Nat->Int) (u:Nat):Bool:=decide (ms u≠0/\ms u-1≠Qp R.tog u)
def askN (R:Rec) (ms:Nat->Int) (i:Nat):Nat->Nat
 |0=>0
 |n+1=>(bif askB R ms i then 2 else 1)+askN R ms (i+1) n
def left (c:SoC) (w:Wk):Nat:=
 if w.does=3 then 77+askN c.R c.ms 0 4 else if w.does=4 then 76+askN c.R c.ms 0 4
 else if w.does=5 then 43+(32-w.i.toNat)+askN c.R c.ms 0 4 else if w.does=6 then 43+askN c.R c.ms w.i.toNat (4-w.i.toNat)
 else if w.does=7 then 44+askN c.R c.ms (w.i.toNat+1) (3-w.i.toNat)else if w.does=8 then 11+(32-w.i.toNat)
 else if w.does=9 then 7+(4-w.i.toNat)else (17-w.does).toNat
section
variable {K:Int}{z:Sh}{g:Gh}{t:Nat}{c:SoC}
theorem Qi4 (t:Nat):∀(n:Nat) {z:Sh},(z.w t).does=0->z.run t n=z/\z.ran t n=0
 |0,z,_=>⟨rfl,rfl⟩
 |n+1,z,h=>by
  have e:z.step t=z:=if_pos h
  refine⟨?_,if_pos h⟩
  show (z.step t).run t n=z
  rw[e];exact (Qi4 t n h).1
theorem Qip (t:Nat):∀(n k:Nat) (z:Sh),z.run t (n+k)=(z.run t n).run t k
 |0,k,z=>by rw[Nat.zero_add];rfl
 |n+1,k,z=>by rw[Nat.add_right_comm];exact Qip t n k (z.step t)
end
end
section
def inT (a:Int):Bool:=decide (0<=a/\a<4)
def runB (n:Int):Bool:=decide (0<=n/\n<=1000)
structure Mv where
 kind:Int
 t:Int
 k:Int
 key:Int
 x:Int
 n:Int
 l:Int
def Sh.runA (z:Sh) (t n:Int):Sh:=bif inT t then z.run t.toNat (bif runB n then n.toNat else 0)else z
def Sh.callA (z:Sh) (t k key x:Int):Sh:=bif inT t then z.call t.toNat k key x else z
def Sh.move (z:Sh) (m:Mv):Sh:=
 if m.kind=1 then z.callA m.t m.k m.key m.x else if m.kind=2 then z.runA m.t m.n else if m.kind=3 then z.evict m.n else if m.kind=4 then z.crash m.l else z
def Qao (K:Int) (l:List Mv):Sh:=l.foldl Sh.move (Sh.new K)
theorem Qf2 (K:Int) (l:List Mv) (m:Mv):Qao K (l++[m])=(Qao K l).move m:=by unfold Qao;rw[List.foldl_append];rfl
theorem QiD {a:Int}(h:inT a=true):0<=a/\a<4/\a.toNat<4:=by
 have:=of_decide_eq_true h
 omega
theorem Qgj (z:Sh) (t:Nat) (k key x:Int):z.steps<=(z.call t k key x).steps/\(z.call t k key x).steps<=z.steps+1:=by
 unfold Sh.call
 split
 · show z.steps<=z.steps+1/\z.steps+1<=z.steps+1;omega
 · omega
theorem Qkb (z:Sh) (m:Mv):z.steps<=(z.move m).steps/\(z.move m).steps<=z.steps+1000:=by
 unfold Sh.move
 split
 · unfold Sh.callA
   cases inT m.t
   · rw[cond_false];omega
   · rw[cond_true];have:=Qgj z m.t.toNat m.k m.key m.x;omega
 split
 · unfold Sh.runA
   cases inT m.t
   · rw[cond_false];omega
   · rw[cond_true]
     have:=Qdp m.t.toNat (bif runB m.n then m.n.toNat else 0) z
     cases hb:runB m.n
     · rw[hb]at this
       rw[cond_false]at this ⊢;omega
     · rw[hb]at this
       have h2:=of_decide_eq_true hb
       rw[cond_true]at this ⊢;omega
 split
 · unfold Sh.evict
   split
   · show z.steps<=z.steps/\z.steps<=z.steps+1000;omega
   · omega
 split
 · show z.steps<=z.steps+1/\z.steps+1<=z.steps+1000;omega
 · omega
section
variable {K:Int}{z:Sh}{g:Gh}
end
end
section
open Go.RowKit
abbrev TCon.sh {α χ:Type}(c:TCon Sh α χ):MCon:=c.high shM ShS.z ShS.good
theorem Xb (x:ShS):(shM x).length=17:=rfl
theorem verH:(Con.mem verC.sh).holds Tryz.prog 22:=fun w0 S=>verC.lift (Qpm w0 S) (by decide) (fun x _=>Xb x) (fun _=>rfl) (fun _ _ _ _ _ _ _ _=>⟨rfl,rfl,rfl,rfl⟩)
theorem evH:(Con.mem evC.sh).holds Tryz.prog 38:=fun w0 S=>evC.lift (ev_con w0 S) (by decide) (fun x _=>Xb x) (fun _=>rfl) (fun _ _ _ _ _ _ _ _=>⟨rfl,rfl,rfl,rfl⟩)
theorem Qlz {ρ ρ':Nat->Nat}{sz l c:Nat}{nn:Bool}(h:∀i,ρ' (1+i)=ρ (17+i)):(SV.o (.c (.so 1 0 sz l c nn))).den ρ'=(SV.o (.c (.so 17 0 sz l c nn))).den ρ:=by
 simp only[SV.den,SA.den,SC.den]
 rw[show ρ' 1=ρ 17 from h 0]
theorem Qhr {ρ ρ':Nat->Nat}{t:Nat}{ks:List CK}{sz m c:Nat}{z:Nat->Nat->Int}(h:∀i,ρ' (1+i)=ρ (17+i)):denM ρ' 1 [.rows t ks sz m c z]=denM ρ 17 [.rows t ks sz m c z]:=by
 simp only[denM,denB]
 rw[show ρ' 1=ρ 17 from h 0]
theorem ddsH:(Con.mem ddsC.sh).holds Tryz.prog 15:=fun w0 S=>ddsC.lift (Qp1 w0 S) (by decide) (fun x _=>Xb x) (fun _=>rfl) (fun _ _ _ _ _ _ h _=>⟨Qlz h,Qhr h,rfl,rfl⟩)
theorem hisH:(Con.mem hisC.sh).holds Tryz.prog 13:=fun w0 S=>hisC.lift (QpS w0 S) (by decide) (fun x _=>Xb x) (fun _=>rfl) (fun _ _ _ _ _ _ h _=>⟨Qlz h,Qhr h,rfl,rfl⟩)
def QiH:TCon Sh Nat Unit where
 pre z t:=t<4
 args t:=[.c (.v (.int .i64 t))]
 ok _ _ _:=True
 next z _ _:=z
 val _ z t _:=sv (.int .i64 (z.w t).does)
 new _ _ _ _:=[]
 len:=0
structure StpOK (z:Sh) (t:Nat):Prop where
 t4:t<4
 ok:stOK z t
 pre:(z.w t).does≠0->Qa9 (z.wst t)
def QjR:TCon Sh Nat Unit where
 pre z t:=StpOK z t
 args t:=[.c (.v (.int .i64 t))]
 ok _ _ _:=True
 next z t _:=z.step t
 val _ z t _:=QM z t
 new _ _ _ _:=[]
 len:=0
def oneA:TCon Sh Nat Value where
 pre z t:=t<4
 args t:=[.c (.v (.int .i64 t))]
 ok _ _ _:=True
 next z _ _:=z
 val _ z t r:=.t [.c (.v r),.c (.v .nilIface)]
 new _ _ _ _:=[]
 len:=0
theorem lt4 {t:Nat}(h:t<4):t=0\/t=1\/t=2\/t=3:=by omega
theorem Qfk {X Y α χ:Type}{c:TCon Y α χ}{L:X->List SB}{y:X->Y}{good:X->Prop}{P:Program}{w0:World}{S:Nat->Prop}{f:FuncId}{a:α}(h:∀z,¬c.pre z a):c.Does L y good P w0 S f a:=fun _ z _ _ hp _ _=>absurd hp (h z)
theorem doesH:(Con.mem QiH.sh).holds Tryz.prog 23:=fun w0 S=>TCon.high_of (QhR w0 S).1 fun t=>by
 by_cases h:t<4
 · rcases lt4 h with rfl|rfl|rfl|rfl
   · exact (QmM 0).does_of QiH (QhR w0 S) (by decide) (fun x _=>Xb x) () 0 rfl rfl (fun _ _=>trivial) (fun _ _ _ _ _ _ _ _=>⟨(),trivial,rfl,rfl,rfl,rfl⟩)
   · exact (QmM 1).does_of QiH (QmP w0 S) (by decide) (fun x _=>Xb x) () 1 rfl rfl (fun _ _=>trivial) (fun _ _ _ _ _ _ _ _=>⟨(),trivial,rfl,rfl,rfl,rfl⟩)
   · exact (QmM 2).does_of QiH (QmO w0 S) (by decide) (fun x _=>Xb x) () 2 rfl rfl (fun _ _=>trivial) (fun _ _ _ _ _ _ _ _=>⟨(),trivial,rfl,rfl,rfl,rfl⟩)
   · exact (QmM 3).does_of QiH (QmN w0 S) (by decide) (fun x _=>Xb x) () 3 rfl rfl (fun _ _=>trivial) (fun _ _ _ _ _ _ _ _=>⟨(),trivial,rfl,rfl,rfl,rfl⟩)
 · exact Qfk fun _=>h
theorem stepH:(Con.mem QjR.sh).holds Tryz.prog 34:=fun w0 S=>TCon.high_of (QiY w0 S).1 fun t=>by
 by_cases h:t<4
 · rcases lt4 h with rfl|rfl|rfl|rfl
   · exact (stC 0).does_of QjR (QiY w0 S) (by decide) (fun x _=>Xb x) () 0 rfl rfl (fun _ h=>⟨h.ok,h.pre⟩) (fun _ _ _ _ _ _ _ _=>⟨(),trivial,rfl,rfl,rfl,rfl⟩)
   · exact (stC 1).does_of QjR (Qnz w0 S) (by decide) (fun x _=>Xb x) () 1 rfl rfl (fun _ h=>⟨h.ok,h.pre⟩) (fun _ _ _ _ _ _ _ _=>⟨(),trivial,rfl,rfl,rfl,rfl⟩)
   · exact (stC 2).does_of QjR (Qny w0 S) (by decide) (fun x _=>Xb x) () 2 rfl rfl (fun _ h=>⟨h.ok,h.pre⟩) (fun _ _ _ _ _ _ _ _=>⟨(),trivial,rfl,rfl,rfl,rfl⟩)
   · exact (stC 3).does_of QjR (Qnx w0 S) (by decide) (fun x _=>Xb x) () 3 rfl rfl (fun _ h=>⟨h.ok,h.pre⟩) (fun _ _ _ _ _ _ _ _=>⟨(),trivial,rfl,rfl,rfl,rfl⟩)
 · exact Qfk fun _ hp=>h hp.t4
theorem oneH:(Con.mem oneA.sh).holds Tryz.prog 32:=fun w0 S=>TCon.high_of (Qjd w0 S).1 fun t=>by
 by_cases h:t<4
 · rcases lt4 h with rfl|rfl|rfl|rfl
   · exact (oneC 0).does_of oneA (Qjd w0 S) (by decide) (fun x _=>Xb x) () 0 rfl rfl (fun _ _=>trivial) (fun _ _ _ _ ρ _ _ _=>⟨.pointer (some ⟨ρ 3,0,none⟩),trivial,rfl,rfl,rfl,rfl⟩)
   · exact (oneC 1).does_of oneA (QnX w0 S) (by decide) (fun x _=>Xb x) () 1 rfl rfl (fun _ _=>trivial) (fun _ _ _ _ ρ _ _ _=>⟨.pointer (some ⟨ρ 4,0,none⟩),trivial,rfl,rfl,rfl,rfl⟩)
   · exact (oneC 2).does_of oneA (QnW w0 S) (by decide) (fun x _=>Xb x) () 2 rfl rfl (fun _ _=>trivial) (fun _ _ _ _ ρ _ _ _=>⟨.pointer (some ⟨ρ 5,0,none⟩),trivial,rfl,rfl,rfl,rfl⟩)
   · exact (oneC 3).does_of oneA (QnV w0 S) (by decide) (fun x _=>Xb x) () 3 rfl rfl (fun _ _=>trivial) (fun _ _ _ _ ρ _ _ _=>⟨.pointer (some ⟨ρ 6,0,none⟩),trivial,rfl,rfl,rfl,rfl⟩)
 · exact Qfk fun _=>h
structure CallOK (z:Sh):Prop where
 st0:0<=z.steps
 st1:z.steps<100000000
 h:z.hist.length<=1000000000
 tog:∀t,t<4->z.tog t=0\/z.tog t=1
def callA:TCon Sh (Int × OpA) Unit where
 pre z a:=CallOK z
 args a:=[.c (.v (.int .i64 a.1)),.a [.one (.v (.int .i64 a.2.k)),.one (.v (.int .i64 a.2.key)),.one (.v (.int .i64 a.2.x))]]
 ok _ _ _:=True
 next z a _:=bif inT a.1 then z.call a.1.toNat a.2.k a.2.key a.2.x else z
 val _ z a _:=.o (.c (.v (bif inT a.1 then (bif (z.w a.1.toNat).does==0 then (bif opOk a.2.k a.2.key a.2.x then .nilIface else .iface 92 (.int .i64 1))else .iface 92 (.int .i64 6))else .iface 92 (.int .i64 2))))
 new _ _ _ _:=[]
 len:=0
theorem callH:(Con.mem callA.sh).holds Tryz.prog 18:=fun w0 S=>TCon.high_of (QjC w0 S).1 fun ⟨a,o⟩=>by
 by_cases h:0<=a/\a<4
 · obtain⟨t,rfl⟩:=Int.eq_ofNat_of_zero_le h.1
   rcases lt4 (t:=t) (by omega)with rfl|rfl|rfl|rfl
   · exact (clC 0).does_of callA (QjC w0 S) (by decide) (fun x _=>Xb x) o _ rfl rfl (fun _ h=>⟨⟨h.st0,h.st1⟩,h.h,h.tog 0 (by decide)⟩) (fun _ _ _ _ _ _ _ _=>⟨(),trivial,rfl,rfl,rfl,rfl⟩)
   · exact (clC 1).does_of callA (QoM w0 S) (by decide) (fun x _=>Xb x) o _ rfl rfl (fun _ h=>⟨⟨h.st0,h.st1⟩,h.h,h.tog 1 (by decide)⟩) (fun _ _ _ _ _ _ _ _=>⟨(),trivial,rfl,rfl,rfl,rfl⟩)
   · exact (clC 2).does_of callA (QoL w0 S) (by decide) (fun x _=>Xb x) o _ rfl rfl (fun _ h=>⟨⟨h.st0,h.st1⟩,h.h,h.tog 2 (by decide)⟩) (fun _ _ _ _ _ _ _ _=>⟨(),trivial,rfl,rfl,rfl,rfl⟩)
   · exact (clC 3).does_of callA (QoK w0 S) (by decide) (fun x _=>Xb x) o _ rfl rfl (fun _ h=>⟨⟨h.st0,h.st1⟩,h.h,h.tog 3 (by decide)⟩) (fun _ _ _ _ _ _ _ _=>⟨(),trivial,rfl,rfl,rfl,rfl⟩)
 · have hb:inT a=false:=decide_eq_false h
   refine calX.does_of callA (QoJ w0 S) (by decide) (fun x _=>Xb x) (a,o) (a,o) rfl rfl (fun _ _=>(by show a<0\/4<=a;omega)) (fun z _ _ _ _ _ _ _=>⟨(),trivial,?_,?_,rfl,rfl⟩)
   · show (bif inT a then _ else _)=z.z
     rw[hb];rfl
   · show (SV.o (.c (.v (bif inT a then _ else _)))).den _=_
     rw[hb];rfl
structure RunOK (z:Sh) (t:Nat) (n:Int):Prop where
 ok:0<=n->n<=1000->∀k:Nat,(k:Int)<n->stOK (z.run t k) t/\(((z.run t k).w t).does≠0->Qa9 ((z.run t k).wst t))
def runN:TCon Sh (Nat × Int) Unit where
 pre z a:=a.1<4/\RunOK z a.1 a.2
 args a:=[.c (.v (.int .i64 a.1)),.c (.v (.int .i64 a.2))]
 ok _ _ _:=True
 next z a _:=z.run a.1 (bif runB a.2 then a.2.toNat else 0)
 val _ z a _:=.t [.c (.v (.int .i64 (bif runB a.2 then ((z.ran a.1 a.2.toNat:Nat):Int)else 0))),.c (.v (bif runB a.2 then .nilIface else .iface 92 (.int .i64 1)))]
 new _ _ _ _:=[]
 len:=0
structure RunG (z:Sh) (t:Nat) (n:Int) where
 k:Nat
 F:List Nat
 hk:k<=n.toNat
 hr:z.ran t n.toNat=k+(z.run t k).ran t (n.toNat-k)
def Qo9 (z:Sh) (t:Nat) (n:Int):Ann where
 σ:=RunG z t n
 I g:=([(0,.o (.c (.p 0 0))),(1,sv (.int .i64 t)),(2,sv (.int .i64 n)),(27,sv (.int .i64 n)),(28,sv (.int .i64 g.k))],[.abs (QB shM ShS.z ShS.good (z.run t g.k)) g.F])
 dec g:=n.toNat-g.k
 pi env M:=[0]
 nz:=[]
theorem QnM {z:Sh}{t:Nat}{m:Nat}(h:(z.w t).does≠0):z.ran t (m+1)=(z.step t).ran t m+1:=if_neg h
theorem Qi3 (z:Sh) (t k:Nat):z.run t (k+1)=(z.run t k).step t:=by rw[Qip];rfl
theorem Qi5:(Con.mem runN.sh).holds Tryz.prog 20:=by
 intro w0 S
 refine Qa (Γ:=[(32,.mem oneA.sh),(23,.mem QiH.sh),(34,.mem QjR.sh)]) (fun _=>noW) Tryz.func20 rfl (by kernel_rfl) Qf Qc (fun w S' _ _=>.cons (oneH w S') (.cons (doesH w S') (.cons (stepH w S') (.nil _ _ _)))) runN.sh (fun s=>[(20,[(0,Qo9 s.1 s.2.1.1 s.2.1.2)])]) (fun x0 h=>by cases h) (fun s ρ w _ _ _=>Qh w _) [] (fun _ M=>[0]) 600 ?_
 rintro⟨z,⟨t,n⟩,F⟩ W ⟨ht,h1⟩ -
 refine⟨rfl,?_⟩
 dsimp only
 refine Qj (q:=∃(s:Sh × Nat × List Nat),[aP 0 0,aI ↑t]=[aP 0 0,aI (↑s.2.1:Int)]/\[SB.abs (QB shM ShS.z ShS.good z) F]=[SB.abs (QB shM ShS.z ShS.good s.1) s.2.2]/\s.2.1<4/\∀(x:List Nat × Value),True->bif decide (n<(0:Int))then endN (TCon.sh runN) [] (fun (x:SV) (M:List SB)=>[0]) (z,(t,n),F) (SV.t [aI 0,SA.c (.v (.iface 92 (Value.int .i64 (1:Int))))]) [SB.abs (QB shM ShS.z ShS.good s.1) x.1]else bif decide (n>(1000:Int))then endN (TCon.sh runN) [] (fun (x:SV) (M:List SB)=>[0]) (z,(t,n),F) (SV.t [aI 0,SA.c (.v (.iface 92 (Value.int .i64 (1:Int))))]) [SB.abs (QB shM ShS.z ShS.good s.1) x.1]else (∃(s0:Ann.σ (Qo9 z t n)),(eS (aP 0 0) (aP 0 0)/\eS (aI ↑t) (aI ↑t)/\eS (aI n) (aI n)/\eS (aI n) (aI n)/\eS (aI 0) (aI ↑s0.1)/\True)/\[SB.abs (QB shM ShS.z ShS.good s.1) x.1]=[SB.abs (QB shM ShS.z ShS.good (Sh.run z t s0.1)) s0.2])/\∀(s:RunG z t n),bif decide ((↑s.1:Int)<n)then ∃(s_1:Sh × Nat × List Nat),[aP 0 0,aI ↑t]=[aP 0 0,aI (↑s_1.2.1:Int)]/\[SB.abs (QB shM ShS.z ShS.good (Sh.run z t s.1)) s.2]=[SB.abs (QB shM ShS.z ShS.good s_1.1) s_1.2.2]/\s_1.2.1<4/\∀(x:List Nat × Unit),True->bif (Sh.w s_1.1 s_1.2.1).2==(0:Int)then endN (TCon.sh runN) [] (fun (x:SV) (M:List SB)=>[0]) (z,(t,n),F) (SV.t [aI ↑s.1,SA.c (.v Value.nilIface)]) [SB.abs (QB shM ShS.z ShS.good s_1.1) x.1]else ∃(s_2:Sh × Nat × List Nat),[aP 0 0,aI ↑t]=[aP 0 0,aI (↑s_2.2.1:Int)]/\[SB.abs (QB shM ShS.z ShS.good s_1.1) x.1]=[SB.abs (QB shM ShS.z ShS.good s_2.1) s_2.2.2]/\StpOK s_2.1 s_2.2.1/\∀(x:List Nat × Unit),True->∃(s':RunG z t n),((eS (aP 0 0) (aP 0 0)/\eS (aI ↑t) (aI ↑t)/\eS (aI n) (aI n)/\eS (aI n) (aI n)/\eS (aI (IntKind.wrap .i64 ((↑s.1:Int)+(1:Int)))) (aI ↑s'.1)/\True)/\[SB.abs (QB shM ShS.z ShS.good (Sh.step s_2.1 s_2.2.1)) x.1]=[SB.abs (QB shM ShS.z ShS.good (Sh.run z t s'.1)) s'.2])/\Int.toNat n-s'.1<Int.toNat n-s.1 else endN (TCon.sh runN) [] (fun (x:SV) (M:List SB)=>[0]) (z,(t,n),F) (SV.t [aI n,SA.c (.v Value.nilIface)]) [SB.abs (QB shM ShS.z ShS.good (Sh.run z t s.1)) s.2]) (by kernel_rfl) ?_
 have h1:RunOK z t n:=h1
 have ht:t<4:=ht
 have bad (hb:runB n=false) (G:List Nat):endN runN.sh [] (fun _ _=>[0]) (z,(t,n),F) (SV.t [SA.c (SC.v (.int .i64 0)),SA.c (SC.v (.iface 92 (.int .i64 1)))]) [SB.abs (QB shM ShS.z ShS.good z) G]:=by
  refine Qi rfl ⟨G,()⟩ trivial rfl ?_ ?_
  · show _=SV.ren _ (.t [.c (.v (.int .i64 (bif runB n then _ else _))),.c (.v (bif runB n then _ else _))])
    rw[hb];rfl
  · show _=[SB.abs (QB shM ShS.z ShS.good (z.run t (bif runB n then n.toNat else 0))) G].map _
    rw[hb];rfl
 have fin (hb:runB n=true) {k:Nat}(hk:k<=n.toNat) (hr:z.ran t n.toNat=k+(z.run t k).ran t (n.toNat-k)) (hd:k=n.toNat\/((z.run t k).w t).does=0) (G:List Nat):endN runN.sh [] (fun _ _=>[0]) (z,(t,n),F) (SV.t [SA.c (SC.v (.int .i64 (k:Int))),SA.c (SC.v .nilIface)]) [SB.abs (QB shM ShS.z ShS.good (z.run t k)) G]:=by
  have e:z.ran t n.toNat=k/\z.run t n.toNat=z.run t k:=by
   rcases hd with rfl|hd
   · rw[Nat.sub_self]at hr;exact⟨hr,rfl⟩
   · have a:=Qi4 t (n.toNat-k) hd
     rw[a.2]at hr
     refine⟨hr,?_⟩
     have b:=Qip t k (n.toNat-k) z
     rw[show k+(n.toNat-k)=n.toNat by omega,a.1]at b;exact b
  refine Qi rfl ⟨G,()⟩ trivial rfl ?_ ?_
  · show _=SV.ren _ (.t [.c (.v (.int .i64 (bif runB n then ((z.ran t n.toNat:Nat):Int)else _))),.c (.v (bif runB n then _ else _))])
    rw[hb,e.1];rfl
  · show _=[SB.abs (QB shM ShS.z ShS.good (z.run t (bif runB n then n.toNat else 0))) G].map _
    rw[hb]
    show _=[SB.abs (QB shM ShS.z ShS.good (z.run t n.toNat)) G].map _
    rw[e.2];rfl
 refine⟨(z,t,F),rfl,rfl,ht,fun x _=>Qo (fun hlt=>bad (decide_eq_false (by omega)) x.1) (fun hge=>Qo (fun hgt=>bad (decide_eq_false (by omega)) x.1) (fun hle=>?_))⟩
 have hb:runB n=true:=decide_eq_true (by omega)
 refine⟨⟨⟨0,x.1,Nat.zero_le _,(by rw[Nat.zero_add,Nat.sub_zero];rfl)⟩,⟨rfl,rfl,rfl,rfl,rfl,trivial⟩,rfl⟩,?_⟩
 rintro⟨k,G,hk,hr⟩
 dsimp only at hk hr ⊢
 refine Qo (fun hlt=>?_) (fun hge=>?_)
 · refine⟨(z.run t k,t,G),rfl,rfl,ht,fun x1 _=>Q5 (fun hd=>fin hb hk hr (.inr hd) x1.1) (fun hd=>?_)⟩
   have hok:=h1.ok (by omega) (by omega) k (by omega)
   have hr':z.ran t n.toNat=k+1+(z.run t (k+1)).ran t (n.toNat-(k+1)):=by
    rw[hr,Qi3,show n.toNat-k=(n.toNat-(k+1))+1 by omega,QnM (z:=z.run t k) (t:=t) hd];omega
   exact⟨(z.run t k,t,x1.1),rfl,rfl,⟨ht,hok.1,hok.2⟩,fun x2 _=>⟨⟨k+1,x2.1,by omega,hr'⟩,⟨⟨rfl,rfl,rfl,rfl,svI (sucI (by omega)),trivial⟩,congrArg (fun s=>[SB.abs (QB shM ShS.z ShS.good s) x2.1]) (Qi3 z t k).symm⟩,by dsimp only;omega⟩⟩
 · obtain hkn:k=n.toNat:=by omega
   have:=fin hb hk hr (.inl hkn) G
   rw[show (k:Int)=n by omega]at this;exact this
def QlF:TCon Sh (Int × Int) Unit where
 pre z a:=inT a.1=true->RunOK z a.1.toNat a.2
 args a:=[.c (.v (.int .i64 a.1)),.c (.v (.int .i64 a.2))]
 ok _ _ _:=True
 next z a _:=z.runA a.1 a.2
 val _ z a _:=.t [.c (.v (.int .i64 (bif inT a.1 then (bif runB a.2 then ((z.ran a.1.toNat a.2.toNat:Nat):Int)else 0)else 0))),.c (.v (bif inT a.1 then (bif runB a.2 then .nilIface else .iface 92 (.int .i64 1))else .iface 92 (.int .i64 2)))]
 new _ _ _ _:=[]
 len:=0
def runX:TCon Sh (Int × Int) Unit where
 pre z a:=a.1<0\/4<=a.1
 args a:=[.c (.v (.int .i64 a.1)),.c (.v (.int .i64 a.2))]
 ok _ _ _:=True
 next z a _:=z
 val _ z a _:=.t [.c (.v (.int .i64 0)),.c (.v (.iface 92 (.int .i64 2)))]
 new _ _ _ _:=[]
 len:=0
theorem QnH:(Con.mem runX.sh).holds Tryz.prog 20:=by
 intro w0 S
 refine Qa (Γ:=[(32,.pure Qg0)]) (fun _=>noW) Tryz.func20 rfl (by kernel_rfl) Qf Qc (fun w S' _ _=>.cons (Qjc w _) (.nil _ _ _)) runX.sh (fun s=>[]) (fun x0 h=>by cases h) (fun s ρ w _ _ _=>Qh w _) [] (fun _ M=>[0]) 600 ?_
 rintro⟨z,⟨a,n⟩,F⟩ W h1 -
 refine⟨rfl,?_⟩
 refine Qj (q:=(a<(0:Int)\/(4:Int)<=a)/\endN (TCon.sh runX) [] (fun (x:SV) (M:List SB)=>[0]) (z,(a,n),F) (SV.t [aI 0,SA.c (.v (.iface 92 (Value.int .i64 (2:Int))))]) [SB.abs (QB shM ShS.z ShS.good z) F]) (by kernel_rfl) ?_
 have h1:a<0\/4<=a:=h1
 exact⟨h1,Qi rfl ⟨F,()⟩ trivial rfl rfl rfl⟩
theorem runH:(Con.mem QlF.sh).holds Tryz.prog 20:=fun w0 S=>TCon.high_of (Qi5 w0 S).1 fun ⟨a,n⟩=>by
 intro ρ z F w hp hK HM
 by_cases h:0<=a/\a<4
 · have hb:inT a=true:=decide_eq_true h
   obtain⟨t,rfl⟩:=Int.eq_ofNat_of_zero_le h.1
   have ht:t<4:=by omega
   have hp':RunOK z t n:=by have:=hp hb;rw[Int.toNat_natCast]at this;exact this
   have:=(Qi5 w0 S).2.2 ρ (z,(t,n),F) w ⟨ht,hp'⟩ hK HM
   have e1:z.runA t n=z.run t (bif runB n then n.toNat else 0):=by unfold Sh.runA;rw[hb,Int.toNat_natCast];rfl
   have e2:QlF.val 1 z ((t:Int),n) ()=runN.val 1 z (t,n) ():=by
    show SV.t [.c (.v (.int .i64 (bif inT t then (bif runB n then ((z.ran (t:Int).toNat n.toNat:Nat):Int)else 0)else 0))),.c (.v (bif inT t then _ else _))]=_
    rw[hb,Int.toNat_natCast];rfl
   refine this.mono ?_
   rintro e w' ⟨⟨G,⟨⟩⟩,ρ',h1,h2,h3,h4,h5⟩
   refine⟨⟨G,()⟩,ρ',trivial,h2,rfl,?_,?_⟩
   · rw[e2];exact h4
   · show Mem w _ (denM ρ' 0 (.abs (QB shM ShS.z ShS.good (z.runA t n)) G::[])) w'
     rw[e1];exact h5
 · have hb:inT a=false:=decide_eq_false h
   have:=(QnH w0 S).2.2 ρ (z,(a,n),F) w (by show a<0\/4<=a;omega) hK HM
   have e1:z.runA a n=z:=by unfold Sh.runA;rw[hb];rfl
   have e2:QlF.val 1 z (a,n) ()=runX.val 1 z (a,n) ():=by
    show SV.t [.c (.v (.int .i64 (bif inT a then _ else 0))),.c (.v (bif inT a then _ else _))]=_
    rw[hb];rfl
   refine this.mono ?_
   rintro e w' ⟨⟨G,⟨⟩⟩,ρ',h1,h2,h3,h4,h5⟩
   refine⟨⟨G,()⟩,ρ',trivial,h2,rfl,?_,?_⟩
   · rw[e2];exact h4
   · show Mem w _ (denM ρ' 0 (.abs (QB shM ShS.z ShS.good (z.runA a n)) G::[])) w'
     rw[e1];exact h5
end
section
open Go.RowKit
structure NewS where
 k:Int
def Qg2:MCon where
 σ:=NewS
 χ:=ShS
 pre s:=1<=s.k/\s.k<=6
 args s:=[.c (.v (.int .i64 s.k))]
 mem _:=[]
 ok s x:=x.good/\x.z=Sh.new s.k
 val _ _:=.t [.c (.p 0 0),.c (.v .nilIface)]
 mem' _ x:=shM x
 k:=0
 len:=17
 det:=none
 find _ _:=some []
def msAt (M:List SB) (b:Nat):List Nat:=match getB M b with
 |.cells l _=>match segGet l 0,segGet l 1 with
  |some (.p m _),some (.p s _)=>[b,m,s]
  |_,_=>[]
 |_=>[]
def newM (k:Int) (f:Nat->Int):List SB:=[.cells [.one (.p 1 0),.one (.p 2 0),.one (.v (.pointer none)),.one (.v (.pointer none)),.one (.v (.pointer none)),.one (.v (.pointer none)),.ints (.int .i64) 4 (fun _=>0),.one (.v (.int .i64 0)),.one (.v (.slice none 0 0)),.one (.v (.slice none 0 0))] 73,ramB (fun _=>0),stoB { Sto.new with now:=f },.cells [.ints (.int .u64) 32 (fL (Rec.new k).words)] 50]
structure NewG where
 i:Nat
 hi:i<=32
def Qpb (k:Int):Ann where
 σ:=NewG
 I g:=([(4,.o (.c (.p 3 0))),(6,.o (.c (.p 0 0))),(24,.o (.a [.ints (.int .u64) 32 (fL (Rec.new k).words)])),(25,sv (.int .i64 g.i))],
   [.cells [.one (.p 1 0),.one (.p 2 0),.one (.v (.pointer none)),.one (.v (.pointer none)),.one (.v (.pointer none)),.one (.v (.pointer none)),.ints (.int .i64) 4 (fun _=>0),.one (.v (.int .i64 0)),.one (.v (.slice none 0 0)),.one (.v (.slice none 0 0))] 73,ramB (fun _=>0),stoB { Sto.new with now:=XT k g.i },.cells [.ints (.int .u64) 32 (fL (Rec.new k).words)] 50])
 dec g:=32-g.i
 pi env M:=msAt M (blkE env 6)++[blkE env 4]
 nz:=[]
abbrev nzE (b:Nat):NZ:=.blk b 11 42 9 [.int .i64,.int .i64,.int .i64,.int .i64,.int .i64,.int .i64,.int .i64,.int .i64,.int .i64]
abbrev nzVd (b:Nat):NZ:=.blk b 12 75 7 [.int .u64,.int .i64,.int .i64,.int .i64,.int .i64,.int .i64,.int .i64]
abbrev nzWA (b:Nat):NZ:=.blk b 41 117 5 [.int .i64,.int .i64,.int .i64,.int .i64,.int .i64]
abbrev nzWD (b:Nat):NZ:=.blk b 42 47 6 [.int .i64,.int .i64,.int .i64,.int .i64,.int .i64,.int .i64]
structure QaQ where
 s:Sto
 n:Nat
def QhX:MCon:=dcon QaQ (fun s=>s.n<9) (fun s=>[.c (.p 0 0),.c (.v (.int .i64 (s.n:Int)))]) (fun s=>[stoB s.s]) (fun s=>.o (.c (.v .nilIface))) (fun s=>[stoB (s.s.evict s.n)]) 1 (fun args _=>some (blkA args))
theorem QjP:(Con.mem QhX).holds Tryz.prog 31:=by
 intro w0 S
 have h:=Qhj w0 S
 refine⟨h.1,fun x0 hx s x=>⟨rfl,trivial⟩,fun ρ ⟨s,n⟩ w hp hK HM=>(h.2.2 ρ ⟨s,n⟩ w trivial hK HM).mono ?_⟩
 have hp:n<9:=hp
 have e1:decide ((0:Int)<=(n:Int)/\(n:Int)<9)=true:=decide_eq_true (by omega)
 have ev:Qbz.val ⟨s,n⟩ ()=.o (.c (.v .nilIface)):=by
  show SV.o (.c (.v (bif decide ((0:Int)<=(n:Int)/\(n:Int)<9)then _ else _)))=_
  rw[e1];rfl
 have em:Qbz.mem' ⟨s,n⟩ ()=[stoB (s.evict n)]:=by
  show [stoB (bif decide ((0:Int)<=(n:Int)/\(n:Int)<9)then s.evict (n:Int).toNat else s)]=_
  rw[e1,Int.toNat_natCast];rfl
 rintro e w' ⟨⟨⟩,ρ',h1,h2,h3,h4,h5⟩
 refine⟨(),ρ',trivial,h2,rfl,?_,?_⟩
 · rw[h4,ev];rfl
 · rw[em]at h5;exact h5
theorem evict4 (k:Int) {A:Sto}(hA:A={ Sto.new with now:=XT k 32 }):(((A.evict 1).evict 2).evict 3).evict 4={ Sto.new with now:=XT k 32,good:=XT k 32 }:=by
 have e2:((((A.evict 1).evict 2).evict 3).evict 4).good=XT k 32:=funext fun j=>by
  subst hA
  show (bif decide (j/8=4)then XT k 32 j else bif decide (j/8=3)then XT k 32 j else bif decide (j/8=2)then XT k 32 j else bif decide (j/8=1)then XT k 32 j else 0)=XT k 32 j
  by_cases h:8<=j/\j<40
  · rcases (show j/8=1\/j/8=2\/j/8=3\/j/8=4 by omega)with h|h|h|h<;>rw[h]<;>rfl
  · rw[Qco k j (by omega),decide_eq_false (show ¬j/8=4 by omega),decide_eq_false (show ¬j/8=3 by omega),decide_eq_false (show ¬j/8=2 by omega),decide_eq_false (show ¬j/8=1 by omega)];rfl
 show (⟨A.now,((((A.evict 1).evict 2).evict 3).evict 4).good,A.want,A.fl,A.fe⟩:Sto)=_
 rw[e2,hA]
def Qpy:SV->List SB->List Nat
 |.t [.c (.p b _),_],M=>shAt M b
 |_,_=>[]
def newS0 (k:Int):ShS:=⟨Sh.new k,fun _=>⟨0,0,false,fun _ _=>0,0,0,false,fun _ _=>0⟩,0,0,false,fun _ _=>0,0,0,false,fun _ _=>0⟩
theorem Qka (k:Int):(newS0 k).good:=⟨fun t _=>⟨⟨Nat.le_refl _,Nat.le_refl _⟩,fun i hi=>absurd hi (Nat.not_lt_zero _),⟨Nat.le_refl _,Nat.le_refl _⟩,fun i hi=>absurd hi (Nat.not_lt_zero _)⟩,Nat.le_refl _,Nat.le_refl _,IsR.nil _ _ _ _,Nat.le_refl _,Nat.le_refl _,IsR.nil _ _ _ _⟩
attribute [local irreducible] endN
theorem Qn1 (k:Int) {S:Sto}(hS:S={ Sto.new with now:=XT k 32,good:=XT k 32 }):endN Qg2 [nzE 0,nzVd 0,nzWA 4,nzWD 4,nzWA 5,nzWD 5,nzWA 6,nzWD 6,nzWA 7,nzWD 7] Qpy ⟨k⟩ (.t [.c (.p 0 0),.c (.v .nilIface)])
 [.cells [.one (.p 1 0),.one (.p 2 0),.one (.p 4 0),.one (.p 5 0),.one (.p 6 0),.one (.p 7 0),.ints (.int .i64) 4 (fun _=>0),.one (.v (.int .i64 0)),.one (.v (.slice none 0 0)),.one (.v (.slice none 0 0))] 73,ramB (fun _=>0),stoB S,.cells [.ints (.int .u64) 32 (fL (Rec.new k).words)] 50,.cells [.one (.v (.int .i64 0)),.one (.v (.int .i64 0)),.one (.v (.int .i64 0)),.one (.v (.int .i64 0)),.one (.v (.int .i64 0)),.one (.v (.int .i64 0)),.one (.v (.bool false)),.one (.v (.int .i64 0)),.one (.v (.int .u64 0)),.ints (.int .u64) 32 (fun _=>0),.one (.v (.slice none 0 0)),.one (.v (.slice none 0 0)),.ints (.int .u64) 3 (fun _=>0),.one (.v (.int .i64 0)),.one (.v (.int .i64 0)),.one (.v (.int .i64 0))] 89,.cells [.one (.v (.int .i64 1)),.one (.v (.int .i64 0)),.one (.v (.int .i64 0)),.one (.v (.int .i64 0)),.one (.v (.int .i64 0)),.one (.v (.int .i64 0)),.one (.v (.bool false)),.one (.v (.int .i64 0)),.one (.v (.int .u64 0)),.ints (.int .u64) 32 (fun _=>0),.one (.v (.slice none 0 0)),.one (.v (.slice none 0 0)),.ints (.int .u64) 3 (fun _=>0),.one (.v (.int .i64 0)),.one (.v (.int .i64 0)),.one (.v (.int .i64 0))] 89,.cells [.one (.v (.int .i64 2)),.one (.v (.int .i64 0)),.one (.v (.int .i64 0)),.one (.v (.int .i64 0)),.one (.v (.int .i64 0)),.one (.v (.int .i64 0)),.one (.v (.bool false)),.one (.v (.int .i64 0)),.one (.v (.int .u64 0)),.ints (.int .u64) 32 (fun _=>0),.one (.v (.slice none 0 0)),.one (.v (.slice none 0 0)),.ints (.int .u64) 3 (fun _=>0),.one (.v (.int .i64 0)),.one (.v (.int .i64 0)),.one (.v (.int .i64 0))] 89,.cells [.one (.v (.int .i64 3)),.one (.v (.int .i64 0)),.one (.v (.int .i64 0)),.one (.v (.int .i64 0)),.one (.v (.int .i64 0)),.one (.v (.int .i64 0)),.one (.v (.bool false)),.one (.v (.int .i64 0)),.one (.v (.int .u64 0)),.ints (.int .u64) 32 (fun _=>0),.one (.v (.slice none 0 0)),.one (.v (.slice none 0 0)),.ints (.int .u64) 3 (fun _=>0),.one (.v (.int .i64 0)),.one (.v (.int .i64 0)),.one (.v (.int .i64 0))] 89]:=by
 refine Qi (x':=.t [.c (.p 0 0),.c (.v .nilIface)]) (M':=[.cells [.one (.p 1 0),.one (.p 2 0),.one (.p 4 0),.one (.p 5 0),.one (.p 6 0),.one (.p 7 0),.ints (.int .i64) 4 (fun _=>0),.one (.v (.int .i64 0)),.one (.so 8 0 9 0 0 false),.one (.so 9 0 7 0 0 false)] 73,ramB (fun _=>0),stoB S,.cells [.ints (.int .u64) 32 (fL (Rec.new k).words)] 50,.cells [.one (.v (.int .i64 0)),.one (.v (.int .i64 0)),.one (.v (.int .i64 0)),.one (.v (.int .i64 0)),.one (.v (.int .i64 0)),.one (.v (.int .i64 0)),.one (.v (.bool false)),.one (.v (.int .i64 0)),.one (.v (.int .u64 0)),.ints (.int .u64) 32 (fun _=>0),.one (.so 10 0 5 0 0 false),.one (.so 11 0 6 0 0 false),.ints (.int .u64) 3 (fun _=>0),.one (.v (.int .i64 0)),.one (.v (.int .i64 0)),.one (.v (.int .i64 0))] 89,.cells [.one (.v (.int .i64 1)),.one (.v (.int .i64 0)),.one (.v (.int .i64 0)),.one (.v (.int .i64 0)),.one (.v (.int .i64 0)),.one (.v (.int .i64 0)),.one (.v (.bool false)),.one (.v (.int .i64 0)),.one (.v (.int .u64 0)),.ints (.int .u64) 32 (fun _=>0),.one (.so 12 0 5 0 0 false),.one (.so 13 0 6 0 0 false),.ints (.int .u64) 3 (fun _=>0),.one (.v (.int .i64 0)),.one (.v (.int .i64 0)),.one (.v (.int .i64 0))] 89,.cells [.one (.v (.int .i64 2)),.one (.v (.int .i64 0)),.one (.v (.int .i64 0)),.one (.v (.int .i64 0)),.one (.v (.int .i64 0)),.one (.v (.int .i64 0)),.one (.v (.bool false)),.one (.v (.int .i64 0)),.one (.v (.int .u64 0)),.ints (.int .u64) 32 (fun _=>0),.one (.so 14 0 5 0 0 false),.one (.so 15 0 6 0 0 false),.ints (.int .u64) 3 (fun _=>0),.one (.v (.int .i64 0)),.one (.v (.int .i64 0)),.one (.v (.int .i64 0))] 89,.cells [.one (.v (.int .i64 3)),.one (.v (.int .i64 0)),.one (.v (.int .i64 0)),.one (.v (.int .i64 0)),.one (.v (.int .i64 0)),.one (.v (.int .i64 0)),.one (.v (.bool false)),.one (.v (.int .i64 0)),.one (.v (.int .u64 0)),.ints (.int .u64) 32 (fun _=>0),.one (.so 16 0 5 0 0 false),.one (.so 17 0 6 0 0 false),.ints (.int .u64) 3 (fun _=>0),.one (.v (.int .i64 0)),.one (.v (.int .i64 0)),.one (.v (.int .i64 0))] 89,evB 0 0 (fun _ _=>0),vdB 0 0 (fun _ _=>0),wkA 0 0 (fun _ _=>0),wkD 0 0 (fun _ _=>0),wkA 0 0 (fun _ _=>0),wkD 0 0 (fun _ _=>0),wkA 0 0 (fun _ _=>0),wkD 0 0 (fun _ _=>0),wkA 0 0 (fun _ _=>0),wkD 0 0 (fun _ _=>0)]) (by kernel_rfl) (newS0 k) ⟨Qka k,rfl⟩ (by kernel_rfl) (by kernel_rfl) ?_
 subst hS
 kernel_rfl
theorem Qn2:(Con.mem Qg2).holds Tryz.prog 17:=by
 intro w0 S
 refine Qa (Γ:=[(28,.pure Qdh),(29,.mem QdH),(30,.mem Xp),(31,.mem QhX)]) (fun _=>noW) Tryz.func17 rfl (by kernel_rfl) Qf Qc (fun w S' _ _=>.cons (QnK w _) (.cons (QjO w S') (.cons (XY w S') (.cons (QjP w S') (.nil _ _ _))))) Qg2 (fun s=>[(17,[(0,Qpb s.k)])]) (fun x0 h=>by cases h) (fun s ρ w _ _ _=>Qh w _) [nzE 0,nzVd 0,nzWA 4,nzWD 4,nzWA 5,nzWD 5,nzWA 6,nzWD 6,nzWA 7,nzWD 7] Qpy 900 ?_
 rintro⟨k⟩ W ⟨h1,h6⟩ -
 refine⟨rfl,?_⟩
 refine Qj (q:=((1:Int)<=k/\k<=(6:Int))/\∃(s:Unit),([]:List SA)=[]/\eN/\True/\∀(x:Unit),True->(∃(s0:Ann.σ (Qpb k)),(eS (aP 0 0) (aP 0 0)/\eS (aP 3 0) (aP 3 0)/\eS (SA.a [nU 32 (fL (Rec.words (Rec.new k)))]) (SA.a [nU 32 (fL (Rec.words (Rec.new k)))])/\eS (aI 0) (aI ↑s0.1)/\True)/\[SB.cells [sP 1 0,sP 2 0,Seg.one (.v (.pointer none)),Seg.one (.v (.pointer none)),Seg.one (.v (.pointer none)),Seg.one (.v (.pointer none)),nI 4 zF,sI 0,Seg.one (.v (.slice none 0 0)),Seg.one (.v (.slice none 0 0))] 73,SB.cells [nU 16 zF] 82,SB.cells [nU 72 Sto.new.1,nU 72 Sto.new.2,nB 36 Sto.new.3,sI 0,sI 0] 103,SB.cells [nU 32 (fL (Rec.words (Rec.new k)))] 50]=[SB.cells [sP 1 0,sP 2 0,Seg.one (.v (.pointer none)),Seg.one (.v (.pointer none)),Seg.one (.v (.pointer none)),Seg.one (.v (.pointer none)),nI 4 zF,sI 0,Seg.one (.v (.slice none 0 0)),Seg.one (.v (.slice none 0 0))] 73,SB.cells [nU 16 zF] 82,SB.cells [nU 72 (XT k s0.1),nU 72 Sto.new.2,nB 36 Sto.new.3,sI 0,sI 0] 103,SB.cells [nU 32 (fL (Rec.words (Rec.new k)))] 50])/\∀(s:NewG),bif decide ((↑s.1:Int)<(32:Int))then (iR (↑s.1:Int) (32:Int))/\∃(s_1:Xf),[aP 2 0,aI (IntKind.wrap .i64 ((8:Int)+(↑s.1:Int))),aU (fL (Rec.words (Rec.new k)) (Int.toNat (↑s.1:Int)))]=[aP 2 0,aI s_1.2,aU s_1.3]/\[SB.cells [nU 72 (XT k s.1),nU 72 Sto.new.2,nB 36 Sto.new.3,sI 0,sI 0] 103]=[stoB (Xf.s s_1)]/\(iR s_1.2 (72:Int))/\∀(x:Unit),True->∃(s':NewG),((eS (aP 3 0) (aP 3 0)/\eS (aP 0 0) (aP 0 0)/\eS (SA.a [nU 32 (fL (Rec.words (Rec.new k)))]) (SA.a [nU 32 (fL (Rec.words (Rec.new k)))])/\eS (aI (IntKind.wrap .i64 ((↑s.1:Int)+(1:Int)))) (aI ↑s'.1)/\True)/\[SB.cells [sP 1 0,sP 2 0,Seg.one (.v (.pointer none)),Seg.one (.v (.pointer none)),Seg.one (.v (.pointer none)),Seg.one (.v (.pointer none)),nI 4 zF,sI 0,Seg.one (.v (.slice none 0 0)),Seg.one (.v (.slice none 0 0))] 73,SB.cells [nU 16 zF] 82,stoB (Sto.save (Xf.s s_1) (Int.toNat (Xf.a s_1)) (Xf.x s_1)),SB.cells [nU 32 (fL (Rec.words (Rec.new k)))] 50]=[SB.cells [sP 1 0,sP 2 0,Seg.one (.v (.pointer none)),Seg.one (.v (.pointer none)),Seg.one (.v (.pointer none)),Seg.one (.v (.pointer none)),nI 4 zF,sI 0,Seg.one (.v (.slice none 0 0)),Seg.one (.v (.slice none 0 0))] 73,SB.cells [nU 16 zF] 82,SB.cells [nU 72 (XT k s'.1),nU 72 Sto.new.2,nB 36 Sto.new.3,sI 0,sI 0] 103,SB.cells [nU 32 (fL (Rec.words (Rec.new k)))] 50])/\32-s'.1<32-s.1 else ∃(s_1:QaQ),[aP 2 0,aI 1]=[aP 2 0,aI ↑s_1.2]/\[SB.cells [nU 72 (XT k s.1),nU 72 Sto.new.2,nB 36 Sto.new.3,sI 0,sI 0] 103]=[stoB (QaQ.s s_1)]/\s_1.2<9/\∀(x:Unit),True->∃(s:QaQ),[aP 2 0,aI 2]=[aP 2 0,aI ↑s.2]/\[stoB (Sto.evict (QaQ.s s_1) (QaQ.n s_1))]=[stoB (QaQ.s s)]/\s.2<9/\∀(x:Unit),True->∃(s_2:QaQ),[aP 2 0,aI 3]=[aP 2 0,aI ↑s_2.2]/\[stoB (Sto.evict (QaQ.s s) (QaQ.n s))]=[stoB (QaQ.s s_2)]/\s_2.2<9/\∀(x:Unit),True->∃(s:QaQ),[aP 2 0,aI 4]=[aP 2 0,aI ↑s.2]/\[stoB (Sto.evict (QaQ.s s_2) (QaQ.n s_2))]=[stoB (QaQ.s s)]/\s.2<9/\∀(x:Unit),True->i04/\(iR (1:Int) (4:Int))/\(iR (2:Int) (4:Int))/\(iR (3:Int) (4:Int))/\endN Qg2 [nzE 0,nzVd 0,nzWA 4,nzWD 4,nzWA 5,nzWD 5,nzWA 6,nzWD 6,nzWA 7,nzWD 7] Qpy (NewS.mk k) (SV.t [aP 0 0,SA.c (.v Value.nilIface)]) [SB.cells [sP 1 0,sP 2 0,sP 4 0,sP 5 0,sP 6 0,sP 7 0,nI 4 zF,sI 0,Seg.one (.v (.slice none 0 0)),Seg.one (.v (.slice none 0 0))] 73,SB.cells [nU 16 zF] 82,stoB (Sto.evict (QaQ.s s) (QaQ.n s)),SB.cells [nU 32 (fL (Rec.words (Rec.new k)))] 50,SB.cells [sI 0,sI 0,sI 0,sI 0,sI 0,sI 0,sB false,sI 0,sU 0,nU 32 zF,Seg.one (.v (.slice none 0 0)),Seg.one (.v (.slice none 0 0)),nU 3 zF,sI 0,sI 0,sI 0] 89,SB.cells [sI 1,sI 0,sI 0,sI 0,sI 0,sI 0,sB false,sI 0,sU 0,nU 32 zF,Seg.one (.v (.slice none 0 0)),Seg.one (.v (.slice none 0 0)),nU 3 zF,sI 0,sI 0,sI 0] 89,SB.cells [sI 2,sI 0,sI 0,sI 0,sI 0,sI 0,sB false,sI 0,sU 0,nU 32 zF,Seg.one (.v (.slice none 0 0)),Seg.one (.v (.slice none 0 0)),nU 3 zF,sI 0,sI 0,sI 0] 89,SB.cells [sI 3,sI 0,sI 0,sI 0,sI 0,sI 0,sB false,sI 0,sU 0,nU 32 zF,Seg.one (.v (.slice none 0 0)),Seg.one (.v (.slice none 0 0)),nU 3 zF,sI 0,sI 0,sI 0] 89]) (by kernel_rfl) ?_
 have h1:1<=k:=h1
 have h6:k<=6:=h6
 refine⟨⟨h1,h6⟩,(),rfl,rfl,trivial,fun _ _=>⟨⟨⟨0,by decide⟩,⟨rfl,rfl,rfl,rfl,trivial⟩,?_⟩,?_⟩⟩
 · exact congrArg (newM k) (Qkm k).symm
 rintro⟨i,hi⟩
 dsimp only at hi ⊢
 refine Qo (fun hlt=>?_) (fun hge=>?_)
 · have ea:IntKind.wrap .i64 (8+(i:Int))=((8+i:Nat):Int):=by rw[Qw (by omega) (by omega)];omega
   rw[ea]
   exact⟨⟨by omega,by omega⟩,⟨{ Sto.new with now:=XT k i },((8+i:Nat):Int),fL (Rec.new k).words i⟩,rfl,rfl,⟨(by omega:(0:Int)<=((8+i:Nat):Int)),(by omega:((8+i:Nat):Int)<72)⟩,fun _ _=>⟨⟨i+1,by omega⟩,⟨⟨rfl,rfl,rfl,svI (sucI (by omega)),trivial⟩,congrArg (newM k) (Qkn k i)⟩,by dsimp only;omega⟩⟩
 · obtain rfl:i=32:=by omega
   obtain⟨A,hA⟩:∃A:Sto,A={ Sto.new with now:=XT k 32 }:=⟨_,rfl⟩
   exact⟨⟨A,1⟩,rfl,by rw[hA];rfl,(by decide:1<9),fun _ _=>⟨⟨A.evict 1,2⟩,rfl,rfl,(by decide:2<9),fun _ _=>⟨⟨(A.evict 1).evict 2,3⟩,rfl,rfl,(by decide:3<9),fun _ _=>⟨⟨((A.evict 1).evict 2).evict 3,4⟩,rfl,rfl,(by decide:4<9),fun _ _=>⟨⟨by decide,by decide⟩,⟨by decide,by decide⟩,⟨by decide,by decide⟩,⟨by decide,by decide⟩,Qn1 k (evict4 k hA)⟩⟩⟩⟩⟩
def QiL:MCon where
 σ:=NewS
 χ:=List Nat
 pre s:=1<=s.k/\s.k<=6
 args s:=[.c (.v (.int .i64 s.k))]
 mem _:=[]
 ok _ _:=True
 val _ _:=.t [.c (.p 0 0),.c (.v .nilIface)]
 mem' s F:=[.abs (QB shM ShS.z ShS.good (Sh.new s.k)) F]
 k:=0
 len:=1
 det:=none
 find _ _:=some []
theorem newH:(Con.mem QiL).holds Tryz.prog 17:=by
 intro w0 S
 have h:=Qn2 w0 S
 refine⟨h.1,fun x0 h=>(by cases h),fun ρ s w hp hK HM=>(h.2.2 ρ s w hp hK HM).mono ?_⟩
 rintro e w' ⟨x,ρ',⟨hg,hz⟩,hag,hlen,rfl,HM'⟩
 have HM':Mem w (feet (denM ρ 0 [])) (denM ρ' 0 (shM x)) w':=HM'
 refine⟨feetL (denM ρ' 0 (shM x)),ρ',trivial,fun i hi=>absurd hi (Nat.not_lt_zero _),rfl,rfl,?_⟩
 show Mem w (feet (denM ρ 0 [])) [En.abs (ρ' 0) (QB shM ShS.z ShS.good (Sh.new s.k)) (feetL (denM ρ' 0 (shM x)))] w'
 refine⟨HM'.kept,fun e he=>?_,fun e he g hg=>?_,List.pairwise_singleton _ _⟩
 · obtain rfl:=List.mem_singleton.1 he
   exact⟨x,ρ',hz,hg,rfl,⟨Kept.refl _ _,fun e he=>HM'.holds e he,fun e he g hg=>.inl ⟨e,he,hg⟩,HM'.dist⟩,fun g=>(feetL_iff _ g).symm⟩
 · obtain rfl:=List.mem_singleton.1 he
   obtain⟨e',he',hf'⟩:=(feetL_iff _ g).1 hg
   exact HM'.own e' he' g hf'
end
section
open Go.RowKit
def craC:TCon Sh Int Unit where
 pre z l:=Qk6 z l
 args l:=[.c (.v (.int .u64 l))]
 ok _ _ _:=True
 next z l _:=z.crash l
 val _ _ _ _:=.t []
 new _ _ _ _:=[]
 len:=0
abbrev QZ:MCon:=craC.low shM ShS.z ShS.good 17 7 Qcm
structure CraG (z:Sh) (l:Int) where
 n:Nat
 mh:Nat
 ch:Nat
 nh:Bool
 zh:Nat->Nat->Int
 hn:n<=z.deeds.length
 hu:upTo (Qs l z.s 0) (z.deeds.take n)=upTo (Qs l z.s 0) z.deeds
 lh:Nat
 hl:lh=z.hist.length+1
 h1:lh<=mh
 h2:mh<=ch
 h:IsE zh (z.hist++[⟨3,0,0,0,0,0,0,0,z.steps+1⟩])
def Qph (s:ShS) (l:Int):Ann where
 σ:=CraG s.z l
 I g:=([(0,.o (.c (.p 0 0))),(4,sv (.int .i64 (Qs l s.z.s 0))),(5,sv (.int .i64 ((g.n:Int)-1)))],
   shX (putF (fun _=>0) 1 (Qs l s.z.s 0)) (s.z.s.crash l) s.z.w s.z.tog (s.z.steps+1) s.r g.lh g.mh g.ch g.nh g.zh g.n s.mv s.cv s.nv s.zv)
 dec g:=g.n
 pi env M:=shAt M 0
 nz:=[]
theorem Qlf {l:List Vd}{n:Nat}(h0:0<n) (hn:n<=l.length):l.take n=l.take (n-1)++[l.getD (n-1) Vd.nil]:=by
 obtain⟨m,rfl⟩:∃m,n=m+1:=⟨n-1,by omega⟩
 rw[Nat.add_sub_cancel,List.take_add_one,List.getElem?_eq_getElem (by omega),Option.toList_some,List.getD_eq_getElem?_getD,List.getElem?_eq_getElem (by omega)];rfl
theorem Qpo {v:Int}{l:List Vd}{d:Vd}(h:v<d.ver):upTo v (l++[d])=upTo v l:=by
 unfold upTo
 rw[List.reverse_append]
 show (List.dropWhile _ (d::l.reverse)).reverse=_
 rw[List.dropWhile_cons_of_pos (by simpa using h)]
theorem Qpn {v:Int}{l:List Vd}{d:Vd}(h:¬v<d.ver):upTo v (l++[d])=l++[d]:=by
 unfold upTo
 rw[List.reverse_append]
 show (List.dropWhile _ (d::l.reverse)).reverse=_
 rw[List.dropWhile_cons_of_neg (by simpa using h),List.reverse_cons,List.reverse_reverse]
def agW (a:Bool) (w:Wk):Wk:=bif a then Wk.call w.th w.k w.key w.x w.tog true else w
def agR (a:Bool) (r:WkR):WkR:=bif a then ⟨0,0,false,fun _ _=>0,0,0,false,fun _ _=>0⟩else r
def agH (a:Bool) (w:Wk):Prop:=if a then w.does≠0 else w.does=0
theorem QeC {a:Bool}{w:Wk}(h:agH a w):w.again=agW a w:=by
 unfold Wk.again
 cases a
 · exact if_pos h
 · exact if_neg h
theorem QeX {a:Bool}{w:Wk}{r:WkR}(h:(wkS w r).good):(wkS (agW a w) (agR a r)).good:=by
 cases a
 · exact h
 · exact⟨⟨Nat.le_refl _,Nat.le_refl _⟩,fun i hi=>absurd hi (Nat.not_lt_zero _),⟨Nat.le_refl _,Nat.le_refl _⟩,fun i hi=>absurd hi (Nat.not_lt_zero _)⟩
def sel4 {α:Type}(x0 x1 x2 x3:α):Nat->α
 |0=>x0
 |1=>x1
 |2=>x2
 |_=>x3
theorem QC {z:Sh}{r:Nat->WkR}{mh ch:Nat}{nh:Bool}{zh:Nat->Nat->Int}{mv cv:Nat}{nv:Bool}{zv:Nat->Nat->Int}{l:Int}(h0:(⟨z,r,mh,ch,nh,zh,mv,cv,nv,zv⟩:ShS).good)
 {n lh mh' ch':Nat}{nh':Bool}{zh':Nat->Nat->Int}(hn:n<=z.deeds.length) (hz:z.deeds.take n=upTo (Qs l z.s 0) z.deeds) (hl:lh=z.hist.length+1) (g1:lh<=mh') (g2:mh'<=ch') (g3:IsE zh' (z.hist++[⟨3,0,0,0,0,0,0,0,z.steps+1⟩]))
 {a0 a1 a2 a3:Bool}{M:List SB}(hc:(nodB (shAt M 0)&&QaV M.length (shAt M 0)&&idB 0 7 (shAt M 0))=true)
 (hM:(shAt M 0).map (getB M)=(shX (putF (fun _=>0) 1 (Qs l z.s 0)) (z.s.crash l) (sel4 (agW a0 (z.w 0)) (agW a1 (z.w 1)) (agW a2 (z.w 2)) (agW a3 (z.w 3))) z.tog (z.steps+1) (sel4 (agR a0 (r 0)) (agR a1 (r 1)) (agR a2 (r 2)) (agR a3 (r 3))) lh mh' ch' nh' zh' n mv cv nv zv).map (SB.ren (ofL (shAt M 0))))
 (e0:agH a0 (z.w 0)) (e1:agH a1 (z.w 1)) (e2:agH a2 (z.w 2)) (e3:agH a3 (z.w 3)):
 endN QZ [] (fun (x:SV) (M:List SB)=>shAt M 0) (⟨z,r,mh,ch,nh,zh,mv,cv,nv,zv⟩,l) (SV.t []) M:=by
 have hw:=h0.w
 have v1:=h0.v1
 have v2:=h0.v2
 dsimp only at hw v1 v2
 refine Qi rfl ⟨⟨z.crash l,sel4 (agR a0 (r 0)) (agR a1 (r 1)) (agR a2 (r 2)) (agR a3 (r 3)),mh',ch',nh',zh',mv,cv,nv,zv⟩,()⟩ ⟨⟨fun t ht=>?_,?_,g2,g3,?_,v2,?_⟩,rfl,trivial⟩ ?_ rfl ?_
 · rcases (show t=0\/t=1\/t=2\/t=3 by omega)with rfl|rfl|rfl|rfl
   · show (wkS ((z.w 0).again) (agR a0 (r 0))).good
     rw[QeC e0];exact QeX (hw 0 (by decide))
   · show (wkS ((z.w 1).again) (agR a1 (r 1))).good
     rw[QeC e1];exact QeX (hw 1 (by decide))
   · show (wkS ((z.w 2).again) (agR a2 (r 2))).good
     rw[QeC e2];exact QeX (hw 2 (by decide))
   · show (wkS ((z.w 3).again) (agR a3 (r 3))).good
     rw[QeC e3];exact QeX (hw 3 (by decide))
 · show (z.hist++[_]).length<=mh'
   rw[List.length_append]
   show z.hist.length+1<=mh'
   omega
 · show (upTo (Qs l z.s 0) z.deeds).length<=mv
   rw[<- hz,List.length_take];omega
 · show IsV zv (upTo (Qs l z.s 0) z.deeds)
   rw[<- hz];exact IsR.take h0.v n
 · simp only[Bool.and_eq_true]at hc ⊢
   exact⟨⟨⟨hc,rfl⟩,rfl⟩,rfl⟩
 · refine hM.trans (congrArg (List.map _) ?_)
   show _=shX (putF (fun _=>0) 1 (Qs l z.s 0)) (z.s.crash l) (fun t=>(z.w t).again) z.tog (z.steps+1) (sel4 (agR a0 (r 0)) (agR a1 (r 1)) (agR a2 (r 2)) (agR a3 (r 3))) (z.hist++[_]).length mh' ch' nh' zh' (upTo (Qs l z.s 0) z.deeds).length mv cv nv zv++[]
   rw[<- hz,List.length_take,Nat.min_eq_left hn,List.length_append,List.append_nil,hl]
   dsimp only[shX]
   rw[QeC e0,QeC e1,QeC e2,QeC e3];rfl
theorem Qp2:(Con.mem QZ).holds Tryz.prog 21:=by
 intro w0 S
 refine Qa (Γ:=[(35,.mem (QdI true)),(36,.mem QeW),(22,.inl Tryz.f22 (Tryz.f22.body.getD .skip)),(27,.mem QJ),(37,.mem Xh),(33,.mem (Qbn true))]) (fun _=>noW) Tryz.func21 rfl (by kernel_rfl) Qf Qc (fun w S' _ _=>.cons (Qhk w S') (.cons (Qm0 w S') (.cons ⟨by kernel_rfl,rfl,rfl⟩ (.cons (QN w S') (.cons (Qaa w S') (.cons (Qm4 w S') (.nil _ _ _))))))) QZ (fun s=>[(21,[(0,Qph s.1 s.2)])]) (fun x0 h=>by cases h) (fun s ρ w _ _ _=>Qh w _) [] (fun _ M=>shAt M 0) 600 ?_
 rintro⟨⟨z,r,mh,ch,nh,zh,mv,cv,nv,zv⟩,l⟩ W ⟨h0,h1⟩ -
 refine⟨rfl,?_⟩
 dsimp only
 refine Qj (q:=dP Tryz.f21 1 17 [⟨11,[17],[15,18],[],true⟩,⟨10,[],[17],[17],false⟩,xE 9,xR 8 0,xF 7 0,xF 6 0,xF 5 0,⟨4,[0],[],[15],false⟩,xF 3 0,xF 2 0,xF 1 0,xF 0 0]/\((List.length z.6<=mh/\ch=ch)/\(1<=1/\1=1)/\List.length z.6+1<=68719476736)/\∀(c:Nat),List.length z.6+1<=c->dP Tryz.f21 1 17 [⟨14,[],[0],[1,2,3,4,5,6,18,16],false⟩,xF 13 0,xF 12 0,⟨11,[17],[15,18],[18],true⟩,⟨10,[],[17],[17],false⟩,xE 9,xR 8 0,xF 7 0,xF 6 0,xF 5 0,⟨4,[0],[],[15],false⟩,xF 3 0,xF 2 0,xF 1 0,xF 0 0]/\∃(s:QbB),[aP 2 0,aU l]=[aP 2 0,aU s.2]/\[stoB (Sh.s z)]=[stoB (QbB.s s)]/\U64 s.2/\∀(x:Unit),True->∃(s_1:Nat->Int),[aP 1 0]=[aP 1 0]/\[ramB z.1]=[ramB s_1]/\True/\∀(x:Unit),True->∃(s_2:Qt),[aP 2 0,aI 0]=[aP 2 0,aI s_2.2]/\[stoB (bif true then Sto.crash (QbB.s s) (QbB.l s)else have __src:=crTo s 9;Sto.mk (Sto.now __src) (Sto.good __src) (zF) (Sto.fl __src) (Sto.fe __src))]=[stoB (Qt.s s_2)]/\(iR s_2.2 (72:Int))/\∀(x:Unit),True->∃(s:Qa0),[aP 1 0,aI 1,aU (IntKind.wrap .u64 (IntKind.wrap .i64 ((Qt.s s_2).1 (Int.toNat s_2.2))))]=[aP 1 0,aI s.2,aU s.3]/\[SB.cells [nU 16 zF] 82]=[ramB s.1]/\(iR s.2 (16:Int))/\∀(x:Unit),True->List.length z.7<=cv/\(∃(s0:Ann.σ (Qph (ShS.mk z r mh ch nh zh mv cv nv zv) l)),(eS (aP 0 0) (aP 0 0)/\eS (aI (IntKind.wrap .i64 ((Qt.s s_2).1 (Int.toNat s_2.2)))) (aI (Qs l z.2 0))/\eS (aI (IntKind.wrap .i64 ((↑(List.length z.7):Int)-(1:Int)))) (aI ((↑s0.1:Int)-(1:Int)))/\True)/\(shI (shD z.4 (IntKind.wrap .i64 (z.5+(1:Int))) 18 (List.length z.6+1) c nh 16 (List.length z.7) cv nv) (putF s.1 (Int.toNat s.2) s.3) (Qt.s s_2) (stX (Sh.w z) r) (stA r) (stD r) (evB (List.length z.6+1) c fun (i j:Nat)=>bif Nat.ble (i+1) (List.length z.6)then zh i j else match List.get?Internal (match List.get?Internal [[(3:Int),(0:Int),(0:Int),(0:Int),(0:Int),(0:Int),(0:Int),(0:Int),IntKind.wrap .i64 (z.5+(1:Int))]] (0+(i-List.length z.6))with|some x=>x|none=>[]) j with|some x=>x|none=>(0:Int)) (vdB mv cv zv) [])=(shI (shD z.4 (z.5+(1:Int)) 18 s0.8 s0.3 s0.4 16 s0.1 cv nv) (putF (zF) 1 (Qs l z.2 0)) (Sto.crash (Sh.s z) l) (stX (Sh.w z) r) (stA r) (stD r) (evB s0.2 s0.3 s0.5) (vdB mv cv zv) []))/\∀(s:CraG z l),bif decide ((↑s.1:Int)-(1:Int)>=(0:Int))then ((0:Int)<=(↑s.1:Int)-(1:Int)/\(↑s.1:Int)-(1:Int)<(↑s.1:Int)/\0+s.1<=cv)/\0+Int.toNat ((↑s.1:Int)-(1:Int))<mv/\bif decide (zv (0+Int.toNat ((↑s.1:Int)-(1:Int))) 0>IntKind.wrap .u64 (Qs l z.2 0))then ((0:Int)<=(↑s.1:Int)-(1:Int)/\(↑s.1:Int)-(1:Int)<=(↑cv:Int))/\∃(s':CraG z l),((eS (aP 0 0) (aP 0 0)/\eS (aI (Qs l z.2 0)) (aI (Qs l z.2 0))/\eS (aI (IntKind.wrap .i64 ((↑s.1:Int)-(1:Int)-(1:Int)))) (aI ((↑s'.1:Int)-(1:Int)))/\True)/\(shI (shD z.4 (z.5+(1:Int)) 15 s.8 s.3 s.4 16 (Int.toNat ((↑s.1:Int)-(1:Int))) cv nv) (putF (zF) 1 (Qs l z.2 0)) (Sto.crash (Sh.s z) l) (stX (Sh.w z) r) (stA r) (stD r) (evB s.2 s.3 s.5) (vdB mv cv zv) [])=(shI (shD z.4 (z.5+(1:Int)) 15 s'.8 s'.3 s'.4 16 s'.1 cv nv) (putF (zF) 1 (Qs l z.2 0)) (Sto.crash (Sh.s z) l) (stX (Sh.w z) r) (stA r) (stD r) (evB s'.2 s'.3 s'.5) (vdB mv cv zv) []))/\s'.1<s.1 else i04/\bif (Sh.w z 0).2 != (0:Int)then ∃(s_3:Qb),[aP 3 0,SA.a [sI (Sh.w z 0).3,sI (Sh.w z 0).4,sI (Sh.w z 0).5],aI (Sh.w z 0).6,aB true]=[aP 3 0,SA.a [sI s_3.2,sI s_3.3,sI s_3.4],aI s_3.5,aB true]/\[wkR 7 8 (Sh.w z 0) (r 0),waR (r 0),wdR (r 0)]=[wkC 7 8 (WkS.w (Qb.s s_3)) (Qb.s s_3).3 (Qb.s s_3).4 (Qb.s s_3).7 (Qb.s s_3).8,wkA (Qb.s s_3).2 (Qb.s s_3).3 (Qb.s s_3).5,wkD (Qb.s s_3).6 (Qb.s s_3).7 (Qb.s s_3).9]/\True/\∀(x:Unit),True->dP Tryz.f21 14 17 [⟨9,[],[3,7,8,17,18],[17,18],false⟩,xR 8 3,xF 7 3,xF 6 3,xF 5 3,xR 4 3,xF 3 3,xF 2 3,xF 1 3,xF 0 3]/\(iR (1:Int) (4:Int))/\bif (Sh.w z 1).2 != (0:Int)then ∃(s_4:Qb),[aP 4 0,SA.a [sI (Sh.w z 1).3,sI (Sh.w z 1).4,sI (Sh.w z 1).5],aI (Sh.w z 1).6,aB true]=[aP 4 0,SA.a [sI s_4.2,sI s_4.3,sI s_4.4],aI s_4.5,aB true]/\[wkR 9 10 (Sh.w z 1) (r 1),waR (r 1),wdR (r 1)]=[wkC 9 10 (WkS.w (Qb.s s_4)) (Qb.s s_4).3 (Qb.s s_4).4 (Qb.s s_4).7 (Qb.s s_4).8,wkA (Qb.s s_4).2 (Qb.s s_4).3 (Qb.s s_4).5,wkD (Qb.s s_4).6 (Qb.s s_4).7 (Qb.s s_4).9]/\True/\∀(x:Unit),True->dP Tryz.f21 14 19 [⟨9,[],[4,9,10,19,20],[19,20],false⟩,xR 8 4,xF 7 4,xF 6 4,xF 5 4,xR 4 4,xF 3 4,xF 2 4,xF 1 4,xF 0 4]/\(iR (2:Int) (4:Int))/\bif (Sh.w z 2).2 != (0:Int)then ∃(s_5:Qb),[aP 5 0,SA.a [sI (Sh.w z 2).3,sI (Sh.w z 2).4,sI (Sh.w z 2).5],aI (Sh.w z 2).6,aB true]=[aP 5 0,SA.a [sI s_5.2,sI s_5.3,sI s_5.4],aI s_5.5,aB true]/\[wkR 11 12 (Sh.w z 2) (r 2),waR (r 2),wdR (r 2)]=[wkC 11 12 (WkS.w (Qb.s s_5)) (Qb.s s_5).3 (Qb.s s_5).4 (Qb.s s_5).7 (Qb.s s_5).8,wkA (Qb.s s_5).2 (Qb.s s_5).3 (Qb.s s_5).5,wkD (Qb.s s_5).6 (Qb.s s_5).7 (Qb.s s_5).9]/\True/\∀(x:Unit),True->dP Tryz.f21 14 21 [⟨9,[],[5,11,12,21,22],[21,22],false⟩,xR 8 5,xF 7 5,xF 6 5,xF 5 5,xR 4 5,xF 3 5,xF 2 5,xF 1 5,xF 0 5]/\(iR (3:Int) (4:Int))/\bif (Sh.w z 3).2 != (0:Int)then ∃(s_6:Qb),[aP 6 0,SA.a [sI (Sh.w z 3).3,sI (Sh.w z 3).4,sI (Sh.w z 3).5],aI (Sh.w z 3).6,aB true]=[aP 6 0,SA.a [sI s_6.2,sI s_6.3,sI s_6.4],aI s_6.5,aB true]/\[wkR 13 14 (Sh.w z 3) (r 3),waR (r 3),wdR (r 3)]=[wkC 13 14 (WkS.w (Qb.s s_6)) (Qb.s s_6).3 (Qb.s s_6).4 (Qb.s s_6).7 (Qb.s s_6).8,wkA (Qb.s s_6).2 (Qb.s s_6).3 (Qb.s s_6).5,wkD (Qb.s s_6).6 (Qb.s s_6).7 (Qb.s s_6).9]/\True/\∀(x:Unit),True->dP Tryz.f21 14 23 [⟨9,[],[6,13,14,23,24],[23,24],false⟩,xR 8 6,xF 7 6,xF 6 6,xF 5 6,xR 4 6,xF 3 6,xF 2 6,xF 1 6,xF 0 6]/\endN QZ [] (fun (x:SV) (M:List SB)=>shAt M 0) (ShS.mk z r mh ch nh zh mv cv nv zv,l) (SV.t []) (shI (shD z.4 (z.5+(1:Int)) 15 s.8 s.3 s.4 16 s.1 cv nv) (putF (zF) 1 (Qs l z.2 0)) (Sto.crash (Sh.s z) l) (setF (setF (setF (setF (stX (Sh.w z) r) 0 (wkZ 17 18 (wcA s_3))) 1 (wkZ 19 20 (wcA s_4))) 2 (wkZ 21 22 (wcA s_5))) 3 (wkZ 23 24 (wcA s_6))) (setF (setF (setF (setF (stA r) 0 SB.gone) 1 SB.gone) 2 SB.gone) 3 SB.gone) (setF (setF (setF (setF (stD r) 0 SB.gone) 1 SB.gone) 2 SB.gone) 3 SB.gone) (evB s.2 s.3 s.5) (vdB mv cv zv) [wa0,wd0,wa0,wd0,wa0,wd0,wa0,wd0])else endN QZ [] (fun (x:SV) (M:List SB)=>shAt M 0) (ShS.mk z r mh ch nh zh mv cv nv zv,l) (SV.t []) (shI (shD z.4 (z.5+(1:Int)) 15 s.8 s.3 s.4 16 s.1 cv nv) (putF (zF) 1 (Qs l z.2 0)) (Sto.crash (Sh.s z) l) (setF (setF (setF (stX (Sh.w z) r) 0 (wkZ 17 18 (wcA s_3))) 1 (wkZ 19 20 (wcA s_4))) 2 (wkZ 21 22 (wcA s_5))) (setF (setF (setF (stA r) 0 SB.gone) 1 SB.gone) 2 SB.gone) (setF (setF (setF (stD r) 0 SB.gone) 1 SB.gone) 2 SB.gone) (evB s.2 s.3 s.5) (vdB mv cv zv) [wa0,wd0,wa0,wd0,wa0,wd0])else (iR (3:Int) (4:Int))/\bif (Sh.w z 3).2 != (0:Int)then ∃(s_5:Qb),[aP 6 0,SA.a [sI (Sh.w z 3).3,sI (Sh.w z 3).4,sI (Sh.w z 3).5],aI (Sh.w z 3).6,aB true]=[aP 6 0,SA.a [sI s_5.2,sI s_5.3,sI s_5.4],aI s_5.5,aB true]/\[wkR 13 14 (Sh.w z 3) (r 3),waR (r 3),wdR (r 3)]=[wkC 13 14 (WkS.w (Qb.s s_5)) (Qb.s s_5).3 (Qb.s s_5).4 (Qb.s s_5).7 (Qb.s s_5).8,wkA (Qb.s s_5).2 (Qb.s s_5).3 (Qb.s s_5).5,wkD (Qb.s s_5).6 (Qb.s s_5).7 (Qb.s s_5).9]/\True/\∀(x:Unit),True->dP Tryz.f21 14 21 [⟨9,[],[6,13,14,21,22],[21,22],false⟩,xR 8 6,xF 7 6,xF 6 6,xF 5 6,xR 4 6,xF 3 6,xF 2 6,xF 1 6,xF 0 6]/\endN QZ [] (fun (x:SV) (M:List SB)=>shAt M 0) (ShS.mk z r mh ch nh zh mv cv nv zv,l) (SV.t []) (shI (shD z.4 (z.5+(1:Int)) 15 s.8 s.3 s.4 16 s.1 cv nv) (putF (zF) 1 (Qs l z.2 0)) (Sto.crash (Sh.s z) l) (setF (setF (setF (stX (Sh.w z) r) 0 (wkZ 17 18 (wcA s_3))) 1 (wkZ 19 20 (wcA s_4))) 3 (wkZ 21 22 (wcA s_5))) (setF (setF (setF (stA r) 0 SB.gone) 1 SB.gone) 3 SB.gone) (setF (setF (setF (stD r) 0 SB.gone) 1 SB.gone) 3 SB.gone) (evB s.2 s.3 s.5) (vdB mv cv zv) [wa0,wd0,wa0,wd0,wa0,wd0])else endN QZ [] (fun (x:SV) (M:List SB)=>shAt M 0) (ShS.mk z r mh ch nh zh mv cv nv zv,l) (SV.t []) (shI (shD z.4 (z.5+(1:Int)) 15 s.8 s.3 s.4 16 s.1 cv nv) (putF (zF) 1 (Qs l z.2 0)) (Sto.crash (Sh.s z) l) (setF (setF (stX (Sh.w z) r) 0 (wkZ 17 18 (wcA s_3))) 1 (wkZ 19 20 (wcA s_4))) (setF (setF (stA r) 0 SB.gone) 1 SB.gone) (setF (setF (stD r) 0 SB.gone) 1 SB.gone) (evB s.2 s.3 s.5) (vdB mv cv zv) [wa0,wd0,wa0,wd0])else (iR (2:Int) (4:Int))/\bif (Sh.w z 2).2 != (0:Int)then ∃(s_4:Qb),[aP 5 0,SA.a [sI (Sh.w z 2).3,sI (Sh.w z 2).4,sI (Sh.w z 2).5],aI (Sh.w z 2).6,aB true]=[aP 5 0,SA.a [sI s_4.2,sI s_4.3,sI s_4.4],aI s_4.5,aB true]/\[wkR 11 12 (Sh.w z 2) (r 2),waR (r 2),wdR (r 2)]=[wkC 11 12 (WkS.w (Qb.s s_4)) (Qb.s s_4).3 (Qb.s s_4).4 (Qb.s s_4).7 (Qb.s s_4).8,wkA (Qb.s s_4).2 (Qb.s s_4).3 (Qb.s s_4).5,wkD (Qb.s s_4).6 (Qb.s s_4).7 (Qb.s s_4).9]/\True/\∀(x:Unit),True->dP Tryz.f21 14 19 [⟨9,[],[5,11,12,19,20],[19,20],false⟩,xR 8 5,xF 7 5,xF 6 5,xF 5 5,xR 4 5,xF 3 5,xF 2 5,xF 1 5,xF 0 5]/\(iR (3:Int) (4:Int))/\bif (Sh.w z 3).2 != (0:Int)then ∃(s_5:Qb),[aP 6 0,SA.a [sI (Sh.w z 3).3,sI (Sh.w z 3).4,sI (Sh.w z 3).5],aI (Sh.w z 3).6,aB true]=[aP 6 0,SA.a [sI s_5.2,sI s_5.3,sI s_5.4],aI s_5.5,aB true]/\[wkR 13 14 (Sh.w z 3) (r 3),waR (r 3),wdR (r 3)]=[wkC 13 14 (WkS.w (Qb.s s_5)) (Qb.s s_5).3 (Qb.s s_5).4 (Qb.s s_5).7 (Qb.s s_5).8,wkA (Qb.s s_5).2 (Qb.s s_5).3 (Qb.s s_5).5,wkD (Qb.s s_5).6 (Qb.s s_5).7 (Qb.s s_5).9]/\True/\∀(x:Unit),True->dP Tryz.f21 14 21 [⟨9,[],[6,13,14,21,22],[21,22],false⟩,xR 8 6,xF 7 6,xF 6 6,xF 5 6,xR 4 6,xF 3 6,xF 2 6,xF 1 6,xF 0 6]/\endN QZ [] (fun (x:SV) (M:List SB)=>shAt M 0) (ShS.mk z r mh ch nh zh mv cv nv zv,l) (SV.t []) (shI (shD z.4 (z.5+(1:Int)) 15 s.8 s.3 s.4 16 s.1 cv nv) (putF (zF) 1 (Qs l z.2 0)) (Sto.crash (Sh.s z) l) (setF (setF (setF (stX (Sh.w z) r) 0 (wkZ 17 18 (wcA s_3))) 2 (wkZ 19 20 (wcA s_4))) 3 (wkZ 21 22 (wcA s_5))) (setF (setF (setF (stA r) 0 SB.gone) 2 SB.gone) 3 SB.gone) (setF (setF (setF (stD r) 0 SB.gone) 2 SB.gone) 3 SB.gone) (evB s.2 s.3 s.5) (vdB mv cv zv) [wa0,wd0,wa0,wd0,wa0,wd0])else endN QZ [] (fun (x:SV) (M:List SB)=>shAt M 0) (ShS.mk z r mh ch nh zh mv cv nv zv,l) (SV.t []) (shI (shD z.4 (z.5+(1:Int)) 15 s.8 s.3 s.4 16 s.1 cv nv) (putF (zF) 1 (Qs l z.2 0)) (Sto.crash (Sh.s z) l) (setF (setF (stX (Sh.w z) r) 0 (wkZ 17 18 (wcA s_3))) 2 (wkZ 19 20 (wcA s_4))) (setF (setF (stA r) 0 SB.gone) 2 SB.gone) (setF (setF (stD r) 0 SB.gone) 2 SB.gone) (evB s.2 s.3 s.5) (vdB mv cv zv) [wa0,wd0,wa0,wd0])else (iR (3:Int) (4:Int))/\bif (Sh.w z 3).2 != (0:Int)then ∃(s_4:Qb),[aP 6 0,SA.a [sI (Sh.w z 3).3,sI (Sh.w z 3).4,sI (Sh.w z 3).5],aI (Sh.w z 3).6,aB true]=[aP 6 0,SA.a [sI s_4.2,sI s_4.3,sI s_4.4],aI s_4.5,aB true]/\[wkR 13 14 (Sh.w z 3) (r 3),waR (r 3),wdR (r 3)]=[wkC 13 14 (WkS.w (Qb.s s_4)) (Qb.s s_4).3 (Qb.s s_4).4 (Qb.s s_4).7 (Qb.s s_4).8,wkA (Qb.s s_4).2 (Qb.s s_4).3 (Qb.s s_4).5,wkD (Qb.s s_4).6 (Qb.s s_4).7 (Qb.s s_4).9]/\True/\∀(x:Unit),True->dP Tryz.f21 14 19 [⟨9,[],[6,13,14,19,20],[19,20],false⟩,xR 8 6,xF 7 6,xF 6 6,xF 5 6,xR 4 6,xF 3 6,xF 2 6,xF 1 6,xF 0 6]/\endN QZ [] (fun (x:SV) (M:List SB)=>shAt M 0) (ShS.mk z r mh ch nh zh mv cv nv zv,l) (SV.t []) (shI (shD z.4 (z.5+(1:Int)) 15 s.8 s.3 s.4 16 s.1 cv nv) (putF (zF) 1 (Qs l z.2 0)) (Sto.crash (Sh.s z) l) (setF (setF (stX (Sh.w z) r) 0 (wkZ 17 18 (wcA s_3))) 3 (wkZ 19 20 (wcA s_4))) (setF (setF (stA r) 0 SB.gone) 3 SB.gone) (setF (setF (stD r) 0 SB.gone) 3 SB.gone) (evB s.2 s.3 s.5) (vdB mv cv zv) [wa0,wd0,wa0,wd0])else endN QZ [] (fun (x:SV) (M:List SB)=>shAt M 0) (ShS.mk z r mh ch nh zh mv cv nv zv,l) (SV.t []) (shI (shD z.4 (z.5+(1:Int)) 15 s.8 s.3 s.4 16 s.1 cv nv) (putF (zF) 1 (Qs l z.2 0)) (Sto.crash (Sh.s z) l) (setF (stX (Sh.w z) r) 0 (wkZ 17 18 (wcA s_3))) (setF (stA r) 0 SB.gone) (setF (stD r) 0 SB.gone) (evB s.2 s.3 s.5) (vdB mv cv zv) [wa0,wd0])else (iR (1:Int) (4:Int))/\bif (Sh.w z 1).2 != (0:Int)then ∃(s_3:Qb),[aP 4 0,SA.a [sI (Sh.w z 1).3,sI (Sh.w z 1).4,sI (Sh.w z 1).5],aI (Sh.w z 1).6,aB true]=[aP 4 0,SA.a [sI s_3.2,sI s_3.3,sI s_3.4],aI s_3.5,aB true]/\[wkR 9 10 (Sh.w z 1) (r 1),waR (r 1),wdR (r 1)]=[wkC 9 10 (WkS.w (Qb.s s_3)) (Qb.s s_3).3 (Qb.s s_3).4 (Qb.s s_3).7 (Qb.s s_3).8,wkA (Qb.s s_3).2 (Qb.s s_3).3 (Qb.s s_3).5,wkD (Qb.s s_3).6 (Qb.s s_3).7 (Qb.s s_3).9]/\True/\∀(x:Unit),True->dP Tryz.f21 14 17 [⟨9,[],[4,9,10,17,18],[17,18],false⟩,xR 8 4,xF 7 4,xF 6 4,xF 5 4,xR 4 4,xF 3 4,xF 2 4,xF 1 4,xF 0 4]/\(iR (2:Int) (4:Int))/\bif (Sh.w z 2).2 != (0:Int)then ∃(s_4:Qb),[aP 5 0,SA.a [sI (Sh.w z 2).3,sI (Sh.w z 2).4,sI (Sh.w z 2).5],aI (Sh.w z 2).6,aB true]=[aP 5 0,SA.a [sI s_4.2,sI s_4.3,sI s_4.4],aI s_4.5,aB true]/\[wkR 11 12 (Sh.w z 2) (r 2),waR (r 2),wdR (r 2)]=[wkC 11 12 (WkS.w (Qb.s s_4)) (Qb.s s_4).3 (Qb.s s_4).4 (Qb.s s_4).7 (Qb.s s_4).8,wkA (Qb.s s_4).2 (Qb.s s_4).3 (Qb.s s_4).5,wkD (Qb.s s_4).6 (Qb.s s_4).7 (Qb.s s_4).9]/\True/\∀(x:Unit),True->dP Tryz.f21 14 19 [⟨9,[],[5,11,12,19,20],[19,20],false⟩,xR 8 5,xF 7 5,xF 6 5,xF 5 5,xR 4 5,xF 3 5,xF 2 5,xF 1 5,xF 0 5]/\(iR (3:Int) (4:Int))/\bif (Sh.w z 3).2 != (0:Int)then ∃(s_5:Qb),[aP 6 0,SA.a [sI (Sh.w z 3).3,sI (Sh.w z 3).4,sI (Sh.w z 3).5],aI (Sh.w z 3).6,aB true]=[aP 6 0,SA.a [sI s_5.2,sI s_5.3,sI s_5.4],aI s_5.5,aB true]/\[wkR 13 14 (Sh.w z 3) (r 3),waR (r 3),wdR (r 3)]=[wkC 13 14 (WkS.w (Qb.s s_5)) (Qb.s s_5).3 (Qb.s s_5).4 (Qb.s s_5).7 (Qb.s s_5).8,wkA (Qb.s s_5).2 (Qb.s s_5).3 (Qb.s s_5).5,wkD (Qb.s s_5).6 (Qb.s s_5).7 (Qb.s s_5).9]/\True/\∀(x:Unit),True->dP Tryz.f21 14 21 [⟨9,[],[6,13,14,21,22],[21,22],false⟩,xR 8 6,xF 7 6,xF 6 6,xF 5 6,xR 4 6,xF 3 6,xF 2 6,xF 1 6,xF 0 6]/\endN QZ [] (fun (x:SV) (M:List SB)=>shAt M 0) (ShS.mk z r mh ch nh zh mv cv nv zv,l) (SV.t []) (shI (shD z.4 (z.5+(1:Int)) 15 s.8 s.3 s.4 16 s.1 cv nv) (putF (zF) 1 (Qs l z.2 0)) (Sto.crash (Sh.s z) l) (setF (setF (setF (stX (Sh.w z) r) 1 (wkZ 17 18 (wcA s_3))) 2 (wkZ 19 20 (wcA s_4))) 3 (wkZ 21 22 (wcA s_5))) (setF (setF (setF (stA r) 1 SB.gone) 2 SB.gone) 3 SB.gone) (setF (setF (setF (stD r) 1 SB.gone) 2 SB.gone) 3 SB.gone) (evB s.2 s.3 s.5) (vdB mv cv zv) [wa0,wd0,wa0,wd0,wa0,wd0])else endN QZ [] (fun (x:SV) (M:List SB)=>shAt M 0) (ShS.mk z r mh ch nh zh mv cv nv zv,l) (SV.t []) (shI (shD z.4 (z.5+(1:Int)) 15 s.8 s.3 s.4 16 s.1 cv nv) (putF (zF) 1 (Qs l z.2 0)) (Sto.crash (Sh.s z) l) (setF (setF (stX (Sh.w z) r) 1 (wkZ 17 18 (wcA s_3))) 2 (wkZ 19 20 (wcA s_4))) (setF (setF (stA r) 1 SB.gone) 2 SB.gone) (setF (setF (stD r) 1 SB.gone) 2 SB.gone) (evB s.2 s.3 s.5) (vdB mv cv zv) [wa0,wd0,wa0,wd0])else (iR (3:Int) (4:Int))/\bif (Sh.w z 3).2 != (0:Int)then ∃(s_4:Qb),[aP 6 0,SA.a [sI (Sh.w z 3).3,sI (Sh.w z 3).4,sI (Sh.w z 3).5],aI (Sh.w z 3).6,aB true]=[aP 6 0,SA.a [sI s_4.2,sI s_4.3,sI s_4.4],aI s_4.5,aB true]/\[wkR 13 14 (Sh.w z 3) (r 3),waR (r 3),wdR (r 3)]=[wkC 13 14 (WkS.w (Qb.s s_4)) (Qb.s s_4).3 (Qb.s s_4).4 (Qb.s s_4).7 (Qb.s s_4).8,wkA (Qb.s s_4).2 (Qb.s s_4).3 (Qb.s s_4).5,wkD (Qb.s s_4).6 (Qb.s s_4).7 (Qb.s s_4).9]/\True/\∀(x:Unit),True->dP Tryz.f21 14 19 [⟨9,[],[6,13,14,19,20],[19,20],false⟩,xR 8 6,xF 7 6,xF 6 6,xF 5 6,xR 4 6,xF 3 6,xF 2 6,xF 1 6,xF 0 6]/\endN QZ [] (fun (x:SV) (M:List SB)=>shAt M 0) (ShS.mk z r mh ch nh zh mv cv nv zv,l) (SV.t []) (shI (shD z.4 (z.5+(1:Int)) 15 s.8 s.3 s.4 16 s.1 cv nv) (putF (zF) 1 (Qs l z.2 0)) (Sto.crash (Sh.s z) l) (setF (setF (stX (Sh.w z) r) 1 (wkZ 17 18 (wcA s_3))) 3 (wkZ 19 20 (wcA s_4))) (setF (setF (stA r) 1 SB.gone) 3 SB.gone) (setF (setF (stD r) 1 SB.gone) 3 SB.gone) (evB s.2 s.3 s.5) (vdB mv cv zv) [wa0,wd0,wa0,wd0])else endN QZ [] (fun (x:SV) (M:List SB)=>shAt M 0) (ShS.mk z r mh ch nh zh mv cv nv zv,l) (SV.t []) (shI (shD z.4 (z.5+(1:Int)) 15 s.8 s.3 s.4 16 s.1 cv nv) (putF (zF) 1 (Qs l z.2 0)) (Sto.crash (Sh.s z) l) (setF (stX (Sh.w z) r) 1 (wkZ 17 18 (wcA s_3))) (setF (stA r) 1 SB.gone) (setF (stD r) 1 SB.gone) (evB s.2 s.3 s.5) (vdB mv cv zv) [wa0,wd0])else (iR (2:Int) (4:Int))/\bif (Sh.w z 2).2 != (0:Int)then ∃(s_3:Qb),[aP 5 0,SA.a [sI (Sh.w z 2).3,sI (Sh.w z 2).4,sI (Sh.w z 2).5],aI (Sh.w z 2).6,aB true]=[aP 5 0,SA.a [sI s_3.2,sI s_3.3,sI s_3.4],aI s_3.5,aB true]/\[wkR 11 12 (Sh.w z 2) (r 2),waR (r 2),wdR (r 2)]=[wkC 11 12 (WkS.w (Qb.s s_3)) (Qb.s s_3).3 (Qb.s s_3).4 (Qb.s s_3).7 (Qb.s s_3).8,wkA (Qb.s s_3).2 (Qb.s s_3).3 (Qb.s s_3).5,wkD (Qb.s s_3).6 (Qb.s s_3).7 (Qb.s s_3).9]/\True/\∀(x:Unit),True->dP Tryz.f21 14 17 [⟨9,[],[5,11,12,17,18],[17,18],false⟩,xR 8 5,xF 7 5,xF 6 5,xF 5 5,xR 4 5,xF 3 5,xF 2 5,xF 1 5,xF 0 5]/\(iR (3:Int) (4:Int))/\bif (Sh.w z 3).2 != (0:Int)then ∃(s_4:Qb),[aP 6 0,SA.a [sI (Sh.w z 3).3,sI (Sh.w z 3).4,sI (Sh.w z 3).5],aI (Sh.w z 3).6,aB true]=[aP 6 0,SA.a [sI s_4.2,sI s_4.3,sI s_4.4],aI s_4.5,aB true]/\[wkR 13 14 (Sh.w z 3) (r 3),waR (r 3),wdR (r 3)]=[wkC 13 14 (WkS.w (Qb.s s_4)) (Qb.s s_4).3 (Qb.s s_4).4 (Qb.s s_4).7 (Qb.s s_4).8,wkA (Qb.s s_4).2 (Qb.s s_4).3 (Qb.s s_4).5,wkD (Qb.s s_4).6 (Qb.s s_4).7 (Qb.s s_4).9]/\True/\∀(x:Unit),True->dP Tryz.f21 14 19 [⟨9,[],[6,13,14,19,20],[19,20],false⟩,xR 8 6,xF 7 6,xF 6 6,xF 5 6,xR 4 6,xF 3 6,xF 2 6,xF 1 6,xF 0 6]/\endN QZ [] (fun (x:SV) (M:List SB)=>shAt M 0) (ShS.mk z r mh ch nh zh mv cv nv zv,l) (SV.t []) (shI (shD z.4 (z.5+(1:Int)) 15 s.8 s.3 s.4 16 s.1 cv nv) (putF (zF) 1 (Qs l z.2 0)) (Sto.crash (Sh.s z) l) (setF (setF (stX (Sh.w z) r) 2 (wkZ 17 18 (wcA s_3))) 3 (wkZ 19 20 (wcA s_4))) (setF (setF (stA r) 2 SB.gone) 3 SB.gone) (setF (setF (stD r) 2 SB.gone) 3 SB.gone) (evB s.2 s.3 s.5) (vdB mv cv zv) [wa0,wd0,wa0,wd0])else endN QZ [] (fun (x:SV) (M:List SB)=>shAt M 0) (ShS.mk z r mh ch nh zh mv cv nv zv,l) (SV.t []) (shI (shD z.4 (z.5+(1:Int)) 15 s.8 s.3 s.4 16 s.1 cv nv) (putF (zF) 1 (Qs l z.2 0)) (Sto.crash (Sh.s z) l) (setF (stX (Sh.w z) r) 2 (wkZ 17 18 (wcA s_3))) (setF (stA r) 2 SB.gone) (setF (stD r) 2 SB.gone) (evB s.2 s.3 s.5) (vdB mv cv zv) [wa0,wd0])else (iR (3:Int) (4:Int))/\bif (Sh.w z 3).2 != (0:Int)then ∃(s_3:Qb),[aP 6 0,SA.a [sI (Sh.w z 3).3,sI (Sh.w z 3).4,sI (Sh.w z 3).5],aI (Sh.w z 3).6,aB true]=[aP 6 0,SA.a [sI s_3.2,sI s_3.3,sI s_3.4],aI s_3.5,aB true]/\[wkR 13 14 (Sh.w z 3) (r 3),waR (r 3),wdR (r 3)]=[wkC 13 14 (WkS.w (Qb.s s_3)) (Qb.s s_3).3 (Qb.s s_3).4 (Qb.s s_3).7 (Qb.s s_3).8,wkA (Qb.s s_3).2 (Qb.s s_3).3 (Qb.s s_3).5,wkD (Qb.s s_3).6 (Qb.s s_3).7 (Qb.s s_3).9]/\True/\∀(x:Unit),True->dP Tryz.f21 14 17 [⟨9,[],[6,13,14,17,18],[17,18],false⟩,xR 8 6,xF 7 6,xF 6 6,xF 5 6,xR 4 6,xF 3 6,xF 2 6,xF 1 6,xF 0 6]/\endN QZ [] (fun (x:SV) (M:List SB)=>shAt M 0) (ShS.mk z r mh ch nh zh mv cv nv zv,l) (SV.t []) (shI (shD z.4 (z.5+(1:Int)) 15 s.8 s.3 s.4 16 s.1 cv nv) (putF (zF) 1 (Qs l z.2 0)) (Sto.crash (Sh.s z) l) (setF (stX (Sh.w z) r) 3 (wkZ 17 18 (wcA s_3))) (setF (stA r) 3 SB.gone) (setF (stD r) 3 SB.gone) (evB s.2 s.3 s.5) (vdB mv cv zv) [wa0,wd0])else endN QZ [] (fun (x:SV) (M:List SB)=>shAt M 0) (ShS.mk z r mh ch nh zh mv cv nv zv,l) (SV.t []) (shI (shD z.4 (z.5+(1:Int)) 15 s.8 s.3 s.4 16 s.1 cv nv) (putF (zF) 1 (Qs l z.2 0)) (Sto.crash (Sh.s z) l) (stX (Sh.w z) r) (stA r) (stD r) (evB s.2 s.3 s.5) (vdB mv cv zv) [])else i04/\bif (Sh.w z 0).2 != (0:Int)then ∃(s_3:Qb),[aP 3 0,SA.a [sI (Sh.w z 0).3,sI (Sh.w z 0).4,sI (Sh.w z 0).5],aI (Sh.w z 0).6,aB true]=[aP 3 0,SA.a [sI s_3.2,sI s_3.3,sI s_3.4],aI s_3.5,aB true]/\[wkR 7 8 (Sh.w z 0) (r 0),waR (r 0),wdR (r 0)]=[wkC 7 8 (WkS.w (Qb.s s_3)) (Qb.s s_3).3 (Qb.s s_3).4 (Qb.s s_3).7 (Qb.s s_3).8,wkA (Qb.s s_3).2 (Qb.s s_3).3 (Qb.s s_3).5,wkD (Qb.s s_3).6 (Qb.s s_3).7 (Qb.s s_3).9]/\True/\∀(x:Unit),True->dP Tryz.f21 14 17 [⟨9,[],[3,7,8,17,18],[17,18],false⟩,xR 8 3,xF 7 3,xF 6 3,xF 5 3,xR 4 3,xF 3 3,xF 2 3,xF 1 3,xF 0 3]/\(iR (1:Int) (4:Int))/\bif (Sh.w z 1).2 != (0:Int)then ∃(s_4:Qb),[aP 4 0,SA.a [sI (Sh.w z 1).3,sI (Sh.w z 1).4,sI (Sh.w z 1).5],aI (Sh.w z 1).6,aB true]=[aP 4 0,SA.a [sI s_4.2,sI s_4.3,sI s_4.4],aI s_4.5,aB true]/\[wkR 9 10 (Sh.w z 1) (r 1),waR (r 1),wdR (r 1)]=[wkC 9 10 (WkS.w (Qb.s s_4)) (Qb.s s_4).3 (Qb.s s_4).4 (Qb.s s_4).7 (Qb.s s_4).8,wkA (Qb.s s_4).2 (Qb.s s_4).3 (Qb.s s_4).5,wkD (Qb.s s_4).6 (Qb.s s_4).7 (Qb.s s_4).9]/\True/\∀(x:Unit),True->dP Tryz.f21 14 19 [⟨9,[],[4,9,10,19,20],[19,20],false⟩,xR 8 4,xF 7 4,xF 6 4,xF 5 4,xR 4 4,xF 3 4,xF 2 4,xF 1 4,xF 0 4]/\(iR (2:Int) (4:Int))/\bif (Sh.w z 2).2 != (0:Int)then ∃(s_5:Qb),[aP 5 0,SA.a [sI (Sh.w z 2).3,sI (Sh.w z 2).4,sI (Sh.w z 2).5],aI (Sh.w z 2).6,aB true]=[aP 5 0,SA.a [sI s_5.2,sI s_5.3,sI s_5.4],aI s_5.5,aB true]/\[wkR 11 12 (Sh.w z 2) (r 2),waR (r 2),wdR (r 2)]=[wkC 11 12 (WkS.w (Qb.s s_5)) (Qb.s s_5).3 (Qb.s s_5).4 (Qb.s s_5).7 (Qb.s s_5).8,wkA (Qb.s s_5).2 (Qb.s s_5).3 (Qb.s s_5).5,wkD (Qb.s s_5).6 (Qb.s s_5).7 (Qb.s s_5).9]/\True/\∀(x:Unit),True->dP Tryz.f21 14 21 [⟨9,[],[5,11,12,21,22],[21,22],false⟩,xR 8 5,xF 7 5,xF 6 5,xF 5 5,xR 4 5,xF 3 5,xF 2 5,xF 1 5,xF 0 5]/\(iR (3:Int) (4:Int))/\bif (Sh.w z 3).2 != (0:Int)then ∃(s_6:Qb),[aP 6 0,SA.a [sI (Sh.w z 3).3,sI (Sh.w z 3).4,sI (Sh.w z 3).5],aI (Sh.w z 3).6,aB true]=[aP 6 0,SA.a [sI s_6.2,sI s_6.3,sI s_6.4],aI s_6.5,aB true]/\[wkR 13 14 (Sh.w z 3) (r 3),waR (r 3),wdR (r 3)]=[wkC 13 14 (WkS.w (Qb.s s_6)) (Qb.s s_6).3 (Qb.s s_6).4 (Qb.s s_6).7 (Qb.s s_6).8,wkA (Qb.s s_6).2 (Qb.s s_6).3 (Qb.s s_6).5,wkD (Qb.s s_6).6 (Qb.s s_6).7 (Qb.s s_6).9]/\True/\∀(x:Unit),True->dP Tryz.f21 14 23 [⟨9,[],[6,13,14,23,24],[23,24],false⟩,xR 8 6,xF 7 6,xF 6 6,xF 5 6,xR 4 6,xF 3 6,xF 2 6,xF 1 6,xF 0 6]/\endN QZ [] (fun (x:SV) (M:List SB)=>shAt M 0) (ShS.mk z r mh ch nh zh mv cv nv zv,l) (SV.t []) (shI (shD z.4 (z.5+(1:Int)) 15 s.8 s.3 s.4 16 s.1 cv nv) (putF (zF) 1 (Qs l z.2 0)) (Sto.crash (Sh.s z) l) (setF (setF (setF (setF (stX (Sh.w z) r) 0 (wkZ 17 18 (wcA s_3))) 1 (wkZ 19 20 (wcA s_4))) 2 (wkZ 21 22 (wcA s_5))) 3 (wkZ 23 24 (wcA s_6))) (setF (setF (setF (setF (stA r) 0 SB.gone) 1 SB.gone) 2 SB.gone) 3 SB.gone) (setF (setF (setF (setF (stD r) 0 SB.gone) 1 SB.gone) 2 SB.gone) 3 SB.gone) (evB s.2 s.3 s.5) (vdB mv cv zv) [wa0,wd0,wa0,wd0,wa0,wd0,wa0,wd0])else endN QZ [] (fun (x:SV) (M:List SB)=>shAt M 0) (ShS.mk z r mh ch nh zh mv cv nv zv,l) (SV.t []) (shI (shD z.4 (z.5+(1:Int)) 15 s.8 s.3 s.4 16 s.1 cv nv) (putF (zF) 1 (Qs l z.2 0)) (Sto.crash (Sh.s z) l) (setF (setF (setF (stX (Sh.w z) r) 0 (wkZ 17 18 (wcA s_3))) 1 (wkZ 19 20 (wcA s_4))) 2 (wkZ 21 22 (wcA s_5))) (setF (setF (setF (stA r) 0 SB.gone) 1 SB.gone) 2 SB.gone) (setF (setF (setF (stD r) 0 SB.gone) 1 SB.gone) 2 SB.gone) (evB s.2 s.3 s.5) (vdB mv cv zv) [wa0,wd0,wa0,wd0,wa0,wd0])else (iR (3:Int) (4:Int))/\bif (Sh.w z 3).2 != (0:Int)then ∃(s_5:Qb),[aP 6 0,SA.a [sI (Sh.w z 3).3,sI (Sh.w z 3).4,sI (Sh.w z 3).5],aI (Sh.w z 3).6,aB true]=[aP 6 0,SA.a [sI s_5.2,sI s_5.3,sI s_5.4],aI s_5.5,aB true]/\[wkR 13 14 (Sh.w z 3) (r 3),waR (r 3),wdR (r 3)]=[wkC 13 14 (WkS.w (Qb.s s_5)) (Qb.s s_5).3 (Qb.s s_5).4 (Qb.s s_5).7 (Qb.s s_5).8,wkA (Qb.s s_5).2 (Qb.s s_5).3 (Qb.s s_5).5,wkD (Qb.s s_5).6 (Qb.s s_5).7 (Qb.s s_5).9]/\True/\∀(x:Unit),True->dP Tryz.f21 14 21 [⟨9,[],[6,13,14,21,22],[21,22],false⟩,xR 8 6,xF 7 6,xF 6 6,xF 5 6,xR 4 6,xF 3 6,xF 2 6,xF 1 6,xF 0 6]/\endN QZ [] (fun (x:SV) (M:List SB)=>shAt M 0) (ShS.mk z r mh ch nh zh mv cv nv zv,l) (SV.t []) (shI (shD z.4 (z.5+(1:Int)) 15 s.8 s.3 s.4 16 s.1 cv nv) (putF (zF) 1 (Qs l z.2 0)) (Sto.crash (Sh.s z) l) (setF (setF (setF (stX (Sh.w z) r) 0 (wkZ 17 18 (wcA s_3))) 1 (wkZ 19 20 (wcA s_4))) 3 (wkZ 21 22 (wcA s_5))) (setF (setF (setF (stA r) 0 SB.gone) 1 SB.gone) 3 SB.gone) (setF (setF (setF (stD r) 0 SB.gone) 1 SB.gone) 3 SB.gone) (evB s.2 s.3 s.5) (vdB mv cv zv) [wa0,wd0,wa0,wd0,wa0,wd0])else endN QZ [] (fun (x:SV) (M:List SB)=>shAt M 0) (ShS.mk z r mh ch nh zh mv cv nv zv,l) (SV.t []) (shI (shD z.4 (z.5+(1:Int)) 15 s.8 s.3 s.4 16 s.1 cv nv) (putF (zF) 1 (Qs l z.2 0)) (Sto.crash (Sh.s z) l) (setF (setF (stX (Sh.w z) r) 0 (wkZ 17 18 (wcA s_3))) 1 (wkZ 19 20 (wcA s_4))) (setF (setF (stA r) 0 SB.gone) 1 SB.gone) (setF (setF (stD r) 0 SB.gone) 1 SB.gone) (evB s.2 s.3 s.5) (vdB mv cv zv) [wa0,wd0,wa0,wd0])else (iR (2:Int) (4:Int))/\bif (Sh.w z 2).2 != (0:Int)then ∃(s_4:Qb),[aP 5 0,SA.a [sI (Sh.w z 2).3,sI (Sh.w z 2).4,sI (Sh.w z 2).5],aI (Sh.w z 2).6,aB true]=[aP 5 0,SA.a [sI s_4.2,sI s_4.3,sI s_4.4],aI s_4.5,aB true]/\[wkR 11 12 (Sh.w z 2) (r 2),waR (r 2),wdR (r 2)]=[wkC 11 12 (WkS.w (Qb.s s_4)) (Qb.s s_4).3 (Qb.s s_4).4 (Qb.s s_4).7 (Qb.s s_4).8,wkA (Qb.s s_4).2 (Qb.s s_4).3 (Qb.s s_4).5,wkD (Qb.s s_4).6 (Qb.s s_4).7 (Qb.s s_4).9]/\True/\∀(x:Unit),True->dP Tryz.f21 14 19 [⟨9,[],[5,11,12,19,20],[19,20],false⟩,xR 8 5,xF 7 5,xF 6 5,xF 5 5,xR 4 5,xF 3 5,xF 2 5,xF 1 5,xF 0 5]/\(iR (3:Int) (4:Int))/\bif (Sh.w z 3).2 != (0:Int)then ∃(s_5:Qb),[aP 6 0,SA.a [sI (Sh.w z 3).3,sI (Sh.w z 3).4,sI (Sh.w z 3).5],aI (Sh.w z 3).6,aB true]=[aP 6 0,SA.a [sI s_5.2,sI s_5.3,sI s_5.4],aI s_5.5,aB true]/\[wkR 13 14 (Sh.w z 3) (r 3),waR (r 3),wdR (r 3)]=[wkC 13 14 (WkS.w (Qb.s s_5)) (Qb.s s_5).3 (Qb.s s_5).4 (Qb.s s_5).7 (Qb.s s_5).8,wkA (Qb.s s_5).2 (Qb.s s_5).3 (Qb.s s_5).5,wkD (Qb.s s_5).6 (Qb.s s_5).7 (Qb.s s_5).9]/\True/\∀(x:Unit),True->dP Tryz.f21 14 21 [⟨9,[],[6,13,14,21,22],[21,22],false⟩,xR 8 6,xF 7 6,xF 6 6,xF 5 6,xR 4 6,xF 3 6,xF 2 6,xF 1 6,xF 0 6]/\endN QZ [] (fun (x:SV) (M:List SB)=>shAt M 0) (ShS.mk z r mh ch nh zh mv cv nv zv,l) (SV.t []) (shI (shD z.4 (z.5+(1:Int)) 15 s.8 s.3 s.4 16 s.1 cv nv) (putF (zF) 1 (Qs l z.2 0)) (Sto.crash (Sh.s z) l) (setF (setF (setF (stX (Sh.w z) r) 0 (wkZ 17 18 (wcA s_3))) 2 (wkZ 19 20 (wcA s_4))) 3 (wkZ 21 22 (wcA s_5))) (setF (setF (setF (stA r) 0 SB.gone) 2 SB.gone) 3 SB.gone) (setF (setF (setF (stD r) 0 SB.gone) 2 SB.gone) 3 SB.gone) (evB s.2 s.3 s.5) (vdB mv cv zv) [wa0,wd0,wa0,wd0,wa0,wd0])else endN QZ [] (fun (x:SV) (M:List SB)=>shAt M 0) (ShS.mk z r mh ch nh zh mv cv nv zv,l) (SV.t []) (shI (shD z.4 (z.5+(1:Int)) 15 s.8 s.3 s.4 16 s.1 cv nv) (putF (zF) 1 (Qs l z.2 0)) (Sto.crash (Sh.s z) l) (setF (setF (stX (Sh.w z) r) 0 (wkZ 17 18 (wcA s_3))) 2 (wkZ 19 20 (wcA s_4))) (setF (setF (stA r) 0 SB.gone) 2 SB.gone) (setF (setF (stD r) 0 SB.gone) 2 SB.gone) (evB s.2 s.3 s.5) (vdB mv cv zv) [wa0,wd0,wa0,wd0])else (iR (3:Int) (4:Int))/\bif (Sh.w z 3).2 != (0:Int)then ∃(s_4:Qb),[aP 6 0,SA.a [sI (Sh.w z 3).3,sI (Sh.w z 3).4,sI (Sh.w z 3).5],aI (Sh.w z 3).6,aB true]=[aP 6 0,SA.a [sI s_4.2,sI s_4.3,sI s_4.4],aI s_4.5,aB true]/\[wkR 13 14 (Sh.w z 3) (r 3),waR (r 3),wdR (r 3)]=[wkC 13 14 (WkS.w (Qb.s s_4)) (Qb.s s_4).3 (Qb.s s_4).4 (Qb.s s_4).7 (Qb.s s_4).8,wkA (Qb.s s_4).2 (Qb.s s_4).3 (Qb.s s_4).5,wkD (Qb.s s_4).6 (Qb.s s_4).7 (Qb.s s_4).9]/\True/\∀(x:Unit),True->dP Tryz.f21 14 19 [⟨9,[],[6,13,14,19,20],[19,20],false⟩,xR 8 6,xF 7 6,xF 6 6,xF 5 6,xR 4 6,xF 3 6,xF 2 6,xF 1 6,xF 0 6]/\endN QZ [] (fun (x:SV) (M:List SB)=>shAt M 0) (ShS.mk z r mh ch nh zh mv cv nv zv,l) (SV.t []) (shI (shD z.4 (z.5+(1:Int)) 15 s.8 s.3 s.4 16 s.1 cv nv) (putF (zF) 1 (Qs l z.2 0)) (Sto.crash (Sh.s z) l) (setF (setF (stX (Sh.w z) r) 0 (wkZ 17 18 (wcA s_3))) 3 (wkZ 19 20 (wcA s_4))) (setF (setF (stA r) 0 SB.gone) 3 SB.gone) (setF (setF (stD r) 0 SB.gone) 3 SB.gone) (evB s.2 s.3 s.5) (vdB mv cv zv) [wa0,wd0,wa0,wd0])else endN QZ [] (fun (x:SV) (M:List SB)=>shAt M 0) (ShS.mk z r mh ch nh zh mv cv nv zv,l) (SV.t []) (shI (shD z.4 (z.5+(1:Int)) 15 s.8 s.3 s.4 16 s.1 cv nv) (putF (zF) 1 (Qs l z.2 0)) (Sto.crash (Sh.s z) l) (setF (stX (Sh.w z) r) 0 (wkZ 17 18 (wcA s_3))) (setF (stA r) 0 SB.gone) (setF (stD r) 0 SB.gone) (evB s.2 s.3 s.5) (vdB mv cv zv) [wa0,wd0])else (iR (1:Int) (4:Int))/\bif (Sh.w z 1).2 != (0:Int)then ∃(s_3:Qb),[aP 4 0,SA.a [sI (Sh.w z 1).3,sI (Sh.w z 1).4,sI (Sh.w z 1).5],aI (Sh.w z 1).6,aB true]=[aP 4 0,SA.a [sI s_3.2,sI s_3.3,sI s_3.4],aI s_3.5,aB true]/\[wkR 9 10 (Sh.w z 1) (r 1),waR (r 1),wdR (r 1)]=[wkC 9 10 (WkS.w (Qb.s s_3)) (Qb.s s_3).3 (Qb.s s_3).4 (Qb.s s_3).7 (Qb.s s_3).8,wkA (Qb.s s_3).2 (Qb.s s_3).3 (Qb.s s_3).5,wkD (Qb.s s_3).6 (Qb.s s_3).7 (Qb.s s_3).9]/\True/\∀(x:Unit),True->dP Tryz.f21 14 17 [⟨9,[],[4,9,10,17,18],[17,18],false⟩,xR 8 4,xF 7 4,xF 6 4,xF 5 4,xR 4 4,xF 3 4,xF 2 4,xF 1 4,xF 0 4]/\(iR (2:Int) (4:Int))/\bif (Sh.w z 2).2 != (0:Int)then ∃(s_4:Qb),[aP 5 0,SA.a [sI (Sh.w z 2).3,sI (Sh.w z 2).4,sI (Sh.w z 2).5],aI (Sh.w z 2).6,aB true]=[aP 5 0,SA.a [sI s_4.2,sI s_4.3,sI s_4.4],aI s_4.5,aB true]/\[wkR 11 12 (Sh.w z 2) (r 2),waR (r 2),wdR (r 2)]=[wkC 11 12 (WkS.w (Qb.s s_4)) (Qb.s s_4).3 (Qb.s s_4).4 (Qb.s s_4).7 (Qb.s s_4).8,wkA (Qb.s s_4).2 (Qb.s s_4).3 (Qb.s s_4).5,wkD (Qb.s s_4).6 (Qb.s s_4).7 (Qb.s s_4).9]/\True/\∀(x:Unit),True->dP Tryz.f21 14 19 [⟨9,[],[5,11,12,19,20],[19,20],false⟩,xR 8 5,xF 7 5,xF 6 5,xF 5 5,xR 4 5,xF 3 5,xF 2 5,xF 1 5,xF 0 5]/\(iR (3:Int) (4:Int))/\bif (Sh.w z 3).2 != (0:Int)then ∃(s_5:Qb),[aP 6 0,SA.a [sI (Sh.w z 3).3,sI (Sh.w z 3).4,sI (Sh.w z 3).5],aI (Sh.w z 3).6,aB true]=[aP 6 0,SA.a [sI s_5.2,sI s_5.3,sI s_5.4],aI s_5.5,aB true]/\[wkR 13 14 (Sh.w z 3) (r 3),waR (r 3),wdR (r 3)]=[wkC 13 14 (WkS.w (Qb.s s_5)) (Qb.s s_5).3 (Qb.s s_5).4 (Qb.s s_5).7 (Qb.s s_5).8,wkA (Qb.s s_5).2 (Qb.s s_5).3 (Qb.s s_5).5,wkD (Qb.s s_5).6 (Qb.s s_5).7 (Qb.s s_5).9]/\True/\∀(x:Unit),True->dP Tryz.f21 14 21 [⟨9,[],[6,13,14,21,22],[21,22],false⟩,xR 8 6,xF 7 6,xF 6 6,xF 5 6,xR 4 6,xF 3 6,xF 2 6,xF 1 6,xF 0 6]/\endN QZ [] (fun (x:SV) (M:List SB)=>shAt M 0) (ShS.mk z r mh ch nh zh mv cv nv zv,l) (SV.t []) (shI (shD z.4 (z.5+(1:Int)) 15 s.8 s.3 s.4 16 s.1 cv nv) (putF (zF) 1 (Qs l z.2 0)) (Sto.crash (Sh.s z) l) (setF (setF (setF (stX (Sh.w z) r) 1 (wkZ 17 18 (wcA s_3))) 2 (wkZ 19 20 (wcA s_4))) 3 (wkZ 21 22 (wcA s_5))) (setF (setF (setF (stA r) 1 SB.gone) 2 SB.gone) 3 SB.gone) (setF (setF (setF (stD r) 1 SB.gone) 2 SB.gone) 3 SB.gone) (evB s.2 s.3 s.5) (vdB mv cv zv) [wa0,wd0,wa0,wd0,wa0,wd0])else endN QZ [] (fun (x:SV) (M:List SB)=>shAt M 0) (ShS.mk z r mh ch nh zh mv cv nv zv,l) (SV.t []) (shI (shD z.4 (z.5+(1:Int)) 15 s.8 s.3 s.4 16 s.1 cv nv) (putF (zF) 1 (Qs l z.2 0)) (Sto.crash (Sh.s z) l) (setF (setF (stX (Sh.w z) r) 1 (wkZ 17 18 (wcA s_3))) 2 (wkZ 19 20 (wcA s_4))) (setF (setF (stA r) 1 SB.gone) 2 SB.gone) (setF (setF (stD r) 1 SB.gone) 2 SB.gone) (evB s.2 s.3 s.5) (vdB mv cv zv) [wa0,wd0,wa0,wd0])else (iR (3:Int) (4:Int))/\bif (Sh.w z 3).2 != (0:Int)then ∃(s_4:Qb),[aP 6 0,SA.a [sI (Sh.w z 3).3,sI (Sh.w z 3).4,sI (Sh.w z 3).5],aI (Sh.w z 3).6,aB true]=[aP 6 0,SA.a [sI s_4.2,sI s_4.3,sI s_4.4],aI s_4.5,aB true]/\[wkR 13 14 (Sh.w z 3) (r 3),waR (r 3),wdR (r 3)]=[wkC 13 14 (WkS.w (Qb.s s_4)) (Qb.s s_4).3 (Qb.s s_4).4 (Qb.s s_4).7 (Qb.s s_4).8,wkA (Qb.s s_4).2 (Qb.s s_4).3 (Qb.s s_4).5,wkD (Qb.s s_4).6 (Qb.s s_4).7 (Qb.s s_4).9]/\True/\∀(x:Unit),True->dP Tryz.f21 14 19 [⟨9,[],[6,13,14,19,20],[19,20],false⟩,xR 8 6,xF 7 6,xF 6 6,xF 5 6,xR 4 6,xF 3 6,xF 2 6,xF 1 6,xF 0 6]/\endN QZ [] (fun (x:SV) (M:List SB)=>shAt M 0) (ShS.mk z r mh ch nh zh mv cv nv zv,l) (SV.t []) (shI (shD z.4 (z.5+(1:Int)) 15 s.8 s.3 s.4 16 s.1 cv nv) (putF (zF) 1 (Qs l z.2 0)) (Sto.crash (Sh.s z) l) (setF (setF (stX (Sh.w z) r) 1 (wkZ 17 18 (wcA s_3))) 3 (wkZ 19 20 (wcA s_4))) (setF (setF (stA r) 1 SB.gone) 3 SB.gone) (setF (setF (stD r) 1 SB.gone) 3 SB.gone) (evB s.2 s.3 s.5) (vdB mv cv zv) [wa0,wd0,wa0,wd0])else endN QZ [] (fun (x:SV) (M:List SB)=>shAt M 0) (ShS.mk z r mh ch nh zh mv cv nv zv,l) (SV.t []) (shI (shD z.4 (z.5+(1:Int)) 15 s.8 s.3 s.4 16 s.1 cv nv) (putF (zF) 1 (Qs l z.2 0)) (Sto.crash (Sh.s z) l) (setF (stX (Sh.w z) r) 1 (wkZ 17 18 (wcA s_3))) (setF (stA r) 1 SB.gone) (setF (stD r) 1 SB.gone) (evB s.2 s.3 s.5) (vdB mv cv zv) [wa0,wd0])else (iR (2:Int) (4:Int))/\bif (Sh.w z 2).2 != (0:Int)then ∃(s_3:Qb),[aP 5 0,SA.a [sI (Sh.w z 2).3,sI (Sh.w z 2).4,sI (Sh.w z 2).5],aI (Sh.w z 2).6,aB true]=[aP 5 0,SA.a [sI s_3.2,sI s_3.3,sI s_3.4],aI s_3.5,aB true]/\[wkR 11 12 (Sh.w z 2) (r 2),waR (r 2),wdR (r 2)]=[wkC 11 12 (WkS.w (Qb.s s_3)) (Qb.s s_3).3 (Qb.s s_3).4 (Qb.s s_3).7 (Qb.s s_3).8,wkA (Qb.s s_3).2 (Qb.s s_3).3 (Qb.s s_3).5,wkD (Qb.s s_3).6 (Qb.s s_3).7 (Qb.s s_3).9]/\True/\∀(x:Unit),True->dP Tryz.f21 14 17 [⟨9,[],[5,11,12,17,18],[17,18],false⟩,xR 8 5,xF 7 5,xF 6 5,xF 5 5,xR 4 5,xF 3 5,xF 2 5,xF 1 5,xF 0 5]/\(iR (3:Int) (4:Int))/\bif (Sh.w z 3).2 != (0:Int)then ∃(s_4:Qb),[aP 6 0,SA.a [sI (Sh.w z 3).3,sI (Sh.w z 3).4,sI (Sh.w z 3).5],aI (Sh.w z 3).6,aB true]=[aP 6 0,SA.a [sI s_4.2,sI s_4.3,sI s_4.4],aI s_4.5,aB true]/\[wkR 13 14 (Sh.w z 3) (r 3),waR (r 3),wdR (r 3)]=[wkC 13 14 (WkS.w (Qb.s s_4)) (Qb.s s_4).3 (Qb.s s_4).4 (Qb.s s_4).7 (Qb.s s_4).8,wkA (Qb.s s_4).2 (Qb.s s_4).3 (Qb.s s_4).5,wkD (Qb.s s_4).6 (Qb.s s_4).7 (Qb.s s_4).9]/\True/\∀(x:Unit),True->dP Tryz.f21 14 19 [⟨9,[],[6,13,14,19,20],[19,20],false⟩,xR 8 6,xF 7 6,xF 6 6,xF 5 6,xR 4 6,xF 3 6,xF 2 6,xF 1 6,xF 0 6]/\endN QZ [] (fun (x:SV) (M:List SB)=>shAt M 0) (ShS.mk z r mh ch nh zh mv cv nv zv,l) (SV.t []) (shI (shD z.4 (z.5+(1:Int)) 15 s.8 s.3 s.4 16 s.1 cv nv) (putF (zF) 1 (Qs l z.2 0)) (Sto.crash (Sh.s z) l) (setF (setF (stX (Sh.w z) r) 2 (wkZ 17 18 (wcA s_3))) 3 (wkZ 19 20 (wcA s_4))) (setF (setF (stA r) 2 SB.gone) 3 SB.gone) (setF (setF (stD r) 2 SB.gone) 3 SB.gone) (evB s.2 s.3 s.5) (vdB mv cv zv) [wa0,wd0,wa0,wd0])else endN QZ [] (fun (x:SV) (M:List SB)=>shAt M 0) (ShS.mk z r mh ch nh zh mv cv nv zv,l) (SV.t []) (shI (shD z.4 (z.5+(1:Int)) 15 s.8 s.3 s.4 16 s.1 cv nv) (putF (zF) 1 (Qs l z.2 0)) (Sto.crash (Sh.s z) l) (setF (stX (Sh.w z) r) 2 (wkZ 17 18 (wcA s_3))) (setF (stA r) 2 SB.gone) (setF (stD r) 2 SB.gone) (evB s.2 s.3 s.5) (vdB mv cv zv) [wa0,wd0])else (iR (3:Int) (4:Int))/\bif (Sh.w z 3).2 != (0:Int)then ∃(s_3:Qb),[aP 6 0,SA.a [sI (Sh.w z 3).3,sI (Sh.w z 3).4,sI (Sh.w z 3).5],aI (Sh.w z 3).6,aB true]=[aP 6 0,SA.a [sI s_3.2,sI s_3.3,sI s_3.4],aI s_3.5,aB true]/\[wkR 13 14 (Sh.w z 3) (r 3),waR (r 3),wdR (r 3)]=[wkC 13 14 (WkS.w (Qb.s s_3)) (Qb.s s_3).3 (Qb.s s_3).4 (Qb.s s_3).7 (Qb.s s_3).8,wkA (Qb.s s_3).2 (Qb.s s_3).3 (Qb.s s_3).5,wkD (Qb.s s_3).6 (Qb.s s_3).7 (Qb.s s_3).9]/\True/\∀(x:Unit),True->dP Tryz.f21 14 17 [⟨9,[],[6,13,14,17,18],[17,18],false⟩,xR 8 6,xF 7 6,xF 6 6,xF 5 6,xR 4 6,xF 3 6,xF 2 6,xF 1 6,xF 0 6]/\endN QZ [] (fun (x:SV) (M:List SB)=>shAt M 0) (ShS.mk z r mh ch nh zh mv cv nv zv,l) (SV.t []) (shI (shD z.4 (z.5+(1:Int)) 15 s.8 s.3 s.4 16 s.1 cv nv) (putF (zF) 1 (Qs l z.2 0)) (Sto.crash (Sh.s z) l) (setF (stX (Sh.w z) r) 3 (wkZ 17 18 (wcA s_3))) (setF (stA r) 3 SB.gone) (setF (stD r) 3 SB.gone) (evB s.2 s.3 s.5) (vdB mv cv zv) [wa0,wd0])else endN QZ [] (fun (x:SV) (M:List SB)=>shAt M 0) (ShS.mk z r mh ch nh zh mv cv nv zv,l) (SV.t []) (shI (shD z.4 (z.5+(1:Int)) 15 s.8 s.3 s.4 16 s.1 cv nv) (putF (zF) 1 (Qs l z.2 0)) (Sto.crash (Sh.s z) l) (stX (Sh.w z) r) (stA r) (stD r) (evB s.2 s.3 s.5) (vdB mv cv zv) [])) (by kernel_rfl) ?_
 have h0:(⟨z,r,mh,ch,nh,zh,mv,cv,nv,zv⟩:ShS).good:=h0
 have h1:Qk6 z l:=h1
 have hst0:=h1.st0
 have hst1:=h1.st1
 have hhl:=h1.h
 have hdl:=h1.d
 have hv0:=h1.v0
 have hv1:=h1.v1
 have q1:=h0.h1
 have q2:=h0.h2
 have p1:=h0.v1
 have p2:=h0.v2
 dsimp only at q1 q2 p1 p2
 have es:IntKind.wrap .i64 (z.steps+1)=z.steps+1:=Qw (by omega) (by omega)
 have ev:IntKind.wrap .i64 ((z.s.crash l).now (Int.toNat 0))=Qs l z.s 0:=Qw (by show -9223372036854775808<=Qs l z.s 0;omega) (by show Qs l z.s 0<=9223372036854775807;omega)
 have eu:IntKind.wrap .u64 (Qs l z.s 0)=Qs l z.s 0:=Qal (by omega) (by omega)
 rw[es]
 refine⟨Qe (by kernel_rfl),⟨⟨q1,rfl⟩,⟨Nat.le_refl _,rfl⟩,by omega⟩,fun c hc=>⟨Qe (by kernel_rfl),⟨z.s,l⟩,rfl,rfl,h1.lu,fun _ _=>⟨z.m,rfl,rfl,trivial,fun _ _=>⟨⟨z.s.crash l,0⟩,rfl,rfl,⟨(by decide:(0:Int)<=0),(by decide:(0:Int)<72)⟩,fun _ _=>?_⟩⟩⟩⟩
 dsimp only
 rw[ev,eu]
 refine⟨⟨fun _=>0,1,Qs l z.s 0⟩,rfl,rfl,⟨(by decide:(0:Int)<=1),(by decide:(1:Int)<16)⟩,fun _ _=>⟨Nat.le_trans p1 p2,⟨⟨z.deeds.length,z.hist.length+1,c,nh,_,Nat.le_refl _,by rw[List.take_length],z.hist.length+1,rfl,Nat.le_refl _,hc,?_⟩,⟨rfl,rfl,svI (Qw (by omega) (by omega)),trivial⟩,rfl⟩,?_⟩⟩
 · refine h0.h.snoc (fun j hj k _=>catT hj) (fun j hj=>?_)
   refine catF.trans ?_
   rw[Nat.sub_self]
   match j,hj with
   |0,_=>rfl
   |1,_=>rfl
   |2,_=>rfl
   |3,_=>rfl
   |4,_=>rfl
   |5,_=>rfl
   |6,_=>rfl
   |7,_=>rfl
   |8,_=>rfl
 rintro⟨n,mh',ch',nh',zh',hn,hu,lh,hl,g1,g2,g3⟩
 dsimp only at hn hu hl g1 g2 g3 ⊢
 refine Qo (fun hge=>?_) (fun hlt=>?_)
 · have en:((n:Int)-1).toNat=n-1:=by omega
   have hz0:zv (0+((n:Int)-1).toNat) 0=(z.deeds.getD (n-1) Vd.nil).ver:=by rw[Nat.zero_add,en];exact h0.v (n-1) (by show n-1<z.deeds.length;omega) 0 (by decide)
   have ht:=Qlf (l:=z.deeds) (n:=n) (by omega) hn
   refine⟨⟨by omega,by omega,by omega⟩,by omega,Qo (fun hgt=>?_) (fun hle=>?_)⟩
   · rw[hz0]at hgt
     refine⟨⟨by omega,by omega⟩,⟨((n:Int)-1).toNat,mh',ch',nh',zh',by omega,?_,lh,hl,g1,g2,g3⟩,⟨⟨rfl,rfl,svI (show IntKind.wrap .i64 ((n:Int)-1-1)=(((n:Int)-1).toNat:Int)-1 by rw[Qw (by omega) (by omega)];omega),trivial⟩,rfl⟩,by dsimp only;omega⟩
     rw[en,<- hu,ht,Qpo hgt]
   · rw[hz0]at hle
     have hz:z.deeds.take n=upTo (Qs l z.s 0) z.deeds:=by rw[<- hu,ht];exact (Qpn (by omega)).symm
     exact⟨⟨by decide,by decide⟩,Qy (fun k0=>⟨⟨wkS (z.w 0) (r 0),(z.w 0).k,(z.w 0).key,(z.w 0).x,(z.w 0).tog⟩,rfl,rfl,trivial,fun _ _=>⟨Qe (by kernel_rfl),⟨⟨by decide,by decide⟩,Qy (fun k1=>⟨⟨wkS (z.w 1) (r 1),(z.w 1).k,(z.w 1).key,(z.w 1).x,(z.w 1).tog⟩,rfl,rfl,trivial,fun _ _=>⟨Qe (by kernel_rfl),⟨⟨by decide,by decide⟩,Qy (fun k2=>⟨⟨wkS (z.w 2) (r 2),(z.w 2).k,(z.w 2).key,(z.w 2).x,(z.w 2).tog⟩,rfl,rfl,trivial,fun _ _=>⟨Qe (by kernel_rfl),⟨⟨by decide,by decide⟩,Qy (fun k3=>⟨⟨wkS (z.w 3) (r 3),(z.w 3).k,(z.w 3).key,(z.w 3).x,(z.w 3).tog⟩,rfl,rfl,trivial,fun _ _=>⟨Qe (by kernel_rfl),QC h0 hn hz hl g1 g2 g3 (a0:=true) (a1:=true) (a2:=true) (a3:=true) rfl rfl k0 k1 k2 k3⟩⟩) (fun k3=>QC h0 hn hz hl g1 g2 g3 (a0:=true) (a1:=true) (a2:=true) (a3:=false) rfl rfl k0 k1 k2 k3)⟩⟩⟩) (fun k2=>⟨⟨by decide,by decide⟩,Qy (fun k3=>⟨⟨wkS (z.w 3) (r 3),(z.w 3).k,(z.w 3).key,(z.w 3).x,(z.w 3).tog⟩,rfl,rfl,trivial,fun _ _=>⟨Qe (by kernel_rfl),QC h0 hn hz hl g1 g2 g3 (a0:=true) (a1:=true) (a2:=false) (a3:=true) rfl rfl k0 k1 k2 k3⟩⟩) (fun k3=>QC h0 hn hz hl g1 g2 g3 (a0:=true) (a1:=true) (a2:=false) (a3:=false) rfl rfl k0 k1 k2 k3)⟩)⟩⟩⟩) (fun k1=>⟨⟨by decide,by decide⟩,Qy (fun k2=>⟨⟨wkS (z.w 2) (r 2),(z.w 2).k,(z.w 2).key,(z.w 2).x,(z.w 2).tog⟩,rfl,rfl,trivial,fun _ _=>⟨Qe (by kernel_rfl),⟨⟨by decide,by decide⟩,Qy (fun k3=>⟨⟨wkS (z.w 3) (r 3),(z.w 3).k,(z.w 3).key,(z.w 3).x,(z.w 3).tog⟩,rfl,rfl,trivial,fun _ _=>⟨Qe (by kernel_rfl),QC h0 hn hz hl g1 g2 g3 (a0:=true) (a1:=false) (a2:=true) (a3:=true) rfl rfl k0 k1 k2 k3⟩⟩) (fun k3=>QC h0 hn hz hl g1 g2 g3 (a0:=true) (a1:=false) (a2:=true) (a3:=false) rfl rfl k0 k1 k2 k3)⟩⟩⟩) (fun k2=>⟨⟨by decide,by decide⟩,Qy (fun k3=>⟨⟨wkS (z.w 3) (r 3),(z.w 3).k,(z.w 3).key,(z.w 3).x,(z.w 3).tog⟩,rfl,rfl,trivial,fun _ _=>⟨Qe (by kernel_rfl),QC h0 hn hz hl g1 g2 g3 (a0:=true) (a1:=false) (a2:=false) (a3:=true) rfl rfl k0 k1 k2 k3⟩⟩) (fun k3=>QC h0 hn hz hl g1 g2 g3 (a0:=true) (a1:=false) (a2:=false) (a3:=false) rfl rfl k0 k1 k2 k3)⟩)⟩)⟩⟩⟩) (fun k0=>⟨⟨by decide,by decide⟩,Qy (fun k1=>⟨⟨wkS (z.w 1) (r 1),(z.w 1).k,(z.w 1).key,(z.w 1).x,(z.w 1).tog⟩,rfl,rfl,trivial,fun _ _=>⟨Qe (by kernel_rfl),⟨⟨by decide,by decide⟩,Qy (fun k2=>⟨⟨wkS (z.w 2) (r 2),(z.w 2).k,(z.w 2).key,(z.w 2).x,(z.w 2).tog⟩,rfl,rfl,trivial,fun _ _=>⟨Qe (by kernel_rfl),⟨⟨by decide,by decide⟩,Qy (fun k3=>⟨⟨wkS (z.w 3) (r 3),(z.w 3).k,(z.w 3).key,(z.w 3).x,(z.w 3).tog⟩,rfl,rfl,trivial,fun _ _=>⟨Qe (by kernel_rfl),QC h0 hn hz hl g1 g2 g3 (a0:=false) (a1:=true) (a2:=true) (a3:=true) rfl rfl k0 k1 k2 k3⟩⟩) (fun k3=>QC h0 hn hz hl g1 g2 g3 (a0:=false) (a1:=true) (a2:=true) (a3:=false) rfl rfl k0 k1 k2 k3)⟩⟩⟩) (fun k2=>⟨⟨by decide,by decide⟩,Qy (fun k3=>⟨⟨wkS (z.w 3) (r 3),(z.w 3).k,(z.w 3).key,(z.w 3).x,(z.w 3).tog⟩,rfl,rfl,trivial,fun _ _=>⟨Qe (by kernel_rfl),QC h0 hn hz hl g1 g2 g3 (a0:=false) (a1:=true) (a2:=false) (a3:=true) rfl rfl k0 k1 k2 k3⟩⟩) (fun k3=>QC h0 hn hz hl g1 g2 g3 (a0:=false) (a1:=true) (a2:=false) (a3:=false) rfl rfl k0 k1 k2 k3)⟩)⟩⟩⟩) (fun k1=>⟨⟨by decide,by decide⟩,Qy (fun k2=>⟨⟨wkS (z.w 2) (r 2),(z.w 2).k,(z.w 2).key,(z.w 2).x,(z.w 2).tog⟩,rfl,rfl,trivial,fun _ _=>⟨Qe (by kernel_rfl),⟨⟨by decide,by decide⟩,Qy (fun k3=>⟨⟨wkS (z.w 3) (r 3),(z.w 3).k,(z.w 3).key,(z.w 3).x,(z.w 3).tog⟩,rfl,rfl,trivial,fun _ _=>⟨Qe (by kernel_rfl),QC h0 hn hz hl g1 g2 g3 (a0:=false) (a1:=false) (a2:=true) (a3:=true) rfl rfl k0 k1 k2 k3⟩⟩) (fun k3=>QC h0 hn hz hl g1 g2 g3 (a0:=false) (a1:=false) (a2:=true) (a3:=false) rfl rfl k0 k1 k2 k3)⟩⟩⟩) (fun k2=>⟨⟨by decide,by decide⟩,Qy (fun k3=>⟨⟨wkS (z.w 3) (r 3),(z.w 3).k,(z.w 3).key,(z.w 3).x,(z.w 3).tog⟩,rfl,rfl,trivial,fun _ _=>⟨Qe (by kernel_rfl),QC h0 hn hz hl g1 g2 g3 (a0:=false) (a1:=false) (a2:=false) (a3:=true) rfl rfl k0 k1 k2 k3⟩⟩) (fun k3=>QC h0 hn hz hl g1 g2 g3 (a0:=false) (a1:=false) (a2:=false) (a3:=false) rfl rfl k0 k1 k2 k3)⟩)⟩)⟩)⟩
 · obtain rfl:n=0:=by omega
   have hz:z.deeds.take 0=upTo (Qs l z.s 0) z.deeds:=by rw[<- hu];rfl
   exact⟨⟨by decide,by decide⟩,Qy (fun k0=>⟨⟨wkS (z.w 0) (r 0),(z.w 0).k,(z.w 0).key,(z.w 0).x,(z.w 0).tog⟩,rfl,rfl,trivial,fun _ _=>⟨Qe (by kernel_rfl),⟨⟨by decide,by decide⟩,Qy (fun k1=>⟨⟨wkS (z.w 1) (r 1),(z.w 1).k,(z.w 1).key,(z.w 1).x,(z.w 1).tog⟩,rfl,rfl,trivial,fun _ _=>⟨Qe (by kernel_rfl),⟨⟨by decide,by decide⟩,Qy (fun k2=>⟨⟨wkS (z.w 2) (r 2),(z.w 2).k,(z.w 2).key,(z.w 2).x,(z.w 2).tog⟩,rfl,rfl,trivial,fun _ _=>⟨Qe (by kernel_rfl),⟨⟨by decide,by decide⟩,Qy (fun k3=>⟨⟨wkS (z.w 3) (r 3),(z.w 3).k,(z.w 3).key,(z.w 3).x,(z.w 3).tog⟩,rfl,rfl,trivial,fun _ _=>⟨Qe (by kernel_rfl),QC h0 hn hz hl g1 g2 g3 (a0:=true) (a1:=true) (a2:=true) (a3:=true) rfl rfl k0 k1 k2 k3⟩⟩) (fun k3=>QC h0 hn hz hl g1 g2 g3 (a0:=true) (a1:=true) (a2:=true) (a3:=false) rfl rfl k0 k1 k2 k3)⟩⟩⟩) (fun k2=>⟨⟨by decide,by decide⟩,Qy (fun k3=>⟨⟨wkS (z.w 3) (r 3),(z.w 3).k,(z.w 3).key,(z.w 3).x,(z.w 3).tog⟩,rfl,rfl,trivial,fun _ _=>⟨Qe (by kernel_rfl),QC h0 hn hz hl g1 g2 g3 (a0:=true) (a1:=true) (a2:=false) (a3:=true) rfl rfl k0 k1 k2 k3⟩⟩) (fun k3=>QC h0 hn hz hl g1 g2 g3 (a0:=true) (a1:=true) (a2:=false) (a3:=false) rfl rfl k0 k1 k2 k3)⟩)⟩⟩⟩) (fun k1=>⟨⟨by decide,by decide⟩,Qy (fun k2=>⟨⟨wkS (z.w 2) (r 2),(z.w 2).k,(z.w 2).key,(z.w 2).x,(z.w 2).tog⟩,rfl,rfl,trivial,fun _ _=>⟨Qe (by kernel_rfl),⟨⟨by decide,by decide⟩,Qy (fun k3=>⟨⟨wkS (z.w 3) (r 3),(z.w 3).k,(z.w 3).key,(z.w 3).x,(z.w 3).tog⟩,rfl,rfl,trivial,fun _ _=>⟨Qe (by kernel_rfl),QC h0 hn hz hl g1 g2 g3 (a0:=true) (a1:=false) (a2:=true) (a3:=true) rfl rfl k0 k1 k2 k3⟩⟩) (fun k3=>QC h0 hn hz hl g1 g2 g3 (a0:=true) (a1:=false) (a2:=true) (a3:=false) rfl rfl k0 k1 k2 k3)⟩⟩⟩) (fun k2=>⟨⟨by decide,by decide⟩,Qy (fun k3=>⟨⟨wkS (z.w 3) (r 3),(z.w 3).k,(z.w 3).key,(z.w 3).x,(z.w 3).tog⟩,rfl,rfl,trivial,fun _ _=>⟨Qe (by kernel_rfl),QC h0 hn hz hl g1 g2 g3 (a0:=true) (a1:=false) (a2:=false) (a3:=true) rfl rfl k0 k1 k2 k3⟩⟩) (fun k3=>QC h0 hn hz hl g1 g2 g3 (a0:=true) (a1:=false) (a2:=false) (a3:=false) rfl rfl k0 k1 k2 k3)⟩)⟩)⟩⟩⟩) (fun k0=>⟨⟨by decide,by decide⟩,Qy (fun k1=>⟨⟨wkS (z.w 1) (r 1),(z.w 1).k,(z.w 1).key,(z.w 1).x,(z.w 1).tog⟩,rfl,rfl,trivial,fun _ _=>⟨Qe (by kernel_rfl),⟨⟨by decide,by decide⟩,Qy (fun k2=>⟨⟨wkS (z.w 2) (r 2),(z.w 2).k,(z.w 2).key,(z.w 2).x,(z.w 2).tog⟩,rfl,rfl,trivial,fun _ _=>⟨Qe (by kernel_rfl),⟨⟨by decide,by decide⟩,Qy (fun k3=>⟨⟨wkS (z.w 3) (r 3),(z.w 3).k,(z.w 3).key,(z.w 3).x,(z.w 3).tog⟩,rfl,rfl,trivial,fun _ _=>⟨Qe (by kernel_rfl),QC h0 hn hz hl g1 g2 g3 (a0:=false) (a1:=true) (a2:=true) (a3:=true) rfl rfl k0 k1 k2 k3⟩⟩) (fun k3=>QC h0 hn hz hl g1 g2 g3 (a0:=false) (a1:=true) (a2:=true) (a3:=false) rfl rfl k0 k1 k2 k3)⟩⟩⟩) (fun k2=>⟨⟨by decide,by decide⟩,Qy (fun k3=>⟨⟨wkS (z.w 3) (r 3),(z.w 3).k,(z.w 3).key,(z.w 3).x,(z.w 3).tog⟩,rfl,rfl,trivial,fun _ _=>⟨Qe (by kernel_rfl),QC h0 hn hz hl g1 g2 g3 (a0:=false) (a1:=true) (a2:=false) (a3:=true) rfl rfl k0 k1 k2 k3⟩⟩) (fun k3=>QC h0 hn hz hl g1 g2 g3 (a0:=false) (a1:=true) (a2:=false) (a3:=false) rfl rfl k0 k1 k2 k3)⟩)⟩⟩⟩) (fun k1=>⟨⟨by decide,by decide⟩,Qy (fun k2=>⟨⟨wkS (z.w 2) (r 2),(z.w 2).k,(z.w 2).key,(z.w 2).x,(z.w 2).tog⟩,rfl,rfl,trivial,fun _ _=>⟨Qe (by kernel_rfl),⟨⟨by decide,by decide⟩,Qy (fun k3=>⟨⟨wkS (z.w 3) (r 3),(z.w 3).k,(z.w 3).key,(z.w 3).x,(z.w 3).tog⟩,rfl,rfl,trivial,fun _ _=>⟨Qe (by kernel_rfl),QC h0 hn hz hl g1 g2 g3 (a0:=false) (a1:=false) (a2:=true) (a3:=true) rfl rfl k0 k1 k2 k3⟩⟩) (fun k3=>QC h0 hn hz hl g1 g2 g3 (a0:=false) (a1:=false) (a2:=true) (a3:=false) rfl rfl k0 k1 k2 k3)⟩⟩⟩) (fun k2=>⟨⟨by decide,by decide⟩,Qy (fun k3=>⟨⟨wkS (z.w 3) (r 3),(z.w 3).k,(z.w 3).key,(z.w 3).x,(z.w 3).tog⟩,rfl,rfl,trivial,fun _ _=>⟨Qe (by kernel_rfl),QC h0 hn hz hl g1 g2 g3 (a0:=false) (a1:=false) (a2:=false) (a3:=true) rfl rfl k0 k1 k2 k3⟩⟩) (fun k3=>QC h0 hn hz hl g1 g2 g3 (a0:=false) (a1:=false) (a2:=false) (a3:=false) rfl rfl k0 k1 k2 k3)⟩)⟩)⟩)⟩
end
section
def PosV (z:Sh):Prop:=∀d∈z.deeds,0<=d.ver
theorem Qnt {v:Int}{l:List Vd}{d:Vd}(h:d∈upTo v l):d∈l:=by
 unfold upTo at h
 rw[List.mem_reverse]at h
 exact List.mem_reverse.1 ((List.dropWhile_sublist _).subset h)
section
variable {K:Int}{z:Sh}{g:Gh}{t:Nat}
end
end
section
section
variable {K:Int}{z:Sh}{g:Gh}{t:Nat}
end
end
section
def mvAt (z:Nat->Nat->Int) (i:Nat):Mv:=⟨z i 0,z i 1,z i 2,z i 3,z i 4,z i 5,z i 6⟩
def mvL (z:Nat->Nat->Int) (n:Nat):List Mv:=(List.range n).map (mvAt z)
theorem Qjg (z:Nat->Nat->Int) (i:Nat):mvL z (i+1)=mvL z i++[mvAt z i]:=by unfold mvL;rw[List.range_succ,List.map_append];rfl
theorem QpO (z:Nat->Nat->Int) (n:Nat):(mvL z n).length=n:=by unfold mvL;rw[List.length_map,List.length_range]
end
section
structure FinI (K:Int) (z:Sh) (g:Gh):Prop where
 i:ShInv K z g
 p:PosV z
 s:(z.hist.length:Int)<=z.steps
section
variable {K:Int}{z:Sh}{g:Gh}{t:Nat}
theorem ShInv.now (I:ShInv K z g):0<=z.s.now 0:=by
 have h1:=I.gl.now0
 have h2:=I.gl.v0
 have h3:=I.gl.vd
 omega
theorem QpU (F:FinI K z g) (ht:t<4) (hs:z.steps<100000000):∃g',FinI K (z.step t) g':=by
 unfold Sh.step
 split
 · exact⟨g,F⟩
 · rename_i hn
   have I':=QiB F.i ht hs hn
   have h0:=I'.now
   have e:(z.stepped t).s=(Qg (z.wst t)).1.s:=by
    unfold Sh.stepped
    dsimp only
    split<;>split<;>rfl
   rw[e]at h0
   have e2:(z.stepped t).deeds=z.deeds\/(z.stepped t).deeds=z.deeds++(Qg (z.wst t)).1.w.deeds.map (Vd.mk ((Qg (z.wst t)).1.s.now 0)):=by
    unfold Sh.stepped
    dsimp only
    split<;>split<;>first|exact .inl rfl|exact .inr rfl
   have e3:(z.stepped t).steps=z.steps+1:=by
    unfold Sh.stepped
    dsimp only
    split<;>split<;>rfl
   have e4:(z.stepped t).hist.length<=z.hist.length+1:=by
    unfold Sh.stepped
    dsimp only
    split<;>split<;>first|exact Nat.le_succ _|(show (z.hist++[_]).length<=_;rw[List.length_append];exact Nat.le_refl _)
   refine⟨_,I',fun d hd=>?_,by have:=F.s;omega⟩
   rcases e2 with e2|e2
   · rw[e2]at hd;exact F.p d hd
   · rw[e2]at hd
     rcases List.mem_append.1 hd with hd|hd
     · exact F.p d hd
     · obtain⟨x,-,rfl⟩:=List.mem_map.1 hd
       exact h0
theorem Qjt (ht:t<4):∀(n:Nat) {z:Sh}{g:Gh},FinI K z g->z.steps+n<100000000->∃g',FinI K (z.run t n) g'
 |0,z,g,F,_=>⟨g,F⟩
 |n+1,z,g,F,hs=>by
  obtain⟨g',F'⟩:=QpU F ht (by omega)
  have:=(QfW z t).2
  exact Qjt ht n F' (by omega)
theorem QmH (F:FinI K z g) (ht:t<4) (k key x:Int):FinI K (z.call t k key x) g:=by
 refine⟨Qod F.i ht k key x,?_,?_⟩
 · unfold Sh.call
   split<;>exact F.p
 · have:=F.s
   unfold Sh.call
   split
   · show ((z.hist++[_]).length:Int)<=z.steps+1
     rw[List.length_append,List.length_singleton];omega
   · exact F.s
theorem Qop (F:FinI K z g) (l:Int):FinI K (z.evict l) g:=by
 refine⟨Qmm F.i l,?_,?_⟩
 · unfold Sh.evict
   split<;>exact F.p
 · unfold Sh.evict
   split<;>exact F.s
theorem Qoq (F:FinI K z g) (l:Int):∃g',FinI K (z.crash l) g':=by
 have hp:PosV (z.crash l):=fun d hd=>F.p d (Qnt hd)
 have hs:((z.crash l).hist.length:Int)<=(z.crash l).steps:=by
  have:=F.s
  show ((z.hist++[_]).length:Int)<=z.steps+1
  rw[List.length_append,List.length_singleton];omega
 rcases inv_crash F.i l with⟨-,h,-⟩|⟨-,-,-,h,-⟩
 · exact⟨_,h,hp,hs⟩
 · exact⟨_,h,hp,hs⟩
theorem QpV (F:FinI K z g) (hs:z.steps<90000000) (t n:Int):∃g',FinI K (z.runA t n) g':=by
 unfold Sh.runA
 cases hb:inT t
 · exact⟨g,F⟩
 · rw[cond_true]
   cases hc:runB n
   · exact⟨g,F⟩
   · have h2:=of_decide_eq_true hc
     exact Qjt (QiD hb).2.2 n.toNat F (by omega)
theorem QpW (F:FinI K z g) (hs:z.steps<90000000) (m:Mv):∃g',FinI K (z.move m) g':=by
 unfold Sh.move
 split
 · unfold Sh.callA
   cases hb:inT m.t
   · exact⟨g,F⟩
   · exact⟨g,QmH F (QiD hb).2.2 _ _ _⟩
 split
 · exact QpV F hs _ _
 split
 · exact⟨g,Qop F _⟩
 split
 · exact Qoq F _
 · exact⟨g,F⟩
theorem Qo5 {K:Int}(h1:1<=K) (h6:K<=6):FinI K (Sh.new K) (Gh.new K):=⟨QpR h1 h6,fun d hd=>(by cases hd),Int.le_refl 0⟩
theorem Qju {K:Int}(h1:1<=K) (h6:K<=6):∀(n:Nat) (l:List Mv),l.length=n->n<=80000->∃g,FinI K (Qao K l) g/\(Qao K l).steps<=1000*(n:Int)
 |0,l,hl,_=>by
  have:=List.length_eq_zero_iff.1 hl
  subst this
  exact⟨_,Qo5 h1 h6,Int.le_refl 0⟩
 |n+1,l,hl,hn=>by
  obtain⟨l',m,rfl⟩:∃l' m,l=l'++[m]:=⟨l.dropLast,l.getLast (by intro h;rw[h]at hl;cases hl),(List.dropLast_concat_getLast _).symm⟩
  rw[List.length_append,List.length_singleton]at hl
  obtain⟨g,F,hs⟩:=Qju h1 h6 n l' (by omega) (by omega)
  rw[Qf2]
  obtain⟨g',F'⟩:=QpW F (by omega) m
  have:=Qkb (Qao K l') m
  exact⟨g',F',by omega⟩
theorem FinI.steps0 (F:FinI K z g):0<=z.steps:=by have:=F.s;omega
theorem FinI.lens (F:FinI K z g) (hs:z.steps<100000000):z.hist.length<=1000000000/\z.deeds.length<=1000000000:=by
 have h1:=F.s
 have h2:=F.i.gl.cb
 omega
theorem Qo8:∀(l:List Ask) (r:Rec),(bD r l).length<=l.length
 |[],r=>Nat.le_refl _
 |a::l,r=>by
  show (bDs r a++bD (Xz r a) l).length<=l.length+1
  rw[List.length_append]
  have:=Qo8 l (Xz r a)
  have h2:(bDs r a).length<=1:=by
   unfold bDs
   cases bOpen r a
   · exact Nat.zero_le _
   · exact Nat.le_refl _
  omega
theorem FinI.stOK (F:FinI K z g) (ht:t<4) (hs:z.steps<100000000):stOK z t:=by
 have hl:=F.lens hs
 refine⟨F.steps0,hs,hl.1,hl.2,(F.i.th t ht).th,fun h11=>?_⟩
 have O:=F.i.ho t ht ⟨by omega,by omega⟩
 obtain⟨hG,hD,-,-⟩:=O.nx (by omega) (by omega)
 have e:(Qg (z.wst t)).1.w.deeds=(z.w t).deeds:=by simp[Qg,XU,Sh.wst,h11]
 rw[e,hD]
 have h4:=hG.len
 have:=Qo8 (z.w t).asks g.R
 omega
theorem FinI.craOK (F:FinI K z g) (hs:z.steps<100000000) {l:Int}(hu:U64 l):Qk6 z l:=by
 have hl:=F.lens hs
 have G:=F.i.gl
 have h0:=G.v0
 have hd:=G.vd
 have hv:Qs l z.s 0=g.dv\/Qs l z.s 0=g.V:=by
  rcases land_mix l z.s 0 with h|h
  · rw[h];exact G.good0
  · rw[h];exact .inr G.now0
 have hb:=G.vb
 exact⟨F.steps0,hs,hl.1,hl.2,hu,by omega,by omega,fun d hd=>⟨F.p d hd,by have:=G.topR d hd;omega⟩⟩
end
end
section
open Go.RowKit
theorem craH:(Con.mem craC.sh).holds Tryz.prog 21:=fun w0 S=>craC.lift (Qp2 w0 S) (by decide) (fun x _=>Xb x) (fun _=>rfl) (fun _ _ _ _ _ _ _ _=>⟨rfl,rfl,rfl,rfl⟩)
theorem CallOK.of {K:Int}{z:Sh}{g:Gh}(F:FinI K z g) (hs:z.steps<100000000):CallOK z:=⟨F.steps0,hs,(F.lens hs).1,fun t ht=>(F.i.th t ht).tg01⟩
theorem StpOK.of {K:Int}{z:Sh}{g:Gh}{t:Nat}(F:FinI K z g) (ht:t<4) (hs:z.steps<100000000):StpOK z t:=⟨ht,F.stOK ht hs,fun hn=>QjQ F.i ht (by have:=F.i.gl.vb;omega) hn⟩
theorem RunOK.of {K:Int}{z:Sh}{g:Gh}{t:Nat}(F:FinI K z g) (ht:t<4) (hs:z.steps<90000000) (n:Int):RunOK z t n:=⟨fun h0 h1 k hk=>by
 obtain⟨g',F'⟩:=Qjt ht k F (by omega)
 have:=(Qdp t k z).2
 have S:=StpOK.of F' ht (by omega)
 exact⟨S.ok,S.pre⟩⟩
theorem TCon.weak {X Y α χ:Type}(c c':TCon Y α χ) {L:X->List SB}{y:X->Y}{good:X->Prop}{P:Program}{f:FuncId}(h:(Con.mem (c.high L y good)).holds P f)
 (e:c'={ c with pre:=c'.pre,val:=c'.val }) (hp:∀z a,c'.pre z a->c.pre z a) (hv:∀n z a r,c'.pre z a->c'.val n z a r=c.val n z a r):(Con.mem (c'.high L y good)).holds P f:=by
 obtain⟨pre',args',ok',next',val',new',len'⟩:=c'
 dsimp only at e hp hv
 injection e with _ e1 e2 e3 _ e4 e5
 subst e1 e2 e3 e4 e5
 intro w0 S
 have h:=h w0 S
 refine⟨h.1,fun x0 h=>(by cases h),fun ρ s w hpp hK HM=>(h.2.2 ρ s w (hp _ _ hpp) hK HM).mono ?_⟩
 rintro e w' ⟨x,ρ',h1,h2,h3,h4,h5⟩
 refine⟨x,ρ',h1,h2,h3,?_,h5⟩
 rw[h4]
 show Ending.returned ((c.val 1 s.1 s.2.1 x.2).den ρ')=Ending.returned ((val' 1 s.1 s.2.1 x.2).den ρ')
 rw[hv 1 s.1 s.2.1 x.2 hpp]
def Qqa:TCon Sh (Int × OpA) Unit where
 pre z a:=CallOK z/\(inT a.1=true/\(z.w a.1.toNat).does=0/\opOk a.2.k a.2.key a.2.x=true)
 args a:=[.c (.v (.int .i64 a.1)),.a [.one (.v (.int .i64 a.2.k)),.one (.v (.int .i64 a.2.key)),.one (.v (.int .i64 a.2.x))]]
 ok _ _ _:=True
 next z a _:=bif inT a.1 then z.call a.1.toNat a.2.k a.2.key a.2.x else z
 val _ z a _:=.o (.c (.v .nilIface))
 new _ _ _ _:=[]
 len:=0
theorem callNH:(Con.mem Qqa.sh).holds Tryz.prog 18:=TCon.weak callA Qqa callH rfl (fun z a h=>h.1) (fun n z a r h=>by
 obtain⟨h1,h2,h3⟩:=h.2
 show SV.o (.c (.v .nilIface))=.o (.c (.v (bif inT a.1 then (bif (z.w a.1.toNat).does==0 then (bif opOk a.2.k a.2.key a.2.x then .nilIface else _)else _)else _)))
 rw[h1,h3,show ((z.w a.1.toNat).does==0)=true from beq_iff_eq.2 h2];rfl)
def runG:TCon Sh (Int × Int) Unit where
 pre z a:=(inT a.1=true->RunOK z a.1.toNat a.2)/\(inT a.1=true/\runB a.2=true)
 args a:=[.c (.v (.int .i64 a.1)),.c (.v (.int .i64 a.2))]
 ok _ _ _:=True
 next z a _:=z.runA a.1 a.2
 val _ z a _:=.t [.c (.v (.int .i64 (z.ran a.1.toNat a.2.toNat:Nat))),.c (.v .nilIface)]
 new _ _ _ _:=[]
 len:=0
theorem runGH:(Con.mem runG.sh).holds Tryz.prog 20:=TCon.weak QlF runG runH rfl (fun z a h=>h.1) (fun n z a r h=>by
 obtain⟨h1,h2⟩:=h.2
 show SV.t [.c (.v (.int .i64 _)),.c (.v .nilIface)]=.t [.c (.v (.int .i64 (bif inT a.1 then (bif runB a.2 then _ else 0)else 0))),.c (.v (bif inT a.1 then (bif runB a.2 then .nilIface else _)else _))]
 rw[h1,h2];rfl)
def QgW:PCon:=⟨fun args=>match args with
 |[]=>True
 |_=>False,fun _=>sv (.bool true),fun _=>none⟩
theorem shops_con:(Con.pure QgW).holds Tryz.prog 6:=by
 refine QF (AG:=[]) (Γ:=[(17,.mem QiL),(19,.pure Qjy),(18,.mem Qqa.sh),(20,.mem runG.sh),(21,.mem craC.sh),(22,.mem verC.sh),(15,.mem ddsC.sh),(13,.mem hisC.sh),(23,.mem QiH.sh)]) Tryz.func6 rfl (by kernel_rfl) Qf Qc
  (fun W=>.cons (newH W _) (.cons (QpE W _) (.cons (callNH W _) (.cons (runGH W _) (.cons (craH W _) (.cons (verH W _) (.cons (ddsH W _) (.cons (hisH W _) (.cons (doesH W _) (.nil _ _ _)))))))))) QgW 400 ?_
 intro W args hp
 unfold QgW at hp;dsimp only at hp;split at hp
 case h_2=>exact hp.elim
 refine⟨rfl,?_⟩
 refine Qj (q:=∃(s:NewS),[aI 1]=[aI s.1]/\eN/\((1:Int)<=s.1/\s.1<=(6:Int))/\∀(x:List Nat),True->True/\∃(s_1:Sh × (Int × OpA) × List Nat),[aP 0 0,aI 0,SA.a [sI 1,sI 0,sI 3]]=[aP 0 0,aI s_1.2.1.1,SA.a [sI s_1.2.1.2.1,sI s_1.2.1.2.2,sI s_1.2.1.2.3]]/\[SB.abs (QB shM ShS.z ShS.good (Sh.new s.1)) x]=[SB.abs (QB shM ShS.z ShS.good s_1.1) s_1.2.2]/\(CallOK s_1.1/\inT s_1.2.1.1=true/\(Sh.w s_1.1 (Int.toNat s_1.2.1.1)).2=(0:Int)/\opOk s_1.2.1.2.1 s_1.2.1.2.2 s_1.2.1.2.3=true)/\∀(x:List Nat × Unit),True->∃(s:Sh × (Int × Int) × List Nat),[aP 0 0,aI 0,aI 200]=[aP 0 0,aI s.2.1.1,aI s.2.1.2]/\[SB.abs (QB shM ShS.z ShS.good (bif inT s_1.2.1.1 then Sh.call s_1.1 (Int.toNat s_1.2.1.1) s_1.2.1.2.1 s_1.2.1.2.2 s_1.2.1.2.3 else s_1.1)) x.1]=[SB.abs (QB shM ShS.z ShS.good s.1) s.2.2]/\((inT s.2.1.1=true->RunOK s.1 (Int.toNat s.2.1.1) s.2.1.2)/\inT s.2.1.1=true/\runB s.2.1.2=true)/\∀(x:List Nat × Unit),True->∃(s_2:Sh × Int × List Nat),[aP 0 0,aU 0]=[aP 0 0,aU s_2.2.1]/\[SB.abs (QB shM ShS.z ShS.good (Sh.runA s.1 s.2.1.1 s.2.1.2)) x.1]=[SB.abs (QB shM ShS.z ShS.good s_2.1) s_2.2.2]/\Qk6 s_2.1 s_2.2.1/\∀(x:List Nat × Unit),True->bif (↑(Sh.ran s.1 (Int.toNat s.2.1.1) (Int.toNat s.2.1.2)):Int)==(84:Int)then ∃(s:Sh × Unit × List Nat),[aP 0 0]=[aP 0 0]/\[SB.abs (QB shM ShS.z ShS.good (Sh.crash s_2.1 s_2.2.1)) x.1]=[SB.abs (QB shM ShS.z ShS.good s.1) s.2.2]/\((0:Int)<=(Sh.s s.1).1 0/\(Sh.s s.1).1 0<(1000000000:Int))/\∀(x:List Nat × Unit),True->bif (Sh.s s.1).1 0==(1:Int)then ∃(s_3:Sh × Unit × List Nat),[aP 0 0]=[aP 0 0]/\[SB.abs (QB shM ShS.z ShS.good s.1) x.1]=[SB.abs (QB shM ShS.z ShS.good s_3.1) s_3.2.2]/\List.length s_3.1.7<=1000000000/\∀(x:List Nat × RwR),(List.length s_3.1.7<=x.2.1/\x.2.1<=x.2.2)/\IsR 6 Dd.at Dd.nil x.2.4 (List.map (fun (self:Vd)=>self.2) s_3.1.7)->List.length s_3.1.7<=x.2.2/\bif (↑(List.length s_3.1.7):Int)==(1:Int)then ∃(s:Sh × Unit × List Nat),[aP 0 0]=[aP 0 0]/\[SB.abs (QB shM ShS.z ShS.good s_3.1) x.1]=[SB.abs (QB shM ShS.z ShS.good s.1) s.2.2]/\List.length s.1.6<=1000000000/\∀(x:List Nat × RwR),(List.length s.1.6<=x.2.1/\x.2.1<=x.2.2)/\IsE x.2.4 s.1.6->List.length s.1.6<=x.2.2/\bif (↑(List.length s.1.6):Int)==(3:Int)then ∃(s_4:Sh × Nat × List Nat),[aP 0 0,aI 0]=[aP 0 0,aI (↑s_4.2.1:Int)]/\[SB.abs (QB shM ShS.z ShS.good s.1) x.1]=[SB.abs (QB shM ShS.z ShS.good s_4.1) s_4.2.2]/\s_4.2.1<4/\∀(x:List Nat × Unit),True->SV.o (aB ((Sh.w s_4.1 s_4.2.1).2==(0:Int)))=SV.o (aB true)/\true=true else SV.o (aB false)=SV.o (aB true)/\true=true else SV.o (aB false)=SV.o (aB true)/\true=true else SV.o (aB false)=SV.o (aB true)/\true=true else SV.o (aB false)=SV.o (aB true)/\true=true) (by kernel_rfl) ?_
 have l1:((Sh.new 1).call 0 1 0 3).ran 0 200=84:=by kernel_rfl
 have l2:((((Sh.new 1).call 0 1 0 3).run 0 200).crash 0).s.now 0=1:=by kernel_rfl
 have l3:((((Sh.new 1).call 0 1 0 3).run 0 200).crash 0).deeds.length=1:=by kernel_rfl
 have l4:((((Sh.new 1).call 0 1 0 3).run 0 200).crash 0).hist.length=3:=by kernel_rfl
 have l5:(((((Sh.new 1).call 0 1 0 3).run 0 200).crash 0).w 0).does=0:=by kernel_rfl
 have F0:=Qo5 (K:=1) (by decide) (by decide)
 have s1:((Sh.new 1).call 0 1 0 3).steps<=1:=(Qgj (Sh.new 1) 0 1 0 3).2
 have F1:=QmH F0 (t:=0) (by decide) 1 0 3
 have hst:=(Qdp 0 200 ((Sh.new 1).call 0 1 0 3)).2
 obtain⟨g,Fg⟩:=Qjt (t:=0) (by decide) 200 F1 (by omega)
 obtain⟨z1,hz1⟩:∃z1,z1=(Sh.new 1).call 0 1 0 3:=⟨_,rfl⟩
 rw[<- hz1]at l1 l2 l3 l4 l5 Fg hst s1 F1
 have er:z1.runA 0 200=z1.run 0 200:=by unfold Sh.runA;rw[show inT 0=true from rfl,show runB 200=true from rfl];rfl
 obtain⟨z2,hz2⟩:∃z2,z2=z1.run 0 200:=⟨_,rfl⟩
 rw[<- hz2]at l2 l3 l4 l5 Fg hst
 obtain⟨z3,hz3⟩:∃z3,z3=z2.crash 0:=⟨_,rfl⟩
 rw[<- hz3]at l2 l3 l4 l5
 have go {S T:Sh}(G:List Nat) (e:S=T):[SB.abs (QB shM ShS.z ShS.good S) G]=[SB.abs (QB shM ShS.z ShS.good T) G]:=by rw[e]
 have c0:CallOK (Sh.new 1):=CallOK.of F0 (by show (0:Int)<100000000;decide)
 have c1:RunOK z1 0 200:=RunOK.of F1 (by decide) (by omega) 200
 have c2:Qk6 z2 0:=Fg.craOK (by omega) ⟨by decide,by decide⟩
 have q1:((z1.ran (Int.toNat 0) (Int.toNat 200):Nat):Int)=84:=by
  rw[show z1.ran (Int.toNat 0) (Int.toNat 200)=84 from l1];rfl
 exact⟨⟨1⟩,rfl,rfl,⟨by decide,by decide⟩,fun x _=>⟨trivial,(Sh.new 1,(0,⟨1,0,3⟩),x),rfl,rfl,⟨c0,rfl,rfl,(by decide:opOk 1 0 3=true)⟩,fun y _=>⟨(z1,(0,200),y.1),rfl,go y.1 hz1.symm,⟨fun _=>c1,rfl,rfl⟩,fun y _=>⟨(z2,0,y.1),rfl,go y.1 (er.trans hz2.symm),c2,fun y _=>Q5
  (fun _=>⟨(z3,(),y.1),rfl,go y.1 hz3.symm,⟨by show 0<=z3.s.now 0;omega,by show z3.s.now 0<1000000000;omega⟩,fun y _=>Q5
   (fun _=>⟨(z3,(),y.1),rfl,rfl,by show z3.deeds.length<=1000000000;omega,fun y hy=>⟨Nat.le_trans hy.1.1 hy.1.2,Q5
    (fun _=>⟨(z3,(),y.1),rfl,rfl,by show z3.hist.length<=1000000000;omega,fun y hy=>⟨Nat.le_trans hy.1.1 hy.1.2,Q5
     (fun _=>⟨(z3,0,y.1),rfl,rfl,by show 0<4;decide,fun y _=>⟨by rw[show (((z3.w 0).does==0):Bool)=true from beq_iff_eq.2 l5],rfl⟩⟩)
     (fun h=>absurd (by show ((z3.hist.length:Nat):Int)=3;omega) h)⟩⟩)
    (fun h=>absurd (by show ((z3.deeds.length:Nat):Int)=1;omega) h)⟩⟩)
   (fun h=>absurd (by show z3.s.now 0=1;omega) h)⟩)
  (fun h=>absurd q1 h)⟩⟩⟩⟩
theorem abGo {S T:Sh}(G:List Nat) (e:S=T):[SB.abs (QB shM ShS.z ShS.good S) G]=[SB.abs (QB shM ShS.z ShS.good T) G]:=by rw[e]
theorem FinI.ver {K:Int}{z:Sh}{g:Gh}(F:FinI K z g) (hs:z.steps<100000000):0<=z.s.now 0/\z.s.now 0<1000000000:=by
 have h1:=F.i.now
 have h2:=F.i.gl.vb
 have h3:=F.i.gl.now0
 omega
end
section
section
variable {K:Int}{z:Sh}{g:Gh}{t:Nat}
end
end
section
section
variable {K:Int}{z:Sh}{g:Gh}{t:Nat}
end
end
section
section
variable {K:Int}{z:Sh}{g:Gh}{t:Nat}
end
end
section
open Go.ChangeShapes Go.WideShapes Go.RowKit
theorem lOwn:ownKnob Tryz.prog.godebug=none:=by kernel_rfl
theorem lEt:Tryz.prog.globalNamed "errors.errorType" =some 0:=by kernel_rfl
theorem lRt:(Tryz.prog.cutTypes.find? (·.1 == "internal/reflectlite.rtype")).map (·.2)=some 181:=by kernel_rfl
theorem lSize:Tryz.prog.types.size=233:=by kernel_rfl
theorem lRow:((List.range 233).filter fun t=>Tryz.prog.rowNamed t [101,114,114,111,114])=[54]:=by kernel_rfl
abbrev laidL:List (String × DataW Unit):=[("errors.errorType",Rows.laid_errors_errorType)]
abbrev ErrType (W:World):Prop:=W.cell? ⟨0,0,none⟩=some (.iface 181 (.agg #[.pointer (some ⟨1,54,none⟩)]))
theorem handle_of_laid {W:World}(h:laidMetH Tryz.prog laidL W):ErrType W:=by
 have h':laidMet Tryz.prog [] W/\handlesMet Tryz.prog laidL W:=h
 obtain⟨name,u,ty,e1,e2,e3,e4,e5⟩:=h'.2 _ (List.mem_singleton.2 rfl)
 have en:name=[101,114,114,111,114]:=(Option.some.inj e1).symm
 subst en
 obtain rfl:=Option.some.inj (lRt.symm.trans e2)
 have hm:ty∈(List.range 233).filter fun t=>Tryz.prog.rowNamed t [101,114,114,111,114]:=List.mem_filter.2 ⟨List.mem_range.2 (by rw[<- lSize];exact e3),e4⟩
 rw[lRow]at hm
 obtain rfl:=List.mem_singleton.1 hm
 have hh:typeHandle Tryz.prog 54=.pointer (some ⟨1,54,none⟩):=by kernel_rfl
 rw[hh]at e5
 simpa using World.var?_cell lEt e5 0
noncomputable def laidWorld (os:Os):World:=
 let w0:=World.holding Tryz.prog os ⟨#[],#[],[]⟩
 { w0 with heap:=w0.heap.modify 0 fun
  |.cells _ t frozen=>.cells #[.iface 181 (.agg #[.pointer (some ⟨1,54,none⟩)])] t frozen
  |o=>o }
theorem laidWorld_met (os:Os) (args:Array Value):laidMetH Tryz.prog laidL ((laidWorld os).forCall (fun _ _=>0) ⟨#[],args,[]⟩).memory:=
 laidMetH_of_parts (laidMet_nil _ _) (by kernel_rfl)
end
section
def nxB (b:Nat->Nat) (n a:Nat):Nat:=if a<n then b a else 0
def dec1 (b:Nat->Nat) (n a:Nat):Mv × Nat:=
 if nxB b n a/4%8<2 then (⟨1,(nxB b n a%4:Nat),1+((nxB b n (a+1)%6:Nat):Int),(nxB b n (a+2)%5:Nat),(nxB b n (a+3)%10:Nat),0,0⟩,a+4)
 else if nxB b n a/4%8<6 then (⟨2,(nxB b n a%4:Nat),0,0,0,1+((nxB b n (a+1)%100:Nat):Int),0⟩,a+2)
 else if nxB b n a/4%8=6 then (⟨3,(nxB b n a%4:Nat),0,0,0,(nxB b n (a+1)%9:Nat),0⟩,a+2)
 else if 128<=nxB b n a then (⟨4,(nxB b n a%4:Nat),0,0,0,0,((nxB b n (a+1) ||| nxB b n (a+2)*256:Nat):Int)⟩,a+3)
 else (⟨2,(nxB b n a%4:Nat),0,0,0,1,0⟩,a+1)
def decN (b:Nat->Nat) (n:Nat):Nat->Nat->Nat->List Mv
 |0,_,_=>[]
 |f+1,a,c=>if a<n/\c<3000 then (dec1 b n a).1::decN b n f (dec1 b n a).2 (c+1)else []
def decL (b:Nat->Nat) (n:Nat):List Mv:=decN b n n 0 0
theorem Qfy (b:Nat->Nat) (n a:Nat):a+1<=(dec1 b n a).2/\(dec1 b n a).2<=a+4:=by
 unfold dec1
 split
 · exact⟨by dsimp only;omega,by dsimp only;omega⟩
 split
 · exact⟨by dsimp only;omega,by dsimp only;omega⟩
 split
 · exact⟨by dsimp only;omega,by dsimp only;omega⟩
 split
 · exact⟨by dsimp only;omega,by dsimp only;omega⟩
 · exact⟨by dsimp only;omega,by dsimp only;omega⟩
theorem QhW (b:Nat->Nat) (n:Nat):∀(f g a c:Nat),n-a<=f->n-a<=g->decN b n f a c=decN b n g a c
 |0,0,a,c,_,_=>rfl
 |0,g+1,a,c,h1,h2=>by
  unfold decN;rw[if_neg (by omega)]
 |f+1,0,a,c,h1,h2=>by
  unfold decN;rw[if_neg (by omega)]
 |f+1,g+1,a,c,h1,h2=>by
  unfold decN
  split
  · have:=Qfy b n a
    rw[QhW b n f g _ _ (by omega) (by omega)]
  · rfl
theorem QhU (b:Nat->Nat) {n a c:Nat}(ha:a<n) (hc:c<3000):decN b n (n-a) a c=(dec1 b n a).1::decN b n (n-(dec1 b n a).2) (dec1 b n a).2 (c+1):=by
 have h:=Qfy b n a
 rw[show n-a=(n-a-1)+1 by omega]
 conv=>lhs;unfold decN
 rw[if_pos ⟨ha,hc⟩,QhW b n _ (n-(dec1 b n a).2) _ _ (by omega) (by omega)]
theorem QeU (b:Nat->Nat) {n a c:Nat}(h:¬(a<n/\c<3000)) (f:Nat):decN b n f a c=[]:=by
 cases f with
 |zero=>rfl
 |succ f=>unfold decN;rw[if_neg h]
structure MvOk (m:Mv):Prop where
 t0:0<=m.t
 t4:m.t<4
 k1:1<=m.kind
 k4:m.kind<=4
 op:m.kind=1->opOk m.k m.key m.x=true
 n:m.kind=2->1<=m.n/\m.n<=100
 l:U64 m.l
theorem Qf4 {b:Nat->Nat}(hb:∀i,b i<256) (n a:Nat):nxB b n a<256:=by
 unfold nxB;split
 · exact hb a
 · omega
theorem Qp0 {b:Nat->Nat}(hb:∀i,b i<256) (n a:Nat):MvOk (dec1 b n a).1:=by
 have h1:=Qf4 hb n (a+1)
 have h2:=Qf4 hb n (a+2)
 have h3:=Qf4 hb n (a+3)
 have z:U64 0:=by decide
 unfold dec1
 split
 · exact⟨by dsimp only;omega,by dsimp only;omega,by dsimp only;omega,by dsimp only;omega,fun _=>decide_eq_true (by dsimp only;omega),fun h=>absurd h (by dsimp only;omega),z⟩
 split
 · exact⟨by dsimp only;omega,by dsimp only;omega,by dsimp only;omega,by dsimp only;omega,fun h=>absurd h (by dsimp only;omega),fun _=>⟨by dsimp only;omega,by dsimp only;omega⟩,z⟩
 split
 · exact⟨by dsimp only;omega,by dsimp only;omega,by dsimp only;omega,by dsimp only;omega,fun h=>absurd h (by dsimp only;omega),fun h=>absurd h (by dsimp only;omega),z⟩
 split
 · refine⟨by dsimp only;omega,by dsimp only;omega,by dsimp only;omega,by dsimp only;omega,fun h=>absurd h (by dsimp only;omega),fun h=>absurd h (by dsimp only;omega),?_⟩
   have:nxB b n (a+1) ||| nxB b n (a+2)*256<2^16:=Nat.or_lt_two_pow (by omega) (by omega)
   show U64 ((nxB b n (a+1) ||| nxB b n (a+2)*256:Nat):Int)
   unfold U64
   omega
 · exact⟨by dsimp only;omega,by dsimp only;omega,by dsimp only;omega,by dsimp only;omega,fun h=>absurd h (by dsimp only;omega),fun _=>⟨by dsimp only;omega,by dsimp only;omega⟩,z⟩
theorem QpZ {b:Nat->Nat}(hb:∀i,b i<256) (n:Nat):∀(f a c:Nat),(∀m∈decN b n f a c,MvOk m)/\(decN b n f a c).length<=n-a/\(c<=3000->(decN b n f a c).length+c<=3000)
 |0,a,c=>⟨fun m hm=>(by cases hm),Nat.zero_le _,fun h=>(by show 0+c<=3000;omega)⟩
 |f+1,a,c=>by
  unfold decN
  split
  · rename_i h
    have h1:=Qfy b n a
    obtain⟨i1,i2,i3⟩:=QpZ hb n f (dec1 b n a).2 (c+1)
    refine⟨fun m hm=>?_,by rw[List.length_cons];omega,fun _=>by rw[List.length_cons];have:=i3 (by omega);omega⟩
    rcases List.mem_cons.1 hm with rfl|hm
    · exact Qp0 hb n a
    · exact i1 m hm
  · exact⟨fun m hm=>(by cases hm),Nat.zero_le _,fun h=>(by show 0+c<=3000;omega)⟩
theorem Qbu {b b':Nat->Nat}{n n':Nat}(hn:n<=n') (hb:∀i,i<n->b' i=b i) {a:Nat}(ha:a<n):nxB b' n' a=nxB b n a:=by
 unfold nxB;rw[if_pos ha,if_pos (by omega),hb a ha]
theorem QmT {b b':Nat->Nat}{n n':Nat}(hn:n<=n') (hb:∀i,i<n->b' i=b i) {a:Nat}(h:(dec1 b n a).2<=n):dec1 b' n' a=dec1 b n a:=by
 have h1:=Qfy b n a
 have e0:=Qbu hn hb (a:=a) (by omega)
 unfold dec1 at h ⊢
 rw[e0]
 split at h
 · rename_i c;rw[if_pos c,if_pos c]
   dsimp only at h
   rw[Qbu hn hb (a:=a+1) (by omega),Qbu hn hb (a:=a+2) (by omega),Qbu hn hb (a:=a+3) (by omega)]
 rename_i c1
 rw[if_neg c1,if_neg c1]
 split at h
 · rename_i c;rw[if_pos c,if_pos c]
   dsimp only at h
   rw[Qbu hn hb (a:=a+1) (by omega)]
 rename_i c2
 rw[if_neg c2,if_neg c2]
 split at h
 · rename_i c;rw[if_pos c,if_pos c]
   dsimp only at h
   rw[Qbu hn hb (a:=a+1) (by omega)]
 rename_i c3
 rw[if_neg c3,if_neg c3]
 split at h
 · rename_i c;rw[if_pos c,if_pos c]
   dsimp only at h
   rw[Qbu hn hb (a:=a+1) (by omega),Qbu hn hb (a:=a+2) (by omega)]
 · rename_i c;rw[if_neg c,if_neg c]
theorem QhV {b b':Nat->Nat}{n n':Nat}(hn:n<=n') (hb:∀i,i<n->b' i=b i):∀(f a c:Nat),n-a<=f->(decN b n f a c).length<=(decN b' n' (n'-a) a c).length/\∀i,i+1<(decN b n f a c).length->(decN b' n' (n'-a) a c)[i]?=(decN b n f a c)[i]?
 |0,a,c,_=>⟨Nat.zero_le _,fun i hi=>absurd hi (Nat.not_lt_zero _)⟩
 |f+1,a,c,hf=>by
  by_cases h:a<n/\c<3000
  · have h1:=Qfy b n a
    rw[QhU b' (show a<n' by omega) h.2]
    have e:decN b n (f+1) a c=(dec1 b n a).1::decN b n f (dec1 b n a).2 (c+1):=by
     conv=>lhs;unfold decN
     rw[if_pos h]
    rw[e]
    by_cases hx:(dec1 b n a).2<=n
    · rw[QmT hn hb hx]
      obtain⟨i1,i2⟩:=QhV hn hb f (dec1 b n a).2 (c+1) (by omega)
      refine⟨by rw[List.length_cons,List.length_cons];omega,fun i hi=>?_⟩
      cases i with
      |zero=>rfl
      |succ i=>
       rw[List.length_cons]at hi
       rw[List.getElem?_cons_succ,List.getElem?_cons_succ]
       exact i2 i (by omega)
    · rw[QeU b (a:=(dec1 b n a).2) (by omega) f]
      refine⟨by simp,fun i hi=>?_⟩
      rw[List.length_singleton]at hi;omega
  · rw[QeU b h]
    exact⟨Nat.zero_le _,fun i hi=>absurd hi (Nat.not_lt_zero _)⟩
end
section
open Go.RowKit
abbrev Qd8 (m c:Nat) (z:Nat->Nat->Int):SB:=.rows 29 [.int .i64,.int .i64,.int .i64,.int .i64,.int .i64,.int .i64,.int .u64] 7 m c z
abbrev inSB (x:Int):SB:=.cells [.one (.v (.int .i64 x))] 3
abbrev stSB (b:ByteArray):SB:=.cells [.one (.v (.string b))] 9
def bF (b:ByteArray) (i:Nat):Nat:=UInt8.toNat (match List.get?Internal b.data.toList i with|some x=>x|none=>0)
theorem QoT (b:ByteArray) (i:Nat):bF b i<256:=UInt8.toNat_lt _
theorem bF_eq (b:ByteArray) (i:Nat):bF b i=((b.data.toList[i]?).getD 0).toNat:=by
 unfold bF
 have:List.get?Internal b.data.toList i=b.data.toList[i]?:=rfl
 rw[this];cases b.data.toList[i]?<;>rfl
theorem Qqk (a b:ByteArray) {i:Nat}(h:i<a.size):bF (a++b) i=bF a i:=by
 rw[bF_eq,bF_eq,ByteArray.data_append,Array.toList_append,List.getElem?_append_left]
 exact h
def QmX:MCon:=dcon (ByteArray × Nat) (fun s=>s.2<=100000/\s.1.size<=100000) (fun s=>[.c (.p 0 0),.c (.p 1 0)]) (fun s=>[inSB s.2,stSB s.1]) (fun s=>sv (.int .i64 (nxB (bF s.1) s.1.size s.2:Nat))) (fun s=>[inSB (s.2+1:Nat),stSB s.1]) 2 (fun args _=>match args with
 |[.c (.p b _),.c (.p b2 _)]=>some [b,b2]
 |_=>none)
theorem nx_con:(Con.mem QmX).holds Tryz.prog 24:=by
 intro w0 S
 refine Qa (Γ:=[]) (fun _=>noW) Tryz.func24 rfl (by kernel_rfl) Qf Qc (fun _ _ _ _=>.nil _ _ _) QmX (fun s=>[]) (fun x0 h s x=>⟨rfl,trivial⟩) (fun s ρ w _ _ _=>Qh w _) [] (Qm 2) 400 ?_
 rintro⟨b,n⟩ w ⟨h1,h2⟩ -
 refine⟨rfl,?_⟩
 dsimp only at h1 h2
 refine Qj (q:=bif decide (IntKind.wrap .i64 ((↑n:Int)+(1:Int))>(↑(ByteArray.size b):Int))then endN QmX [] (Qm 2) (b,n) (SV.o (aI 0)) [SB.cells [sI (IntKind.wrap .i64 ((↑n:Int)+(1:Int)))] 3,SB.cells [Seg.one (.v (.string b))] 9]else ((0:Int)<=IntKind.wrap .i64 (IntKind.wrap .i64 ((↑n:Int)+(1:Int))-(1:Int))/\IntKind.wrap .i64 (IntKind.wrap .i64 ((↑n:Int)+(1:Int))-(1:Int))<(↑(ByteArray.size b):Int))/\endN QmX [] (Qm 2) (b,n) (SV.o (aI (IntKind.wrap .i64 (↑(UInt8.toNat (match List.get?Internal (ByteArray.data b).1 (Int.toNat (IntKind.wrap .i64 (IntKind.wrap .i64 ((↑n:Int)+(1:Int))-(1:Int))))with|some x=>x|none=>(0:UInt8))):Int)))) [SB.cells [sI (IntKind.wrap .i64 ((↑n:Int)+(1:Int)))] 3,SB.cells [Seg.one (.v (.string b))] 9]) (by kernel_rfl) ?_
 have e1:IntKind.wrap .i64 ((n:Int)+1)=((n+1:Nat):Int):=by rw[Qw (by omega) (by omega)];omega
 have e2:IntKind.wrap .i64 (((n+1:Nat):Int)-1)=(n:Int):=by rw[Qw (by omega) (by omega)];omega
 rw[e1,e2,Int.toNat_natCast]
 refine Qo (fun h=>⟨(),trivial,congrArg (fun k=>SV.o (SA.c (SC.v (Value.int .i64 k)))) (?_:(0:Int)=(nxB (bF b) b.size n:Nat)),rfl⟩) (fun h=>⟨⟨by omega,by omega⟩,⟨(),trivial,?_,rfl⟩⟩)
 · unfold nxB;rw[if_neg (by omega)];rfl
 · have:=QoT b n
   show SV.o (SA.c (SC.v (Value.int .i64 (IntKind.wrap .i64 ((bF b n:Nat):Int)))))=SV.o (SA.c (SC.v (Value.int .i64 (nxB (bF b) b.size n:Nat))))
   unfold nxB;rw[if_pos (by omega),Qw (by omega) (by omega)]
theorem mv7 {a0 a1 a2 a3 a4 a5 a6 b0 b1 b2 b3 b4 b5 b6:Int}(h0:a0=b0) (h1:a1=b1) (h2:a2=b2) (h3:a3=b3) (h4:a4=b4) (h5:a5=b5) (h6:a6=b6):(⟨a0,a1,a2,a3,a4,a5,a6⟩:Mv)=⟨b0,b1,b2,b3,b4,b5,b6⟩:=by rw[h0,h1,h2,h3,h4,h5,h6]
def Qfb (z:Nat->Nat->Int) (n:Nat) (l:List Int):Nat->Nat->Int:=fun i j=>bif Nat.ble (i+1) n then z i j else match List.get?Internal (match List.get?Internal [l] (0+(i-n))with|some x=>x|none=>[]) j with|some x=>x|none=>0
theorem QlQ (z:Nat->Nat->Int) (n:Nat) (a0 a1 a2 a3 a4 a5 a6:Int):mvAt (Qfb z n [a0,a1,a2,a3,a4,a5,a6]) n=⟨a0,a1,a2,a3,a4,a5,a6⟩:=by
 have e (j:Nat):Qfb z n [a0,a1,a2,a3,a4,a5,a6] n j=match List.get?Internal [a0,a1,a2,a3,a4,a5,a6] j with|some x=>x|none=>0:=by
  unfold Qfb;rw[catF,Nat.sub_self];rfl
 exact mv7 (e 0) (e 1) (e 2) (e 3) (e 4) (e 5) (e 6)
theorem QlP {z:Nat->Nat->Int}{n:Nat}{l:List Int}{q:Nat}(h:q<n):mvAt (Qfb z n l) q=mvAt z q:=mv7 (catT h) (catT h) (catT h) (catT h) (catT h) (catT h) (catT h)
theorem QdE {b:Nat->Nat}{n a k:Nat}{z:Nat->Nat->Int}{L:List Mv}{m:Mv}{a2:Nat}(hz:mvL z k++decN b n (n-a) a k=L) (ha:a<n) (hk:k<3000) {a0 a1 b2 a3 a4 a5 a6:Int}(e:dec1 b n a=(m,a2)) (h1:(⟨a0,a1,b2,a3,a4,a5,a6⟩:Mv)=m):mvL (Qfb z k [a0,a1,b2,a3,a4,a5,a6]) (k+1)++decN b n (n-a2) a2 (k+1)=L:=by
 rw[<- hz,QhU b ha hk,Qjg,QlQ,h1,e,show mvL (Qfb z k [a0,a1,b2,a3,a4,a5,a6]) k=mvL z k from List.map_congr_left fun q hq=>QlP (List.mem_range.1 hq),List.append_assoc];rfl
theorem or_two {x y:Nat}(h:x<256) (k:y<256):bits .or .u64 (IntKind.wrap .u64 (x:Int)) (IntKind.wrap .u64 (IntKind.wrap .u64 (y:Int)*256))=((x ||| y*256:Nat):Int):=by
 rw[Qal (x:=(x:Int)) (by omega) (by omega),Qal (x:=(y:Int)) (by omega) (by omega),Qal (by omega) (by omega),show (y:Int)*256=((y*256:Nat):Int) by omega,Qg9 (by omega) (by omega)]
theorem dec_more (a b:ByteArray):(decL (bF a) a.size).length<=(decL (bF (a++b)) (a++b).size).length/\∀i,i+1<(decL (bF a) a.size).length->(decL (bF (a++b)) (a++b).size)[i]?=(decL (bF a) a.size)[i]?:=
 QhV (b:=bF a) (b':=bF (a++b)) (n:=a.size) (n':=(a++b).size) (by rw[ByteArray.size_append];omega) (fun i hi=>Qqk a b hi) a.size 0 0 (Nat.le_refl _)
theorem mvL_get {z:Nat->Nat->Int}{n i:Nat}(h:i<n):(mvL z n)[i]?=some (mvAt z i):=by
 unfold mvL;rw[List.getElem?_map,List.getElem?_range h];rfl
theorem mv_cells {z z2:Nat->Nat->Int}{i:Nat}(h:mvAt z i=mvAt z2 i):∀j,j<7->z i j=z2 i j:=by
 injection h with h0 h1 h2 h3 h4 h5 h6
 intro j hj
 rcases (show j=0\/j=1\/j=2\/j=3\/j=4\/j=5\/j=6 by omega)with rfl|rfl|rfl|rfl|rfl|rfl|rfl
 · exact h0
 · exact h1
 · exact h2
 · exact h3
 · exact h4
 · exact h5
 · exact h6
structure DcG (s:ByteArray) where
 at_:Nat
 n:Nat
 m:Nat
 c:Nat
 nn:Bool
 z:Nat->Nat->Int
 b:ByteArray
 hb:b=s
 ha:at_<=s.size+3
 hn:n<=3000
 hm:n<=m/\m<=c
 hz:mvL z n++decN (bF s) s.size (s.size-at_) at_ n=decL (bF s) s.size
structure DcR where
 n:Nat
 m:Nat
 c:Nat
 nn:Bool
 z:Nat->Nat->Int
def Qjz:MCon where
 σ:=ByteArray
 χ:=DcR
 pre s:=s.size<=4000
 args s:=[.c (.v (.string s))]
 mem s:=[]
 ok s x:=(x.n<=x.m/\x.m<=x.c)/\mvL x.z x.n=decL (bF s) s.size
 val s x:=.o (.c (.so 0 0 7 x.n x.c x.nn))
 mem' s x:=[Qd8 x.m x.c x.z]
 k:=0
 len:=1
 det:=none
 find args M:=some []
def Qpf (s:ByteArray):Ann where
 σ:=DcG s
 I g:=([(1,.o (.c (.p 0 0))),(3,.o (.c (.so 2 0 7 g.n g.c g.nn))),(4,.o (.c (.p 1 0))),(5,.o (.c (.fn 24 [(1,0),(0,0)])))],[stSB g.b,inSB g.at_,Qd8 g.m g.c g.z])
 dec g:=s.size+4-g.at_
 pi env _:=[blkE env 1,blkE env 4,blkE env 3]
 nz:=[.tmp 3 29 7 [.int .i64,.int .i64,.int .i64,.int .i64,.int .i64,.int .i64,.int .u64]]
theorem dec_con:(Con.mem Qjz).holds Tryz.prog 7:=by
 intro w0 S
 refine Qa (Γ:=[(24,.mem QmX)]) (fun _=>noW) Tryz.func7 rfl (by kernel_rfl) Qf Qc (fun w S' _ _=>.cons (nx_con w S') (.nil _ _ _)) Qjz (fun s=>[(7,[(0,Qpf s)])]) (fun x0 h=>by cases h) (fun s ρ w _ _ _=>Qh w _) [.tmp 0 29 7 [.int .i64,.int .i64,.int .i64,.int .i64,.int .i64,.int .i64,.int .u64]] rpL 2000 ?_
 rintro s w hs -
 refine⟨rfl,?_⟩
 refine Qj (q:=(∃(s0:Ann.σ (Qpf s)),(eS (aP 0 0) (aP 0 0)/\eS (SA.c (.so 2 0 7 0 0 false)) (SA.c (.so 2 0 7 s0.2 s0.4 s0.5))/\eS (aP 1 0) (aP 1 0)/\eS (SA.c (.fn 24 [(1,0),(0,0)])) (SA.c (.fn 24 [(1,0),(0,0)]))/\True)/\[SB.cells [Seg.one (.v (.string s))] 9,SB.cells [sI 0] 3,SB.rows 29 [.int .i64,.int .i64,.int .i64,.int .i64,.int .i64,.int .i64,.int .u64] 7 0 0 fun (x x_1:Nat)=>(0:Int)]=[SB.cells [Seg.one (.v (.string s0.7))] 9,SB.cells [sI (↑s0.1:Int)] 3,SB.rows 29 [.int .i64,.int .i64,.int .i64,.int .i64,.int .i64,.int .i64,.int .u64] 7 s0.3 s0.4 s0.6])/\∀(s_1:DcG s),bif decide ((↑s_1.1:Int)<(↑(ByteArray.size s_1.7):Int))then s_1.2<=s_1.4/\bif decide ((↑s_1.2:Int)<(3000:Int))then ∃(s_2:ByteArray × Nat),[aP 1 0,aP 0 0]=[aP 1 0,aP 0 0]/\[SB.cells [sI (↑s_1.1:Int)] 3,SB.cells [Seg.one (.v (.string s_1.7))] 9]=[SB.cells [sI (↑s_2.2:Int)] 3,SB.cells [Seg.one (.v (.string s_2.1))] 9]/\(s_2.2<=100000/\ByteArray.size s_2.1<=100000)/\∀(x:Unit),True->(4:Int)≠(0:Int)/\(4:Int)≠(0:Int)/\(8:Int)≠(0:Int)/\bif decide (Int.tmod (IntKind.wrap .i64 (Int.tdiv (↑(nxB (fun (i:Nat)=>UInt8.toNat (match List.get?Internal (ByteArray.data s_2.1).1 i with|some x=>x|none=>(0:UInt8))) (ByteArray.size s_2.1) s_2.2):Int) (4:Int))) (8:Int)<(2:Int))then ∃(s_3:ByteArray × Nat),[aP 1 0,aP 0 0]=[aP 1 0,aP 0 0]/\[SB.cells [sI (↑(s_2.2+1):Int)] 3,SB.cells [Seg.one (.v (.string s_2.1))] 9]=[SB.cells [sI (↑s_3.2:Int)] 3,SB.cells [Seg.one (.v (.string s_3.1))] 9]/\(s_3.2<=100000/\ByteArray.size s_3.1<=100000)/\∀(x:Unit),True->(6:Int)≠(0:Int)/\∃(s_4:ByteArray × Nat),[aP 1 0,aP 0 0]=[aP 1 0,aP 0 0]/\[SB.cells [sI (↑(s_3.2+1):Int)] 3,SB.cells [Seg.one (.v (.string s_3.1))] 9]=[SB.cells [sI (↑s_4.2:Int)] 3,SB.cells [Seg.one (.v (.string s_4.1))] 9]/\(s_4.2<=100000/\ByteArray.size s_4.1<=100000)/\∀(x:Unit),True->(5:Int)≠(0:Int)/\∃(s_5:ByteArray × Nat),[aP 1 0,aP 0 0]=[aP 1 0,aP 0 0]/\[SB.cells [sI (↑(s_4.2+1):Int)] 3,SB.cells [Seg.one (.v (.string s_4.1))] 9]=[SB.cells [sI (↑s_5.2:Int)] 3,SB.cells [Seg.one (.v (.string s_5.1))] 9]/\(s_5.2<=100000/\ByteArray.size s_5.1<=100000)/\∀(x:Unit),True->(10:Int)≠(0:Int)/\((s_1.2<=s_1.3/\s_1.4=s_1.4)/\(1<=1/\1=1)/\s_1.2+1<=68719476736)/\∀(c:Nat),s_1.2+1<=c->∃(s':DcG s),((eS (aP 0 0) (aP 0 0)/\eS (SA.c (.so 5 0 7 (s_1.2+1) c s_1.5)) (SA.c (.so 5 0 7 s'.2 s'.4 s'.5))/\eS (aP 1 0) (aP 1 0)/\eS (SA.c (.fn 24 [(1,0),(0,0)])) (SA.c (.fn 24 [(1,0),(0,0)]))/\True)/\[SB.cells [Seg.one (.v (.string s_5.1))] 9,SB.cells [sI (↑(s_5.2+1):Int)] 3,SB.rows 29 [.int .i64,.int .i64,.int .i64,.int .i64,.int .i64,.int .i64,.int .u64] 7 (s_1.2+1) c fun (i j:Nat)=>bif Nat.ble (i+1) s_1.2 then s_1.6 i j else match List.get?Internal (match List.get?Internal [[(1:Int),Int.tmod (↑(nxB (fun (i:Nat)=>UInt8.toNat (match List.get?Internal (ByteArray.data s_2.1).1 i with|some x=>x|none=>(0:UInt8))) (ByteArray.size s_2.1) s_2.2):Int) (4:Int),IntKind.wrap .i64 ((1:Int)+Int.tmod (↑(nxB (fun (i:Nat)=>UInt8.toNat (match List.get?Internal (ByteArray.data s_3.1).1 i with|some x=>x|none=>(0:UInt8))) (ByteArray.size s_3.1) s_3.2):Int) (6:Int)),Int.tmod (↑(nxB (fun (i:Nat)=>UInt8.toNat (match List.get?Internal (ByteArray.data s_4.1).1 i with|some x=>x|none=>(0:UInt8))) (ByteArray.size s_4.1) s_4.2):Int) (5:Int),Int.tmod (↑(nxB (fun (i:Nat)=>UInt8.toNat (match List.get?Internal (ByteArray.data s_5.1).1 i with|some x=>x|none=>(0:UInt8))) (ByteArray.size s_5.1) s_5.2):Int) (10:Int),(0:Int),(0:Int)]] (0+(i-s_1.2))with|some x=>x|none=>[]) j with|some x=>x|none=>(0:Int)]=[SB.cells [Seg.one (.v (.string s'.7))] 9,SB.cells [sI (↑s'.1:Int)] 3,SB.rows 29 [.int .i64,.int .i64,.int .i64,.int .i64,.int .i64,.int .i64,.int .u64] 7 s'.3 s'.4 s'.6])/\ByteArray.size s+1+1+1+1-s'.1<ByteArray.size s+1+1+1+1-s_1.1 else bif decide (Int.tmod (IntKind.wrap .i64 (Int.tdiv (↑(nxB (fun (i:Nat)=>UInt8.toNat (match List.get?Internal (ByteArray.data s_2.1).1 i with|some x=>x|none=>(0:UInt8))) (ByteArray.size s_2.1) s_2.2):Int) (4:Int))) (8:Int)<(6:Int))then ∃(s_3:ByteArray × Nat),[aP 1 0,aP 0 0]=[aP 1 0,aP 0 0]/\[SB.cells [sI (↑(s_2.2+1):Int)] 3,SB.cells [Seg.one (.v (.string s_2.1))] 9]=[SB.cells [sI (↑s_3.2:Int)] 3,SB.cells [Seg.one (.v (.string s_3.1))] 9]/\(s_3.2<=100000/\ByteArray.size s_3.1<=100000)/\∀(x:Unit),True->(100:Int)≠(0:Int)/\((s_1.2<=s_1.3/\s_1.4=s_1.4)/\(1<=1/\1=1)/\s_1.2+1<=68719476736)/\∀(c:Nat),s_1.2+1<=c->∃(s':DcG s),((eS (aP 0 0) (aP 0 0)/\eS (SA.c (.so 5 0 7 (s_1.2+1) c s_1.5)) (SA.c (.so 5 0 7 s'.2 s'.4 s'.5))/\eS (aP 1 0) (aP 1 0)/\eS (SA.c (.fn 24 [(1,0),(0,0)])) (SA.c (.fn 24 [(1,0),(0,0)]))/\True)/\[SB.cells [Seg.one (.v (.string s_3.1))] 9,SB.cells [sI (↑(s_3.2+1):Int)] 3,SB.rows 29 [.int .i64,.int .i64,.int .i64,.int .i64,.int .i64,.int .i64,.int .u64] 7 (s_1.2+1) c fun (i j:Nat)=>bif Nat.ble (i+1) s_1.2 then s_1.6 i j else match List.get?Internal (match List.get?Internal [[(2:Int),Int.tmod (↑(nxB (fun (i:Nat)=>UInt8.toNat (match List.get?Internal (ByteArray.data s_2.1).1 i with|some x=>x|none=>(0:UInt8))) (ByteArray.size s_2.1) s_2.2):Int) (4:Int),(0:Int),(0:Int),(0:Int),IntKind.wrap .i64 ((1:Int)+Int.tmod (↑(nxB (fun (i:Nat)=>UInt8.toNat (match List.get?Internal (ByteArray.data s_3.1).1 i with|some x=>x|none=>(0:UInt8))) (ByteArray.size s_3.1) s_3.2):Int) (100:Int)),(0:Int)]] (0+(i-s_1.2))with|some x=>x|none=>[]) j with|some x=>x|none=>(0:Int)]=[SB.cells [Seg.one (.v (.string s'.7))] 9,SB.cells [sI (↑s'.1:Int)] 3,SB.rows 29 [.int .i64,.int .i64,.int .i64,.int .i64,.int .i64,.int .i64,.int .u64] 7 s'.3 s'.4 s'.6])/\ByteArray.size s+1+1+1+1-s'.1<ByteArray.size s+1+1+1+1-s_1.1 else bif Int.tmod (IntKind.wrap .i64 (Int.tdiv (↑(nxB (fun (i:Nat)=>UInt8.toNat (match List.get?Internal (ByteArray.data s_2.1).1 i with|some x=>x|none=>(0:UInt8))) (ByteArray.size s_2.1) s_2.2):Int) (4:Int))) (8:Int)==(6:Int)then ∃(s_3:ByteArray × Nat),[aP 1 0,aP 0 0]=[aP 1 0,aP 0 0]/\[SB.cells [sI (↑(s_2.2+1):Int)] 3,SB.cells [Seg.one (.v (.string s_2.1))] 9]=[SB.cells [sI (↑s_3.2:Int)] 3,SB.cells [Seg.one (.v (.string s_3.1))] 9]/\(s_3.2<=100000/\ByteArray.size s_3.1<=100000)/\∀(x:Unit),True->(9:Int)≠(0:Int)/\((s_1.2<=s_1.3/\s_1.4=s_1.4)/\(1<=1/\1=1)/\s_1.2+1<=68719476736)/\∀(c:Nat),s_1.2+1<=c->∃(s':DcG s),((eS (aP 0 0) (aP 0 0)/\eS (SA.c (.so 5 0 7 (s_1.2+1) c s_1.5)) (SA.c (.so 5 0 7 s'.2 s'.4 s'.5))/\eS (aP 1 0) (aP 1 0)/\eS (SA.c (.fn 24 [(1,0),(0,0)])) (SA.c (.fn 24 [(1,0),(0,0)]))/\True)/\[SB.cells [Seg.one (.v (.string s_3.1))] 9,SB.cells [sI (↑(s_3.2+1):Int)] 3,SB.rows 29 [.int .i64,.int .i64,.int .i64,.int .i64,.int .i64,.int .i64,.int .u64] 7 (s_1.2+1) c fun (i j:Nat)=>bif Nat.ble (i+1) s_1.2 then s_1.6 i j else match List.get?Internal (match List.get?Internal [[(3:Int),Int.tmod (↑(nxB (fun (i:Nat)=>UInt8.toNat (match List.get?Internal (ByteArray.data s_2.1).1 i with|some x=>x|none=>(0:UInt8))) (ByteArray.size s_2.1) s_2.2):Int) (4:Int),(0:Int),(0:Int),(0:Int),Int.tmod (↑(nxB (fun (i:Nat)=>UInt8.toNat (match List.get?Internal (ByteArray.data s_3.1).1 i with|some x=>x|none=>(0:UInt8))) (ByteArray.size s_3.1) s_3.2):Int) (9:Int),(0:Int)]] (0+(i-s_1.2))with|some x=>x|none=>[]) j with|some x=>x|none=>(0:Int)]=[SB.cells [Seg.one (.v (.string s'.7))] 9,SB.cells [sI (↑s'.1:Int)] 3,SB.rows 29 [.int .i64,.int .i64,.int .i64,.int .i64,.int .i64,.int .i64,.int .u64] 7 s'.3 s'.4 s'.6])/\ByteArray.size s+1+1+1+1-s'.1<ByteArray.size s+1+1+1+1-s_1.1 else bif decide ((↑(nxB (fun (i:Nat)=>UInt8.toNat (match List.get?Internal (ByteArray.data s_2.1).1 i with|some x=>x|none=>(0:UInt8))) (ByteArray.size s_2.1) s_2.2):Int)>=(128:Int))then ∃(s_3:ByteArray × Nat),[aP 1 0,aP 0 0]=[aP 1 0,aP 0 0]/\[SB.cells [sI (↑(s_2.2+1):Int)] 3,SB.cells [Seg.one (.v (.string s_2.1))] 9]=[SB.cells [sI (↑s_3.2:Int)] 3,SB.cells [Seg.one (.v (.string s_3.1))] 9]/\(s_3.2<=100000/\ByteArray.size s_3.1<=100000)/\∀(x:Unit),True->∃(s_4:ByteArray × Nat),[aP 1 0,aP 0 0]=[aP 1 0,aP 0 0]/\[SB.cells [sI (↑(s_3.2+1):Int)] 3,SB.cells [Seg.one (.v (.string s_3.1))] 9]=[SB.cells [sI (↑s_4.2:Int)] 3,SB.cells [Seg.one (.v (.string s_4.1))] 9]/\(s_4.2<=100000/\ByteArray.size s_4.1<=100000)/\∀(x:Unit),True->(0:Int)<=(8:Int)/\((s_1.2<=s_1.3/\s_1.4=s_1.4)/\(1<=1/\1=1)/\s_1.2+1<=68719476736)/\∀(c:Nat),s_1.2+1<=c->∃(s':DcG s),((eS (aP 0 0) (aP 0 0)/\eS (SA.c (.so 5 0 7 (s_1.2+1) c s_1.5)) (SA.c (.so 5 0 7 s'.2 s'.4 s'.5))/\eS (aP 1 0) (aP 1 0)/\eS (SA.c (.fn 24 [(1,0),(0,0)])) (SA.c (.fn 24 [(1,0),(0,0)]))/\True)/\[SB.cells [Seg.one (.v (.string s_4.1))] 9,SB.cells [sI (↑(s_4.2+1):Int)] 3,SB.rows 29 [.int .i64,.int .i64,.int .i64,.int .i64,.int .i64,.int .i64,.int .u64] 7 (s_1.2+1) c fun (i j:Nat)=>bif Nat.ble (i+1) s_1.2 then s_1.6 i j else match List.get?Internal (match List.get?Internal [[(4:Int),Int.tmod (↑(nxB (fun (i:Nat)=>UInt8.toNat (match List.get?Internal (ByteArray.data s_2.1).1 i with|some x=>x|none=>(0:UInt8))) (ByteArray.size s_2.1) s_2.2):Int) (4:Int),(0:Int),(0:Int),(0:Int),(0:Int),bits BinOp.or .u64 (IntKind.wrap .u64 (↑(nxB (fun (i:Nat)=>UInt8.toNat (match List.get?Internal (ByteArray.data s_3.1).1 i with|some x=>x|none=>(0:UInt8))) (ByteArray.size s_3.1) s_3.2):Int)) (IntKind.wrap .u64 (IntKind.wrap .u64 (↑(nxB (fun (i:Nat)=>UInt8.toNat (match List.get?Internal (ByteArray.data s_4.1).1 i with|some x=>x|none=>(0:UInt8))) (ByteArray.size s_4.1) s_4.2):Int)*(256:Int)))]] (0+(i-s_1.2))with|some x=>x|none=>[]) j with|some x=>x|none=>(0:Int)]=[SB.cells [Seg.one (.v (.string s'.7))] 9,SB.cells [sI (↑s'.1:Int)] 3,SB.rows 29 [.int .i64,.int .i64,.int .i64,.int .i64,.int .i64,.int .i64,.int .u64] 7 s'.3 s'.4 s'.6])/\ByteArray.size s+1+1+1+1-s'.1<ByteArray.size s+1+1+1+1-s_1.1 else ((s_1.2<=s_1.3/\s_1.4=s_1.4)/\(1<=1/\1=1)/\s_1.2+1<=68719476736)/\∀(c:Nat),s_1.2+1<=c->∃(s':DcG s),((eS (aP 0 0) (aP 0 0)/\eS (SA.c (.so 5 0 7 (s_1.2+1) c s_1.5)) (SA.c (.so 5 0 7 s'.2 s'.4 s'.5))/\eS (aP 1 0) (aP 1 0)/\eS (SA.c (.fn 24 [(1,0),(0,0)])) (SA.c (.fn 24 [(1,0),(0,0)]))/\True)/\[SB.cells [Seg.one (.v (.string s_2.1))] 9,SB.cells [sI (↑(s_2.2+1):Int)] 3,SB.rows 29 [.int .i64,.int .i64,.int .i64,.int .i64,.int .i64,.int .i64,.int .u64] 7 (s_1.2+1) c fun (i j:Nat)=>bif Nat.ble (i+1) s_1.2 then s_1.6 i j else match List.get?Internal (match List.get?Internal [[(2:Int),Int.tmod (↑(nxB (fun (i:Nat)=>UInt8.toNat (match List.get?Internal (ByteArray.data s_2.1).1 i with|some x=>x|none=>(0:UInt8))) (ByteArray.size s_2.1) s_2.2):Int) (4:Int),(0:Int),(0:Int),(0:Int),(1:Int),(0:Int)]] (0+(i-s_1.2))with|some x=>x|none=>[]) j with|some x=>x|none=>(0:Int)]=[SB.cells [Seg.one (.v (.string s'.7))] 9,SB.cells [sI (↑s'.1:Int)] 3,SB.rows 29 [.int .i64,.int .i64,.int .i64,.int .i64,.int .i64,.int .i64,.int .u64] 7 s'.3 s'.4 s'.6])/\ByteArray.size s+1+1+1+1-s'.1<ByteArray.size s+1+1+1+1-s_1.1 else endN Qjz [NZ.tmp 0 29 7 [.int .i64,.int .i64,.int .i64,.int .i64,.int .i64,.int .i64,.int .u64]] rpL s (SV.o (SA.c (.so 2 0 7 s_1.2 s_1.4 s_1.5))) [SB.cells [Seg.one (.v (.string s_1.7))] 9,SB.cells [sI (↑s_1.1:Int)] 3,SB.rows 29 [.int .i64,.int .i64,.int .i64,.int .i64,.int .i64,.int .i64,.int .u64] 7 s_1.3 s_1.4 s_1.6]else endN Qjz [NZ.tmp 0 29 7 [.int .i64,.int .i64,.int .i64,.int .i64,.int .i64,.int .i64,.int .u64]] rpL s (SV.o (SA.c (.so 2 0 7 s_1.2 s_1.4 s_1.5))) [SB.cells [Seg.one (.v (.string s_1.7))] 9,SB.cells [sI (↑s_1.1:Int)] 3,SB.rows 29 [.int .i64,.int .i64,.int .i64,.int .i64,.int .i64,.int .i64,.int .u64] 7 s_1.3 s_1.4 s_1.6]) (by kernel_rfl) ?_
 have hs:s.size<=4000:=hs
 refine⟨⟨⟨0,0,0,0,false,_,s,rfl,Nat.zero_le _,Nat.zero_le _,⟨Nat.le_refl _,Nat.le_refl _⟩,rfl⟩,⟨rfl,rfl,rfl,rfl,trivial⟩,rfl⟩,?_⟩
 rintro⟨a,n,m,c,nn,z,b,hb,ha,hn,hm,hz⟩
 subst hb
 dsimp only
 refine Qo (fun hlt=>⟨by omega,Qo (fun h3=>?_) (fun h3=>?_)⟩) (fun hge=>?_)
 · have hlt':a<b.size:=by omega
   have h3':n<3000:=by omega
   have x0:=Qf4 (QoT b) b.size a
   have x1:=Qf4 (QoT b) b.size (a+1)
   have x2:=Qf4 (QoT b) b.size (a+2)
   have ew:IntKind.wrap .i64 (((nxB (bF b) b.size a/4:Nat)):Int)=((nxB (bF b) b.size a/4:Nat):Int):=Qw (by omega) (by omega)
   refine⟨(b,a),rfl,rfl,⟨(by show a<=100000;omega),(by show b.size<=100000;omega)⟩,fun _ _=>⟨by decide,by decide,by decide,Qo (fun h=>?_) (fun hn0=>Qo (fun h=>?_) (fun hn1=>Q5 (fun h=>?_) (fun hn2=>Qo (fun h=>?_) (fun hn4=>?_))))⟩⟩
   · have h:Int.tmod (IntKind.wrap .i64 (((nxB (bF b) b.size a/4:Nat)):Int)) 8<2:=h
     rw[ew]at h
     have h:((nxB (bF b) b.size a/4%8:Nat):Int)<2:=h
     refine⟨(b,a+1),rfl,rfl,⟨(by show a+1<=100000;omega),(by show b.size<=100000;omega)⟩,fun _ _=>⟨by decide,(b,a+2),rfl,rfl,⟨(by show a+2<=100000;omega),(by show b.size<=100000;omega)⟩,fun _ _=>⟨by decide,(b,a+3),rfl,rfl,⟨(by show a+3<=100000;omega),(by show b.size<=100000;omega)⟩,fun _ _=>⟨by decide,⟨⟨hm.1,rfl⟩,⟨Nat.le_refl _,rfl⟩,by omega⟩,fun c' hc'=>⟨⟨a+4,n+1,n+1,c',nn,Qfb z n _,b,rfl,by omega,by omega,⟨Nat.le_refl _,hc'⟩,?_⟩,⟨⟨rfl,rfl,rfl,rfl,trivial⟩,rfl⟩,by dsimp only;omega⟩⟩⟩⟩⟩
     exact QdE hz hlt' h3' (if_pos (by omega)) (mv7 rfl rfl (Qw (x:=1+((nxB (bF b) b.size (a+1)%6:Nat):Int)) (by omega) (by omega)) rfl rfl rfl rfl)
   · skip
     have hn0:¬Int.tmod (IntKind.wrap .i64 (((nxB (bF b) b.size a/4:Nat)):Int)) 8<2:=hn0
     rw[ew]at hn0
     have hn0:¬((nxB (bF b) b.size a/4%8:Nat):Int)<2:=hn0
     have h:Int.tmod (IntKind.wrap .i64 (((nxB (bF b) b.size a/4:Nat)):Int)) 8<6:=h
     rw[ew]at h
     have h:((nxB (bF b) b.size a/4%8:Nat):Int)<6:=h
     refine⟨(b,a+1),rfl,rfl,⟨(by show a+1<=100000;omega),(by show b.size<=100000;omega)⟩,fun _ _=>⟨by decide,⟨⟨⟨hm.1,rfl⟩,⟨Nat.le_refl _,rfl⟩,by omega⟩,fun c' hc'=>⟨⟨a+2,n+1,n+1,c',nn,Qfb z n _,b,rfl,by omega,by omega,⟨Nat.le_refl _,hc'⟩,?_⟩,⟨⟨rfl,rfl,rfl,rfl,trivial⟩,rfl⟩,by dsimp only;omega⟩⟩⟩⟩
     exact QdE hz hlt' h3' ((if_neg (by omega)).trans (if_pos (by omega))) (mv7 rfl rfl rfl rfl rfl (Qw (x:=1+((nxB (bF b) b.size (a+1)%100:Nat):Int)) (by omega) (by omega)) rfl)
   · skip
     have hn0:¬Int.tmod (IntKind.wrap .i64 (((nxB (bF b) b.size a/4:Nat)):Int)) 8<2:=hn0
     rw[ew]at hn0
     have hn0:¬((nxB (bF b) b.size a/4%8:Nat):Int)<2:=hn0
     have hn1:¬Int.tmod (IntKind.wrap .i64 (((nxB (bF b) b.size a/4:Nat)):Int)) 8<6:=hn1
     rw[ew]at hn1
     have hn1:¬((nxB (bF b) b.size a/4%8:Nat):Int)<6:=hn1
     have h:Int.tmod (IntKind.wrap .i64 (((nxB (bF b) b.size a/4:Nat)):Int)) 8=6:=h
     rw[ew]at h
     have h:((nxB (bF b) b.size a/4%8:Nat):Int)=6:=h
     refine⟨(b,a+1),rfl,rfl,⟨(by show a+1<=100000;omega),(by show b.size<=100000;omega)⟩,fun _ _=>⟨by decide,⟨⟨⟨hm.1,rfl⟩,⟨Nat.le_refl _,rfl⟩,by omega⟩,fun c' hc'=>⟨⟨a+2,n+1,n+1,c',nn,Qfb z n _,b,rfl,by omega,by omega,⟨Nat.le_refl _,hc'⟩,?_⟩,⟨⟨rfl,rfl,rfl,rfl,trivial⟩,rfl⟩,by dsimp only;omega⟩⟩⟩⟩
     exact QdE hz hlt' h3' ((if_neg (by omega)).trans ((if_neg (by omega)).trans (if_pos (by omega)))) (mv7 rfl rfl rfl rfl rfl rfl rfl)
   · skip
     have hn0:¬Int.tmod (IntKind.wrap .i64 (((nxB (bF b) b.size a/4:Nat)):Int)) 8<2:=hn0
     rw[ew]at hn0
     have hn0:¬((nxB (bF b) b.size a/4%8:Nat):Int)<2:=hn0
     have hn1:¬Int.tmod (IntKind.wrap .i64 (((nxB (bF b) b.size a/4:Nat)):Int)) 8<6:=hn1
     rw[ew]at hn1
     have hn1:¬((nxB (bF b) b.size a/4%8:Nat):Int)<6:=hn1
     have hn2:¬Int.tmod (IntKind.wrap .i64 (((nxB (bF b) b.size a/4:Nat)):Int)) 8=6:=hn2
     rw[ew]at hn2
     have hn2:¬((nxB (bF b) b.size a/4%8:Nat):Int)=6:=hn2
     have h:((nxB (bF b) b.size a:Nat):Int)>=128:=h
     refine⟨(b,a+1),rfl,rfl,⟨(by show a+1<=100000;omega),(by show b.size<=100000;omega)⟩,fun _ _=>⟨(b,a+2),rfl,rfl,⟨(by show a+2<=100000;omega),(by show b.size<=100000;omega)⟩,fun _ _=>⟨by decide,⟨⟨⟨hm.1,rfl⟩,⟨Nat.le_refl _,rfl⟩,by omega⟩,fun c' hc'=>⟨⟨a+3,n+1,n+1,c',nn,Qfb z n _,b,rfl,by omega,by omega,⟨Nat.le_refl _,hc'⟩,?_⟩,⟨⟨rfl,rfl,rfl,rfl,trivial⟩,rfl⟩,by dsimp only;omega⟩⟩⟩⟩⟩
     exact QdE hz hlt' h3' ((if_neg (by omega)).trans ((if_neg (by omega)).trans ((if_neg (by omega)).trans (if_pos (by omega))))) (mv7 rfl rfl rfl rfl rfl rfl (or_two x1 x2))
   · skip
     have hn0:¬Int.tmod (IntKind.wrap .i64 (((nxB (bF b) b.size a/4:Nat)):Int)) 8<2:=hn0
     rw[ew]at hn0
     have hn0:¬((nxB (bF b) b.size a/4%8:Nat):Int)<2:=hn0
     have hn1:¬Int.tmod (IntKind.wrap .i64 (((nxB (bF b) b.size a/4:Nat)):Int)) 8<6:=hn1
     rw[ew]at hn1
     have hn1:¬((nxB (bF b) b.size a/4%8:Nat):Int)<6:=hn1
     have hn2:¬Int.tmod (IntKind.wrap .i64 (((nxB (bF b) b.size a/4:Nat)):Int)) 8=6:=hn2
     rw[ew]at hn2
     have hn2:¬((nxB (bF b) b.size a/4%8:Nat):Int)=6:=hn2
     have h:¬((nxB (bF b) b.size a:Nat):Int)>=128:=hn4
     refine⟨⟨⟨hm.1,rfl⟩,⟨Nat.le_refl _,rfl⟩,by omega⟩,fun c' hc'=>⟨⟨a+1,n+1,n+1,c',nn,Qfb z n _,b,rfl,by omega,by omega,⟨Nat.le_refl _,hc'⟩,?_⟩,⟨⟨rfl,rfl,rfl,rfl,trivial⟩,rfl⟩,by dsimp only;omega⟩⟩
     exact QdE hz hlt' h3' ((if_neg (by omega)).trans ((if_neg (by omega)).trans ((if_neg (by omega)).trans (if_neg (by omega))))) (mv7 rfl rfl rfl rfl rfl rfl rfl)
 · rw[QeU (bF b) (by omega)]at hz
   exact Qi rfl ⟨n,m,c,nn,z⟩ ⟨hm,(List.append_nil _).symm.trans hz⟩ rfl rfl rfl
 · rw[QeU (bF b) (by omega)]at hz
   exact Qi rfl ⟨n,m,c,nn,z⟩ ⟨hm,(List.append_nil _).symm.trans hz⟩ rfl rfl rfl
structure EqMS where
 n:Nat
 m:Nat
 c:Nat
 nn:Bool
 z:Nat->Nat->Int
 m2:Nat
 c2:Nat
 nn2:Bool
 z2:Nat->Nat->Int
structure EqMG (s:EqMS) where
 i:Nat
 hi:i<=s.n
def QhZ:MCon:=dcon EqMS (fun s=>s.n<=1000000000/\(s.n<=s.m/\s.m<=s.c)/\(s.n<=s.m2/\s.m2<=s.c2)/\∀i,i<s.n->∀j,j<7->s.z i j=s.z2 i j)
 (fun s=>[.c (.so 0 0 7 s.n s.c s.nn),.c (.so 1 0 7 s.n s.c2 s.nn2)]) (fun s=>[Qd8 s.m s.c s.z,Qd8 s.m2 s.c2 s.z2]) (fun s=>sv (.bool true)) (fun s=>[Qd8 s.m s.c s.z,Qd8 s.m2 s.c2 s.z2]) 2 (fun args _=>some (blkA args))
def Qpe (s:EqMS):Ann where
 σ:=EqMG s
 I g:=([(0,.o (.c (.so 0 0 7 s.n s.c s.nn))),(1,.o (.c (.so 1 0 7 s.n s.c2 s.nn2))),(12,sv (.int .i64 s.n)),(13,sv (.int .i64 g.i))],[Qd8 s.m s.c s.z,Qd8 s.m2 s.c2 s.z2])
 dec g:=s.n-g.i
 pi _ _:=[0,1]
 nz:=[]
theorem eqM_con:(Con.mem QhZ).holds Tryz.prog 9:=by
 intro w0 S
 refine Qa (Γ:=[]) (fun _=>noW) Tryz.func9 rfl (by kernel_rfl) Qf Qc (fun _ _ _ _=>.nil _ _ _) QhZ (fun s=>[(9,[(0,Qpe s)])]) (fun x0 h s x=>⟨rfl,trivial⟩) (fun s ρ w _ _ _=>Qh w _) [] (fun _ M=>[0,1]) 400 ?_
 rintro⟨n,m,c,nn,z,m2,c2,nn2,z2⟩ w ⟨h0,h1,h3,he⟩ -
 refine⟨rfl,?_⟩
 dsimp only at h0 h1 h3 he
 refine Qj (q:=n<=c/\n<=c2/\bif (↑n:Int) != (↑n:Int)then endN QhZ [] (fun (x:SV) (M:List SB)=>[0,1]) (EqMS.mk n m c nn z m2 c2 nn2 z2) (SV.o (aB false)) [SB.rows 29 [.int .i64,.int .i64,.int .i64,.int .i64,.int .i64,.int .i64,.int .u64] 7 m c z,SB.rows 29 [.int .i64,.int .i64,.int .i64,.int .i64,.int .i64,.int .i64,.int .u64] 7 m2 c2 z2]else n<=c/\(∃(s0:Ann.σ (Qpe (EqMS.mk n m c nn z m2 c2 nn2 z2))),(eS (SA.c (.so 0 0 7 n c nn)) (SA.c (.so 0 0 7 n c nn))/\eS (SA.c (.so 1 0 7 n c2 nn2)) (SA.c (.so 1 0 7 n c2 nn2))/\eS (aI ↑n) (aI ↑n)/\eS (aI 0) (aI ↑s0.1)/\True)/\[SB.rows 29 [.int .i64,.int .i64,.int .i64,.int .i64,.int .i64,.int .i64,.int .u64] 7 m c z,SB.rows 29 [.int .i64,.int .i64,.int .i64,.int .i64,.int .i64,.int .i64,.int .u64] 7 m2 c2 z2]=[SB.rows 29 [.int .i64,.int .i64,.int .i64,.int .i64,.int .i64,.int .i64,.int .u64] 7 m c z,SB.rows 29 [.int .i64,.int .i64,.int .i64,.int .i64,.int .i64,.int .i64,.int .u64] 7 m2 c2 z2])/\∀(s:EqMG (EqMS.mk n m c nn z m2 c2 nn2 z2)),bif decide ((↑s.1:Int)<(↑n:Int))then ((0:Int)<=(↑s.1:Int)/\(↑s.1:Int)<(↑n:Int)/\0+n<=c)/\0+Int.toNat (↑s.1:Int)<m/\((0:Int)<=(↑s.1:Int)/\(↑s.1:Int)<(↑n:Int)/\0+n<=c2)/\0+Int.toNat (↑s.1:Int)<m2/\dP Tryz.f9 6 2 [xE 8,xR 7 1,xF 6 1,xE 5,xF 4 1,xR 3 0,xF 2 0,xE 1,xF 0 0]/\bif bif bif z (0+Int.toNat (↑s.1:Int)) 0==z2 (0+Int.toNat (↑s.1:Int)) 0 then bif z (0+Int.toNat (↑s.1:Int)) 1==z2 (0+Int.toNat (↑s.1:Int)) 1 then bif z (0+Int.toNat (↑s.1:Int)) 2==z2 (0+Int.toNat (↑s.1:Int)) 2 then bif z (0+Int.toNat (↑s.1:Int)) 3==z2 (0+Int.toNat (↑s.1:Int)) 3 then bif z (0+Int.toNat (↑s.1:Int)) 4==z2 (0+Int.toNat (↑s.1:Int)) 4 then bif z (0+Int.toNat (↑s.1:Int)) 5==z2 (0+Int.toNat (↑s.1:Int)) 5 then bif z (0+Int.toNat (↑s.1:Int)) 6==z2 (0+Int.toNat (↑s.1:Int)) 6 then true else false else false else false else false else false else false else false then false else true then endN QhZ [] (fun (x:SV) (M:List SB)=>[0,1]) (EqMS.mk n m c nn z m2 c2 nn2 z2) (SV.o (aB false)) [SB.rows 29 [.int .i64,.int .i64,.int .i64,.int .i64,.int .i64,.int .i64,.int .u64] 7 m c z,SB.rows 29 [.int .i64,.int .i64,.int .i64,.int .i64,.int .i64,.int .i64,.int .u64] 7 m2 c2 z2]else ∃(s':EqMG (EqMS.mk n m c nn z m2 c2 nn2 z2)),((eS (SA.c (.so 0 0 7 n c nn)) (SA.c (.so 0 0 7 n c nn))/\eS (SA.c (.so 1 0 7 n c2 nn2)) (SA.c (.so 1 0 7 n c2 nn2))/\eS (aI ↑n) (aI ↑n)/\eS (aI (IntKind.wrap .i64 ((↑s.1:Int)+(1:Int)))) (aI ↑s'.1)/\True)/\[SB.rows 29 [.int .i64,.int .i64,.int .i64,.int .i64,.int .i64,.int .i64,.int .u64] 7 m c z,SB.rows 29 [.int .i64,.int .i64,.int .i64,.int .i64,.int .i64,.int .i64,.int .u64] 7 m2 c2 z2]=[SB.rows 29 [.int .i64,.int .i64,.int .i64,.int .i64,.int .i64,.int .i64,.int .u64] 7 m c z,SB.rows 29 [.int .i64,.int .i64,.int .i64,.int .i64,.int .i64,.int .i64,.int .u64] 7 m2 c2 z2])/\n-s'.1<n-s.1 else endN QhZ [] (fun (x:SV) (M:List SB)=>[0,1]) (EqMS.mk n m c nn z m2 c2 nn2 z2) (SV.o (aB true)) [SB.rows 29 [.int .i64,.int .i64,.int .i64,.int .i64,.int .i64,.int .i64,.int .u64] 7 m c z,SB.rows 29 [.int .i64,.int .i64,.int .i64,.int .i64,.int .i64,.int .i64,.int .u64] 7 m2 c2 z2]) (by kernel_rfl) ?_
 refine⟨by omega,by omega,Qy (fun h=>absurd rfl h) (fun _=>⟨by omega,⟨⟨0,Nat.zero_le _⟩,⟨rfl,rfl,rfl,rfl,trivial⟩,rfl⟩,?_⟩)⟩
 rintro⟨i,hi⟩
 dsimp only at hi ⊢
 refine Qo (fun hlt=>?_) (fun hge=>⟨(),trivial,rfl,rfl⟩)
 have hlt':i<n:=by omega
 rw[Int.toNat_natCast,Nat.zero_add i,he i hlt' 0 (by decide),he i hlt' 1 (by decide),he i hlt' 2 (by decide),he i hlt' 3 (by decide),he i hlt' 4 (by decide),he i hlt' 5 (by decide),he i hlt' 6 (by decide)]
 exact⟨⟨by omega,by omega,by omega⟩,by omega,⟨by omega,by omega,by omega⟩,by omega,Qe (by kernel_rfl),Xr (fun h=>absurd h (by simp)) (fun _=>⟨⟨i+1,hlt'⟩,⟨⟨rfl,rfl,rfl,svI (sucI (by omega)),trivial⟩,rfl⟩,by dsimp only;omega⟩)⟩
structure PlO where
 k:Int
 n:Nat
 m:Nat
 c:Nat
 nn:Bool
 z:Nat->Nat->Int
def QgX:MCon where
 σ:=PlO
 χ:=List Nat
 pre s:=(1<=s.k/\s.k<=6)/\s.n<=3000/\(s.n<=s.m/\s.m<=s.c)/\∀i,i<s.n->U64 (s.z i 6)
 args s:=[.c (.v (.int .i64 s.k)),.c (.so 0 0 7 s.n s.c s.nn)]
 mem s:=[Qd8 s.m s.c s.z]
 ok s x:=True
 val s x:=.t [.c (.p 1 0),.c (.v .nilIface)]
 mem' s x:=[Qd8 s.m s.c s.z,.abs (QB shM ShS.z ShS.good (Qao s.k (mvL s.z s.n))) x]
 k:=1
 len:=2
 det:=none
 find args M:=match args with
  |[_,.c (.so b _ _ _ _ _)]=>some [b]
  |_=>none
structure PlOG (s:PlO) where
 i:Nat
 F:List Nat
 hi:i<=s.n
def QjG (s:PlO):Ann where
 σ:=PlOG s
 I g:=([(6,.o (.c (.p 1 0))),(18,.o (.c (.so 0 0 7 s.n s.c s.nn))),(19,sv (.int .i64 s.n)),(20,sv (.int .i64 g.i))],[Qd8 s.m s.c s.z,.abs (QB shM ShS.z ShS.good (Qao s.k (mvL s.z g.i))) g.F])
 dec g:=s.n-g.i
 pi env _:=[0,blkE env 6]
 nz:=[]
theorem playO_con:(Con.mem QgX).holds Tryz.prog 26:=by
 intro w0 S
 refine Qa (Γ:=[(17,.mem QiL),(18,.mem callA.sh),(20,.mem QlF.sh),(38,.mem evC.sh),(21,.mem craC.sh)]) (fun _=>noW) Tryz.func26 rfl (by kernel_rfl) Qf Qc (fun w S' _ _=>.cons (newH w _) (.cons (callH w _) (.cons (runH w _) (.cons (evH w _) (.cons (craH w _) (.nil _ _ _)))))) QgX (fun s=>[(26,[(0,QjG s)])]) (fun x0 h=>by cases h)
  (fun s ρ w _ _ _=>Qh w _) [] (fun x M=>match x with
  |.t [.c (.p b _),_]=>[0,b]
  |_=>[]) 600 ?_
 rintro⟨k,n,m,c,nn,z⟩ w ⟨⟨h1,h6⟩,hn,hm,hu⟩ -
 refine⟨rfl,?_⟩
 refine Qj (q:=∃(s:NewS),[aI k]=[aI s.1]/\eN/\((1:Int)<=s.1/\s.1<=(6:Int))/\∀(x:List Nat),True->n<=c/\(∃(s0:Ann.σ (QjG (PlO.mk k n m c nn z))),(eS (aP 1 0) (aP 1 0)/\eS (SA.c (.so 0 0 7 n c nn)) (SA.c (.so 0 0 7 n c nn))/\eS (aI ↑n) (aI ↑n)/\eS (aI 0) (aI ↑s0.1)/\True)/\[SB.rows 29 [.int .i64,.int .i64,.int .i64,.int .i64,.int .i64,.int .i64,.int .u64] 7 m c z,SB.abs (QB shM ShS.z ShS.good (Sh.new s.1)) x]=[SB.rows 29 [.int .i64,.int .i64,.int .i64,.int .i64,.int .i64,.int .i64,.int .u64] 7 m c z,SB.abs (QB shM ShS.z ShS.good (Qao k (mvL z s0.1))) s0.2])/\∀(s:PlOG (PlO.mk k n m c nn z)),bif decide ((↑s.1:Int)<(↑n:Int))then ((0:Int)<=(↑s.1:Int)/\(↑s.1:Int)<(↑n:Int)/\0+n<=c)/\0+Int.toNat (↑s.1:Int)<m/\bif z (0+Int.toNat (↑s.1:Int)) 0==(1:Int)then ∃(s_1:Sh × (Int × OpA) × List Nat),[aP 1 0,aI (z (0+Int.toNat (↑s.1:Int)) 1),SA.a [sI (z (0+Int.toNat (↑s.1:Int)) 2),sI (z (0+Int.toNat (↑s.1:Int)) 3),sI (z (0+Int.toNat (↑s.1:Int)) 4)]]=[aP 1 0,aI s_1.2.1.1,SA.a [sI s_1.2.1.2.1,sI s_1.2.1.2.2,sI s_1.2.1.2.3]]/\[SB.abs (QB shM ShS.z ShS.good (Qao k (mvL z s.1))) s.2]=[SB.abs (QB shM ShS.z ShS.good s_1.1) s_1.2.2]/\CallOK s_1.1/\∀(x:List Nat × Unit),True->∃(s':PlOG (PlO.mk k n m c nn z)),((eS (aP 1 0) (aP 1 0)/\eS (SA.c (.so 0 0 7 n c nn)) (SA.c (.so 0 0 7 n c nn))/\eS (aI ↑n) (aI ↑n)/\eS (aI (IntKind.wrap .i64 ((↑s.1:Int)+(1:Int)))) (aI ↑s'.1)/\True)/\[SB.rows 29 [.int .i64,.int .i64,.int .i64,.int .i64,.int .i64,.int .i64,.int .u64] 7 m c z,SB.abs (QB shM ShS.z ShS.good (bif inT s_1.2.1.1 then Sh.call s_1.1 (Int.toNat s_1.2.1.1) s_1.2.1.2.1 s_1.2.1.2.2 s_1.2.1.2.3 else s_1.1)) x.1]=[SB.rows 29 [.int .i64,.int .i64,.int .i64,.int .i64,.int .i64,.int .i64,.int .u64] 7 m c z,SB.abs (QB shM ShS.z ShS.good (Qao k (mvL z s'.1))) s'.2])/\n-s'.1<n-s.1 else bif z (0+Int.toNat (↑s.1:Int)) 0==(2:Int)then ∃(s_1:Sh × (Int × Int) × List Nat),[aP 1 0,aI (z (0+Int.toNat (↑s.1:Int)) 1),aI (z (0+Int.toNat (↑s.1:Int)) 5)]=[aP 1 0,aI s_1.2.1.1,aI s_1.2.1.2]/\[SB.abs (QB shM ShS.z ShS.good (Qao k (mvL z s.1))) s.2]=[SB.abs (QB shM ShS.z ShS.good s_1.1) s_1.2.2]/\(inT s_1.2.1.1=true->RunOK s_1.1 (Int.toNat s_1.2.1.1) s_1.2.1.2)/\∀(x:List Nat × Unit),True->∃(s':PlOG (PlO.mk k n m c nn z)),((eS (aP 1 0) (aP 1 0)/\eS (SA.c (.so 0 0 7 n c nn)) (SA.c (.so 0 0 7 n c nn))/\eS (aI ↑n) (aI ↑n)/\eS (aI (IntKind.wrap .i64 ((↑s.1:Int)+(1:Int)))) (aI ↑s'.1)/\True)/\[SB.rows 29 [.int .i64,.int .i64,.int .i64,.int .i64,.int .i64,.int .i64,.int .u64] 7 m c z,SB.abs (QB shM ShS.z ShS.good (Sh.runA s_1.1 s_1.2.1.1 s_1.2.1.2)) x.1]=[SB.rows 29 [.int .i64,.int .i64,.int .i64,.int .i64,.int .i64,.int .i64,.int .u64] 7 m c z,SB.abs (QB shM ShS.z ShS.good (Qao k (mvL z s'.1))) s'.2])/\n-s'.1<n-s.1 else bif z (0+Int.toNat (↑s.1:Int)) 0==(3:Int)then ∃(s_1:Sh × Int × List Nat),[aP 1 0,aI (z (0+Int.toNat (↑s.1:Int)) 5)]=[aP 1 0,aI s_1.2.1]/\[SB.abs (QB shM ShS.z ShS.good (Qao k (mvL z s.1))) s.2]=[SB.abs (QB shM ShS.z ShS.good s_1.1) s_1.2.2]/\True/\∀(x:List Nat × Unit),True->∃(s':PlOG (PlO.mk k n m c nn z)),((eS (aP 1 0) (aP 1 0)/\eS (SA.c (.so 0 0 7 n c nn)) (SA.c (.so 0 0 7 n c nn))/\eS (aI ↑n) (aI ↑n)/\eS (aI (IntKind.wrap .i64 ((↑s.1:Int)+(1:Int)))) (aI ↑s'.1)/\True)/\[SB.rows 29 [.int .i64,.int .i64,.int .i64,.int .i64,.int .i64,.int .i64,.int .u64] 7 m c z,SB.abs (QB shM ShS.z ShS.good (Sh.evict s_1.1 s_1.2.1)) x.1]=[SB.rows 29 [.int .i64,.int .i64,.int .i64,.int .i64,.int .i64,.int .i64,.int .u64] 7 m c z,SB.abs (QB shM ShS.z ShS.good (Qao k (mvL z s'.1))) s'.2])/\n-s'.1<n-s.1 else bif z (0+Int.toNat (↑s.1:Int)) 0==(4:Int)then ∃(s_1:Sh × Int × List Nat),[aP 1 0,aU (z (0+Int.toNat (↑s.1:Int)) 6)]=[aP 1 0,aU s_1.2.1]/\[SB.abs (QB shM ShS.z ShS.good (Qao k (mvL z s.1))) s.2]=[SB.abs (QB shM ShS.z ShS.good s_1.1) s_1.2.2]/\Qk6 s_1.1 s_1.2.1/\∀(x:List Nat × Unit),True->∃(s':PlOG (PlO.mk k n m c nn z)),((eS (aP 1 0) (aP 1 0)/\eS (SA.c (.so 0 0 7 n c nn)) (SA.c (.so 0 0 7 n c nn))/\eS (aI ↑n) (aI ↑n)/\eS (aI (IntKind.wrap .i64 ((↑s.1:Int)+(1:Int)))) (aI ↑s'.1)/\True)/\[SB.rows 29 [.int .i64,.int .i64,.int .i64,.int .i64,.int .i64,.int .i64,.int .u64] 7 m c z,SB.abs (QB shM ShS.z ShS.good (Sh.crash s_1.1 s_1.2.1)) x.1]=[SB.rows 29 [.int .i64,.int .i64,.int .i64,.int .i64,.int .i64,.int .i64,.int .u64] 7 m c z,SB.abs (QB shM ShS.z ShS.good (Qao k (mvL z s'.1))) s'.2])/\n-s'.1<n-s.1 else ∃(s':PlOG (PlO.mk k n m c nn z)),((eS (aP 1 0) (aP 1 0)/\eS (SA.c (.so 0 0 7 n c nn)) (SA.c (.so 0 0 7 n c nn))/\eS (aI ↑n) (aI ↑n)/\eS (aI (IntKind.wrap .i64 ((↑s.1:Int)+(1:Int)))) (aI ↑s'.1)/\True)/\[SB.rows 29 [.int .i64,.int .i64,.int .i64,.int .i64,.int .i64,.int .i64,.int .u64] 7 m c z,SB.abs (QB shM ShS.z ShS.good (Qao k (mvL z s.1))) s.2]=[SB.rows 29 [.int .i64,.int .i64,.int .i64,.int .i64,.int .i64,.int .i64,.int .u64] 7 m c z,SB.abs (QB shM ShS.z ShS.good (Qao k (mvL z s'.1))) s'.2])/\n-s'.1<n-s.1 else endN QgX [] (fun (x:SV) (M:List SB)=>match x with|SV.t [SA.c (.p b off),head]=>[0,b]|x=>[]) (PlO.mk k n m c nn z) (SV.t [aP 1 0,SA.c (.v Value.nilIface)]) [SB.rows 29 [.int .i64,.int .i64,.int .i64,.int .i64,.int .i64,.int .i64,.int .u64] 7 m c z,SB.abs (QB shM ShS.z ShS.good (Qao k (mvL z s.1))) s.2]) (by kernel_rfl) ?_
 have h1:1<=k:=h1
 have h6:k<=6:=h6
 have hn:n<=3000:=hn
 have hm:n<=m/\m<=c:=hm
 have hu:∀i,i<n->U64 (z i 6):=hu
 refine⟨⟨k⟩,rfl,rfl,⟨h1,h6⟩,fun x _=>⟨Nat.le_trans hm.1 hm.2,⟨⟨0,x,Nat.zero_le _⟩,⟨rfl,rfl,rfl,rfl,trivial⟩,rfl⟩,?_⟩⟩
 rintro⟨i,F,hi⟩
 have hi:i<=n:=hi
 dsimp only
 have e0:0+(i:Int).toNat=i:=by rw[Int.toNat_natCast,Nat.zero_add]
 rw[e0]
 obtain⟨g,Fi,hs⟩:=Qju h1 h6 i (mvL z i) (QpO z i) (by omega)
 have hs2:(Qao k (mvL z i)).steps<100000000:=by omega
 have enx:Qao k (mvL z (i+1))=(Qao k (mvL z i)).move (mvAt z i):=by rw[Qjg,Qf2]
 refine Qo (fun hlt=>?_) (fun hge=>?_)
 · have hlt':i<n:=by omega
   have go (S:Sh) (G:List Nat) (e:S=Qao k (mvL z (i+1))):[Qd8 m c z,SB.abs (QB shM ShS.z ShS.good S) G]=[Qd8 m c z,SB.abs (QB shM ShS.z ShS.good (Qao k (mvL z (i+1)))) G]:=by rw[e]
   refine⟨⟨by omega,hlt,by omega⟩,by omega,Q5 (fun hk=>?_) (fun hk1=>Q5 (fun hk=>?_) (fun hk2=>Q5 (fun hk=>?_) (fun hk3=>Q5 (fun hk=>?_) (fun hk4=>?_))))⟩
   · exact⟨(Qao k (mvL z i),(z i 1,⟨z i 2,z i 3,z i 4⟩),F),rfl,rfl,CallOK.of Fi hs2,fun y _=>⟨⟨i+1,y.1,hlt'⟩,⟨⟨rfl,rfl,rfl,svI (sucI (by omega)),trivial⟩,go _ _ (by rw[enx];exact (if_pos hk).symm)⟩,by dsimp only;omega⟩⟩
   · exact⟨(Qao k (mvL z i),(z i 1,z i 5),F),rfl,rfl,fun ht=>RunOK.of Fi (QiD ht).2.2 (by omega) _,fun y _=>⟨⟨i+1,y.1,hlt'⟩,⟨⟨rfl,rfl,rfl,svI (sucI (by omega)),trivial⟩,go _ _ (by rw[enx];exact ((if_neg hk1).trans (if_pos hk)).symm)⟩,by dsimp only;omega⟩⟩
   · exact⟨(Qao k (mvL z i),z i 5,F),rfl,rfl,trivial,fun y _=>⟨⟨i+1,y.1,hlt'⟩,⟨⟨rfl,rfl,rfl,svI (sucI (by omega)),trivial⟩,go _ _ (by rw[enx];exact ((if_neg hk1).trans ((if_neg hk2).trans (if_pos hk))).symm)⟩,by dsimp only;omega⟩⟩
   · exact⟨(Qao k (mvL z i),z i 6,F),rfl,rfl,Fi.craOK (by omega) (hu i hlt'),fun y _=>⟨⟨i+1,y.1,hlt'⟩,⟨⟨rfl,rfl,rfl,svI (sucI (by omega)),trivial⟩,go _ _ (by rw[enx];exact ((if_neg hk1).trans ((if_neg hk2).trans ((if_neg hk3).trans (if_pos hk)))).symm)⟩,by dsimp only;omega⟩⟩
   · exact⟨⟨i+1,F,hlt'⟩,⟨⟨rfl,rfl,rfl,svI (sucI (by omega)),trivial⟩,go _ _ (by rw[enx];exact ((if_neg hk1).trans ((if_neg hk2).trans ((if_neg hk3).trans (if_neg hk4)))).symm)⟩,by dsimp only;omega⟩
 · obtain rfl:i=n:=by omega
   exact Qi rfl F trivial rfl rfl rfl
structure EqRS (α:Type) where
 l:List α
 m:Nat
 c:Nat
 nn:Bool
 z:Nat->Nat->Int
 m2:Nat
 c2:Nat
 nn2:Bool
 z2:Nat->Nat->Int
structure EqRG {α:Type}(s:EqRS α) where
 i:Nat
 hi:i<=s.l.length
def QfC:MCon:=dcon (EqRS Dd) (fun s=>s.l.length<=1000000000/\(s.l.length<=s.m/\s.m<=s.c)/\IsR 6 Dd.at Dd.nil s.z s.l/\(s.l.length<=s.m2/\s.m2<=s.c2)/\IsR 6 Dd.at Dd.nil s.z2 s.l)
 (fun s=>[.c (.so 0 0 6 s.l.length s.c s.nn),.c (.so 1 0 6 s.l.length s.c2 s.nn2)]) (fun s=>[wkD s.m s.c s.z,wkD s.m2 s.c2 s.z2]) (fun s=>sv (.bool true)) (fun s=>[wkD s.m s.c s.z,wkD s.m2 s.c2 s.z2]) 2 (fun args _=>some (blkA args))
def Qnk (s:EqRS Dd):Ann where
 σ:=EqRG s
 I g:=([(0,.o (.c (.so 0 0 6 s.l.length s.c s.nn))),(1,.o (.c (.so 1 0 6 s.l.length s.c2 s.nn2))),(12,sv (.int .i64 s.l.length)),(13,sv (.int .i64 g.i))],[wkD s.m s.c s.z,wkD s.m2 s.c2 s.z2])
 dec g:=s.l.length-g.i
 pi _ _:=[0,1]
 nz:=[]
theorem eqrD_con:(Con.mem QfC).holds Tryz.prog 14:=by
 intro w0 S
 refine Qa (Γ:=[]) (fun _=>noW) Tryz.func14 rfl (by kernel_rfl) Qf Qc (fun _ _ _ _=>.nil _ _ _) QfC (fun s=>[(14,[(0,Qnk s)])]) (fun x0 h s x=>⟨rfl,trivial⟩) (fun s ρ w _ _ _=>Qh w _) [] (fun _ M=>[0,1]) 400 ?_
 rintro⟨l,m,c,nn,z,m2,c2,nn2,z2⟩ w ⟨h0,h1,h2,h3,h4⟩ -
 refine⟨rfl,?_⟩
 dsimp only at h0 h1 h2 h3 h4
 refine Qj (q:=List.length l<=c/\List.length l<=c2/\bif (↑(List.length l):Int) != (↑(List.length l):Int)then endN QfC [] (fun (x:SV) (M:List SB)=>[0,1]) (EqRS.mk l m c nn z m2 c2 nn2 z2) (SV.o (aB false)) [SB.rows 47 kI6 6 m c z,SB.rows 47 kI6 6 m2 c2 z2]else List.length l<=c/\(∃(s0:Ann.σ (Qnk (EqRS.mk l m c nn z m2 c2 nn2 z2))),(eS (SA.c (.so 0 0 6 (List.length l) c nn)) (SA.c (.so 0 0 6 (List.length l) c nn))/\eS (SA.c (.so 1 0 6 (List.length l) c2 nn2)) (SA.c (.so 1 0 6 (List.length l) c2 nn2))/\eS (aI (↑(List.length l):Int)) (aI (↑(List.length l):Int))/\eS (aI 0) (aI ↑s0.1)/\True)/\[SB.rows 47 kI6 6 m c z,SB.rows 47 kI6 6 m2 c2 z2]=[SB.rows 47 kI6 6 m c z,SB.rows 47 kI6 6 m2 c2 z2])/\∀(s:EqRG (EqRS.mk l m c nn z m2 c2 nn2 z2)),bif decide ((↑s.1:Int)<(↑(List.length l):Int))then ((0:Int)<=(↑s.1:Int)/\(↑s.1:Int)<(↑(List.length l):Int)/\0+List.length l<=c)/\0+Int.toNat (↑s.1:Int)<m/\((0:Int)<=(↑s.1:Int)/\(↑s.1:Int)<(↑(List.length l):Int)/\0+List.length l<=c2)/\0+Int.toNat (↑s.1:Int)<m2/\dP Tryz.f14 6 2 [xE 8,xR 7 1,xF 6 1,xE 5,xF 4 1,xR 3 0,xF 2 0,xE 1,xF 0 0]/\bif bif bif z (0+Int.toNat (↑s.1:Int)) 0==z2 (0+Int.toNat (↑s.1:Int)) 0 then bif z (0+Int.toNat (↑s.1:Int)) 1==z2 (0+Int.toNat (↑s.1:Int)) 1 then bif z (0+Int.toNat (↑s.1:Int)) 2==z2 (0+Int.toNat (↑s.1:Int)) 2 then bif z (0+Int.toNat (↑s.1:Int)) 3==z2 (0+Int.toNat (↑s.1:Int)) 3 then bif z (0+Int.toNat (↑s.1:Int)) 4==z2 (0+Int.toNat (↑s.1:Int)) 4 then bif z (0+Int.toNat (↑s.1:Int)) 5==z2 (0+Int.toNat (↑s.1:Int)) 5 then true else false else false else false else false else false else false then false else true then endN QfC [] (fun (x:SV) (M:List SB)=>[0,1]) (EqRS.mk l m c nn z m2 c2 nn2 z2) (SV.o (aB false)) [SB.rows 47 kI6 6 m c z,SB.rows 47 kI6 6 m2 c2 z2]else ∃(s':EqRG (EqRS.mk l m c nn z m2 c2 nn2 z2)),((eS (SA.c (.so 0 0 6 (List.length l) c nn)) (SA.c (.so 0 0 6 (List.length l) c nn))/\eS (SA.c (.so 1 0 6 (List.length l) c2 nn2)) (SA.c (.so 1 0 6 (List.length l) c2 nn2))/\eS (aI (↑(List.length l):Int)) (aI (↑(List.length l):Int))/\eS (aI (IntKind.wrap .i64 ((↑s.1:Int)+(1:Int)))) (aI ↑s'.1)/\True)/\[SB.rows 47 kI6 6 m c z,SB.rows 47 kI6 6 m2 c2 z2]=[SB.rows 47 kI6 6 m c z,SB.rows 47 kI6 6 m2 c2 z2])/\List.length l-s'.1<List.length l-s.1 else endN QfC [] (fun (x:SV) (M:List SB)=>[0,1]) (EqRS.mk l m c nn z m2 c2 nn2 z2) (SV.o (aB true)) [SB.rows 47 kI6 6 m c z,SB.rows 47 kI6 6 m2 c2 z2]) (by kernel_rfl) ?_
 have he:=IsR.eq h2 h4
 refine⟨by omega,by omega,Qy (fun h=>absurd rfl h) (fun _=>⟨by omega,⟨⟨0,Nat.zero_le _⟩,⟨rfl,rfl,rfl,rfl,trivial⟩,rfl⟩,?_⟩)⟩
 rintro⟨i,hi⟩
 dsimp only at hi ⊢
 refine Qo (fun hlt=>?_) (fun hge=>⟨(),trivial,rfl,rfl⟩)
 have hlt':i<l.length:=by omega
 rw[Int.toNat_natCast,Nat.zero_add i,he i hlt' 0 (by decide),he i hlt' 1 (by decide),he i hlt' 2 (by decide),he i hlt' 3 (by decide),he i hlt' 4 (by decide),he i hlt' 5 (by decide)]
 exact⟨⟨by omega,by omega,by omega⟩,by omega,⟨by omega,by omega,by omega⟩,by omega,Qe (by kernel_rfl),Xr (fun h=>absurd h (by simp)) (fun _=>⟨⟨i+1,hlt'⟩,⟨⟨rfl,rfl,rfl,svI (sucI (by omega)),trivial⟩,rfl⟩,by dsimp only;omega⟩)⟩
def QfB:MCon:=dcon (EqRS Ev) (fun s=>s.l.length<=1000000000/\(s.l.length<=s.m/\s.m<=s.c)/\IsR 9 Ev.at Ev.nil s.z s.l/\(s.l.length<=s.m2/\s.m2<=s.c2)/\IsR 9 Ev.at Ev.nil s.z2 s.l)
 (fun s=>[.c (.so 0 0 9 s.l.length s.c s.nn),.c (.so 1 0 9 s.l.length s.c2 s.nn2)]) (fun s=>[evB s.m s.c s.z,evB s.m2 s.c2 s.z2]) (fun s=>sv (.bool true)) (fun s=>[evB s.m s.c s.z,evB s.m2 s.c2 s.z2]) 2 (fun args _=>some (blkA args))
def Qnj (s:EqRS Ev):Ann where
 σ:=EqRG s
 I g:=([(0,.o (.c (.so 0 0 9 s.l.length s.c s.nn))),(1,.o (.c (.so 1 0 9 s.l.length s.c2 s.nn2))),(12,sv (.int .i64 s.l.length)),(13,sv (.int .i64 g.i))],[evB s.m s.c s.z,evB s.m2 s.c2 s.z2])
 dec g:=s.l.length-g.i
 pi _ _:=[0,1]
 nz:=[]
theorem eqrE_con:(Con.mem QfB).holds Tryz.prog 12:=by
 intro w0 S
 refine Qa (Γ:=[]) (fun _=>noW) Tryz.func12 rfl (by kernel_rfl) Qf Qc (fun _ _ _ _=>.nil _ _ _) QfB (fun s=>[(12,[(0,Qnj s)])]) (fun x0 h s x=>⟨rfl,trivial⟩) (fun s ρ w _ _ _=>Qh w _) [] (fun _ M=>[0,1]) 400 ?_
 rintro⟨l,m,c,nn,z,m2,c2,nn2,z2⟩ w ⟨h0,h1,h2,h3,h4⟩ -
 refine⟨rfl,?_⟩
 dsimp only at h0 h1 h2 h3 h4
 refine Qj (q:=List.length l<=c/\List.length l<=c2/\bif (↑(List.length l):Int) != (↑(List.length l):Int)then endN QfB [] (fun (x:SV) (M:List SB)=>[0,1]) (EqRS.mk l m c nn z m2 c2 nn2 z2) (SV.o (aB false)) [SB.rows 42 kI9 9 m c z,SB.rows 42 kI9 9 m2 c2 z2]else List.length l<=c/\(∃(s0:Ann.σ (Qnj (EqRS.mk l m c nn z m2 c2 nn2 z2))),(eS (SA.c (.so 0 0 9 (List.length l) c nn)) (SA.c (.so 0 0 9 (List.length l) c nn))/\eS (SA.c (.so 1 0 9 (List.length l) c2 nn2)) (SA.c (.so 1 0 9 (List.length l) c2 nn2))/\eS (aI (↑(List.length l):Int)) (aI (↑(List.length l):Int))/\eS (aI 0) (aI ↑s0.1)/\True)/\[SB.rows 42 kI9 9 m c z,SB.rows 42 kI9 9 m2 c2 z2]=[SB.rows 42 kI9 9 m c z,SB.rows 42 kI9 9 m2 c2 z2])/\∀(s:EqRG (EqRS.mk l m c nn z m2 c2 nn2 z2)),bif decide ((↑s.1:Int)<(↑(List.length l):Int))then ((0:Int)<=(↑s.1:Int)/\(↑s.1:Int)<(↑(List.length l):Int)/\0+List.length l<=c)/\0+Int.toNat (↑s.1:Int)<m/\((0:Int)<=(↑s.1:Int)/\(↑s.1:Int)<(↑(List.length l):Int)/\0+List.length l<=c2)/\0+Int.toNat (↑s.1:Int)<m2/\dP Tryz.f12 6 2 [xE 8,xR 7 1,xF 6 1,xE 5,xF 4 1,xR 3 0,xF 2 0,xE 1,xF 0 0]/\bif bif bif z (0+Int.toNat (↑s.1:Int)) 0==z2 (0+Int.toNat (↑s.1:Int)) 0 then bif z (0+Int.toNat (↑s.1:Int)) 1==z2 (0+Int.toNat (↑s.1:Int)) 1 then bif z (0+Int.toNat (↑s.1:Int)) 2==z2 (0+Int.toNat (↑s.1:Int)) 2 then bif z (0+Int.toNat (↑s.1:Int)) 3==z2 (0+Int.toNat (↑s.1:Int)) 3 then bif z (0+Int.toNat (↑s.1:Int)) 4==z2 (0+Int.toNat (↑s.1:Int)) 4 then bif z (0+Int.toNat (↑s.1:Int)) 5==z2 (0+Int.toNat (↑s.1:Int)) 5 then bif z (0+Int.toNat (↑s.1:Int)) 6==z2 (0+Int.toNat (↑s.1:Int)) 6 then bif z (0+Int.toNat (↑s.1:Int)) 7==z2 (0+Int.toNat (↑s.1:Int)) 7 then bif z (0+Int.toNat (↑s.1:Int)) 8==z2 (0+Int.toNat (↑s.1:Int)) 8 then true else false else false else false else false else false else false else false else false else false then false else true then endN QfB [] (fun (x:SV) (M:List SB)=>[0,1]) (EqRS.mk l m c nn z m2 c2 nn2 z2) (SV.o (aB false)) [SB.rows 42 kI9 9 m c z,SB.rows 42 kI9 9 m2 c2 z2]else ∃(s':EqRG (EqRS.mk l m c nn z m2 c2 nn2 z2)),((eS (SA.c (.so 0 0 9 (List.length l) c nn)) (SA.c (.so 0 0 9 (List.length l) c nn))/\eS (SA.c (.so 1 0 9 (List.length l) c2 nn2)) (SA.c (.so 1 0 9 (List.length l) c2 nn2))/\eS (aI (↑(List.length l):Int)) (aI (↑(List.length l):Int))/\eS (aI (IntKind.wrap .i64 ((↑s.1:Int)+(1:Int)))) (aI ↑s'.1)/\True)/\[SB.rows 42 kI9 9 m c z,SB.rows 42 kI9 9 m2 c2 z2]=[SB.rows 42 kI9 9 m c z,SB.rows 42 kI9 9 m2 c2 z2])/\List.length l-s'.1<List.length l-s.1 else endN QfB [] (fun (x:SV) (M:List SB)=>[0,1]) (EqRS.mk l m c nn z m2 c2 nn2 z2) (SV.o (aB true)) [SB.rows 42 kI9 9 m c z,SB.rows 42 kI9 9 m2 c2 z2]) (by kernel_rfl) ?_
 have he:=IsR.eq h2 h4
 refine⟨by omega,by omega,Qy (fun h=>absurd rfl h) (fun _=>⟨by omega,⟨⟨0,Nat.zero_le _⟩,⟨rfl,rfl,rfl,rfl,trivial⟩,rfl⟩,?_⟩)⟩
 rintro⟨i,hi⟩
 dsimp only at hi ⊢
 refine Qo (fun hlt=>?_) (fun hge=>⟨(),trivial,rfl,rfl⟩)
 have hlt':i<l.length:=by omega
 rw[Int.toNat_natCast,Nat.zero_add i,he i hlt' 0 (by decide),he i hlt' 1 (by decide),he i hlt' 2 (by decide),he i hlt' 3 (by decide),he i hlt' 4 (by decide),he i hlt' 5 (by decide),he i hlt' 6 (by decide),he i hlt' 7 (by decide),he i hlt' 8 (by decide)]
 exact⟨⟨by omega,by omega,by omega⟩,by omega,⟨by omega,by omega,by omega⟩,by omega,Qe (by kernel_rfl),Xr (fun h=>absurd h (by simp)) (fun _=>⟨⟨i+1,hlt'⟩,⟨⟨rfl,rfl,rfl,svI (sucI (by omega)),trivial⟩,rfl⟩,by dsimp only;omega⟩)⟩
def eqDs (l:List Vd) (a b:RwR):EqRS Dd:=⟨l.map Vd.d,a.m,a.c,a.nn,a.z,b.m,b.c,b.nn,b.z⟩
theorem eqDs_args (l:List Vd) (i j:Nat) (a b:RwR):[SA.c (.so i 0 6 l.length a.c a.nn),SA.c (.so j 0 6 l.length b.c b.nn)]=[SA.c (.so i 0 6 (eqDs l a b).l.length a.c a.nn),SA.c (.so j 0 6 (eqDs l a b).l.length b.c b.nn)]:=by
 show _=[SA.c (.so i 0 6 (l.map Vd.d).length a.c a.nn),SA.c (.so j 0 6 (l.map Vd.d).length b.c b.nn)]
 rw[List.length_map]
theorem eqDs_pre {l:List Vd}{a b:RwR}(h:l.length<=1000000000) (ha:(l.length<=a.m/\a.m<=a.c)/\IsR 6 Dd.at Dd.nil a.z (l.map Vd.d)) (hb:(l.length<=b.m/\b.m<=b.c)/\IsR 6 Dd.at Dd.nil b.z (l.map Vd.d)):
 (eqDs l a b).l.length<=1000000000/\((eqDs l a b).l.length<=a.m/\a.m<=a.c)/\IsR 6 Dd.at Dd.nil a.z (eqDs l a b).l/\((eqDs l a b).l.length<=b.m/\b.m<=b.c)/\IsR 6 Dd.at Dd.nil b.z (eqDs l a b).l:=by
 have e:(eqDs l a b).l.length=l.length:=List.length_map _
 rw[e];exact⟨h,ha.1,ha.2,hb.1,hb.2⟩
def eqEs (l:List Ev) (a b:RwR):EqRS Ev:=⟨l,a.m,a.c,a.nn,a.z,b.m,b.c,b.nn,b.z⟩
def recF (z:Sh) (n:Nat):Nat->Int:=fun j=>bif decide (j<n)then z.cur j else 0
def recC:TCon Sh Unit Unit where
 pre z _:=0<=z.s.now 0/\z.s.now 0<1000000000
 args _:=[]
 ok _ _ _:=True
 next z _ _:=z
 val _ z _ _:=.o (.a [.ints (.int .u64) 32 (recF z 32)])
 new _ _ _ _:=[]
 len:=0
abbrev QmW:MCon:=recC.low shM ShS.z ShS.good 17 7 Qcm
structure RecG where
 i:Nat
 hi:i<=32
def Qpa (s:ShS):Ann where
 σ:=RecG
 I g:=([(0,.o (.c (.p 0 0))),(2,.o (.c (.p 17 0))),(3,.o (.c (.p 18 0))),(4,sv (.int .i64 (Qq (s.z.s.now 0):Nat))),(13,sv (.int .i64 g.i))],shM s++[.cells [.ints (.int .u64) 32 (fun _=>0)] 50,.cells [.ints (.int .u64) 32 (recF s.z g.i)] 50])
 dec g:=32-g.i
 pi env M:=shAt M 0++[blkE env 2,blkE env 3]
 nz:=[]
theorem QpC:(Con.mem QmW).holds Tryz.prog 16:=by
 intro w0 S
 refine Qa (Γ:=[(22,.inl Tryz.f22 (Tryz.f22.body.getD .skip)),(27,.mem QJ)]) (fun _=>noW) Tryz.func16 rfl (by kernel_rfl) Qf Qc (fun w S' _ _=>.cons ⟨by kernel_rfl,rfl,rfl⟩ (.cons (QN w S') (.nil _ _ _))) QmW (fun s=>[(16,[(0,Qpa s.1)])]) (fun x0 h=>by cases h) (fun s ρ w _ _ _=>Qh w _) [] (fun _ M=>shAt M 0) 600 ?_
 rintro⟨⟨z,r,mh,ch,nh,zh,mv,cv,nv,zv⟩,⟨⟩⟩ W ⟨h0,h1,h2⟩ -
 refine⟨rfl,?_⟩
 dsimp only
 refine Qj (q:=∃(s:Qt),[aP 2 0,aI 0]=[aP 2 0,aI s.2]/\[stoB (Sh.s z)]=[stoB (Qt.s s)]/\(iR s.2 (72:Int))/\∀(x:Unit),True->(2:Int)≠(0:Int)/\(8:Int)≠(0:Int)/\(∃(s0:Ann.σ (Qpa (ShS.mk z r mh ch nh zh mv cv nv zv))),(eS (aP 0 0) (aP 0 0)/\eS (aP 17 0) (aP 17 0)/\eS (aP 18 0) (aP 18 0)/\eS (aI (IntKind.wrap .i64 (IntKind.wrap .i64 ((1:Int)+IntKind.wrap .i64 (Int.tdiv (IntKind.wrap .i64 (Int.tmod (IntKind.wrap .i64 ((Qt.s s).1 (Int.toNat s.2))) (2:Int)*(32:Int))) (8:Int)))*(8:Int)))) (aI (↑(Qq ((Sh.s z).1 0)):Int))/\eS (aI 0) (aI ↑s0.1)/\True)/\(shI (shD z.4 z.5 15 (List.length z.6) ch nh 16 (List.length z.7) cv nv) z.1 (Qt.s s) (stX (Sh.w z) r) (stA r) (stD r) (evB mh ch zh) (vdB mv cv zv) [SB.cells [nU 32 zF] 50,SB.cells [nU 32 zF] 50])=(shI (shD z.4 z.5 15 (List.length z.6) ch nh 16 (List.length z.7) cv nv) z.1 (Sh.s z) (stX (Sh.w z) r) (stA r) (stD r) (evB mh ch zh) (vdB mv cv zv) [SB.cells [nU 32 zF] 50,SB.cells [nU 32 fun (j:Nat)=>bif decide (j<s0.1)then Sh.cur z j else (0:Int)] 50]))/\∀(s:RecG),bif decide ((↑s.1:Int)<(32:Int))then ∃(s_1:Qt),[aP 2 0,aI (IntKind.wrap .i64 ((↑(Qq ((Sh.s z).1 0)):Int)+(↑s.1:Int)))]=[aP 2 0,aI s_1.2]/\[stoB (Sh.s z)]=[stoB (Qt.s s_1)]/\(iR s_1.2 (72:Int))/\∀(x:Unit),True->(iR (↑s.1:Int) (32:Int))/\Int.toNat (↑s.1:Int)<32/\∃(s':RecG),((eS (aP 0 0) (aP 0 0)/\eS (aP 17 0) (aP 17 0)/\eS (aP 18 0) (aP 18 0)/\eS (aI (↑(Qq ((Sh.s z).1 0)):Int)) (aI (↑(Qq ((Sh.s z).1 0)):Int))/\eS (aI (IntKind.wrap .i64 ((↑s.1:Int)+(1:Int)))) (aI ↑s'.1)/\True)/\(shI (shD z.4 z.5 15 (List.length z.6) ch nh 16 (List.length z.7) cv nv) z.1 (Qt.s s_1) (stX (Sh.w z) r) (stA r) (stD r) (evB mh ch zh) (vdB mv cv zv) [SB.cells [nU 32 zF] 50,SB.cells [nU 32 fun (i:Nat)=>bif Nat.beq i (Int.toNat (↑s.1:Int))then (Qt.s s_1).1 (Int.toNat s_1.2)else bif decide (i<s.1)then Sh.cur z i else (0:Int)] 50])=(shI (shD z.4 z.5 15 (List.length z.6) ch nh 16 (List.length z.7) cv nv) z.1 (Sh.s z) (stX (Sh.w z) r) (stA r) (stD r) (evB mh ch zh) (vdB mv cv zv) [SB.cells [nU 32 zF] 50,SB.cells [nU 32 fun (j:Nat)=>bif decide (j<s'.1)then Sh.cur z j else (0:Int)] 50]))/\32-s'.1<32-s.1 else endN QmW [] (fun (x:SV) (M:List SB)=>shAt M 0) (ShS.mk z r mh ch nh zh mv cv nv zv,PUnit.unit) (SV.o (SA.a [nU 32 fun (j:Nat)=>bif decide (j<s.1)then Sh.cur z j else (0:Int)])) (shI (shD z.4 z.5 15 (List.length z.6) ch nh 16 (List.length z.7) cv nv) z.1 (Sh.s z) (stX (Sh.w z) r) (stA r) (stD r) (evB mh ch zh) (vdB mv cv zv) [SB.cells [nU 32 fun (j:Nat)=>bif decide (j<s.1)then Sh.cur z j else (0:Int)] 50,SB.cells [nU 32 fun (j:Nat)=>bif decide (j<s.1)then Sh.cur z j else (0:Int)] 50])) (by kernel_rfl) ?_
 have h0:(⟨z,r,mh,ch,nh,zh,mv,cv,nv,zv⟩:ShS).good:=h0
 have h1:0<=z.s.now 0:=h1
 have h2:z.s.now 0<1000000000:=h2
 refine⟨⟨z.s,0⟩,rfl,rfl,⟨(by decide:(0:Int)<=0),(by decide:(0:Int)<72)⟩,fun _ _=>?_⟩
 have eb:IntKind.wrap .i64 (IntKind.wrap .i64 (1+IntKind.wrap .i64 (Int.tdiv (IntKind.wrap .i64 (Int.tmod (IntKind.wrap .i64 (z.s.now (Int.toNat 0))) 2*32)) 8))*8)=((Qq (z.s.now 0):Nat):Int):=by
  rw[show Int.toNat 0=0 from rfl,Qw (x:=z.s.now 0) (by omega) (by omega)]
  unfold Qq
  rw[Int.tmod_eq_emod_of_nonneg h1]
  rcases (show z.s.now 0%2=0\/z.s.now 0%2=1 by omega)with h|h<;>(rw[h];rfl)
 have hb:=QdT (z.s.now 0)
 refine⟨by decide,by decide,⟨⟨0,by decide⟩,⟨rfl,rfl,rfl,svI eb,rfl,trivial⟩,?_⟩,?_⟩
 · have:recF z 0=fun _=>0:=funext fun j=>by unfold recF;rw[decide_eq_false (Nat.not_lt_zero _)];rfl
   exact (congrArg (fun f=>shM ⟨z,r,mh,ch,nh,zh,mv,cv,nv,zv⟩++[SB.cells [.ints (.int .u64) 32 (fun _=>0)] 50,SB.cells [.ints (.int .u64) 32 f] 50]) this.symm)
 · rintro⟨i,hi⟩
   dsimp only at hi ⊢
   refine Qo (fun hlt=>?_) (fun hge=>?_)
   · have ea:IntKind.wrap .i64 (((Qq (z.s.now 0):Nat):Int)+(i:Int))=((Qq (z.s.now 0)+i:Nat):Int):=by rw[Qw (by omega) (by omega)];omega
     rw[ea]
     refine⟨⟨z.s,((Qq (z.s.now 0)+i:Nat):Int)⟩,rfl,rfl,⟨(by omega:(0:Int)<=((Qq (z.s.now 0)+i:Nat):Int)),(by omega:((Qq (z.s.now 0)+i:Nat):Int)<72)⟩,fun _ _=>⟨⟨by omega,by omega⟩,by omega,⟨i+1,by omega⟩,⟨⟨rfl,rfl,rfl,rfl,svI (sucI (by omega)),trivial⟩,?_⟩,by dsimp only;omega⟩⟩
     have:(fun j=>bif Nat.beq j i then z.s.now (((Qq (z.s.now 0)+i:Nat):Int)).toNat else recF z i j)=recF z (i+1):=funext fun j=>by
      unfold recF Sh.cur
      by_cases e:j=i
      · subst e;rw[Nat.beq_refl,decide_eq_true (show j<j+1 by omega),Int.toNat_natCast];rfl
      · rw[show Nat.beq j i=false from nbeqF e,show decide (j<i+1)=decide (j<i)from decide_eq_decide.2 (by omega)];rfl
     exact (congrArg (fun f=>shM ⟨z,r,mh,ch,nh,zh,mv,cv,nv,zv⟩++[SB.cells [.ints (.int .u64) 32 (fun _=>0)] 50,SB.cells [.ints (.int .u64) 32 f] 50]) this)
   · obtain rfl:i=32:=by omega
     exact Qi rfl ⟨⟨z,r,mh,ch,nh,zh,mv,cv,nv,zv⟩,()⟩ ⟨h0,rfl,trivial⟩ rfl rfl rfl
theorem recH:(Con.mem recC.sh).holds Tryz.prog 16:=fun w0 S=>recC.lift (QpC w0 S) (by decide) (fun x _=>Xb x) (fun _=>rfl) (fun _ _ _ _ _ _ _ _=>⟨rfl,rfl,rfl,rfl⟩)
end
end Go.Proofs.YtakgheidlhgkdaaGreatDoor
