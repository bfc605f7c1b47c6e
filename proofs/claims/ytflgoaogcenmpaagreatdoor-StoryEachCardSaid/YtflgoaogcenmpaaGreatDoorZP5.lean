/- What the proof leans on, gathered. -/
import Derived.Test.YtflgoaogcenmpaaGreatDoorRows
import Derived.WalkKit
import Derived.Lib.IndexMore
import Derived.Lib.AtoiAll
import Derived.Lib.ItoaNum
import Derived.Test.YtflgoaogcenmpaaGreatDoorShl
import Derived.Lib.LaidTab
import Derived.Test.YtflgoaogcenmpaaGreatDoorProg
import Derived.ChangeVars
import Derived.RowKit
import Derived.LaidLaws
import Derived.LaidSub
import Derived.LaidHandle
import Derived.Lay
import Derived.HandedShaped
import Derived.Deep.Slices
import Derived.Deep.Fields
import Derived.ChangeSame
import Derived.ProofKit
import Derived.Lib.AppendIntMem
import Derived.Lib.Hide
import Derived.Lib.Join
import Derived.Lib.SplitLaws
import Derived.Shelf.Strings.BuilderK
import Derived.LoopTactic
import Derived.Test.YtflgoaogcenmpaaGreatDoorZP4
namespace Go.Proofs.YtflgoaogcenmpaaGreatDoor
set_option linter.unusedVariables false
set_option maxRecDepth 100000
set_option maxHeartbeats 8000000
section
open Go.RowKit
def QdV:MCon where
 σ:=Unit
 χ:=Unit
 pre _:=True
 args _:=[]
 mem _:=[]
 ok _ _:=True
 val _ _:=.o (.c (.p 0 0))
 mem' _ _:=[stoB Sto.new]
 k:=0
 len:=1
 det:=some ()
 find _ _:=some []
theorem Qkh:(Con.mem QdV).holds Tryz.prog 33:=by
 intro w0 S
 refine Qb (Γ:=[]) (fun _=>noW) Tryz.func33 rfl (by kernel_rfl) Qg Qc (fun w S' _ _=>.nil _ _ _) QdV (fun _=>[]) (fun x0 h s x=>⟨rfl,trivial⟩) (fun s ρ w _ _ _=>Qh w _) [] (fun _ _=>[0]) 400 ?_
 rintro⟨⟩ W - -
 refine⟨rfl,?_⟩
 refine Qi (q:=endN QdV [] (fun (x:SV) (x_1:List SB)=>[0]) PUnit.unit (SV.o (aP 0 0)) [SB.cells [nU 72 zF,nU 72 zF,nB 36 zF,sI 0,sI 0] 98]) (by kernel_rfl) ?_
 exact⟨(),trivial,rfl,rfl⟩
theorem Qqy {ρ:Nat->Nat}{i:Nat}{a b:Sto}(h1:∀j,j<72->a.now j=b.now j) (h2:∀j,j<72->a.good j=b.good j) (h3:∀j,j<36->a.want j=b.want j) (h4:a.fl=b.fl) (h5:a.fe=b.fe):denB ρ i (stoB a)=denB ρ i (stoB b):=by
 have e1:(List.range 72).map (fun i=>mkV (.int .u64) (a.now i))=(List.range 72).map (fun i=>mkV (.int .u64) (b.now i)):=List.map_congr_left fun j hj=>by rw[h1 j (List.mem_range.1 hj)]
 have e2:(List.range 72).map (fun i=>mkV (.int .u64) (a.good i))=(List.range 72).map (fun i=>mkV (.int .u64) (b.good i)):=List.map_congr_left fun j hj=>by rw[h2 j (List.mem_range.1 hj)]
 have e3:(List.range 36).map (fun i=>mkV .bool (a.want i))=(List.range 36).map (fun i=>mkV .bool (b.want i)):=List.map_congr_left fun j hj=>by rw[h3 j (List.mem_range.1 hj)]
 simp only[denB,Qe,Seg.den]
 rw[e1,e2,e3,h4,h5]
structure QbH where
 s:Sto
 l:Int
def crTo (s:QbH) (n:Nat):Sto:={ s.s with now:=fun j=>bif decide (j/8<n)then Qs s.l s.s j else s.s.now j,good:=fun j=>bif decide (j/8<n)then Qs s.l s.s j else s.s.good j }
theorem QnG (s:QbH):crTo s 0=s.s:=by
 unfold crTo
 have e (j:Nat):decide (j/8<0)=false:=decide_eq_false (Nat.not_lt_zero _)
 simp only[e,cond_false]
def lnB (i j:Nat):Bool:=Nat.ble (8*i) j&&Nat.ble j (8*i+1+1+1+1+1+1+1)
theorem lnB_d (i j:Nat):lnB i j=decide (j/8=i):=by
 unfold lnB
 rw[QlB,QlB,<- Bool.decide_and,decide_eq_decide];omega
theorem QgX {f g:Nat->Int}{i j:Nat}:(bif lnB i j then f (8*i+(j-8*i))else g j)=(bif decide (j/8=i)then f j else g j):=by
 rw[lnB_d]
 by_cases e:j/8=i
 · rw[decide_eq_true e,show 8*i+(j-8*i)=j by omega]
 · rw[decide_eq_false e];rfl
theorem QgW (i j:Nat):decide (j/8<i+1)=(decide (j/8=i)||decide (j/8<i)):=by
 rw[<- Bool.decide_or,decide_eq_decide];omega
theorem Qpv (s:QbH) {i:Nat}(hi:i<9) (hb:s.l/2^i%2=1) (j:Nat):(bif decide (j/8=i)then (crTo s i).now j else (crTo s i).good j)=(crTo s (i+1)).good j:=by
 unfold crTo
 dsimp only
 rw[QgW]
 by_cases e:j/8=i
 · rw[decide_eq_true e,decide_eq_false (show ¬j/8<i by omega)]
   show s.s.now j=Qs s.l s.s j
   unfold Qs
   rw[decide_eq_true (show j<72 by omega),e,decide_eq_true hb];rfl
 · rw[decide_eq_false e];rfl
theorem Qq7 (s:QbH) {i:Nat}(hi:i<9) (hb:s.l/2^i%2=1) (j:Nat):(bif decide (j/8=i)then (crTo s (i+1)).good j else (crTo s i).now j)=(crTo s (i+1)).now j:=by
 unfold crTo
 dsimp only
 rw[QgW]
 by_cases e:j/8=i
 · rw[decide_eq_true e];rfl
 · rw[decide_eq_false e];rfl
theorem Qq8 (s:QbH) {i:Nat}(hi:i<9) (hb:s.l/2^i%2≠1) (j:Nat):(bif decide (j/8=i)then (crTo s i).good j else (crTo s i).now j)=(crTo s (i+1)).now j:=by
 unfold crTo
 dsimp only
 rw[QgW]
 by_cases e:j/8=i
 · rw[decide_eq_true e,decide_eq_false (show ¬j/8<i by omega)]
   show s.s.good j=Qs s.l s.s j
   unfold Qs
   rw[e,decide_eq_false hb,Bool.and_false];rfl
 · rw[decide_eq_false e];rfl
theorem Qpw (s:QbH) {i:Nat}(hi:i<9) (hb:s.l/2^i%2≠1) (j:Nat):(crTo s i).good j=(crTo s (i+1)).good j:=by
 unfold crTo
 dsimp only
 rw[QgW]
 by_cases e:j/8=i
 · rw[decide_eq_true e,decide_eq_false (show ¬j/8<i by omega)]
   show s.s.good j=Qs s.l s.s j
   unfold Qs
   rw[e,decide_eq_false hb,Bool.and_false];rfl
 · rw[decide_eq_false e];rfl
theorem bit_at {l:Int}(h:U64 l) {i:Nat}(hi:i<9):bits BinOp.and .u64 (Int.fdiv l (2^min (Int.toNat (i:Int)) 64)) 1=l/2^i%2:=by
 have:=Qg5 (w:=l) (a:=(i:Int)) (n:=1) h (by unfold Qcn;exact decide_eq_true (by omega))
 rw[show Qf7 1=1 from rfl]at this
 rw[this]
 have ht:(l.toNat:Int)=l:=by have:=h.1;omega
 unfold getZ getN
 rw[Int.toNat_natCast]
 have hc:i=0\/i=1\/i=2\/i=3\/i=4\/i=5\/i=6\/i=7\/i=8:=by omega
 rcases hc with rfl|rfl|rfl|rfl|rfl|rfl|rfl|rfl|rfl<;>(simp only[Int.toNat_one,Nat.pow_one,Nat.reducePow,Int.reducePow];omega)
theorem QlW {a b:Sto}{n g:Nat->Int}(h1:n=b.now) (h2:g=b.good) (h3:a.want=b.want) (h4:a.fl=b.fl) (h5:a.fe=b.fe):[stoB ⟨n,g,a.want,a.fl,a.fe⟩]=[stoB b]:=by
 rw[h1,h2,h3,h4,h5]
def QdW (b:Bool):MCon:=dcon QbH (fun s=>U64 s.l) (fun s=>[.c (.p 0 0),.c (.v (.int .u64 s.l))]) (fun s=>[stoB s.s]) (fun s=>.t []) (fun s=>[stoB (bif b then s.s.crash s.l else { crTo s 9 with want:=fun _=>0 })]) 1 (fun args _=>some (blkA args))
structure CrG where
 i:Nat
 hi:i<=9
def annCr (s:QbH):Ann where
 σ:=CrG
 I g:=([(0,.o (.c (.p 0 0))),(1,sv (.int .u64 s.l)),(5,sv (.int .i64 g.i))],[stoB (crTo s g.i)])
 dec g:=9-g.i
 pi env _:=[0]
 nz:=[]
theorem QlV:(Con.mem (QdW false)).holds Tryz.prog 92:=by
 intro w0 S
 refine Qb (Γ:=[]) (fun _=>noW) Tryz.func92 rfl (by kernel_rfl) Qg Qc (fun w S' _ _=>.nil _ _ _) (QdW false) (fun s=>[(92,[(0,annCr s)])]) (fun x0 h s x=>⟨rfl,trivial⟩) (fun s ρ w _ _ _=>Qh w _) [] (Qn 1) 400 ?_
 rintro⟨s,l⟩ w h0 -
 refine⟨rfl,?_⟩
 have h0:U64 l:=h0
 refine Qi (q:=(∃(s0:Ann.σ (annCr (QbH.mk s l))),(eS (aP 0 0) (aP 0 0)/\eS (aU l) (aU l)/\eS (aI 0) (aI ↑s0.1)/\True)/\[SB.cells [nU 72 s.1,nU 72 s.2,nB 36 s.3,sI s.4,sI s.5] 98]=[SB.cells [nU 72 fun (j:Nat)=>bif decide (j/8<s0.1)then Qs l s j else s.1 j,nU 72 fun (j:Nat)=>bif decide (j/8<s0.1)then Qs l s j else s.2 j,nB 36 s.3,sI s.4,sI s.5] 98])/\∀(s_1:CrG),bif decide ((↑s_1.1:Int)<(9:Int))then (0:Int)<=(↑s_1.1:Int)/\bif bits BinOp.and .u64 (Int.fdiv l ((2:Int)^min (Int.toNat (↑s_1.1:Int)) 64)) (1:Int)==(1:Int)then (iR (↑s_1.1:Int) (9:Int))/\t8 s_1.1+1+1+1+1+1+1+1+1<=72/\(iR (↑s_1.1:Int) (9:Int))/\t8 s_1.1+1+1+1+1+1+1+1+1<=72/\dP Tryz.f92 4 1 [⟨11,[],[0],[],false⟩,xF 10 0,xF 9 0,xF 8 0,xR 7 0,xF 6 0,xF 5 0,xF 4 0,xE 3,xF 2 0,xE 1,xF 0 0]/\(iR (↑s_1.1:Int) (9:Int))/\t8 s_1.1+1+1+1+1+1+1+1+1<=72/\(iR (↑s_1.1:Int) (9:Int))/\t8 s_1.1+1+1+1+1+1+1+1+1<=72/\dP Tryz.f92 5 1 [⟨11,[],[0],[],false⟩,xF 10 0,xF 9 0,xF 8 0,xR 7 0,xF 6 0,xF 5 0,xF 4 0,xE 3,xF 2 0,xE 1,xF 0 0]/\∃(s':CrG),((eS (aP 0 0) (aP 0 0)/\eS (aU l) (aU l)/\eS (aI (IntKind.wrap .i64 ((↑s_1.1:Int)+(1:Int)))) (aI ↑s'.1)/\True)/\[SB.cells [nU 72 fun (j:Nat)=>bif match Nat.ble (t8 s_1.1) j with|false=>false|true=>Nat.ble j (t8 s_1.1+1+1+1+1+1+1+1)then bif match Nat.ble (t8 s_1.1) (t8 s_1.1+(j-(t8 s_1.1)))with|false=>false|true=>Nat.ble (t8 s_1.1+(j-(t8 s_1.1))) (t8 s_1.1+1+1+1+1+1+1+1)then bif decide ((t8 s_1.1+(t8 s_1.1+(j-(t8 s_1.1))-(t8 s_1.1)))/8<s_1.1)then Qs l s (t8 s_1.1+(t8 s_1.1+(j-(t8 s_1.1))-(t8 s_1.1)))else s.1 (t8 s_1.1+(t8 s_1.1+(j-(t8 s_1.1))-(t8 s_1.1)))else bif decide ((t8 s_1.1+(j-(t8 s_1.1)))/8<s_1.1)then Qs l s (t8 s_1.1+(j-(t8 s_1.1)))else s.2 (t8 s_1.1+(j-(t8 s_1.1)))else bif decide (j/8<s_1.1)then Qs l s j else s.1 j,nU 72 fun (j:Nat)=>bif match Nat.ble (t8 s_1.1) j with|false=>false|true=>Nat.ble j (t8 s_1.1+1+1+1+1+1+1+1)then bif decide ((t8 s_1.1+(j-(t8 s_1.1)))/8<s_1.1)then Qs l s (t8 s_1.1+(j-(t8 s_1.1)))else s.1 (t8 s_1.1+(j-(t8 s_1.1)))else bif decide (j/8<s_1.1)then Qs l s j else s.2 j,nB 36 s.3,sI s.4,sI s.5] 98]=[SB.cells [nU 72 fun (j:Nat)=>bif decide (j/8<s'.1)then Qs l s j else s.1 j,nU 72 fun (j:Nat)=>bif decide (j/8<s'.1)then Qs l s j else s.2 j,nB 36 s.3,sI s.4,sI s.5] 98])/\9-s'.1<9-s_1.1 else (iR (↑s_1.1:Int) (9:Int))/\t8 s_1.1+1+1+1+1+1+1+1+1<=72/\(iR (↑s_1.1:Int) (9:Int))/\t8 s_1.1+1+1+1+1+1+1+1+1<=72/\dP Tryz.f92 5 1 [⟨11,[],[0],[],false⟩,xF 10 0,xF 9 0,xF 8 0,xR 7 0,xF 6 0,xF 5 0,xF 4 0,xE 3,xF 2 0,xE 1,xF 0 0]/\∃(s':CrG),((eS (aP 0 0) (aP 0 0)/\eS (aU l) (aU l)/\eS (aI (IntKind.wrap .i64 ((↑s_1.1:Int)+(1:Int)))) (aI ↑s'.1)/\True)/\[SB.cells [nU 72 fun (j:Nat)=>bif match Nat.ble (t8 s_1.1) j with|false=>false|true=>Nat.ble j (t8 s_1.1+1+1+1+1+1+1+1)then bif decide ((t8 s_1.1+(j-(t8 s_1.1)))/8<s_1.1)then Qs l s (t8 s_1.1+(j-(t8 s_1.1)))else s.2 (t8 s_1.1+(j-(t8 s_1.1)))else bif decide (j/8<s_1.1)then Qs l s j else s.1 j,nU 72 fun (j:Nat)=>bif decide (j/8<s_1.1)then Qs l s j else s.2 j,nB 36 s.3,sI s.4,sI s.5] 98]=[SB.cells [nU 72 fun (j:Nat)=>bif decide (j/8<s'.1)then Qs l s j else s.1 j,nU 72 fun (j:Nat)=>bif decide (j/8<s'.1)then Qs l s j else s.2 j,nB 36 s.3,sI s.4,sI s.5] 98])/\9-s'.1<9-s_1.1 else endN (QdW false) [] (Qn 1) (QbH.mk s l) (SV.t []) [SB.cells [nU 72 fun (j:Nat)=>bif decide (j/8<s_1.1)then Qs l s j else s.1 j,nU 72 fun (j:Nat)=>bif decide (j/8<s_1.1)then Qs l s j else s.2 j,nB 36 zF,sI s.4,sI s.5] 98]) (by kernel_rfl) ?_
 unfold t8
 refine⟨⟨⟨0,by decide⟩,⟨rfl,rfl,rfl,trivial⟩,?_⟩,?_⟩
 · show [stoB s]=[stoB (crTo ⟨s,l⟩ 0)]
   rw[QnG]
 rintro⟨i,hi⟩
 dsimp only at hi ⊢
 refine Qp (fun hlt=>?_) (fun hge=>?_)
 · have hlt':i<9:=by omega
   have e8:0+i+i+i+i+i+i+i+i=8*i:=by omega
   rw[bit_at h0 hlt',Int.toNat_natCast,e8]
   refine⟨by omega,QY (fun hb=>?_) (fun hb=>?_)⟩
   · refine⟨⟨by omega,by omega⟩,by omega,⟨by omega,by omega⟩,by omega,Qf (by kernel_rfl),⟨by omega,by omega⟩,by omega,⟨by omega,by omega⟩,by omega,Qf (by kernel_rfl),⟨i+1,hlt'⟩,⟨⟨rfl,rfl,svI (sucI (by omega)),trivial⟩,?_⟩,by dsimp only;omega⟩
     have hgood:(fun j=>bif lnB i j then (crTo ⟨s,l⟩ i).now (8*i+(j-8*i))else (crTo ⟨s,l⟩ i).good j)=(crTo ⟨s,l⟩ (i+1)).good:=funext fun j=>QgX.trans (Qpv ⟨s,l⟩ hlt' hb j)
     have hnow:(fun j=>bif lnB i j then (fun j=>bif lnB i j then (crTo ⟨s,l⟩ i).now (8*i+(j-8*i))else (crTo ⟨s,l⟩ i).good j) (8*i+(j-8*i))else (crTo ⟨s,l⟩ i).now j)=(crTo ⟨s,l⟩ (i+1)).now:=by
      rw[hgood];exact funext fun j=>QgX.trans (Qq7 ⟨s,l⟩ hlt' hb j)
     exact QlW (a:=crTo ⟨s,l⟩ i) (b:=crTo ⟨s,l⟩ (i+1)) hnow hgood rfl rfl rfl
   · refine⟨⟨by omega,by omega⟩,by omega,⟨by omega,by omega⟩,by omega,Qf (by kernel_rfl),⟨i+1,hlt'⟩,⟨⟨rfl,rfl,svI (sucI (by omega)),trivial⟩,?_⟩,by dsimp only;omega⟩
     have hgood:(crTo ⟨s,l⟩ i).good=(crTo ⟨s,l⟩ (i+1)).good:=funext fun j=>Qpw ⟨s,l⟩ hlt' hb j
     have hnow:(fun j=>bif lnB i j then (crTo ⟨s,l⟩ i).good (8*i+(j-8*i))else (crTo ⟨s,l⟩ i).now j)=(crTo ⟨s,l⟩ (i+1)).now:=funext fun j=>QgX.trans (Qq8 ⟨s,l⟩ hlt' hb j)
     exact QlW (a:=crTo ⟨s,l⟩ i) (b:=crTo ⟨s,l⟩ (i+1)) hnow hgood rfl rfl rfl
 · obtain rfl:i=9:=by omega
   exact Qj rfl () trivial rfl rfl rfl
theorem QhB:(Con.mem (QdW true)).holds Tryz.prog 92:=by
 intro w0 S
 have h:=QlV w0 S
 refine⟨h.1,fun x0 _ s x=>⟨rfl,trivial⟩,fun ρ s w hp hk hm=>(h.2.2 ρ s w hp hk hm).mono ?_⟩
 rintro e w' ⟨x,ρ',-,h1,h2,h3,h4⟩
 refine⟨(),ρ',trivial,h1,rfl,h3,?_⟩
 have e:denM ρ' 0 [stoB { crTo s 9 with want:=fun _=>0 }]=denM ρ' 0 [stoB (s.s.crash s.l)]:=by
  simp only[denM]
  rw[Qqy (a:={ crTo s 9 with want:=fun _=>0 }) (b:=s.s.crash s.l) (fun j hj=>?_) (fun j hj=>?_) (fun _ _=>rfl) rfl rfl]
  · show (bif decide (j/8<9)then Qs s.l s.s j else s.s.now j)=Qs s.l s.s j
    rw[decide_eq_true (by omega)];rfl
  · show (bif decide (j/8<9)then Qs s.l s.s j else s.s.good j)=Qs s.l s.s j
    rw[decide_eq_true (by omega)];rfl
 show Mem w _ (denM ρ' 0 [stoB (s.s.crash s.l)]) w'
 rw[<- e];exact h4
structure QcL where
 s:Sto
 l:Int
def QbF:MCon:=dcon QcL (fun _=>True) (fun s=>[.c (.p 0 0),.c (.v (.int .i64 s.l))]) (fun s=>[stoB s.s]) (fun s=>.o (.c (.v (bif decide (0<=s.l/\s.l<9)then .nilIface else .iface 91 (.int .i64 2))))) (fun s=>[stoB (bif decide (0<=s.l/\s.l<9)then s.s.evict s.l.toNat else s.s)]) 1 (fun args _=>some (blkA args))
theorem QhA:(Con.mem QbF).holds Tryz.prog 89:=by
 intro w0 S
 refine Qb (Γ:=[]) (fun _=>noW) Tryz.func89 rfl (by kernel_rfl) Qg Qc (fun w S' _ _=>.nil _ _ _) QbF (fun s=>[]) (fun x0 h s x=>⟨rfl,trivial⟩) (fun s ρ w _ _ _=>Qh w _) [] (Qn 1) 400 ?_
 rintro⟨s,l⟩ w - -
 refine⟨rfl,?_⟩
 refine Qi (q:=bif decide (l<(0:Int))then endN QbF [] (Qn 1) (QcL.mk s l) (SV.o (SA.c (.v (.iface 91 (Value.int .i64 (2:Int)))))) [SB.cells [nU 72 s.1,nU 72 s.2,nB 36 s.3,sI s.4,sI s.5] 98]else bif decide (l>=(9:Int))then endN QbF [] (Qn 1) (QcL.mk s l) (SV.o (SA.c (.v (.iface 91 (Value.int .i64 (2:Int)))))) [SB.cells [nU 72 s.1,nU 72 s.2,nB 36 s.3,sI s.4,sI s.5] 98]else (iR l (9:Int))/\0+Int.toNat l+Int.toNat l+Int.toNat l+Int.toNat l+Int.toNat l+Int.toNat l+Int.toNat l+Int.toNat l+1+1+1+1+1+1+1+1<=72/\(iR l (9:Int))/\0+Int.toNat l+Int.toNat l+Int.toNat l+Int.toNat l+Int.toNat l+Int.toNat l+Int.toNat l+Int.toNat l+1+1+1+1+1+1+1+1<=72/\dP Tryz.f89 3 1 [⟨11,[],[0],[],false⟩,xF 10 0,xF 9 0,xF 8 0,xR 7 0,xF 6 0,xF 5 0,xF 4 0,xE 3,xF 2 0,xE 1,xF 0 0]/\endN QbF [] (Qn 1) (QcL.mk s l) (SV.o (SA.c (.v Value.nilIface))) [SB.cells [nU 72 s.1,nU 72 fun (j:Nat)=>bif match Nat.ble (0+Int.toNat l+Int.toNat l+Int.toNat l+Int.toNat l+Int.toNat l+Int.toNat l+Int.toNat l+Int.toNat l) j with|false=>false|true=>Nat.ble j (0+Int.toNat l+Int.toNat l+Int.toNat l+Int.toNat l+Int.toNat l+Int.toNat l+Int.toNat l+Int.toNat l+1+1+1+1+1+1+1)then s.1 (0+Int.toNat l+Int.toNat l+Int.toNat l+Int.toNat l+Int.toNat l+Int.toNat l+Int.toNat l+Int.toNat l+(j-(0+Int.toNat l+Int.toNat l+Int.toNat l+Int.toNat l+Int.toNat l+Int.toNat l+Int.toNat l+Int.toNat l)))else s.2 j,nB 36 s.3,sI s.4,sI s.5] 98]) (by kernel_rfl) ?_
 refine Qp (fun h=>?_) (fun h=>Qp (fun h2=>?_) (fun h2=>?_))
 · have e:decide (0<=l/\l<9)=false:=decide_eq_false (by omega)
   refine Qj rfl () trivial rfl ?_ ?_
   · show _=SV.ren _ (.o (.c (.v (bif decide (0<=l/\l<9)then _ else _))))
     rw[e];rfl
   · show _=[stoB (bif decide (0<=l/\l<9)then s.evict l.toNat else s)].map _
     rw[e];rfl
 · have e:decide (0<=l/\l<9)=false:=decide_eq_false (by omega)
   refine Qj rfl () trivial rfl ?_ ?_
   · show _=SV.ren _ (.o (.c (.v (bif decide (0<=l/\l<9)then _ else _))))
     rw[e];rfl
   · show _=[stoB (bif decide (0<=l/\l<9)then s.evict l.toNat else s)].map _
     rw[e];rfl
 · have e:decide (0<=l/\l<9)=true:=decide_eq_true (by omega)
   have e8:0+l.toNat+l.toNat+l.toNat+l.toNat+l.toNat+l.toNat+l.toNat+l.toNat=8*l.toNat:=by omega
   rw[e8]
   refine⟨⟨by omega,by omega⟩,by omega,⟨by omega,by omega⟩,by omega,Qf (by kernel_rfl),Qj rfl () trivial rfl ?_ ?_⟩
   · show _=SV.ren _ (.o (.c (.v (bif decide (0<=l/\l<9)then _ else _))))
     rw[e];rfl
   · show [stoB ⟨s.now,fun j=>bif lnB l.toNat j then s.now (8*l.toNat+(j-8*l.toNat))else s.good j,s.want,s.fl,s.fe⟩]=[stoB (bif decide (0<=l/\l<9)then s.evict l.toNat else s)].map _
     rw[e,show (fun j=>bif lnB l.toNat j then s.now (8*l.toNat+(j-8*l.toNat))else s.good j)=(s.evict l.toNat).good from funext fun j=>QgX];rfl
def Qfd:MCon:=dcon (Nat->Int) (fun _=>True) (fun _=>[.c (.p 0 0)]) (fun s=>[ramB s]) (fun _=>.t []) (fun _=>[ramB (fun _=>0)]) 1 (fun args _=>some (blkA args))
theorem QnL:(Con.mem Qfd).holds Tryz.prog 93:=by
 intro w0 S
 refine Qb (Γ:=[]) (fun _=>noW) Tryz.func93 rfl (by kernel_rfl) Qg Qc (fun w S' _ _=>.nil _ _ _) Qfd (fun s=>[]) (fun x0 h s x=>⟨rfl,trivial⟩) (fun s ρ w _ _ _=>Qh w _) [] (Qn 1) 400 ?_
 rintro s w - -
 refine⟨rfl,?_⟩
 refine Qi (q:=endN Qfd [] (Qn 1) s (SV.t []) [SB.cells [nU 16 zF] 85]) (by kernel_rfl) ?_
 exact⟨(),trivial,rfl,rfl⟩
def Qnx (t:Nat):TCon Sh Unit Unit where
 pre z _:=True
 args _:=[.c (.v (.int .i64 t))]
 ok _ _ _:=True
 next z _ _:=z
 val _ z _ _:=sv (.int .i64 (z.w t).does)
 new _ _ _ _:=[]
 len:=0
abbrev QaZ (t:Nat):MCon:=(Qnx t).low shM ShS.z ShS.good 17 7 Qc9
theorem Qib:(Con.mem (QaZ 0)).holds Tryz.prog 54:=by
 intro w0 S
 refine Qb (Γ:=[(90,.inl Tryz.f90 (Tryz.f90.body.getD .skip))]) (fun _=>noW) Tryz.func54 rfl (by kernel_rfl) Qg Qc (fun w S' _ _=>.cons ⟨by kernel_rfl,rfl,rfl⟩ (.nil _ _ _)) (QaZ 0) (fun _=>[]) (fun x0 h=>by cases h) (fun s ρ w _ _ _=>Qh w _) [] (fun _ M=>shAt M 0) 600 ?_
 rintro⟨⟨z,r,mh,ch,nh,zh,mv,cv,nv,zv⟩,⟨⟩⟩ W ⟨h0,-⟩ -
 refine⟨rfl,?_⟩
 refine Qi (q:=i04/\endN (QaZ 0) [] (fun (x:SV) (M:List SB)=>shAt M 0) (ShS.mk z r mh ch nh zh mv cv nv zv,PUnit.unit) (SV.o (aI (Sh.w z 0).2)) (shI (shD z.4 z.5 15 (List.length z.6) ch nh 16 (List.length z.7) cv nv) z.1 (Sh.s z) (stX (Sh.w z) r) (stA r) (stD r) (evB mh ch zh) (vdB mv cv zv) [])) (by kernel_rfl) ?_
 have h0:(⟨z,r,mh,ch,nh,zh,mv,cv,nv,zv⟩:ShS).good:=h0
 exact⟨⟨by decide,by decide⟩,Qj rfl ⟨⟨z,r,mh,ch,nh,zh,mv,cv,nv,zv⟩,()⟩ ⟨h0,rfl,trivial⟩ rfl rfl rfl⟩
theorem QnA:(Con.mem (QaZ 1)).holds Tryz.prog 54:=by
 intro w0 S
 refine Qb (Γ:=[(90,.inl Tryz.f90 (Tryz.f90.body.getD .skip))]) (fun _=>noW) Tryz.func54 rfl (by kernel_rfl) Qg Qc (fun w S' _ _=>.cons ⟨by kernel_rfl,rfl,rfl⟩ (.nil _ _ _)) (QaZ 1) (fun _=>[]) (fun x0 h=>by cases h) (fun s ρ w _ _ _=>Qh w _) [] (fun _ M=>shAt M 0) 600 ?_
 rintro⟨⟨z,r,mh,ch,nh,zh,mv,cv,nv,zv⟩,⟨⟩⟩ W ⟨h0,-⟩ -
 refine⟨rfl,?_⟩
 refine Qi (q:=(iR (1:Int) (4:Int))/\endN (QaZ 1) [] (fun (x:SV) (M:List SB)=>shAt M 0) (ShS.mk z r mh ch nh zh mv cv nv zv,PUnit.unit) (SV.o (aI (Sh.w z 1).2)) (shI (shD z.4 z.5 15 (List.length z.6) ch nh 16 (List.length z.7) cv nv) z.1 (Sh.s z) (stX (Sh.w z) r) (stA r) (stD r) (evB mh ch zh) (vdB mv cv zv) [])) (by kernel_rfl) ?_
 have h0:(⟨z,r,mh,ch,nh,zh,mv,cv,nv,zv⟩:ShS).good:=h0
 exact⟨⟨by decide,by decide⟩,Qj rfl ⟨⟨z,r,mh,ch,nh,zh,mv,cv,nv,zv⟩,()⟩ ⟨h0,rfl,trivial⟩ rfl rfl rfl⟩
theorem Qnz:(Con.mem (QaZ 2)).holds Tryz.prog 54:=by
 intro w0 S
 refine Qb (Γ:=[(90,.inl Tryz.f90 (Tryz.f90.body.getD .skip))]) (fun _=>noW) Tryz.func54 rfl (by kernel_rfl) Qg Qc (fun w S' _ _=>.cons ⟨by kernel_rfl,rfl,rfl⟩ (.nil _ _ _)) (QaZ 2) (fun _=>[]) (fun x0 h=>by cases h) (fun s ρ w _ _ _=>Qh w _) [] (fun _ M=>shAt M 0) 600 ?_
 rintro⟨⟨z,r,mh,ch,nh,zh,mv,cv,nv,zv⟩,⟨⟩⟩ W ⟨h0,-⟩ -
 refine⟨rfl,?_⟩
 refine Qi (q:=(iR (2:Int) (4:Int))/\endN (QaZ 2) [] (fun (x:SV) (M:List SB)=>shAt M 0) (ShS.mk z r mh ch nh zh mv cv nv zv,PUnit.unit) (SV.o (aI (Sh.w z 2).2)) (shI (shD z.4 z.5 15 (List.length z.6) ch nh 16 (List.length z.7) cv nv) z.1 (Sh.s z) (stX (Sh.w z) r) (stA r) (stD r) (evB mh ch zh) (vdB mv cv zv) [])) (by kernel_rfl) ?_
 have h0:(⟨z,r,mh,ch,nh,zh,mv,cv,nv,zv⟩:ShS).good:=h0
 exact⟨⟨by decide,by decide⟩,Qj rfl ⟨⟨z,r,mh,ch,nh,zh,mv,cv,nv,zv⟩,()⟩ ⟨h0,rfl,trivial⟩ rfl rfl rfl⟩
theorem Qny:(Con.mem (QaZ 3)).holds Tryz.prog 54:=by
 intro w0 S
 refine Qb (Γ:=[(90,.inl Tryz.f90 (Tryz.f90.body.getD .skip))]) (fun _=>noW) Tryz.func54 rfl (by kernel_rfl) Qg Qc (fun w S' _ _=>.cons ⟨by kernel_rfl,rfl,rfl⟩ (.nil _ _ _)) (QaZ 3) (fun _=>[]) (fun x0 h=>by cases h) (fun s ρ w _ _ _=>Qh w _) [] (fun _ M=>shAt M 0) 600 ?_
 rintro⟨⟨z,r,mh,ch,nh,zh,mv,cv,nv,zv⟩,⟨⟩⟩ W ⟨h0,-⟩ -
 refine⟨rfl,?_⟩
 refine Qi (q:=(iR (3:Int) (4:Int))/\endN (QaZ 3) [] (fun (x:SV) (M:List SB)=>shAt M 0) (ShS.mk z r mh ch nh zh mv cv nv zv,PUnit.unit) (SV.o (aI (Sh.w z 3).2)) (shI (shD z.4 z.5 15 (List.length z.6) ch nh 16 (List.length z.7) cv nv) z.1 (Sh.s z) (stX (Sh.w z) r) (stA r) (stD r) (evB mh ch zh) (vdB mv cv zv) [])) (by kernel_rfl) ?_
 have h0:(⟨z,r,mh,ch,nh,zh,mv,cv,nv,zv⟩:ShS).good:=h0
 exact⟨⟨by decide,by decide⟩,Qj rfl ⟨⟨z,r,mh,ch,nh,zh,mv,cv,nv,zv⟩,()⟩ ⟨h0,rfl,trivial⟩ rfl rfl rfl⟩
def evC:TCon Sh Int Unit where
 pre z _:=True
 args a:=[.c (.v (.int .i64 a))]
 ok _ _ _:=True
 next z a _:=z.evict a
 val _ z a _:=.o (.c (.v (bif decide (0<=a/\a<9)then .nilIface else .iface 91 (.int .i64 2))))
 new _ _ _ _:=[]
 len:=0
abbrev Qrd:MCon:=evC.low shM ShS.z ShS.good 17 7 Qc9
theorem Qpp (z:Sh) (a:Int):z.evict a={ z with s:=bif decide (0<=a/\a<9)then z.s.evict a.toNat else z.s }:=by
 unfold Sh.evict
 by_cases h:0<=a/\a<9
 · rw[if_pos h,decide_eq_true h];rfl
 · rw[if_neg h,decide_eq_false h];rfl
theorem ev_con:(Con.mem Qrd).holds Tryz.prog 94:=by
 intro w0 S
 refine Qb (Γ:=[(89,.mem QbF)]) (fun _=>noW) Tryz.func94 rfl (by kernel_rfl) Qg Qc (fun w S' _ _=>.cons (QhA w S') (.nil _ _ _)) Qrd (fun _=>[]) (fun x0 h=>by cases h) (fun s ρ w _ _ _=>Qh w _) [] (fun _ M=>shAt M 0) 600 ?_
 rintro⟨⟨z,r,mh,ch,nh,zh,mv,cv,nv,zv⟩,a⟩ W ⟨h0,-⟩ -
 refine⟨rfl,?_⟩
 refine Qi (q:=∃(s:QcL),[aP 2 0,aI a]=[aP 2 0,aI s.2]/\[stoB (Sh.s z)]=[stoB (QcL.s s)]/\True/\∀(x:Unit),True->endN Qrd [] (fun (x:SV) (M:List SB)=>shAt M 0) (ShS.mk z r mh ch nh zh mv cv nv zv,a) (SV.o (SA.c (.v (bif decide (iR s.2 (9:Int))then Value.nilIface else Value.iface 91 (Value.int .i64 (2:Int)))))) (shI (shD z.4 z.5 15 (List.length z.6) ch nh 16 (List.length z.7) cv nv) z.1 (bif decide ((0:Int)<=QcL.l s/\QcL.l s<(9:Int))then Sto.evict (QcL.s s) (Int.toNat (QcL.l s))else QcL.s s) (stX (Sh.w z) r) (stA r) (stD r) (evB mh ch zh) (vdB mv cv zv) [])) (by kernel_rfl) ?_
 have h0:(⟨z,r,mh,ch,nh,zh,mv,cv,nv,zv⟩:ShS).good:=h0
 refine⟨⟨z.s,a⟩,rfl,rfl,trivial,fun _ _=>?_⟩
 exact Qj rfl ⟨⟨{ z with s:=bif decide (0<=a/\a<9)then z.s.evict a.toNat else z.s },r,mh,ch,nh,zh,mv,cv,nv,zv⟩,()⟩ ⟨⟨h0.w,h0.h1,h0.h2,h0.h,h0.v1,h0.v2,h0.v⟩,(Qpp z a).symm,trivial⟩ rfl rfl rfl
structure RwR where
 m:Nat
 c:Nat
 nn:Bool
 z:Nat->Nat->Int
def ddsC:TCon Sh Unit RwR where
 pre z _:=z.deeds.length<=1000000000
 args _:=[]
 ok z _ r:=(z.deeds.length<=r.m/\r.m<=r.c)/\IsR 6 Dd.at Dd.nil r.z (z.deeds.map Vd.d)
 next z _ _:=z
 val n z _ r:=.o (.c (.so n 0 6 z.deeds.length r.c r.nn))
 new _ _ _ r:=[wkD r.m r.c r.z]
 len:=1
abbrev QnK:MCon:=ddsC.low shM ShS.z ShS.good 17 7 Qc9
structure DdsG (z:Sh) where
 i:Nat
 ln:Nat
 r:RwR
 hi:i<=z.deeds.length
 hl:i=ln
 h1:i<=r.m
 h2:r.m<=r.c
 h:IsR 6 Dd.at Dd.nil r.z ((z.deeds.take i).map Vd.d)
abbrev nzDd (t:Nat):NZ:=.tmp t 60 6 [.int .i64,.int .i64,.int .i64,.int .i64,.int .i64,.int .i64]
def Qqk (s:ShS):Ann where
 σ:=DdsG s.z
 I g:=([(0,.o (.c (.p 0 0))),(3,.o (.c (.so 17 0 6 g.ln g.r.c g.r.nn))),(9,.o (.c (.so 16 0 7 s.z.deeds.length s.cv s.nv))),(10,sv (.int .i64 s.z.deeds.length)),(11,sv (.int .i64 g.i))],shM s++[wkD g.r.m g.r.c g.r.z])
 dec g:=s.z.deeds.length-g.i
 pi env M:=shAt M 0++[blkE env 3]
 nz:=[nzDd 3]
theorem Qq5:(Con.mem QnK).holds Tryz.prog 53:=by
 intro w0 S
 refine Qb (Γ:=[]) (fun _=>noW) Tryz.func53 rfl (by kernel_rfl) Qg Qc (fun w S' _ _=>.nil _ _ _) QnK (fun s=>[(53,[(0,Qqk s.1)])]) (fun x0 h=>by cases h) (fun s ρ w _ _ _=>Qh w _) [] (fun x M=>shAt M 0++(match x with
  |.o (.c (.so b _ _ _ _ _))=>[b]
  |_=>[])) 600 ?_
 rintro⟨⟨z,r,mh,ch,nh,zh,mv,cv,nv,zv⟩,⟨⟩⟩ W ⟨h0,h1⟩ -
 refine⟨rfl,?_⟩
 dsimp only
 refine Qi (q:=List.length z.7<=cv/\(∃(s0:Ann.σ (Qqk (ShS.mk z r mh ch nh zh mv cv nv zv))),(eS (aP 0 0) (aP 0 0)/\eS (SA.c (.so 17 0 6 0 0 false)) (SA.c (.so 17 0 6 s0.2 (DdsG.r s0).2 (DdsG.r s0).3))/\eS (SA.c (.so 16 0 7 (List.length z.7) cv nv)) (SA.c (.so 16 0 7 (List.length z.7) cv nv))/\eS (aI (↑(List.length z.7):Int)) (aI (↑(List.length z.7):Int))/\eS (aI 0) (aI ↑s0.1)/\True)/\(shI (shD z.4 z.5 15 (List.length z.6) ch nh 16 (List.length z.7) cv nv) z.1 (Sh.s z) (stX (Sh.w z) r) (stA r) (stD r) (evB mh ch zh) (vdB mv cv zv) [wd0])=(shI (shD z.4 z.5 15 (List.length z.6) ch nh 16 (List.length z.7) cv nv) z.1 (Sh.s z) (stX (Sh.w z) r) (stA r) (stD r) (evB mh ch zh) (vdB mv cv zv) [wkD (DdsG.r s0).1 (DdsG.r s0).2 (DdsG.r s0).4]))/\∀(s:DdsG z),bif decide ((↑s.1:Int)<(↑(List.length z.7):Int))then ((0:Int)<=(↑s.1:Int)/\(↑s.1:Int)<(↑(List.length z.7):Int)/\0+List.length z.7<=cv)/\0+Int.toNat (↑s.1:Int)<mv/\((s.2<=(DdsG.r s).1/\(DdsG.r s).2=(DdsG.r s).2)/\(1<=1/\1=1)/\s.2+1<=68719476736)/\∀(c:Nat),s.2+1<=c->∃(s':DdsG z),((eS (aP 0 0) (aP 0 0)/\eS (SA.c (.so 20 0 6 (s.2+1) c (DdsG.r s).3)) (SA.c (.so 20 0 6 s'.2 (DdsG.r s').2 (DdsG.r s').3))/\eS (SA.c (.so 16 0 7 (List.length z.7) cv nv)) (SA.c (.so 16 0 7 (List.length z.7) cv nv))/\eS (aI (↑(List.length z.7):Int)) (aI (↑(List.length z.7):Int))/\eS (aI (IntKind.wrap .i64 ((↑s.1:Int)+(1:Int)))) (aI ↑s'.1)/\True)/\(shI (shD z.4 z.5 15 (List.length z.6) ch nh 16 (List.length z.7) cv nv) z.1 (Sh.s z) (stX (Sh.w z) r) (stA r) (stD r) (evB mh ch zh) (vdB mv cv zv) [wkD (s.2+1) c fun (i j:Nat)=>bif Nat.ble (i+1) s.2 then (DdsG.r s).4 i j else match List.get?Internal (match List.get?Internal [[zv (0+Int.toNat (↑s.1:Int)) 1,zv (0+Int.toNat (↑s.1:Int)) 2,zv (0+Int.toNat (↑s.1:Int)) 3,zv (0+Int.toNat (↑s.1:Int)) 4,zv (0+Int.toNat (↑s.1:Int)) 5,zv (0+Int.toNat (↑s.1:Int)) 6]] (0+(i-s.2))with|some x=>x|none=>[]) j with|some x=>x|none=>(0:Int)])=(shI (shD z.4 z.5 15 (List.length z.6) ch nh 16 (List.length z.7) cv nv) z.1 (Sh.s z) (stX (Sh.w z) r) (stA r) (stD r) (evB mh ch zh) (vdB mv cv zv) [wkD (DdsG.r s').1 (DdsG.r s').2 (DdsG.r s').4]))/\List.length z.7-s'.1<List.length z.7-s.1 else endN QnK [] (fun (x:SV) (M:List SB)=>shAt M 0++match x with|SV.o (SA.c (.so b lo sz n c nn))=>[b]|x=>[]) (ShS.mk z r mh ch nh zh mv cv nv zv,PUnit.unit) (SV.o (SA.c (.so 17 0 6 s.2 (DdsG.r s).2 (DdsG.r s).3))) (shI (shD z.4 z.5 15 (List.length z.6) ch nh 16 (List.length z.7) cv nv) z.1 (Sh.s z) (stX (Sh.w z) r) (stA r) (stD r) (evB mh ch zh) (vdB mv cv zv) [wkD (DdsG.r s).1 (DdsG.r s).2 (DdsG.r s).4])) (by kernel_rfl) ?_
 have h0:(⟨z,r,mh,ch,nh,zh,mv,cv,nv,zv⟩:ShS).good:=h0
 have h1:z.deeds.length<=1000000000:=h1
 have hv1:=h0.v1
 have hv2:=h0.v2
 have hzv:=h0.v
 dsimp only at hv1 hv2 hzv
 refine⟨by omega,⟨⟨0,0,⟨0,0,false,fun _ _=>0⟩,Nat.zero_le _,rfl,Nat.le_refl _,Nat.le_refl _,fun i hi=>absurd hi (Nat.not_lt_zero _)⟩,⟨rfl,rfl,rfl,rfl,rfl,trivial⟩,rfl⟩,?_⟩
 rintro⟨i,ln,⟨m,c,nn,zz⟩,hi,hl,g1,g2,gz⟩
 dsimp only at hi hl g1 g2 gz ⊢
 subst hl
 refine Qp (fun hlt=>?_) (fun hge=>?_)
 · have hlt':i<z.deeds.length:=by omega
   have hx:(z.deeds.take (i+1)).map Vd.d=(z.deeds.take i).map Vd.d++[(z.deeds.getD i Vd.nil).d]:=by
    rw[List.take_add_one,List.getElem?_eq_getElem hlt',Option.toList_some,List.map_append,List.getD_eq_getElem?_getD,List.getElem?_eq_getElem hlt'];rfl
   have hlen:((z.deeds.take i).map Vd.d).length=i:=by rw[List.length_map,List.length_take];omega
   refine⟨⟨by omega,by omega,by omega⟩,by omega,⟨⟨g1,rfl⟩,⟨Nat.le_refl _,rfl⟩,by omega⟩,fun c' hc'=>⟨⟨i+1,i+1,⟨i+1,c',nn,_⟩,hlt',rfl,Nat.le_refl _,hc',?_⟩,⟨⟨rfl,rfl,rfl,rfl,svI (sucI (by omega)),trivial⟩,rfl⟩,by dsimp only;omega⟩⟩
   rw[hx]
   refine gz.snoc (fun j hj k _=>catT (by omega)) (fun j hj=>?_)
   rw[hlen]
   refine catF.trans ?_
   rw[Nat.sub_self,Int.toNat_natCast,Nat.zero_add]
   have hq:=hzv i hlt'
   match j,hj with
   |0,_=>exact hq 1 (by decide)
   |1,_=>exact hq 2 (by decide)
   |2,_=>exact hq 3 (by decide)
   |3,_=>exact hq 4 (by decide)
   |4,_=>exact hq 5 (by decide)
   |5,_=>exact hq 6 (by decide)
 · obtain rfl:i=z.deeds.length:=by omega
   rw[List.take_length]at gz
   exact Qj rfl ⟨⟨z,r,mh,ch,nh,zh,mv,cv,nv,zv⟩,⟨m,c,nn,zz⟩⟩ ⟨h0,rfl,⟨g1,g2⟩,gz⟩ rfl rfl rfl
def hisC:TCon Sh Unit RwR where
 pre z _:=z.hist.length<=1000000000
 args _:=[]
 ok z _ r:=(z.hist.length<=r.m/\r.m<=r.c)/\IsE r.z z.hist
 next z _ _:=z
 val n z _ r:=.o (.c (.so n 0 9 z.hist.length r.c r.nn))
 new _ _ _ r:=[evB r.m r.c r.z]
 len:=1
abbrev QnJ:MCon:=hisC.low shM ShS.z ShS.good 17 7 Qc9
theorem QqX:(Con.mem QnJ).holds Tryz.prog 27:=by
 intro w0 S
 refine Qb (Γ:=[]) (fun _=>noW) Tryz.func27 rfl (by kernel_rfl) Qg Qc (fun w S' _ _=>.nil _ _ _) QnJ (fun s=>[]) (fun x0 h=>by cases h) (fun s ρ w _ _ _=>Qh w _) [] (fun x M=>shAt M 0++(match x with
  |.o (.c (.so b _ _ _ _ _))=>[b]
  |_=>[])) 600 ?_
 rintro⟨⟨z,r,mh,ch,nh,zh,mv,cv,nv,zv⟩,⟨⟩⟩ W ⟨h0,h1⟩ -
 refine⟨rfl,?_⟩
 refine Qi (q:=(True/\(0+List.length z.6<=mh/\ch=ch)/\0+List.length z.6<=68719476736)/\∀(c:Nat),0+List.length z.6<=c->endN QnJ [] (fun (x:SV) (M:List SB)=>shAt M 0++match x with|SV.o (SA.c (.so b lo sz n c nn))=>[b]|x=>[]) (ShS.mk z r mh ch nh zh mv cv nv zv,PUnit.unit) (SV.o (SA.c (.so 17 0 9 (0+List.length z.6) c false))) (shI (shD z.4 z.5 15 (List.length z.6) ch nh 16 (List.length z.7) cv nv) z.1 (Sh.s z) (stX (Sh.w z) r) (stA r) (stD r) (evB mh ch zh) (vdB mv cv zv) [evB (0+List.length z.6) c fun (i j:Nat)=>zh (0+i) j])) (by kernel_rfl) ?_
 have h0:(⟨z,r,mh,ch,nh,zh,mv,cv,nv,zv⟩:ShS).good:=h0
 have h1:z.hist.length<=1000000000:=h1
 have hh1:=h0.h1
 have hh2:=h0.h2
 have hzh:=h0.h
 dsimp only at hh1 hh2 hzh
 refine⟨⟨trivial,⟨by omega,rfl⟩,by omega⟩,fun c hc=>?_⟩
 rw[Nat.zero_add]at hc ⊢
 refine Qj rfl ⟨⟨z,r,mh,ch,nh,zh,mv,cv,nv,zv⟩,⟨z.hist.length,c,false,_⟩⟩ ⟨h0,rfl,⟨Nat.le_refl _,hc⟩,hzh.sub (fun j hj k _=>?_)⟩ rfl rfl rfl
 show zh (0+j) k=zh j k
 rw[Nat.zero_add]
def oneC (t:Nat):TCon Sh Unit Unit where
 pre z _:=True
 args _:=[.c (.v (.int .i64 t))]
 ok _ _ _:=True
 next z _ _:=z
 val n z _ _:=.t [.c (.p (bif n.beq 17 then 3+t else 0) 0),.c (.v .nilIface)]
 new _ _ _ _:=[]
 len:=0
abbrev QdZ (t:Nat):MCon:=(oneC t).low shM ShS.z ShS.good 17 7 Qc9
def QeF (n0:Nat) (n1:Nat) (z:Sh) (r:Nat->WkR) (mh:Nat) (ch:Nat) (nh:Bool) (zh:Nat->Nat->Int) (mv:Nat) (cv:Nat) (nv:Bool) (zv:Nat->Nat->Int):Prop:=(iR (n0:Int) (4:Int))/\endN (QdZ n0) [] (fun (x:SV) (M:List SB)=>shAt M 0) (ShS.mk z r mh ch nh zh mv cv nv zv,PUnit.unit) (SV.t [aP n1 0,SA.c (.v Value.nilIface)]) (shI (shD z.4 z.5 15 (List.length z.6) ch nh 16 (List.length z.7) cv nv) z.1 (Sh.s z) (stX (Sh.w z) r) (stA r) (stD r) (evB mh ch zh) (vdB mv cv zv) [])
theorem QjC:(Con.mem (QdZ 0)).holds Tryz.prog 90:=by
 intro w0 S
 refine Qb (Γ:=[]) (fun _=>noW) Tryz.func90 rfl (by kernel_rfl) Qg Qc (fun w S' _ _=>.nil _ _ _) (QdZ 0) (fun _=>[]) (fun x0 h=>by cases h) (fun s ρ w _ _ _=>Qh w _) [] (fun _ M=>shAt M 0) 600 ?_
 rintro⟨⟨z,r,mh,ch,nh,zh,mv,cv,nv,zv⟩,⟨⟩⟩ W ⟨h0,-⟩ -
 refine⟨rfl,?_⟩
 refine Qi (q:=QeF 0 3 z r mh ch nh zh mv cv nv zv) (by kernel_rfl) ?_
 unfold QeF
 have h0:(⟨z,r,mh,ch,nh,zh,mv,cv,nv,zv⟩:ShS).good:=h0
 exact⟨⟨by decide,by decide⟩,Qj rfl ⟨⟨z,r,mh,ch,nh,zh,mv,cv,nv,zv⟩,()⟩ ⟨h0,rfl,trivial⟩ rfl rfl rfl⟩
theorem QoN:(Con.mem (QdZ 1)).holds Tryz.prog 90:=by
 intro w0 S
 refine Qb (Γ:=[]) (fun _=>noW) Tryz.func90 rfl (by kernel_rfl) Qg Qc (fun w S' _ _=>.nil _ _ _) (QdZ 1) (fun _=>[]) (fun x0 h=>by cases h) (fun s ρ w _ _ _=>Qh w _) [] (fun _ M=>shAt M 0) 600 ?_
 rintro⟨⟨z,r,mh,ch,nh,zh,mv,cv,nv,zv⟩,⟨⟩⟩ W ⟨h0,-⟩ -
 refine⟨rfl,?_⟩
 refine Qi (q:=QeF 1 4 z r mh ch nh zh mv cv nv zv) (by kernel_rfl) ?_
 unfold QeF
 have h0:(⟨z,r,mh,ch,nh,zh,mv,cv,nv,zv⟩:ShS).good:=h0
 exact⟨⟨by decide,by decide⟩,Qj rfl ⟨⟨z,r,mh,ch,nh,zh,mv,cv,nv,zv⟩,()⟩ ⟨h0,rfl,trivial⟩ rfl rfl rfl⟩
theorem QoM:(Con.mem (QdZ 2)).holds Tryz.prog 90:=by
 intro w0 S
 refine Qb (Γ:=[]) (fun _=>noW) Tryz.func90 rfl (by kernel_rfl) Qg Qc (fun w S' _ _=>.nil _ _ _) (QdZ 2) (fun _=>[]) (fun x0 h=>by cases h) (fun s ρ w _ _ _=>Qh w _) [] (fun _ M=>shAt M 0) 600 ?_
 rintro⟨⟨z,r,mh,ch,nh,zh,mv,cv,nv,zv⟩,⟨⟩⟩ W ⟨h0,-⟩ -
 refine⟨rfl,?_⟩
 refine Qi (q:=QeF 2 5 z r mh ch nh zh mv cv nv zv) (by kernel_rfl) ?_
 unfold QeF
 have h0:(⟨z,r,mh,ch,nh,zh,mv,cv,nv,zv⟩:ShS).good:=h0
 exact⟨⟨by decide,by decide⟩,Qj rfl ⟨⟨z,r,mh,ch,nh,zh,mv,cv,nv,zv⟩,()⟩ ⟨h0,rfl,trivial⟩ rfl rfl rfl⟩
theorem QoL:(Con.mem (QdZ 3)).holds Tryz.prog 90:=by
 intro w0 S
 refine Qb (Γ:=[]) (fun _=>noW) Tryz.func90 rfl (by kernel_rfl) Qg Qc (fun w S' _ _=>.nil _ _ _) (QdZ 3) (fun _=>[]) (fun x0 h=>by cases h) (fun s ρ w _ _ _=>Qh w _) [] (fun _ M=>shAt M 0) 600 ?_
 rintro⟨⟨z,r,mh,ch,nh,zh,mv,cv,nv,zv⟩,⟨⟩⟩ W ⟨h0,-⟩ -
 refine⟨rfl,?_⟩
 refine Qi (q:=QeF 3 6 z r mh ch nh zh mv cv nv zv) (by kernel_rfl) ?_
 unfold QeF
 have h0:(⟨z,r,mh,ch,nh,zh,mv,cv,nv,zv⟩:ShS).good:=h0
 exact⟨⟨by decide,by decide⟩,Qj rfl ⟨⟨z,r,mh,ch,nh,zh,mv,cv,nv,zv⟩,()⟩ ⟨h0,rfl,trivial⟩ rfl rfl rfl⟩
theorem QqM (v:Value) (a:Int) (h:a<0\/4<=a) (w:World):Calls Tryz.prog 90 #[v,.int .i64 a] w fun e w'=>e=.returned (.tuple #[.pointer none,.iface 91 (.int .i64 2)])/\w=w':=by
 rcases h with h|h
 · have h1:decide (a<0)=true:=decide_eq_true h
   go_enter Tryz.func90,Tryz.ntmps90
   go_wp2
   go_ret2
   exact⟨rfl,rfl⟩
 · have h1:decide (a<0)=false:=decide_eq_false (by omega)
   have h2:decide (a>=4)=true:=decide_eq_true h
   go_enter Tryz.func90,Tryz.ntmps90
   go_wp2
   go_ret2
   exact⟨rfl,rfl⟩
def Qhh:PCon:=⟨fun args=>match args with
 |[.c _,.c (.v (.int .i64 a))]=>a<0\/4<=a
 |_=>False,fun args=>.t [.c (.v (.pointer none)),.c (.v (.iface 91 (.int .i64 2)))],fun _=>none⟩
theorem QjB:(Con.pure Qhh).holds Tryz.prog 90:=by
 intro w0 S
 refine⟨by kernel_rfl,fun ρ args w hp hK=>?_⟩
 unfold Qhh at hp;dsimp only at hp;split at hp
 case h_2=>exact hp.elim
 rename_i x a
 refine (QqM (x.den ρ) a hp w).mono ?_
 rintro e w' ⟨rfl,rfl⟩
 exact⟨rfl,Below.refl _ _⟩
def calX:TCon Sh (Int × OpA) Unit where
 pre z a:=a.1<0\/4<=a.1
 args a:=[.c (.v (.int .i64 a.1)),.a [.one (.v (.int .i64 a.2.k)),.one (.v (.int .i64 a.2.key)),.one (.v (.int .i64 a.2.x))]]
 ok _ _ _:=True
 next z _ _:=z
 val n z _ _:=.o (.c (.v (.iface 91 (.int .i64 2))))
 new _ _ _ _:=[]
 len:=0
abbrev Qi7:MCon:=calX.low shM ShS.z ShS.good 17 7 Qc9
theorem QpK:(Con.mem Qi7).holds Tryz.prog 49:=by
 intro w0 S
 refine Qb (Γ:=[(90,.pure Qhh)]) (fun _=>noW) Tryz.func49 rfl (by kernel_rfl) Qg Qc (fun w S' _ _=>.cons (QjB w _) (.nil _ _ _)) Qi7 (fun _=>[]) (fun x0 h=>by cases h) (fun s ρ w _ _ _=>Qh w _) [] (fun _ M=>shAt M 0) 600 ?_
 rintro⟨⟨z,r,mh,ch,nh,zh,mv,cv,nv,zv⟩,a,k,key,x⟩ W ⟨h0,h1⟩ -
 refine⟨rfl,?_⟩
 refine Qi (q:=(a<(0:Int)\/(4:Int)<=a)/\endN Qi7 [] (fun (x:SV) (M:List SB)=>shAt M 0) (ShS.mk z r mh ch nh zh mv cv nv zv,a,OpA.mk k key x) (SV.o (SA.c (.v (.iface 91 (Value.int .i64 (2:Int)))))) (shI (shD z.4 z.5 15 (List.length z.6) ch nh 16 (List.length z.7) cv nv) z.1 (Sh.s z) (stX (Sh.w z) r) (stA r) (stD r) (evB mh ch zh) (vdB mv cv zv) [SB.cells [sI k,sI key,sI x] 32])) (by kernel_rfl) ?_
 have h0:(⟨z,r,mh,ch,nh,zh,mv,cv,nv,zv⟩:ShS).good:=h0
 exact⟨h1,Qj rfl ⟨⟨z,r,mh,ch,nh,zh,mv,cv,nv,zv⟩,()⟩ ⟨h0,rfl,trivial⟩ rfl rfl rfl⟩
def TCon.Does {X Y α χ:Type}(c:TCon Y α χ) (L:X->List SB) (y:X->Y) (good:X->Prop) (P:Program) (w0:World) (S:Nat->Prop) (f:FuncId) (a:α):Prop:=
 ∀(ρ:Nat->Nat) (z:Y) (F:List Nat) (w:World),c.pre z a->Kept S w0 w->Mem w (feet (denM ρ 0 [.abs (QE L y good z) F])) (denM ρ 0 [.abs (QE L y good z) F]) w ->
  Calls P f ((SA.c (.p 0 0)::c.args a).map (SA.den ρ)).toArray w fun e w'=>∃(x:List Nat × χ) (ρ':Nat->Nat),c.ok z a x.2/\(∀i,i<1->ρ' i=ρ i)/\(SB.abs (QE L y good (c.next z a x.2)) x.1::c.new 1 z a x.2).length=1+c.len/\e=.returned ((c.val 1 z a x.2).den ρ') /\
   Mem w (feet (denM ρ 0 [.abs (QE L y good z) F])) (denM ρ' 0 (.abs (QE L y good (c.next z a x.2)) x.1::c.new 1 z a x.2)) w'
theorem TCon.high_of {X Y α χ:Type}{c:TCon Y α χ}{L:X->List SB}{y:X->Y}{good:X->Prop}{P:Program}{f:FuncId}{w0:World}{S:Nat->Prop}(he:Qbq P f=true) (h:∀a,c.Does L y good P w0 S f a):(Con.mem (c.high L y good)).holdsAt P w0 S f:=
 ⟨he,fun x0 h=>(by cases h),fun ρ s w hp hK HM=>h s.2.1 ρ s.1 s.2.2 w hp hK HM⟩
theorem TCon.does_of {X Y α χ α' χ':Type}(c:TCon Y α χ) (c':TCon Y α' χ') {L:X->List SB}{y:X->Y}{good:X->Prop}{n k:Nat}{find:List SA->List SB->Option (List Nat)}{P:Program}{f:FuncId}{w0:World}{S:Nat->Prop}
 (h:(Con.mem (c.low L y good n k find)).holdsAt P w0 S f) (hk:0<k) (hn:∀x,good x->(L x).length=n) (a:α) (a':α') (harg:c'.args a'=c.args a) (ha:QaK (sc 1) (c.args a)=true) (hpre:∀z,c'.pre z a'->c.pre z a)
 (hv:∀z r,c'.pre (y z) a'->c.ok (y z) a r->∀ρ ρ':Nat->Nat,(∀i,ρ' (1+i)=ρ (n+i))->ρ' 0=ρ 0->∃r',c'.ok (y z) a' r'/\c'.next (y z) a' r'=c.next (y z) a r/\(c'.val 1 (y z) a' r').den ρ'=(c.val n (y z) a r).den ρ/\denM ρ' 1 (c'.new 1 (y z) a' r')=denM ρ n (c.new n (y z) a r)/\(c'.new 1 (y z) a' r').length=c'.len):c'.Does L y good P w0 S f a':=by
 intro ρ z F w hp hK HM
 have hA:=HM.holds (.abs (ρ 0) (QE L y good z) F) (List.mem_singleton.2 rfl)
 obtain⟨x,ρ1,rfl,hg,hρ,HM1,hF⟩:=hA
 have harg2:(SA.c (.p 0 0)::c'.args a').map (SA.den ρ)=(SA.c (.p 0 0)::c.args a).map (SA.den ρ1):=by
  rw[harg]
  refine List.map_congr_left fun v hv=>?_
  have hav:v.av (sc 1)=true:=by
   rcases List.mem_cons.1 hv with rfl|hv
   · rfl
   · exact Qbi ha v hv
  exact SA.av_den (fun i hi=>by have:=Xs hi;obtain rfl:i=0:=(by omega);exact hρ.symm) hav
 have hfe:∀g,feet (denM ρ 0 [.abs (QE L y good (y x)) F]) g↔feet (denM ρ1 0 (L x)) g:=fun g=>by
  rw[hF g]
  exact⟨fun ⟨e,he,hf⟩=>by obtain rfl:=List.mem_singleton.1 he;exact hf,fun hg=>⟨_,List.mem_singleton.2 rfl,hg⟩⟩
 have:=h.2.2 ρ1 (x,a) w ⟨hg,hpre _ hp⟩ hK HM1
 rw[harg2]
 refine this.mono ?_
 rintro e w' ⟨⟨x',r⟩,ρ',⟨hg',hy',hok⟩,hag,hlen,rfl,HM'⟩
 have HM':Mem w (feet (denM ρ1 0 (L x))) (denM ρ' 0 (L x'++c.new n (y x) a r)) w':=HM'
 have hl':=hn x' hg'
 rw[Qfb,hl',Nat.zero_add]at HM'
 obtain⟨r',hok',hnext,hv1,hv2,hv4⟩:=hv x r hp hok ρ' (fun i=>if i=0 then ρ' 0 else ρ' (n+(i-1))) (fun i=>by rw[if_neg (by omega),show 1+i-1=i by omega]) rfl
 refine⟨(feetL (denM ρ' 0 (L x')),r'),fun i=>if i=0 then ρ' 0 else ρ' (n+(i-1)),hok',fun i hi=>?_,?_,?_,?_⟩
 · obtain rfl:i=0:=by omega
   show (if 0=0 then ρ' 0 else ρ' (n+(0-1)))=ρ 0
   rw[if_pos rfl,hag 0 hk];exact hρ
 · show (c'.new 1 (y x) a' r').length+1=1+c'.len
   omega
 · show Ending.returned ((c.val n (y x) a r).den ρ')=Ending.returned ((c'.val 1 (y x) a' r').den (fun i=>if i=0 then ρ' 0 else ρ' (n+(i-1))))
   rw[hv1]
 · show Mem w _ ([En.abs (if 0=0 then ρ' 0 else ρ' (n+(0-1))) (QE L y good (c'.next (y x) a' r')) (feetL (denM ρ' 0 (L x')))]++denM _ 1 (c'.new 1 (y x) a' r')) w'
   rw[if_pos rfl,hv2,hnext]
   have hd:=List.pairwise_append.1 HM'.dist
   refine (Mem.subset (S:=feet (denM ρ1 0 (L x))) ⟨HM'.kept,fun e he=>?_,fun e he g hg=>?_,List.pairwise_append.2 ⟨List.pairwise_singleton _ _,hd.2.1,fun e he f hf g hg hfg=>?_⟩⟩ (fun g hg=>(hfe g).2 hg))
   · rcases List.mem_append.1 he with he|he
     · obtain rfl:=List.mem_singleton.1 he
       exact⟨x',ρ',hy',hg',rfl,⟨Kept.refl _ _,fun e he=>HM'.holds e (List.mem_append_left _ he),fun e he g hg=>.inl ⟨e,he,hg⟩,hd.1⟩,fun g=>(feetL_iff _ g).symm⟩
     · exact HM'.holds e (List.mem_append_right _ he)
   · rcases List.mem_append.1 he with he|he
     · obtain rfl:=List.mem_singleton.1 he
       obtain⟨e',he',hf'⟩:=(feetL_iff _ g).1 hg
       exact HM'.own e' (List.mem_append_left _ he') g hf'
     · exact HM'.own e (List.mem_append_right _ he) g hg
   · obtain rfl:=List.mem_singleton.1 he
     obtain⟨e',he',hf'⟩:=(feetL_iff _ g).1 hg
     exact hd.2.2 e' he' f hf g hf' hfg
end
section
structure Cl where
 t:Int
 k:Int
 key:Int
 x:Int
 fr:Int
 tz:Int
 whn:Int
 c:Int
 v:Int
def Cl.nil:Cl:=⟨0,0,0,0,0,0,0,0,0⟩
def Cl.end (i:Nat) (e:Ev) (c:Cl):Cl:=if c.t=e.t/\c.tz=0 then { c with tz:=(i:Int)+1,whn:=e.whn,c:=e.c,v:=e.v } else c
def QfV (l:List Cl) (i:Nat) (e:Ev):List Cl:=if e.kind=1 then l++[⟨e.t,e.k,e.key,e.x,(i:Int)+1,0,0,0,0⟩]else if e.kind=2 then l.map (Cl.end i e)else l
def clTo:List Ev->List Cl × Nat:=List.foldl (fun p e=>(QfV p.1 p.2 e,p.2+1)) ([],0)
def QD (h:List Ev):List Cl:=(clTo h).1
theorem QpI (h:List Ev):(clTo h).2=h.length:=by
 have key:∀(h:List Ev) (p:List Cl × Nat),(h.foldl (fun p e=>(QfV p.1 p.2 e,p.2+1)) p).2=p.2+h.length:=by
  intro h
  induction h with
  |nil=>intro p;rfl
  |cons e h ih=>intro p;rw[List.foldl_cons,ih,List.length_cons];dsimp only;omega
 have:=key h ([],0)
 unfold clTo;rw[this];exact Nat.zero_add _
theorem QeA (h:List Ev) (e:Ev):QD (h++[e])=QfV (QD h) h.length e:=by
 have e1:clTo (h++[e])=(QfV (clTo h).1 (clTo h).2 e,(clTo h).2+1):=by
  unfold clTo;rw[List.foldl_append];rfl
 unfold QD
 rw[e1,QpI]
theorem QjG {α:Type}{f:α->α}{l:List α}{d:α}{i:Nat}(h:i<l.length):(l.map f).getD i d=f (l.getD i d):=by
 simp[List.getD_eq_getElem?_getD,h]
structure EvOK (z:Sh) (g:Gh) (e:Ev):Prop where
 kind:e.kind=1\/e.kind=2\/e.kind=3
 t:e.kind≠3->∃t:Nat,t<4/\e.t=t
 op:e.kind≠3->opOk e.k e.key e.x=true
 s0:1<=e.step
 s1:e.step<=z.steps
 ans:e.kind=2->∃j:Nat,e.whn=(j:Int)+1/\j<g.n/\(z.deeds.getD j Vd.nil).d.c=e.c/\(z.deeds.getD j Vd.nil).d.v=e.v
structure Link (R:Rec) (of:List Nat) (t:Nat) (tog:Int) (i:Nat):Prop where
 yes:Qm R.tog t=tog->∃j:Nat,j<of.length/\R.whn.getD t 0=(j:Int)+1/\of.getD j 0=i
 no:Qm R.tog t≠tog->∀j,j<of.length->of.getD j 0≠i
structure HInv (z:Sh) (g:Gh) (of:List Nat):Prop where
 ln:of.length=z.deeds.length
 lt:∀j,j<of.length->of.getD j 0<(QD z.hist).length
 op:∀j,j<of.length->((QD z.hist).getD (of.getD j 0) Cl.nil).t=(z.deeds.getD j Vd.nil).d.t/\((QD z.hist).getD (of.getD j 0) Cl.nil).k=(z.deeds.getD j Vd.nil).d.k/\((QD z.hist).getD (of.getD j 0) Cl.nil).key=(z.deeds.getD j Vd.nil).d.key/\((QD z.hist).getD (of.getD j 0) Cl.nil).x=(z.deeds.getD j Vd.nil).d.x
 inj:∀j k,j<k->k<of.length->of.getD j 0≠of.getD k 0
 ans:∀i,i<(QD z.hist).length->((QD z.hist).getD i Cl.nil).tz≠0->∃j:Nat,((QD z.hist).getD i Cl.nil).whn=(j:Int)+1/\j<g.n/\of.getD j 0=i/\(z.deeds.getD j Vd.nil).d.c=((QD z.hist).getD i Cl.nil).c/\(z.deeds.getD j Vd.nil).d.v=((QD z.hist).getD i Cl.nil).v
 opn:∀t,t<4->(z.w t).does≠0->∃i,i<(QD z.hist).length/\((QD z.hist).getD i Cl.nil).t=t/\((QD z.hist).getD i Cl.nil).tz=0/\((QD z.hist).getD i Cl.nil).k=(z.w t).k/\((QD z.hist).getD i Cl.nil).key=(z.w t).key/\((QD z.hist).getD i Cl.nil).x=(z.w t).x/\Link g.R of t (z.w t).tog i/\Link g.Q (of.take g.n) t (z.w t).tog i
 uni:∀i i',i<(QD z.hist).length->i'<(QD z.hist).length->((QD z.hist).getD i Cl.nil).tz=0->((QD z.hist).getD i' Cl.nil).tz=0->((QD z.hist).getD i Cl.nil).t=((QD z.hist).getD i' Cl.nil).t->i=i'
 idl:∀t,t<4->(z.w t).does=0->∀i,i<(QD z.hist).length->((QD z.hist).getD i Cl.nil).t=t->((QD z.hist).getD i Cl.nil).tz≠0
 th:∀i,i<(QD z.hist).length->∃t:Nat,t<4/\((QD z.hist).getD i Cl.nil).t=t
 rt:∀j k,j<k->k<of.length->((QD z.hist).getD (of.getD k 0) Cl.nil).tz≠0->((QD z.hist).getD (of.getD j 0) Cl.nil).fr<=((QD z.hist).getD (of.getD k 0) Cl.nil).tz
 tos:∀i,i<(QD z.hist).length->0<=((QD z.hist).getD i Cl.nil).tz/\((QD z.hist).getD i Cl.nil).tz<=z.hist.length/\1<=((QD z.hist).getD i Cl.nil).fr/\((QD z.hist).getD i Cl.nil).fr<=z.hist.length
 ev:∀e∈z.hist,EvOK z g e
 clk:z.hist.Pairwise (fun a b=>a.step<b.step)
 sl:(z.hist.length:Int)<=z.steps
theorem Qpd (K:Int):HInv (Sh.new K) (Gh.new K) [] where
 ln:=rfl
 lt:=fun j hj=>absurd hj (Nat.not_lt_zero _)
 op:=fun j hj=>absurd hj (Nat.not_lt_zero _)
 inj:=fun j k _ hk=>absurd hk (Nat.not_lt_zero _)
 ans:=fun i hi=>absurd hi (Nat.not_lt_zero _)
 opn:=fun t _ h=>absurd rfl h
 uni:=fun i _ hi=>absurd hi (Nat.not_lt_zero _)
 idl:=fun _ _ _ i hi=>absurd hi (Nat.not_lt_zero _)
 th:=fun i hi=>absurd hi (Nat.not_lt_zero _)
 rt:=fun j k _ hk=>absurd hk (Nat.not_lt_zero _)
 tos:=fun i hi=>absurd hi (Nat.not_lt_zero _)
 ev:=fun e he=>(by cases he)
 clk:=List.Pairwise.nil
 sl:=Int.le_refl 0
theorem EvOK.mono {z z':Sh}{g g':Gh}{e:Ev}(h:EvOK z g e) (hs:z.steps<=z'.steps) (hn:g.n<=g'.n) (hd:∀j,j<g.n->z'.deeds.getD j Vd.nil=z.deeds.getD j Vd.nil):EvOK z' g' e:=
 ⟨h.kind,h.t,h.op,h.s0,Int.le_trans h.s1 hs,fun hk=>by
  obtain⟨j,h1,h2,h3,h4⟩:=h.ans hk
  exact⟨j,h1,Nat.lt_of_lt_of_le h2 hn,by rw[hd j h2];exact h3,by rw[hd j h2];exact h4⟩⟩
section
variable {z z':Sh}{g:Gh}{of:List Nat}
theorem HInv.same (H:HInv z g of) (hh:z'.hist=z.hist) (hd:z'.deeds=z.deeds) (hs:z.steps<=z'.steps) (hw:∀t,t<4->((z'.w t).does=0↔(z.w t).does=0)/\(z'.w t).tog=(z.w t).tog/\(z'.w t).k=(z.w t).k/\(z'.w t).key=(z.w t).key/\(z'.w t).x=(z.w t).x):HInv z' g of where
 ln:=by rw[hd];exact H.ln
 lt:=by rw[hh];exact H.lt
 op:=by rw[hh,hd];exact H.op
 inj:=H.inj
 ans:=by rw[hh,hd];exact H.ans
 opn:=fun t ht hn=>by
  obtain⟨h0,h1,h2,h3,h4⟩:=hw t ht
  rw[hh,h1,h2,h3,h4]
  exact H.opn t ht (fun h=>hn (h0.2 h))
 uni:=by rw[hh];exact H.uni
 idl:=fun t ht h=>by rw[hh];exact H.idl t ht ((hw t ht).1.1 h)
 th:=by rw[hh];exact H.th
 rt:=by rw[hh];exact H.rt
 tos:=by rw[hh];exact H.tos
 ev:=by rw[hh];exact fun e he=>(H.ev e he).mono hs (Nat.le_refl _) (fun j _=>by rw[hd])
 clk:=by rw[hh];exact H.clk
 sl:=by rw[hh];exact Int.le_trans H.sl hs
theorem HInv.tell (H:HInv z g of) (hn:g.n<=z.deeds.length) {V' dv':Int}:HInv z ⟨V',g.R,dv',g.R,z.deeds.length⟩ of:=
 { H with
   ans:=fun i hi h=>by
    obtain⟨j,a,b,c⟩:=H.ans i hi h
    exact⟨j,a,Nat.lt_of_lt_of_le b hn,c⟩
   opn:=fun t ht h=>by
    obtain⟨i,a,b,c,d,e,f,k,l⟩:=H.opn t ht h
    refine⟨i,a,b,c,d,e,f,k,?_⟩
    show Link g.R (of.take z.deeds.length) t _ i
    rw[<- H.ln,List.take_length];exact k
   ev:=fun e he=>(H.ev e he).mono (Int.le_refl _) hn (fun _ _=>rfl) }
theorem HInv.cut (H:HInv z g of) (hn:g.n<=z.deeds.length) (hw:∀t,t<4->((z'.w t).does=0↔(z.w t).does=0)/\(z'.w t).tog=(z.w t).tog/\(z'.w t).k=(z.w t).k/\(z'.w t).key=(z.w t).key/\(z'.w t).x=(z.w t).x) (hh:z'.hist=z.hist) (hd:z'.deeds=z.deeds.take g.n) (hs:z.steps<=z'.steps) {V':Int}:HInv z' ⟨V',g.Q,V',g.Q,g.n⟩ (of.take g.n):=by
 have hl:(of.take g.n).length=g.n:=by rw[List.length_take,H.ln];omega
 have ho:∀j,j<g.n->(of.take g.n).getD j 0=of.getD j 0:=fun j hj=>by
  simp only[List.getD_eq_getElem?_getD,List.getElem?_take];rw[if_pos hj]
 have hD:∀j,j<g.n->(z.deeds.take g.n).getD j Vd.nil=z.deeds.getD j Vd.nil:=fun j hj=>by
  simp only[List.getD_eq_getElem?_getD,List.getElem?_take];rw[if_pos hj]
 have hlen:g.n<=of.length:=by rw[H.ln];exact hn
 refine⟨by rw[hl,hd,List.length_take];omega,fun j hj=>?_,fun j hj=>?_,fun j k h hk=>?_,fun i hi h=>?_,fun t ht h=>?_,?_,fun t ht h=>?_,?_,fun j k h hk=>?_,?_,?_,?_,?_⟩
 · rw[hl]at hj;rw[ho j hj,hh];exact H.lt j (by omega)
 · rw[hl]at hj;rw[ho j hj,hh,hd,hD j hj];exact H.op j (by omega)
 · rw[hl]at hk;rw[ho j (by omega),ho k hk];exact H.inj j k h (by omega)
 · rw[hh]at hi h
   obtain⟨j,a,b,c,d,e⟩:=H.ans i hi h
   exact⟨j,by rw[hh];exact a,b,by rw[ho j b];exact c,by rw[hd,hD j b,hh];exact d,by rw[hd,hD j b,hh];exact e⟩
 · obtain⟨h0,h1,h2,h3,h4⟩:=hw t ht
   obtain⟨i,a,b,c,d,e,f,k,l⟩:=H.opn t ht (fun h'=>h (h0.2 h'))
   rw[hh,h1,h2,h3,h4]
   refine⟨i,a,b,c,d,e,f,l,?_⟩
   show Link g.Q ((of.take g.n).take g.n) t _ i
   rw[List.take_take,Nat.min_self];exact l
 · rw[hh];exact H.uni
 · rw[hh];exact H.idl t ht ((hw t ht).1.1 h)
 · rw[hh];exact H.th
 · rw[hl]at hk;rw[ho j (by omega),ho k hk,hh];exact H.rt j k h (by omega)
 · rw[hh];exact H.tos
 · rw[hh];exact fun e he=>(H.ev e he).mono hs (Nat.le_refl _) (fun j hj=>by rw[hd,hD j hj])
 · rw[hh];exact H.clk
 · rw[hh];exact Int.le_trans H.sl hs
theorem HInv.crashed (H:HInv z g of) (hh:z'.hist=z.hist++[⟨3,0,0,0,0,0,0,0,z.steps+1⟩]) (hd:z'.deeds=z.deeds) (hs:z'.steps=z.steps+1) (hw:z'.w=z.w):HInv z' g of:=by
 have hc:QD z'.hist=QD z.hist:=by
  rw[hh,QeA];unfold QfV;rw[if_neg (by show ¬(3:Int)=1;decide),if_neg (by show ¬(3:Int)=2;decide)]
 have hl:(z'.hist.length:Int)=z.hist.length+1:=by rw[hh,List.length_append];rfl
 have hsl:=H.sl
 refine⟨by rw[hd];exact H.ln,by rw[hc];exact H.lt,by rw[hc,hd];exact H.op,H.inj,by rw[hc,hd];exact H.ans,by rw[hc,hw];exact H.opn,by rw[hc];exact H.uni,by rw[hc,hw];exact H.idl,by rw[hc];exact H.th,by rw[hc];exact H.rt,fun i hi=>?_,?_,?_,by rw[hl,hs];omega⟩
 · rw[hc]at hi ⊢
   have:=H.tos i hi
   rw[hl];omega
 · rw[hh]
   intro e he
   rcases List.mem_append.1 he with he|he
   · exact (H.ev e he).mono (by omega) (Nat.le_refl _) (fun j _=>by rw[hd])
   · obtain rfl:=List.mem_singleton.1 he
     exact⟨.inr (.inr rfl),fun h=>absurd rfl h,fun h=>absurd rfl h,by show (1:Int)<=z.steps+1;omega,by show z.steps+1<=z'.steps;omega,fun h=>absurd h (by show ¬(3:Int)=2;decide)⟩
 · rw[hh]
   refine List.pairwise_append.2 ⟨H.clk,List.pairwise_singleton _ _,fun a ha b hb=>?_⟩
   obtain rfl:=List.mem_singleton.1 hb
   have:=(H.ev a ha).s1
   show a.step<z.steps+1
   omega
end
end
section
section
variable {K:Int}{z:Sh}{g:Gh}{of:List Nat}{t:Nat}
theorem HInv.called (H:HInv z g of) (I:ShInv K z g) (ht:t<4) (hd:(z.w t).does=0) {k key x:Int}(ho:opOk k key x=true):HInv (z.called t k key x) g of:=by
 have hc:QD (z.called t k key x).hist=QD z.hist++[⟨t,k,key,x,(z.hist.length:Int)+1,0,0,0,0⟩]:=by
  show QD (z.hist++[_])=_
  rw[QeA];unfold QfV;rw[if_pos rfl]
 have hl:(QD (z.called t k key x).hist).length=(QD z.hist).length+1:=by rw[hc,List.length_append];rfl
 have hold:∀i,i<(QD z.hist).length->(QD (z.called t k key x).hist).getD i Cl.nil=(QD z.hist).getD i Cl.nil:=fun i hi=>by rw[hc];exact QaM hi
 have hnew:(QD (z.called t k key x).hist).getD (QD z.hist).length Cl.nil=⟨t,k,key,x,(z.hist.length:Int)+1,0,0,0,0⟩:=by
  rw[hc];have:=QbT (l:=QD z.hist) (m:=[(⟨t,k,key,x,(z.hist.length:Int)+1,0,0,0,0⟩:Cl)]) (d:=Cl.nil) (i:=0);rw[Nat.add_zero]at this;exact this
 have hcase:∀i,i<(QD (z.called t k key x).hist).length->i<(QD z.hist).length\/i=(QD z.hist).length:=fun i hi=>by omega
 have hhl:((z.called t k key x).hist.length:Int)=z.hist.length+1:=by show ((z.hist++[_]).length:Int)=_;rw[List.length_append];rfl
 have T:=I.th t ht
 obtain⟨i1,i2,-⟩:=T.idle hd
 have h01:=T.tg01
 have hsl:=H.sl
 have hw:∀u,u≠t->(z.called t k key x).w u=z.w u:=fun u hu=>Xc _ _ hu
 have hwt:(z.called t k key x).w t=Wk.call (z.w t).th k key x (1-z.tog t) false:=Qk _ _ _
 refine⟨H.ln,fun j hj=>by rw[hl];exact Nat.lt_succ_of_lt (H.lt j hj),fun j hj=>by rw[hold _ (H.lt j hj)];exact H.op j hj,H.inj,fun i hi h=>?_,fun u hu hn=>?_,fun i i' hi hi' h h' e=>?_,fun u hu hn i hi e=>?_,fun i hi=>?_,fun j k' hjk hk h=>?_,fun i hi=>?_,?_,?_,?_⟩
 · rcases hcase i hi with h1|h1
   · rw[hold i h1]at h ⊢;exact H.ans i h1 h
   · rw[h1,hnew]at h;exact absurd rfl h
 · by_cases e:u=t
   · subst e
     refine⟨(QD z.hist).length,by omega,by rw[hnew],by rw[hnew],by rw[hnew,hwt];rfl,by rw[hnew,hwt];rfl,by rw[hnew,hwt];rfl,⟨fun h=>?_,fun _ j hj=>Nat.ne_of_lt (H.lt j hj)⟩,⟨fun h=>?_,fun _ j hj=>?_⟩⟩
     · rw[hwt]at h;exact absurd h (by show ¬Qm g.R.tog u=1-z.tog u;omega)
     · rw[hwt]at h;exact absurd h (by show ¬Qm g.Q.tog u=1-z.tog u;omega)
     · rw[List.length_take]at hj
       have:(of.take g.n).getD j 0=of.getD j 0:=by simp only[List.getD_eq_getElem?_getD,List.getElem?_take];rw[if_pos (by omega)]
       rw[this];exact Nat.ne_of_lt (H.lt j (by omega))
   · rw[hw u e]at hn ⊢
     obtain⟨i,a,b,c,d⟩:=H.opn u hu hn
     exact⟨i,by omega,by rw[hold i a];exact b,by rw[hold i a];exact c,by rw[hold i a];exact d⟩
 · rcases hcase i hi with h1|h1<;>rcases hcase i' hi' with h2|h2
   · rw[hold i h1]at h e;rw[hold i' h2]at h' e;exact H.uni i i' h1 h2 h h' e
   · rw[h2,hnew,hold i h1]at e;rw[hold i h1]at h;exact absurd h (H.idl t ht hd i h1 e)
   · rw[h1,hnew,hold i' h2]at e;rw[hold i' h2]at h';exact absurd h' (H.idl t ht hd i' h2 e.symm)
   · omega
 · by_cases eu:u=t
   · subst eu;rw[hwt]at hn;exact absurd hn (by show ¬(1:Int)=0;decide)
   · rw[hw u eu]at hn
     rcases hcase i hi with h1|h1
     · rw[hold i h1]at e ⊢;exact H.idl u hu hn i h1 e
     · rw[h1,hnew]at e;exact absurd e (by show ¬(t:Int)=u;omega)
 · rcases hcase i hi with h1|h1
   · rw[hold i h1];exact H.th i h1
   · rw[h1,hnew];exact⟨t,ht,rfl⟩
 · have h1:=H.lt j (by omega)
   have h2:=H.lt k' hk
   rw[hold _ h1,hold _ h2];rw[hold _ h2]at h;exact H.rt j k' hjk hk h
 · rcases hcase i hi with h1|h1
   · rw[hold i h1];have:=H.tos i h1;omega
   · rw[h1,hnew];dsimp only;omega
 · intro e he
   rcases List.mem_append.1 (show e∈z.hist++[_]from he)with he|he
   · exact (H.ev e he).mono (by show z.steps<=z.steps+1;omega) (Nat.le_refl _) (fun j _=>rfl)
   · obtain rfl:=List.mem_singleton.1 he
     exact⟨.inl rfl,fun _=>⟨t,ht,rfl⟩,fun _=>ho,by show (1:Int)<=z.steps+1;omega,by show z.steps+1<=z.steps+1;omega,fun h=>absurd h (by show ¬(1:Int)=2;decide)⟩
 · refine List.pairwise_append.2 ⟨H.clk,List.pairwise_singleton _ _,fun a ha b hb=>?_⟩
   obtain rfl:=List.mem_singleton.1 hb
   have:=(H.ev a ha).s1
   show a.step<z.steps+1
   omega
 · rw[hhl];show _<=z.steps+1;omega
theorem QpY {c v c' v':Int}(h:QV c v) (h':QV c' v') (e:ansW c v=ansW c' v'):c=c'/\v=v':=by
 have a:=Qd7 h
 have b:=Qd7 h'
 rw[e]at a
 exact⟨a.1.symm.trans b.1,a.2.1.symm.trans b.2.1⟩
theorem HInv.answered (H:HInv z g of) (I:ShInv K z g) (ht:t<4) (hn:(z.w t).does≠0) {w':Wk}(hT:Told g.Q t w') (e0:w'.does=0) (e1:w'.tog=(z.w t).tog/\w'.k=(z.w t).k/\w'.key=(z.w t).key/\w'.x=(z.w t).x) {m':Nat->Int}{s':Sto}:HInv ((z.moved t ⟨w',m',s'⟩).answered t w') g of:=by
 obtain⟨i0,a0,b0,c0,d1,d2,d3,-,LQ⟩:=H.opn t ht hn
 have hhist:((z.moved t ⟨w',m',s'⟩).answered t w').hist=z.hist++[⟨2,t,w'.k,w'.key,w'.x,w'.oc,w'.ov,w'.whn,z.steps+1⟩]:=rfl
 generalize hz':(z.moved t ⟨w',m',s'⟩).answered t w'=z' at hhist ⊢
 have hdeeds:z'.deeds=z.deeds:=by rw[<- hz'];rfl
 have hsteps:z'.steps=z.steps+1:=by rw[<- hz'];rfl
 have hwt:z'.w t=w':=by rw[<- hz'];exact Qk _ _ _
 have hw:∀u,u≠t->z'.w u=z.w u:=fun u hu=>by rw[<- hz'];exact Xc _ _ hu
 have hc:QD z'.hist=(QD z.hist).map (Cl.end z.hist.length ⟨2,t,w'.k,w'.key,w'.x,w'.oc,w'.ov,w'.whn,z.steps+1⟩):=by
  rw[hhist,QeA];unfold QfV;rw[if_neg (by show ¬(2:Int)=1;decide),if_pos rfl]
 have hl:(QD z'.hist).length=(QD z.hist).length:=by rw[hc,List.length_map]
 have hC:∀i,i<(QD z.hist).length->i≠i0->(QD z'.hist).getD i Cl.nil=(QD z.hist).getD i Cl.nil:=fun i hi hne=>by
  rw[hc,QjG hi]
  unfold Cl.end
  rw[if_neg]
  rintro⟨h1,h2⟩
  exact hne (H.uni i i0 hi a0 h2 c0 (by rw[b0];exact h1))
 have hC0:(QD z'.hist).getD i0 Cl.nil={ (QD z.hist).getD i0 Cl.nil with tz:=(z.hist.length:Int)+1,whn:=w'.whn,c:=w'.oc,v:=w'.ov }:=by
  rw[hc,QjG a0]
  unfold Cl.end
  rw[if_pos ⟨b0,c0⟩]
 have hfr:∀i,i<(QD z.hist).length->((QD z'.hist).getD i Cl.nil).fr=((QD z.hist).getD i Cl.nil).fr/\((QD z'.hist).getD i Cl.nil).t=((QD z.hist).getD i Cl.nil).t/\((QD z'.hist).getD i Cl.nil).k=((QD z.hist).getD i Cl.nil).k/\((QD z'.hist).getD i Cl.nil).key=((QD z.hist).getD i Cl.nil).key/\((QD z'.hist).getD i Cl.nil).x=((QD z.hist).getD i Cl.nil).x:=fun i hi=>by
  by_cases e:i=i0
  · subst e;rw[hC0];exact⟨rfl,rfl,rfl,rfl,rfl⟩
  · rw[hC i hi e];exact⟨rfl,rfl,rfl,rfl,rfl⟩
 have hhl:(z'.hist.length:Int)=z.hist.length+1:=by rw[hhist,List.length_append];rfl
 have hsl:=H.sl
 obtain⟨j0,f1,f2,f3⟩:=LQ.yes (hT.bit.trans e1.1)
 have f1':j0<g.n/\j0<of.length:=by rw[List.length_take]at f1;omega
 have f3':of.getD j0 0=i0:=by rw[<- f3];simp only[List.getD_eq_getElem?_getD,List.getElem?_take];rw[if_pos f1'.1]
 have hD:(z.deeds.take g.n).getD j0 Vd.nil=z.deeds.getD j0 Vd.nil:=by simp only[List.getD_eq_getElem?_getD,List.getElem?_take];rw[if_pos f1'.1]
 have hcv:(z.deeds.getD j0 Vd.nil).d.c=w'.oc/\(z.deeds.getD j0 Vd.nil).d.v=w'.ov:=by
  rcases I.gl.sumQ.each t ht with⟨h0,h1,h2⟩|⟨i,h1,h2,h3,h4,h5,-⟩
  · omega
  · obtain rfl:i=j0:=by omega
    rw[hD]at h4 h5
    exact QpY h4 hT.ok (h5.symm.trans hT.ans)
 have hwhn:w'.whn=(j0:Int)+1:=by rw[<- hT.whn];exact f2
 refine⟨by rw[hdeeds];exact H.ln,fun j hj=>by rw[hl];exact H.lt j hj,fun j hj=>?_,H.inj,fun i hi h=>?_,fun u hu hn'=>?_,fun i i' hi hi' h h' e=>?_,fun u hu hn' i hi e=>?_,fun i hi=>?_,fun j k' hjk hk h=>?_,fun i hi=>?_,?_,?_,?_⟩
 · have h1:=hfr _ (H.lt j hj)
   rw[h1.2.1,h1.2.2.1,h1.2.2.2.1,h1.2.2.2.2,hdeeds];exact H.op j hj
 · rw[hl]at hi
   by_cases e:i=i0
   · subst e
     rw[hC0,hdeeds]
     exact⟨j0,hwhn,f1'.1,f3',hcv.1,hcv.2⟩
   · rw[hC i hi e]at h ⊢
     rw[hdeeds];exact H.ans i hi h
 · by_cases e:u=t
   · subst e;rw[hwt]at hn';exact absurd e0 hn'
   · rw[hw u e]at hn' ⊢
     obtain⟨i,a,b,c,d⟩:=H.opn u hu hn'
     have hne:i≠i0:=fun h=>by rw[h,b0]at b;omega
     exact⟨i,by rw[hl];exact a,by rw[hC i a hne];exact b,by rw[hC i a hne];exact c,by rw[hC i a hne];exact d⟩
 · rw[hl]at hi hi'
   have n1:i≠i0:=fun h1=>by rw[h1,hC0]at h;exact absurd h (by show ¬(z.hist.length:Int)+1=0;omega)
   have n2:i'≠i0:=fun h1=>by rw[h1,hC0]at h';exact absurd h' (by show ¬(z.hist.length:Int)+1=0;omega)
   rw[hC i hi n1]at h e;rw[hC i' hi' n2]at h' e
   exact H.uni i i' hi hi' h h' e
 · rw[hl]at hi
   by_cases ei:i=i0
   · subst ei;rw[hC0];show ¬(z.hist.length:Int)+1=0;omega
   · rw[hC i hi ei]at e ⊢
     by_cases eu:u=t
     · subst eu
       intro h
       exact ei (H.uni i i0 hi a0 h c0 (by rw[b0];exact e))
     · rw[hw u eu]at hn';exact H.idl u hu hn' i hi e
 · rw[hl]at hi;rw[(hfr i hi).2.1];exact H.th i hi
 · have h1:=H.lt j (by omega)
   have h2:=H.lt k' hk
   rw[(hfr _ h1).1]
   by_cases e:of.getD k' 0=i0
   · rw[e,hC0]
     have:=H.tos _ h1
     show _<=(z.hist.length:Int)+1
     omega
   · rw[hC _ h2 e]at h ⊢;exact H.rt j k' hjk hk h
 · rw[hl]at hi
   rw[(hfr i hi).1,hhl]
   have:=H.tos i hi
   by_cases e:i=i0
   · subst e;rw[hC0];dsimp only;omega
   · rw[hC i hi e];omega
 · rw[hhist]
   intro e he
   rcases List.mem_append.1 he with he|he
   · exact (H.ev e he).mono (by omega) (Nat.le_refl _) (fun j _=>by rw[hdeeds])
   · obtain rfl:=List.mem_singleton.1 he
     refine⟨.inr (.inl rfl),fun _=>⟨t,ht,rfl⟩,fun _=>?_,by show (1:Int)<=z.steps+1;omega,by show z.steps+1<=z'.steps;omega,fun _=>⟨j0,hwhn,f1'.1,by rw[hdeeds];exact hcv.1,by rw[hdeeds];exact hcv.2⟩⟩
     show opOk w'.k w'.key w'.x=true
     rw[e1.2.1,e1.2.2.1,e1.2.2.2];exact (I.th t ht).op hn
 · rw[hhist]
   refine List.pairwise_append.2 ⟨H.clk,List.pairwise_singleton _ _,fun a ha b hb=>?_⟩
   obtain rfl:=List.mem_singleton.1 hb
   have:=(H.ev a ha).s1
   show a.step<z.steps+1
   omega
 · rw[hhl,hsteps];omega
theorem Qqe:∀ {l:List Ask}{B:Int}{r:Rec},RecOK B r->AsksOK l->l.Pairwise (fun a b=>a.t≠b.t)->(∀a∈l,bOpen r a=true) ->
 (bD r l).length=l.length/\∀i,i<l.length->((bD r l).getD i Dd.nil).t=(l.getD i Ask.nil).t/\((bD r l).getD i Dd.nil).k=(l.getD i Ask.nil).k/\((bD r l).getD i Dd.nil).key=(l.getD i Ask.nil).key/\((bD r l).getD i Dd.nil).x=(l.getD i Ask.nil).x
 |[],B,r,_,_,_,_=>⟨rfl,fun i hi=>absurd hi (Nat.not_lt_zero _)⟩
 |a::l,B,r,h,ha,hp,ho=>by
  rw[List.pairwise_cons]at hp
  have h1:=ho a List.mem_cons_self
  have ed:bDs r a=[Qdz r a]:=by unfold bDs;rw[h1];rfl
  have e:bD r (a::l)=Qdz r a::bD (Xt r a) l:=by show bDs r a++bD (Xt r a) l=_;rw[ed];rfl
  have ih:=Qqe (l:=l) (Qc5 h (ha a List.mem_cons_self)) ha.tail hp.2 (fun b hb=>by
   have hb1:=ho b (List.mem_cons_of_mem _ hb)
   have h2:=QcK h (ha a List.mem_cons_self) b.t (ha b (List.mem_cons_of_mem _ hb)).1
   rw[if_neg (fun e=>hp.1 b hb e.symm)]at h2
   unfold bOpen at hb1 ⊢
   rw[h2];exact hb1)
  rw[e]
  refine⟨by rw[List.length_cons,List.length_cons,ih.1],fun i hi=>?_⟩
  cases i with
  |zero=>exact⟨rfl,rfl,rfl,rfl⟩
  |succ i=>
   have:=ih.2 i (by rw[List.length_cons]at hi;omega)
   simpa using this
end
end
section
section
variable {K:Int}{z:Sh}{g:Gh}{of:List Nat}{t:Nat}
theorem HInv.indexed (H:HInv z g of) (I:ShInv K z g) (hs:z.steps<100000000) {z':Sh}{l:List Ask}{i4 h0:Nat}(hG:Gath z.w g.R h0 l i4) (hV:g.V=g.dv)
 (hh:z'.hist=z.hist) (hd:z'.deeds=z.deeds++(bD g.R l).map (Vd.mk (g.V+1))) (hst:z.steps<=z'.steps) (hw:∀t,t<4->((z'.w t).does=0↔(z.w t).does=0)/\(z'.w t).tog=(z.w t).tog/\(z'.w t).k=(z.w t).k/\(z'.w t).key=(z.w t).key/\(z'.w t).x=(z.w t).x) {V':Int}:
 ∃of',HInv z' ⟨V',bDo g.R l,g.dv,g.Q,g.n⟩ of':=by
 have hok:=hG.okA I
 have hne:l.Pairwise (fun a b=>a.t≠b.t):=hG.asc.imp (fun h=>Nat.ne_of_lt h)
 have hop:∀a∈l,bOpen g.R a=true:=fun a ha=>by
  have:=(hG.want a ha).opn
  unfold bOpen;simpa using this
 obtain⟨b1,b2⟩:=Qqe I.gl.sumR.ok hok hne hop
 have hnn:g.n=z.deeds.length:=(I.gl.same hV).2
 have hN:=(I.gl.next hs hok).1
 have hex:∀t,∃i,t<4->(z.w t).does≠0->i<(QD z.hist).length/\((QD z.hist).getD i Cl.nil).t=t/\((QD z.hist).getD i Cl.nil).tz=0/\((QD z.hist).getD i Cl.nil).k=(z.w t).k/\((QD z.hist).getD i Cl.nil).key=(z.w t).key/\((QD z.hist).getD i Cl.nil).x=(z.w t).x/\Link g.R of t (z.w t).tog i/\Link g.Q (of.take g.n) t (z.w t).tog i:=fun t=>by
  by_cases h:t<4/\(z.w t).does≠0
  · obtain⟨i,hi⟩:=H.opn t h.1 h.2
    exact⟨i,fun _ _=>hi⟩
  · exact⟨0,fun h1 h2=>absurd ⟨h1,h2⟩ h⟩
 obtain⟨ix,hix⟩:=Classical.axiomOfChoice hex
 have hW:∀i,i<l.length->Want z.w g.R (l.getD i Ask.nil):=fun i hi=>by
  rw[List.getD_eq_getElem?_getD,List.getElem?_eq_getElem hi];exact hG.want _ (List.getElem_mem hi)
 have hX:∀i,i<l.length->_:=fun i hi=>hix (l.getD i Ask.nil).t (hW i hi).t4 (hW i hi).act
 have hpair:∀i j,i<j->j<l.length->(l.getD i Ask.nil).t≠(l.getD j Ask.nil).t:=fun i j hij hj=>by
  have:=List.pairwise_iff_getElem.1 hne i j (by omega) hj hij
  simpa [List.getD_eq_getElem?_getD,List.getElem?_eq_getElem (show i<l.length by omega),List.getElem?_eq_getElem hj] using this
 have hlm:(l.map fun a=>ix a.t).length=l.length:=List.length_map _
 have oN:∀i,i<l.length->(of++l.map fun a=>ix a.t).getD (of.length+i) 0=ix (l.getD i Ask.nil).t:=fun i hi=>by
  rw[QbT];simp[List.getD_eq_getElem?_getD,hi]
 have oO:∀j,j<of.length->(of++l.map fun a=>ix a.t).getD j 0=of.getD j 0:=fun j hj=>QaM hj
 have dO:∀j,j<z.deeds.length->(z.deeds++(bD g.R l).map (Vd.mk (g.V+1))).getD j Vd.nil=z.deeds.getD j Vd.nil:=fun j hj=>QaM hj
 have dN:∀i,i<l.length->((z.deeds++(bD g.R l).map (Vd.mk (g.V+1))).getD (z.deeds.length+i) Vd.nil).d=(bD g.R l).getD i Dd.nil:=fun i hi=>by
  rw[QbT];simp[List.getD_eq_getElem?_getD,show i<(bD g.R l).length by omega]
 have hlen:(of++l.map fun a=>ix a.t).length=of.length+l.length:=by rw[List.length_append,hlm]
 have hdl:(z.deeds++(bD g.R l).map (Vd.mk (g.V+1))).length=z.deeds.length+l.length:=by rw[List.length_append,List.length_map,b1]
 have split:∀j,j<of.length+l.length->j<of.length\/∃i,i<l.length/\j=of.length+i:=fun j hj=>by
  by_cases h:j<of.length
  · exact .inl h
  · exact .inr ⟨j-of.length,by omega,by omega⟩
 have hol:=H.ln
 refine⟨of++l.map fun a=>ix a.t,by rw[hlen,hd,hdl,hol],fun j hj=>?_,fun j hj=>?_,fun j k hjk hk=>?_,fun i hi h=>?_,fun u hu hn=>?_,by rw[hh];exact H.uni,fun u hu hn=>by rw[hh];exact H.idl u hu ((hw u hu).1.1 hn),by rw[hh];exact H.th,fun j k hjk hk h=>?_,by rw[hh];exact H.tos,?_,by rw[hh];exact H.clk,by rw[hh];exact Int.le_trans H.sl hst⟩
 · rw[hlen]at hj;rw[hh]
   rcases split j hj with h|⟨i,hi,rfl⟩
   · rw[oO j h];exact H.lt j h
   · rw[oN i hi];exact (hX i hi).1
 · rw[hlen]at hj;rw[hh,hd]
   rcases split j hj with h|⟨i,hi,rfl⟩
   · rw[oO j h,dO j (by omega)];exact H.op j h
   · have e:=hX i hi
     have w:=hW i hi
     have b:=b2 i hi
     rw[oN i hi,hol,dN i hi,b.1,b.2.1,b.2.2.1,b.2.2.2]
     exact⟨e.2.1,e.2.2.2.1.trans w.k,e.2.2.2.2.1.trans w.key,e.2.2.2.2.2.1.trans w.x⟩
 · rw[hlen]at hk
   rcases split k hk with h|⟨i,hi,rfl⟩
   · rw[oO j (by omega),oO k h];exact H.inj j k hjk h
   · rw[oN i hi]
     rcases split j (by omega)with h2|⟨i2,hi2,rfl⟩
     · rw[oO j h2]
       exact (hX i hi).2.2.2.2.2.2.1.no (by rw[(hW i hi).tog];exact (hW i hi).opn) j h2
     · rw[oN i2 hi2]
       intro e
       have h1:=(hX i2 hi2).2.1
       rw[e,(hX i hi).2.1]at h1
       exact hpair i2 i (by omega) hi (by omega)
 · rw[hh]at hi h
   obtain⟨j,a,b,c,d,e⟩:=H.ans i hi h
   have b':j<g.n:=b
   exact⟨j,by rw[hh];exact a,b,by rw[oO j (by omega)];exact c,by rw[hd,dO j (by omega),hh];exact d,by rw[hd,dO j (by omega),hh];exact e⟩
 · obtain⟨w0,w1,w2,w3,w4⟩:=hw u hu
   have hn0:(z.w u).does≠0:=fun h=>hn (w0.2 h)
   obtain⟨i1,i2,i3,i4,i5,i6,i7,i8⟩:=hix u hu hn0
   refine⟨ix u,by rw[hh];exact i1,by rw[hh];exact i2,by rw[hh];exact i3,by rw[hh,w2];exact i4,by rw[hh,w3];exact i5,by rw[hh,w4];exact i6,?_,?_⟩
   · rw[w1]
     show Link (bDo g.R l) _ u _ _
     by_cases hx:∃i,i<l.length/\(l.getD i Ask.nil).t=u
     · obtain⟨p,hp,hpu⟩:=hx
       have hmem:l.getD p Ask.nil∈l:=by rw[List.getD_eq_getElem?_getD,List.getElem?_eq_getElem hp];exact List.getElem_mem hp
       have hbit:Qm (bR g.R l).tog u=(z.w u).tog:=by
        have h1:=Qhs I.gl.sumR.ok hok hne _ hmem
        have h2:Qm (bR g.R l).tog (l.getD p Ask.nil).t=(l.getD p Ask.nil).g:=by simpa [bOpen] using h1
        rw[hpu]at h2
        have h3:=(hW p hp).tog
        rw[hpu]at h3
        rw[h2,h3]
       refine⟨fun _=>?_,fun h=>absurd hbit h⟩
       have hdp:((z.deeds++(bD g.R l).map (Vd.mk (g.V+1))).getD (z.deeds.length+p) Vd.nil).d.t=u:=by rw[dN p hp,(b2 p hp).1];exact congrArg (fun q:Nat=>(q:Int)) hpu
       rcases hN.each u hu with⟨h0,-,-⟩|⟨q,q1,q2,q3,q4,q5,q6⟩
       · exfalso
         unfold cntT at h0
         rw[List.countP_eq_zero]at h0
         have hlt:z.deeds.length+p<(z.deeds++(bD g.R l).map (Vd.mk (g.V+1))).length:=by omega
         have h2:=h0 _ (List.getElem_mem hlt)
         rw[List.getD_eq_getElem?_getD,List.getElem?_eq_getElem hlt]at hdp
         exact h2 (by simpa using hdp)
       · rw[hdl]at q2
         have hqp:q=z.deeds.length+p:=by
          rcases Nat.lt_trichotomy q (z.deeds.length+p)with h|h|h
          · exact absurd hdp (q6 _ h (by omega))
          · exact h
          · obtain⟨i',rfl⟩:∃i',q=z.deeds.length+i':=⟨q-z.deeds.length,by omega⟩
            rw[dN i' (by omega),(b2 i' (by omega)).1]at q3
            exact absurd (by omega) (hpair p i' (by omega) (by omega))
         exact⟨q,by rw[hlen];omega,q1,by rw[hqp,<- hol,oN p hp,hpu]⟩
     · have hnot:∀a∈l,a.t≠u:=fun a ha e=>by
        obtain⟨p,hp,rfl⟩:=List.mem_iff_getElem.1 ha
        exact hx ⟨p,hp,by rw[List.getD_eq_getElem?_getD,List.getElem?_eq_getElem hp];exact e⟩
       have hk:=Qff I.gl.sumR.ok hok u hu hnot
       refine⟨fun h=>?_,fun h j hj=>?_⟩
       · have h':Qm g.R.tog u=(z.w u).tog:=hk.2.2.symm.trans h
         obtain⟨j,c1,c2,c3⟩:=i7.yes h'
         exact⟨j,by rw[hlen];omega,hk.2.1.trans c2,by rw[oO j c1];exact c3⟩
       · have h':Qm g.R.tog u≠(z.w u).tog:=fun e=>h (hk.2.2.trans e)
         rw[hlen]at hj
         rcases split j hj with h2|⟨i',hi',rfl⟩
         · rw[oO j h2];exact i7.no h' j h2
         · rw[oN i' hi']
           intro e
           have h3:=(hX i' hi').2.1
           rw[e,i2]at h3
           exact hx ⟨i',hi',by omega⟩
   · rw[w1]
     show Link g.Q (List.take g.n _) u _ _
     have e1:(of++l.map fun a=>ix a.t).take g.n=of.take g.n:=by
      rw[hnn,<- hol,List.take_left',List.take_length];rfl
     rw[e1];exact i8
 · rw[hlen]at hk
   rw[hh]at h ⊢
   rcases split k hk with h2|⟨i,hi,rfl⟩
   · rw[oO k h2]at h ⊢;rw[oO j (by omega)];exact H.rt j k hjk h2 h
   · rw[oN i hi]at h;exact absurd (hX i hi).2.2.1 h
 · rw[hh]
   intro e he
   refine (H.ev e he).mono hst (Nat.le_refl _) (fun j hj=>?_)
   rw[hd,dO j (by omega)]
theorem Qcw (w:Wk) (n d:Int):(w.next n d).th=w.th/\(w.next n d).tog=w.tog/\(w.next n d).k=w.k/\(w.next n d).key=w.key/\(w.next n d).x=w.x:=by
 unfold Wk.next;split<;>exact⟨rfl,rfl,rfl,rfl,rfl⟩
theorem Qfg (w:Wk):w.all.th=w.th/\w.all.tog=w.tog/\w.all.k=w.k/\w.all.key=w.key/\w.all.x=w.x/\w.all.does=w.does:=by
 unfold Wk.all;split<;>exact⟨rfl,rfl,rfl,rfl,rfl,rfl⟩
theorem Qkk (z:WSt):(Qd z).1.w.th=z.w.th/\(Qd z).1.w.tog=z.w.tog/\(Qd z).1.w.k=z.w.k/\(Qd z).1.w.key=z.w.key/\(Qd z).1.w.x=z.w.x:=by
 unfold Qd
 split
 · exact⟨rfl,rfl,rfl,rfl,rfl⟩
 split
 · unfold sayP;repeat' split
   all_goals exact⟨rfl,rfl,rfl,rfl,rfl⟩
 split
 · unfold Qar
   split
   · exact⟨rfl,rfl,rfl,rfl,rfl⟩
   split
   · exact Qcw _ 32 6
   split
   · split
     · exact⟨rfl,rfl,rfl,rfl,rfl⟩
     · have a:=Qfg (Wk.next z.w 4 8)
       have b:=Qcw z.w 4 8
       exact⟨a.1.trans b.1,a.2.1.trans b.2.1,a.2.2.1.trans b.2.2.1,a.2.2.2.1.trans b.2.2.2.1,a.2.2.2.2.1.trans b.2.2.2.2⟩
   · have a:=Qfg (Wk.next { z.w with asks:=Xl z.w.asks (z.m (2+2*z.w.i.toNat)/281474976710656%65536) (z.m (2+2*z.w.i.toNat)/4294967296%65536) (z.m (2+2*z.w.i.toNat)%4294967296),does:=6 } 4 8)
     have b:=Qcw { z.w with asks:=Xl z.w.asks (z.m (2+2*z.w.i.toNat)/281474976710656%65536) (z.m (2+2*z.w.i.toNat)/4294967296%65536) (z.m (2+2*z.w.i.toNat)%4294967296),does:=6 } 4 8
     exact⟨a.1.trans b.1,a.2.1.trans b.2.1,a.2.2.1.trans b.2.2.1,a.2.2.2.1.trans b.2.2.2.1,a.2.2.2.2.1.trans b.2.2.2.2⟩
 split
 · unfold XG
   split
   · exact Qcw z.w 32 9
   split
   · exact Qcw z.w 4 10
   repeat' split
   all_goals exact⟨rfl,rfl,rfl,rfl,rfl⟩
 split
 · unfold QaP;repeat' split
   all_goals exact⟨rfl,rfl,rfl,rfl,rfl⟩
 · unfold QW;repeat' split
   all_goals exact⟨rfl,rfl,rfl,rfl,rfl⟩
theorem Qcx {w:Wk}{n d:Int}(h:w.does≠0) (hd:d≠0):(w.next n d).does≠0:=by unfold Wk.next;split<;>assumption
theorem Qkl (z:WSt) (h:z.w.does≠0) (hb:(Qd z).2=false):(Qd z).1.w.does≠0:=by
 unfold Qd at hb ⊢
 rw[if_neg h]at hb ⊢
 split
 · unfold sayP;repeat' split
   all_goals (first|(show ¬(2:Int)=0;decide)|(show ¬(3:Int)=0;decide)|(show ¬(4:Int)=0;decide)|(show ¬(17:Int)=0;decide))
 rename_i h1
 rw[if_neg h1]at hb
 split
 · unfold Qar
   split
   · show ¬(5:Int)=0;decide
   split
   · exact Qcx h (by decide)
   split
   · split
     · show ¬(7:Int)=0;decide
     · show (Wk.all _).does≠0
       rw[(Qfg _).2.2.2.2.2];exact Qcx h (by decide)
   · show (Wk.all _).does≠0
     rw[(Qfg _).2.2.2.2.2];exact Qcx (by show ¬(6:Int)=0;decide) (by decide)
 rename_i h2
 rw[if_neg h2]at hb
 split
 · unfold XG
   split
   · exact Qcx h (by decide)
   split
   · exact Qcx h (by decide)
   repeat' split
   all_goals (first|(show ¬(11:Int)=0;decide)|(show ¬(12:Int)=0;decide)|(show ¬(13:Int)=0;decide)|(show ¬(14:Int)=0;decide))
 rename_i h3
 rw[if_neg h3]at hb
 split
 · rename_i h4
   rw[if_pos h4]at hb
   unfold QaP at hb ⊢
   split
   · show ¬(15:Int)=0;decide
   rename_i h5
   rw[if_neg h5]at hb
   split
   · show ¬(16:Int)=0;decide
   rename_i h6
   rw[if_neg h6]at hb;cases hb
 rename_i h4
 rw[if_neg h4]at hb
 unfold QW at hb ⊢
 split
 · show ¬(18:Int)=0;decide
 rename_i h5
 rw[if_neg h5]at hb
 split
 · show ¬(19:Int)=0;decide
 rename_i h6
 rw[if_neg h6]at hb
 split
 · show ¬(20:Int)=0;decide
 rename_i h7
 rw[if_neg h7]at hb
 split
 · show ¬(21:Int)=0;decide
 rename_i h8
 rw[if_neg h8]at hb
 split
 · rename_i h9
   rw[if_pos h9]at hb;cases hb
 · show ¬(if z.w.said then (3:Int)else 1)=0
   split<;>decide
theorem Qje (I:ShInv K z g) (ht:t<4) (hn:(z.w t).does≠0) (hb:(Qd (z.wst t)).2=true):Told g.Q t (Qd (z.wst t)).1.w/\(Qd (z.wst t)).1.w.does=0/\(Qd (z.wst t)).1.m=z.m/\(Qd (z.wst t)).1.s=z.s/\((z.w t).does=16\/(z.w t).does=21):=by
 have T:=I.th t ht
 have h0:=T.d0
 have h21:=T.d21
 have hn':¬(z.wst t).w.does=0:=hn
 unfold Qd at hb ⊢
 rw[if_neg hn']at hb ⊢
 by_cases c1:(z.wst t).w.does<=3
 · rw[if_pos c1]at hb;cases hb
 rw[if_neg c1]at hb ⊢
 by_cases c2:(z.wst t).w.does<=7
 · rw[if_pos c2]at hb;cases hb
 rw[if_neg c2]at hb ⊢
 by_cases c3:(z.wst t).w.does<=13
 · rw[if_pos c3]at hb;cases hb
 rw[if_neg c3]at hb ⊢
 by_cases c4:(z.wst t).w.does<=16
 · rw[if_pos c4]at hb ⊢
   unfold QaP at hb ⊢
   by_cases c5:(z.wst t).w.does=14
   · rw[if_pos c5]at hb;cases hb
   rw[if_neg c5]at hb ⊢
   by_cases c6:(z.wst t).w.does=15
   · rw[if_pos c6]at hb;cases hb
   rw[if_neg c6]at hb ⊢
   have h16:(z.w t).does=16:=by
    have a:¬(z.w t).does<=13:=c3
    have b:(z.w t).does<=16:=c4
    have c:¬(z.w t).does=14:=c5
    have d:¬(z.w t).does=15:=c6
    omega
   have:=(T.rep h16).1
   exact⟨⟨this.bit,this.ok,this.ans,this.whn⟩,rfl,rfl,rfl,.inl h16⟩
 · rw[if_neg c4]at hb ⊢
   unfold QW at hb ⊢
   by_cases c5:(z.wst t).w.does=17
   · rw[if_pos c5]at hb;cases hb
   rw[if_neg c5]at hb ⊢
   by_cases c6:(z.wst t).w.does=18
   · rw[if_pos c6]at hb;cases hb
   rw[if_neg c6]at hb ⊢
   by_cases c7:(z.wst t).w.does=19
   · rw[if_pos c7]at hb;cases hb
   rw[if_neg c7]at hb ⊢
   by_cases c8:(z.wst t).w.does=20
   · rw[if_pos c8]at hb;cases hb
   rw[if_neg c8]at hb ⊢
   by_cases c9:(z.wst t).m 1=(z.wst t).w.v/\Qm ((z.wst t).w.seen 0) (z.wst t).w.th=(z.wst t).w.tog
   · rw[if_pos c9]
     have e21:(z.w t).does=21:=by
      have a:¬(z.w t).does<=16:=c4
      have b:¬(z.w t).does=17:=c5
      have c:¬(z.w t).does=18:=c6
      have d:¬(z.w t).does=19:=c7
      have e:¬(z.w t).does=20:=c8
      omega
     obtain⟨d1,d2⟩:=c9
     have d1:z.m 1=(z.w t).v:=d1
     have d2:Qm ((z.w t).seen 0) (z.w t).th=(z.w t).tog:=d2
     have hv:(z.w t).v=g.dv:=by rw[<- d1];exact I.gl.done
     rw[T.th,T.lk2 (by omega) hv]at d2
     obtain⟨c,v,hA,ha,-⟩:=I.toldQ ht hn d2
     have hc:=Qd7 hA
     have e1:(z.w t).seen 1=ansW c v:=(T.lk3 (by omega) hv).trans ha
     refine⟨⟨d2,?_,?_,?_⟩,rfl,rfl,rfl,.inr e21⟩
     · show QV ((z.w t).seen 1/4294967296%4294967296) ((z.w t).seen 1%4294967296)
       rw[e1,hc.1,hc.2.1];exact hA
     · show _=ansW ((z.w t).seen 1/4294967296%4294967296) ((z.w t).seen 1%4294967296)
       rw[e1,hc.1,hc.2.1];exact ha
     · exact (T.lk4 (by omega) hv).symm
   · rw[if_neg c9]at hb;cases hb
def Fine (K:Int) (z:Sh) (g:Gh):Prop:=ShInv K z g/\∃of,HInv z g of
theorem Qpl {K:Int}(h1:1<=K) (h6:K<=6):Fine K (Sh.new K) (Gh.new K):=⟨QmX h1 h6,[],Qpd K⟩
theorem Qno (F:Fine K z g) (ht:t<4) (k key x:Int):Fine K (z.call t k key x) g:=by
 obtain⟨I,of,H⟩:=F
 refine⟨QjM I ht k key x,of,?_⟩
 unfold Sh.call
 split
 · rename_i h;exact H.called I ht h.1 h.2
 · exact H
theorem Qlm (F:Fine K z g) (l:Int):Fine K (z.evict l) g:=by
 obtain⟨I,of,H⟩:=F
 refine⟨QhY I l,of,?_⟩
 unfold Sh.evict
 split
 · exact H.same rfl rfl (Int.le_refl _) (fun t _=>⟨Iff.rfl,rfl,rfl,rfl,rfl⟩)
 · exact H
theorem Qmg {α:Type}{f:Nat->α}{t:Nat}{x:α}{p:Nat->α->Prop}(h:p t x) (h2:∀u,u≠t->p u (f u)) (u:Nat):p u (setF f t x u):=by
 by_cases e:u=t
 · subst e;rw[Qk];exact h
 · rw[Xc _ _ e];exact h2 u e
theorem QeL (F:Fine K z g) (ht:t<4) (hs:z.steps<100000000) (hn:(z.w t).does≠0):Fine K (z.stepped t) (g.step z t):=by
 obtain⟨I,of,H⟩:=F
 refine⟨QfH I ht hs hn,?_⟩
 have hsame:=Qkk (z.wst t)
 have hw (hb:(Qd (z.wst t)).2=false):∀u,u<4->((setF z.w t (Qd (z.wst t)).1.w u).does=0↔(z.w u).does=0)/\(setF z.w t (Qd (z.wst t)).1.w u).tog=(z.w u).tog/\(setF z.w t (Qd (z.wst t)).1.w u).k=(z.w u).k/\(setF z.w t (Qd (z.wst t)).1.w u).key=(z.w u).key/\(setF z.w t (Qd (z.wst t)).1.w u).x=(z.w u).x:=fun u _=>
  Qmg (p:=fun u (w:Wk)=>(w.does=0↔(z.w u).does=0)/\w.tog=(z.w u).tog/\w.k=(z.w u).k/\w.key=(z.w u).key/\w.x=(z.w u).x)
   ⟨⟨fun h=>absurd h (Qkl _ hn hb),fun h=>absurd h hn⟩,hsame.2.1,hsame.2.2.1,hsame.2.2.2.1,hsame.2.2.2.2⟩ (fun u _=>⟨Iff.rfl,rfl,rfl,rfl,rfl⟩) u
 unfold Gh.step
 by_cases e11:(z.w t).does=11
 · rw[if_pos e11]
   have hb:=QcP e11
   have e:Qd (z.wst t)=((Qd (z.wst t)).1,false):=by rw[<- hb]
   rw[Qb9 e11 e]
   have hho:Xz (z.w t):=⟨by omega,by omega⟩
   have O:=I.ho t ht hho
   have hV:=O.low (.inl (by omega))
   have hv:=O.ver (by omega) (by omega)
   obtain⟨hG,hD,-,-⟩:=O.nx (by omega) (by omega)
   have e2:(Qd (z.wst t)).1=⟨{ z.w t with does:=12 },z.m,z.s.save 0 ((z.w t).v+1)⟩:=by
    have:Qd (z.wst t)=(⟨{ z.w t with does:=12 },z.m,z.s.save 0 ((z.w t).v+1)⟩,false):=by simp[Qd,XG,Sh.wst,e11]
    rw[this]
   refine H.indexed I hs hG hV (z':=(z.moved t (Qd (z.wst t)).1).counted (Qd (z.wst t)).1.w.deeds) rfl ?_ (by show z.steps<=z.steps+1;omega) (hw hb)
   rw[e2]
   show z.deeds++(z.w t).deeds.map (Vd.mk (putF z.s.now 0 ((z.w t).v+1) 0))=_
   rw[hD,Xb,hv,hV]
 · rw[if_neg e11]
   have hnoans:(Qd (z.wst t)).2=false->HInv (z.stepped t) g of:=fun hb=>by
    have e:Qd (z.wst t)=((Qd (z.wst t)).1,false):=by rw[<- hb]
    rw[Qw e11 e]
    exact H.same rfl rfl (by show z.steps<=z.steps+1;omega) (hw hb)
   by_cases e14:(z.w t).does=14
   · rw[if_pos e14]
     have hb:(Qd (z.wst t)).2=false:=by simp[Qd,QaP,Sh.wst,e14]
     have H2:=hnoans hb
     have e:Qd (z.wst t)=((Qd (z.wst t)).1,false):=by rw[<- hb]
     have hdd:(z.stepped t).deeds=z.deeds:=by rw[Qw e11 e];rfl
     have:=H2.tell (by rw[hdd];exact I.gl.nle) (V':=g.V) (dv':=g.V)
     rw[hdd]at this
     exact⟨of,this⟩
   · rw[if_neg e14]
     cases hb:(Qd (z.wst t)).2
     · exact⟨of,hnoans hb⟩
     · obtain⟨hT,h0,hm,hss,-⟩:=Qje I ht hn hb
       have e:Qd (z.wst t)=((Qd (z.wst t)).1,true):=by rw[<- hb]
       rw[Qb8 e11 e]
       exact⟨of,H.answered I ht hn hT h0 ⟨hsame.2.1,hsame.2.2.1,hsame.2.2.2.1,hsame.2.2.2.2⟩⟩
theorem Qh5 (F:Fine K z g) (ht:t<4) (hs:z.steps<100000000):∃g',Fine K (z.step t) g':=by
 unfold Sh.step
 split
 · exact⟨g,F⟩
 · rename_i h;exact⟨_,QeL F ht hs h⟩
def Gh.crash (g:Gh) (z:Sh) (lands:Int):Gh:=if Qs lands z.s 0=g.V then ⟨g.V,g.R,g.V,g.R,z.deeds.length⟩else ⟨g.dv,g.Q,g.dv,g.Q,g.n⟩
theorem Qln (F:Fine K z g) (lands:Int):Fine K (z.crash lands) (g.crash z lands):=by
 obtain⟨I,of,H⟩:=F
 have hw:∀u,u<4->(((z.w u).again).does=0↔(z.w u).does=0)/\((z.w u).again).tog=(z.w u).tog/\((z.w u).again).k=(z.w u).k/\((z.w u).again).key=(z.w u).key/\((z.w u).again).x=(z.w u).x:=fun u _=>by
  unfold Wk.again
  split
  · exact⟨Iff.rfl,rfl,rfl,rfl,rfl⟩
  · rename_i h;exact⟨⟨fun h'=>absurd h' (by show ¬(17:Int)=0;decide),fun h'=>absurd h' h⟩,rfl,rfl,rfl,rfl⟩
 have hc:=H.crashed (z':={ z with hist:=z.hist++[⟨3,0,0,0,0,0,0,0,z.steps+1⟩],steps:=z.steps+1 }) rfl rfl rfl rfl
 unfold Gh.crash
 rcases inv_crash I lands with⟨h1,h2,h3⟩|⟨h1,h2,h3,h4,h5⟩
 · rw[if_pos h1]
   refine⟨h2,of,?_⟩
   have h6:=hc.tell (V':=g.V) (dv':=g.V) I.gl.nle
   exact h6.same (z':=z.crash lands) rfl h3 (Int.le_refl _) hw
 · rw[if_neg (by omega)]
   exact⟨h4,of.take g.n,hc.cut (z':=z.crash lands) I.gl.nle hw rfl h5 (Int.le_refl _)⟩
theorem QcO (z:Sh) (t:Nat):z.steps<=(z.step t).steps/\(z.step t).steps<=z.steps+1:=by
 unfold Sh.step
 split
 · omega
 · unfold Sh.stepped
   dsimp only
   split<;>split<;>(show z.steps<=z.steps+1/\z.steps+1<=z.steps+1;omega)
theorem QdE (t:Nat):∀(n:Nat) (z:Sh),z.steps<=(z.run t n).steps/\(z.run t n).steps<=z.steps+n
 |0,z=>by show z.steps<=z.steps/\z.steps<=z.steps+((0:Nat):Int);omega
 |n+1,z=>by
  have h1:=QcO z t
  have h2:=QdE t n (z.step t)
  show z.steps<=((z.step t).run t n).steps/\((z.step t).run t n).steps<=z.steps+((n+1:Nat):Int)
  omega
theorem QjV (ht:t<4):∀(n:Nat) {z:Sh}{g:Gh},Fine K z g->z.steps+n<100000000->∃g',Fine K (z.run t n) g'
 |0,z,g,F,_=>⟨g,F⟩
 |n+1,z,g,F,hs=>by
  obtain⟨g1,F1⟩:=Qh5 F ht (by omega)
  have:=QcO z t
  exact QjV ht n F1 (by omega)
end
end
section
structure SoC where
 ms:Nat->Int
 mo:Nat->Int
 W:Nat->Wk
 tog:Nat->Int
 hist:List Ev
 deeds:List Vd
 R:Rec
 V:Int
def askB (R:Rec) (ms:Nat->Int) (u:Nat):Bool:=decide (ms u≠0/\ms u-1≠Qm R.tog u)
def askN (R:Rec) (ms:Nat->Int) (i:Nat):Nat->Nat
 |0=>0
 |n+1=>(bif askB R ms i then 2 else 1)+askN R ms (i+1) n
def left (c:SoC) (w:Wk):Nat:=
 if w.does=3 then 77+askN c.R c.ms 0 4 else if w.does=4 then 76+askN c.R c.ms 0 4
 else if w.does=5 then 43+(32-w.i.toNat)+askN c.R c.ms 0 4 else if w.does=6 then 43+askN c.R c.ms w.i.toNat (4-w.i.toNat)
 else if w.does=7 then 44+askN c.R c.ms (w.i.toNat+1) (3-w.i.toNat)else if w.does=8 then 11+(32-w.i.toNat)
 else if w.does=9 then 7+(4-w.i.toNat)else (17-w.does).toNat
section
variable {K:Int}{z:Sh}{g:Gh}{t:Nat}{c:SoC}
theorem Qjs (t:Nat):∀(n:Nat) {z:Sh},(z.w t).does=0->z.run t n=z/\z.ran t n=0
 |0,z,_=>⟨rfl,rfl⟩
 |n+1,z,h=>by
  have e:z.step t=z:=if_pos h
  refine⟨?_,if_pos h⟩
  show (z.step t).run t n=z
  rw[e];exact (Qjs t n h).1
theorem QiJ (t:Nat):∀(n k:Nat) (z:Sh),z.run t (n+k)=(z.run t n).run t k
 |0,k,z=>by rw[Nat.zero_add];rfl
 |n+1,k,z=>by rw[Nat.add_right_comm];exact QiJ t n k (z.step t)
end
end
section
def inT (a:Int):Bool:=decide (0<=a/\a<4)
def runB (n:Int):Bool:=decide (0<=n/\n<=1000)
structure Mv where
 kind:Int
 t:Int
 k:Int
 key:Int
 x:Int
 n:Int
 l:Int
def Sh.runA (z:Sh) (t n:Int):Sh:=bif inT t then z.run t.toNat (bif runB n then n.toNat else 0)else z
def Sh.callA (z:Sh) (t k key x:Int):Sh:=bif inT t then z.call t.toNat k key x else z
def Sh.move (z:Sh) (m:Mv):Sh:=
 if m.kind=1 then z.callA m.t m.k m.key m.x else if m.kind=2 then z.runA m.t m.n else if m.kind=3 then z.evict m.n else if m.kind=4 then z.crash m.l else z
def XV (K:Int) (l:List Mv):Sh:=l.foldl Sh.move (Sh.new K)
theorem Qek (K:Int) (l:List Mv) (m:Mv):XV K (l++[m])=(XV K l).move m:=by unfold XV;rw[List.foldl_append];rfl
theorem Qer {a:Int}(h:inT a=true):0<=a/\a<4/\a.toNat<4:=by
 have:=of_decide_eq_true h
 omega
theorem QgA (z:Sh) (t:Nat) (k key x:Int):z.steps<=(z.call t k key x).steps/\(z.call t k key x).steps<=z.steps+1:=by
 unfold Sh.call
 split
 · show z.steps<=z.steps+1/\z.steps+1<=z.steps+1;omega
 · omega
theorem Qgm (z:Sh) (m:Mv):z.steps<=(z.move m).steps/\(z.move m).steps<=z.steps+1000:=by
 unfold Sh.move
 split
 · unfold Sh.callA
   cases inT m.t
   · rw[cond_false];omega
   · rw[cond_true];have:=QgA z m.t.toNat m.k m.key m.x;omega
 split
 · unfold Sh.runA
   cases inT m.t
   · rw[cond_false];omega
   · rw[cond_true]
     have:=QdE m.t.toNat (bif runB m.n then m.n.toNat else 0) z
     cases hb:runB m.n
     · rw[hb]at this
       rw[cond_false]at this ⊢;omega
     · rw[hb]at this
       have h2:=of_decide_eq_true hb
       rw[cond_true]at this ⊢;omega
 split
 · unfold Sh.evict
   split
   · show z.steps<=z.steps/\z.steps<=z.steps+1000;omega
   · omega
 split
 · show z.steps<=z.steps+1/\z.steps+1<=z.steps+1000;omega
 · omega
section
variable {K:Int}{z:Sh}{g:Gh}
theorem Qnm (F:Fine K z g) (hs:z.steps<90000000) (t n:Int):∃g',Fine K (z.runA t n) g':=by
 unfold Sh.runA
 cases ht:inT t
 · exact⟨g,F⟩
 · rw[cond_true]
   cases hb:runB n
   · exact⟨g,F⟩
   · have h2:=of_decide_eq_true hb
     exact QjV (Qer ht).2.2 n.toNat F (by omega)
theorem Qlo (F:Fine K z g) (t k key x:Int):Fine K (z.callA t k key x) g:=by
 unfold Sh.callA
 cases ht:inT t
 · exact F
 · exact Qno F (Qer ht).2.2 k key x
theorem Qnn (F:Fine K z g) (hs:z.steps<90000000) (m:Mv):∃g',Fine K (z.move m) g':=by
 unfold Sh.move
 split
 · exact⟨g,Qlo F _ _ _ _⟩
 split
 · exact Qnm F hs _ _
 split
 · exact⟨g,Qlm F _⟩
 split
 · exact⟨_,Qln F _⟩
 · exact⟨g,F⟩
end
end
section
open Go.RowKit
abbrev TCon.sh {α χ:Type}(c:TCon Sh α χ):MCon:=c.high shM ShS.z ShS.good
theorem Xh (x:ShS):(shM x).length=17:=rfl
theorem verH:(Con.mem verC.sh).holds Tryz.prog 52:=fun w0 S=>verC.lift (Qqq w0 S) (by decide) (fun x _=>Xh x) (fun _=>rfl) (fun _ _ _ _ _ _ _ _=>⟨rfl,rfl,rfl,rfl⟩)
theorem evH:(Con.mem evC.sh).holds Tryz.prog 94:=fun w0 S=>evC.lift (ev_con w0 S) (by decide) (fun x _=>Xh x) (fun _=>rfl) (fun _ _ _ _ _ _ _ _=>⟨rfl,rfl,rfl,rfl⟩)
theorem Qmb {ρ ρ':Nat->Nat}{sz l c:Nat}{nn:Bool}(h:∀i,ρ' (1+i)=ρ (17+i)):(SV.o (.c (.so 1 0 sz l c nn))).den ρ'=(SV.o (.c (.so 17 0 sz l c nn))).den ρ:=by
 simp only[SV.den,SA.den,SC.den]
 rw[show ρ' 1=ρ 17 from h 0]
theorem QhI {ρ ρ':Nat->Nat}{t:Nat}{ks:List CK}{sz m c:Nat}{z:Nat->Nat->Int}(h:∀i,ρ' (1+i)=ρ (17+i)):denM ρ' 1 [.rows t ks sz m c z]=denM ρ 17 [.rows t ks sz m c z]:=by
 simp only[denM,denB]
 rw[show ρ' 1=ρ 17 from h 0]
theorem ddsH:(Con.mem ddsC.sh).holds Tryz.prog 53:=fun w0 S=>ddsC.lift (Qq5 w0 S) (by decide) (fun x _=>Xh x) (fun _=>rfl) (fun _ _ _ _ _ _ h _=>⟨Qmb h,QhI h,rfl,rfl⟩)
theorem hisH:(Con.mem hisC.sh).holds Tryz.prog 27:=fun w0 S=>hisC.lift (QqX w0 S) (by decide) (fun x _=>Xh x) (fun _=>rfl) (fun _ _ _ _ _ _ h _=>⟨Qmb h,QhI h,rfl,rfl⟩)
def QiZ:TCon Sh Nat Unit where
 pre z t:=t<4
 args t:=[.c (.v (.int .i64 t))]
 ok _ _ _:=True
 next z _ _:=z
 val _ z t _:=sv (.int .i64 (z.w t).does)
 new _ _ _ _:=[]
 len:=0
structure StpOK (z:Sh) (t:Nat):Prop where
 t4:t<4
 ok:stOK z t
 pre:(z.w t).does≠0->Qbe (z.wst t)
def Qkm:TCon Sh Nat Unit where
 pre z t:=StpOK z t
 args t:=[.c (.v (.int .i64 t))]
 ok _ _ _:=True
 next z t _:=z.step t
 val _ z t _:=QM z t
 new _ _ _ _:=[]
 len:=0
def oneA:TCon Sh Nat Value where
 pre z t:=t<4
 args t:=[.c (.v (.int .i64 t))]
 ok _ _ _:=True
 next z _ _:=z
 val _ z t r:=.t [.c (.v r),.c (.v .nilIface)]
 new _ _ _ _:=[]
 len:=0
theorem lt4 {t:Nat}(h:t<4):t=0\/t=1\/t=2\/t=3:=by omega
theorem QfC {X Y α χ:Type}{c:TCon Y α χ}{L:X->List SB}{y:X->Y}{good:X->Prop}{P:Program}{w0:World}{S:Nat->Prop}{f:FuncId}{a:α}(h:∀z,¬c.pre z a):c.Does L y good P w0 S f a:=fun _ z _ _ hp _ _=>absurd hp (h z)
theorem doesH:(Con.mem QiZ.sh).holds Tryz.prog 54:=fun w0 S=>TCon.high_of (Qib w0 S).1 fun t=>by
 by_cases h:t<4
 · rcases lt4 h with rfl|rfl|rfl|rfl
   · exact (Qnx 0).does_of QiZ (Qib w0 S) (by decide) (fun x _=>Xh x) () 0 rfl rfl (fun _ _=>trivial) (fun _ _ _ _ _ _ _ _=>⟨(),trivial,rfl,rfl,rfl,rfl⟩)
   · exact (Qnx 1).does_of QiZ (QnA w0 S) (by decide) (fun x _=>Xh x) () 1 rfl rfl (fun _ _=>trivial) (fun _ _ _ _ _ _ _ _=>⟨(),trivial,rfl,rfl,rfl,rfl⟩)
   · exact (Qnx 2).does_of QiZ (Qnz w0 S) (by decide) (fun x _=>Xh x) () 2 rfl rfl (fun _ _=>trivial) (fun _ _ _ _ _ _ _ _=>⟨(),trivial,rfl,rfl,rfl,rfl⟩)
   · exact (Qnx 3).does_of QiZ (Qny w0 S) (by decide) (fun x _=>Xh x) () 3 rfl rfl (fun _ _=>trivial) (fun _ _ _ _ _ _ _ _=>⟨(),trivial,rfl,rfl,rfl,rfl⟩)
 · exact QfC fun _=>h
theorem stepH:(Con.mem Qkm.sh).holds Tryz.prog 91:=fun w0 S=>TCon.high_of (Qjm w0 S).1 fun t=>by
 by_cases h:t<4
 · rcases lt4 h with rfl|rfl|rfl|rfl
   · exact (stC 0).does_of Qkm (Qjm w0 S) (by decide) (fun x _=>Xh x) () 0 rfl rfl (fun _ h=>⟨h.ok,h.pre⟩) (fun _ _ _ _ _ _ _ _=>⟨(),trivial,rfl,rfl,rfl,rfl⟩)
   · exact (stC 1).does_of Qkm (Qoj w0 S) (by decide) (fun x _=>Xh x) () 1 rfl rfl (fun _ h=>⟨h.ok,h.pre⟩) (fun _ _ _ _ _ _ _ _=>⟨(),trivial,rfl,rfl,rfl,rfl⟩)
   · exact (stC 2).does_of Qkm (Qoi w0 S) (by decide) (fun x _=>Xh x) () 2 rfl rfl (fun _ h=>⟨h.ok,h.pre⟩) (fun _ _ _ _ _ _ _ _=>⟨(),trivial,rfl,rfl,rfl,rfl⟩)
   · exact (stC 3).does_of Qkm (Qoh w0 S) (by decide) (fun x _=>Xh x) () 3 rfl rfl (fun _ h=>⟨h.ok,h.pre⟩) (fun _ _ _ _ _ _ _ _=>⟨(),trivial,rfl,rfl,rfl,rfl⟩)
 · exact QfC fun _ hp=>h hp.t4
theorem oneH:(Con.mem oneA.sh).holds Tryz.prog 90:=fun w0 S=>TCon.high_of (QjC w0 S).1 fun t=>by
 by_cases h:t<4
 · rcases lt4 h with rfl|rfl|rfl|rfl
   · exact (oneC 0).does_of oneA (QjC w0 S) (by decide) (fun x _=>Xh x) () 0 rfl rfl (fun _ _=>trivial) (fun _ _ _ _ ρ _ _ _=>⟨.pointer (some ⟨ρ 3,0,none⟩),trivial,rfl,rfl,rfl,rfl⟩)
   · exact (oneC 1).does_of oneA (QoN w0 S) (by decide) (fun x _=>Xh x) () 1 rfl rfl (fun _ _=>trivial) (fun _ _ _ _ ρ _ _ _=>⟨.pointer (some ⟨ρ 4,0,none⟩),trivial,rfl,rfl,rfl,rfl⟩)
   · exact (oneC 2).does_of oneA (QoM w0 S) (by decide) (fun x _=>Xh x) () 2 rfl rfl (fun _ _=>trivial) (fun _ _ _ _ ρ _ _ _=>⟨.pointer (some ⟨ρ 5,0,none⟩),trivial,rfl,rfl,rfl,rfl⟩)
   · exact (oneC 3).does_of oneA (QoL w0 S) (by decide) (fun x _=>Xh x) () 3 rfl rfl (fun _ _=>trivial) (fun _ _ _ _ ρ _ _ _=>⟨.pointer (some ⟨ρ 6,0,none⟩),trivial,rfl,rfl,rfl,rfl⟩)
 · exact QfC fun _=>h
structure CallOK (z:Sh):Prop where
 st0:0<=z.steps
 st1:z.steps<100000000
 h:z.hist.length<=1000000000
 tog:∀t,t<4->z.tog t=0\/z.tog t=1
def callA:TCon Sh (Int × OpA) Unit where
 pre z a:=CallOK z
 args a:=[.c (.v (.int .i64 a.1)),.a [.one (.v (.int .i64 a.2.k)),.one (.v (.int .i64 a.2.key)),.one (.v (.int .i64 a.2.x))]]
 ok _ _ _:=True
 next z a _:=bif inT a.1 then z.call a.1.toNat a.2.k a.2.key a.2.x else z
 val _ z a _:=.o (.c (.v (bif inT a.1 then (bif (z.w a.1.toNat).does==0 then (bif opOk a.2.k a.2.key a.2.x then .nilIface else .iface 91 (.int .i64 1))else .iface 91 (.int .i64 6))else .iface 91 (.int .i64 2))))
 new _ _ _ _:=[]
 len:=0
theorem callH:(Con.mem callA.sh).holds Tryz.prog 49:=fun w0 S=>TCon.high_of (Qj6 w0 S).1 fun ⟨a,o⟩=>by
 by_cases h:0<=a/\a<4
 · obtain⟨t,rfl⟩:=Int.eq_ofNat_of_zero_le h.1
   rcases lt4 (t:=t) (by omega)with rfl|rfl|rfl|rfl
   · exact (clC 0).does_of callA (Qj6 w0 S) (by decide) (fun x _=>Xh x) o _ rfl rfl (fun _ h=>⟨⟨h.st0,h.st1⟩,h.h,h.tog 0 (by decide)⟩) (fun _ _ _ _ _ _ _ _=>⟨(),trivial,rfl,rfl,rfl,rfl⟩)
   · exact (clC 1).does_of callA (QpN w0 S) (by decide) (fun x _=>Xh x) o _ rfl rfl (fun _ h=>⟨⟨h.st0,h.st1⟩,h.h,h.tog 1 (by decide)⟩) (fun _ _ _ _ _ _ _ _=>⟨(),trivial,rfl,rfl,rfl,rfl⟩)
   · exact (clC 2).does_of callA (QpM w0 S) (by decide) (fun x _=>Xh x) o _ rfl rfl (fun _ h=>⟨⟨h.st0,h.st1⟩,h.h,h.tog 2 (by decide)⟩) (fun _ _ _ _ _ _ _ _=>⟨(),trivial,rfl,rfl,rfl,rfl⟩)
   · exact (clC 3).does_of callA (QpL w0 S) (by decide) (fun x _=>Xh x) o _ rfl rfl (fun _ h=>⟨⟨h.st0,h.st1⟩,h.h,h.tog 3 (by decide)⟩) (fun _ _ _ _ _ _ _ _=>⟨(),trivial,rfl,rfl,rfl,rfl⟩)
 · have hb:inT a=false:=decide_eq_false h
   refine calX.does_of callA (QpK w0 S) (by decide) (fun x _=>Xh x) (a,o) (a,o) rfl rfl (fun _ _=>(by show a<0\/4<=a;omega)) (fun z _ _ _ _ _ _ _=>⟨(),trivial,?_,?_,rfl,rfl⟩)
   · show (bif inT a then _ else _)=z.z
     rw[hb];rfl
   · show (SV.o (.c (.v (bif inT a then _ else _)))).den _=_
     rw[hb];rfl
structure RunOK (z:Sh) (t:Nat) (n:Int):Prop where
 ok:0<=n->n<=1000->∀k:Nat,(k:Int)<n->stOK (z.run t k) t/\(((z.run t k).w t).does≠0->Qbe ((z.run t k).wst t))
def runN:TCon Sh (Nat × Int) Unit where
 pre z a:=a.1<4/\RunOK z a.1 a.2
 args a:=[.c (.v (.int .i64 a.1)),.c (.v (.int .i64 a.2))]
 ok _ _ _:=True
 next z a _:=z.run a.1 (bif runB a.2 then a.2.toNat else 0)
 val _ z a _:=.t [.c (.v (.int .i64 (bif runB a.2 then ((z.ran a.1 a.2.toNat:Nat):Int)else 0))),.c (.v (bif runB a.2 then .nilIface else .iface 91 (.int .i64 1)))]
 new _ _ _ _:=[]
 len:=0
structure RunG (z:Sh) (t:Nat) (n:Int) where
 k:Nat
 F:List Nat
 hk:k<=n.toNat
 hr:z.ran t n.toNat=k+(z.run t k).ran t (n.toNat-k)
def Qqg (z:Sh) (t:Nat) (n:Int):Ann where
 σ:=RunG z t n
 I g:=([(0,.o (.c (.p 0 0))),(1,sv (.int .i64 t)),(2,sv (.int .i64 n)),(27,sv (.int .i64 n)),(28,sv (.int .i64 g.k))],[.abs (QE shM ShS.z ShS.good (z.run t g.k)) g.F])
 dec g:=n.toNat-g.k
 pi env M:=[0]
 nz:=[]
theorem Qox {z:Sh}{t:Nat}{m:Nat}(h:(z.w t).does≠0):z.ran t (m+1)=(z.step t).ran t m+1:=if_neg h
theorem Qjr (z:Sh) (t k:Nat):z.run t (k+1)=(z.run t k).step t:=by rw[QiJ];rfl
theorem Qjt:(Con.mem runN.sh).holds Tryz.prog 50:=by
 intro w0 S
 refine Qb (Γ:=[(90,.mem oneA.sh),(54,.mem QiZ.sh),(91,.mem Qkm.sh)]) (fun _=>noW) Tryz.func50 rfl (by kernel_rfl) Qg Qc (fun w S' _ _=>.cons (oneH w S') (.cons (doesH w S') (.cons (stepH w S') (.nil _ _ _)))) runN.sh (fun s=>[(50,[(0,Qqg s.1 s.2.1.1 s.2.1.2)])]) (fun x0 h=>by cases h) (fun s ρ w _ _ _=>Qh w _) [] (fun _ M=>[0]) 600 ?_
 rintro⟨z,⟨t,n⟩,F⟩ W ⟨ht,h1⟩ -
 refine⟨rfl,?_⟩
 dsimp only
 refine Qi (q:=∃(s:Sh × Nat × List Nat),[aP 0 0,aI ↑t]=[aP 0 0,aI (↑s.2.1:Int)]/\[SB.abs (QE shM ShS.z ShS.good z) F]=[SB.abs (QE shM ShS.z ShS.good s.1) s.2.2]/\s.2.1<4/\∀(x:List Nat × Value),True->bif decide (n<(0:Int))then endN (TCon.sh runN) [] (fun (x:SV) (M:List SB)=>[0]) (z,(t,n),F) (SV.t [aI 0,SA.c (.v (.iface 91 (Value.int .i64 (1:Int))))]) [SB.abs (QE shM ShS.z ShS.good s.1) x.1]else bif decide (n>(1000:Int))then endN (TCon.sh runN) [] (fun (x:SV) (M:List SB)=>[0]) (z,(t,n),F) (SV.t [aI 0,SA.c (.v (.iface 91 (Value.int .i64 (1:Int))))]) [SB.abs (QE shM ShS.z ShS.good s.1) x.1]else (∃(s0:Ann.σ (Qqg z t n)),(eS (aP 0 0) (aP 0 0)/\eS (aI ↑t) (aI ↑t)/\eS (aI n) (aI n)/\eS (aI n) (aI n)/\eS (aI 0) (aI ↑s0.1)/\True)/\[SB.abs (QE shM ShS.z ShS.good s.1) x.1]=[SB.abs (QE shM ShS.z ShS.good (Sh.run z t s0.1)) s0.2])/\∀(s:RunG z t n),bif decide ((↑s.1:Int)<n)then ∃(s_1:Sh × Nat × List Nat),[aP 0 0,aI ↑t]=[aP 0 0,aI (↑s_1.2.1:Int)]/\[SB.abs (QE shM ShS.z ShS.good (Sh.run z t s.1)) s.2]=[SB.abs (QE shM ShS.z ShS.good s_1.1) s_1.2.2]/\s_1.2.1<4/\∀(x:List Nat × Unit),True->bif (Sh.w s_1.1 s_1.2.1).2==(0:Int)then endN (TCon.sh runN) [] (fun (x:SV) (M:List SB)=>[0]) (z,(t,n),F) (SV.t [aI ↑s.1,SA.c (.v Value.nilIface)]) [SB.abs (QE shM ShS.z ShS.good s_1.1) x.1]else ∃(s_2:Sh × Nat × List Nat),[aP 0 0,aI ↑t]=[aP 0 0,aI (↑s_2.2.1:Int)]/\[SB.abs (QE shM ShS.z ShS.good s_1.1) x.1]=[SB.abs (QE shM ShS.z ShS.good s_2.1) s_2.2.2]/\StpOK s_2.1 s_2.2.1/\∀(x:List Nat × Unit),True->∃(s':RunG z t n),((eS (aP 0 0) (aP 0 0)/\eS (aI ↑t) (aI ↑t)/\eS (aI n) (aI n)/\eS (aI n) (aI n)/\eS (aI (IntKind.wrap .i64 ((↑s.1:Int)+(1:Int)))) (aI ↑s'.1)/\True)/\[SB.abs (QE shM ShS.z ShS.good (Sh.step s_2.1 s_2.2.1)) x.1]=[SB.abs (QE shM ShS.z ShS.good (Sh.run z t s'.1)) s'.2])/\Int.toNat n-s'.1<Int.toNat n-s.1 else endN (TCon.sh runN) [] (fun (x:SV) (M:List SB)=>[0]) (z,(t,n),F) (SV.t [aI n,SA.c (.v Value.nilIface)]) [SB.abs (QE shM ShS.z ShS.good (Sh.run z t s.1)) s.2]) (by kernel_rfl) ?_
 have h1:RunOK z t n:=h1
 have ht:t<4:=ht
 have bad (hb:runB n=false) (G:List Nat):endN runN.sh [] (fun _ _=>[0]) (z,(t,n),F) (SV.t [SA.c (SC.v (.int .i64 0)),SA.c (SC.v (.iface 91 (.int .i64 1)))]) [SB.abs (QE shM ShS.z ShS.good z) G]:=by
  refine Qj rfl ⟨G,()⟩ trivial rfl ?_ ?_
  · show _=SV.ren _ (.t [.c (.v (.int .i64 (bif runB n then _ else _))),.c (.v (bif runB n then _ else _))])
    rw[hb];rfl
  · show _=[SB.abs (QE shM ShS.z ShS.good (z.run t (bif runB n then n.toNat else 0))) G].map _
    rw[hb];rfl
 have fin (hb:runB n=true) {k:Nat}(hk:k<=n.toNat) (hr:z.ran t n.toNat=k+(z.run t k).ran t (n.toNat-k)) (hd:k=n.toNat\/((z.run t k).w t).does=0) (G:List Nat):endN runN.sh [] (fun _ _=>[0]) (z,(t,n),F) (SV.t [SA.c (SC.v (.int .i64 (k:Int))),SA.c (SC.v .nilIface)]) [SB.abs (QE shM ShS.z ShS.good (z.run t k)) G]:=by
  have e:z.ran t n.toNat=k/\z.run t n.toNat=z.run t k:=by
   rcases hd with rfl|hd
   · rw[Nat.sub_self]at hr;exact⟨hr,rfl⟩
   · have a:=Qjs t (n.toNat-k) hd
     rw[a.2]at hr
     refine⟨hr,?_⟩
     have b:=QiJ t k (n.toNat-k) z
     rw[show k+(n.toNat-k)=n.toNat by omega,a.1]at b;exact b
  refine Qj rfl ⟨G,()⟩ trivial rfl ?_ ?_
  · show _=SV.ren _ (.t [.c (.v (.int .i64 (bif runB n then ((z.ran t n.toNat:Nat):Int)else _))),.c (.v (bif runB n then _ else _))])
    rw[hb,e.1];rfl
  · show _=[SB.abs (QE shM ShS.z ShS.good (z.run t (bif runB n then n.toNat else 0))) G].map _
    rw[hb]
    show _=[SB.abs (QE shM ShS.z ShS.good (z.run t n.toNat)) G].map _
    rw[e.2];rfl
 refine⟨(z,t,F),rfl,rfl,ht,fun x _=>Qp (fun hlt=>bad (decide_eq_false (by omega)) x.1) (fun hge=>Qp (fun hgt=>bad (decide_eq_false (by omega)) x.1) (fun hle=>?_))⟩
 have hb:runB n=true:=decide_eq_true (by omega)
 refine⟨⟨⟨0,x.1,Nat.zero_le _,(by rw[Nat.zero_add,Nat.sub_zero];rfl)⟩,⟨rfl,rfl,rfl,rfl,rfl,trivial⟩,rfl⟩,?_⟩
 rintro⟨k,G,hk,hr⟩
 dsimp only at hk hr ⊢
 refine Qp (fun hlt=>?_) (fun hge=>?_)
 · refine⟨(z.run t k,t,G),rfl,rfl,ht,fun x1 _=>QY (fun hd=>fin hb hk hr (.inr hd) x1.1) (fun hd=>?_)⟩
   have hok:=h1.ok (by omega) (by omega) k (by omega)
   have hr':z.ran t n.toNat=k+1+(z.run t (k+1)).ran t (n.toNat-(k+1)):=by
    rw[hr,Qjr,show n.toNat-k=(n.toNat-(k+1))+1 by omega,Qox (z:=z.run t k) (t:=t) hd];omega
   exact⟨(z.run t k,t,x1.1),rfl,rfl,⟨ht,hok.1,hok.2⟩,fun x2 _=>⟨⟨k+1,x2.1,by omega,hr'⟩,⟨⟨rfl,rfl,rfl,rfl,svI (sucI (by omega)),trivial⟩,congrArg (fun s=>[SB.abs (QE shM ShS.z ShS.good s) x2.1]) (Qjr z t k).symm⟩,by dsimp only;omega⟩⟩
 · obtain hkn:k=n.toNat:=by omega
   have:=fin hb hk hr (.inl hkn) G
   rw[show (k:Int)=n by omega]at this;exact this
def Qmj:TCon Sh (Int × Int) Unit where
 pre z a:=inT a.1=true->RunOK z a.1.toNat a.2
 args a:=[.c (.v (.int .i64 a.1)),.c (.v (.int .i64 a.2))]
 ok _ _ _:=True
 next z a _:=z.runA a.1 a.2
 val _ z a _:=.t [.c (.v (.int .i64 (bif inT a.1 then (bif runB a.2 then ((z.ran a.1.toNat a.2.toNat:Nat):Int)else 0)else 0))),.c (.v (bif inT a.1 then (bif runB a.2 then .nilIface else .iface 91 (.int .i64 1))else .iface 91 (.int .i64 2)))]
 new _ _ _ _:=[]
 len:=0
def runX:TCon Sh (Int × Int) Unit where
 pre z a:=a.1<0\/4<=a.1
 args a:=[.c (.v (.int .i64 a.1)),.c (.v (.int .i64 a.2))]
 ok _ _ _:=True
 next z a _:=z
 val _ z a _:=.t [.c (.v (.int .i64 0)),.c (.v (.iface 91 (.int .i64 2)))]
 new _ _ _ _:=[]
 len:=0
theorem Qos:(Con.mem runX.sh).holds Tryz.prog 50:=by
 intro w0 S
 refine Qb (Γ:=[(90,.pure Qhh)]) (fun _=>noW) Tryz.func50 rfl (by kernel_rfl) Qg Qc (fun w S' _ _=>.cons (QjB w _) (.nil _ _ _)) runX.sh (fun s=>[]) (fun x0 h=>by cases h) (fun s ρ w _ _ _=>Qh w _) [] (fun _ M=>[0]) 600 ?_
 rintro⟨z,⟨a,n⟩,F⟩ W h1 -
 refine⟨rfl,?_⟩
 refine Qi (q:=(a<(0:Int)\/(4:Int)<=a)/\endN (TCon.sh runX) [] (fun (x:SV) (M:List SB)=>[0]) (z,(a,n),F) (SV.t [aI 0,SA.c (.v (.iface 91 (Value.int .i64 (2:Int))))]) [SB.abs (QE shM ShS.z ShS.good z) F]) (by kernel_rfl) ?_
 have h1:a<0\/4<=a:=h1
 exact⟨h1,Qj rfl ⟨F,()⟩ trivial rfl rfl rfl⟩
theorem runH:(Con.mem Qmj.sh).holds Tryz.prog 50:=fun w0 S=>TCon.high_of (Qjt w0 S).1 fun ⟨a,n⟩=>by
 intro ρ z F w hp hK HM
 by_cases h:0<=a/\a<4
 · have hb:inT a=true:=decide_eq_true h
   obtain⟨t,rfl⟩:=Int.eq_ofNat_of_zero_le h.1
   have ht:t<4:=by omega
   have hp':RunOK z t n:=by have:=hp hb;rw[Int.toNat_natCast]at this;exact this
   have:=(Qjt w0 S).2.2 ρ (z,(t,n),F) w ⟨ht,hp'⟩ hK HM
   have e1:z.runA t n=z.run t (bif runB n then n.toNat else 0):=by unfold Sh.runA;rw[hb,Int.toNat_natCast];rfl
   have e2:Qmj.val 1 z ((t:Int),n) ()=runN.val 1 z (t,n) ():=by
    show SV.t [.c (.v (.int .i64 (bif inT t then (bif runB n then ((z.ran (t:Int).toNat n.toNat:Nat):Int)else 0)else 0))),.c (.v (bif inT t then _ else _))]=_
    rw[hb,Int.toNat_natCast];rfl
   refine this.mono ?_
   rintro e w' ⟨⟨G,⟨⟩⟩,ρ',h1,h2,h3,h4,h5⟩
   refine⟨⟨G,()⟩,ρ',trivial,h2,rfl,?_,?_⟩
   · rw[e2];exact h4
   · show Mem w _ (denM ρ' 0 (.abs (QE shM ShS.z ShS.good (z.runA t n)) G::[])) w'
     rw[e1];exact h5
 · have hb:inT a=false:=decide_eq_false h
   have:=(Qos w0 S).2.2 ρ (z,(a,n),F) w (by show a<0\/4<=a;omega) hK HM
   have e1:z.runA a n=z:=by unfold Sh.runA;rw[hb];rfl
   have e2:Qmj.val 1 z (a,n) ()=runX.val 1 z (a,n) ():=by
    show SV.t [.c (.v (.int .i64 (bif inT a then _ else 0))),.c (.v (bif inT a then _ else _))]=_
    rw[hb];rfl
   refine this.mono ?_
   rintro e w' ⟨⟨G,⟨⟩⟩,ρ',h1,h2,h3,h4,h5⟩
   refine⟨⟨G,()⟩,ρ',trivial,h2,rfl,?_,?_⟩
   · rw[e2];exact h4
   · show Mem w _ (denM ρ' 0 (.abs (QE shM ShS.z ShS.good (z.runA a n)) G::[])) w'
     rw[e1];exact h5
end
section
open Go.RowKit
structure NewS where
 k:Int
def Qhj:MCon where
 σ:=NewS
 χ:=ShS
 pre s:=1<=s.k/\s.k<=6
 args s:=[.c (.v (.int .i64 s.k))]
 mem _:=[]
 ok s x:=x.good/\x.z=Sh.new s.k
 val _ _:=.t [.c (.p 0 0),.c (.v .nilIface)]
 mem' _ x:=shM x
 k:=0
 len:=17
 det:=none
 find _ _:=some []
def msAt (M:List SB) (b:Nat):List Nat:=match getB M b with
 |.cells l _=>match segGet l 0,segGet l 1 with
  |some (.p m _),some (.p s _)=>[b,m,s]
  |_,_=>[]
 |_=>[]
def newM (k:Int) (f:Nat->Int):List SB:=[.cells [.one (.p 1 0),.one (.p 2 0),.one (.v (.pointer none)),.one (.v (.pointer none)),.one (.v (.pointer none)),.one (.v (.pointer none)),.ints (.int .i64) 4 (fun _=>0),.one (.v (.int .i64 0)),.one (.v (.slice none 0 0)),.one (.v (.slice none 0 0))] 122,ramB (fun _=>0),stoB { Sto.new with now:=f },.cells [.ints (.int .u64) 32 (fL (Rec.new k).words)] 35]
structure NewG where
 i:Nat
 hi:i<=32
def Qqh (k:Int):Ann where
 σ:=NewG
 I g:=([(4,.o (.c (.p 3 0))),(6,.o (.c (.p 0 0))),(24,.o (.a [.ints (.int .u64) 32 (fL (Rec.new k).words)])),(25,sv (.int .i64 g.i))],
   [.cells [.one (.p 1 0),.one (.p 2 0),.one (.v (.pointer none)),.one (.v (.pointer none)),.one (.v (.pointer none)),.one (.v (.pointer none)),.ints (.int .i64) 4 (fun _=>0),.one (.v (.int .i64 0)),.one (.v (.slice none 0 0)),.one (.v (.slice none 0 0))] 122,ramB (fun _=>0),stoB { Sto.new with now:=XU k g.i },.cells [.ints (.int .u64) 32 (fL (Rec.new k).words)] 35])
 dec g:=32-g.i
 pi env M:=msAt M (blkE env 6)++[blkE env 4]
 nz:=[]
abbrev nzE (b:Nat):NZ:=.blk b 11 76 9 [.int .i64,.int .i64,.int .i64,.int .i64,.int .i64,.int .i64,.int .i64,.int .i64,.int .i64]
abbrev nzVd (b:Nat):NZ:=.blk b 12 179 7 [.int .u64,.int .i64,.int .i64,.int .i64,.int .i64,.int .i64,.int .i64]
abbrev nzWA (b:Nat):NZ:=.blk b 41 139 5 [.int .i64,.int .i64,.int .i64,.int .i64,.int .i64]
abbrev nzWD (b:Nat):NZ:=.blk b 42 60 6 [.int .i64,.int .i64,.int .i64,.int .i64,.int .i64,.int .i64]
structure QaV where
 s:Sto
 n:Nat
def Qie:MCon:=dcon QaV (fun s=>s.n<9) (fun s=>[.c (.p 0 0),.c (.v (.int .i64 (s.n:Int)))]) (fun s=>[stoB s.s]) (fun s=>.o (.c (.v .nilIface))) (fun s=>[stoB (s.s.evict s.n)]) 1 (fun args _=>some (blkA args))
theorem Qki:(Con.mem Qie).holds Tryz.prog 89:=by
 intro w0 S
 have h:=QhA w0 S
 refine⟨h.1,fun x0 hx s x=>⟨rfl,trivial⟩,fun ρ ⟨s,n⟩ w hp hK HM=>(h.2.2 ρ ⟨s,n⟩ w trivial hK HM).mono ?_⟩
 have hp:n<9:=hp
 have e1:decide ((0:Int)<=(n:Int)/\(n:Int)<9)=true:=decide_eq_true (by omega)
 have ev:QbF.val ⟨s,n⟩ ()=.o (.c (.v .nilIface)):=by
  show SV.o (.c (.v (bif decide ((0:Int)<=(n:Int)/\(n:Int)<9)then _ else _)))=_
  rw[e1];rfl
 have em:QbF.mem' ⟨s,n⟩ ()=[stoB (s.evict n)]:=by
  show [stoB (bif decide ((0:Int)<=(n:Int)/\(n:Int)<9)then s.evict (n:Int).toNat else s)]=_
  rw[e1,Int.toNat_natCast];rfl
 rintro e w' ⟨⟨⟩,ρ',h1,h2,h3,h4,h5⟩
 refine⟨(),ρ',trivial,h2,rfl,?_,?_⟩
 · rw[h4,ev];rfl
 · rw[em]at h5;exact h5
theorem evict4 (k:Int) {A:Sto}(hA:A={ Sto.new with now:=XU k 32 }):(((A.evict 1).evict 2).evict 3).evict 4={ Sto.new with now:=XU k 32,good:=XU k 32 }:=by
 have e2:((((A.evict 1).evict 2).evict 3).evict 4).good=XU k 32:=funext fun j=>by
  subst hA
  show (bif decide (j/8=4)then XU k 32 j else bif decide (j/8=3)then XU k 32 j else bif decide (j/8=2)then XU k 32 j else bif decide (j/8=1)then XU k 32 j else 0)=XU k 32 j
  by_cases h:8<=j/\j<40
  · rcases (show j/8=1\/j/8=2\/j/8=3\/j/8=4 by omega)with h|h|h|h<;>rw[h]<;>rfl
  · rw[Qcz k j (by omega),decide_eq_false (show ¬j/8=4 by omega),decide_eq_false (show ¬j/8=3 by omega),decide_eq_false (show ¬j/8=2 by omega),decide_eq_false (show ¬j/8=1 by omega)];rfl
 show (⟨A.now,((((A.evict 1).evict 2).evict 3).evict 4).good,A.want,A.fl,A.fe⟩:Sto)=_
 rw[e2,hA]
def QqE:SV->List SB->List Nat
 |.t [.c (.p b _),_],M=>shAt M b
 |_,_=>[]
def newS0 (k:Int):ShS:=⟨Sh.new k,fun _=>⟨0,0,false,fun _ _=>0,0,0,false,fun _ _=>0⟩,0,0,false,fun _ _=>0,0,0,false,fun _ _=>0⟩
theorem QkH (k:Int):(newS0 k).good:=⟨fun t _=>⟨⟨Nat.le_refl _,Nat.le_refl _⟩,fun i hi=>absurd hi (Nat.not_lt_zero _),⟨Nat.le_refl _,Nat.le_refl _⟩,fun i hi=>absurd hi (Nat.not_lt_zero _)⟩,Nat.le_refl _,Nat.le_refl _,IsR.nil _ _ _ _,Nat.le_refl _,Nat.le_refl _,IsR.nil _ _ _ _⟩
attribute [local irreducible] endN
theorem QoR (k:Int) {S:Sto}(hS:S={ Sto.new with now:=XU k 32,good:=XU k 32 }):endN Qhj [nzE 0,nzVd 0,nzWA 4,nzWD 4,nzWA 5,nzWD 5,nzWA 6,nzWD 6,nzWA 7,nzWD 7] QqE ⟨k⟩ (.t [.c (.p 0 0),.c (.v .nilIface)])
 [.cells [.one (.p 1 0),.one (.p 2 0),.one (.p 4 0),.one (.p 5 0),.one (.p 6 0),.one (.p 7 0),.ints (.int .i64) 4 (fun _=>0),.one (.v (.int .i64 0)),.one (.v (.slice none 0 0)),.one (.v (.slice none 0 0))] 122,ramB (fun _=>0),stoB S,.cells [.ints (.int .u64) 32 (fL (Rec.new k).words)] 35,.cells [.one (.v (.int .i64 0)),.one (.v (.int .i64 0)),.one (.v (.int .i64 0)),.one (.v (.int .i64 0)),.one (.v (.int .i64 0)),.one (.v (.int .i64 0)),.one (.v (.bool false)),.one (.v (.int .i64 0)),.one (.v (.int .u64 0)),.ints (.int .u64) 32 (fun _=>0),.one (.v (.slice none 0 0)),.one (.v (.slice none 0 0)),.ints (.int .u64) 3 (fun _=>0),.one (.v (.int .i64 0)),.one (.v (.int .i64 0)),.one (.v (.int .i64 0))] 42,.cells [.one (.v (.int .i64 1)),.one (.v (.int .i64 0)),.one (.v (.int .i64 0)),.one (.v (.int .i64 0)),.one (.v (.int .i64 0)),.one (.v (.int .i64 0)),.one (.v (.bool false)),.one (.v (.int .i64 0)),.one (.v (.int .u64 0)),.ints (.int .u64) 32 (fun _=>0),.one (.v (.slice none 0 0)),.one (.v (.slice none 0 0)),.ints (.int .u64) 3 (fun _=>0),.one (.v (.int .i64 0)),.one (.v (.int .i64 0)),.one (.v (.int .i64 0))] 42,.cells [.one (.v (.int .i64 2)),.one (.v (.int .i64 0)),.one (.v (.int .i64 0)),.one (.v (.int .i64 0)),.one (.v (.int .i64 0)),.one (.v (.int .i64 0)),.one (.v (.bool false)),.one (.v (.int .i64 0)),.one (.v (.int .u64 0)),.ints (.int .u64) 32 (fun _=>0),.one (.v (.slice none 0 0)),.one (.v (.slice none 0 0)),.ints (.int .u64) 3 (fun _=>0),.one (.v (.int .i64 0)),.one (.v (.int .i64 0)),.one (.v (.int .i64 0))] 42,.cells [.one (.v (.int .i64 3)),.one (.v (.int .i64 0)),.one (.v (.int .i64 0)),.one (.v (.int .i64 0)),.one (.v (.int .i64 0)),.one (.v (.int .i64 0)),.one (.v (.bool false)),.one (.v (.int .i64 0)),.one (.v (.int .u64 0)),.ints (.int .u64) 32 (fun _=>0),.one (.v (.slice none 0 0)),.one (.v (.slice none 0 0)),.ints (.int .u64) 3 (fun _=>0),.one (.v (.int .i64 0)),.one (.v (.int .i64 0)),.one (.v (.int .i64 0))] 42]:=by
 refine Qj (x':=.t [.c (.p 0 0),.c (.v .nilIface)]) (M':=[.cells [.one (.p 1 0),.one (.p 2 0),.one (.p 4 0),.one (.p 5 0),.one (.p 6 0),.one (.p 7 0),.ints (.int .i64) 4 (fun _=>0),.one (.v (.int .i64 0)),.one (.so 8 0 9 0 0 false),.one (.so 9 0 7 0 0 false)] 122,ramB (fun _=>0),stoB S,.cells [.ints (.int .u64) 32 (fL (Rec.new k).words)] 35,.cells [.one (.v (.int .i64 0)),.one (.v (.int .i64 0)),.one (.v (.int .i64 0)),.one (.v (.int .i64 0)),.one (.v (.int .i64 0)),.one (.v (.int .i64 0)),.one (.v (.bool false)),.one (.v (.int .i64 0)),.one (.v (.int .u64 0)),.ints (.int .u64) 32 (fun _=>0),.one (.so 10 0 5 0 0 false),.one (.so 11 0 6 0 0 false),.ints (.int .u64) 3 (fun _=>0),.one (.v (.int .i64 0)),.one (.v (.int .i64 0)),.one (.v (.int .i64 0))] 42,.cells [.one (.v (.int .i64 1)),.one (.v (.int .i64 0)),.one (.v (.int .i64 0)),.one (.v (.int .i64 0)),.one (.v (.int .i64 0)),.one (.v (.int .i64 0)),.one (.v (.bool false)),.one (.v (.int .i64 0)),.one (.v (.int .u64 0)),.ints (.int .u64) 32 (fun _=>0),.one (.so 12 0 5 0 0 false),.one (.so 13 0 6 0 0 false),.ints (.int .u64) 3 (fun _=>0),.one (.v (.int .i64 0)),.one (.v (.int .i64 0)),.one (.v (.int .i64 0))] 42,.cells [.one (.v (.int .i64 2)),.one (.v (.int .i64 0)),.one (.v (.int .i64 0)),.one (.v (.int .i64 0)),.one (.v (.int .i64 0)),.one (.v (.int .i64 0)),.one (.v (.bool false)),.one (.v (.int .i64 0)),.one (.v (.int .u64 0)),.ints (.int .u64) 32 (fun _=>0),.one (.so 14 0 5 0 0 false),.one (.so 15 0 6 0 0 false),.ints (.int .u64) 3 (fun _=>0),.one (.v (.int .i64 0)),.one (.v (.int .i64 0)),.one (.v (.int .i64 0))] 42,.cells [.one (.v (.int .i64 3)),.one (.v (.int .i64 0)),.one (.v (.int .i64 0)),.one (.v (.int .i64 0)),.one (.v (.int .i64 0)),.one (.v (.int .i64 0)),.one (.v (.bool false)),.one (.v (.int .i64 0)),.one (.v (.int .u64 0)),.ints (.int .u64) 32 (fun _=>0),.one (.so 16 0 5 0 0 false),.one (.so 17 0 6 0 0 false),.ints (.int .u64) 3 (fun _=>0),.one (.v (.int .i64 0)),.one (.v (.int .i64 0)),.one (.v (.int .i64 0))] 42,evB 0 0 (fun _ _=>0),vdB 0 0 (fun _ _=>0),wkA 0 0 (fun _ _=>0),wkD 0 0 (fun _ _=>0),wkA 0 0 (fun _ _=>0),wkD 0 0 (fun _ _=>0),wkA 0 0 (fun _ _=>0),wkD 0 0 (fun _ _=>0),wkA 0 0 (fun _ _=>0),wkD 0 0 (fun _ _=>0)]) (by kernel_rfl) (newS0 k) ⟨QkH k,rfl⟩ (by kernel_rfl) (by kernel_rfl) ?_
 subst hS
 kernel_rfl
theorem QoS:(Con.mem Qhj).holds Tryz.prog 48:=by
 intro w0 S
 refine Qb (Γ:=[(32,.pure Qdw),(33,.mem QdV),(34,.mem Xq),(89,.mem Qie)]) (fun _=>noW) Tryz.func48 rfl (by kernel_rfl) Qg Qc (fun w S' _ _=>.cons (Qov w _) (.cons (Qkh w S') (.cons (XZ w S') (.cons (Qki w S') (.nil _ _ _))))) Qhj (fun s=>[(48,[(0,Qqh s.k)])]) (fun x0 h=>by cases h) (fun s ρ w _ _ _=>Qh w _) [nzE 0,nzVd 0,nzWA 4,nzWD 4,nzWA 5,nzWD 5,nzWA 6,nzWD 6,nzWA 7,nzWD 7] QqE 900 ?_
 rintro⟨k⟩ W ⟨h1,h6⟩ -
 refine⟨rfl,?_⟩
 refine Qi (q:=((1:Int)<=k/\k<=(6:Int))/\∃(s:Unit),([]:List SA)=[]/\eN/\True/\∀(x:Unit),True->(∃(s0:Ann.σ (Qqh k)),(eS (aP 0 0) (aP 0 0)/\eS (aP 3 0) (aP 3 0)/\eS (SA.a [nU 32 (fL (Rec.words (Rec.new k)))]) (SA.a [nU 32 (fL (Rec.words (Rec.new k)))])/\eS (aI 0) (aI ↑s0.1)/\True)/\[SB.cells [sP 1 0,sP 2 0,Seg.one (.v (.pointer none)),Seg.one (.v (.pointer none)),Seg.one (.v (.pointer none)),Seg.one (.v (.pointer none)),nI 4 zF,sI 0,Seg.one (.v (.slice none 0 0)),Seg.one (.v (.slice none 0 0))] 122,SB.cells [nU 16 zF] 85,SB.cells [nU 72 Sto.new.1,nU 72 Sto.new.2,nB 36 Sto.new.3,sI 0,sI 0] 98,SB.cells [nU 32 (fL (Rec.words (Rec.new k)))] 35]=[SB.cells [sP 1 0,sP 2 0,Seg.one (.v (.pointer none)),Seg.one (.v (.pointer none)),Seg.one (.v (.pointer none)),Seg.one (.v (.pointer none)),nI 4 zF,sI 0,Seg.one (.v (.slice none 0 0)),Seg.one (.v (.slice none 0 0))] 122,SB.cells [nU 16 zF] 85,SB.cells [nU 72 (XU k s0.1),nU 72 Sto.new.2,nB 36 Sto.new.3,sI 0,sI 0] 98,SB.cells [nU 32 (fL (Rec.words (Rec.new k)))] 35])/\∀(s:NewG),bif decide ((↑s.1:Int)<(32:Int))then (iR (↑s.1:Int) (32:Int))/\∃(s_1:Xg),[aP 2 0,aI (IntKind.wrap .i64 ((8:Int)+(↑s.1:Int))),aU (fL (Rec.words (Rec.new k)) (Int.toNat (↑s.1:Int)))]=[aP 2 0,aI s_1.2,aU s_1.3]/\[SB.cells [nU 72 (XU k s.1),nU 72 Sto.new.2,nB 36 Sto.new.3,sI 0,sI 0] 98]=[stoB (Xg.s s_1)]/\(iR s_1.2 (72:Int))/\∀(x:Unit),True->∃(s':NewG),((eS (aP 3 0) (aP 3 0)/\eS (aP 0 0) (aP 0 0)/\eS (SA.a [nU 32 (fL (Rec.words (Rec.new k)))]) (SA.a [nU 32 (fL (Rec.words (Rec.new k)))])/\eS (aI (IntKind.wrap .i64 ((↑s.1:Int)+(1:Int)))) (aI ↑s'.1)/\True)/\[SB.cells [sP 1 0,sP 2 0,Seg.one (.v (.pointer none)),Seg.one (.v (.pointer none)),Seg.one (.v (.pointer none)),Seg.one (.v (.pointer none)),nI 4 zF,sI 0,Seg.one (.v (.slice none 0 0)),Seg.one (.v (.slice none 0 0))] 122,SB.cells [nU 16 zF] 85,stoB (Sto.save (Xg.s s_1) (Int.toNat (Xg.a s_1)) (Xg.x s_1)),SB.cells [nU 32 (fL (Rec.words (Rec.new k)))] 35]=[SB.cells [sP 1 0,sP 2 0,Seg.one (.v (.pointer none)),Seg.one (.v (.pointer none)),Seg.one (.v (.pointer none)),Seg.one (.v (.pointer none)),nI 4 zF,sI 0,Seg.one (.v (.slice none 0 0)),Seg.one (.v (.slice none 0 0))] 122,SB.cells [nU 16 zF] 85,SB.cells [nU 72 (XU k s'.1),nU 72 Sto.new.2,nB 36 Sto.new.3,sI 0,sI 0] 98,SB.cells [nU 32 (fL (Rec.words (Rec.new k)))] 35])/\32-s'.1<32-s.1 else ∃(s_1:QaV),[aP 2 0,aI 1]=[aP 2 0,aI ↑s_1.2]/\[SB.cells [nU 72 (XU k s.1),nU 72 Sto.new.2,nB 36 Sto.new.3,sI 0,sI 0] 98]=[stoB (QaV.s s_1)]/\s_1.2<9/\∀(x:Unit),True->∃(s:QaV),[aP 2 0,aI 2]=[aP 2 0,aI ↑s.2]/\[stoB (Sto.evict (QaV.s s_1) (QaV.n s_1))]=[stoB (QaV.s s)]/\s.2<9/\∀(x:Unit),True->∃(s_2:QaV),[aP 2 0,aI 3]=[aP 2 0,aI ↑s_2.2]/\[stoB (Sto.evict (QaV.s s) (QaV.n s))]=[stoB (QaV.s s_2)]/\s_2.2<9/\∀(x:Unit),True->∃(s:QaV),[aP 2 0,aI 4]=[aP 2 0,aI ↑s.2]/\[stoB (Sto.evict (QaV.s s_2) (QaV.n s_2))]=[stoB (QaV.s s)]/\s.2<9/\∀(x:Unit),True->i04/\(iR (1:Int) (4:Int))/\(iR (2:Int) (4:Int))/\(iR (3:Int) (4:Int))/\endN Qhj [nzE 0,nzVd 0,nzWA 4,nzWD 4,nzWA 5,nzWD 5,nzWA 6,nzWD 6,nzWA 7,nzWD 7] QqE (NewS.mk k) (SV.t [aP 0 0,SA.c (.v Value.nilIface)]) [SB.cells [sP 1 0,sP 2 0,sP 4 0,sP 5 0,sP 6 0,sP 7 0,nI 4 zF,sI 0,Seg.one (.v (.slice none 0 0)),Seg.one (.v (.slice none 0 0))] 122,SB.cells [nU 16 zF] 85,stoB (Sto.evict (QaV.s s) (QaV.n s)),SB.cells [nU 32 (fL (Rec.words (Rec.new k)))] 35,SB.cells [sI 0,sI 0,sI 0,sI 0,sI 0,sI 0,sB false,sI 0,sU 0,nU 32 zF,Seg.one (.v (.slice none 0 0)),Seg.one (.v (.slice none 0 0)),nU 3 zF,sI 0,sI 0,sI 0] 42,SB.cells [sI 1,sI 0,sI 0,sI 0,sI 0,sI 0,sB false,sI 0,sU 0,nU 32 zF,Seg.one (.v (.slice none 0 0)),Seg.one (.v (.slice none 0 0)),nU 3 zF,sI 0,sI 0,sI 0] 42,SB.cells [sI 2,sI 0,sI 0,sI 0,sI 0,sI 0,sB false,sI 0,sU 0,nU 32 zF,Seg.one (.v (.slice none 0 0)),Seg.one (.v (.slice none 0 0)),nU 3 zF,sI 0,sI 0,sI 0] 42,SB.cells [sI 3,sI 0,sI 0,sI 0,sI 0,sI 0,sB false,sI 0,sU 0,nU 32 zF,Seg.one (.v (.slice none 0 0)),Seg.one (.v (.slice none 0 0)),nU 3 zF,sI 0,sI 0,sI 0] 42]) (by kernel_rfl) ?_
 have h1:1<=k:=h1
 have h6:k<=6:=h6
 refine⟨⟨h1,h6⟩,(),rfl,rfl,trivial,fun _ _=>⟨⟨⟨0,by decide⟩,⟨rfl,rfl,rfl,rfl,trivial⟩,?_⟩,?_⟩⟩
 · exact congrArg (newM k) (QkS k).symm
 rintro⟨i,hi⟩
 dsimp only at hi ⊢
 refine Qp (fun hlt=>?_) (fun hge=>?_)
 · have ea:IntKind.wrap .i64 (8+(i:Int))=((8+i:Nat):Int):=by rw[QH (by omega) (by omega)];omega
   rw[ea]
   exact⟨⟨by omega,by omega⟩,⟨{ Sto.new with now:=XU k i },((8+i:Nat):Int),fL (Rec.new k).words i⟩,rfl,rfl,⟨(by omega:(0:Int)<=((8+i:Nat):Int)),(by omega:((8+i:Nat):Int)<72)⟩,fun _ _=>⟨⟨i+1,by omega⟩,⟨⟨rfl,rfl,rfl,svI (sucI (by omega)),trivial⟩,congrArg (newM k) (QkT k i)⟩,by dsimp only;omega⟩⟩
 · obtain rfl:i=32:=by omega
   obtain⟨A,hA⟩:∃A:Sto,A={ Sto.new with now:=XU k 32 }:=⟨_,rfl⟩
   exact⟨⟨A,1⟩,rfl,by rw[hA];rfl,(by decide:1<9),fun _ _=>⟨⟨A.evict 1,2⟩,rfl,rfl,(by decide:2<9),fun _ _=>⟨⟨(A.evict 1).evict 2,3⟩,rfl,rfl,(by decide:3<9),fun _ _=>⟨⟨((A.evict 1).evict 2).evict 3,4⟩,rfl,rfl,(by decide:4<9),fun _ _=>⟨⟨by decide,by decide⟩,⟨by decide,by decide⟩,⟨by decide,by decide⟩,⟨by decide,by decide⟩,QoR k (evict4 k hA)⟩⟩⟩⟩⟩
def Qi5:MCon where
 σ:=NewS
 χ:=List Nat
 pre s:=1<=s.k/\s.k<=6
 args s:=[.c (.v (.int .i64 s.k))]
 mem _:=[]
 ok _ _:=True
 val _ _:=.t [.c (.p 0 0),.c (.v .nilIface)]
 mem' s F:=[.abs (QE shM ShS.z ShS.good (Sh.new s.k)) F]
 k:=0
 len:=1
 det:=none
 find _ _:=some []
theorem newH:(Con.mem Qi5).holds Tryz.prog 48:=by
 intro w0 S
 have h:=QoS w0 S
 refine⟨h.1,fun x0 h=>(by cases h),fun ρ s w hp hK HM=>(h.2.2 ρ s w hp hK HM).mono ?_⟩
 rintro e w' ⟨x,ρ',⟨hg,hz⟩,hag,hlen,rfl,HM'⟩
 have HM':Mem w (feet (denM ρ 0 [])) (denM ρ' 0 (shM x)) w':=HM'
 refine⟨feetL (denM ρ' 0 (shM x)),ρ',trivial,fun i hi=>absurd hi (Nat.not_lt_zero _),rfl,rfl,?_⟩
 show Mem w (feet (denM ρ 0 [])) [En.abs (ρ' 0) (QE shM ShS.z ShS.good (Sh.new s.k)) (feetL (denM ρ' 0 (shM x)))] w'
 refine⟨HM'.kept,fun e he=>?_,fun e he g hg=>?_,List.pairwise_singleton _ _⟩
 · obtain rfl:=List.mem_singleton.1 he
   exact⟨x,ρ',hz,hg,rfl,⟨Kept.refl _ _,fun e he=>HM'.holds e he,fun e he g hg=>.inl ⟨e,he,hg⟩,HM'.dist⟩,fun g=>(feetL_iff _ g).symm⟩
 · obtain rfl:=List.mem_singleton.1 he
   obtain⟨e',he',hf'⟩:=(feetL_iff _ g).1 hg
   exact HM'.own e' he' g hf'
end
section
open Go.RowKit
def craC:TCon Sh Int Unit where
 pre z l:=QlG z l
 args l:=[.c (.v (.int .u64 l))]
 ok _ _ _:=True
 next z l _:=z.crash l
 val _ _ _ _:=.t []
 new _ _ _ _:=[]
 len:=0
abbrev Q3:MCon:=craC.low shM ShS.z ShS.good 17 7 Qc9
structure CraG (z:Sh) (l:Int) where
 n:Nat
 mh:Nat
 ch:Nat
 nh:Bool
 zh:Nat->Nat->Int
 hn:n<=z.deeds.length
 hu:upTo (Qs l z.s 0) (z.deeds.take n)=upTo (Qs l z.s 0) z.deeds
 lh:Nat
 hl:lh=z.hist.length+1
 h1:lh<=mh
 h2:mh<=ch
 h:IsE zh (z.hist++[⟨3,0,0,0,0,0,0,0,z.steps+1⟩])
def Qql (s:ShS) (l:Int):Ann where
 σ:=CraG s.z l
 I g:=([(0,.o (.c (.p 0 0))),(4,sv (.int .i64 (Qs l s.z.s 0))),(5,sv (.int .i64 ((g.n:Int)-1)))],
   shX (putF (fun _=>0) 1 (Qs l s.z.s 0)) (s.z.s.crash l) s.z.w s.z.tog (s.z.steps+1) s.r g.lh g.mh g.ch g.nh g.zh g.n s.mv s.cv s.nv s.zv)
 dec g:=g.n
 pi env M:=shAt M 0
 nz:=[]
theorem QlQ {l:List Vd}{n:Nat}(h0:0<n) (hn:n<=l.length):l.take n=l.take (n-1)++[l.getD (n-1) Vd.nil]:=by
 obtain⟨m,rfl⟩:∃m,n=m+1:=⟨n-1,by omega⟩
 rw[Nat.add_sub_cancel,List.take_add_one,List.getElem?_eq_getElem (by omega),Option.toList_some,List.getD_eq_getElem?_getD,List.getElem?_eq_getElem (by omega)];rfl
theorem Qqt {v:Int}{l:List Vd}{d:Vd}(h:v<d.ver):upTo v (l++[d])=upTo v l:=by
 unfold upTo
 rw[List.reverse_append]
 show (List.dropWhile _ (d::l.reverse)).reverse=_
 rw[List.dropWhile_cons_of_pos (by simpa using h)]
theorem Qqs {v:Int}{l:List Vd}{d:Vd}(h:¬v<d.ver):upTo v (l++[d])=l++[d]:=by
 unfold upTo
 rw[List.reverse_append]
 show (List.dropWhile _ (d::l.reverse)).reverse=_
 rw[List.dropWhile_cons_of_neg (by simpa using h),List.reverse_cons,List.reverse_reverse]
def agW (a:Bool) (w:Wk):Wk:=bif a then Wk.call w.th w.k w.key w.x w.tog true else w
def agR (a:Bool) (r:WkR):WkR:=bif a then ⟨0,0,false,fun _ _=>0,0,0,false,fun _ _=>0⟩else r
def agH (a:Bool) (w:Wk):Prop:=if a then w.does≠0 else w.does=0
theorem QeT {a:Bool}{w:Wk}(h:agH a w):w.again=agW a w:=by
 unfold Wk.again
 cases a
 · exact if_pos h
 · exact if_neg h
theorem Qfh {a:Bool}{w:Wk}{r:WkR}(h:(wkS w r).good):(wkS (agW a w) (agR a r)).good:=by
 cases a
 · exact h
 · exact⟨⟨Nat.le_refl _,Nat.le_refl _⟩,fun i hi=>absurd hi (Nat.not_lt_zero _),⟨Nat.le_refl _,Nat.le_refl _⟩,fun i hi=>absurd hi (Nat.not_lt_zero _)⟩
def sel4 {α:Type}(x0 x1 x2 x3:α):Nat->α
 |0=>x0
 |1=>x1
 |2=>x2
 |_=>x3
theorem QB {z:Sh}{r:Nat->WkR}{mh ch:Nat}{nh:Bool}{zh:Nat->Nat->Int}{mv cv:Nat}{nv:Bool}{zv:Nat->Nat->Int}{l:Int}(h0:(⟨z,r,mh,ch,nh,zh,mv,cv,nv,zv⟩:ShS).good)
 {n lh mh' ch':Nat}{nh':Bool}{zh':Nat->Nat->Int}(hn:n<=z.deeds.length) (hz:z.deeds.take n=upTo (Qs l z.s 0) z.deeds) (hl:lh=z.hist.length+1) (g1:lh<=mh') (g2:mh'<=ch') (g3:IsE zh' (z.hist++[⟨3,0,0,0,0,0,0,0,z.steps+1⟩]))
 {a0 a1 a2 a3:Bool}{M:List SB}(hc:(nodB (shAt M 0)&&Qa0 M.length (shAt M 0)&&idB 0 7 (shAt M 0))=true)
 (hM:(shAt M 0).map (getB M)=(shX (putF (fun _=>0) 1 (Qs l z.s 0)) (z.s.crash l) (sel4 (agW a0 (z.w 0)) (agW a1 (z.w 1)) (agW a2 (z.w 2)) (agW a3 (z.w 3))) z.tog (z.steps+1) (sel4 (agR a0 (r 0)) (agR a1 (r 1)) (agR a2 (r 2)) (agR a3 (r 3))) lh mh' ch' nh' zh' n mv cv nv zv).map (SB.ren (ofL (shAt M 0))))
 (e0:agH a0 (z.w 0)) (e1:agH a1 (z.w 1)) (e2:agH a2 (z.w 2)) (e3:agH a3 (z.w 3)):
 endN Q3 [] (fun (x:SV) (M:List SB)=>shAt M 0) (⟨z,r,mh,ch,nh,zh,mv,cv,nv,zv⟩,l) (SV.t []) M:=by
 have hw:=h0.w
 have v1:=h0.v1
 have v2:=h0.v2
 dsimp only at hw v1 v2
 refine Qj rfl ⟨⟨z.crash l,sel4 (agR a0 (r 0)) (agR a1 (r 1)) (agR a2 (r 2)) (agR a3 (r 3)),mh',ch',nh',zh',mv,cv,nv,zv⟩,()⟩ ⟨⟨fun t ht=>?_,?_,g2,g3,?_,v2,?_⟩,rfl,trivial⟩ ?_ rfl ?_
 · rcases (show t=0\/t=1\/t=2\/t=3 by omega)with rfl|rfl|rfl|rfl
   · show (wkS ((z.w 0).again) (agR a0 (r 0))).good
     rw[QeT e0];exact Qfh (hw 0 (by decide))
   · show (wkS ((z.w 1).again) (agR a1 (r 1))).good
     rw[QeT e1];exact Qfh (hw 1 (by decide))
   · show (wkS ((z.w 2).again) (agR a2 (r 2))).good
     rw[QeT e2];exact Qfh (hw 2 (by decide))
   · show (wkS ((z.w 3).again) (agR a3 (r 3))).good
     rw[QeT e3];exact Qfh (hw 3 (by decide))
 · show (z.hist++[_]).length<=mh'
   rw[List.length_append]
   show z.hist.length+1<=mh'
   omega
 · show (upTo (Qs l z.s 0) z.deeds).length<=mv
   rw[<- hz,List.length_take];omega
 · show IsV zv (upTo (Qs l z.s 0) z.deeds)
   rw[<- hz];exact IsR.take h0.v n
 · simp only[Bool.and_eq_true]at hc ⊢
   exact⟨⟨⟨hc,rfl⟩,rfl⟩,rfl⟩
 · refine hM.trans (congrArg (List.map _) ?_)
   show _=shX (putF (fun _=>0) 1 (Qs l z.s 0)) (z.s.crash l) (fun t=>(z.w t).again) z.tog (z.steps+1) (sel4 (agR a0 (r 0)) (agR a1 (r 1)) (agR a2 (r 2)) (agR a3 (r 3))) (z.hist++[_]).length mh' ch' nh' zh' (upTo (Qs l z.s 0) z.deeds).length mv cv nv zv++[]
   rw[<- hz,List.length_take,Nat.min_eq_left hn,List.length_append,List.append_nil,hl]
   dsimp only[shX]
   rw[QeT e0,QeT e1,QeT e2,QeT e3];rfl
theorem Qq6:(Con.mem Q3).holds Tryz.prog 51:=by
 intro w0 S
 refine Qb (Γ:=[(92,.mem (QdW true)),(93,.mem Qfd),(52,.inl Tryz.f52 (Tryz.f52.body.getD .skip)),(15,.mem QN),(63,.mem Xj),(12,.mem (Qbt true))]) (fun _=>noW) Tryz.func51 rfl (by kernel_rfl) Qg Qc (fun w S' _ _=>.cons (QhB w S') (.cons (QnL w S') (.cons ⟨by kernel_rfl,rfl,rfl⟩ (.cons (QO w S') (.cons (Qab w S') (.cons (QnO w S') (.nil _ _ _))))))) Q3 (fun s=>[(51,[(0,Qql s.1 s.2)])]) (fun x0 h=>by cases h) (fun s ρ w _ _ _=>Qh w _) [] (fun _ M=>shAt M 0) 600 ?_
 rintro⟨⟨z,r,mh,ch,nh,zh,mv,cv,nv,zv⟩,l⟩ W ⟨h0,h1⟩ -
 refine⟨rfl,?_⟩
 dsimp only
 refine Qi (q:=dP Tryz.f51 1 17 [⟨11,[17],[15,18],[],true⟩,⟨10,[],[17],[17],false⟩,xE 9,xR 8 0,xF 7 0,xF 6 0,xF 5 0,⟨4,[0],[],[15],false⟩,xF 3 0,xF 2 0,xF 1 0,xF 0 0]/\((List.length z.6<=mh/\ch=ch)/\(1<=1/\1=1)/\List.length z.6+1<=68719476736)/\∀(c:Nat),List.length z.6+1<=c->dP Tryz.f51 1 17 [⟨14,[],[0],[1,2,3,4,5,6,18,16],false⟩,xF 13 0,xF 12 0,⟨11,[17],[15,18],[18],true⟩,⟨10,[],[17],[17],false⟩,xE 9,xR 8 0,xF 7 0,xF 6 0,xF 5 0,⟨4,[0],[],[15],false⟩,xF 3 0,xF 2 0,xF 1 0,xF 0 0]/\∃(s:QbH),[aP 2 0,aU l]=[aP 2 0,aU s.2]/\[stoB (Sh.s z)]=[stoB (QbH.s s)]/\U64 s.2/\∀(x:Unit),True->∃(s_1:Nat->Int),[aP 1 0]=[aP 1 0]/\[ramB z.1]=[ramB s_1]/\True/\∀(x:Unit),True->∃(s_2:QC),[aP 2 0,aI 0]=[aP 2 0,aI s_2.2]/\[stoB (bif true then Sto.crash (QbH.s s) (QbH.l s)else have __src:=crTo s 9;Sto.mk (Sto.now __src) (Sto.good __src) (zF) (Sto.fl __src) (Sto.fe __src))]=[stoB (QC.s s_2)]/\(iR s_2.2 (72:Int))/\∀(x:Unit),True->∃(s:Qa5),[aP 1 0,aI 1,aU (IntKind.wrap .u64 (IntKind.wrap .i64 ((QC.s s_2).1 (Int.toNat s_2.2))))]=[aP 1 0,aI s.2,aU s.3]/\[SB.cells [nU 16 zF] 85]=[ramB s.1]/\(iR s.2 (16:Int))/\∀(x:Unit),True->List.length z.7<=cv/\(∃(s0:Ann.σ (Qql (ShS.mk z r mh ch nh zh mv cv nv zv) l)),(eS (aP 0 0) (aP 0 0)/\eS (aI (IntKind.wrap .i64 ((QC.s s_2).1 (Int.toNat s_2.2)))) (aI (Qs l z.2 0))/\eS (aI (IntKind.wrap .i64 ((↑(List.length z.7):Int)-(1:Int)))) (aI ((↑s0.1:Int)-(1:Int)))/\True)/\(shI (shD z.4 (IntKind.wrap .i64 (z.5+(1:Int))) 18 (List.length z.6+1) c nh 16 (List.length z.7) cv nv) (putF s.1 (Int.toNat s.2) s.3) (QC.s s_2) (stX (Sh.w z) r) (stA r) (stD r) (evB (List.length z.6+1) c fun (i j:Nat)=>bif Nat.ble (i+1) (List.length z.6)then zh i j else match List.get?Internal (match List.get?Internal [[(3:Int),(0:Int),(0:Int),(0:Int),(0:Int),(0:Int),(0:Int),(0:Int),IntKind.wrap .i64 (z.5+(1:Int))]] (0+(i-List.length z.6))with|some x=>x|none=>[]) j with|some x=>x|none=>(0:Int)) (vdB mv cv zv) [])=(shI (shD z.4 (z.5+(1:Int)) 18 s0.8 s0.3 s0.4 16 s0.1 cv nv) (putF (zF) 1 (Qs l z.2 0)) (Sto.crash (Sh.s z) l) (stX (Sh.w z) r) (stA r) (stD r) (evB s0.2 s0.3 s0.5) (vdB mv cv zv) []))/\∀(s:CraG z l),bif decide ((↑s.1:Int)-(1:Int)>=(0:Int))then ((0:Int)<=(↑s.1:Int)-(1:Int)/\(↑s.1:Int)-(1:Int)<(↑s.1:Int)/\0+s.1<=cv)/\0+Int.toNat ((↑s.1:Int)-(1:Int))<mv/\bif decide (zv (0+Int.toNat ((↑s.1:Int)-(1:Int))) 0>IntKind.wrap .u64 (Qs l z.2 0))then ((0:Int)<=(↑s.1:Int)-(1:Int)/\(↑s.1:Int)-(1:Int)<=(↑cv:Int))/\∃(s':CraG z l),((eS (aP 0 0) (aP 0 0)/\eS (aI (Qs l z.2 0)) (aI (Qs l z.2 0))/\eS (aI (IntKind.wrap .i64 ((↑s.1:Int)-(1:Int)-(1:Int)))) (aI ((↑s'.1:Int)-(1:Int)))/\True)/\(shI (shD z.4 (z.5+(1:Int)) 15 s.8 s.3 s.4 16 (Int.toNat ((↑s.1:Int)-(1:Int))) cv nv) (putF (zF) 1 (Qs l z.2 0)) (Sto.crash (Sh.s z) l) (stX (Sh.w z) r) (stA r) (stD r) (evB s.2 s.3 s.5) (vdB mv cv zv) [])=(shI (shD z.4 (z.5+(1:Int)) 15 s'.8 s'.3 s'.4 16 s'.1 cv nv) (putF (zF) 1 (Qs l z.2 0)) (Sto.crash (Sh.s z) l) (stX (Sh.w z) r) (stA r) (stD r) (evB s'.2 s'.3 s'.5) (vdB mv cv zv) []))/\s'.1<s.1 else i04/\bif (Sh.w z 0).2 != (0:Int)then ∃(s_3:Qa),[aP 3 0,SA.a [sI (Sh.w z 0).3,sI (Sh.w z 0).4,sI (Sh.w z 0).5],aI (Sh.w z 0).6,aB true]=[aP 3 0,SA.a [sI s_3.2,sI s_3.3,sI s_3.4],aI s_3.5,aB true]/\[wkR 7 8 (Sh.w z 0) (r 0),waR (r 0),wdR (r 0)]=[wkC 7 8 (WkS.w (Qa.s s_3)) (Qa.s s_3).3 (Qa.s s_3).4 (Qa.s s_3).7 (Qa.s s_3).8,wkA (Qa.s s_3).2 (Qa.s s_3).3 (Qa.s s_3).5,wkD (Qa.s s_3).6 (Qa.s s_3).7 (Qa.s s_3).9]/\True/\∀(x:Unit),True->dP Tryz.f51 14 17 [⟨9,[],[3,7,8,17,18],[17,18],false⟩,xR 8 3,xF 7 3,xF 6 3,xF 5 3,xR 4 3,xF 3 3,xF 2 3,xF 1 3,xF 0 3]/\(iR (1:Int) (4:Int))/\bif (Sh.w z 1).2 != (0:Int)then ∃(s_4:Qa),[aP 4 0,SA.a [sI (Sh.w z 1).3,sI (Sh.w z 1).4,sI (Sh.w z 1).5],aI (Sh.w z 1).6,aB true]=[aP 4 0,SA.a [sI s_4.2,sI s_4.3,sI s_4.4],aI s_4.5,aB true]/\[wkR 9 10 (Sh.w z 1) (r 1),waR (r 1),wdR (r 1)]=[wkC 9 10 (WkS.w (Qa.s s_4)) (Qa.s s_4).3 (Qa.s s_4).4 (Qa.s s_4).7 (Qa.s s_4).8,wkA (Qa.s s_4).2 (Qa.s s_4).3 (Qa.s s_4).5,wkD (Qa.s s_4).6 (Qa.s s_4).7 (Qa.s s_4).9]/\True/\∀(x:Unit),True->dP Tryz.f51 14 19 [⟨9,[],[4,9,10,19,20],[19,20],false⟩,xR 8 4,xF 7 4,xF 6 4,xF 5 4,xR 4 4,xF 3 4,xF 2 4,xF 1 4,xF 0 4]/\(iR (2:Int) (4:Int))/\bif (Sh.w z 2).2 != (0:Int)then ∃(s_5:Qa),[aP 5 0,SA.a [sI (Sh.w z 2).3,sI (Sh.w z 2).4,sI (Sh.w z 2).5],aI (Sh.w z 2).6,aB true]=[aP 5 0,SA.a [sI s_5.2,sI s_5.3,sI s_5.4],aI s_5.5,aB true]/\[wkR 11 12 (Sh.w z 2) (r 2),waR (r 2),wdR (r 2)]=[wkC 11 12 (WkS.w (Qa.s s_5)) (Qa.s s_5).3 (Qa.s s_5).4 (Qa.s s_5).7 (Qa.s s_5).8,wkA (Qa.s s_5).2 (Qa.s s_5).3 (Qa.s s_5).5,wkD (Qa.s s_5).6 (Qa.s s_5).7 (Qa.s s_5).9]/\True/\∀(x:Unit),True->dP Tryz.f51 14 21 [⟨9,[],[5,11,12,21,22],[21,22],false⟩,xR 8 5,xF 7 5,xF 6 5,xF 5 5,xR 4 5,xF 3 5,xF 2 5,xF 1 5,xF 0 5]/\(iR (3:Int) (4:Int))/\bif (Sh.w z 3).2 != (0:Int)then ∃(s_6:Qa),[aP 6 0,SA.a [sI (Sh.w z 3).3,sI (Sh.w z 3).4,sI (Sh.w z 3).5],aI (Sh.w z 3).6,aB true]=[aP 6 0,SA.a [sI s_6.2,sI s_6.3,sI s_6.4],aI s_6.5,aB true]/\[wkR 13 14 (Sh.w z 3) (r 3),waR (r 3),wdR (r 3)]=[wkC 13 14 (WkS.w (Qa.s s_6)) (Qa.s s_6).3 (Qa.s s_6).4 (Qa.s s_6).7 (Qa.s s_6).8,wkA (Qa.s s_6).2 (Qa.s s_6).3 (Qa.s s_6).5,wkD (Qa.s s_6).6 (Qa.s s_6).7 (Qa.s s_6).9]/\True/\∀(x:Unit),True->dP Tryz.f51 14 23 [⟨9,[],[6,13,14,23,24],[23,24],false⟩,xR 8 6,xF 7 6,xF 6 6,xF 5 6,xR 4 6,xF 3 6,xF 2 6,xF 1 6,xF 0 6]/\endN Q3 [] (fun (x:SV) (M:List SB)=>shAt M 0) (ShS.mk z r mh ch nh zh mv cv nv zv,l) (SV.t []) (shI (shD z.4 (z.5+(1:Int)) 15 s.8 s.3 s.4 16 s.1 cv nv) (putF (zF) 1 (Qs l z.2 0)) (Sto.crash (Sh.s z) l) (setF (setF (setF (setF (stX (Sh.w z) r) 0 (wkZ 17 18 (wcA s_3))) 1 (wkZ 19 20 (wcA s_4))) 2 (wkZ 21 22 (wcA s_5))) 3 (wkZ 23 24 (wcA s_6))) (setF (setF (setF (setF (stA r) 0 SB.gone) 1 SB.gone) 2 SB.gone) 3 SB.gone) (setF (setF (setF (setF (stD r) 0 SB.gone) 1 SB.gone) 2 SB.gone) 3 SB.gone) (evB s.2 s.3 s.5) (vdB mv cv zv) [wa0,wd0,wa0,wd0,wa0,wd0,wa0,wd0])else endN Q3 [] (fun (x:SV) (M:List SB)=>shAt M 0) (ShS.mk z r mh ch nh zh mv cv nv zv,l) (SV.t []) (shI (shD z.4 (z.5+(1:Int)) 15 s.8 s.3 s.4 16 s.1 cv nv) (putF (zF) 1 (Qs l z.2 0)) (Sto.crash (Sh.s z) l) (setF (setF (setF (stX (Sh.w z) r) 0 (wkZ 17 18 (wcA s_3))) 1 (wkZ 19 20 (wcA s_4))) 2 (wkZ 21 22 (wcA s_5))) (setF (setF (setF (stA r) 0 SB.gone) 1 SB.gone) 2 SB.gone) (setF (setF (setF (stD r) 0 SB.gone) 1 SB.gone) 2 SB.gone) (evB s.2 s.3 s.5) (vdB mv cv zv) [wa0,wd0,wa0,wd0,wa0,wd0])else (iR (3:Int) (4:Int))/\bif (Sh.w z 3).2 != (0:Int)then ∃(s_5:Qa),[aP 6 0,SA.a [sI (Sh.w z 3).3,sI (Sh.w z 3).4,sI (Sh.w z 3).5],aI (Sh.w z 3).6,aB true]=[aP 6 0,SA.a [sI s_5.2,sI s_5.3,sI s_5.4],aI s_5.5,aB true]/\[wkR 13 14 (Sh.w z 3) (r 3),waR (r 3),wdR (r 3)]=[wkC 13 14 (WkS.w (Qa.s s_5)) (Qa.s s_5).3 (Qa.s s_5).4 (Qa.s s_5).7 (Qa.s s_5).8,wkA (Qa.s s_5).2 (Qa.s s_5).3 (Qa.s s_5).5,wkD (Qa.s s_5).6 (Qa.s s_5).7 (Qa.s s_5).9]/\True/\∀(x:Unit),True->dP Tryz.f51 14 21 [⟨9,[],[6,13,14,21,22],[21,22],false⟩,xR 8 6,xF 7 6,xF 6 6,xF 5 6,xR 4 6,xF 3 6,xF 2 6,xF 1 6,xF 0 6]/\endN Q3 [] (fun (x:SV) (M:List SB)=>shAt M 0) (ShS.mk z r mh ch nh zh mv cv nv zv,l) (SV.t []) (shI (shD z.4 (z.5+(1:Int)) 15 s.8 s.3 s.4 16 s.1 cv nv) (putF (zF) 1 (Qs l z.2 0)) (Sto.crash (Sh.s z) l) (setF (setF (setF (stX (Sh.w z) r) 0 (wkZ 17 18 (wcA s_3))) 1 (wkZ 19 20 (wcA s_4))) 3 (wkZ 21 22 (wcA s_5))) (setF (setF (setF (stA r) 0 SB.gone) 1 SB.gone) 3 SB.gone) (setF (setF (setF (stD r) 0 SB.gone) 1 SB.gone) 3 SB.gone) (evB s.2 s.3 s.5) (vdB mv cv zv) [wa0,wd0,wa0,wd0,wa0,wd0])else endN Q3 [] (fun (x:SV) (M:List SB)=>shAt M 0) (ShS.mk z r mh ch nh zh mv cv nv zv,l) (SV.t []) (shI (shD z.4 (z.5+(1:Int)) 15 s.8 s.3 s.4 16 s.1 cv nv) (putF (zF) 1 (Qs l z.2 0)) (Sto.crash (Sh.s z) l) (setF (setF (stX (Sh.w z) r) 0 (wkZ 17 18 (wcA s_3))) 1 (wkZ 19 20 (wcA s_4))) (setF (setF (stA r) 0 SB.gone) 1 SB.gone) (setF (setF (stD r) 0 SB.gone) 1 SB.gone) (evB s.2 s.3 s.5) (vdB mv cv zv) [wa0,wd0,wa0,wd0])else (iR (2:Int) (4:Int))/\bif (Sh.w z 2).2 != (0:Int)then ∃(s_4:Qa),[aP 5 0,SA.a [sI (Sh.w z 2).3,sI (Sh.w z 2).4,sI (Sh.w z 2).5],aI (Sh.w z 2).6,aB true]=[aP 5 0,SA.a [sI s_4.2,sI s_4.3,sI s_4.4],aI s_4.5,aB true]/\[wkR 11 12 (Sh.w z 2) (r 2),waR (r 2),wdR (r 2)]=[wkC 11 12 (WkS.w (Qa.s s_4)) (Qa.s s_4).3 (Qa.s s_4).4 (Qa.s s_4).7 (Qa.s s_4).8,wkA (Qa.s s_4).2 (Qa.s s_4).3 (Qa.s s_4).5,wkD (Qa.s s_4).6 (Qa.s s_4).7 (Qa.s s_4).9]/\True/\∀(x:Unit),True->dP Tryz.f51 14 19 [⟨9,[],[5,11,12,19,20],[19,20],false⟩,xR 8 5,xF 7 5,xF 6 5,xF 5 5,xR 4 5,xF 3 5,xF 2 5,xF 1 5,xF 0 5]/\(iR (3:Int) (4:Int))/\bif (Sh.w z 3).2 != (0:Int)then ∃(s_5:Qa),[aP 6 0,SA.a [sI (Sh.w z 3).3,sI (Sh.w z 3).4,sI (Sh.w z 3).5],aI (Sh.w z 3).6,aB true]=[aP 6 0,SA.a [sI s_5.2,sI s_5.3,sI s_5.4],aI s_5.5,aB true]/\[wkR 13 14 (Sh.w z 3) (r 3),waR (r 3),wdR (r 3)]=[wkC 13 14 (WkS.w (Qa.s s_5)) (Qa.s s_5).3 (Qa.s s_5).4 (Qa.s s_5).7 (Qa.s s_5).8,wkA (Qa.s s_5).2 (Qa.s s_5).3 (Qa.s s_5).5,wkD (Qa.s s_5).6 (Qa.s s_5).7 (Qa.s s_5).9]/\True/\∀(x:Unit),True->dP Tryz.f51 14 21 [⟨9,[],[6,13,14,21,22],[21,22],false⟩,xR 8 6,xF 7 6,xF 6 6,xF 5 6,xR 4 6,xF 3 6,xF 2 6,xF 1 6,xF 0 6]/\endN Q3 [] (fun (x:SV) (M:List SB)=>shAt M 0) (ShS.mk z r mh ch nh zh mv cv nv zv,l) (SV.t []) (shI (shD z.4 (z.5+(1:Int)) 15 s.8 s.3 s.4 16 s.1 cv nv) (putF (zF) 1 (Qs l z.2 0)) (Sto.crash (Sh.s z) l) (setF (setF (setF (stX (Sh.w z) r) 0 (wkZ 17 18 (wcA s_3))) 2 (wkZ 19 20 (wcA s_4))) 3 (wkZ 21 22 (wcA s_5))) (setF (setF (setF (stA r) 0 SB.gone) 2 SB.gone) 3 SB.gone) (setF (setF (setF (stD r) 0 SB.gone) 2 SB.gone) 3 SB.gone) (evB s.2 s.3 s.5) (vdB mv cv zv) [wa0,wd0,wa0,wd0,wa0,wd0])else endN Q3 [] (fun (x:SV) (M:List SB)=>shAt M 0) (ShS.mk z r mh ch nh zh mv cv nv zv,l) (SV.t []) (shI (shD z.4 (z.5+(1:Int)) 15 s.8 s.3 s.4 16 s.1 cv nv) (putF (zF) 1 (Qs l z.2 0)) (Sto.crash (Sh.s z) l) (setF (setF (stX (Sh.w z) r) 0 (wkZ 17 18 (wcA s_3))) 2 (wkZ 19 20 (wcA s_4))) (setF (setF (stA r) 0 SB.gone) 2 SB.gone) (setF (setF (stD r) 0 SB.gone) 2 SB.gone) (evB s.2 s.3 s.5) (vdB mv cv zv) [wa0,wd0,wa0,wd0])else (iR (3:Int) (4:Int))/\bif (Sh.w z 3).2 != (0:Int)then ∃(s_4:Qa),[aP 6 0,SA.a [sI (Sh.w z 3).3,sI (Sh.w z 3).4,sI (Sh.w z 3).5],aI (Sh.w z 3).6,aB true]=[aP 6 0,SA.a [sI s_4.2,sI s_4.3,sI s_4.4],aI s_4.5,aB true]/\[wkR 13 14 (Sh.w z 3) (r 3),waR (r 3),wdR (r 3)]=[wkC 13 14 (WkS.w (Qa.s s_4)) (Qa.s s_4).3 (Qa.s s_4).4 (Qa.s s_4).7 (Qa.s s_4).8,wkA (Qa.s s_4).2 (Qa.s s_4).3 (Qa.s s_4).5,wkD (Qa.s s_4).6 (Qa.s s_4).7 (Qa.s s_4).9]/\True/\∀(x:Unit),True->dP Tryz.f51 14 19 [⟨9,[],[6,13,14,19,20],[19,20],false⟩,xR 8 6,xF 7 6,xF 6 6,xF 5 6,xR 4 6,xF 3 6,xF 2 6,xF 1 6,xF 0 6]/\endN Q3 [] (fun (x:SV) (M:List SB)=>shAt M 0) (ShS.mk z r mh ch nh zh mv cv nv zv,l) (SV.t []) (shI (shD z.4 (z.5+(1:Int)) 15 s.8 s.3 s.4 16 s.1 cv nv) (putF (zF) 1 (Qs l z.2 0)) (Sto.crash (Sh.s z) l) (setF (setF (stX (Sh.w z) r) 0 (wkZ 17 18 (wcA s_3))) 3 (wkZ 19 20 (wcA s_4))) (setF (setF (stA r) 0 SB.gone) 3 SB.gone) (setF (setF (stD r) 0 SB.gone) 3 SB.gone) (evB s.2 s.3 s.5) (vdB mv cv zv) [wa0,wd0,wa0,wd0])else endN Q3 [] (fun (x:SV) (M:List SB)=>shAt M 0) (ShS.mk z r mh ch nh zh mv cv nv zv,l) (SV.t []) (shI (shD z.4 (z.5+(1:Int)) 15 s.8 s.3 s.4 16 s.1 cv nv) (putF (zF) 1 (Qs l z.2 0)) (Sto.crash (Sh.s z) l) (setF (stX (Sh.w z) r) 0 (wkZ 17 18 (wcA s_3))) (setF (stA r) 0 SB.gone) (setF (stD r) 0 SB.gone) (evB s.2 s.3 s.5) (vdB mv cv zv) [wa0,wd0])else (iR (1:Int) (4:Int))/\bif (Sh.w z 1).2 != (0:Int)then ∃(s_3:Qa),[aP 4 0,SA.a [sI (Sh.w z 1).3,sI (Sh.w z 1).4,sI (Sh.w z 1).5],aI (Sh.w z 1).6,aB true]=[aP 4 0,SA.a [sI s_3.2,sI s_3.3,sI s_3.4],aI s_3.5,aB true]/\[wkR 9 10 (Sh.w z 1) (r 1),waR (r 1),wdR (r 1)]=[wkC 9 10 (WkS.w (Qa.s s_3)) (Qa.s s_3).3 (Qa.s s_3).4 (Qa.s s_3).7 (Qa.s s_3).8,wkA (Qa.s s_3).2 (Qa.s s_3).3 (Qa.s s_3).5,wkD (Qa.s s_3).6 (Qa.s s_3).7 (Qa.s s_3).9]/\True/\∀(x:Unit),True->dP Tryz.f51 14 17 [⟨9,[],[4,9,10,17,18],[17,18],false⟩,xR 8 4,xF 7 4,xF 6 4,xF 5 4,xR 4 4,xF 3 4,xF 2 4,xF 1 4,xF 0 4]/\(iR (2:Int) (4:Int))/\bif (Sh.w z 2).2 != (0:Int)then ∃(s_4:Qa),[aP 5 0,SA.a [sI (Sh.w z 2).3,sI (Sh.w z 2).4,sI (Sh.w z 2).5],aI (Sh.w z 2).6,aB true]=[aP 5 0,SA.a [sI s_4.2,sI s_4.3,sI s_4.4],aI s_4.5,aB true]/\[wkR 11 12 (Sh.w z 2) (r 2),waR (r 2),wdR (r 2)]=[wkC 11 12 (WkS.w (Qa.s s_4)) (Qa.s s_4).3 (Qa.s s_4).4 (Qa.s s_4).7 (Qa.s s_4).8,wkA (Qa.s s_4).2 (Qa.s s_4).3 (Qa.s s_4).5,wkD (Qa.s s_4).6 (Qa.s s_4).7 (Qa.s s_4).9]/\True/\∀(x:Unit),True->dP Tryz.f51 14 19 [⟨9,[],[5,11,12,19,20],[19,20],false⟩,xR 8 5,xF 7 5,xF 6 5,xF 5 5,xR 4 5,xF 3 5,xF 2 5,xF 1 5,xF 0 5]/\(iR (3:Int) (4:Int))/\bif (Sh.w z 3).2 != (0:Int)then ∃(s_5:Qa),[aP 6 0,SA.a [sI (Sh.w z 3).3,sI (Sh.w z 3).4,sI (Sh.w z 3).5],aI (Sh.w z 3).6,aB true]=[aP 6 0,SA.a [sI s_5.2,sI s_5.3,sI s_5.4],aI s_5.5,aB true]/\[wkR 13 14 (Sh.w z 3) (r 3),waR (r 3),wdR (r 3)]=[wkC 13 14 (WkS.w (Qa.s s_5)) (Qa.s s_5).3 (Qa.s s_5).4 (Qa.s s_5).7 (Qa.s s_5).8,wkA (Qa.s s_5).2 (Qa.s s_5).3 (Qa.s s_5).5,wkD (Qa.s s_5).6 (Qa.s s_5).7 (Qa.s s_5).9]/\True/\∀(x:Unit),True->dP Tryz.f51 14 21 [⟨9,[],[6,13,14,21,22],[21,22],false⟩,xR 8 6,xF 7 6,xF 6 6,xF 5 6,xR 4 6,xF 3 6,xF 2 6,xF 1 6,xF 0 6]/\endN Q3 [] (fun (x:SV) (M:List SB)=>shAt M 0) (ShS.mk z r mh ch nh zh mv cv nv zv,l) (SV.t []) (shI (shD z.4 (z.5+(1:Int)) 15 s.8 s.3 s.4 16 s.1 cv nv) (putF (zF) 1 (Qs l z.2 0)) (Sto.crash (Sh.s z) l) (setF (setF (setF (stX (Sh.w z) r) 1 (wkZ 17 18 (wcA s_3))) 2 (wkZ 19 20 (wcA s_4))) 3 (wkZ 21 22 (wcA s_5))) (setF (setF (setF (stA r) 1 SB.gone) 2 SB.gone) 3 SB.gone) (setF (setF (setF (stD r) 1 SB.gone) 2 SB.gone) 3 SB.gone) (evB s.2 s.3 s.5) (vdB mv cv zv) [wa0,wd0,wa0,wd0,wa0,wd0])else endN Q3 [] (fun (x:SV) (M:List SB)=>shAt M 0) (ShS.mk z r mh ch nh zh mv cv nv zv,l) (SV.t []) (shI (shD z.4 (z.5+(1:Int)) 15 s.8 s.3 s.4 16 s.1 cv nv) (putF (zF) 1 (Qs l z.2 0)) (Sto.crash (Sh.s z) l) (setF (setF (stX (Sh.w z) r) 1 (wkZ 17 18 (wcA s_3))) 2 (wkZ 19 20 (wcA s_4))) (setF (setF (stA r) 1 SB.gone) 2 SB.gone) (setF (setF (stD r) 1 SB.gone) 2 SB.gone) (evB s.2 s.3 s.5) (vdB mv cv zv) [wa0,wd0,wa0,wd0])else (iR (3:Int) (4:Int))/\bif (Sh.w z 3).2 != (0:Int)then ∃(s_4:Qa),[aP 6 0,SA.a [sI (Sh.w z 3).3,sI (Sh.w z 3).4,sI (Sh.w z 3).5],aI (Sh.w z 3).6,aB true]=[aP 6 0,SA.a [sI s_4.2,sI s_4.3,sI s_4.4],aI s_4.5,aB true]/\[wkR 13 14 (Sh.w z 3) (r 3),waR (r 3),wdR (r 3)]=[wkC 13 14 (WkS.w (Qa.s s_4)) (Qa.s s_4).3 (Qa.s s_4).4 (Qa.s s_4).7 (Qa.s s_4).8,wkA (Qa.s s_4).2 (Qa.s s_4).3 (Qa.s s_4).5,wkD (Qa.s s_4).6 (Qa.s s_4).7 (Qa.s s_4).9]/\True/\∀(x:Unit),True->dP Tryz.f51 14 19 [⟨9,[],[6,13,14,19,20],[19,20],false⟩,xR 8 6,xF 7 6,xF 6 6,xF 5 6,xR 4 6,xF 3 6,xF 2 6,xF 1 6,xF 0 6]/\endN Q3 [] (fun (x:SV) (M:List SB)=>shAt M 0) (ShS.mk z r mh ch nh zh mv cv nv zv,l) (SV.t []) (shI (shD z.4 (z.5+(1:Int)) 15 s.8 s.3 s.4 16 s.1 cv nv) (putF (zF) 1 (Qs l z.2 0)) (Sto.crash (Sh.s z) l) (setF (setF (stX (Sh.w z) r) 1 (wkZ 17 18 (wcA s_3))) 3 (wkZ 19 20 (wcA s_4))) (setF (setF (stA r) 1 SB.gone) 3 SB.gone) (setF (setF (stD r) 1 SB.gone) 3 SB.gone) (evB s.2 s.3 s.5) (vdB mv cv zv) [wa0,wd0,wa0,wd0])else endN Q3 [] (fun (x:SV) (M:List SB)=>shAt M 0) (ShS.mk z r mh ch nh zh mv cv nv zv,l) (SV.t []) (shI (shD z.4 (z.5+(1:Int)) 15 s.8 s.3 s.4 16 s.1 cv nv) (putF (zF) 1 (Qs l z.2 0)) (Sto.crash (Sh.s z) l) (setF (stX (Sh.w z) r) 1 (wkZ 17 18 (wcA s_3))) (setF (stA r) 1 SB.gone) (setF (stD r) 1 SB.gone) (evB s.2 s.3 s.5) (vdB mv cv zv) [wa0,wd0])else (iR (2:Int) (4:Int))/\bif (Sh.w z 2).2 != (0:Int)then ∃(s_3:Qa),[aP 5 0,SA.a [sI (Sh.w z 2).3,sI (Sh.w z 2).4,sI (Sh.w z 2).5],aI (Sh.w z 2).6,aB true]=[aP 5 0,SA.a [sI s_3.2,sI s_3.3,sI s_3.4],aI s_3.5,aB true]/\[wkR 11 12 (Sh.w z 2) (r 2),waR (r 2),wdR (r 2)]=[wkC 11 12 (WkS.w (Qa.s s_3)) (Qa.s s_3).3 (Qa.s s_3).4 (Qa.s s_3).7 (Qa.s s_3).8,wkA (Qa.s s_3).2 (Qa.s s_3).3 (Qa.s s_3).5,wkD (Qa.s s_3).6 (Qa.s s_3).7 (Qa.s s_3).9]/\True/\∀(x:Unit),True->dP Tryz.f51 14 17 [⟨9,[],[5,11,12,17,18],[17,18],false⟩,xR 8 5,xF 7 5,xF 6 5,xF 5 5,xR 4 5,xF 3 5,xF 2 5,xF 1 5,xF 0 5]/\(iR (3:Int) (4:Int))/\bif (Sh.w z 3).2 != (0:Int)then ∃(s_4:Qa),[aP 6 0,SA.a [sI (Sh.w z 3).3,sI (Sh.w z 3).4,sI (Sh.w z 3).5],aI (Sh.w z 3).6,aB true]=[aP 6 0,SA.a [sI s_4.2,sI s_4.3,sI s_4.4],aI s_4.5,aB true]/\[wkR 13 14 (Sh.w z 3) (r 3),waR (r 3),wdR (r 3)]=[wkC 13 14 (WkS.w (Qa.s s_4)) (Qa.s s_4).3 (Qa.s s_4).4 (Qa.s s_4).7 (Qa.s s_4).8,wkA (Qa.s s_4).2 (Qa.s s_4).3 (Qa.s s_4).5,wkD (Qa.s s_4).6 (Qa.s s_4).7 (Qa.s s_4).9]/\True/\∀(x:Unit),True->dP Tryz.f51 14 19 [⟨9,[],[6,13,14,19,20],[19,20],false⟩,xR 8 6,xF 7 6,xF 6 6,xF 5 6,xR 4 6,xF 3 6,xF 2 6,xF 1 6,xF 0 6]/\endN Q3 [] (fun (x:SV) (M:List SB)=>shAt M 0) (ShS.mk z r mh ch nh zh mv cv nv zv,l) (SV.t []) (shI (shD z.4 (z.5+(1:Int)) 15 s.8 s.3 s.4 16 s.1 cv nv) (putF (zF) 1 (Qs l z.2 0)) (Sto.crash (Sh.s z) l) (setF (setF (stX (Sh.w z) r) 2 (wkZ 17 18 (wcA s_3))) 3 (wkZ 19 20 (wcA s_4))) (setF (setF (stA r) 2 SB.gone) 3 SB.gone) (setF (setF (stD r) 2 SB.gone) 3 SB.gone) (evB s.2 s.3 s.5) (vdB mv cv zv) [wa0,wd0,wa0,wd0])else endN Q3 [] (fun (x:SV) (M:List SB)=>shAt M 0) (ShS.mk z r mh ch nh zh mv cv nv zv,l) (SV.t []) (shI (shD z.4 (z.5+(1:Int)) 15 s.8 s.3 s.4 16 s.1 cv nv) (putF (zF) 1 (Qs l z.2 0)) (Sto.crash (Sh.s z) l) (setF (stX (Sh.w z) r) 2 (wkZ 17 18 (wcA s_3))) (setF (stA r) 2 SB.gone) (setF (stD r) 2 SB.gone) (evB s.2 s.3 s.5) (vdB mv cv zv) [wa0,wd0])else (iR (3:Int) (4:Int))/\bif (Sh.w z 3).2 != (0:Int)then ∃(s_3:Qa),[aP 6 0,SA.a [sI (Sh.w z 3).3,sI (Sh.w z 3).4,sI (Sh.w z 3).5],aI (Sh.w z 3).6,aB true]=[aP 6 0,SA.a [sI s_3.2,sI s_3.3,sI s_3.4],aI s_3.5,aB true]/\[wkR 13 14 (Sh.w z 3) (r 3),waR (r 3),wdR (r 3)]=[wkC 13 14 (WkS.w (Qa.s s_3)) (Qa.s s_3).3 (Qa.s s_3).4 (Qa.s s_3).7 (Qa.s s_3).8,wkA (Qa.s s_3).2 (Qa.s s_3).3 (Qa.s s_3).5,wkD (Qa.s s_3).6 (Qa.s s_3).7 (Qa.s s_3).9]/\True/\∀(x:Unit),True->dP Tryz.f51 14 17 [⟨9,[],[6,13,14,17,18],[17,18],false⟩,xR 8 6,xF 7 6,xF 6 6,xF 5 6,xR 4 6,xF 3 6,xF 2 6,xF 1 6,xF 0 6]/\endN Q3 [] (fun (x:SV) (M:List SB)=>shAt M 0) (ShS.mk z r mh ch nh zh mv cv nv zv,l) (SV.t []) (shI (shD z.4 (z.5+(1:Int)) 15 s.8 s.3 s.4 16 s.1 cv nv) (putF (zF) 1 (Qs l z.2 0)) (Sto.crash (Sh.s z) l) (setF (stX (Sh.w z) r) 3 (wkZ 17 18 (wcA s_3))) (setF (stA r) 3 SB.gone) (setF (stD r) 3 SB.gone) (evB s.2 s.3 s.5) (vdB mv cv zv) [wa0,wd0])else endN Q3 [] (fun (x:SV) (M:List SB)=>shAt M 0) (ShS.mk z r mh ch nh zh mv cv nv zv,l) (SV.t []) (shI (shD z.4 (z.5+(1:Int)) 15 s.8 s.3 s.4 16 s.1 cv nv) (putF (zF) 1 (Qs l z.2 0)) (Sto.crash (Sh.s z) l) (stX (Sh.w z) r) (stA r) (stD r) (evB s.2 s.3 s.5) (vdB mv cv zv) [])else i04/\bif (Sh.w z 0).2 != (0:Int)then ∃(s_3:Qa),[aP 3 0,SA.a [sI (Sh.w z 0).3,sI (Sh.w z 0).4,sI (Sh.w z 0).5],aI (Sh.w z 0).6,aB true]=[aP 3 0,SA.a [sI s_3.2,sI s_3.3,sI s_3.4],aI s_3.5,aB true]/\[wkR 7 8 (Sh.w z 0) (r 0),waR (r 0),wdR (r 0)]=[wkC 7 8 (WkS.w (Qa.s s_3)) (Qa.s s_3).3 (Qa.s s_3).4 (Qa.s s_3).7 (Qa.s s_3).8,wkA (Qa.s s_3).2 (Qa.s s_3).3 (Qa.s s_3).5,wkD (Qa.s s_3).6 (Qa.s s_3).7 (Qa.s s_3).9]/\True/\∀(x:Unit),True->dP Tryz.f51 14 17 [⟨9,[],[3,7,8,17,18],[17,18],false⟩,xR 8 3,xF 7 3,xF 6 3,xF 5 3,xR 4 3,xF 3 3,xF 2 3,xF 1 3,xF 0 3]/\(iR (1:Int) (4:Int))/\bif (Sh.w z 1).2 != (0:Int)then ∃(s_4:Qa),[aP 4 0,SA.a [sI (Sh.w z 1).3,sI (Sh.w z 1).4,sI (Sh.w z 1).5],aI (Sh.w z 1).6,aB true]=[aP 4 0,SA.a [sI s_4.2,sI s_4.3,sI s_4.4],aI s_4.5,aB true]/\[wkR 9 10 (Sh.w z 1) (r 1),waR (r 1),wdR (r 1)]=[wkC 9 10 (WkS.w (Qa.s s_4)) (Qa.s s_4).3 (Qa.s s_4).4 (Qa.s s_4).7 (Qa.s s_4).8,wkA (Qa.s s_4).2 (Qa.s s_4).3 (Qa.s s_4).5,wkD (Qa.s s_4).6 (Qa.s s_4).7 (Qa.s s_4).9]/\True/\∀(x:Unit),True->dP Tryz.f51 14 19 [⟨9,[],[4,9,10,19,20],[19,20],false⟩,xR 8 4,xF 7 4,xF 6 4,xF 5 4,xR 4 4,xF 3 4,xF 2 4,xF 1 4,xF 0 4]/\(iR (2:Int) (4:Int))/\bif (Sh.w z 2).2 != (0:Int)then ∃(s_5:Qa),[aP 5 0,SA.a [sI (Sh.w z 2).3,sI (Sh.w z 2).4,sI (Sh.w z 2).5],aI (Sh.w z 2).6,aB true]=[aP 5 0,SA.a [sI s_5.2,sI s_5.3,sI s_5.4],aI s_5.5,aB true]/\[wkR 11 12 (Sh.w z 2) (r 2),waR (r 2),wdR (r 2)]=[wkC 11 12 (WkS.w (Qa.s s_5)) (Qa.s s_5).3 (Qa.s s_5).4 (Qa.s s_5).7 (Qa.s s_5).8,wkA (Qa.s s_5).2 (Qa.s s_5).3 (Qa.s s_5).5,wkD (Qa.s s_5).6 (Qa.s s_5).7 (Qa.s s_5).9]/\True/\∀(x:Unit),True->dP Tryz.f51 14 21 [⟨9,[],[5,11,12,21,22],[21,22],false⟩,xR 8 5,xF 7 5,xF 6 5,xF 5 5,xR 4 5,xF 3 5,xF 2 5,xF 1 5,xF 0 5]/\(iR (3:Int) (4:Int))/\bif (Sh.w z 3).2 != (0:Int)then ∃(s_6:Qa),[aP 6 0,SA.a [sI (Sh.w z 3).3,sI (Sh.w z 3).4,sI (Sh.w z 3).5],aI (Sh.w z 3).6,aB true]=[aP 6 0,SA.a [sI s_6.2,sI s_6.3,sI s_6.4],aI s_6.5,aB true]/\[wkR 13 14 (Sh.w z 3) (r 3),waR (r 3),wdR (r 3)]=[wkC 13 14 (WkS.w (Qa.s s_6)) (Qa.s s_6).3 (Qa.s s_6).4 (Qa.s s_6).7 (Qa.s s_6).8,wkA (Qa.s s_6).2 (Qa.s s_6).3 (Qa.s s_6).5,wkD (Qa.s s_6).6 (Qa.s s_6).7 (Qa.s s_6).9]/\True/\∀(x:Unit),True->dP Tryz.f51 14 23 [⟨9,[],[6,13,14,23,24],[23,24],false⟩,xR 8 6,xF 7 6,xF 6 6,xF 5 6,xR 4 6,xF 3 6,xF 2 6,xF 1 6,xF 0 6]/\endN Q3 [] (fun (x:SV) (M:List SB)=>shAt M 0) (ShS.mk z r mh ch nh zh mv cv nv zv,l) (SV.t []) (shI (shD z.4 (z.5+(1:Int)) 15 s.8 s.3 s.4 16 s.1 cv nv) (putF (zF) 1 (Qs l z.2 0)) (Sto.crash (Sh.s z) l) (setF (setF (setF (setF (stX (Sh.w z) r) 0 (wkZ 17 18 (wcA s_3))) 1 (wkZ 19 20 (wcA s_4))) 2 (wkZ 21 22 (wcA s_5))) 3 (wkZ 23 24 (wcA s_6))) (setF (setF (setF (setF (stA r) 0 SB.gone) 1 SB.gone) 2 SB.gone) 3 SB.gone) (setF (setF (setF (setF (stD r) 0 SB.gone) 1 SB.gone) 2 SB.gone) 3 SB.gone) (evB s.2 s.3 s.5) (vdB mv cv zv) [wa0,wd0,wa0,wd0,wa0,wd0,wa0,wd0])else endN Q3 [] (fun (x:SV) (M:List SB)=>shAt M 0) (ShS.mk z r mh ch nh zh mv cv nv zv,l) (SV.t []) (shI (shD z.4 (z.5+(1:Int)) 15 s.8 s.3 s.4 16 s.1 cv nv) (putF (zF) 1 (Qs l z.2 0)) (Sto.crash (Sh.s z) l) (setF (setF (setF (stX (Sh.w z) r) 0 (wkZ 17 18 (wcA s_3))) 1 (wkZ 19 20 (wcA s_4))) 2 (wkZ 21 22 (wcA s_5))) (setF (setF (setF (stA r) 0 SB.gone) 1 SB.gone) 2 SB.gone) (setF (setF (setF (stD r) 0 SB.gone) 1 SB.gone) 2 SB.gone) (evB s.2 s.3 s.5) (vdB mv cv zv) [wa0,wd0,wa0,wd0,wa0,wd0])else (iR (3:Int) (4:Int))/\bif (Sh.w z 3).2 != (0:Int)then ∃(s_5:Qa),[aP 6 0,SA.a [sI (Sh.w z 3).3,sI (Sh.w z 3).4,sI (Sh.w z 3).5],aI (Sh.w z 3).6,aB true]=[aP 6 0,SA.a [sI s_5.2,sI s_5.3,sI s_5.4],aI s_5.5,aB true]/\[wkR 13 14 (Sh.w z 3) (r 3),waR (r 3),wdR (r 3)]=[wkC 13 14 (WkS.w (Qa.s s_5)) (Qa.s s_5).3 (Qa.s s_5).4 (Qa.s s_5).7 (Qa.s s_5).8,wkA (Qa.s s_5).2 (Qa.s s_5).3 (Qa.s s_5).5,wkD (Qa.s s_5).6 (Qa.s s_5).7 (Qa.s s_5).9]/\True/\∀(x:Unit),True->dP Tryz.f51 14 21 [⟨9,[],[6,13,14,21,22],[21,22],false⟩,xR 8 6,xF 7 6,xF 6 6,xF 5 6,xR 4 6,xF 3 6,xF 2 6,xF 1 6,xF 0 6]/\endN Q3 [] (fun (x:SV) (M:List SB)=>shAt M 0) (ShS.mk z r mh ch nh zh mv cv nv zv,l) (SV.t []) (shI (shD z.4 (z.5+(1:Int)) 15 s.8 s.3 s.4 16 s.1 cv nv) (putF (zF) 1 (Qs l z.2 0)) (Sto.crash (Sh.s z) l) (setF (setF (setF (stX (Sh.w z) r) 0 (wkZ 17 18 (wcA s_3))) 1 (wkZ 19 20 (wcA s_4))) 3 (wkZ 21 22 (wcA s_5))) (setF (setF (setF (stA r) 0 SB.gone) 1 SB.gone) 3 SB.gone) (setF (setF (setF (stD r) 0 SB.gone) 1 SB.gone) 3 SB.gone) (evB s.2 s.3 s.5) (vdB mv cv zv) [wa0,wd0,wa0,wd0,wa0,wd0])else endN Q3 [] (fun (x:SV) (M:List SB)=>shAt M 0) (ShS.mk z r mh ch nh zh mv cv nv zv,l) (SV.t []) (shI (shD z.4 (z.5+(1:Int)) 15 s.8 s.3 s.4 16 s.1 cv nv) (putF (zF) 1 (Qs l z.2 0)) (Sto.crash (Sh.s z) l) (setF (setF (stX (Sh.w z) r) 0 (wkZ 17 18 (wcA s_3))) 1 (wkZ 19 20 (wcA s_4))) (setF (setF (stA r) 0 SB.gone) 1 SB.gone) (setF (setF (stD r) 0 SB.gone) 1 SB.gone) (evB s.2 s.3 s.5) (vdB mv cv zv) [wa0,wd0,wa0,wd0])else (iR (2:Int) (4:Int))/\bif (Sh.w z 2).2 != (0:Int)then ∃(s_4:Qa),[aP 5 0,SA.a [sI (Sh.w z 2).3,sI (Sh.w z 2).4,sI (Sh.w z 2).5],aI (Sh.w z 2).6,aB true]=[aP 5 0,SA.a [sI s_4.2,sI s_4.3,sI s_4.4],aI s_4.5,aB true]/\[wkR 11 12 (Sh.w z 2) (r 2),waR (r 2),wdR (r 2)]=[wkC 11 12 (WkS.w (Qa.s s_4)) (Qa.s s_4).3 (Qa.s s_4).4 (Qa.s s_4).7 (Qa.s s_4).8,wkA (Qa.s s_4).2 (Qa.s s_4).3 (Qa.s s_4).5,wkD (Qa.s s_4).6 (Qa.s s_4).7 (Qa.s s_4).9]/\True/\∀(x:Unit),True->dP Tryz.f51 14 19 [⟨9,[],[5,11,12,19,20],[19,20],false⟩,xR 8 5,xF 7 5,xF 6 5,xF 5 5,xR 4 5,xF 3 5,xF 2 5,xF 1 5,xF 0 5]/\(iR (3:Int) (4:Int))/\bif (Sh.w z 3).2 != (0:Int)then ∃(s_5:Qa),[aP 6 0,SA.a [sI (Sh.w z 3).3,sI (Sh.w z 3).4,sI (Sh.w z 3).5],aI (Sh.w z 3).6,aB true]=[aP 6 0,SA.a [sI s_5.2,sI s_5.3,sI s_5.4],aI s_5.5,aB true]/\[wkR 13 14 (Sh.w z 3) (r 3),waR (r 3),wdR (r 3)]=[wkC 13 14 (WkS.w (Qa.s s_5)) (Qa.s s_5).3 (Qa.s s_5).4 (Qa.s s_5).7 (Qa.s s_5).8,wkA (Qa.s s_5).2 (Qa.s s_5).3 (Qa.s s_5).5,wkD (Qa.s s_5).6 (Qa.s s_5).7 (Qa.s s_5).9]/\True/\∀(x:Unit),True->dP Tryz.f51 14 21 [⟨9,[],[6,13,14,21,22],[21,22],false⟩,xR 8 6,xF 7 6,xF 6 6,xF 5 6,xR 4 6,xF 3 6,xF 2 6,xF 1 6,xF 0 6]/\endN Q3 [] (fun (x:SV) (M:List SB)=>shAt M 0) (ShS.mk z r mh ch nh zh mv cv nv zv,l) (SV.t []) (shI (shD z.4 (z.5+(1:Int)) 15 s.8 s.3 s.4 16 s.1 cv nv) (putF (zF) 1 (Qs l z.2 0)) (Sto.crash (Sh.s z) l) (setF (setF (setF (stX (Sh.w z) r) 0 (wkZ 17 18 (wcA s_3))) 2 (wkZ 19 20 (wcA s_4))) 3 (wkZ 21 22 (wcA s_5))) (setF (setF (setF (stA r) 0 SB.gone) 2 SB.gone) 3 SB.gone) (setF (setF (setF (stD r) 0 SB.gone) 2 SB.gone) 3 SB.gone) (evB s.2 s.3 s.5) (vdB mv cv zv) [wa0,wd0,wa0,wd0,wa0,wd0])else endN Q3 [] (fun (x:SV) (M:List SB)=>shAt M 0) (ShS.mk z r mh ch nh zh mv cv nv zv,l) (SV.t []) (shI (shD z.4 (z.5+(1:Int)) 15 s.8 s.3 s.4 16 s.1 cv nv) (putF (zF) 1 (Qs l z.2 0)) (Sto.crash (Sh.s z) l) (setF (setF (stX (Sh.w z) r) 0 (wkZ 17 18 (wcA s_3))) 2 (wkZ 19 20 (wcA s_4))) (setF (setF (stA r) 0 SB.gone) 2 SB.gone) (setF (setF (stD r) 0 SB.gone) 2 SB.gone) (evB s.2 s.3 s.5) (vdB mv cv zv) [wa0,wd0,wa0,wd0])else (iR (3:Int) (4:Int))/\bif (Sh.w z 3).2 != (0:Int)then ∃(s_4:Qa),[aP 6 0,SA.a [sI (Sh.w z 3).3,sI (Sh.w z 3).4,sI (Sh.w z 3).5],aI (Sh.w z 3).6,aB true]=[aP 6 0,SA.a [sI s_4.2,sI s_4.3,sI s_4.4],aI s_4.5,aB true]/\[wkR 13 14 (Sh.w z 3) (r 3),waR (r 3),wdR (r 3)]=[wkC 13 14 (WkS.w (Qa.s s_4)) (Qa.s s_4).3 (Qa.s s_4).4 (Qa.s s_4).7 (Qa.s s_4).8,wkA (Qa.s s_4).2 (Qa.s s_4).3 (Qa.s s_4).5,wkD (Qa.s s_4).6 (Qa.s s_4).7 (Qa.s s_4).9]/\True/\∀(x:Unit),True->dP Tryz.f51 14 19 [⟨9,[],[6,13,14,19,20],[19,20],false⟩,xR 8 6,xF 7 6,xF 6 6,xF 5 6,xR 4 6,xF 3 6,xF 2 6,xF 1 6,xF 0 6]/\endN Q3 [] (fun (x:SV) (M:List SB)=>shAt M 0) (ShS.mk z r mh ch nh zh mv cv nv zv,l) (SV.t []) (shI (shD z.4 (z.5+(1:Int)) 15 s.8 s.3 s.4 16 s.1 cv nv) (putF (zF) 1 (Qs l z.2 0)) (Sto.crash (Sh.s z) l) (setF (setF (stX (Sh.w z) r) 0 (wkZ 17 18 (wcA s_3))) 3 (wkZ 19 20 (wcA s_4))) (setF (setF (stA r) 0 SB.gone) 3 SB.gone) (setF (setF (stD r) 0 SB.gone) 3 SB.gone) (evB s.2 s.3 s.5) (vdB mv cv zv) [wa0,wd0,wa0,wd0])else endN Q3 [] (fun (x:SV) (M:List SB)=>shAt M 0) (ShS.mk z r mh ch nh zh mv cv nv zv,l) (SV.t []) (shI (shD z.4 (z.5+(1:Int)) 15 s.8 s.3 s.4 16 s.1 cv nv) (putF (zF) 1 (Qs l z.2 0)) (Sto.crash (Sh.s z) l) (setF (stX (Sh.w z) r) 0 (wkZ 17 18 (wcA s_3))) (setF (stA r) 0 SB.gone) (setF (stD r) 0 SB.gone) (evB s.2 s.3 s.5) (vdB mv cv zv) [wa0,wd0])else (iR (1:Int) (4:Int))/\bif (Sh.w z 1).2 != (0:Int)then ∃(s_3:Qa),[aP 4 0,SA.a [sI (Sh.w z 1).3,sI (Sh.w z 1).4,sI (Sh.w z 1).5],aI (Sh.w z 1).6,aB true]=[aP 4 0,SA.a [sI s_3.2,sI s_3.3,sI s_3.4],aI s_3.5,aB true]/\[wkR 9 10 (Sh.w z 1) (r 1),waR (r 1),wdR (r 1)]=[wkC 9 10 (WkS.w (Qa.s s_3)) (Qa.s s_3).3 (Qa.s s_3).4 (Qa.s s_3).7 (Qa.s s_3).8,wkA (Qa.s s_3).2 (Qa.s s_3).3 (Qa.s s_3).5,wkD (Qa.s s_3).6 (Qa.s s_3).7 (Qa.s s_3).9]/\True/\∀(x:Unit),True->dP Tryz.f51 14 17 [⟨9,[],[4,9,10,17,18],[17,18],false⟩,xR 8 4,xF 7 4,xF 6 4,xF 5 4,xR 4 4,xF 3 4,xF 2 4,xF 1 4,xF 0 4]/\(iR (2:Int) (4:Int))/\bif (Sh.w z 2).2 != (0:Int)then ∃(s_4:Qa),[aP 5 0,SA.a [sI (Sh.w z 2).3,sI (Sh.w z 2).4,sI (Sh.w z 2).5],aI (Sh.w z 2).6,aB true]=[aP 5 0,SA.a [sI s_4.2,sI s_4.3,sI s_4.4],aI s_4.5,aB true]/\[wkR 11 12 (Sh.w z 2) (r 2),waR (r 2),wdR (r 2)]=[wkC 11 12 (WkS.w (Qa.s s_4)) (Qa.s s_4).3 (Qa.s s_4).4 (Qa.s s_4).7 (Qa.s s_4).8,wkA (Qa.s s_4).2 (Qa.s s_4).3 (Qa.s s_4).5,wkD (Qa.s s_4).6 (Qa.s s_4).7 (Qa.s s_4).9]/\True/\∀(x:Unit),True->dP Tryz.f51 14 19 [⟨9,[],[5,11,12,19,20],[19,20],false⟩,xR 8 5,xF 7 5,xF 6 5,xF 5 5,xR 4 5,xF 3 5,xF 2 5,xF 1 5,xF 0 5]/\(iR (3:Int) (4:Int))/\bif (Sh.w z 3).2 != (0:Int)then ∃(s_5:Qa),[aP 6 0,SA.a [sI (Sh.w z 3).3,sI (Sh.w z 3).4,sI (Sh.w z 3).5],aI (Sh.w z 3).6,aB true]=[aP 6 0,SA.a [sI s_5.2,sI s_5.3,sI s_5.4],aI s_5.5,aB true]/\[wkR 13 14 (Sh.w z 3) (r 3),waR (r 3),wdR (r 3)]=[wkC 13 14 (WkS.w (Qa.s s_5)) (Qa.s s_5).3 (Qa.s s_5).4 (Qa.s s_5).7 (Qa.s s_5).8,wkA (Qa.s s_5).2 (Qa.s s_5).3 (Qa.s s_5).5,wkD (Qa.s s_5).6 (Qa.s s_5).7 (Qa.s s_5).9]/\True/\∀(x:Unit),True->dP Tryz.f51 14 21 [⟨9,[],[6,13,14,21,22],[21,22],false⟩,xR 8 6,xF 7 6,xF 6 6,xF 5 6,xR 4 6,xF 3 6,xF 2 6,xF 1 6,xF 0 6]/\endN Q3 [] (fun (x:SV) (M:List SB)=>shAt M 0) (ShS.mk z r mh ch nh zh mv cv nv zv,l) (SV.t []) (shI (shD z.4 (z.5+(1:Int)) 15 s.8 s.3 s.4 16 s.1 cv nv) (putF (zF) 1 (Qs l z.2 0)) (Sto.crash (Sh.s z) l) (setF (setF (setF (stX (Sh.w z) r) 1 (wkZ 17 18 (wcA s_3))) 2 (wkZ 19 20 (wcA s_4))) 3 (wkZ 21 22 (wcA s_5))) (setF (setF (setF (stA r) 1 SB.gone) 2 SB.gone) 3 SB.gone) (setF (setF (setF (stD r) 1 SB.gone) 2 SB.gone) 3 SB.gone) (evB s.2 s.3 s.5) (vdB mv cv zv) [wa0,wd0,wa0,wd0,wa0,wd0])else endN Q3 [] (fun (x:SV) (M:List SB)=>shAt M 0) (ShS.mk z r mh ch nh zh mv cv nv zv,l) (SV.t []) (shI (shD z.4 (z.5+(1:Int)) 15 s.8 s.3 s.4 16 s.1 cv nv) (putF (zF) 1 (Qs l z.2 0)) (Sto.crash (Sh.s z) l) (setF (setF (stX (Sh.w z) r) 1 (wkZ 17 18 (wcA s_3))) 2 (wkZ 19 20 (wcA s_4))) (setF (setF (stA r) 1 SB.gone) 2 SB.gone) (setF (setF (stD r) 1 SB.gone) 2 SB.gone) (evB s.2 s.3 s.5) (vdB mv cv zv) [wa0,wd0,wa0,wd0])else (iR (3:Int) (4:Int))/\bif (Sh.w z 3).2 != (0:Int)then ∃(s_4:Qa),[aP 6 0,SA.a [sI (Sh.w z 3).3,sI (Sh.w z 3).4,sI (Sh.w z 3).5],aI (Sh.w z 3).6,aB true]=[aP 6 0,SA.a [sI s_4.2,sI s_4.3,sI s_4.4],aI s_4.5,aB true]/\[wkR 13 14 (Sh.w z 3) (r 3),waR (r 3),wdR (r 3)]=[wkC 13 14 (WkS.w (Qa.s s_4)) (Qa.s s_4).3 (Qa.s s_4).4 (Qa.s s_4).7 (Qa.s s_4).8,wkA (Qa.s s_4).2 (Qa.s s_4).3 (Qa.s s_4).5,wkD (Qa.s s_4).6 (Qa.s s_4).7 (Qa.s s_4).9]/\True/\∀(x:Unit),True->dP Tryz.f51 14 19 [⟨9,[],[6,13,14,19,20],[19,20],false⟩,xR 8 6,xF 7 6,xF 6 6,xF 5 6,xR 4 6,xF 3 6,xF 2 6,xF 1 6,xF 0 6]/\endN Q3 [] (fun (x:SV) (M:List SB)=>shAt M 0) (ShS.mk z r mh ch nh zh mv cv nv zv,l) (SV.t []) (shI (shD z.4 (z.5+(1:Int)) 15 s.8 s.3 s.4 16 s.1 cv nv) (putF (zF) 1 (Qs l z.2 0)) (Sto.crash (Sh.s z) l) (setF (setF (stX (Sh.w z) r) 1 (wkZ 17 18 (wcA s_3))) 3 (wkZ 19 20 (wcA s_4))) (setF (setF (stA r) 1 SB.gone) 3 SB.gone) (setF (setF (stD r) 1 SB.gone) 3 SB.gone) (evB s.2 s.3 s.5) (vdB mv cv zv) [wa0,wd0,wa0,wd0])else endN Q3 [] (fun (x:SV) (M:List SB)=>shAt M 0) (ShS.mk z r mh ch nh zh mv cv nv zv,l) (SV.t []) (shI (shD z.4 (z.5+(1:Int)) 15 s.8 s.3 s.4 16 s.1 cv nv) (putF (zF) 1 (Qs l z.2 0)) (Sto.crash (Sh.s z) l) (setF (stX (Sh.w z) r) 1 (wkZ 17 18 (wcA s_3))) (setF (stA r) 1 SB.gone) (setF (stD r) 1 SB.gone) (evB s.2 s.3 s.5) (vdB mv cv zv) [wa0,wd0])else (iR (2:Int) (4:Int))/\bif (Sh.w z 2).2 != (0:Int)then ∃(s_3:Qa),[aP 5 0,SA.a [sI (Sh.w z 2).3,sI (Sh.w z 2).4,sI (Sh.w z 2).5],aI (Sh.w z 2).6,aB true]=[aP 5 0,SA.a [sI s_3.2,sI s_3.3,sI s_3.4],aI s_3.5,aB true]/\[wkR 11 12 (Sh.w z 2) (r 2),waR (r 2),wdR (r 2)]=[wkC 11 12 (WkS.w (Qa.s s_3)) (Qa.s s_3).3 (Qa.s s_3).4 (Qa.s s_3).7 (Qa.s s_3).8,wkA (Qa.s s_3).2 (Qa.s s_3).3 (Qa.s s_3).5,wkD (Qa.s s_3).6 (Qa.s s_3).7 (Qa.s s_3).9]/\True/\∀(x:Unit),True->dP Tryz.f51 14 17 [⟨9,[],[5,11,12,17,18],[17,18],false⟩,xR 8 5,xF 7 5,xF 6 5,xF 5 5,xR 4 5,xF 3 5,xF 2 5,xF 1 5,xF 0 5]/\(iR (3:Int) (4:Int))/\bif (Sh.w z 3).2 != (0:Int)then ∃(s_4:Qa),[aP 6 0,SA.a [sI (Sh.w z 3).3,sI (Sh.w z 3).4,sI (Sh.w z 3).5],aI (Sh.w z 3).6,aB true]=[aP 6 0,SA.a [sI s_4.2,sI s_4.3,sI s_4.4],aI s_4.5,aB true]/\[wkR 13 14 (Sh.w z 3) (r 3),waR (r 3),wdR (r 3)]=[wkC 13 14 (WkS.w (Qa.s s_4)) (Qa.s s_4).3 (Qa.s s_4).4 (Qa.s s_4).7 (Qa.s s_4).8,wkA (Qa.s s_4).2 (Qa.s s_4).3 (Qa.s s_4).5,wkD (Qa.s s_4).6 (Qa.s s_4).7 (Qa.s s_4).9]/\True/\∀(x:Unit),True->dP Tryz.f51 14 19 [⟨9,[],[6,13,14,19,20],[19,20],false⟩,xR 8 6,xF 7 6,xF 6 6,xF 5 6,xR 4 6,xF 3 6,xF 2 6,xF 1 6,xF 0 6]/\endN Q3 [] (fun (x:SV) (M:List SB)=>shAt M 0) (ShS.mk z r mh ch nh zh mv cv nv zv,l) (SV.t []) (shI (shD z.4 (z.5+(1:Int)) 15 s.8 s.3 s.4 16 s.1 cv nv) (putF (zF) 1 (Qs l z.2 0)) (Sto.crash (Sh.s z) l) (setF (setF (stX (Sh.w z) r) 2 (wkZ 17 18 (wcA s_3))) 3 (wkZ 19 20 (wcA s_4))) (setF (setF (stA r) 2 SB.gone) 3 SB.gone) (setF (setF (stD r) 2 SB.gone) 3 SB.gone) (evB s.2 s.3 s.5) (vdB mv cv zv) [wa0,wd0,wa0,wd0])else endN Q3 [] (fun (x:SV) (M:List SB)=>shAt M 0) (ShS.mk z r mh ch nh zh mv cv nv zv,l) (SV.t []) (shI (shD z.4 (z.5+(1:Int)) 15 s.8 s.3 s.4 16 s.1 cv nv) (putF (zF) 1 (Qs l z.2 0)) (Sto.crash (Sh.s z) l) (setF (stX (Sh.w z) r) 2 (wkZ 17 18 (wcA s_3))) (setF (stA r) 2 SB.gone) (setF (stD r) 2 SB.gone) (evB s.2 s.3 s.5) (vdB mv cv zv) [wa0,wd0])else (iR (3:Int) (4:Int))/\bif (Sh.w z 3).2 != (0:Int)then ∃(s_3:Qa),[aP 6 0,SA.a [sI (Sh.w z 3).3,sI (Sh.w z 3).4,sI (Sh.w z 3).5],aI (Sh.w z 3).6,aB true]=[aP 6 0,SA.a [sI s_3.2,sI s_3.3,sI s_3.4],aI s_3.5,aB true]/\[wkR 13 14 (Sh.w z 3) (r 3),waR (r 3),wdR (r 3)]=[wkC 13 14 (WkS.w (Qa.s s_3)) (Qa.s s_3).3 (Qa.s s_3).4 (Qa.s s_3).7 (Qa.s s_3).8,wkA (Qa.s s_3).2 (Qa.s s_3).3 (Qa.s s_3).5,wkD (Qa.s s_3).6 (Qa.s s_3).7 (Qa.s s_3).9]/\True/\∀(x:Unit),True->dP Tryz.f51 14 17 [⟨9,[],[6,13,14,17,18],[17,18],false⟩,xR 8 6,xF 7 6,xF 6 6,xF 5 6,xR 4 6,xF 3 6,xF 2 6,xF 1 6,xF 0 6]/\endN Q3 [] (fun (x:SV) (M:List SB)=>shAt M 0) (ShS.mk z r mh ch nh zh mv cv nv zv,l) (SV.t []) (shI (shD z.4 (z.5+(1:Int)) 15 s.8 s.3 s.4 16 s.1 cv nv) (putF (zF) 1 (Qs l z.2 0)) (Sto.crash (Sh.s z) l) (setF (stX (Sh.w z) r) 3 (wkZ 17 18 (wcA s_3))) (setF (stA r) 3 SB.gone) (setF (stD r) 3 SB.gone) (evB s.2 s.3 s.5) (vdB mv cv zv) [wa0,wd0])else endN Q3 [] (fun (x:SV) (M:List SB)=>shAt M 0) (ShS.mk z r mh ch nh zh mv cv nv zv,l) (SV.t []) (shI (shD z.4 (z.5+(1:Int)) 15 s.8 s.3 s.4 16 s.1 cv nv) (putF (zF) 1 (Qs l z.2 0)) (Sto.crash (Sh.s z) l) (stX (Sh.w z) r) (stA r) (stD r) (evB s.2 s.3 s.5) (vdB mv cv zv) [])) (by kernel_rfl) ?_
 have h0:(⟨z,r,mh,ch,nh,zh,mv,cv,nv,zv⟩:ShS).good:=h0
 have h1:QlG z l:=h1
 have hst0:=h1.st0
 have hst1:=h1.st1
 have hhl:=h1.h
 have hdl:=h1.d
 have hv0:=h1.v0
 have hv1:=h1.v1
 have q1:=h0.h1
 have q2:=h0.h2
 have p1:=h0.v1
 have p2:=h0.v2
 dsimp only at q1 q2 p1 p2
 have es:IntKind.wrap .i64 (z.steps+1)=z.steps+1:=QH (by omega) (by omega)
 have ev:IntKind.wrap .i64 ((z.s.crash l).now (Int.toNat 0))=Qs l z.s 0:=QH (by show -9223372036854775808<=Qs l z.s 0;omega) (by show Qs l z.s 0<=9223372036854775807;omega)
 have eu:IntKind.wrap .u64 (Qs l z.s 0)=Qs l z.s 0:=QaI (by omega) (by omega)
 rw[es]
 refine⟨Qf (by kernel_rfl),⟨⟨q1,rfl⟩,⟨Nat.le_refl _,rfl⟩,by omega⟩,fun c hc=>⟨Qf (by kernel_rfl),⟨z.s,l⟩,rfl,rfl,h1.lu,fun _ _=>⟨z.m,rfl,rfl,trivial,fun _ _=>⟨⟨z.s.crash l,0⟩,rfl,rfl,⟨(by decide:(0:Int)<=0),(by decide:(0:Int)<72)⟩,fun _ _=>?_⟩⟩⟩⟩
 dsimp only
 rw[ev,eu]
 refine⟨⟨fun _=>0,1,Qs l z.s 0⟩,rfl,rfl,⟨(by decide:(0:Int)<=1),(by decide:(1:Int)<16)⟩,fun _ _=>⟨Nat.le_trans p1 p2,⟨⟨z.deeds.length,z.hist.length+1,c,nh,_,Nat.le_refl _,by rw[List.take_length],z.hist.length+1,rfl,Nat.le_refl _,hc,?_⟩,⟨rfl,rfl,svI (QH (by omega) (by omega)),trivial⟩,rfl⟩,?_⟩⟩
 · refine h0.h.snoc (fun j hj k _=>catT hj) (fun j hj=>?_)
   refine catF.trans ?_
   rw[Nat.sub_self]
   match j,hj with
   |0,_=>rfl
   |1,_=>rfl
   |2,_=>rfl
   |3,_=>rfl
   |4,_=>rfl
   |5,_=>rfl
   |6,_=>rfl
   |7,_=>rfl
   |8,_=>rfl
 rintro⟨n,mh',ch',nh',zh',hn,hu,lh,hl,g1,g2,g3⟩
 dsimp only at hn hu hl g1 g2 g3 ⊢
 refine Qp (fun hge=>?_) (fun hlt=>?_)
 · have en:((n:Int)-1).toNat=n-1:=by omega
   have hz0:zv (0+((n:Int)-1).toNat) 0=(z.deeds.getD (n-1) Vd.nil).ver:=by rw[Nat.zero_add,en];exact h0.v (n-1) (by show n-1<z.deeds.length;omega) 0 (by decide)
   have ht:=QlQ (l:=z.deeds) (n:=n) (by omega) hn
   refine⟨⟨by omega,by omega,by omega⟩,by omega,Qp (fun hgt=>?_) (fun hle=>?_)⟩
   · rw[hz0]at hgt
     refine⟨⟨by omega,by omega⟩,⟨((n:Int)-1).toNat,mh',ch',nh',zh',by omega,?_,lh,hl,g1,g2,g3⟩,⟨⟨rfl,rfl,svI (show IntKind.wrap .i64 ((n:Int)-1-1)=(((n:Int)-1).toNat:Int)-1 by rw[QH (by omega) (by omega)];omega),trivial⟩,rfl⟩,by dsimp only;omega⟩
     rw[en,<- hu,ht,Qqt hgt]
   · rw[hz0]at hle
     have hz:z.deeds.take n=upTo (Qs l z.s 0) z.deeds:=by rw[<- hu,ht];exact (Qqs (by omega)).symm
     exact⟨⟨by decide,by decide⟩,QG (fun k0=>⟨⟨wkS (z.w 0) (r 0),(z.w 0).k,(z.w 0).key,(z.w 0).x,(z.w 0).tog⟩,rfl,rfl,trivial,fun _ _=>⟨Qf (by kernel_rfl),⟨⟨by decide,by decide⟩,QG (fun k1=>⟨⟨wkS (z.w 1) (r 1),(z.w 1).k,(z.w 1).key,(z.w 1).x,(z.w 1).tog⟩,rfl,rfl,trivial,fun _ _=>⟨Qf (by kernel_rfl),⟨⟨by decide,by decide⟩,QG (fun k2=>⟨⟨wkS (z.w 2) (r 2),(z.w 2).k,(z.w 2).key,(z.w 2).x,(z.w 2).tog⟩,rfl,rfl,trivial,fun _ _=>⟨Qf (by kernel_rfl),⟨⟨by decide,by decide⟩,QG (fun k3=>⟨⟨wkS (z.w 3) (r 3),(z.w 3).k,(z.w 3).key,(z.w 3).x,(z.w 3).tog⟩,rfl,rfl,trivial,fun _ _=>⟨Qf (by kernel_rfl),QB h0 hn hz hl g1 g2 g3 (a0:=true) (a1:=true) (a2:=true) (a3:=true) rfl rfl k0 k1 k2 k3⟩⟩) (fun k3=>QB h0 hn hz hl g1 g2 g3 (a0:=true) (a1:=true) (a2:=true) (a3:=false) rfl rfl k0 k1 k2 k3)⟩⟩⟩) (fun k2=>⟨⟨by decide,by decide⟩,QG (fun k3=>⟨⟨wkS (z.w 3) (r 3),(z.w 3).k,(z.w 3).key,(z.w 3).x,(z.w 3).tog⟩,rfl,rfl,trivial,fun _ _=>⟨Qf (by kernel_rfl),QB h0 hn hz hl g1 g2 g3 (a0:=true) (a1:=true) (a2:=false) (a3:=true) rfl rfl k0 k1 k2 k3⟩⟩) (fun k3=>QB h0 hn hz hl g1 g2 g3 (a0:=true) (a1:=true) (a2:=false) (a3:=false) rfl rfl k0 k1 k2 k3)⟩)⟩⟩⟩) (fun k1=>⟨⟨by decide,by decide⟩,QG (fun k2=>⟨⟨wkS (z.w 2) (r 2),(z.w 2).k,(z.w 2).key,(z.w 2).x,(z.w 2).tog⟩,rfl,rfl,trivial,fun _ _=>⟨Qf (by kernel_rfl),⟨⟨by decide,by decide⟩,QG (fun k3=>⟨⟨wkS (z.w 3) (r 3),(z.w 3).k,(z.w 3).key,(z.w 3).x,(z.w 3).tog⟩,rfl,rfl,trivial,fun _ _=>⟨Qf (by kernel_rfl),QB h0 hn hz hl g1 g2 g3 (a0:=true) (a1:=false) (a2:=true) (a3:=true) rfl rfl k0 k1 k2 k3⟩⟩) (fun k3=>QB h0 hn hz hl g1 g2 g3 (a0:=true) (a1:=false) (a2:=true) (a3:=false) rfl rfl k0 k1 k2 k3)⟩⟩⟩) (fun k2=>⟨⟨by decide,by decide⟩,QG (fun k3=>⟨⟨wkS (z.w 3) (r 3),(z.w 3).k,(z.w 3).key,(z.w 3).x,(z.w 3).tog⟩,rfl,rfl,trivial,fun _ _=>⟨Qf (by kernel_rfl),QB h0 hn hz hl g1 g2 g3 (a0:=true) (a1:=false) (a2:=false) (a3:=true) rfl rfl k0 k1 k2 k3⟩⟩) (fun k3=>QB h0 hn hz hl g1 g2 g3 (a0:=true) (a1:=false) (a2:=false) (a3:=false) rfl rfl k0 k1 k2 k3)⟩)⟩)⟩⟩⟩) (fun k0=>⟨⟨by decide,by decide⟩,QG (fun k1=>⟨⟨wkS (z.w 1) (r 1),(z.w 1).k,(z.w 1).key,(z.w 1).x,(z.w 1).tog⟩,rfl,rfl,trivial,fun _ _=>⟨Qf (by kernel_rfl),⟨⟨by decide,by decide⟩,QG (fun k2=>⟨⟨wkS (z.w 2) (r 2),(z.w 2).k,(z.w 2).key,(z.w 2).x,(z.w 2).tog⟩,rfl,rfl,trivial,fun _ _=>⟨Qf (by kernel_rfl),⟨⟨by decide,by decide⟩,QG (fun k3=>⟨⟨wkS (z.w 3) (r 3),(z.w 3).k,(z.w 3).key,(z.w 3).x,(z.w 3).tog⟩,rfl,rfl,trivial,fun _ _=>⟨Qf (by kernel_rfl),QB h0 hn hz hl g1 g2 g3 (a0:=false) (a1:=true) (a2:=true) (a3:=true) rfl rfl k0 k1 k2 k3⟩⟩) (fun k3=>QB h0 hn hz hl g1 g2 g3 (a0:=false) (a1:=true) (a2:=true) (a3:=false) rfl rfl k0 k1 k2 k3)⟩⟩⟩) (fun k2=>⟨⟨by decide,by decide⟩,QG (fun k3=>⟨⟨wkS (z.w 3) (r 3),(z.w 3).k,(z.w 3).key,(z.w 3).x,(z.w 3).tog⟩,rfl,rfl,trivial,fun _ _=>⟨Qf (by kernel_rfl),QB h0 hn hz hl g1 g2 g3 (a0:=false) (a1:=true) (a2:=false) (a3:=true) rfl rfl k0 k1 k2 k3⟩⟩) (fun k3=>QB h0 hn hz hl g1 g2 g3 (a0:=false) (a1:=true) (a2:=false) (a3:=false) rfl rfl k0 k1 k2 k3)⟩)⟩⟩⟩) (fun k1=>⟨⟨by decide,by decide⟩,QG (fun k2=>⟨⟨wkS (z.w 2) (r 2),(z.w 2).k,(z.w 2).key,(z.w 2).x,(z.w 2).tog⟩,rfl,rfl,trivial,fun _ _=>⟨Qf (by kernel_rfl),⟨⟨by decide,by decide⟩,QG (fun k3=>⟨⟨wkS (z.w 3) (r 3),(z.w 3).k,(z.w 3).key,(z.w 3).x,(z.w 3).tog⟩,rfl,rfl,trivial,fun _ _=>⟨Qf (by kernel_rfl),QB h0 hn hz hl g1 g2 g3 (a0:=false) (a1:=false) (a2:=true) (a3:=true) rfl rfl k0 k1 k2 k3⟩⟩) (fun k3=>QB h0 hn hz hl g1 g2 g3 (a0:=false) (a1:=false) (a2:=true) (a3:=false) rfl rfl k0 k1 k2 k3)⟩⟩⟩) (fun k2=>⟨⟨by decide,by decide⟩,QG (fun k3=>⟨⟨wkS (z.w 3) (r 3),(z.w 3).k,(z.w 3).key,(z.w 3).x,(z.w 3).tog⟩,rfl,rfl,trivial,fun _ _=>⟨Qf (by kernel_rfl),QB h0 hn hz hl g1 g2 g3 (a0:=false) (a1:=false) (a2:=false) (a3:=true) rfl rfl k0 k1 k2 k3⟩⟩) (fun k3=>QB h0 hn hz hl g1 g2 g3 (a0:=false) (a1:=false) (a2:=false) (a3:=false) rfl rfl k0 k1 k2 k3)⟩)⟩)⟩)⟩
 · obtain rfl:n=0:=by omega
   have hz:z.deeds.take 0=upTo (Qs l z.s 0) z.deeds:=by rw[<- hu];rfl
   exact⟨⟨by decide,by decide⟩,QG (fun k0=>⟨⟨wkS (z.w 0) (r 0),(z.w 0).k,(z.w 0).key,(z.w 0).x,(z.w 0).tog⟩,rfl,rfl,trivial,fun _ _=>⟨Qf (by kernel_rfl),⟨⟨by decide,by decide⟩,QG (fun k1=>⟨⟨wkS (z.w 1) (r 1),(z.w 1).k,(z.w 1).key,(z.w 1).x,(z.w 1).tog⟩,rfl,rfl,trivial,fun _ _=>⟨Qf (by kernel_rfl),⟨⟨by decide,by decide⟩,QG (fun k2=>⟨⟨wkS (z.w 2) (r 2),(z.w 2).k,(z.w 2).key,(z.w 2).x,(z.w 2).tog⟩,rfl,rfl,trivial,fun _ _=>⟨Qf (by kernel_rfl),⟨⟨by decide,by decide⟩,QG (fun k3=>⟨⟨wkS (z.w 3) (r 3),(z.w 3).k,(z.w 3).key,(z.w 3).x,(z.w 3).tog⟩,rfl,rfl,trivial,fun _ _=>⟨Qf (by kernel_rfl),QB h0 hn hz hl g1 g2 g3 (a0:=true) (a1:=true) (a2:=true) (a3:=true) rfl rfl k0 k1 k2 k3⟩⟩) (fun k3=>QB h0 hn hz hl g1 g2 g3 (a0:=true) (a1:=true) (a2:=true) (a3:=false) rfl rfl k0 k1 k2 k3)⟩⟩⟩) (fun k2=>⟨⟨by decide,by decide⟩,QG (fun k3=>⟨⟨wkS (z.w 3) (r 3),(z.w 3).k,(z.w 3).key,(z.w 3).x,(z.w 3).tog⟩,rfl,rfl,trivial,fun _ _=>⟨Qf (by kernel_rfl),QB h0 hn hz hl g1 g2 g3 (a0:=true) (a1:=true) (a2:=false) (a3:=true) rfl rfl k0 k1 k2 k3⟩⟩) (fun k3=>QB h0 hn hz hl g1 g2 g3 (a0:=true) (a1:=true) (a2:=false) (a3:=false) rfl rfl k0 k1 k2 k3)⟩)⟩⟩⟩) (fun k1=>⟨⟨by decide,by decide⟩,QG (fun k2=>⟨⟨wkS (z.w 2) (r 2),(z.w 2).k,(z.w 2).key,(z.w 2).x,(z.w 2).tog⟩,rfl,rfl,trivial,fun _ _=>⟨Qf (by kernel_rfl),⟨⟨by decide,by decide⟩,QG (fun k3=>⟨⟨wkS (z.w 3) (r 3),(z.w 3).k,(z.w 3).key,(z.w 3).x,(z.w 3).tog⟩,rfl,rfl,trivial,fun _ _=>⟨Qf (by kernel_rfl),QB h0 hn hz hl g1 g2 g3 (a0:=true) (a1:=false) (a2:=true) (a3:=true) rfl rfl k0 k1 k2 k3⟩⟩) (fun k3=>QB h0 hn hz hl g1 g2 g3 (a0:=true) (a1:=false) (a2:=true) (a3:=false) rfl rfl k0 k1 k2 k3)⟩⟩⟩) (fun k2=>⟨⟨by decide,by decide⟩,QG (fun k3=>⟨⟨wkS (z.w 3) (r 3),(z.w 3).k,(z.w 3).key,(z.w 3).x,(z.w 3).tog⟩,rfl,rfl,trivial,fun _ _=>⟨Qf (by kernel_rfl),QB h0 hn hz hl g1 g2 g3 (a0:=true) (a1:=false) (a2:=false) (a3:=true) rfl rfl k0 k1 k2 k3⟩⟩) (fun k3=>QB h0 hn hz hl g1 g2 g3 (a0:=true) (a1:=false) (a2:=false) (a3:=false) rfl rfl k0 k1 k2 k3)⟩)⟩)⟩⟩⟩) (fun k0=>⟨⟨by decide,by decide⟩,QG (fun k1=>⟨⟨wkS (z.w 1) (r 1),(z.w 1).k,(z.w 1).key,(z.w 1).x,(z.w 1).tog⟩,rfl,rfl,trivial,fun _ _=>⟨Qf (by kernel_rfl),⟨⟨by decide,by decide⟩,QG (fun k2=>⟨⟨wkS (z.w 2) (r 2),(z.w 2).k,(z.w 2).key,(z.w 2).x,(z.w 2).tog⟩,rfl,rfl,trivial,fun _ _=>⟨Qf (by kernel_rfl),⟨⟨by decide,by decide⟩,QG (fun k3=>⟨⟨wkS (z.w 3) (r 3),(z.w 3).k,(z.w 3).key,(z.w 3).x,(z.w 3).tog⟩,rfl,rfl,trivial,fun _ _=>⟨Qf (by kernel_rfl),QB h0 hn hz hl g1 g2 g3 (a0:=false) (a1:=true) (a2:=true) (a3:=true) rfl rfl k0 k1 k2 k3⟩⟩) (fun k3=>QB h0 hn hz hl g1 g2 g3 (a0:=false) (a1:=true) (a2:=true) (a3:=false) rfl rfl k0 k1 k2 k3)⟩⟩⟩) (fun k2=>⟨⟨by decide,by decide⟩,QG (fun k3=>⟨⟨wkS (z.w 3) (r 3),(z.w 3).k,(z.w 3).key,(z.w 3).x,(z.w 3).tog⟩,rfl,rfl,trivial,fun _ _=>⟨Qf (by kernel_rfl),QB h0 hn hz hl g1 g2 g3 (a0:=false) (a1:=true) (a2:=false) (a3:=true) rfl rfl k0 k1 k2 k3⟩⟩) (fun k3=>QB h0 hn hz hl g1 g2 g3 (a0:=false) (a1:=true) (a2:=false) (a3:=false) rfl rfl k0 k1 k2 k3)⟩)⟩⟩⟩) (fun k1=>⟨⟨by decide,by decide⟩,QG (fun k2=>⟨⟨wkS (z.w 2) (r 2),(z.w 2).k,(z.w 2).key,(z.w 2).x,(z.w 2).tog⟩,rfl,rfl,trivial,fun _ _=>⟨Qf (by kernel_rfl),⟨⟨by decide,by decide⟩,QG (fun k3=>⟨⟨wkS (z.w 3) (r 3),(z.w 3).k,(z.w 3).key,(z.w 3).x,(z.w 3).tog⟩,rfl,rfl,trivial,fun _ _=>⟨Qf (by kernel_rfl),QB h0 hn hz hl g1 g2 g3 (a0:=false) (a1:=false) (a2:=true) (a3:=true) rfl rfl k0 k1 k2 k3⟩⟩) (fun k3=>QB h0 hn hz hl g1 g2 g3 (a0:=false) (a1:=false) (a2:=true) (a3:=false) rfl rfl k0 k1 k2 k3)⟩⟩⟩) (fun k2=>⟨⟨by decide,by decide⟩,QG (fun k3=>⟨⟨wkS (z.w 3) (r 3),(z.w 3).k,(z.w 3).key,(z.w 3).x,(z.w 3).tog⟩,rfl,rfl,trivial,fun _ _=>⟨Qf (by kernel_rfl),QB h0 hn hz hl g1 g2 g3 (a0:=false) (a1:=false) (a2:=false) (a3:=true) rfl rfl k0 k1 k2 k3⟩⟩) (fun k3=>QB h0 hn hz hl g1 g2 g3 (a0:=false) (a1:=false) (a2:=false) (a3:=false) rfl rfl k0 k1 k2 k3)⟩)⟩)⟩)⟩
end
section
def PosV (z:Sh):Prop:=∀d∈z.deeds,0<=d.ver
theorem Qjg {v:Int}{l:List Vd}{d:Vd}(h:d∈upTo v l):d∈l:=by
 unfold upTo at h
 rw[List.mem_reverse]at h
 exact List.mem_reverse.1 ((List.dropWhile_sublist _).subset h)
section
variable {K:Int}{z:Sh}{g:Gh}{t:Nat}
theorem Fine.now (F:Fine K z g):0<=z.s.now 0:=by
 have h1:=F.1.gl.now0
 have h2:=F.1.gl.v0
 have h3:=F.1.gl.vd
 omega
theorem QoB (F:Fine K z g) (p:PosV z) (ht:t<4) (hs:z.steps<100000000):PosV (z.step t):=by
 unfold Sh.step
 split
 · exact p
 · rename_i hn
   have h0:=(QeL F ht hs hn).now
   have e:(z.stepped t).s=(Qd (z.wst t)).1.s:=by
    unfold Sh.stepped
    dsimp only
    split<;>split<;>rfl
   rw[e]at h0
   have e2:(z.stepped t).deeds=z.deeds\/(z.stepped t).deeds=z.deeds++(Qd (z.wst t)).1.w.deeds.map (Vd.mk ((Qd (z.wst t)).1.s.now 0)):=by
    unfold Sh.stepped
    dsimp only
    split<;>split<;>first|exact .inl rfl|exact .inr rfl
   intro d hd
   rcases e2 with e2|e2
   · rw[e2]at hd;exact p d hd
   · rw[e2]at hd
     rcases List.mem_append.1 hd with hd|hd
     · exact p d hd
     · obtain⟨x,-,rfl⟩:=List.mem_map.1 hd
       exact h0
theorem Qmw (ht:t<4):∀(n:Nat) {z:Sh}{g:Gh},Fine K z g->PosV z->z.steps+n<100000000->PosV (z.run t n)
 |0,z,g,_,p,_=>p
 |n+1,z,g,F,p,hs=>by
  obtain⟨g',F'⟩:=Qh5 F ht (by omega)
  have:=(QcO z t).2
  exact Qmw ht n F' (QoB F p ht (by omega)) (by omega)
theorem QoC (F:Fine K z g) (p:PosV z) (hs:z.steps<90000000) (m:Mv):PosV (z.move m):=by
 unfold Sh.move
 split
 · unfold Sh.callA
   cases hb:inT m.t
   · exact p
   · rw[cond_true]
     unfold Sh.call
     split<;>exact p
 split
 · unfold Sh.runA
   cases hb:inT m.t
   · exact p
   · rw[cond_true]
     cases hc:runB m.n
     · exact p
     · have h2:=of_decide_eq_true hc
       exact Qmw (Qer hb).2.2 m.n.toNat F p (by omega)
 split
 · unfold Sh.evict
   split<;>exact p
 split
 · intro d hd
   exact p d (Qjg hd)
 · exact p
structure Fin2 (K:Int) (z:Sh) (g:Gh):Prop where
 f:Fine K z g
 p:PosV z
theorem Qpm (F:Fin2 K z g) (hs:z.steps<90000000) (m:Mv):∃g',Fin2 K (z.move m) g':=by
 obtain⟨g',F'⟩:=Qnn F.f hs m
 exact⟨g',F',QoC F.f F.p hs m⟩
theorem QqZ {K:Int}(h1:1<=K) (h6:K<=6):Fin2 K (Sh.new K) (Gh.new K):=⟨Qpl h1 h6,fun d hd=>by cases hd⟩
theorem Qnp {K:Int}(h1:1<=K) (h6:K<=6):∀(n:Nat) (l:List Mv),l.length=n->n<=80000->∃g,Fin2 K (XV K l) g/\(XV K l).steps<=1000*(n:Int)
 |0,l,hl,_=>by
  have:=List.length_eq_zero_iff.1 hl
  subst this
  exact⟨_,QqZ h1 h6,Int.le_refl 0⟩
 |n+1,l,hl,hn=>by
  obtain⟨l',m,rfl⟩:∃l' m,l=l'++[m]:=⟨l.dropLast,l.getLast (by intro h;rw[h]at hl;cases hl),(List.dropLast_concat_getLast _).symm⟩
  rw[List.length_append,List.length_singleton]at hl
  obtain⟨g,F,hs⟩:=Qnp h1 h6 n l' (by omega) (by omega)
  rw[Qek]
  obtain⟨g',F'⟩:=Qpm F (by omega) m
  have:=Qgm (XV K l') m
  exact⟨g',F',by omega⟩
end
end
section
def mvAt (z:Nat->Nat->Int) (i:Nat):Mv:=⟨z i 0,z i 1,z i 2,z i 3,z i 4,z i 5,z i 6⟩
def mvL (z:Nat->Nat->Int) (n:Nat):List Mv:=(List.range n).map (mvAt z)
theorem QoU (z:Nat->Nat->Int) (i:Nat):mvL z (i+1)=mvL z i++[mvAt z i]:=by unfold mvL;rw[List.range_succ,List.map_append];rfl
theorem QqT (z:Nat->Nat->Int) (n:Nat):(mvL z n).length=n:=by unfold mvL;rw[List.length_map,List.length_range]
end
section
open Go.RowKit
def mvK:Nat->IntKind:=fun j=>bif Nat.beq j 6 then .u64 else .i64
def MvIn (W:World) (a:Option Addr) (n c:Nat) (z:Nat->Nat->Int):Prop:=Rws 7 mvK W a n c z/\∀i,i<n->U64 (z i 6)
end
section
structure FinI (K:Int) (z:Sh) (g:Gh):Prop where
 i:ShInv K z g
 p:PosV z
 s:(z.hist.length:Int)<=z.steps
section
variable {K:Int}{z:Sh}{g:Gh}{t:Nat}
theorem ShInv.now (I:ShInv K z g):0<=z.s.now 0:=by
 have h1:=I.gl.now0
 have h2:=I.gl.v0
 have h3:=I.gl.vd
 omega
theorem Qq0 (F:FinI K z g) (ht:t<4) (hs:z.steps<100000000):∃g',FinI K (z.step t) g':=by
 unfold Sh.step
 split
 · exact⟨g,F⟩
 · rename_i hn
   have I':=QfH F.i ht hs hn
   have h0:=I'.now
   have e:(z.stepped t).s=(Qd (z.wst t)).1.s:=by
    unfold Sh.stepped
    dsimp only
    split<;>split<;>rfl
   rw[e]at h0
   have e2:(z.stepped t).deeds=z.deeds\/(z.stepped t).deeds=z.deeds++(Qd (z.wst t)).1.w.deeds.map (Vd.mk ((Qd (z.wst t)).1.s.now 0)):=by
    unfold Sh.stepped
    dsimp only
    split<;>split<;>first|exact .inl rfl|exact .inr rfl
   have e3:(z.stepped t).steps=z.steps+1:=by
    unfold Sh.stepped
    dsimp only
    split<;>split<;>rfl
   have e4:(z.stepped t).hist.length<=z.hist.length+1:=by
    unfold Sh.stepped
    dsimp only
    split<;>split<;>first|exact Nat.le_succ _|(show (z.hist++[_]).length<=_;rw[List.length_append];exact Nat.le_refl _)
   refine⟨_,I',fun d hd=>?_,by have:=F.s;omega⟩
   rcases e2 with e2|e2
   · rw[e2]at hd;exact F.p d hd
   · rw[e2]at hd
     rcases List.mem_append.1 hd with hd|hd
     · exact F.p d hd
     · obtain⟨x,-,rfl⟩:=List.mem_map.1 hd
       exact h0
theorem QjW (ht:t<4):∀(n:Nat) {z:Sh}{g:Gh},FinI K z g->z.steps+n<100000000->∃g',FinI K (z.run t n) g'
 |0,z,g,F,_=>⟨g,F⟩
 |n+1,z,g,F,hs=>by
  obtain⟨g',F'⟩:=Qq0 F ht (by omega)
  have:=(QcO z t).2
  exact QjW ht n F' (by omega)
theorem Qns (F:FinI K z g) (ht:t<4) (k key x:Int):FinI K (z.call t k key x) g:=by
 refine⟨QjM F.i ht k key x,?_,?_⟩
 · unfold Sh.call
   split<;>exact F.p
 · have:=F.s
   unfold Sh.call
   split
   · show ((z.hist++[_]).length:Int)<=z.steps+1
     rw[List.length_append,List.length_singleton];omega
   · exact F.s
theorem Qpn (F:FinI K z g) (l:Int):FinI K (z.evict l) g:=by
 refine⟨QhY F.i l,?_,?_⟩
 · unfold Sh.evict
   split<;>exact F.p
 · unfold Sh.evict
   split<;>exact F.s
theorem Qpo (F:FinI K z g) (l:Int):∃g',FinI K (z.crash l) g':=by
 have hp:PosV (z.crash l):=fun d hd=>F.p d (Qjg hd)
 have hs:((z.crash l).hist.length:Int)<=(z.crash l).steps:=by
  have:=F.s
  show ((z.hist++[_]).length:Int)<=z.steps+1
  rw[List.length_append,List.length_singleton];omega
 rcases inv_crash F.i l with⟨-,h,-⟩|⟨-,-,-,h,-⟩
 · exact⟨_,h,hp,hs⟩
 · exact⟨_,h,hp,hs⟩
theorem Qq1 (F:FinI K z g) (hs:z.steps<90000000) (t n:Int):∃g',FinI K (z.runA t n) g':=by
 unfold Sh.runA
 cases hb:inT t
 · exact⟨g,F⟩
 · rw[cond_true]
   cases hc:runB n
   · exact⟨g,F⟩
   · have h2:=of_decide_eq_true hc
     exact QjW (Qer hb).2.2 n.toNat F (by omega)
theorem Qq2 (F:FinI K z g) (hs:z.steps<90000000) (m:Mv):∃g',FinI K (z.move m) g':=by
 unfold Sh.move
 split
 · unfold Sh.callA
   cases hb:inT m.t
   · exact⟨g,F⟩
   · exact⟨g,Qns F (Qer hb).2.2 _ _ _⟩
 split
 · exact Qq1 F hs _ _
 split
 · exact⟨g,Qpn F _⟩
 split
 · exact Qpo F _
 · exact⟨g,F⟩
theorem Qp9 {K:Int}(h1:1<=K) (h6:K<=6):FinI K (Sh.new K) (Gh.new K):=⟨QmX h1 h6,fun d hd=>(by cases hd),Int.le_refl 0⟩
theorem QjX {K:Int}(h1:1<=K) (h6:K<=6):∀(n:Nat) (l:List Mv),l.length=n->n<=80000->∃g,FinI K (XV K l) g/\(XV K l).steps<=1000*(n:Int)
 |0,l,hl,_=>by
  have:=List.length_eq_zero_iff.1 hl
  subst this
  exact⟨_,Qp9 h1 h6,Int.le_refl 0⟩
 |n+1,l,hl,hn=>by
  obtain⟨l',m,rfl⟩:∃l' m,l=l'++[m]:=⟨l.dropLast,l.getLast (by intro h;rw[h]at hl;cases hl),(List.dropLast_concat_getLast _).symm⟩
  rw[List.length_append,List.length_singleton]at hl
  obtain⟨g,F,hs⟩:=QjX h1 h6 n l' (by omega) (by omega)
  rw[Qek]
  obtain⟨g',F'⟩:=Qq2 F (by omega) m
  have:=Qgm (XV K l') m
  exact⟨g',F',by omega⟩
theorem FinI.steps0 (F:FinI K z g):0<=z.steps:=by have:=F.s;omega
theorem FinI.lens (F:FinI K z g) (hs:z.steps<100000000):z.hist.length<=1000000000/\z.deeds.length<=1000000000:=by
 have h1:=F.s
 have h2:=F.i.gl.cb
 omega
theorem Qqd:∀(l:List Ask) (r:Rec),(bD r l).length<=l.length
 |[],r=>Nat.le_refl _
 |a::l,r=>by
  show (bDs r a++bD (Xt r a) l).length<=l.length+1
  rw[List.length_append]
  have:=Qqd l (Xt r a)
  have h2:(bDs r a).length<=1:=by
   unfold bDs
   cases bOpen r a
   · exact Nat.zero_le _
   · exact Nat.le_refl _
  omega
theorem FinI.stOK (F:FinI K z g) (ht:t<4) (hs:z.steps<100000000):stOK z t:=by
 have hl:=F.lens hs
 refine⟨F.steps0,hs,hl.1,hl.2,(F.i.th t ht).th,fun h11=>?_⟩
 have O:=F.i.ho t ht ⟨by omega,by omega⟩
 obtain⟨hG,hD,-,-⟩:=O.nx (by omega) (by omega)
 have e:(Qd (z.wst t)).1.w.deeds=(z.w t).deeds:=by simp[Qd,XG,Sh.wst,h11]
 rw[e,hD]
 have h4:=hG.len
 have:=Qqd (z.w t).asks g.R
 omega
theorem FinI.craOK (F:FinI K z g) (hs:z.steps<100000000) {l:Int}(hu:U64 l):QlG z l:=by
 have hl:=F.lens hs
 have G:=F.i.gl
 have h0:=G.v0
 have hd:=G.vd
 have hv:Qs l z.s 0=g.dv\/Qs l z.s 0=g.V:=by
  rcases land_mix l z.s 0 with h|h
  · rw[h];exact G.good0
  · rw[h];exact .inr G.now0
 have hb:=G.vb
 exact⟨F.steps0,hs,hl.1,hl.2,hu,by omega,by omega,fun d hd=>⟨F.p d hd,by have:=G.topR d hd;omega⟩⟩
theorem Fin2.fi (F:Fin2 K z g):FinI K z g:=⟨F.f.1,F.p,by
 obtain⟨I,of,H⟩:=F.f
 exact H.sl⟩
end
end
section
open Go.RowKit
theorem craH:(Con.mem craC.sh).holds Tryz.prog 51:=fun w0 S=>craC.lift (Qq6 w0 S) (by decide) (fun x _=>Xh x) (fun _=>rfl) (fun _ _ _ _ _ _ _ _=>⟨rfl,rfl,rfl,rfl⟩)
structure PlS where
 k:Int
 a:Option Addr
 n:Nat
 c:Nat
 z:Nat->Nat->Int
def Qi2 (W:World):MCon where
 σ:=PlS
 χ:=List Nat
 pre s:=(1<=s.k/\s.k<=6)/\s.n<=3000/\Rws 7 mvK W s.a s.n s.c s.z/\∀i,i<s.n->U64 (s.z i 6)
 args s:=[.c (.v (.int .i64 s.k)),.c (.r s.a s.n s.c s.n 7 mvK s.z)]
 mem s:=[]
 ok s x:=True
 val s x:=.t [.c (.p 0 0),.c (.v .nilIface)]
 mem' s x:=[.abs (QE shM ShS.z ShS.good (XV s.k (mvL s.z s.n))) x]
 k:=0
 len:=1
 det:=none
 find args M:=some []
structure PlG (s:PlS) where
 i:Nat
 F:List Nat
 hi:i<=s.n
def Qn2 (s:PlS):Ann where
 σ:=PlG s
 I g:=([(6,.o (.c (.p 0 0))),(18,.o (.c (.r s.a s.n s.c s.n 7 mvK s.z))),(19,sv (.int .i64 s.n)),(20,sv (.int .i64 g.i))],[.abs (QE shM ShS.z ShS.good (XV s.k (mvL s.z g.i))) g.F])
 dec g:=s.n-g.i
 pi env _:=[blkE env 6]
 nz:=[]
theorem CallOK.of {K:Int}{z:Sh}{g:Gh}(F:FinI K z g) (hs:z.steps<100000000):CallOK z:=⟨F.steps0,hs,(F.lens hs).1,fun t ht=>(F.i.th t ht).tg01⟩
theorem StpOK.of {K:Int}{z:Sh}{g:Gh}{t:Nat}(F:FinI K z g) (ht:t<4) (hs:z.steps<100000000):StpOK z t:=⟨ht,F.stOK ht hs,fun hn=>Qkj F.i ht (by have:=F.i.gl.vb;omega) hn⟩
theorem RunOK.of {K:Int}{z:Sh}{g:Gh}{t:Nat}(F:FinI K z g) (ht:t<4) (hs:z.steps<90000000) (n:Int):RunOK z t n:=⟨fun h0 h1 k hk=>by
 obtain⟨g',F'⟩:=QjW ht k F (by omega)
 have:=(QdE t k z).2
 have S:=StpOK.of F' ht (by omega)
 exact⟨S.ok,S.pre⟩⟩
theorem play_con (W:World):(Con.mem (Qi2 W)).holdsAt Tryz.prog W (fun _=>False) 55:=by
 refine Qb (Γ:=[(48,.mem Qi5),(49,.mem callA.sh),(50,.mem Qmj.sh),(94,.mem evC.sh),(51,.mem craC.sh)]) (fun w=>w) Tryz.func55 rfl (by kernel_rfl) Qg Qc (fun w S' _ _=>.cons (newH w _) (.cons (callH w _) (.cons (runH w _) (.cons (evH w _) (.cons (craH w _) (.nil _ _ _)))))) (Qi2 W) (fun s=>[(55,[(0,Qn2 s)])]) (fun x0 h=>by cases h)
  (fun s ρ w _ _ _=>OldOk.none w) [] (fun x M=>match x with
  |.t [.c (.p b _),_]=>[b]
  |_=>[]) 600 ?_
 rintro⟨k,a,n,c,z⟩ w ⟨⟨h1,h6⟩,hn,hr,hu⟩ hK
 refine⟨rfl,?_⟩
 have hr:=Rws.below hr (hK.below (Nat.le_refl _) (fun _ h=>h.elim))
 refine Qi (q:=∃(s:NewS),[aI k]=[aI s.1]/\eN/\((1:Int)<=s.1/\s.1<=(6:Int))/\∀(x:List Nat),True->(∃(s0:Ann.σ (Qn2 (PlS.mk k a n c z))),(eS (aP 0 0) (aP 0 0)/\eS (SA.c (.r a n c n 7 (fun (j:Nat)=>bif Nat.beq j 6 then .u64 else .i64) z)) (SA.c (.r a n c n 7 (fun (j:Nat)=>bif Nat.beq j 6 then .u64 else .i64) z))/\eS (aI ↑n) (aI ↑n)/\eS (aI 0) (aI ↑s0.1)/\True)/\[SB.abs (QE shM ShS.z ShS.good (Sh.new s.1)) x]=[SB.abs (QE shM ShS.z ShS.good (XV k (mvL z s0.1))) s0.2])/\∀(s:PlG (PlS.mk k a n c z)),bif decide ((↑s.1:Int)<(↑n:Int))then (Rws 7 mvK w a n c z/\(0:Int)<=(↑s.1:Int)/\(↑s.1:Int)<(↑n:Int)/\Int.toNat (↑s.1:Int)<n)/\(Rws 7 (fun (j:Nat)=>bif Nat.beq j 6 then .u64 else .i64) w a n c z/\Int.toNat (↑s.1:Int)<n)/\bif z (Int.toNat (↑s.1:Int)) 0==(1:Int)then ∃(s_1:Sh × (Int × OpA) × List Nat),[aP 0 0,aI (z (Int.toNat (↑s.1:Int)) 1),SA.a [sI (z (Int.toNat (↑s.1:Int)) 2),sI (z (Int.toNat (↑s.1:Int)) 3),sI (z (Int.toNat (↑s.1:Int)) 4)]]=[aP 0 0,aI s_1.2.1.1,SA.a [sI s_1.2.1.2.1,sI s_1.2.1.2.2,sI s_1.2.1.2.3]]/\[SB.abs (QE shM ShS.z ShS.good (XV k (mvL z s.1))) s.2]=[SB.abs (QE shM ShS.z ShS.good s_1.1) s_1.2.2]/\CallOK s_1.1/\∀(x:List Nat × Unit),True->∃(s':PlG (PlS.mk k a n c z)),((eS (aP 0 0) (aP 0 0)/\eS (SA.c (.r a n c n 7 (fun (j:Nat)=>bif Nat.beq j 6 then .u64 else .i64) z)) (SA.c (.r a n c n 7 (fun (j:Nat)=>bif Nat.beq j 6 then .u64 else .i64) z))/\eS (aI ↑n) (aI ↑n)/\eS (aI (IntKind.wrap .i64 ((↑s.1:Int)+(1:Int)))) (aI ↑s'.1)/\True)/\[SB.abs (QE shM ShS.z ShS.good (bif inT s_1.2.1.1 then Sh.call s_1.1 (Int.toNat s_1.2.1.1) s_1.2.1.2.1 s_1.2.1.2.2 s_1.2.1.2.3 else s_1.1)) x.1]=[SB.abs (QE shM ShS.z ShS.good (XV k (mvL z s'.1))) s'.2])/\n-s'.1<n-s.1 else bif z (Int.toNat (↑s.1:Int)) 0==(2:Int)then ∃(s_1:Sh × (Int × Int) × List Nat),[aP 0 0,aI (z (Int.toNat (↑s.1:Int)) 1),aI (z (Int.toNat (↑s.1:Int)) 5)]=[aP 0 0,aI s_1.2.1.1,aI s_1.2.1.2]/\[SB.abs (QE shM ShS.z ShS.good (XV k (mvL z s.1))) s.2]=[SB.abs (QE shM ShS.z ShS.good s_1.1) s_1.2.2]/\(inT s_1.2.1.1=true->RunOK s_1.1 (Int.toNat s_1.2.1.1) s_1.2.1.2)/\∀(x:List Nat × Unit),True->∃(s':PlG (PlS.mk k a n c z)),((eS (aP 0 0) (aP 0 0)/\eS (SA.c (.r a n c n 7 (fun (j:Nat)=>bif Nat.beq j 6 then .u64 else .i64) z)) (SA.c (.r a n c n 7 (fun (j:Nat)=>bif Nat.beq j 6 then .u64 else .i64) z))/\eS (aI ↑n) (aI ↑n)/\eS (aI (IntKind.wrap .i64 ((↑s.1:Int)+(1:Int)))) (aI ↑s'.1)/\True)/\[SB.abs (QE shM ShS.z ShS.good (Sh.runA s_1.1 s_1.2.1.1 s_1.2.1.2)) x.1]=[SB.abs (QE shM ShS.z ShS.good (XV k (mvL z s'.1))) s'.2])/\n-s'.1<n-s.1 else bif z (Int.toNat (↑s.1:Int)) 0==(3:Int)then ∃(s_1:Sh × Int × List Nat),[aP 0 0,aI (z (Int.toNat (↑s.1:Int)) 5)]=[aP 0 0,aI s_1.2.1]/\[SB.abs (QE shM ShS.z ShS.good (XV k (mvL z s.1))) s.2]=[SB.abs (QE shM ShS.z ShS.good s_1.1) s_1.2.2]/\True/\∀(x:List Nat × Unit),True->∃(s':PlG (PlS.mk k a n c z)),((eS (aP 0 0) (aP 0 0)/\eS (SA.c (.r a n c n 7 (fun (j:Nat)=>bif Nat.beq j 6 then .u64 else .i64) z)) (SA.c (.r a n c n 7 (fun (j:Nat)=>bif Nat.beq j 6 then .u64 else .i64) z))/\eS (aI ↑n) (aI ↑n)/\eS (aI (IntKind.wrap .i64 ((↑s.1:Int)+(1:Int)))) (aI ↑s'.1)/\True)/\[SB.abs (QE shM ShS.z ShS.good (Sh.evict s_1.1 s_1.2.1)) x.1]=[SB.abs (QE shM ShS.z ShS.good (XV k (mvL z s'.1))) s'.2])/\n-s'.1<n-s.1 else bif z (Int.toNat (↑s.1:Int)) 0==(4:Int)then ∃(s_1:Sh × Int × List Nat),[aP 0 0,aU (z (Int.toNat (↑s.1:Int)) 6)]=[aP 0 0,aU s_1.2.1]/\[SB.abs (QE shM ShS.z ShS.good (XV k (mvL z s.1))) s.2]=[SB.abs (QE shM ShS.z ShS.good s_1.1) s_1.2.2]/\QlG s_1.1 s_1.2.1/\∀(x:List Nat × Unit),True->∃(s':PlG (PlS.mk k a n c z)),((eS (aP 0 0) (aP 0 0)/\eS (SA.c (.r a n c n 7 (fun (j:Nat)=>bif Nat.beq j 6 then .u64 else .i64) z)) (SA.c (.r a n c n 7 (fun (j:Nat)=>bif Nat.beq j 6 then .u64 else .i64) z))/\eS (aI ↑n) (aI ↑n)/\eS (aI (IntKind.wrap .i64 ((↑s.1:Int)+(1:Int)))) (aI ↑s'.1)/\True)/\[SB.abs (QE shM ShS.z ShS.good (Sh.crash s_1.1 s_1.2.1)) x.1]=[SB.abs (QE shM ShS.z ShS.good (XV k (mvL z s'.1))) s'.2])/\n-s'.1<n-s.1 else ∃(s':PlG (PlS.mk k a n c z)),((eS (aP 0 0) (aP 0 0)/\eS (SA.c (.r a n c n 7 (fun (j:Nat)=>bif Nat.beq j 6 then .u64 else .i64) z)) (SA.c (.r a n c n 7 (fun (j:Nat)=>bif Nat.beq j 6 then .u64 else .i64) z))/\eS (aI ↑n) (aI ↑n)/\eS (aI (IntKind.wrap .i64 ((↑s.1:Int)+(1:Int)))) (aI ↑s'.1)/\True)/\[SB.abs (QE shM ShS.z ShS.good (XV k (mvL z s.1))) s.2]=[SB.abs (QE shM ShS.z ShS.good (XV k (mvL z s'.1))) s'.2])/\n-s'.1<n-s.1 else endN (Qi2 W) [] (fun (x:SV) (M:List SB)=>match x with|SV.t [SA.c (.p b off),head]=>[b]|x=>[]) (PlS.mk k a n c z) (SV.t [aP 0 0,SA.c (.v Value.nilIface)]) [SB.abs (QE shM ShS.z ShS.good (XV k (mvL z s.1))) s.2]) (by kernel_rfl) ?_
 have h1:1<=k:=h1
 have h6:k<=6:=h6
 have hn:n<=3000:=hn
 have hu:∀i,i<n->U64 (z i 6):=hu
 refine⟨⟨k⟩,rfl,rfl,⟨h1,h6⟩,fun x _=>⟨⟨⟨0,x,Nat.zero_le _⟩,⟨rfl,rfl,rfl,rfl,trivial⟩,rfl⟩,?_⟩⟩
 rintro⟨i,F,hi⟩
 have hi:i<=n:=hi
 dsimp only
 rw[Int.toNat_natCast]
 obtain⟨g,Fi,hs⟩:=QjX h1 h6 i (mvL z i) (QqT z i) (by omega)
 have hs2:(XV k (mvL z i)).steps<100000000:=by omega
 have enx:XV k (mvL z (i+1))=(XV k (mvL z i)).move (mvAt z i):=by rw[QoU,Qek]
 refine Qp (fun hlt=>?_) (fun hge=>?_)
 · have hlt':i<n:=by omega
   have go (S:Sh) (G:List Nat) (e:S=XV k (mvL z (i+1))):[SB.abs (QE shM ShS.z ShS.good S) G]=[SB.abs (QE shM ShS.z ShS.good (XV k (mvL z (i+1)))) G]:=by rw[e]
   refine⟨⟨hr,by omega,hlt,hlt'⟩,⟨hr,hlt'⟩,QY (fun hk=>?_) (fun hk1=>QY (fun hk=>?_) (fun hk2=>QY (fun hk=>?_) (fun hk3=>QY (fun hk=>?_) (fun hk4=>?_))))⟩
   · exact⟨(XV k (mvL z i),(z i 1,⟨z i 2,z i 3,z i 4⟩),F),rfl,rfl,CallOK.of Fi hs2,fun y _=>⟨⟨i+1,y.1,hlt'⟩,⟨⟨rfl,rfl,rfl,svI (sucI (by omega)),trivial⟩,go _ _ (by rw[enx];exact (if_pos hk).symm)⟩,by dsimp only;omega⟩⟩
   · exact⟨(XV k (mvL z i),(z i 1,z i 5),F),rfl,rfl,fun ht=>RunOK.of Fi (Qer ht).2.2 (by omega) _,fun y _=>⟨⟨i+1,y.1,hlt'⟩,⟨⟨rfl,rfl,rfl,svI (sucI (by omega)),trivial⟩,go _ _ (by rw[enx];exact ((if_neg hk1).trans (if_pos hk)).symm)⟩,by dsimp only;omega⟩⟩
   · exact⟨(XV k (mvL z i),z i 5,F),rfl,rfl,trivial,fun y _=>⟨⟨i+1,y.1,hlt'⟩,⟨⟨rfl,rfl,rfl,svI (sucI (by omega)),trivial⟩,go _ _ (by rw[enx];exact ((if_neg hk1).trans ((if_neg hk2).trans (if_pos hk))).symm)⟩,by dsimp only;omega⟩⟩
   · exact⟨(XV k (mvL z i),z i 6,F),rfl,rfl,Fi.craOK (by omega) (hu i hlt'),fun y _=>⟨⟨i+1,y.1,hlt'⟩,⟨⟨rfl,rfl,rfl,svI (sucI (by omega)),trivial⟩,go _ _ (by rw[enx];exact ((if_neg hk1).trans ((if_neg hk2).trans ((if_neg hk3).trans (if_pos hk)))).symm)⟩,by dsimp only;omega⟩⟩
   · exact⟨⟨i+1,F,hlt'⟩,⟨⟨rfl,rfl,rfl,svI (sucI (by omega)),trivial⟩,go _ _ (by rw[enx];exact ((if_neg hk1).trans ((if_neg hk2).trans ((if_neg hk3).trans (if_neg hk4)))).symm)⟩,by dsimp only;omega⟩
 · obtain rfl:i=n:=by omega
   exact Qj rfl F trivial rfl rfl rfl
theorem TCon.weak {X Y α χ:Type}(c c':TCon Y α χ) {L:X->List SB}{y:X->Y}{good:X->Prop}{P:Program}{f:FuncId}(h:(Con.mem (c.high L y good)).holds P f)
 (e:c'={ c with pre:=c'.pre,val:=c'.val }) (hp:∀z a,c'.pre z a->c.pre z a) (hv:∀n z a r,c'.pre z a->c'.val n z a r=c.val n z a r):(Con.mem (c'.high L y good)).holds P f:=by
 obtain⟨pre',args',ok',next',val',new',len'⟩:=c'
 dsimp only at e hp hv
 injection e with _ e1 e2 e3 _ e4 e5
 subst e1 e2 e3 e4 e5
 intro w0 S
 have h:=h w0 S
 refine⟨h.1,fun x0 h=>(by cases h),fun ρ s w hpp hK HM=>(h.2.2 ρ s w (hp _ _ hpp) hK HM).mono ?_⟩
 rintro e w' ⟨x,ρ',h1,h2,h3,h4,h5⟩
 refine⟨x,ρ',h1,h2,h3,?_,h5⟩
 rw[h4]
 show Ending.returned ((c.val 1 s.1 s.2.1 x.2).den ρ')=Ending.returned ((val' 1 s.1 s.2.1 x.2).den ρ')
 rw[hv 1 s.1 s.2.1 x.2 hpp]
def Qrg:TCon Sh (Int × OpA) Unit where
 pre z a:=CallOK z/\(inT a.1=true/\(z.w a.1.toNat).does=0/\opOk a.2.k a.2.key a.2.x=true)
 args a:=[.c (.v (.int .i64 a.1)),.a [.one (.v (.int .i64 a.2.k)),.one (.v (.int .i64 a.2.key)),.one (.v (.int .i64 a.2.x))]]
 ok _ _ _:=True
 next z a _:=bif inT a.1 then z.call a.1.toNat a.2.k a.2.key a.2.x else z
 val _ z a _:=.o (.c (.v .nilIface))
 new _ _ _ _:=[]
 len:=0
theorem callNH:(Con.mem Qrg.sh).holds Tryz.prog 49:=TCon.weak callA Qrg callH rfl (fun z a h=>h.1) (fun n z a r h=>by
 obtain⟨h1,h2,h3⟩:=h.2
 show SV.o (.c (.v .nilIface))=.o (.c (.v (bif inT a.1 then (bif (z.w a.1.toNat).does==0 then (bif opOk a.2.k a.2.key a.2.x then .nilIface else _)else _)else _)))
 rw[h1,h3,show ((z.w a.1.toNat).does==0)=true from beq_iff_eq.2 h2];rfl)
def runG:TCon Sh (Int × Int) Unit where
 pre z a:=(inT a.1=true->RunOK z a.1.toNat a.2)/\(inT a.1=true/\runB a.2=true)
 args a:=[.c (.v (.int .i64 a.1)),.c (.v (.int .i64 a.2))]
 ok _ _ _:=True
 next z a _:=z.runA a.1 a.2
 val _ z a _:=.t [.c (.v (.int .i64 (z.ran a.1.toNat a.2.toNat:Nat))),.c (.v .nilIface)]
 new _ _ _ _:=[]
 len:=0
theorem runGH:(Con.mem runG.sh).holds Tryz.prog 50:=TCon.weak Qmj runG runH rfl (fun z a h=>h.1) (fun n z a r h=>by
 obtain⟨h1,h2⟩:=h.2
 show SV.t [.c (.v (.int .i64 _)),.c (.v .nilIface)]=.t [.c (.v (.int .i64 (bif inT a.1 then (bif runB a.2 then _ else 0)else 0))),.c (.v (bif inT a.1 then (bif runB a.2 then .nilIface else _)else _))]
 rw[h1,h2];rfl)
def Qhd:PCon:=⟨fun args=>match args with
 |[]=>True
 |_=>False,fun _=>sv (.bool true),fun _=>none⟩
theorem shops_con:(Con.pure Qhd).holds Tryz.prog 24:=by
 refine Qv (AG:=[]) (Γ:=[(48,.mem Qi5),(16,.pure Qj2),(49,.mem Qrg.sh),(50,.mem runG.sh),(51,.mem craC.sh),(52,.mem verC.sh),(53,.mem ddsC.sh),(27,.mem hisC.sh),(54,.mem QiZ.sh)]) Tryz.func24 rfl (by kernel_rfl) Qg Qc
  (fun W=>.cons (newH W _) (.cons (QqJ W _) (.cons (callNH W _) (.cons (runGH W _) (.cons (craH W _) (.cons (verH W _) (.cons (ddsH W _) (.cons (hisH W _) (.cons (doesH W _) (.nil _ _ _)))))))))) Qhd 400 ?_
 intro W args hp
 unfold Qhd at hp;dsimp only at hp;split at hp
 case h_2=>exact hp.elim
 refine⟨rfl,?_⟩
 refine Qi (q:=∃(s:NewS),[aI 1]=[aI s.1]/\eN/\((1:Int)<=s.1/\s.1<=(6:Int))/\∀(x:List Nat),True->True/\∃(s_1:Sh × (Int × OpA) × List Nat),[aP 0 0,aI 0,SA.a [sI 1,sI 0,sI 3]]=[aP 0 0,aI s_1.2.1.1,SA.a [sI s_1.2.1.2.1,sI s_1.2.1.2.2,sI s_1.2.1.2.3]]/\[SB.abs (QE shM ShS.z ShS.good (Sh.new s.1)) x]=[SB.abs (QE shM ShS.z ShS.good s_1.1) s_1.2.2]/\(CallOK s_1.1/\inT s_1.2.1.1=true/\(Sh.w s_1.1 (Int.toNat s_1.2.1.1)).2=(0:Int)/\opOk s_1.2.1.2.1 s_1.2.1.2.2 s_1.2.1.2.3=true)/\∀(x:List Nat × Unit),True->∃(s:Sh × (Int × Int) × List Nat),[aP 0 0,aI 0,aI 200]=[aP 0 0,aI s.2.1.1,aI s.2.1.2]/\[SB.abs (QE shM ShS.z ShS.good (bif inT s_1.2.1.1 then Sh.call s_1.1 (Int.toNat s_1.2.1.1) s_1.2.1.2.1 s_1.2.1.2.2 s_1.2.1.2.3 else s_1.1)) x.1]=[SB.abs (QE shM ShS.z ShS.good s.1) s.2.2]/\((inT s.2.1.1=true->RunOK s.1 (Int.toNat s.2.1.1) s.2.1.2)/\inT s.2.1.1=true/\runB s.2.1.2=true)/\∀(x:List Nat × Unit),True->∃(s_2:Sh × Int × List Nat),[aP 0 0,aU 0]=[aP 0 0,aU s_2.2.1]/\[SB.abs (QE shM ShS.z ShS.good (Sh.runA s.1 s.2.1.1 s.2.1.2)) x.1]=[SB.abs (QE shM ShS.z ShS.good s_2.1) s_2.2.2]/\QlG s_2.1 s_2.2.1/\∀(x:List Nat × Unit),True->bif (↑(Sh.ran s.1 (Int.toNat s.2.1.1) (Int.toNat s.2.1.2)):Int)==(84:Int)then ∃(s:Sh × Unit × List Nat),[aP 0 0]=[aP 0 0]/\[SB.abs (QE shM ShS.z ShS.good (Sh.crash s_2.1 s_2.2.1)) x.1]=[SB.abs (QE shM ShS.z ShS.good s.1) s.2.2]/\((0:Int)<=(Sh.s s.1).1 0/\(Sh.s s.1).1 0<(1000000000:Int))/\∀(x:List Nat × Unit),True->bif (Sh.s s.1).1 0==(1:Int)then ∃(s_3:Sh × Unit × List Nat),[aP 0 0]=[aP 0 0]/\[SB.abs (QE shM ShS.z ShS.good s.1) x.1]=[SB.abs (QE shM ShS.z ShS.good s_3.1) s_3.2.2]/\List.length s_3.1.7<=1000000000/\∀(x:List Nat × RwR),(List.length s_3.1.7<=x.2.1/\x.2.1<=x.2.2)/\IsR 6 Dd.at Dd.nil x.2.4 (List.map (fun (self:Vd)=>self.2) s_3.1.7)->List.length s_3.1.7<=x.2.2/\bif (↑(List.length s_3.1.7):Int)==(1:Int)then ∃(s:Sh × Unit × List Nat),[aP 0 0]=[aP 0 0]/\[SB.abs (QE shM ShS.z ShS.good s_3.1) x.1]=[SB.abs (QE shM ShS.z ShS.good s.1) s.2.2]/\List.length s.1.6<=1000000000/\∀(x:List Nat × RwR),(List.length s.1.6<=x.2.1/\x.2.1<=x.2.2)/\IsE x.2.4 s.1.6->List.length s.1.6<=x.2.2/\bif (↑(List.length s.1.6):Int)==(3:Int)then ∃(s_4:Sh × Nat × List Nat),[aP 0 0,aI 0]=[aP 0 0,aI (↑s_4.2.1:Int)]/\[SB.abs (QE shM ShS.z ShS.good s.1) x.1]=[SB.abs (QE shM ShS.z ShS.good s_4.1) s_4.2.2]/\s_4.2.1<4/\∀(x:List Nat × Unit),True->SV.o (aB ((Sh.w s_4.1 s_4.2.1).2==(0:Int)))=SV.o (aB true)/\true=true else SV.o (aB false)=SV.o (aB true)/\true=true else SV.o (aB false)=SV.o (aB true)/\true=true else SV.o (aB false)=SV.o (aB true)/\true=true else SV.o (aB false)=SV.o (aB true)/\true=true) (by kernel_rfl) ?_
 have l1:((Sh.new 1).call 0 1 0 3).ran 0 200=84:=by kernel_rfl
 have l2:((((Sh.new 1).call 0 1 0 3).run 0 200).crash 0).s.now 0=1:=by kernel_rfl
 have l3:((((Sh.new 1).call 0 1 0 3).run 0 200).crash 0).deeds.length=1:=by kernel_rfl
 have l4:((((Sh.new 1).call 0 1 0 3).run 0 200).crash 0).hist.length=3:=by kernel_rfl
 have l5:(((((Sh.new 1).call 0 1 0 3).run 0 200).crash 0).w 0).does=0:=by kernel_rfl
 have F0:=Qp9 (K:=1) (by decide) (by decide)
 have s1:((Sh.new 1).call 0 1 0 3).steps<=1:=(QgA (Sh.new 1) 0 1 0 3).2
 have F1:=Qns F0 (t:=0) (by decide) 1 0 3
 have hst:=(QdE 0 200 ((Sh.new 1).call 0 1 0 3)).2
 obtain⟨g,Fg⟩:=QjW (t:=0) (by decide) 200 F1 (by omega)
 obtain⟨z1,hz1⟩:∃z1,z1=(Sh.new 1).call 0 1 0 3:=⟨_,rfl⟩
 rw[<- hz1]at l1 l2 l3 l4 l5 Fg hst s1 F1
 have er:z1.runA 0 200=z1.run 0 200:=by unfold Sh.runA;rw[show inT 0=true from rfl,show runB 200=true from rfl];rfl
 obtain⟨z2,hz2⟩:∃z2,z2=z1.run 0 200:=⟨_,rfl⟩
 rw[<- hz2]at l2 l3 l4 l5 Fg hst
 obtain⟨z3,hz3⟩:∃z3,z3=z2.crash 0:=⟨_,rfl⟩
 rw[<- hz3]at l2 l3 l4 l5
 have go {S T:Sh}(G:List Nat) (e:S=T):[SB.abs (QE shM ShS.z ShS.good S) G]=[SB.abs (QE shM ShS.z ShS.good T) G]:=by rw[e]
 have c0:CallOK (Sh.new 1):=CallOK.of F0 (by show (0:Int)<100000000;decide)
 have c1:RunOK z1 0 200:=RunOK.of F1 (by decide) (by omega) 200
 have c2:QlG z2 0:=Fg.craOK (by omega) ⟨by decide,by decide⟩
 have q1:((z1.ran (Int.toNat 0) (Int.toNat 200):Nat):Int)=84:=by
  rw[show z1.ran (Int.toNat 0) (Int.toNat 200)=84 from l1];rfl
 exact⟨⟨1⟩,rfl,rfl,⟨by decide,by decide⟩,fun x _=>⟨trivial,(Sh.new 1,(0,⟨1,0,3⟩),x),rfl,rfl,⟨c0,rfl,rfl,(by decide:opOk 1 0 3=true)⟩,fun y _=>⟨(z1,(0,200),y.1),rfl,go y.1 hz1.symm,⟨fun _=>c1,rfl,rfl⟩,fun y _=>⟨(z2,0,y.1),rfl,go y.1 (er.trans hz2.symm),c2,fun y _=>QY
  (fun _=>⟨(z3,(),y.1),rfl,go y.1 hz3.symm,⟨by show 0<=z3.s.now 0;omega,by show z3.s.now 0<1000000000;omega⟩,fun y _=>QY
   (fun _=>⟨(z3,(),y.1),rfl,rfl,by show z3.deeds.length<=1000000000;omega,fun y hy=>⟨Nat.le_trans hy.1.1 hy.1.2,QY
    (fun _=>⟨(z3,(),y.1),rfl,rfl,by show z3.hist.length<=1000000000;omega,fun y hy=>⟨Nat.le_trans hy.1.1 hy.1.2,QY
     (fun _=>⟨(z3,0,y.1),rfl,rfl,by show 0<4;decide,fun y _=>⟨by rw[show (((z3.w 0).does==0):Bool)=true from beq_iff_eq.2 l5],rfl⟩⟩)
     (fun h=>absurd (by show ((z3.hist.length:Nat):Int)=3;omega) h)⟩⟩)
    (fun h=>absurd (by show ((z3.deeds.length:Nat):Int)=1;omega) h)⟩⟩)
   (fun h=>absurd (by show z3.s.now 0=1;omega) h)⟩)
  (fun h=>absurd q1 h)⟩⟩⟩⟩
end
section
open Go.Lib
abbrev Bs:=List UInt8
theorem Qof {n:Nat}(h:n<256):(UInt8.ofNat n).toNat=n:=by
 rw[UInt8.toNat_ofNat'];omega
theorem Qmt {c:UInt8}(h1:48<=c.toNat) (h2:c.toNat<=57) {v:Nat}(hv:v<1844674407370955161):∀ {l:Bs}{acc:Nat},parseUint10 acc l=.ok v->parseUint10 acc (l++[c])=.ok (v*10+(c.toNat-48))
 |[],acc,h=>by
  simp only[parseUint10,NumEnd.ok.injEq]at h
  subst h
  show parseUint10 acc [c]=_
  unfold parseUint10
  rw[if_pos ⟨h1,h2⟩,if_neg (by omega),if_neg (by omega)];rfl
 |b::l,acc,h=>by
  show parseUint10 acc (b::(l++[c]))=_
  unfold parseUint10 at h ⊢
  split at h
  · split at h
    · cases h
    · split at h
      · cases h
      · rename_i a1 a2 a3
        rw[if_pos a1,if_neg a2,if_neg a3]
        exact Qmt h1 h2 hv h
  · cases h
theorem QnE {u:Nat}(h:u<10):decDigits u=[UInt8.ofNat (48+u)]:=by rw[decDigits,dif_pos h]
theorem Qpu {u:Nat}(h:¬u<10):decDigits u=decDigits (u/10)++[UInt8.ofNat (48+u%10)]:=by rw[decDigits,dif_neg h]
theorem dd_ok:∀(u:Nat),u<1000000000000000000->parseUint10 0 (decDigits u)=.ok u:=by
 intro u
 induction u using Nat.strongRecOn with
 |ind u ih=>
  intro hu
  by_cases h:u<10
  · rw[QnE h]
    unfold parseUint10
    have e:=Qof (n:=48+u) (by omega)
    rw[e,if_pos ⟨by omega,by omega⟩,if_neg (by omega),if_neg (by omega)]
    show NumEnd.ok _=_
    congr 1;omega
  · rw[Qpu h]
    have e:=Qof (n:=48+u%10) (by omega)
    rw[Qmt (by rw[e];omega) (by rw[e];omega) (by omega) (ih (u/10) (by omega) (by omega)),e]
    congr 1;omega
theorem dd_mem {c:UInt8}:∀(u:Nat),c∈decDigits u->48<=c.toNat/\c.toNat<=57:=by
 intro u
 induction u using Nat.strongRecOn with
 |ind u ih=>
  intro hc
  by_cases h:u<10
  · rw[QnE h,List.mem_singleton]at hc
    rw[hc,Qof (by omega)];omega
  · rw[Qpu h,List.mem_append,List.mem_singleton]at hc
    rcases hc with hc|hc
    · exact ih (u/10) (by omega) hc
    · rw[hc,Qof (by omega)];omega
theorem Qo4 {n:Int}(h:0<=n):itoa n=decDigits n.toNat:=by unfold itoa;rw[if_neg (by omega)]
theorem QbB {n:Int}(h0:0<=n) (h1:n<10000000000):(itoa n).length<=10:=by
 rw[Qo4 h0]
 obtain⟨m,rfl⟩:=Int.eq_ofNat_of_zero_le h0
 rw[Int.toNat_natCast]
 have key:∀(k u:Nat),1<=k->u<10^k->(decDigits u).length<=k:=by
  intro k
  induction k with
  |zero=>intro u h;omega
  |succ k ih=>
   intro u _ hu
   by_cases h:u<10
   · rw[QnE h];simp
   · rw[Qpu h,List.length_append,List.length_singleton]
     have hk:1<=k:=by
      rcases Nat.eq_zero_or_pos k with h0|h0
      · subst h0;omega
      · exact h0
     have:=ih (u/10) hk (by rw[Nat.pow_succ]at hu;omega)
     omega
 exact key 10 m (by decide) (by omega)
theorem Qmv (c b:UInt8) (l:Bs):[c].isPrefixOf (b::l)=(c==b):=by simp[List.isPrefixOf]
def nameL:Nat->Bs
 |0=>[112,117,116]
 |1=>[116,97,107,101]
 |2=>[102,114,111,110,116]
 |3=>[98,97,99,107]
 |4=>[112,101,101,107]
 |_=>[99,111,117,110,116]
def keyL (key:Int):Bs:=if 0<key then 58::itoa key else []
def valL (x:Int):Bs:=if 0<x then 61::itoa x else []
def Qby (k key x:Int):Bs:=nameL (k-1).toNat++keyL key++valL x
def codeL:Nat->Bs
 |0=>[100,111,110,101]
 |1=>[101,109,112,116,121]
 |2=>[102,117,108,108]
 |3=>[97,98,115,101,110,116]
 |_=>[119,114,111,110,103]
def sayV (v:Int):Bs:=if 0<v then 32::itoa v else []
def sayL (c v:Int):Bs:=codeL (c-1).toNat++sayV v
end
section
open Go.RowKit
abbrev bsV (l:List UInt8):ByteArray:=⟨l.toArray⟩
structure TxLaid (W:World):Prop where
 tab:Lib.TabIs Tryz.prog W "internal/strconv.uint64pow10" .u64 Lib.pow10Tab
 nam:∀i,i<6->W.cell? ⟨2,i,none⟩=some (.string (bsV (nameL i)))
 cod:∀i,i<5->W.cell? ⟨0,i,none⟩=some (.string (bsV (codeL i)))
theorem var_lt {P:Program}{W:World}{n:String}{cs:Array Value}(h:W.var? P n=some cs):∃g,P.globalNamed n=some g/\g<W.heap.size:=by
 unfold World.var? at h
 cases hg:P.globalNamed n with
 |none=>rw[hg]at h;cases h
 |some g=>
  refine⟨g,rfl,?_⟩
  rcases Nat.lt_or_ge g W.heap.size with h1|h1
  · exact h1
  · rw[hg]at h
    simp[Array.getElem?_eq_none h1]at h
theorem Qqr {P:Program}{W w:World}(hK:∀k,k<W.heap.size->w.heap[k]?=W.heap[k]?) {n:String}{cs:Array Value}(h:W.var? P n=some cs):w.var? P n=some cs:=by
 obtain⟨g,hg,hl⟩:=var_lt h
 unfold World.var? at h ⊢
 rw[hg]at h ⊢
 simp only[Option.bind_some]at h ⊢
 rw[hK g hl];exact h
theorem Qj5 {W w:World}(hK:∀k,k<W.heap.size->w.heap[k]?=W.heap[k]?) {a:Addr}{v:Value}(h:W.cell? a=some v):w.cell? a=some v:=by
 have hl:a.block<W.heap.size:=by
  rcases Nat.lt_or_ge a.block W.heap.size with h1|h1
  · exact h1
  · simp[World.cell?,Array.getElem?_eq_none h1]at h
 unfold World.cell? at h ⊢
 rw[hK a.block hl];exact h
theorem TxLaid.old {W w:World}(h:TxLaid W) (hK:∀k,k<W.heap.size->w.heap[k]?=W.heap[k]?):TxLaid w where
 tab:=Qqr hK h.tab
 nam i hi:=Qj5 hK (h.nam i hi)
 cod i hi:=Qj5 hK (h.cod i hi)
theorem TxLaid.below {W w:World}(h:TxLaid W) {n:Nat}(hb:Below n W w) (hn:W.heap.size<=n):TxLaid w:=h.old fun k hk=>hb.block k (by omega)
end
section
open Go.ChangeShapes Go.WideShapes Go.RowKit Go.Lib
theorem lOwn:ownKnob Tryz.prog.godebug=none:=by kernel_rfl
abbrev laidL:List (String × DataW Unit):=[("math/bits.deBruijn32tab",Rows.laid_math_bits_deBruijn32tab),("math/bits.deBruijn64tab",Rows.laid_math_bits_deBruijn64tab),("internal/strconv.uint64pow10",Rows.laid_internal_strconv_uint64pow10),("unicode/utf8.acceptRanges",Rows.laid_unicode_utf8_acceptRanges),("errors.errorType",Rows.laid_errors_errorType),("gristmill/op.names",Rows.laid_gristmill_op_names),("gristmill/op.codes",Rows.laid_gristmill_op_codes),("unicode/utf8.first",Rows.laid_unicode_utf8_first)]
abbrev laidD:List (String × DataW Unit):=[("math/bits.deBruijn32tab",Rows.laid_math_bits_deBruijn32tab),("math/bits.deBruijn64tab",Rows.laid_math_bits_deBruijn64tab),("internal/strconv.uint64pow10",Rows.laid_internal_strconv_uint64pow10),("unicode/utf8.acceptRanges",Rows.laid_unicode_utf8_acceptRanges),("gristmill/op.names",Rows.laid_gristmill_op_names),("gristmill/op.codes",Rows.laid_gristmill_op_codes),("unicode/utf8.first",Rows.laid_unicode_utf8_first)]
theorem laidD_eq:(laidL.filter fun x=>x.2.handleName?.isNone)=laidD:=by kernel_rfl
theorem laid_one {P:Program}{l:List (String × DataW Unit)}{w:World}{n:String}{d:DataW Unit}(h:laidMet P l w) (hf:l.filter (fun x=>x.1==n)=[(n,d)]):
 ∃g t cs fuel p,P.globalNamed n=some g/\(P.globals[g]?).map (·.type)=some t/\w.var? P n=some cs/\DataW.trod (fun _=>()) P w 0 (fun _=>true) false fuel t cs.toList=some (d,p):=by
 have:=h.filter (fun x=>x.1==n)
 rw[hf]at this
 obtain⟨ps,⟨g,t,cs,fuel,p,q,h1,h2,h3,h4,-,-⟩,-⟩:=this
 exact⟨g,t,cs,fuel,p,h1,h2,h3,h4⟩
theorem cells_of_strs {H:Type}{enc:TypeId × Value->H}{P:Program}{w:World}{base:Nat}{sp:Nat->Bool}{held:Bool}{fuel:Nat}{t e:TypeId}{n:Nat}{cs:List Value}{zs:List (List UInt8)}{p:List MemPlace}
 (ht:P.underlying t=some (.array n e)) (he:P.underlying e=some .string) (hce:P.cellsOf e=1)
 (h:DataW.trod enc P w base sp held fuel t cs=some (.agg (zs.map fun z=>.lit (.string z)),p)) (i:Nat) (z:List UInt8) (hz:zs[i]?=some z):cs[i]?=some (.string ⟨z.toArray⟩):=by
 cases fuel with
 |zero=>simp[DataW.trod]at h
 |succ fuel=>
  simp only[DataW.trod,ht,hce,Nat.mul_one]at h
  split at h
  · rename_i hl
    obtain⟨xs,hm,hx⟩:=Option.map_eq_some_iff.1 h
    have hxs:xs.map (·.1)=zs.map fun z=>(DataW.lit (.string z):DataW H):=by
     have:=congrArg Prod.fst hx
     simpa using this
    have hxl:xs.length=n:=by simpa using mapM_length hm
    have hzl:zs.length=n:=by
     have:=congrArg List.length hxs
     simp at this
     omega
    have hi:i<n:=by
     have:=(List.getElem?_eq_some_iff.1 hz).1
     omega
    obtain⟨b,hb,hf⟩:=mapM_at hm i i (by simp[hi])
    obtain⟨s,hc,hq,_⟩:=DataW.trod_string he hf
    have h1:cs[i]?=some (.string s):=by
     have:=congrArg (·[0]?) hc
     simpa [List.getElem?_take,List.getElem?_drop] using this
    have h2:(xs.map (·.1))[i]?=some (DataW.lit (.string s.data.toList):DataW H):=by simp[hb,hq]
    rw[hxs,List.getElem?_map,hz]at h2
    have h3:z=s.data.toList:=by simpa using h2
    rw[h1,h3]
  · cases h
theorem txLaid_of {W:World}(h:laidMetH Tryz.prog laidL W):TxLaid W:=by
 have h1:laidMet Tryz.prog laidD W:=by rw[<- laidD_eq];exact (laidMetH_iff.1 h).1
 refine⟨?_,?_,?_⟩
 · have h2:=h1.filter (fun x=>x.1 == "internal/strconv.uint64pow10")
   rw[show laidD.filter (fun x=>x.1 == "internal/strconv.uint64pow10")=[("internal/strconv.uint64pow10",tabData .u64 pow10Tab)] by kernel_rfl]at h2
   exact tabIs_of_head (show Tryz.prog.globalNamed "internal/strconv.uint64pow10" =some 6 by kernel_rfl) (by kernel_rfl) Tryz.underlying262 Tryz.underlying33 (by kernel_rfl) (by kernel_rfl) h2
 · intro i hi
   obtain⟨g,t,cs,fuel,p,hg,ht,hv,hd⟩:=laid_one h1 (show laidD.filter (fun x=>x.1 == "gristmill/op.names")=[("gristmill/op.names",Rows.laid_gristmill_op_names)] by kernel_rfl)
   obtain rfl:=Option.some.inj ((show Tryz.prog.globalNamed "gristmill/op.names" =some 2 by kernel_rfl).symm.trans hg)
   obtain rfl:=Option.some.inj ((show (Tryz.prog.globals[2]?).map (·.type)=some 226 by kernel_rfl).symm.trans ht)
   have hz:=cells_of_strs (zs:=[nameL 0,nameL 1,nameL 2,nameL 3,nameL 4,nameL 5]) Tryz.underlying226 Tryz.underlying9 (by kernel_rfl) hd i (nameL i) (by
    rcases (show i=0\/i=1\/i=2\/i=3\/i=4\/i=5 by omega)with rfl|rfl|rfl|rfl|rfl|rfl<;>rfl)
   rw[World.var?_cell hg hv i,<- Array.getElem?_toList];exact hz
 · intro i hi
   obtain⟨g,t,cs,fuel,p,hg,ht,hv,hd⟩:=laid_one h1 (show laidD.filter (fun x=>x.1 == "gristmill/op.codes")=[("gristmill/op.codes",Rows.laid_gristmill_op_codes)] by kernel_rfl)
   obtain rfl:=Option.some.inj ((show Tryz.prog.globalNamed "gristmill/op.codes" =some 0 by kernel_rfl).symm.trans hg)
   obtain rfl:=Option.some.inj ((show (Tryz.prog.globals[0]?).map (·.type)=some 188 by kernel_rfl).symm.trans ht)
   have hz:=cells_of_strs (zs:=[codeL 0,codeL 1,codeL 2,codeL 3,codeL 4]) Tryz.underlying188 Tryz.underlying9 (by kernel_rfl) hd i (codeL i) (by
    rcases (show i=0\/i=1\/i=2\/i=3\/i=4 by omega)with rfl|rfl|rfl|rfl|rfl<;>rfl)
   rw[World.var?_cell hg hv i,<- Array.getElem?_toList];exact hz
theorem maxLen_of {W:World}(hsh:W.ShapedOpen Tryz.prog):∃m,W.cell? ⟨3,0,none⟩=some (.int .i64 m):=Tryz.laysM146.s1_3 W hsh
noncomputable def hWorld (os:Os):World:=
 let w0:=World.holding Tryz.prog os ⟨#[],#[],[]⟩
 { w0 with heap:=w0.heap.modify 1 fun
  |.cells _ t frozen=>.cells #[.iface 232 (.agg #[.pointer (some ⟨9,49,none⟩)])] t frozen
  |o=>o }
noncomputable def laidWorld (os:Os):World:=(hWorld os).layVars Tryz.prog laidD
theorem laidWorld_os (os:Os):(laidWorld os).os=os:=World.layVars_os _ _ _
theorem laidWorld_met (os:Os) (args:Array Value):laidMetH Tryz.prog laidL ((laidWorld os).forCall (fun _ _=>0) ⟨#[],args,[]⟩).memory:=by
 refine laidMetH_of_parts ?_ (by kernel_rfl)
 rw[laidD_eq]
 have e1:(laidD.filter fun x=>(laidD.map (·.1)).contains x.1)=laidD:=List.filter_eq_self.2 fun x hx=>List.contains_iff_mem.2 (List.mem_map.2 ⟨x,hx,rfl⟩)
 have e2:(laidD.filter fun x=>!(laidD.map (·.1)).contains x.1)=[]:=List.filter_eq_nil_iff.2 fun x hx=>by rw[List.contains_iff_mem.2 (List.mem_map.2 ⟨x,hx,rfl⟩)];simp
 have h:laidMet Tryz.prog laidD (laidWorld os):=laidMet_layVars (w0:=hWorld os) (laidD.map (·.1)) [] (by rw[e1];rfl) (by rw[e1];kernel_rfl) (by rw[e1];kernel_rfl) (by rw[e2];exact LaidIn.none)
 exact h.of_heap (by simp[World.memory,World.forCall,Input.heap])
theorem handed_laid {H:Type}{enc:TypeId × Value->H}{a:Assume}{C:Checked}{os:Os}{f:FuncId}{fn:Func}{s:ChangeSpec}{conds:List PathCond}{apart fresh handsOn again:Bool}{X:World->Array Value->Prop}
 (hX:∀(w w':World) (args:Array Value),w.heap=w'.heap->X w args->X w' args)
 (own:ownKnob C.prog.godebug=none) (started:os.Started) (noInit:C.prog.inits.idxOf? f=none) (hfn:C.prog.funcs[f]?=some fn)
 (witness:∃(w:World) (tape:Tape) (i:Input),w.os=os/\(w.forCall tape i).Shaped C.prog/\i.vars=[]/\Input.okWide C.prog (w.forCall tape i) .any w.heap.size f i /\
  ((s.pre enc C.prog fn conds apart (w.forCall tape i).memory i.args/\X (w.forCall tape i).memory i.args)/\sizedMet enc C.prog fn (OpenSpec.ofChange s) apart (w.forCall tape i).memory i.args)/\a.holds C.prog (lone (Frame.enter C.prog f i.args .normal) [] (w.forCall tape i)))
 (contract:∀(W:World) (base:Nat) (args:Array Value) (ds gs:List (DataW H)) (before:List MemPlace),
  (∀(j:Nat) t v,fn.params[j]?=some t->args[j]?=some v->Value.okWide C.prog W .any base t v) ->
  DataW.Whole enc C.prog fn.params.toList s.vars apart W args.toList ds gs before->X W args->W.ShapedOpen C.prog ->
  Calls C.prog f args W fun e W'=>∃v,e=.returned v/\s.post enc C.prog fn apart fresh handsOn again W args v W'):
 ReturnsInHanded a C os f .any (fun w args=>(s.pre enc C.prog fn conds apart w args/\X w args)/\sizedMet enc C.prog fn (OpenSpec.ofChange s) apart w args) (s.post enc C.prog fn apart fresh handsOn again):=by
 refine returnsInHanded_of_calls own started noInit witness ?_
 intro w tape i _ hs _ hok hpre _
 obtain⟨_,_,_,fn',h1,_,_,_,_,hv⟩:=hok
 obtain rfl:fn'=fn:=Option.some.inj (h1.symm.trans hfn)
 obtain⟨⟨⟨ds,gs,before,h2,_⟩,h3⟩,_⟩:=hpre
 refine (contract (w.forCall tape i) w.heap.size i.args ds gs before hv (DataW.Whole.of_heap (w':=w.forCall tape i) (by rfl) h2) (hX _ _ _ (by rfl) h3) hs).mono fun e W' ⟨v,he,hp⟩=>?_
 subst he
 exact ChangeSpec.post_blind hp
end
section
open Go.ChangeShapes Go.WideShapes Go.Deep Go.ChangeAt
theorem blk_lt {w:World}{b o:Nat}{v:Value}(h:w.cell? ⟨b,o,none⟩=some v):b<w.heap.size:=by
 unfold World.cell? at h
 by_cases hb:b<w.heap.size
 · exact hb
 · simp[Array.getElem?_eq_none (Nat.le_of_not_lt hb)]at h
theorem one_int {H:Type}{enc:TypeId × Value->H}{w:World}{base:Nat}{spare:Nat->Bool}{held:Bool}{n:Nat}{t:TypeId}{k:IntKind}{v:Value}{y:Option (DataW H × List MemPlace)}(ht:Tryz.prog.underlying t=some (.int k))
 (h:DataW.trod enc Tryz.prog w base spare held n t [v]=y) (hy:y.isSome):∃z,v=.int k z/\(Lit.int k z).wf=true:=by
 obtain⟨x,rfl⟩:=Option.isSome_iff_exists.1 hy
 obtain⟨z,h1,-,h2⟩:=DataW.trod_int ht h
 simp at h1
 exact⟨z,h1,h2⟩
theorem u64_of_wf {x:Int}(h:(Lit.int .u64 x).wf=true):U64 x:=by
 have h2:(decide ((0:Int)<=x)&&decide (x<=18446744073709551615))=true:=h
 simp only[Bool.and_eq_true,decide_eq_true_eq]at h2
 exact⟨h2.1,by omega⟩
theorem cellsOp_of {H:Type}{enc:TypeId × Value->H}{w:World}{base:Nat}{spare:Nat->Bool}{held:Bool}{n:Nat}{cs:List Value}{y:Option (DataW H × List MemPlace)}
 (h:DataW.trod enc Tryz.prog w base spare held n 32 cs=y) (hy:y.isSome):
 ∃z0 z1 z2:Int,cs=[.int .i64 z0,.int .i64 z1,.int .i64 z2]/\(Lit.int .i64 z0).wf=true/\(Lit.int .i64 z1).wf=true/\(Lit.int .i64 z2).wf=true:=by
 obtain⟨x,rfl⟩:=Option.isSome_iff_exists.1 hy
 obtain⟨ys,n',-,-,hlen,hyl,hf⟩:=DataW.trod_struct Tryz.underlying32 h
 have hc:Tryz.prog.cellsOf 32=3:=by kernel_rfl
 have hc_int:Tryz.prog.cellsOf 3=1:=by kernel_rfl
 rw[hc]at hlen
 match cs,hlen with
 |[v0,v1,v2],_=>
  have hyl':ys.length=3:=hyl
  have g0:DataW.trod enc Tryz.prog w base spare held n' 3 (([v0,v1,v2].drop 0).take (Tryz.prog.cellsOf 3))=ys[0]?:=hf 0 _ rfl
  rw[hc_int]at g0
  dsimp only[List.drop,List.take]at g0
  have g1:DataW.trod enc Tryz.prog w base spare held n' 3 (([v0,v1,v2].drop 1).take (Tryz.prog.cellsOf 3))=ys[1]?:=hf 1 _ rfl
  rw[hc_int]at g1
  dsimp only[List.drop,List.take]at g1
  have g2:DataW.trod enc Tryz.prog w base spare held n' 3 (([v0,v1,v2].drop 2).take (Tryz.prog.cellsOf 3))=ys[2]?:=hf 2 _ rfl
  rw[hc_int]at g2
  dsimp only[List.drop,List.take]at g2
  obtain⟨z0,rfl,w0⟩:=one_int Tryz.underlying3 g0 (by simp[hyl'])
  obtain⟨z1,rfl,w1⟩:=one_int Tryz.underlying3 g1 (by simp[hyl'])
  obtain⟨z2,rfl,w2⟩:=one_int Tryz.underlying3 g2 (by simp[hyl'])
  exact⟨z0,z1,z2,rfl,w0,w1,w2⟩
theorem cellsMove_of {H:Type}{enc:TypeId × Value->H}{w:World}{base:Nat}{spare:Nat->Bool}{held:Bool}{n:Nat}{cs:List Value}{y:Option (DataW H × List MemPlace)}
 (h:DataW.trod enc Tryz.prog w base spare held n 181 cs=y) (hy:y.isSome):
 ∃z0 z1 z2 z3 z4 z5 z6:Int,cs=[.int .i64 z0,.int .i64 z1,.int .i64 z2,.int .i64 z3,.int .i64 z4,.int .i64 z5,.int .u64 z6]/\(Lit.int .i64 z0).wf=true/\(Lit.int .i64 z1).wf=true/\(Lit.int .i64 z2).wf=true/\(Lit.int .i64 z3).wf=true/\(Lit.int .i64 z4).wf=true/\(Lit.int .i64 z5).wf=true/\(Lit.int .u64 z6).wf=true:=by
 obtain⟨x,rfl⟩:=Option.isSome_iff_exists.1 hy
 obtain⟨ys,n',-,-,hlen,hyl,hf⟩:=DataW.trod_struct Tryz.underlying181 h
 have hc:Tryz.prog.cellsOf 181=7:=by kernel_rfl
 have hc_int:Tryz.prog.cellsOf 3=1:=by kernel_rfl
 have hc_Op:Tryz.prog.cellsOf 32=3:=by kernel_rfl
 have hc_u64:Tryz.prog.cellsOf 33=1:=by kernel_rfl
 rw[hc]at hlen
 match cs,hlen with
 |[v0,v1,v2,v3,v4,v5,v6],_=>
  have hyl':ys.length=5:=hyl
  have g0:DataW.trod enc Tryz.prog w base spare held n' 3 (([v0,v1,v2,v3,v4,v5,v6].drop 0).take (Tryz.prog.cellsOf 3))=ys[0]?:=hf 0 _ rfl
  rw[hc_int]at g0
  dsimp only[List.drop,List.take]at g0
  have g1:DataW.trod enc Tryz.prog w base spare held n' 3 (([v0,v1,v2,v3,v4,v5,v6].drop 1).take (Tryz.prog.cellsOf 3))=ys[1]?:=hf 1 _ rfl
  rw[hc_int]at g1
  dsimp only[List.drop,List.take]at g1
  have g2:DataW.trod enc Tryz.prog w base spare held n' 32 (([v0,v1,v2,v3,v4,v5,v6].drop 2).take (Tryz.prog.cellsOf 32))=ys[2]?:=hf 2 _ rfl
  rw[hc_Op]at g2
  dsimp only[List.drop,List.take]at g2
  have g3:DataW.trod enc Tryz.prog w base spare held n' 3 (([v0,v1,v2,v3,v4,v5,v6].drop 5).take (Tryz.prog.cellsOf 3))=ys[3]?:=hf 3 _ rfl
  rw[hc_int]at g3
  dsimp only[List.drop,List.take]at g3
  have g4:DataW.trod enc Tryz.prog w base spare held n' 33 (([v0,v1,v2,v3,v4,v5,v6].drop 6).take (Tryz.prog.cellsOf 33))=ys[4]?:=hf 4 _ rfl
  rw[hc_u64]at g4
  dsimp only[List.drop,List.take]at g4
  obtain⟨z0,rfl,w0⟩:=one_int Tryz.underlying3 g0 (by simp[hyl'])
  obtain⟨z1,rfl,w1⟩:=one_int Tryz.underlying3 g1 (by simp[hyl'])
  obtain⟨z2,z3,z4,he2,w2,w3,w4⟩:=cellsOp_of g2 (by simp[hyl'])
  simp only[List.cons.injEq,and_true]at he2
  obtain⟨rfl,rfl,rfl⟩:=he2
  obtain⟨z5,rfl,w5⟩:=one_int Tryz.underlying3 g3 (by simp[hyl'])
  obtain⟨z6,rfl,w6⟩:=one_int Tryz.underlying33 g4 (by simp[hyl'])
  exact⟨z0,z1,z2,z3,z4,z5,z6,rfl,w0,w1,w2,w3,w4,w5,w6⟩
theorem rowsMove_of {H:Type}{enc:TypeId × Value->H}{w:World}{base:Nat}{spare:Nat->Bool}{held:Bool}{a0:Option Addr}{len0 cap0:Nat}{d0:DataW H}{p0:List MemPlace}
 (h:DataW.Trod enc Tryz.prog w base spare held 65 (.slice a0 len0 cap0) d0 p0):∃f,MvIn w a0 len0 cap0 f:=by
 obtain⟨fuel,hf⟩:=h
 have hc:Tryz.prog.cellsOf 181=7:=by kernel_rfl
 rcases open_slice Tryz.underlying65 hf with⟨hcs,-⟩|⟨a,len,cap,m,n,D,Pl,hcs,hb,hl,hm,hmm,hx,hi⟩
 · simp[Value.cells]at hcs
   obtain⟨rfl,rfl,rfl⟩:=hcs
   exact⟨fun _ _=>0,⟨Nat.le_refl _,by omega,.inl rfl⟩,fun i hi=>absurd hi (Nat.not_lt_zero _)⟩
 · simp[Value.cells]at hcs
   obtain⟨rfl,rfl,rfl⟩:=hcs
   unfold maxLen at hm
   rw[hc]at hi
   have hi':∀i,i<len0->∃z:Nat->Int,∀j,j<7->w.cell? (a.add (i*7+j))=some (.int (mvK j) (z j))/\(Lit.int (mvK j) (z j)).wf=true:=by
    intro i hil
    obtain⟨cs,h1,h2⟩:=hi i (by rw[hmm];split<;>omega)
    obtain⟨z0,z1,z2,z3,z4,z5,z6,rfl,w0,w1,w2,w3,w4,w5,w6⟩:=cellsMove_of h2 (by rfl)
    obtain⟨-,-,hat⟩:=World.cells?_some h1
    refine⟨fun j=>[z0,z1,z2,z3,z4,z5,z6].getD j 0,fun j hj=>?_⟩
    rw[<- Go.Deep.add_add,hat j (by simpa using hj)]
    match j,hj with
    |0,_=>exact⟨rfl,w0⟩
    |1,_=>exact⟨rfl,w1⟩
    |2,_=>exact⟨rfl,w2⟩
    |3,_=>exact⟨rfl,w3⟩
    |4,_=>exact⟨rfl,w4⟩
    |5,_=>exact⟨rfl,w5⟩
    |6,_=>exact⟨rfl,w6⟩
   by_cases h0:len0=0
   · subst h0;exact⟨fun _ _=>0,⟨Nat.zero_le _,by omega,.inl rfl⟩,fun i hi=>absurd hi (Nat.not_lt_zero _)⟩
   · obtain⟨z,hz⟩:=hi' 0 (by omega)
     obtain⟨b,off,spot⟩:=a
     have hspot:spot=none:=by simpa [Addr.add] using World.cell?_spot (hz 0 (by omega)).1
     subst hspot
     have hadd:∀i,(⟨b,off,none⟩:Addr).add i=⟨b,off+i,none⟩:=fun i=>by
      unfold Addr.add;split
      · subst i;rfl
      · rfl
     classical
     let F:Nat->Nat->Int:=fun i=>if h:i<len0 then Classical.choose (hi' i h)else fun _=>0
     refine⟨F,⟨hl,by omega,.inr ⟨b,off,rfl,?_,fun j hj i hi0=>?_⟩⟩,fun j hj=>?_⟩
     · have:=(hz 0 (by omega)).1;rw[hadd]at this;exact blk_lt this
     · have hF:F j=Classical.choose (hi' j hj):=by simp only[F,dif_pos hj]
       obtain⟨c1,c2⟩:=Classical.choose_spec (hi' j hj) i hi0
       rw[<- hF]at c1 c2
       rw[hadd,<- Nat.add_assoc]at c1
       exact⟨c1,trivial⟩
     · have hF:F j=Classical.choose (hi' j hj):=by simp only[F,dif_pos hj]
       have c2:=(Classical.choose_spec (hi' j hj) 6 (by decide)).2
       rw[<- hF]at c2
       exact u64_of_wf c2
theorem aggOp_of {H:Type}{enc:TypeId × Value->H}{w:World}{base b0:Nat}{spare:Nat->Bool}{held:Bool}{v:Value}{d:DataW H}{p:List MemPlace}
 (hv:Value.okWide Tryz.prog w .any b0 32 v) (h:DataW.Trod enc Tryz.prog w base spare held 32 v d p):
 ∃z0 z1 z2:Int,v=.agg #[.int .i64 z0,.int .i64 z1,.int .i64 z2]/\(Lit.int .i64 z0).wf=true/\(Lit.int .i64 z1).wf=true/\(Lit.int .i64 z2).wf=true:=by
 obtain⟨cs,rfl,hs⟩:=okWide_struct Tryz.underlying32 hv
 obtain⟨fuel,hf⟩:=h
 obtain⟨z0,z1,z2,hc,w0,w1,w2⟩:=cellsOp_of hf (by rfl)
 refine⟨z0,z1,z2,?_,w0,w1,w2⟩
 have:cs.toList=[.int .i64 z0,.int .i64 z1,.int .i64 z2]:=hc
 rw[<- Array.toArray_toList (xs:=cs),this]
end
section
open Go.RowKit
theorem QcX (n:Int) (h0 : -9223372036854775808<=n) (h1:n<=9223372036854775807) {w:World}(hL:TxLaid w):
 Calls Tryz.prog 59 #[.int .i64 n] w fun e w'=>e=.returned (.string (bsV (Lib.itoa n)))/\Below w.heap.size w w':=
 (Tryz.strconv_Itoa n h0 h1 w hL.tab).mono fun e w' ⟨h,k,os,hw⟩=>⟨h,by rw[hw];exact Lib.below_grow _ w (Nat.le_refl _) k os⟩
theorem Qe3 (j:Nat):(nameL j).length<=5:=by
 rcases j with _|_|_|_|_|j<;>(show List.length _<=5;simp[nameL])
theorem QoA (k key x:Int) {w:World}(ho:opOk k key x=false) (hr:∀w,Calls Tryz.prog 11 #[.agg #[.int .i64 k,.int .i64 key,.int .i64 x]] w fun e w'=>e=.returned (.bool false)/\Below w.heap.size w w'):
 Calls Tryz.prog 100 #[.agg #[.int .i64 k,.int .i64 key,.int .i64 x]] w fun e w'=>e=.returned (.tuple #[.string (bsV []),.iface 91 (.int .i64 1)])/\Below w.heap.size w w':=by
 go_enter Tryz.func100,Tryz.ntmps100
 go_wp2_with (go_at_call 11;refine (hr _).mono ?_;rintro e w1 ⟨rfl,hb1⟩)
 go_ret2
 exact⟨rfl,((Below.refl _ w).alloc (Nat.le_refl _) _).trans (hb1.mono (by simp))⟩
theorem Qoz (k key x:Int) {w:World}(hL:TxLaid w) (ho:opOk k key x=true) (hr:∀w,Calls Tryz.prog 11 #[.agg #[.int .i64 k,.int .i64 key,.int .i64 x]] w fun e w'=>e=.returned (.bool true)/\Below w.heap.size w w'):
 Calls Tryz.prog 100 #[.agg #[.int .i64 k,.int .i64 key,.int .i64 x]] w fun e w'=>e=.returned (.tuple #[.string (bsV (Qby k key x)),.nilIface])/\Below w.heap.size w w':=by
 have h:=of_decide_eq_true ho
 clear ho
 go_enter Tryz.func100,Tryz.ntmps100
 go_wp2_with (go_at_call 11;refine (hr _).mono ?_;rintro e w1 ⟨rfl,hb1⟩;refine Hid.out ?_)
 have hL1:TxLaid w1:=(hL.below ((Below.refl _ w).alloc (Nat.le_refl _) (.cells #[.int .i64 k,.int .i64 key,.int .i64 x] 32)) (Nat.le_refl _)).below hb1 (Nat.le_refl _)
 have hc:∀i,i<3->w1.cell? ⟨w.heap.size,i,none⟩= #[Value.int .i64 k,.int .i64 key,.int .i64 x][i]?:=fun i hi=>by
  rw[hb1.cell (by simp)]
  simp
 have hb:Below w.heap.size w w1:=((Below.refl _ w).alloc (Nat.le_refl _) _).trans (hb1.mono (by simp))
 have hlt:w.heap.size<w1.heap.size:=by have:=hb1.size;simp at this;omega
 clear hb1
 have c0:=hc 0 (by decide)
 have c1:=hc 1 (by decide)
 have c2:=hc 2 (by decide)
 simp at c0 c1 c2
 clear hc
 obtain⟨j,hj,hjk,hn⟩:∃j:Nat,k=(j:Int)+1/\j<6/\w1.cell? ⟨2,j,none⟩=some (.string (bsV (nameL j))):=⟨(k-1).toNat,by omega,by omega,hL1.nam _ (by omega)⟩
 subst hj
 refine Lib.hid ?_
 by_cases h1:0<key<;>by_cases h2:0<x
 · have g1:decide (key>0)=true:=decide_eq_true h1
   have g2:decide (x>0)=true:=decide_eq_true h2
   have s2:(nameL j).length<=5:=Qe3 j
   have skey:(Lib.itoa key).length<=10:=QbB (by omega) (by omega)
   have pkey:¬9223372036854775807<1+(Lib.itoa key).length:=by omega
   have qkey:¬9223372036854775807<(nameL j).length+(1+(Lib.itoa key).length):=by omega
   have sx:(Lib.itoa x).length<=10:=QbB (by omega) (by omega)
   have px:¬9223372036854775807<1+(Lib.itoa x).length:=by omega
   have qx:¬9223372036854775807<(nameL j).length+(1+(Lib.itoa key).length)+(1+(Lib.itoa x).length):=by omega
   have i1:=QcX key (by omega) (by omega) hL1
   go_wp2_with (go_at_call 59;refine i1.mono ?_;rintro e w2 ⟨rfl,hb2⟩;refine Hid.out ?_)
   have d2:w2.cell? ⟨w.heap.size,2,none⟩=some (.int .i64 x):=(hb2.cell hlt).trans c2
   have hL2:=hL1.below hb2 (Nat.le_refl _)
   have i2:=QcX x (by omega) (by omega) hL2
   refine Lib.hid ?_
   go_wp2_with (go_at_call 59;refine i2.mono ?_;rintro e w3 ⟨rfl,hb3⟩)
   go_ret2
   refine⟨?_,((hb.trans (hb2.mono (by omega))).trans (hb3.mono (by have:=hb2.size;omega)))⟩
   refine congrArg (fun s=>Ending.returned (Value.tuple #[Value.string s,Value.nilIface])) (Go.WideShapes.bytes_inj ?_)
   simp[Qby,keyL,valL,h1,h2]
 · have g1:decide (key>0)=true:=decide_eq_true h1
   have g2:decide (x>0)=false:=decide_eq_false h2
   have s2:(nameL j).length<=5:=Qe3 j
   have skey:(Lib.itoa key).length<=10:=QbB (by omega) (by omega)
   have pkey:¬9223372036854775807<1+(Lib.itoa key).length:=by omega
   have qkey:¬9223372036854775807<(nameL j).length+(1+(Lib.itoa key).length):=by omega
   have i1:=QcX key (by omega) (by omega) hL1
   go_wp2_with (go_at_call 59;refine i1.mono ?_;rintro e w2 ⟨rfl,hb2⟩;refine Hid.out ?_)
   have d2:w2.cell? ⟨w.heap.size,2,none⟩=some (.int .i64 x):=(hb2.cell hlt).trans c2
   refine Lib.hid ?_
   go_wp2_with fail
   go_ret2
   refine⟨?_,(hb.trans (hb2.mono (by omega)))⟩
   refine congrArg (fun s=>Ending.returned (Value.tuple #[Value.string s,Value.nilIface])) (Go.WideShapes.bytes_inj ?_)
   simp[Qby,keyL,valL,h1,h2]
 · have g1:decide (key>0)=false:=decide_eq_false h1
   have g2:decide (x>0)=true:=decide_eq_true h2
   have s2:(nameL j).length<=5:=Qe3 j
   have sx:(Lib.itoa x).length<=10:=QbB (by omega) (by omega)
   have px:¬9223372036854775807<1+(Lib.itoa x).length:=by omega
   have qx:¬9223372036854775807<(nameL j).length+(1+(Lib.itoa x).length):=by omega
   have i2:=QcX x (by omega) (by omega) hL1
   go_wp2_with (go_at_call 59;refine i2.mono ?_;rintro e w3 ⟨rfl,hb3⟩)
   go_ret2
   refine⟨?_,(hb.trans (hb3.mono (by omega)))⟩
   refine congrArg (fun s=>Ending.returned (Value.tuple #[Value.string s,Value.nilIface])) (Go.WideShapes.bytes_inj ?_)
   simp[Qby,keyL,valL,h1,h2]
 · have g1:decide (key>0)=false:=decide_eq_false h1
   have g2:decide (x>0)=false:=decide_eq_false h2
   have s2:(nameL j).length<=5:=Qe3 j
   go_wp2_with fail
   go_ret2
   refine⟨?_,hb⟩
   refine congrArg (fun s=>Ending.returned (Value.tuple #[Value.string s,Value.nilIface])) (Go.WideShapes.bytes_inj ?_)
   simp[Qby,keyL,valL,h1,h2]
theorem QpC (j:Nat):(codeL j).length<=6:=by
 rcases j with _|_|_|_|j<;>(show List.length _<=6;simp[codeL])
theorem say_no (c v:Int) {w:World}(hr:∀w,Calls Tryz.prog 101 #[.agg #[.int .i64 c,.int .i64 v]] w fun e w'=>e=.returned (.bool false)/\Below w.heap.size w w'):
 Calls Tryz.prog 61 #[.agg #[.int .i64 c,.int .i64 v]] w fun e w'=>e=.returned (.string (bsV [63]))/\Below w.heap.size w w':=by
 go_enter Tryz.func61,Tryz.ntmps61
 go_wp2_with (go_at_call 101;refine (hr _).mono ?_;rintro e w1 ⟨rfl,hb1⟩)
 go_ret
 exact⟨rfl,((Below.refl _ w).alloc (Nat.le_refl _) _).trans (hb1.mono (by simp))⟩
theorem say_ok (c v:Int) {w:World}(hL:TxLaid w) (ho:ansOkB c v=true) (hr:∀w,Calls Tryz.prog 101 #[.agg #[.int .i64 c,.int .i64 v]] w fun e w'=>e=.returned (.bool true)/\Below w.heap.size w w'):
 Calls Tryz.prog 61 #[.agg #[.int .i64 c,.int .i64 v]] w fun e w'=>e=.returned (.string (bsV (sayL c v)))/\Below w.heap.size w w':=by
 have h:=of_decide_eq_true ho
 clear ho
 go_enter Tryz.func61,Tryz.ntmps61
 go_wp2_with (go_at_call 101;refine (hr _).mono ?_;rintro e w1 ⟨rfl,hb1⟩;refine Hid.out ?_)
 have hL1:TxLaid w1:=(hL.below ((Below.refl _ w).alloc (Nat.le_refl _) (.cells #[.int .i64 c,.int .i64 v] 40)) (Nat.le_refl _)).below hb1 (Nat.le_refl _)
 have hc:∀i,i<2->w1.cell? ⟨w.heap.size,i,none⟩= #[Value.int .i64 c,.int .i64 v][i]?:=fun i hi=>by
  rw[hb1.cell (by simp)]
  simp
 have hb:Below w.heap.size w w1:=((Below.refl _ w).alloc (Nat.le_refl _) _).trans (hb1.mono (by simp))
 have hlt:w.heap.size<w1.heap.size:=by have:=hb1.size;simp at this;omega
 clear hb1
 have c0:=hc 0 (by decide)
 have c1:=hc 1 (by decide)
 simp at c0 c1
 clear hc
 obtain⟨j,hj,hjk,hn⟩:∃j:Nat,c=(j:Int)+1/\j<5/\w1.cell? ⟨0,j,none⟩=some (.string (bsV (codeL j))):=⟨(c-1).toNat,by omega,by omega,hL1.cod _ (by omega)⟩
 subst hj
 have s2:(codeL j).length<=6:=QpC j
 refine Lib.hid ?_
 by_cases h1:0<v
 · have g1:decide (v>0)=true:=decide_eq_true h1
   have sv:(Lib.itoa v).length<=10:=QbB (by omega) (by omega)
   have pv:¬9223372036854775807<1+(Lib.itoa v).length:=by omega
   have qv:¬9223372036854775807<(codeL j).length+(1+(Lib.itoa v).length):=by omega
   have i1:=QcX v (by omega) (by omega) hL1
   go_wp2_with (go_at_call 59;refine i1.mono ?_;rintro e w2 ⟨rfl,hb2⟩)
   go_ret
   refine⟨?_,hb.trans (hb2.mono (by omega))⟩
   refine congrArg (fun s=>Ending.returned (Value.string s)) (Go.WideShapes.bytes_inj ?_)
   simp[sayL,sayV,h1]
 · have g1:decide (v>0)=false:=decide_eq_false h1
   go_wp2_with fail
   go_ret
   refine⟨?_,hb⟩
   refine congrArg (fun s=>Ending.returned (Value.string s)) (Go.WideShapes.bytes_inj ?_)
   simp[sayL,sayV,h1]
abbrev opV (a b c:Int):SA:=.a [.one (.v (.int .i64 a)),.one (.v (.int .i64 b)),.one (.v (.int .i64 c))]
abbrev anV (a b:Int):SA:=.a [.one (.v (.int .i64 a)),.one (.v (.int .i64 b))]
abbrev erV (n:Int):SA:=.c (.v (.iface 91 (.int .i64 n)))
abbrev txV (l:List UInt8):SA:=.c (.v (.string (bsV l)))
def Qi4:PCon:=⟨fun args=>match args with
 |[.a [.one (.v (.int .i64 a)),.one (.v (.int .i64 b)),.one (.v (.int .i64 c))]]=>True
 |_=>False,fun args=>match args with
 |[.a [.one (.v (.int .i64 a)),.one (.v (.int .i64 b)),.one (.v (.int .i64 c))]]=>sv (.bool (opOk a b c))
 |_=>sv undef,fun _=>none⟩
theorem QoJ:(Con.pure Qi4).holds Tryz.prog 11:=by
 refine Qv (AG:=[]) (Γ:=[]) Tryz.func11 rfl (by kernel_rfl) Qg Qc (fun _=>GamOk.nil _ _ _) Qi4 400 ?_
 intro W args hp
 unfold Qi4 at hp;dsimp only at hp;split at hp
 case h_2=>exact hp.elim
 rename_i a b c
 refine⟨rfl,?_⟩
 refine Qi (q:=bif decide (a>=(1:Int))then bif decide (a<=(6:Int))then bif decide (b>=(0:Int))then bif decide (b<=(1000:Int))then bif decide (c>=(0:Int))then SV.o (aB (decide (c<=(4294967295:Int))))=SV.o (aB (opOk a b c))/\true=true else SV.o (aB false)=SV.o (aB (opOk a b c))/\true=true else SV.o (aB false)=SV.o (aB (opOk a b c))/\true=true else SV.o (aB false)=SV.o (aB (opOk a b c))/\true=true else SV.o (aB false)=SV.o (aB (opOk a b c))/\true=true else SV.o (aB false)=SV.o (aB (opOk a b c))/\true=true) (by kernel_rfl) ?_
 repeat' (first|refine Qp (fun _=>?_) (fun _=>?_)|refine And.intro ?_ ?_)
 all_goals (first|rfl|(refine svB ?_;unfold opOk;first|(rw[decide_eq_decide];omega)|(symm;rw[decide_eq_false_iff_not];omega)))
theorem QjA (k key x:Int) (w:World):Calls Tryz.prog 11 #[.agg #[.int .i64 k,.int .i64 key,.int .i64 x]] w fun e w'=>e=.returned (.bool (opOk k key x))/\Below w.heap.size w w':=
 (QoJ w (fun _=>False)).2 (fun _=>0) [opV k key x] w trivial (Kept.refl _ w)
def Qhn:PCon:=⟨fun args=>match args with
 |[.a [.one (.v (.int .i64 a)),.one (.v (.int .i64 b))]]=>True
 |_=>False,fun args=>match args with
 |[.a [.one (.v (.int .i64 a)),.one (.v (.int .i64 b))]]=>sv (.bool (ansOkB a b))
 |_=>sv undef,fun _=>none⟩
theorem Qn5:(Con.pure Qhn).holds Tryz.prog 101:=by
 refine Qv (AG:=[]) (Γ:=[]) Tryz.func101 rfl (by kernel_rfl) Qg Qc (fun _=>GamOk.nil _ _ _) Qhn 400 ?_
 intro W args hp
 unfold Qhn at hp;dsimp only at hp;split at hp
 case h_2=>exact hp.elim
 rename_i a b
 refine⟨rfl,?_⟩
 refine Qi (q:=bif decide (a>=(1:Int))then bif decide (a<=(5:Int))then bif decide (b>=(0:Int))then bif decide (b<=(4294967295:Int))then bif a==(1:Int)then SV.o (aB true)=SV.o (aB (ansOkB a b))/\true=true else SV.o (aB (b==(0:Int)))=SV.o (aB (ansOkB a b))/\true=true else SV.o (aB false)=SV.o (aB (ansOkB a b))/\true=true else SV.o (aB false)=SV.o (aB (ansOkB a b))/\true=true else SV.o (aB false)=SV.o (aB (ansOkB a b))/\true=true else SV.o (aB false)=SV.o (aB (ansOkB a b))/\true=true) (by kernel_rfl) ?_
 repeat' (first|refine Qp (fun _=>?_) (fun _=>?_)|refine QY (fun _=>?_) (fun _=>?_)|refine And.intro ?_ ?_)
 all_goals (first|rfl|(refine svB ?_;unfold ansOkB;first|(symm;rw[decide_eq_false_iff_not];omega)|(symm;rw[decide_eq_true_iff];omega)|(rw[decide_eq_decide];omega)|(rw[Bool.eq_iff_iff,beq_iff_eq,decide_eq_true_iff];omega)))
theorem Qix (c v:Int) (w:World):Calls Tryz.prog 101 #[.agg #[.int .i64 c,.int .i64 v]] w fun e w'=>e=.returned (.bool (ansOkB c v))/\Below w.heap.size w w':=
 (Qn5 w (fun _=>False)).2 (fun _=>0) [anV c v] w trivial (Kept.refl _ w)
theorem TxLaid.kept {W w:World}(h:TxLaid W) (k:Kept (fun _=>False) W w):TxLaid w:=h.old fun b hb=>k.block b hb (fun h=>h)
def Qhe:PCon:=⟨fun args=>match args with
 |[.a [.one (.v (.int .i64 a)),.one (.v (.int .i64 b)),.one (.v (.int .i64 c))]]=>True
 |_=>False,fun args=>match args with
 |[.a [.one (.v (.int .i64 a)),.one (.v (.int .i64 b)),.one (.v (.int .i64 c))]]=>.t [txV (Qby a b c),nilE]
 |_=>sv undef,fun args=>match args with
 |[.a [.one (.v (.int .i64 a)),.one (.v (.int .i64 b)),.one (.v (.int .i64 c))]]=>some (opOk a b c,.t [txV [],erV 1])
 |_=>none⟩
theorem Qmu (W:World) (hL:TxLaid W):(Con.pure Qhe).holdsAt Tryz.prog W (fun _=>False) 100:=by
 refine⟨by kernel_rfl,fun ρ args w hp hK=>?_⟩
 unfold Qhe at hp;dsimp only at hp;split at hp
 case h_2=>exact hp.elim
 rename_i a b c
 cases ho:opOk a b c
 · refine (QoA a b c ho (fun w=>by have:=QjA a b c w;rwa [ho]at this)).mono fun e w' ⟨h1,h2⟩=>⟨?_,h2⟩
   rw[h1]
   show _=Ending.returned ((bif opOk a b c then SV.t [txV (Qby a b c),nilE]else .t [txV [],erV 1]).den ρ)
   rw[ho];rfl
 · refine (Qoz a b c (hL.kept hK) ho (fun w=>by have:=QjA a b c w;rwa [ho]at this)).mono fun e w' ⟨h1,h2⟩=>⟨?_,h2⟩
   rw[h1]
   show _=Ending.returned ((bif opOk a b c then SV.t [txV (Qby a b c),nilE]else .t [txV [],erV 1]).den ρ)
   rw[ho];rfl
def QnI:PCon:=⟨fun args=>match args with
 |[.a [.one (.v (.int .i64 a)),.one (.v (.int .i64 b))]]=>True
 |_=>False,fun args=>match args with
 |[.a [.one (.v (.int .i64 a)),.one (.v (.int .i64 b))]]=>.o (txV (sayL a b))
 |_=>sv undef,fun args=>match args with
 |[.a [.one (.v (.int .i64 a)),.one (.v (.int .i64 b))]]=>some (ansOkB a b,.o (txV [63]))
 |_=>none⟩
theorem Qoo (W:World) (hL:TxLaid W):(Con.pure QnI).holdsAt Tryz.prog W (fun _=>False) 61:=by
 refine⟨by kernel_rfl,fun ρ args w hp hK=>?_⟩
 unfold QnI at hp;dsimp only at hp;split at hp
 case h_2=>exact hp.elim
 rename_i a b
 cases ho:ansOkB a b
 · refine (say_no a b (fun w=>by have:=Qix a b w;rwa [ho]at this)).mono fun e w' ⟨h1,h2⟩=>⟨?_,h2⟩
   rw[h1]
   show _=Ending.returned ((bif ansOkB a b then SV.o (txV (sayL a b))else .o (txV [63])).den ρ)
   rw[ho];rfl
 · refine (say_ok a b (hL.kept hK) ho (fun w=>by have:=Qix a b w;rwa [ho]at this)).mono fun e w' ⟨h1,h2⟩=>⟨?_,h2⟩
   rw[h1]
   show _=Ending.returned ((bif ansOkB a b then SV.o (txV (sayL a b))else .o (txV [63])).den ρ)
   rw[ho];rfl
end
section
open Go.Lib
def nmL (k key x:Int):Bs:=bif opOk k key x then Qby k key x else [63]
def syL (c v:Int):Bs:=bif ansOkB c v then sayL c v else [63]
theorem QnF:∀(k u:Nat),1<=k->u<10^k->(decDigits u).length<=k
 |0,u,h,_=>absurd h (by decide)
 |1,u,_,h=>by rw[QnE (by omega)];exact Nat.le_refl _
 |k+2,u,_,h=>by
  by_cases h1:u<10
  · rw[QnE h1];simp
  · rw[Qpu h1,List.length_append,List.length_singleton]
    have:=QnF (k+1) (u/10) (by omega) (by rw[Nat.div_lt_iff_lt_mul (by decide)];rw[Nat.pow_succ]at h;exact h)
    omega
theorem Qah {n:Int}(h0 : -9223372036854775808<=n) (h1:n<=9223372036854775807):(itoa n).length<=20:=by
 unfold itoa
 split
 · have:=QnF 19 n.natAbs (by decide) (by omega)
   simp only[List.length_cons]
   omega
 · have:=QnF 19 n.toNat (by decide) (by omega)
   omega
theorem Qp6 (k key x:Int):(nmL k key x).length<=27:=by
 unfold nmL
 cases h:opOk k key x
 · show ([63]:Bs).length<=27;decide
 · have h:=of_decide_eq_true h
   have h1:(nameL (k-1).toNat).length<=5:=by
    generalize (k-1).toNat=j
    rcases j with _|_|_|_|_|j<;>(show List.length _<=5;simp[nameL])
   have h2:(keyL key).length<=11:=by
    unfold keyL
    split
    · have:=QbB (n:=key) (by omega) (by omega)
      simp only[List.length_cons];omega
    · simp
   have h3:(valL x).length<=11:=by
    unfold valL
    split
    · have:=QbB (n:=x) (by omega) (by omega)
      simp only[List.length_cons];omega
    · simp
   show (Qby k key x).length<=27
   unfold Qby
   simp only[List.length_append];omega
theorem Qp1 (c v:Int):(syL c v).length<=17:=by
 unfold syL
 cases h:ansOkB c v
 · show ([63]:Bs).length<=17;decide
 · have h:=of_decide_eq_true h
   have h1:(codeL (c-1).toNat).length<=6:=by
    generalize (c-1).toNat=j
    rcases j with _|_|_|_|j<;>(show List.length _<=6;simp[codeL])
   have h2:(sayV v).length<=11:=by
    unfold sayV
    split
    · have:=QbB (n:=v) (by omega) (by omega)
      simp only[List.length_cons];omega
    · simp
   show (sayL c v).length<=17
   unfold sayL
   simp only[List.length_append];omega
abbrev bsQ (l:List UInt8):ByteArray:=⟨l.toArray⟩
theorem Qqf (a b:List UInt8):ByteArray.instAppend.1 (bsQ a) (bsQ b)=bsQ (a++b):=by
 show bsQ a++bsQ b=_
 apply ByteArray.ext
 simp
theorem app_mk (a b:List UInt8):ByteArray.instAppend.1 (bsQ a) (ByteArray.mk (Array.mk b))=bsQ (a++b):=Qqf a b
theorem QiE (l:List UInt8):ByteArray.size (bsQ l)=l.length:=rfl
theorem szle {l:List UInt8}{k:Nat}(h:l.length+k<=1000):ByteArray.size (bsQ l)+k<=1099511627776:=by rw[QiE];omega
theorem szle2 {l m:List UInt8}(h:l.length+m.length<=1000):ByteArray.size (bsQ l)+ByteArray.size (bsQ m)<=1099511627776:=by rw[QiE,QiE];omega
end
section
open Go.RowKit
end
section
open Go.RowKit
def Qi6:PCon:=⟨fun args=>match args with
 |[.c (.v (.int .i64 n))]=>-9223372036854775808<=n/\n<=9223372036854775807
 |_=>False,fun args=>match args with
 |[.c (.v (.int .i64 n))]=>.o (txV (Lib.itoa n))
 |_=>sv undef,fun _=>none⟩
theorem Qo5 (W:World) (hL:TxLaid W):(Con.pure Qi6).holdsAt Tryz.prog W (fun _=>False) 59:=by
 refine⟨by kernel_rfl,fun ρ args w hp hK=>?_⟩
 unfold Qi6 at hp;dsimp only at hp;split at hp
 case h_2=>exact hp.elim
 rename_i n
 exact QcX n hp.1 hp.2 (hL.kept hK)
def Qez:PCon:=⟨fun args=>match args with
 |[.a [.one (.v (.int .i64 a)),.one (.v (.int .i64 b)),.one (.v (.int .i64 c))]]=>True
 |_=>False,fun args=>match args with
 |[.a [.one (.v (.int .i64 a)),.one (.v (.int .i64 b)),.one (.v (.int .i64 c))]]=>.o (txV (nmL a b c))
 |_=>sv undef,fun _=>none⟩
theorem QoT (W:World) (hL:TxLaid W):(Con.pure Qez).holdsAt Tryz.prog W (fun _=>False) 60:=by
 refine Qbm (Γ:=[(100,.pure Qhe)]) Tryz.func60 rfl (by kernel_rfl) Qg Qc (fun w hK=>.cons (Qmu w (hL.kept hK)) (.nil _ _ _)) Qez (fun _=>[]) 400 ?_
 intro w args hp hK
 unfold Qez at hp;dsimp only at hp;split at hp
 case h_2=>exact hp.elim
 rename_i a b c
 refine⟨rfl,?_⟩
 refine Qi (q:=True/\bif opOk a b c then endP Qez [SA.a [sI a,sI b,sI c]] (SV.o (SA.c (.v (.string (bsV (Qby a b c)))))) []else endP Qez [SA.a [sI a,sI b,sI c]] (SV.o (SA.c (.v (.string (ByteArray.mk (Array.mk [(63:UInt8)])))))) []) (by kernel_rfl) ?_
 refine⟨trivial,Q1 (fun h=>⟨rfl,fun ρ=>?_⟩) (fun h=>⟨rfl,fun ρ=>?_⟩)⟩<;>(show _=(SV.o (txV (nmL a b c))).den ρ;unfold nmL;rw[h];rfl)
def Qra:PCon:=⟨fun args=>match args with
 |[.a [.one (.v (.int .i64 a)),.one (.v (.int .i64 b))]]=>True
 |_=>False,fun args=>match args with
 |[.a [.one (.v (.int .i64 a)),.one (.v (.int .i64 b))]]=>.o (txV (syL a b))
 |_=>sv undef,fun _=>none⟩
theorem sy_con (W:World) (hL:TxLaid W):(Con.pure Qra).holdsAt Tryz.prog W (fun _=>False) 61:=by
 refine⟨by kernel_rfl,fun ρ args w hp hK=>?_⟩
 unfold Qra at hp;dsimp only at hp;split at hp
 case h_2=>exact hp.elim
 rename_i a b
 refine ((Qoo W hL).2 ρ [anV a b] w trivial hK).mono fun e w' ⟨he,hw⟩=>⟨?_,hw⟩
 rw[he]
 show Ending.returned ((bif ansOkB a b then SV.o (txV (sayL a b))else .o (txV [63])).den ρ)=.returned ((SV.o (txV (syL a b))).den ρ)
 unfold syL
 cases ansOkB a b<;>rfl
end
section
open Go.Lib
def QaB (f:Nat->Int):Bs:=
 if f 0=1 then itoa (f 8)++[32]++[116,104,114,101,97,100,32]++itoa (f 1)++[32,99,97,108,108,115,32]++nmL (f 2) (f 3) (f 4)
 else if f 0=2 then itoa (f 8)++[32]++[116,104,114,101,97,100,32]++itoa (f 1)++[32,104,97,115,32]++nmL (f 2) (f 3) (f 4)++[58,32]++syL (f 5) (f 6)++[44,32,100,101,101,100,32]++itoa (f 7)
 else if f 0=3 then itoa (f 8)++[32]++[99,114,97,115,104]
 else itoa (f 8)++[32]++[63]
def EvIn (f:Nat->Int):Prop:=(f 0≠3->-9223372036854775808<=f 1/\f 1<=9223372036854775807)/\(f 0=2->-9223372036854775808<=f 7/\f 7<=9223372036854775807)/\(-9223372036854775808<=f 8/\f 8<=9223372036854775807)
theorem QjJ {f:Nat->Int}(h:EvIn f):(QaB f).length<=150:=by
 obtain⟨h1,h7,h8⟩:=h
 have c:=Qah h8.1 h8.2
 have d:=Qp6 (f 2) (f 3) (f 4)
 have e:=Qp1 (f 5) (f 6)
 unfold QaB
 split
 · rename_i hk
   have h1:=h1 (by omega)
   have a:=Qah h1.1 h1.2
   simp only[List.length_append,List.length_cons,List.length_nil];omega
 split
 · rename_i hk
   have h1:=h1 (by omega)
   have h7:=h7 hk
   have a:=Qah h1.1 h1.2
   have b:=Qah h7.1 h7.2
   simp only[List.length_append,List.length_cons,List.length_nil];omega
 split
 · simp only[List.length_append,List.length_cons,List.length_nil];omega
 · simp only[List.length_append,List.length_cons,List.length_nil];omega
theorem dd_no (u:Nat):(10:UInt8)∉decDigits u:=fun h=>by
 have:=dd_mem u h
 exact absurd this.1 (by decide)
theorem Qep (n:Int):(10:UInt8)∉itoa n:=by
 unfold itoa
 split
 · intro h
   rcases List.mem_cons.1 h with h|h
   · exact absurd h (by decide)
   · exact dd_no _ h
 · exact dd_no _
theorem nm_no (k key x:Int):(10:UInt8)∉nmL k key x:=by
 unfold nmL
 cases h:opOk k key x
 · show (10:UInt8)∉[63];decide
 · show (10:UInt8)∉Qby k key x
   unfold Qby
   intro h
   rcases List.mem_append.1 h with h|h
   · rcases List.mem_append.1 h with h|h
     · revert h
       generalize (k-1).toNat=j
       rcases j with _|_|_|_|_|j<;>(show ¬(10:UInt8)∈_;simp[nameL])
     · unfold keyL at h
       split at h
       · rcases List.mem_cons.1 h with h|h
         · exact absurd h (by decide)
         · exact Qep _ h
       · cases h
   · unfold valL at h
     split at h
     · rcases List.mem_cons.1 h with h|h
       · exact absurd h (by decide)
       · exact Qep _ h
     · cases h
theorem sy_no (c v:Int):(10:UInt8)∉syL c v:=by
 unfold syL
 cases h:ansOkB c v
 · show (10:UInt8)∉[63];decide
 · show (10:UInt8)∉sayL c v
   unfold sayL
   intro h
   rcases List.mem_append.1 h with h|h
   · revert h
     generalize (c-1).toNat=j
     rcases j with _|_|_|_|j<;>(show ¬(10:UInt8)∈_;simp[codeL])
   · unfold sayV at h
     split at h
     · rcases List.mem_cons.1 h with h|h
       · exact absurd h (by decide)
       · exact Qep _ h
     · cases h
theorem QqW (f:Nat->Int):(10:UInt8)∉QaB f:=by
 have a:=Qep (f 8)
 have b:=Qep (f 1)
 have c:=Qep (f 7)
 have d:=nm_no (f 2) (f 3) (f 4)
 have e:=sy_no (f 5) (f 6)
 have s1:(10:UInt8)∉([32]:Bs):=by decide
 have s2:(10:UInt8)∉([116,104,114,101,97,100,32]:Bs):=by decide
 have s3:(10:UInt8)∉([32,99,97,108,108,115,32]:Bs):=by decide
 have s4:(10:UInt8)∉([32,104,97,115,32]:Bs):=by decide
 have s5:(10:UInt8)∉([58,32]:Bs):=by decide
 have s6:(10:UInt8)∉([44,32,100,101,101,100,32]:Bs):=by decide
 have s7:(10:UInt8)∉([99,114,97,115,104]:Bs):=by decide
 have s8:(10:UInt8)∉([63]:Bs):=by decide
 unfold QaB
 split
 · simp only[List.mem_append,not_or];exact⟨⟨⟨⟨⟨a,s1⟩,s2⟩,b⟩,s3⟩,d⟩
 split
 · simp only[List.mem_append,not_or];exact⟨⟨⟨⟨⟨⟨⟨⟨⟨a,s1⟩,s2⟩,b⟩,s4⟩,d⟩,s5⟩,e⟩,s6⟩,c⟩
 split
 · simp only[List.mem_append,not_or];exact⟨⟨a,s1⟩,s7⟩
 · simp only[List.mem_append,not_or];exact⟨⟨a,s1⟩,s8⟩
def QaO (ls:List Bs):Bs:=(ls.map (· ++[10])).flatten
theorem Qll (l:Bs) (ls:List Bs):QaO (l::ls)=l++10::QaO ls:=by simp[QaO]
theorem Qgu (ls:List Bs) (l:Bs):QaO (ls++[l])=QaO ls++(l++[10]):=by simp[QaO]
theorem QjQ {c:UInt8}{t:Bs}:∀ {l:Bs},c∉l->index (l++c::t) [c]=(l.length:Int)
 |[],_=>by
  show index (c::t) [c]=0
  unfold index;rw[Qmv,if_pos (by simp)]
 |b::l,h=>by
  have hb:b≠c:=fun e=>h (by rw[e];exact List.mem_cons_self)
  have ih:=QjQ (t:=t) (l:=l) (fun hh=>h (List.mem_cons_of_mem _ hh))
  show index (b::(l++c::t)) [c]=_
  rw[index,Qmv,if_neg (by simp;exact fun h=>hb h.symm),ih]
  rw[show ((l.length:Int) == -1)=false from beq_eq_false_iff_ne.2 (by omega)]
  simp
theorem Qgf:∀(ls:List Bs),(∀l∈ls,(10:UInt8)∉l)->count (QaO ls) [10]=ls.length/\splitK [10] 0 ls.length (QaO ls)=ls++[[]]
 |[],_=>⟨count_miss rfl,rfl⟩
 |l::ls,h=>by
  obtain⟨h1,h2⟩:=Qgf ls (fun a ha=>h a (List.mem_cons_of_mem _ ha))
  have hi:=QjQ (t:=QaO ls) (h l List.mem_cons_self)
  have hd:(l++10::QaO ls).drop (l.length+1)=QaO ls:=by
   rw[List.drop_append,List.drop_of_length_le (by omega),List.nil_append,Nat.add_sub_cancel_left];rfl
  rw[Qll]
  refine⟨?_,?_⟩
  · rw[count_hit (by simp) hi,show (l.length+([10]:Bs).length)=l.length+1 from rfl,hd,h1,List.length_cons];omega
  · show (if index (l++10::QaO ls) [10] == -1 then [l++10::QaO ls]else (l++10::QaO ls).take ((index (l++10::QaO ls) [10]).toNat+0)::splitK [10] 0 ls.length ((l++10::QaO ls).drop ((index (l++10::QaO ls) [10]).toNat+([10]:Bs).length)))=_
    rw[hi,show ((l.length:Int) == -1)=false from beq_eq_false_iff_ne.2 (by omega),Int.toNat_natCast]
    simp only[Bool.false_eq_true,if_false]
    rw[show (l.length+([10]:Bs).length)=l.length+1 from rfl,hd,h2,Nat.add_zero,List.take_left];rfl
theorem Qqz (ls:List Bs) (h:∀l∈ls,(10:UInt8)∉l):countB (bsQ (QaO ls)) (bsQ [10])=ls.length/\splitB (bsQ [10]) 0 ls.length (bsQ (QaO ls))=(ls++[[]]).map bsQ:=by
 obtain⟨h1,h2⟩:=Qgf ls h
 refine⟨h1,?_⟩
 have:=splitB_data (bsQ [10]) 0 ls.length (bsQ (QaO ls))
 have h3:(splitB (bsQ [10]) 0 ls.length (bsQ (QaO ls))).map (·.data.toList)=ls++[[]]:=this.trans h2
 rw[<- h3,List.map_map]
 have e:(bsQ ∘ fun (x:ByteArray)=>x.data.toList)=id:=funext fun x=>by
  show bsQ x.data.toList=x
  unfold bsQ
  rw[Array.toArray_toList]
 rw[e,List.map_id]
def QbQ (z:Nat->Nat->Int) (n:Nat):List Bs:=(List.range n).map fun i=>QaB (z i)
theorem QfG (z:Nat->Nat->Int) (n:Nat):QbQ z (n+1)=QbQ z n++[QaB (z n)]:=by
 unfold QbQ;rw[List.range_succ,List.map_append];rfl
theorem linesL_no (z:Nat->Nat->Int) (n:Nat):∀l∈QbQ z n,(10:UInt8)∉l:=fun l hl=>by
 obtain⟨i,-,rfl⟩:=List.mem_map.1 hl
 exact QqW _
theorem Qrv (z:Nat->Nat->Int) (n:Nat):(QbQ z n).length=n:=by unfold QbQ;rw[List.length_map,List.length_range]
theorem linesL_at (z:Nat->Nat->Int) {n i:Nat}(h:i<n):(QbQ z n)[i]?=some (QaB (z i)):=by
 unfold QbQ;rw[List.getElem?_map,List.getElem?_range h];rfl
theorem QjT {z:Nat->Nat->Int}:∀ {n:Nat},(∀i,i<n->EvIn (z i))->(QaO (QbQ z n)).length<=151*n
 |0,_=>Nat.le_refl _
 |n+1,h=>by
  have ih:=QjT (n:=n) (fun i hi=>h i (by omega))
  have:=QjJ (h n (by omega))
  rw[QfG,Qgu]
  simp only[List.length_append,List.length_cons,List.length_nil]
  omega
end
section
open Go.RowKit
def ev9 (t0 t1 t2 t3 t4 t5 t6 t7 t8:Int):Nat->Int
 |0=>t0|1=>t1|2=>t2|3=>t3|4=>t4|5=>t5|6=>t6|7=>t7|8=>t8|_=>0
def Qdx:PCon:=⟨fun args=>match args with
 |[.a [.one (.v (.int .i64 t0)),.one (.v (.int .i64 t1)),.one (.v (.int .i64 t2)),.one (.v (.int .i64 t3)),.one (.v (.int .i64 t4)),.one (.v (.int .i64 t5)),.one (.v (.int .i64 t6)),.one (.v (.int .i64 t7)),.one (.v (.int .i64 t8))]]=>EvIn (ev9 t0 t1 t2 t3 t4 t5 t6 t7 t8)
 |_=>False,fun args=>match args with
 |[.a [.one (.v (.int .i64 t0)),.one (.v (.int .i64 t1)),.one (.v (.int .i64 t2)),.one (.v (.int .i64 t3)),.one (.v (.int .i64 t4)),.one (.v (.int .i64 t5)),.one (.v (.int .i64 t6)),.one (.v (.int .i64 t7)),.one (.v (.int .i64 t8))]]=>.o (txV (QaB (ev9 t0 t1 t2 t3 t4 t5 t6 t7 t8)))
 |_=>sv undef,fun _=>none⟩
theorem szx {l:List UInt8}{k:Nat}(h:l.length+k<=1000):ByteArray.size (bsQ l)+k<=1099511627776:=szle h
theorem szx2 {l m:List UInt8}(h:l.length+m.length<=1000):ByteArray.size (bsQ l)+ByteArray.size (bsQ m)<=1099511627776:=szle2 h
theorem Qo0 (W:World) (hL:TxLaid W):(Con.pure Qdx).holdsAt Tryz.prog W (fun _=>False) 30:=by
 refine Qbm (Γ:=[(59,.pure Qi6),(60,.pure Qez),(61,.pure Qra)]) Tryz.func30 rfl (by kernel_rfl) Qg Qc (fun w hK=>.cons (Qo5 w (hL.kept hK)) (.cons (QoT w (hL.kept hK)) (.cons (sy_con w (hL.kept hK)) (.nil _ _ _)))) Qdx (fun _=>[]) 400 ?_
 intro w args hp hK
 unfold Qdx at hp;dsimp only at hp;split at hp
 case h_2=>exact hp.elim
 rename_i t0 t1 t2 t3 t4 t5 t6 t7 t8
 obtain⟨h1,h7,h8⟩:=hp
 have h1:t0≠3->-9223372036854775808<=t1/\t1<=9223372036854775807:=h1
 have h7:t0=2->-9223372036854775808<=t7/\t7<=9223372036854775807:=h7
 have h8 : -9223372036854775808<=t8/\t8<=9223372036854775807:=h8
 have l8:=Qah h8.1 h8.2
 have ln:=Qp6 t2 t3 t4
 have ls:=Qp1 t5 t6
 refine⟨rfl,?_⟩
 refine Qi (q:=((-9223372036854775808:Int)<=t8/\t8<=(9223372036854775807:Int))/\ByteArray.size (bsV (Lib.itoa t8))+1<=1099511627776/\bif t0==(1:Int)then ByteArray.size (ByteArray.instAppend.1 (bsV (Lib.itoa t8)) (ByteArray.mk (Array.mk [(32:UInt8)])))+7<=1099511627776/\((-9223372036854775808:Int)<=t1/\t1<=(9223372036854775807:Int))/\ByteArray.size (ByteArray.instAppend.1 (ByteArray.instAppend.1 (bsV (Lib.itoa t8)) (ByteArray.mk (Array.mk [(32:UInt8)]))) (ByteArray.mk (Array.mk [(116:UInt8),(104:UInt8),(114:UInt8),(101:UInt8),(97:UInt8),(100:UInt8),(32:UInt8)])))+ByteArray.size (bsV (Lib.itoa t1))<=1099511627776/\ByteArray.size (ByteArray.instAppend.1 (ByteArray.instAppend.1 (ByteArray.instAppend.1 (bsV (Lib.itoa t8)) (ByteArray.mk (Array.mk [(32:UInt8)]))) (ByteArray.mk (Array.mk [(116:UInt8),(104:UInt8),(114:UInt8),(101:UInt8),(97:UInt8),(100:UInt8),(32:UInt8)]))) (bsV (Lib.itoa t1)))+7<=1099511627776/\True/\ByteArray.size (ByteArray.instAppend.1 (ByteArray.instAppend.1 (ByteArray.instAppend.1 (ByteArray.instAppend.1 (bsV (Lib.itoa t8)) (ByteArray.mk (Array.mk [(32:UInt8)]))) (ByteArray.mk (Array.mk [(116:UInt8),(104:UInt8),(114:UInt8),(101:UInt8),(97:UInt8),(100:UInt8),(32:UInt8)]))) (bsV (Lib.itoa t1))) (ByteArray.mk (Array.mk [(32:UInt8),(99:UInt8),(97:UInt8),(108:UInt8),(108:UInt8),(115:UInt8),(32:UInt8)])))+ByteArray.size (bsV (nmL t2 t3 t4))<=1099511627776/\dP Tryz.f30 4 1 [xE 11,xE 10,xE 9,xR 8 0,xF 7 0,xE 6,xE 5,xE 4,xR 3 0,xF 2 0,xE 1,xE 0]/\endP Qdx [SA.a [sI t0,sI t1,sI t2,sI t3,sI t4,sI t5,sI t6,sI t7,sI t8]] (SV.o (SA.c (.v (.string (ByteArray.instAppend.1 (ByteArray.instAppend.1 (ByteArray.instAppend.1 (ByteArray.instAppend.1 (ByteArray.instAppend.1 (bsV (Lib.itoa t8)) (ByteArray.mk (Array.mk [(32:UInt8)]))) (ByteArray.mk (Array.mk [(116:UInt8),(104:UInt8),(114:UInt8),(101:UInt8),(97:UInt8),(100:UInt8),(32:UInt8)]))) (bsV (Lib.itoa t1))) (ByteArray.mk (Array.mk [(32:UInt8),(99:UInt8),(97:UInt8),(108:UInt8),(108:UInt8),(115:UInt8),(32:UInt8)]))) (bsV (nmL t2 t3 t4))))))) []else bif t0==(2:Int)then ByteArray.size (ByteArray.instAppend.1 (bsV (Lib.itoa t8)) (ByteArray.mk (Array.mk [(32:UInt8)])))+7<=1099511627776/\((-9223372036854775808:Int)<=t1/\t1<=(9223372036854775807:Int))/\ByteArray.size (ByteArray.instAppend.1 (ByteArray.instAppend.1 (bsV (Lib.itoa t8)) (ByteArray.mk (Array.mk [(32:UInt8)]))) (ByteArray.mk (Array.mk [(116:UInt8),(104:UInt8),(114:UInt8),(101:UInt8),(97:UInt8),(100:UInt8),(32:UInt8)])))+ByteArray.size (bsV (Lib.itoa t1))<=1099511627776/\ByteArray.size (ByteArray.instAppend.1 (ByteArray.instAppend.1 (ByteArray.instAppend.1 (bsV (Lib.itoa t8)) (ByteArray.mk (Array.mk [(32:UInt8)]))) (ByteArray.mk (Array.mk [(116:UInt8),(104:UInt8),(114:UInt8),(101:UInt8),(97:UInt8),(100:UInt8),(32:UInt8)]))) (bsV (Lib.itoa t1)))+5<=1099511627776/\True/\ByteArray.size (ByteArray.instAppend.1 (ByteArray.instAppend.1 (ByteArray.instAppend.1 (ByteArray.instAppend.1 (bsV (Lib.itoa t8)) (ByteArray.mk (Array.mk [(32:UInt8)]))) (ByteArray.mk (Array.mk [(116:UInt8),(104:UInt8),(114:UInt8),(101:UInt8),(97:UInt8),(100:UInt8),(32:UInt8)]))) (bsV (Lib.itoa t1))) (ByteArray.mk (Array.mk [(32:UInt8),(104:UInt8),(97:UInt8),(115:UInt8),(32:UInt8)])))+ByteArray.size (bsV (nmL t2 t3 t4))<=1099511627776/\ByteArray.size (ByteArray.instAppend.1 (ByteArray.instAppend.1 (ByteArray.instAppend.1 (ByteArray.instAppend.1 (ByteArray.instAppend.1 (bsV (Lib.itoa t8)) (ByteArray.mk (Array.mk [(32:UInt8)]))) (ByteArray.mk (Array.mk [(116:UInt8),(104:UInt8),(114:UInt8),(101:UInt8),(97:UInt8),(100:UInt8),(32:UInt8)]))) (bsV (Lib.itoa t1))) (ByteArray.mk (Array.mk [(32:UInt8),(104:UInt8),(97:UInt8),(115:UInt8),(32:UInt8)]))) (bsV (nmL t2 t3 t4)))+2<=1099511627776/\True/\ByteArray.size (ByteArray.instAppend.1 (ByteArray.instAppend.1 (ByteArray.instAppend.1 (ByteArray.instAppend.1 (ByteArray.instAppend.1 (ByteArray.instAppend.1 (bsV (Lib.itoa t8)) (ByteArray.mk (Array.mk [(32:UInt8)]))) (ByteArray.mk (Array.mk [(116:UInt8),(104:UInt8),(114:UInt8),(101:UInt8),(97:UInt8),(100:UInt8),(32:UInt8)]))) (bsV (Lib.itoa t1))) (ByteArray.mk (Array.mk [(32:UInt8),(104:UInt8),(97:UInt8),(115:UInt8),(32:UInt8)]))) (bsV (nmL t2 t3 t4))) (ByteArray.mk (Array.mk [(58:UInt8),(32:UInt8)])))+ByteArray.size (bsV (syL t5 t6))<=1099511627776/\ByteArray.size (ByteArray.instAppend.1 (ByteArray.instAppend.1 (ByteArray.instAppend.1 (ByteArray.instAppend.1 (ByteArray.instAppend.1 (ByteArray.instAppend.1 (ByteArray.instAppend.1 (bsV (Lib.itoa t8)) (ByteArray.mk (Array.mk [(32:UInt8)]))) (ByteArray.mk (Array.mk [(116:UInt8),(104:UInt8),(114:UInt8),(101:UInt8),(97:UInt8),(100:UInt8),(32:UInt8)]))) (bsV (Lib.itoa t1))) (ByteArray.mk (Array.mk [(32:UInt8),(104:UInt8),(97:UInt8),(115:UInt8),(32:UInt8)]))) (bsV (nmL t2 t3 t4))) (ByteArray.mk (Array.mk [(58:UInt8),(32:UInt8)]))) (bsV (syL t5 t6)))+7<=1099511627776/\((-9223372036854775808:Int)<=t7/\t7<=(9223372036854775807:Int))/\ByteArray.size (ByteArray.instAppend.1 (ByteArray.instAppend.1 (ByteArray.instAppend.1 (ByteArray.instAppend.1 (ByteArray.instAppend.1 (ByteArray.instAppend.1 (ByteArray.instAppend.1 (ByteArray.instAppend.1 (bsV (Lib.itoa t8)) (ByteArray.mk (Array.mk [(32:UInt8)]))) (ByteArray.mk (Array.mk [(116:UInt8),(104:UInt8),(114:UInt8),(101:UInt8),(97:UInt8),(100:UInt8),(32:UInt8)]))) (bsV (Lib.itoa t1))) (ByteArray.mk (Array.mk [(32:UInt8),(104:UInt8),(97:UInt8),(115:UInt8),(32:UInt8)]))) (bsV (nmL t2 t3 t4))) (ByteArray.mk (Array.mk [(58:UInt8),(32:UInt8)]))) (bsV (syL t5 t6))) (ByteArray.mk (Array.mk [(44:UInt8),(32:UInt8),(100:UInt8),(101:UInt8),(101:UInt8),(100:UInt8),(32:UInt8)])))+ByteArray.size (bsV (Lib.itoa t7))<=1099511627776/\dP Tryz.f30 6 1 [xE 21,xE 20,xE 19,xR 18 0,xF 17 0,xE 16,xE 15,xE 14,xR 13 0,xF 12 0,xE 11,xE 10,xE 9,xR 8 0,xF 7 0,xE 6,xE 5,xE 4,xR 3 0,xF 2 0,xE 1,xE 0]/\endP Qdx [SA.a [sI t0,sI t1,sI t2,sI t3,sI t4,sI t5,sI t6,sI t7,sI t8]] (SV.o (SA.c (.v (.string (ByteArray.instAppend.1 (ByteArray.instAppend.1 (ByteArray.instAppend.1 (ByteArray.instAppend.1 (ByteArray.instAppend.1 (ByteArray.instAppend.1 (ByteArray.instAppend.1 (ByteArray.instAppend.1 (ByteArray.instAppend.1 (bsV (Lib.itoa t8)) (ByteArray.mk (Array.mk [(32:UInt8)]))) (ByteArray.mk (Array.mk [(116:UInt8),(104:UInt8),(114:UInt8),(101:UInt8),(97:UInt8),(100:UInt8),(32:UInt8)]))) (bsV (Lib.itoa t1))) (ByteArray.mk (Array.mk [(32:UInt8),(104:UInt8),(97:UInt8),(115:UInt8),(32:UInt8)]))) (bsV (nmL t2 t3 t4))) (ByteArray.mk (Array.mk [(58:UInt8),(32:UInt8)]))) (bsV (syL t5 t6))) (ByteArray.mk (Array.mk [(44:UInt8),(32:UInt8),(100:UInt8),(101:UInt8),(101:UInt8),(100:UInt8),(32:UInt8)]))) (bsV (Lib.itoa t7))))))) []else bif t0==(3:Int)then ByteArray.size (ByteArray.instAppend.1 (bsV (Lib.itoa t8)) (ByteArray.mk (Array.mk [(32:UInt8)])))+5<=1099511627776/\endP Qdx [SA.a [sI t0,sI t1,sI t2,sI t3,sI t4,sI t5,sI t6,sI t7,sI t8]] (SV.o (SA.c (.v (.string (ByteArray.instAppend.1 (ByteArray.instAppend.1 (bsV (Lib.itoa t8)) (ByteArray.mk (Array.mk [(32:UInt8)]))) (ByteArray.mk (Array.mk [(99:UInt8),(114:UInt8),(97:UInt8),(115:UInt8),(104:UInt8)]))))))) []else ByteArray.size (ByteArray.instAppend.1 (bsV (Lib.itoa t8)) (ByteArray.mk (Array.mk [(32:UInt8)])))+1<=1099511627776/\endP Qdx [SA.a [sI t0,sI t1,sI t2,sI t3,sI t4,sI t5,sI t6,sI t7,sI t8]] (SV.o (SA.c (.v (.string (ByteArray.instAppend.1 (ByteArray.instAppend.1 (bsV (Lib.itoa t8)) (ByteArray.mk (Array.mk [(32:UInt8)]))) (ByteArray.mk (Array.mk [(63:UInt8)]))))))) []) (by kernel_rfl) ?_
 repeat (first|rw[app_mk]|rw[Qqf])
 refine⟨h8,szx (by omega),QY (fun e1=>?_) (fun n1=>QY (fun e2=>?_) (fun n2=>QY (fun e3=>?_) (fun n3=>?_)))⟩
 · have eL:QaB (ev9 t0 t1 t2 t3 t4 t5 t6 t7 t8)=Lib.itoa t8++[32]++[116,104,114,101,97,100,32]++Lib.itoa t1++[32,99,97,108,108,115,32]++nmL t2 t3 t4:=if_pos e1
   have h1:=h1 (by omega)
   have l1:=Qah h1.1 h1.2
   refine⟨szx (by simp only[List.length_append,List.length_cons,List.length_nil];omega),h1,szx2 (by simp only[List.length_append,List.length_cons,List.length_nil];omega),szx (by simp only[List.length_append,List.length_cons,List.length_nil];omega),trivial,szx2 (by simp only[List.length_append,List.length_cons,List.length_nil];omega),Qf (by kernel_rfl),rfl,fun ρ=>?_⟩
   show _=(SV.o (txV (QaB (ev9 t0 t1 t2 t3 t4 t5 t6 t7 t8)))).den ρ
   rw[eL]
 · have eL:QaB (ev9 t0 t1 t2 t3 t4 t5 t6 t7 t8)=Lib.itoa t8++[32]++[116,104,114,101,97,100,32]++Lib.itoa t1++[32,104,97,115,32]++nmL t2 t3 t4++[58,32]++syL t5 t6++[44,32,100,101,101,100,32]++Lib.itoa t7:=(if_neg n1).trans (if_pos e2)
   have h1:=h1 (by omega)
   have l1:=Qah h1.1 h1.2
   have h7:=h7 e2
   have l7:=Qah h7.1 h7.2
   refine⟨szx (by simp only[List.length_append,List.length_cons,List.length_nil];omega),h1,szx2 (by simp only[List.length_append,List.length_cons,List.length_nil];omega),szx (by simp only[List.length_append,List.length_cons,List.length_nil];omega),trivial,szx2 (by simp only[List.length_append,List.length_cons,List.length_nil];omega),szx (by simp only[List.length_append,List.length_cons,List.length_nil];omega),trivial,szx2 (by simp only[List.length_append,List.length_cons,List.length_nil];omega),szx (by simp only[List.length_append,List.length_cons,List.length_nil];omega),h7,szx2 (by simp only[List.length_append,List.length_cons,List.length_nil];omega),Qf (by kernel_rfl),rfl,fun ρ=>?_⟩
   show _=(SV.o (txV (QaB (ev9 t0 t1 t2 t3 t4 t5 t6 t7 t8)))).den ρ
   rw[eL]
 · have eL:QaB (ev9 t0 t1 t2 t3 t4 t5 t6 t7 t8)=Lib.itoa t8++[32]++[99,114,97,115,104]:=(if_neg n1).trans ((if_neg n2).trans (if_pos e3))
   refine⟨szx (by simp only[List.length_append,List.length_cons,List.length_nil];omega),rfl,fun ρ=>?_⟩
   show _=(SV.o (txV (QaB (ev9 t0 t1 t2 t3 t4 t5 t6 t7 t8)))).den ρ
   rw[eL]
 · have eL:QaB (ev9 t0 t1 t2 t3 t4 t5 t6 t7 t8)=Lib.itoa t8++[32]++[63]:=(if_neg n1).trans ((if_neg n2).trans (if_neg n3))
   refine⟨szx (by simp only[List.length_append,List.length_cons,List.length_nil];omega),rfl,fun ρ=>?_⟩
   show _=(SV.o (txV (QaB (ev9 t0 t1 t2 t3 t4 t5 t6 t7 t8)))).den ρ
   rw[eL]
def Qqb:Go.Shelf.Ren:=⟨fun|166=>57|240=>98|276=>125|169=>58|n=>n,fun|0=>0|3=>3|4=>4|5=>5|9=>9|20=>20|37=>125|70=>124|72=>127|75=>49|80=>129|164=>195|127=>184|n=>n,fun|n=>n⟩
theorem Qrl:Go.Proofs.Lays.n166 Tryz.prog Qqb:={
 mixed:=by kernel_rfl
 f166:=Tryz.func57.trans (congrArg some (by kernel_rfl))
 f240:=Tryz.func98.trans (congrArg some (by kernel_rfl))
 f276:=Tryz.func125.trans (congrArg some (by kernel_rfl))
 t0:=Tryz.underlying0
 a0:=Tryz.isAgg0
 z0:=Tryz.sizeOf0
 v0:=Tryz.zeroValue0
 t3:=Tryz.underlying3
 a3:=Tryz.isAgg3
 z3:=Tryz.sizeOf3
 v3:=Tryz.zeroValue3
 t4:=Tryz.underlying4
 a4:=Tryz.isAgg4
 z4:=Tryz.sizeOf4
 v4:=Tryz.zeroValue4
 t9:=Tryz.underlying9
 a9:=Tryz.isAgg9
 z9:=Tryz.sizeOf9
 v9:=Tryz.zeroValue9
 t20:=Tryz.underlying20
 a20:=Tryz.isAgg20
 z20:=Tryz.sizeOf20
 v20:=Tryz.zeroValue20
 t37:=Tryz.underlying125
 a37:=Tryz.isAgg125
 z37:=Tryz.sizeOf125
 v37:=Tryz.zeroValue125
 t70:=Tryz.underlying124
 a70:=Tryz.isAgg124
 z70:=Tryz.sizeOf124
 v70:=Tryz.zeroValue124
 t72:=Tryz.underlying127
 a72:=Tryz.isAgg127
 z72:=Tryz.sizeOf127
 v72:=Tryz.zeroValue127
 t75:=Tryz.underlying49
 a75:=Tryz.isAgg49
 z75:=Tryz.sizeOf49
 v75:=Tryz.zeroValue49
 t164:=Tryz.underlying195
 a164:=Tryz.isAgg195
 z164:=Tryz.sizeOf195
 v164:=Tryz.zeroValue195 }
theorem QpO:Builder.Extra Tryz.prog Qqb where
 sizeBuilder:=by kernel_rfl
 liesBuilder:=by kernel_rfl
 t5:=Tryz.underlying5
 a5:=Tryz.isAgg5
 z5:=Tryz.sizeOf5
 v5:=Tryz.zeroValue5
 infoByte:=by kernel_rfl
 cellsByte:=by kernel_rfl
 sizeByte:=by kernel_rfl
 neB5:=by decide
abbrev QgE (B b:Nat) (l:List UInt8) (w:World):Prop:=Lib.IsBuilderF 127 5 B b (Lib.byteCells l) w
theorem QlI (B b:Nat) (l:List UInt8) (s:ByteArray) (w:World) (h:QgE B b l w) (hlen:l.length+s.size<=140737488355328) (hBw:B<=w.heap.size):
 Calls Tryz.prog 57 #[.pointer (some ⟨b,0,none⟩),.string s] w fun e w'=>e=.returned (.tuple #[.int .i64 s.size,.nilIface])/\QgE B b (l++s.data.toList) w'/\Below B w w'/\Lib.OthersKept 5 (some b) w w':=
 (Any.Builder_WriteString_k Qrl QpO B b (Lib.byteCells l) s w h (by rw[Lib.byteCells_length];exact hlen) hBw).mono fun e w' ⟨he,hb,hw,ho⟩=>⟨he,.inr (by rw[Lib.byteCells_append,<- Lib.strCells_eq];exact hb),hw,ho⟩
theorem Qo1 (f:Nat->Int) (hf:EvIn f) {w:World}(hL:TxLaid w):
 Calls Tryz.prog 30 #[.agg #[.int .i64 (f 0),.int .i64 (f 1),.int .i64 (f 2),.int .i64 (f 3),.int .i64 (f 4),.int .i64 (f 5),.int .i64 (f 6),.int .i64 (f 7),.int .i64 (f 8)]] w fun e w'=>e=.returned (.string (bsV (QaB f)))/\Below w.heap.size w w':=by
 have e:QaB (ev9 (f 0) (f 1) (f 2) (f 3) (f 4) (f 5) (f 6) (f 7) (f 8))=QaB f:=rfl
 refine ((Qo0 w hL).2 (fun _=>0) [.a [.one (.v (.int .i64 (f 0))),.one (.v (.int .i64 (f 1))),.one (.v (.int .i64 (f 2))),.one (.v (.int .i64 (f 3))),.one (.v (.int .i64 (f 4))),.one (.v (.int .i64 (f 5))),.one (.v (.int .i64 (f 6))),.one (.v (.int .i64 (f 7))),.one (.v (.int .i64 (f 8)))]] w hf (Kept.refl _ w)).mono fun e w' ⟨h1,h2⟩=>⟨?_,h2⟩
 rw[h1]
 show Ending.returned ((SV.o (txV (QaB (ev9 (f 0) (f 1) (f 2) (f 3) (f 4) (f 5) (f 6) (f 7) (f 8))))).den (fun _=>0))=_
 rw[‹QaB _=QaB f›];rfl
theorem Qij {B b:Nat}{l:List UInt8}{w:World}(h:QgE B b l w):b<w.heap.size:=by
 rcases h with h|h<;>exact h.lt
theorem QkF {w w':World}{base:Nat}{e:TypeId}{size:Nat}{v:Value}{n:Nat}{xs:List Value}(h:World.ownsRowF w base e size v n xs) (hb:Below w.heap.size w w'):World.ownsRowF w' base e size v n xs:=by
 refine⟨h.1,?_⟩
 rcases h.2 with hn|⟨g,cap,cur,fz,rfl,hg,hgg,rest⟩
 · exact .inl hn
 · exact .inr ⟨g,cap,cur,fz,rfl,hg,(hb.block g (Array.getElem?_eq_some_iff.1 hgg).1).trans hgg,rest⟩
theorem Qir {T e:TypeId}{B b:Nat}{p:Value}{l:List Value}{w w':World}(h:Lib.BuilderAtF T e B b p l w) (hb:Below w.heap.size w w'):Lib.BuilderAtF T e B b p l w':=by
 have hlt:=h.lt
 obtain⟨hB,v,hbk,hown,hne⟩:=h
 exact⟨hB,v,(hb.block b hlt).trans hbk,QkF hown hb,hne⟩
theorem QeS {B b:Nat}{l:List UInt8}{w w':World}(h:QgE B b l w) (hb:Below w.heap.size w w'):QgE B b l w':=by
 rcases h with h|h
 · exact .inl (Qir h hb)
 · exact .inr (Qir h hb)
theorem QkE (a:Option Addr) (n c:Nat) (z:Nat->Nat->Int) (w:World) (hL:TxLaid w) (hr:Rws 9 (fun _=>.i64) w a n c z) (hn:n<=1000000) (hev:∀i,i<n->EvIn (z i)):
 Calls Tryz.prog 29 #[.slice a n c] w fun e w'=>e=.returned (.string (bsV (QaO (QbQ z n))))/\Below w.heap.size w w':=by
 have hca:=hr.2.1
 have hnc:=hr.1
 have HR:=Lib.hid hr
 have HL:=Lib.hid hL
 clear hr hL
 go_enter Tryz.func29,Tryz.ntmps29
 go_wp2_with fail
 go_loopw [8] (fun i wr=>∃k:Nat,k<=n/\i=.int .i64 k/\Hid (Below w.heap.size w wr)/\w.heap.size<wr.heap.size/\Hid (QgE w.heap.size w.heap.size (QaO (QbQ z k)) wr)) (fun i _=>n-(intOf i).toNat)
 case atStart=>exact⟨0,Nat.zero_le _,rfl,Lib.hid ((Below.refl _ w).alloc (Nat.le_refl _) _),by simp,Lib.hid (Lib.IsBuilderF.of (Lib.fresh_isBuilder _ _ _))⟩
 case round=>
  obtain⟨k,hk,rfl,hb,hlt0,hB⟩:=hrel
  by_cases hlt:k<n
  · obtain⟨b,off,rfl,hbl,hc⟩:∃b off,a=some ⟨b,off,none⟩/\b<w.heap.size/\∀j,j<n->∀i,i<9->wr.cell? ⟨b,off+j*9+i,none⟩=some (.int .i64 (z j i)):=by
     rcases HR.out.2.2 with h|⟨b,off,rfl,hbl,h⟩
     · omega
     · exact⟨b,off,rfl,hbl,fun j hj i hi=>(hb.out.cell (p:=⟨b,off+j*9+i,none⟩) hbl).trans (h j hj i hi).1⟩
    have c0:=hc k hlt 0 (by decide)
    have c1:=hc k hlt 1 (by decide)
    have c2:=hc k hlt 2 (by decide)
    have c3:=hc k hlt 3 (by decide)
    have c4:=hc k hlt 4 (by decide)
    have c5:=hc k hlt 5 (by decide)
    have c6:=hc k hlt 6 (by decide)
    have c7:=hc k hlt 7 (by decide)
    have c8:=hc k hlt 8 (by decide)
    clear hc
    simp only[Nat.add_zero]at c0
    go_wp2_with fail
    have hb1:=hb.out
    have hal:Below wr.heap.size wr (wr.alloc (.cells #[.int .i64 (z k 0),.int .i64 (z k 1),.int .i64 (z k 2),.int .i64 (z k 3),.int .i64 (z k 4),.int .i64 (z k 5),.int .i64 (z k 6),.int .i64 (z k 7),.int .i64 (z k 8)] 76)):=(Below.refl _ wr).alloc (Nat.le_refl _) _
    have hB1:=QeS hB.out hal
    have hL1:TxLaid (wr.alloc (.cells #[.int .i64 (z k 0),.int .i64 (z k 1),.int .i64 (z k 2),.int .i64 (z k 3),.int .i64 (z k 4),.int .i64 (z k 5),.int .i64 (z k 6),.int .i64 (z k 7),.int .i64 (z k 8)] 76)):=(HL.out.below hb1 (Nat.le_refl _)).below hal (Nat.le_refl _)
    have hl:=Qo1 (z k) (hev k hlt) hL1
    have hln:=QjJ (hev k hlt)
    have hW1:Below w.heap.size w (wr.alloc (.cells #[.int .i64 (z k 0),.int .i64 (z k 1),.int .i64 (z k 2),.int .i64 (z k 3),.int .i64 (z k 4),.int .i64 (z k 5),.int .i64 (z k 6),.int .i64 (z k 7),.int .i64 (z k 8)] 76)):=hb1.trans (hal.mono hb1.size)
    have hlt1:=Qij hB1
    generalize (wr.alloc (.cells #[.int .i64 (z k 0),.int .i64 (z k 1),.int .i64 (z k 2),.int .i64 (z k 3),.int .i64 (z k 4),.int .i64 (z k 5),.int .i64 (z k 6),.int .i64 (z k 7),.int .i64 (z k 8)] 76))=w1 at *
    have HB1:=Lib.hid hB1;have HW1:=Lib.hid hW1;have HL1:=Lib.hid hL1
    clear hB1 hL1 hal hb hB hb1 c0 c1 c2 c3 c4 c5 c6 c7 c8
    refine hl.mono ?_
    rintro e w2 ⟨rfl,hb2⟩
    have HB2:=Lib.hid (QeS HB1.out hb2)
    have HW2:=Lib.hid (HW1.out.trans (hb2.mono HW1.out.size))
    clear hb2 hW1 hl
    go_wp2_with fail
    have hfl:=QjT (z:=z) (n:=k) (fun i hi=>hev i (by omega))
    have hsz:(bsV (QaB (z k))++({ data:=#[10] }:ByteArray)).size=(QaB (z k)).length+1:=by rw[ByteArray.size_append];rfl
    have hd:(bsV (QaB (z k))++({ data:=#[10] }:ByteArray)).data.toList=QaB (z k)++[10]:=by simp
    generalize bsV (QaB (z k))++({ data:=#[10] }:ByteArray)=sx at *
    refine (QlI _ _ _ sx w2 HB2.out (by rw[hsz];omega) HW2.out.size).mono ?_
    rintro e w3 ⟨rfl,hB3,hb3,-⟩
    rw[hd,<- Qgu,<- QfG]at hB3
    have HB3:=Lib.hid hB3
    have HW3:=Lib.hid (HW2.out.trans hb3)
    have hlt3:=Qij hB3
    clear hB3 hb3 hd
    go_wp2_with fail
    go_roundw
    case rel=>exact⟨k+1,by omega,by go_num,HW3,hlt3,HB3⟩
    case measure=>simp[intOf];omega
  · obtain rfl:k=n:=by omega
    go_wp2_with fail
    have hs:=Tryz.Builder_String_any_f w.heap.size w.heap.size (QaO (QbQ z k)) wr hB.out hb.out.size
    refine hs.mono ?_
    rintro e w3 ⟨rfl,-,hb3⟩
    have HW3:=Lib.hid (hb.out.trans hb3)
    clear hb3 hs
    go_wp2_with fail
    go_ret
    exact⟨rfl,HW3.out⟩
abbrev rowsX (m c:Nat) (z:Nat->Nat->Int):SB:=.rows 9 [.str] 1 m c z
structure EvO where
 n:Nat
 m:Nat
 c:Nat
 nn:Bool
 z:Nat->Nat->Int
def Qrc:RCon where
 σ:=EvO
 χ:=Unit
 pre s:=s.n<=1000000/\s.n<=s.m/\∀i,i<s.n->EvIn (s.z i)
 args s:=[.c (.so 0 0 9 s.n s.c s.nn)]
 mem s:=[evB s.m s.c s.z]
 ok _ _:=True
 val s _:=.o (txV (QaO (QbQ s.z s.n)))
 new _ _:=[]
 len:=0
 det:=some ()
 find args _:=match args with
  |[.c (.so b _ _ _ _ _)]=>some [b]
  |_=>none
theorem prtS_con (W:World) (hL:TxLaid W):(Con.rd Qrc).holdsAt Tryz.prog W (fun _=>False) 29:=by
 refine⟨by kernel_rfl,fun x0 h s x=>⟨rfl,trivial⟩,?_⟩
 rintro ρ ⟨n,m,c,nn,z⟩ w ⟨hn,hm,hu⟩ hK hM
 have hn:n<=1000000:=hn
 have hm:n<=m:=hm
 have hu:∀i,i<n->EvIn (z i):=hu
 have hrow:RowAt w (ρ 0) 76 9 m c (QJ (ckAt [.int .i64,.int .i64,.int .i64,.int .i64,.int .i64,.int .i64,.int .i64,.int .i64,.int .i64]) 9 z m):=hM _ (List.mem_singleton.2 rfl)
 obtain⟨a,c',e1,hr,-,hc⟩:=Qma (kf:=fun _=>.i64) (lo:=0) (n:=n) (nn:=nn) hrow rfl rfl (by rw[Nat.zero_add];exact hm)
 have ez:(fun i=>z (0+i))=z:=funext fun i=>by rw[Nat.zero_add]
 rw[ez]at hr
 show Calls Tryz.prog 29 #[(SC.so 0 0 9 n c nn).den ρ] w _
 rw[e1]
 exact (QkE a n c' z w (hL.kept hK) hr hn hu).mono fun e w' ⟨he,hw⟩=>⟨(),ρ,trivial,fun _ _=>rfl,rfl,he,⟨.of_below hw,fun f hf=>(by cases hf),fun f hf=>(by cases hf),List.Pairwise.nil⟩⟩
structure SplS where
 s:ByteArray
 sep:ByteArray
def SplS.l (x:SplS):List ByteArray:=Lib.splitB x.sep 0 (Lib.countB x.s x.sep) x.s
def pcOf:List ByteArray->Nat->ByteArray
 |[],_=>ByteArray.empty
 |x::_,0=>x
 |_::r,n+1=>pcOf r n
theorem Qmy:∀(l:List ByteArray) (i:Nat),pcOf l i=l.getD i ByteArray.empty
 |[],_=>rfl
 |x::_,0=>rfl
 |_::r,n+1=>by
  show pcOf r n=_
  rw[Qmy r n];rfl
def SplS.y (x:SplS):Nat->Nat->Int:=fun i _=>sE (pcOf x.l i)
def Qj1:RCon where
 σ:=SplS
 χ:=Unit
 pre s:=s.s.size<4294967281/\1<=s.sep.size/\Lib.countB s.s s.sep<=1000000/\s.l.length=Lib.countB s.s s.sep+1
 args s:=[.c (.v (.string s.s)),.c (.v (.string s.sep))]
 mem _:=[]
 ok _ _:=True
 val s _:=.o (.c (.so 0 0 1 (Lib.countB s.s s.sep+1) (Lib.countB s.s s.sep+1) true))
 new s _:=[rowsX (Lib.countB s.s s.sep+1) (Lib.countB s.s s.sep+1) s.y]
 len:=1
 det:=some ()
 find _ _:=some []
theorem split_con (W:World) (hm:∃m,W.cell? ⟨3,0,none⟩=some (.int .i64 m)):(Con.rd Qj1).holdsAt Tryz.prog W (fun _=>False) 28:=by
 obtain⟨mx,hmx⟩:=hm
 have h3:3<W.heap.size:=by
  rcases Nat.lt_or_ge 3 W.heap.size with h|h
  · exact h
  · simp[World.cell?,Array.getElem?_eq_none h]at hmx
 refine⟨by kernel_rfl,fun x0 h s x=>⟨rfl,trivial⟩,?_⟩
 intro ρ (x:SplS) w hp hK _
 obtain⟨h1,h2,h4,h5⟩:=hp
 have h1:x.s.size<4294967281:=h1
 have h2:1<=x.sep.size:=h2
 have h4:Lib.countB x.s x.sep<=1000000:=h4
 have h5:x.l.length=Lib.countB x.s x.sep+1:=h5
 have hw:w.cell? ⟨3,0,none⟩=some (.int .i64 mx):=by
  rw[<- hmx]
  unfold World.cell?
  rw[hK.block 3 h3 (fun h=>h)]
 refine (Tryz.strings_Split x.s x.sep mx w h1 hw h2).mono ?_
 rintro e w' ⟨rfl,rfl⟩
 refine⟨(),fun _=>w.heap.size,trivial,fun i hi=>absurd hi (Nat.not_lt_zero _),rfl,?_,⟨.of_below ((Below.refl _ _).alloc (Nat.le_refl _) _),fun f hf=>?_,fun f hf g hg=>?_,List.pairwise_singleton _ _⟩⟩
 · simp[Qj1,SV.den,SA.den,SC.den]
 · obtain rfl:=List.mem_singleton.1 hf
   refine⟨Nat.le_refl _,Qz _ _ _ _,fun _=>⟨_,Blk.newA w _ _,?_,?_,?_⟩⟩
   · show (x.l.map Value.string).length=_
     rw[List.length_map,h5,Nat.mul_one]
   · show (x.l.map Value.string).take _=_
     rw[Nat.mul_one,List.take_of_length_le (by rw[List.length_map,h5];exact Nat.le_refl _)]
     apply List.ext_getElem?
     intro i
     rcases Nat.lt_or_ge i (Lib.countB x.s x.sep+1)with hi|hi
     · have h:=Xd (ckAt [.str]) 1 x.y (Lib.countB x.s x.sep+1) i 0 hi (by decide)
       rw[Nat.mul_one]at h
       refine Eq.trans ?_ h.symm
       rw[List.getElem?_map,List.getElem?_eq_getElem (by rw[h5];exact hi)]
       show some (Value.string _)=some (Value.string (sD (sE (pcOf x.l i))))
       rw[sD_sE,Qmy,List.getD_eq_getElem?_getD,List.getElem?_eq_getElem (by rw[h5];exact hi)];rfl
     · rw[List.getElem?_eq_none (by rw[List.length_map,h5];exact hi),List.getElem?_eq_none (by rw[Qz,Nat.mul_one];exact hi)]
   · show Lib.countB x.s x.sep+1<=2^63-1
     omega
 · obtain rfl:=List.mem_singleton.1 hf
   obtain⟨-,rfl⟩:=hg
   exact .inr (Nat.le_refl _)
end
end Go.Proofs.YtflgoaogcenmpaaGreatDoor
