/- What the proof leans on, gathered. -/
import Derived.Lib.SliceRun
import Derived.Lib.AppendZeros
import Derived.Lib.AppendZerosOnto
import Derived.Lib.Overlaps
import Derived.Laws.Externs
import Derived.Laws.IdiomCopy
import Derived.Deep.AppendSrc
import Derived.Test.YtflgoaogcenmpaaDoorRows
import Derived.Test.YtflgoaogcenmpaaDoorProg
import Derived.ChangeVars
import Derived.JoinedOf
import Derived.RowKit
import Derived.LaidLaws
import Derived.LaidHandle
import Derived.Stop.Joined
import Derived.Deep.Slices
import Derived.Deep.Fields
import Derived.ChangeSame
import Derived.ProofKit
import Derived.Test.YtflgoaogcenmpaaDoorZQ3
namespace Go.Proofs.YtflgoaogcenmpaaDoor
set_option linter.unusedVariables false
set_option maxRecDepth 100000
set_option maxHeartbeats 8000000
section
open Go.RowKit Go.Lib
theorem XP {P:Program}(w:World) (dT sT ty elem:TypeId) (b o dLen dCap:Nat) (a:Addr) (sLen sCap:Nat) (cs:List Value) (k sz:Nat)
 (hu:P.underlying dT=some (.slice elem)) (hs:(P.info? elem).map (·.size)=some sz) (hk:Nat.min sLen dLen=k) (hn:cs.length=k*sz)
 (hsrc:∀j v,cs[j]?=some v->w.cell? (a.add j)=some v) (hc:∀j,j<cs.length->(w.cell? ⟨b,o+j,none⟩).isSome=true) (hf:∀j,j<cs.length->w.frozen? ⟨b,o+j,none⟩=false) (h1:∀v∈cs,v.oneCell'=true):
 (Builtin.copy_ #[dT,sT] ty #[.slice (some ⟨b,o,none⟩) dLen dCap,.slice (some a) sLen sCap]).run P w=.ok (goInt k) (w.setCells b o cs):=by
 have hl:=run_loadCells_list (P:=P) w a cs hsrc
 have hst:=run_storeCells_cells (P:=P) b o cs 0 w (by simpa using hc) (by simpa using hf) h1
 cases hq:P.info? elem with
 |none=>simp[hq]at hs
 |some i=>
  have hi:i.size=sz:=by simpa [hq] using hs
  simp[Builtin.copy_,run_underlying hu,Builtin.lenOf,Builtin.firstCells,sizeOf,typeInfo,hq,hi,hk,<- hn,hl,hst]
theorem isz:(Tryd.prog.info? 36).map (·.size)=some 5:=by kernel_rfl
theorem Qhk (b n c i vb:Nat) (cs vs:List Value) (w:World) (hi:i<n) (hroom:n+1<=c) (hc63:c<=9223372036854775807) (hvb:vb≠b)
 (hcl:cs.length=n*5) (hvl:vs.length=5)
 (hcs:∀j v,cs[j]?=some v->w.cell? ⟨b,j,none⟩=some v) (hsp:∀j,j<(n+1)*5->(w.cell? ⟨b,j,none⟩).isSome=true) (hfz:∀j,w.frozen? ⟨b,j,none⟩=false)
 (hvs:∀j v,vs[j]?=some v->w.cell? ⟨vb,j,none⟩=some v) (h1c:∀v∈cs,v.oneCell'=true) (h1v:∀v∈vs,v.oneCell'=true)
 (tA tB:TypeId) (kA kB:Nat) (hsa:w.shape? vb=some (tA,kA)) (hsb:w.shape? b=some (tB,kB)) (hkB:kB≠0) (hfa:∀j,w.frozen? ⟨vb,j,none⟩=false):
 Calls Tryd.prog 14 #[.slice (some ⟨b,0,none⟩) n c,.int .i64 i,.slice (some ⟨vb,0,none⟩) 1 1] w fun e w'=>
  e=.returned (.slice (some ⟨b,0,none⟩) (n+1) c)/\w'=(w.drew.setCells b ((i+1)*5) (cs.drop (i*5))).setCells b (i*5) vs:=by
 have hov:∀lb cb,(callFunc 28 #[.slice (some ⟨vb,0,none⟩) 1 1,.slice (some ⟨b,(i+1)*5,none⟩) lb cb]).run Tryd.prog w=.ok (.value (.bool false)) w:=fun lb cb=>by
  rw[run_callFunc_extern Tryd.func28 (by kernel_rfl) (by kernel_rfl) (by kernel_rfl) (e:=Extern.SlicesOverlaps.overlaps #[33,33] #[4]) (by kernel_rfl),
   Lib.run_overlaps_apart w 33 4 36 Tryd.underlying33 5 (fun w=>Tryd.sizeOf36 w) ⟨vb,0,none⟩ ⟨b,(i+1)*5,none⟩ 1 1 lb cb hvb tA tB kA kB hsa hsb hkB (hfa _) (hfa _)]
  rfl
 have hdl:(cs.drop (i*5)).length=(n-i)*5:=by rw[List.length_drop,hcl];omega
 have hw1:IntKind.i64.wrap ((i:Int)+1)=(i:Int)+1:=by rw[IntKind.wrap_i64];omega
 have htn:((i:Int)+1).toNat=i+1:=by omega
 have hz2:¬((i:Int)=(n:Int)):=by omega
 have hb1:(0:Int)<=(i:Int)+1:=by omega
 have hin:i<=n:=by omega
 have hb2:¬(c=i+1):=by omega
 have hb3:(i:Int)<=(n:Int)+1:=by omega
 have hb4:¬(c=i):=by omega
 have hcp1:∀ty dc sc,(Builtin.copy_ #[33,33] ty #[.slice (some ⟨b,(i+1)*5,none⟩) (n-i) dc,.slice (some ⟨b,i*5,none⟩) (n+1-i) sc]).run Tryd.prog w.drew=.ok (goInt ((n-i:Nat):Int)) (w.drew.setCells b ((i+1)*5) (cs.drop (i*5))):=fun ty dc sc=>
  XP w.drew _ _ ty 36 b ((i+1)*5) (n-i) dc ⟨b,i*5,none⟩ (n+1-i) sc (cs.drop (i*5)) (n-i) 5 Tryd.underlying33 isz (by simp only[Nat.min_def];split<;>omega) hdl
   (fun j v hj=>by rw[Addr.add_lit];exact hcs (i*5+j) v (by rwa [List.getElem?_drop]at hj))
   (fun j hj=>hsp _ (by omega)) (fun j hj=>hfz _) (fun v hv=>h1c v (List.mem_of_mem_drop hv))
 obtain⟨W1,hW1⟩:∃W1,W1=w.drew.setCells b ((i+1)*5) (cs.drop (i*5)):=⟨_,rfl⟩
 have hsp1:∀k,k<(n+1)*5->(W1.cell? ⟨b,k,none⟩).isSome=true:=fun k hk=>by
  rw[hW1]
  exact isSome_setCells b (cs.drop (i*5)) ((i+1)*5) w.drew (fun j hj=>hsp _ (by rw[hdl]at hj;omega)) k (hsp k hk)
 have hcp2:∀(W:World),(∀x,W.cell? x=W1.cell? x)->(∀x,W.frozen? x=W1.frozen? x)->∀ty dc,(Builtin.copy_ #[33,33] ty #[.slice (some ⟨b,i*5,none⟩) (n+1-i) dc,.slice (some ⟨vb,0,none⟩) 1 1]).run Tryd.prog W=.ok (goInt ((1:Nat):Int)) (W.setCells b (i*5) vs):=fun W hWc hWf ty dc=>
  XP W _ _ ty 36 b (i*5) (n+1-i) dc ⟨vb,0,none⟩ 1 1 vs 1 5 Tryd.underlying33 isz (by simp only[Nat.min_def];split<;>omega) hvl
   (fun j v hj=>by
    rw[Addr.add_lit,hWc,hW1,World.cell?_setCells_out b _ _ _ _ (fun h _=>absurd h hvb),Nat.zero_add]
    exact hvs j v hj)
   (fun j hj=>by rw[hWc];exact hsp1 _ (by omega)) (fun j hj=>by rw[hWf,hW1,World.frozen?_setCells];exact hfz _) h1v
 rw[<- hW1]at hcp1
 have mixed:Tryd.prog.follows Departure.mixedOrders=true:=by kernel_rfl
 go_enter Tryd.func14,Tryd.ntmps14
 go_wp2_with (simp only[hov])
 go_region_law_o (refine step_copy_runI rfl _ _ 33 33 rfl _ _ (by simp[Act.eval,Act.put]) (by simp[Act.eval,Act.put]) (hcp1 _ _ _) ?_)
 go_wp2_with (at_builtin;refine wpList_copy_runI _ rfl _ _ 33 33 rfl _ _ rfl rfl (hcp2 _ (fun _=>rfl) (fun _=>rfl) _ _) ?_)
 go_ret
 first|exact⟨rfl,rfl⟩|exact⟨rfl,by rw[hW1]⟩
abbrev zAsk:Value:=.agg #[.int .i64 0,.int .i64 0,.int .i64 0,.int .i64 0,.int .i64 0]
theorem Qgj:∃i:TypeInfo,Tryd.prog.info? 36=some i/\i.size=5/\i.zero=some zAsk/\i.bytes=40:=by
 have hs:(Tryd.prog.info? 36).map (·.size)=some 5:=by kernel_rfl
 have hz:(Tryd.prog.info? 36).bind (·.zero)=some zAsk:=by kernel_rfl
 have hb:(Tryd.prog.info? 36).map (·.bytes)=some 40:=by kernel_rfl
 cases hq:Tryd.prog.info? 36 with
 |none=>rw[hq]at hs;cases hs
 |some i0=>
  rw[hq]at hs hz hb
  simp only[Option.map_some,Option.some.injEq,Option.bind_some]at hs hz hb
  exact⟨i0,rfl,hs,hz,hb⟩
theorem Qiz (b n c vb:Nat) (vs:List Value) (w:World) (hroom:n+1<=c) (hc63:c<=9223372036854775807) (hvl:vs.length=5)
 (hsp:∀j,j<5->(w.cell? ⟨b,n*5+j,none⟩).isSome=true) (hfz:∀j,w.frozen? ⟨b,j,none⟩=false)
 (hvs:∀j v,vs[j]?=some v->w.cell? ⟨vb,j,none⟩=some v) (h1v:∀v∈vs,v.oneCell'=true):
 Calls Tryd.prog 14 #[.slice (some ⟨b,0,none⟩) n c,.int .i64 n,.slice (some ⟨vb,0,none⟩) 1 1] w fun e w'=>
  e=.returned (.slice (some ⟨b,0,none⟩) (n+1) c)/\w'=w.setCells b (n*5) vs:=by
 obtain⟨i0,hi0,hzs,hz0,hzb⟩:=Qgj
 have hsrc:Go.Src Tryd.prog i0.size 33 (.slice (some ⟨vb,0,none⟩) 1 1) 1 vs w:=by
  rw[hzs]
  exact Go.Src.ofSlice w Tryd.underlying33 ⟨vb,0,none⟩ 1 1 vs (by omega) (fun j u hj=>by rw[Addr.add_lit,Nat.zero_add];exact hvs j u hj) h1v
 have hrun:∀ty,(Builtin.append_ #[33,33] ty #[.slice (some ⟨b,0,none⟩) n c,.slice (some ⟨vb,0,none⟩) 1 1]).run Tryd.prog w=.ok (.slice (some ⟨b,0,none⟩) (n+1) c) (w.setCells b (n*5) vs):=fun ty=>by
  have h:=run_append_room_src w 33 33 ty 36 i0 Tryd.underlying33 hi0 b 0 n c _ 1 vs hsrc hroom (by rw[hvl,hzs,Nat.zero_add];exact hsp) (by intro j _;exact hfz _)
  rw[hzs,Nat.zero_add]at h
  exact h
 have mixed:Tryd.prog.follows Departure.mixedOrders=true:=by kernel_rfl
 go_enter Tryd.func14,Tryd.ntmps14
 go_wp2_with (at_builtin;refine Lib.wpList_append_run _ rfl _ _ _ _ rfl _ _ rfl rfl _ _ (hrun _) ?_)
 go_ret
 exact⟨rfl,rfl⟩
theorem QiB (base:Option Addr) (n c vb:Nat) (cs vs:List Value) (w:World) (hnc:n<=c) (hroom:c<n+1) (hbig:n<=1000) (hcl:cs.length=n*5) (hvl:vs.length=5) (hnil:base=none->n=0)
 (hcs:∀a,base=some a->∀j v,cs[j]?=some v->w.cell? (a.add j)=some v)
 (hvs:∀j v,vs[j]?=some v->w.cell? ⟨vb,j,none⟩=some v) (h1v:∀v∈vs,v.oneCell'=true):
 Calls Tryd.prog 14 #[.slice base n c,.int .i64 n,.slice (some ⟨vb,0,none⟩) 1 1] w fun e w'=>
  e=.returned (.slice (some ⟨w.heap.size,0,none⟩) (n+1) (grownCap w (n+1) c 36)) /\
  w'=w.drew.alloc (.cells ((cs++vs).toArray++Builtin.zeroCells zAsk.cells (grownCap w (n+1) c 36-(n+1))) 36):=by
 obtain⟨i0,hi0,hzs,hz0,hzb⟩:=Qgj
 have hsrc:Go.Src Tryd.prog i0.size 33 (.slice (some ⟨vb,0,none⟩) 1 1) 1 vs w:=by
  rw[hzs]
  exact Go.Src.ofSlice w Tryd.underlying33 ⟨vb,0,none⟩ 1 1 vs (by omega) (fun j u hj=>by rw[Addr.add_lit,Nat.zero_add];exact hvs j u hj) h1v
 have hold:(Builtin.firstCells i0.size n (.slice base n c)).run Tryd.prog w.drew=.ok cs.toArray w.drew:=by
  rw[hzs]
  cases base with
  |none=>
   have h0:=hnil rfl
   subst h0
   rw[List.length_eq_zero_iff.1 hcl]
   exact run_firstCells_none w.drew 5 0 0 c
  |some a=>exact run_firstCells_some w.drew 5 n a n c cs (by omega) (fun j v hj=>hcs a rfl j v hj)
 have hrun:∀ty,(Builtin.append_ #[33,33] ty #[.slice base n c,.slice (some ⟨vb,0,none⟩) 1 1]).run Tryd.prog w=_:=fun ty=>
  run_append_grow_src w 33 33 ty 36 i0 _ Tryd.underlying33 hi0 hz0 base n c cs hold _ 1 vs hsrc hroom (by omega) (by rw[hzb];exact growslice_fits hroom (by omega))
 have mixed:Tryd.prog.follows Departure.mixedOrders=true:=by kernel_rfl
 go_enter Tryd.func14,Tryd.ntmps14
 cases base with
 |none=>
  have h0:=hnil rfl
  subst h0
  go_wp2_with (at_builtin;refine Lib.wpList_append_run _ rfl _ _ _ _ rfl _ _ rfl rfl _ _ (hrun _) ?_)
  go_ret
  exact⟨rfl,rfl⟩
 |some a=>
  obtain⟨ab,ao,asp⟩:=a
  go_wp2_with (at_builtin;refine Lib.wpList_append_run _ rfl _ _ _ _ rfl _ _ rfl rfl _ _ (hrun _) ?_)
  all_goals (go_ret;exact⟨rfl,rfl⟩)
theorem QiA (b n c i vb:Nat) (cs vs:List Value) (w:World) (hi:i<n) (hnc:n<=c) (hroom:c<n+1) (hbig:n<=1000)
 (hcl:cs.length=n*5) (hvl:vs.length=5)
 (hcs:∀j v,cs[j]?=some v->w.cell? ⟨b,j,none⟩=some v)
 (hvs:∀j v,vs[j]?=some v->w.cell? ⟨vb,j,none⟩=some v) (h1c:∀v∈cs,v.oneCell'=true) (h1v:∀v∈vs,v.oneCell'=true):
 Calls Tryd.prog 14 #[.slice (some ⟨b,0,none⟩) n c,.int .i64 i,.slice (some ⟨vb,0,none⟩) 1 1] w fun e w'=>
  e=.returned (.slice (some ⟨w.heap.size,0,none⟩) (n+1) (grownCap w (n+1) c 36)) /\
  w'=(((w.alloc (.cells ((cs.take (i*5)).toArray++Builtin.zeroCells zAsk.cells (n+1-i)++Builtin.zeroCells zAsk.cells (grownCap w (n+1) c 36-(n+1))) 36)).drew.setCells w.heap.size (i*5) vs).drew).setCells w.heap.size ((i+1)*5) (cs.drop (i*5)):=by
 obtain⟨i0,hi0,hzs,hz0,hzb⟩:=Qgj
 have hz2:¬((i:Int)=(n:Int)):=by omega
 have hz3:(c:Int)<(n:Int)+1:=by omega
 have hbw:b<w.heap.size:=block_lt_of_cell (hcs 0 _ (List.getElem?_eq_getElem (by omega)))
 have hvw:vb<w.heap.size:=block_lt_of_cell (hvs 0 _ (List.getElem?_eq_getElem (by omega)))
 have hkk:(n:Int)+1-(i:Int)=((n+1-i:Nat):Int):=by omega
 have hik:i+(n+1-i)=n+1:=by omega
 have hold:(Builtin.firstCells i0.size i (.slice (some ⟨b,0,none⟩) i c)).run Tryd.prog w.drew=.ok (cs.take (i*5)).toArray w.drew:=by
  rw[hzs]
  exact run_firstCells_some w.drew 5 i ⟨b,0,none⟩ i c (cs.take (i*5)) (by rw[List.length_take];omega) (fun j v hj=>by
   rw[Addr.add_lit,Nat.zero_add]
   rw[List.getElem?_take]at hj
   split at hj
   · exact hcs j v hj
   · cases hj)
 have hrz:∀ty,(Builtin.append_ #[33,3] ty #[.slice (some ⟨b,0,none⟩) i c,.int .i64 ((n:Int)+1-(i:Int))]).run Tryd.prog w =
  .ok (.slice (some ⟨w.heap.size,0,none⟩) (n+1) (grownCap w (n+1) c 36)) (w.drew.alloc (.cells ((cs.take (i*5)).toArray++Builtin.zeroCells zAsk.cells (n+1-i)++Builtin.zeroCells zAsk.cells (grownCap w (n+1) c 36-(n+1))) 36)):=fun ty=>by
  have h:=Lib.run_append_grow_zeros w 33 3 ty 36 i0 _ .i64 .i64 Tryd.underlying33 Tryd.underlying3 hi0 hz0 (some ⟨b,0,none⟩) i c (cs.take (i*5)) hold (n+1-i) (by omega) (by omega) (by omega) (by omega) (by rw[hzb];omega) (by rw[hzb,hik];exact growslice_fits hroom (by omega))
  rw[hik]at h
  rw[hkk]
  exact h
 obtain⟨G,hG⟩:∃G,G=grownCap w (n+1) c 36:=⟨_,rfl⟩
 have hGn:n+1<=G:=by rw[hG];exact grownCap_ge w _ _ _
 have hG63:G<=9223372036854775807:=by
  have:=grownCap_le_maxLen w (n+1) c 36 (by unfold maxLen;omega)
  rw[<- hG]at this
  unfold maxLen at this
  omega
 obtain⟨ROW,hROW⟩:∃ROW:Array Value,ROW=(cs.take (i*5)).toArray++Builtin.zeroCells zAsk.cells (n+1-i)++Builtin.zeroCells zAsk.cells (G-(n+1)):=⟨_,rfl⟩
 rw[<- hG]at hrz ⊢
 rw[<- hROW]at hrz ⊢
 have hRl:(n+1)*5<=ROW.size:=by
  rw[hROW]
  simp[size_zeroCells,Value.cells]
  omega
 obtain⟨W1,hW1⟩:∃W1,W1=w.drew.alloc (.cells ROW 36):=⟨_,rfl⟩
 rw[<- hW1]at hrz
 have hN:∀j,j<(n+1)*5->(W1.cell? ⟨w.heap.size,j,none⟩).isSome=true:=fun j hj=>by
  rw[hW1,World.cell?_alloc_at (w:=w.drew) ROW _ w.heap.size j rfl,Array.getElem?_eq_getElem (by omega)];rfl
 have hNf:∀j,W1.frozen? ⟨w.heap.size,j,none⟩=false:=fun j=>by rw[hW1];exact World.frozen?_alloc_at (w:=w.drew) ROW _ w.heap.size j rfl
 have hOb:∀j v,w.cell? ⟨b,j,none⟩=some v->W1.cell? ⟨b,j,none⟩=some v:=fun j v h=>by rw[hW1,World.cell?_alloc_past (w:=w.drew) _ b j hbw];exact h
 have hOv:∀j v,w.cell? ⟨vb,j,none⟩=some v->W1.cell? ⟨vb,j,none⟩=some v:=fun j v h=>by rw[hW1,World.cell?_alloc_past (w:=w.drew) _ vb j hvw];exact h
 have hcpA:∀(W:World),(∀x,W.cell? x=W1.cell? x)->(∀x,W.frozen? x=W1.frozen? x)->∀ty dc,(Builtin.copy_ #[33,33] ty #[.slice (some ⟨w.heap.size,i*5,none⟩) (n+1-i) dc,.slice (some ⟨vb,0,none⟩) 1 1]).run Tryd.prog W=.ok (goInt ((1:Nat):Int)) (W.setCells w.heap.size (i*5) vs):=fun W hWc hWf ty dc=>
  XP W _ _ ty 36 w.heap.size (i*5) (n+1-i) dc ⟨vb,0,none⟩ 1 1 vs 1 5 Tryd.underlying33 isz (by simp only[Nat.min_def];split<;>omega) hvl
   (fun j v hj=>by rw[Addr.add_lit,hWc,Nat.zero_add];exact hOv _ v (hvs j v hj))
   (fun j hj=>by rw[hWc];exact hN _ (by omega)) (fun j hj=>by rw[hWf];exact hNf _) h1v
 have hGi:¬(G=i):=by omega
 have hGim:¬(G=i+1):=by omega
 have hci:¬(c=i):=by omega
 have hbN:b≠w.heap.size:=by omega
 have hdl:(cs.drop (i*5)).length=(n-i)*5:=by rw[List.length_drop,hcl];omega
 have hcpB:∀(W:World),(∀x,W.cell? x=(W1.setCells w.heap.size (i*5) vs).cell? x)->(∀x,W.frozen? x=(W1.setCells w.heap.size (i*5) vs).frozen? x)->∀ty dc sc,(Builtin.copy_ #[33,33] ty #[.slice (some ⟨w.heap.size,(i+1)*5,none⟩) (n-i) dc,.slice (some ⟨b,i*5,none⟩) (n-i) sc]).run Tryd.prog W=.ok (goInt ((n-i:Nat):Int)) (W.setCells w.heap.size ((i+1)*5) (cs.drop (i*5))):=fun W hWc hWf ty dc sc=>
  XP W _ _ ty 36 w.heap.size ((i+1)*5) (n-i) dc ⟨b,i*5,none⟩ (n-i) sc (cs.drop (i*5)) (n-i) 5 Tryd.underlying33 isz (by simp only[Nat.min_def];split<;>omega) hdl
   (fun j v hj=>by
    rw[Addr.add_lit,hWc,World.cell?_setCells_out _ _ _ _ _ (fun h _=>absurd h hbN)]
    exact hOb _ v (hcs (i*5+j) v (by rwa [List.getElem?_drop]at hj)))
   (fun j hj=>by rw[hWc];exact isSome_setCells _ _ _ _ (fun t ht=>hN _ (by omega)) _ (hN _ (by omega)))
   (fun j hj=>by rw[hWf,World.frozen?_setCells];exact hNf _) (fun v hv=>h1c v (List.mem_of_mem_drop hv))
 subst hW1
 have hE1:∀x,((w.alloc (.cells ROW 36)).drew).cell? x=(w.drew.alloc (.cells ROW 36)).cell? x:=fun x=>rfl
 have hE2:∀x,((w.alloc (.cells ROW 36)).drew).frozen? x=(w.drew.alloc (.cells ROW 36)).frozen? x:=fun x=>rfl
 have hF1:∀x,(((w.alloc (.cells ROW 36)).drew.setCells w.heap.size (i*5) vs).drew).cell? x=((w.drew.alloc (.cells ROW 36)).setCells w.heap.size (i*5) vs).cell? x:=fun x=>rfl
 have hF2:∀x,(((w.alloc (.cells ROW 36)).drew.setCells w.heap.size (i*5) vs).drew).frozen? x=((w.drew.alloc (.cells ROW 36)).setCells w.heap.size (i*5) vs).frozen? x:=fun x=>rfl
 have hw1:IntKind.i64.wrap ((i:Int)+1)=(i:Int)+1:=by rw[IntKind.wrap_i64];omega
 have hb1:(0:Int)<=(i:Int)+1:=by omega
 have hin:i<=n:=by omega
 have htn:((i:Int)+1).toNat=i+1:=by omega
 have hb3:(i:Int)<=(n:Int):=by omega
 have mixed:Tryd.prog.follows Departure.mixedOrders=true:=by kernel_rfl
 clear hkk hik hold hROW hG hRl
 go_enter Tryd.func14,Tryd.ntmps14
 go_wp2_with (first
  |(at_builtin;refine Lib.wpList_append_run _ rfl _ _ _ _ rfl _ _ rfl rfl _ _ (hrz _) ?_)
  |(at_builtin;refine wpList_copy_runI _ rfl _ _ 33 33 rfl _ _ rfl rfl (hcpA _ hE1 hE2 _ _) ?_)
  |(at_builtin;refine wpList_copy_runI _ rfl _ _ 33 33 rfl _ _ rfl rfl (hcpB _ (fun _=>rfl) (fun _=>rfl) _ _ _) ?_))
 go_region_law_o (refine step_copy_runI rfl _ _ 33 33 rfl (.slice (some ⟨w.heap.size,(i+1)*5,none⟩) (n-i) (G-(i+1))) (.slice (some ⟨b,i*5,none⟩) (n-i) (c-i)) (by simp[Act.eval,Act.put]) (by simp[Act.eval,Act.put]) (hcpB _ hF1 hF2 3 (G-(i+1)) (c-i)) ?_)
 go_wp2
 go_ret
 exact⟨rfl,rfl⟩
def insL (i:Nat) (a:Ask) (l:List Ask):List Ask:=l.take i++a::l.drop i
abbrev rwA (z:Nat->Nat->Int) (n:Nat):List Value:=Qn (ckAt [.int .i64,.int .i64,.int .i64,.int .i64,.int .i64]) 5 z n
theorem QbM (z:Nat->Nat->Int) (n i j:Nat) (hi:i<n) (hj:j<5):(rwA z n)[i*5+j]?=some (.int .i64 (z i j)):=by
 rw[QH _ _ _ n i j hi hj]
 rcases (show j=0\/j=1\/j=2\/j=3\/j=4 by omega)with rfl|rfl|rfl|rfl|rfl<;>rfl
theorem Qh0 (z:Nat->Nat->Int) (n:Nat):∀v∈rwA z n,v.oneCell'=true:=by
 intro v hv
 obtain⟨k,hk,he⟩:=List.getElem_of_mem hv
 rw[Qf]at hk
 have hg:=QbM z n (k/5) (k%5) (by omega) (by omega)
 rw[show k/5*5+k%5=k by omega,List.getElem?_eq_getElem (by rw[Qf];exact hk),he]at hg
 rw[Option.some.inj hg];rfl
def insZ (i:Nat) (z z2:Nat->Nat->Int):Nat->Nat->Int:=fun q b=>bif Nat.ble (q+1) i then z q b else bif Nat.beq q i then z2 0 b else z (q-1) b
theorem QkQ {i q:Nat}(z z2:Nat->Nat->Int) (h:q<i):insZ i z z2 q=z q:=funext fun b=>by unfold insZ;rw[Nat.ble_eq_true_of_le h];rfl
theorem QkS (i:Nat) (z z2:Nat->Nat->Int):insZ i z z2 i=z2 0:=funext fun b=>by
 unfold insZ
 have:Nat.ble (i+1) i=false:=by
  cases h:Nat.ble (i+1) i
  · rfl
  · exact absurd (Nat.le_of_ble_eq_true h) (by omega)
 rw[this,show Nat.beq i i=true from Nat.beq_refl i];rfl
theorem QkR {i q:Nat}(z z2:Nat->Nat->Int) (h:i<q):insZ i z z2 q=z (q-1):=funext fun b=>by
 unfold insZ
 have:Nat.ble (q+1) i=false:=by
  cases h2:Nat.ble (q+1) i
  · rfl
  · exact absurd (Nat.le_of_ble_eq_true h2) (by omega)
 rw[this,nbeq (show q≠i by omega)];rfl
theorem QkA (z z2:Nat->Nat->Int) {n i:Nat}(hi:i<=n):rwA (insZ i z z2) (n+1)=(rwA z n).take (i*5)++rwA z2 1++(rwA z n).drop (i*5):=by
 have hl1:((rwA z n).take (i*5)).length=i*5:=by rw[List.length_take,Qf];omega
 have hl2:(rwA z2 1).length=5:=by rw[Qf]
 apply List.ext_getElem?
 intro k
 rcases Nat.lt_or_ge k ((n+1)*5)with hk|hk
 · have hg:=QbM (insZ i z z2) (n+1) (k/5) (k%5) (by omega) (by omega)
   rw[show k/5*5+k%5=k by omega]at hg
   rw[hg]
   rcases Nat.lt_trichotomy (k/5) i with h|h|h
   · rw[List.getElem?_append_left (by rw[List.length_append];omega),List.getElem?_append_left (by omega),List.getElem?_take,if_pos (by omega),QkQ z z2 h]
     have:=QbM z n (k/5) (k%5) (by omega) (by omega)
     rw[show k/5*5+k%5=k by omega]at this
     exact this.symm
   · rw[List.getElem?_append_left (by rw[List.length_append];omega),List.getElem?_append_right (by omega),hl1,h,QkS]
     have:=QbM z2 1 0 (k%5) (by omega) (by omega)
     rw[show 0*5+k%5=k-i*5 by omega]at this
     exact this.symm
   · rw[List.getElem?_append_right (by rw[List.length_append];omega),List.length_append,hl1,hl2,List.getElem?_drop,QkR z z2 h]
     have:=QbM z n (k/5-1) (k%5) (by omega) (by omega)
     rw[show (k/5-1)*5+k%5=i*5+(k-(i*5+5)) by omega]at this
     exact this.symm
 · rw[List.getElem?_eq_none (by rw[Qf];exact hk),List.getElem?_eq_none (by rw[List.length_append,List.length_append,hl1,hl2,List.length_drop,Qf];omega)]
theorem QhU (C vs X:List Value) {a b t:Nat}(hb:b=a+vs.length) (ht:t=b+X.length) (h:t<=C.length):(spl (spl C b X) a vs).take t=C.take a++vs++X:=by
 subst hb ht
 have e1:(spl C (a+vs.length) X).take a=C.take a:=by
  unfold spl
  rw[List.append_assoc,List.take_append_of_le_length (by rw[List.length_take];omega),List.take_take,Nat.min_eq_left (by omega)]
 have e2:(spl C (a+vs.length) X).drop (a+vs.length)=X++C.drop (a+vs.length+X.length):=by
  unfold spl
  rw[List.append_assoc]
  exact List.drop_left' (by rw[List.length_take];omega)
 show ((spl C (a+vs.length) X).take a++vs++(spl C (a+vs.length) X).drop (a+vs.length)).take _=_
 rw[e1,e2,<- List.append_assoc]
 exact List.take_left' (by rw[List.length_append,List.length_append,List.length_take];omega)
theorem Qjm (C vs X:List Value) {a b t:Nat}(hb:b=a+vs.length) (ht:t=b+X.length) (h:t<=C.length):(spl (spl C a vs) b X).take t=C.take a++vs++X:=by
 subst hb ht
 have e1:(spl C a vs).take (a+vs.length)=C.take a++vs:=by
  unfold spl
  exact List.take_left' (by rw[List.length_append,List.length_take];omega)
 show ((spl C a vs).take (a+vs.length)++X++(spl C a vs).drop _).take _=_
 rw[e1]
 exact List.take_left' (by rw[List.length_append,List.length_append,List.length_take];omega)
theorem Qkx (C vs:List Value) {a t:Nat}(ht:t=a+vs.length) (h:t<=C.length):(spl C a vs).take t=C.take a++vs:=by
 subst ht
 unfold spl
 exact List.take_left' (by rw[List.length_append,List.length_take];omega)
theorem Qkj {w:World}{g:Nat}{C xs:List Value}{t:TypeId}{k:Nat}(hB:Blk w g C t) (ht:C.take k=xs):∀j v,xs[j]?=some v->w.cell? ⟨g,j,none⟩=some v:=fun j v h=>by
 rw[<- ht,List.getElem?_take]at h
 split at h
 · rw[hB.cell];exact h
 · cases h
theorem QjF (w:World) (g n c i:Nat) (nn:Bool) (z z2:Nat->Nat->Int) (vb:Nat) (hn:n<=1000) (hi:i<=n) (hm:n<=c) (hv:Blk w vb (rwA z2 1) 36) (hne:0<c->vb≠g)
 (hg:0<c->∃C,Blk w g C 36/\C.length=c*5/\C.take (n*5)=rwA z n/\c<=maxLen):
 Calls Tryd.prog 14 #[bif c.beq 0 && !nn then .slice none 0 0 else .slice (some ⟨g,0,none⟩) n c,.int .i64 i,.slice (some ⟨vb,0,none⟩) 1 1] w fun e w'=>
  ∃d cap C,e=.returned (.slice (some ⟨d,0,none⟩) (n+1) cap)/\Blk w' d C 36/\C.length=cap*5/\n+1<=cap/\cap<=maxLen/\C.take ((n+1)*5)=rwA (insZ i z z2) (n+1)/\Kept (fun k=>0<c/\k=g) w w'/\((0<c/\d=g)\/w.heap.size<=d):=by
 have hl:(rwA z n).length=n*5:=Qf _ _ _ _
 have hl2:(rwA z2 1).length=5:=Qf _ _ _ _
 have hvs:=Qkj hv (List.take_of_length_le (Nat.le_refl _))
 have h1v:=Qh0 z2 1
 have h1c:=Qh0 z n
 have h63b:maxLen=9223372036854775807:=rfl
 have hz5:zAsk.cells.size=5:=rfl
 rw[QkA z z2 hi]
 generalize rwA z2 1=vs at *
 generalize rwA z n=cs at *
 have full (base:Option Addr) (hcs:∀a,base=some a->∀j v,cs[j]?=some v->w.cell? (a.add j)=some v) (hnil:base=none->n=0) (hin:i=n) (hr:c<n+1):
  Calls Tryd.prog 14 #[.slice base n c,.int .i64 i,.slice (some ⟨vb,0,none⟩) 1 1] w fun e w'=>
  ∃d cap C,e=.returned (.slice (some ⟨d,0,none⟩) (n+1) cap)/\Blk w' d C 36/\C.length=cap*5/\n+1<=cap/\cap<=maxLen/\C.take ((n+1)*5)=cs.take (i*5)++vs++cs.drop (i*5)/\Kept (fun k=>0<c/\k=g) w w'/\((0<c/\d=g)\/w.heap.size<=d):=by
  subst hin
  refine (QiB base i c vb cs vs w hm hr hn hl hl2 hnil hcs hvs h1v).mono fun e w' ⟨he,hw⟩=>?_
  have hG1:i+1<=grownCap w (i+1) c 36:=grownCap_ge _ _ _ _
  have hG2:=grownCap_le_maxLen w (i+1) c 36 (by omega)
  rw[hw]
  generalize grownCap w (i+1) c 36=G at *
  refine⟨_,G,_,he,Blk.newA w.drew _ _,?_,hG1,hG2,?_,.of_below (((Below.refl _ _).drew).alloc (Nat.le_refl _) _),.inr (Nat.le_refl _)⟩
  · rw[Array.length_toList,Array.size_append,size_zeroCells,hz5,List.size_toArray,List.length_append,hl,hl2]
    omega
  · rw[List.take_of_length_le (show cs.length<=i*5 by omega),List.drop_of_length_le (show cs.length<=i*5 by omega),List.append_nil,Array.toList_append]
    exact List.take_left' (by rw[List.length_append];omega)
 rcases Nat.eq_zero_or_pos c with hc|hc
 · subst hc
   obtain rfl:n=0:=by omega
   obtain rfl:i=0:=by omega
   cases nn
   · exact full none (fun a h=>by cases h) (fun _=>rfl) rfl (by decide)
   · exact full (some ⟨g,0,none⟩) (fun a _ j v hj=>by rw[List.length_eq_zero_iff.1 (show cs.length=0 by omega)]at hj;cases hj) (fun h=>by cases h) rfl (by decide)
 · obtain⟨C,hB,hC,ht,hm2⟩:=hg hc
   rw[show (c.beq 0 && !nn)=false by rw[nbeq (by omega)];rfl]
   simp only[cond_false]
   have hcs:=Qkj hB ht
   have hkS:∀k,k=g->(0<c/\k=g):=fun k h=>⟨hc,h⟩
   have hsp:∀j,j<c*5->(w.cell? ⟨g,j,none⟩).isSome=true:=fun j hj=>by rw[hB.cell,List.getElem?_eq_getElem (by omega)];rfl
   have hT (k:Nat) (hk:k<=n*5):C.take k=cs.take k:=by rw[<- ht,List.take_take,Nat.min_eq_left hk]
   by_cases hroom:n+1<=c
   · by_cases hin:i=n
     · subst hin
       refine (Qiz g i c vb vs w hroom (by omega) hl2 (fun j hj=>hsp _ (by omega)) (fun j=>hB.frozen _) hvs h1v).mono fun e w' ⟨he,hw⟩=>?_
       rw[hw]
       have hB2:=Blk.setCells vs (i*5) w C hB (by omega)
       refine⟨g,c,_,he,hB2,by rw[Qy _ _ _ (by omega)];exact hC,hroom,hm2,?_,(Qs g _ _ w).mono hkS,.inl ⟨hc,rfl⟩⟩
       rw[Qkx C vs (by omega) (by omega),hT _ (Nat.le_refl _),List.drop_of_length_le (show cs.length<=i*5 by omega),List.append_nil]
     · have hin:i<n:=by omega
       have hsh:∀(b:Nat) (D:List Value),Blk w b D 36->w.shape? b=some (36,D.length):=fun b D h=>by unfold Blk at h;simp[World.shape?,h]
       refine (Qhk g n c i vb cs vs w hin hroom (by omega) (hne hc) hl hl2 hcs (fun j hj=>hsp _ (by omega)) (fun j=>hB.frozen _) hvs h1c h1v 36 36 5 (c*5) (by rw[hsh _ _ hv,hl2]) (by rw[hsh _ _ hB,hC]) (by omega) (fun j=>hv.frozen _)).mono fun e w' ⟨he,hw⟩=>?_
       rw[hw]
       have hdl:(cs.drop (i*5)).length=(n-i)*5:=by rw[List.length_drop,hl];omega
       have hB1:=Blk.setCells (cs.drop (i*5)) ((i+1)*5) w.drew C hB.drewn (by omega)
       have hl1:(spl C ((i+1)*5) (cs.drop (i*5))).length=c*5:=by rw[Qy _ _ _ (by omega)];exact hC
       have hB2:=Blk.setCells vs (i*5) _ _ hB1 (by omega)
       refine⟨g,c,_,he,hB2,by rw[Qy _ _ _ (by omega)];exact hl1,hroom,hm2,?_,(((Kept.refl _ w).drew.trans (Qs g _ _ w.drew)).trans (Qs g _ _ _)).mono hkS,.inl ⟨hc,rfl⟩⟩
       rw[QhU C vs (cs.drop (i*5)) (by omega) (by omega) (by omega),hT _ (by omega)]
   · by_cases hin:i=n
     · exact full (some ⟨g,0,none⟩) (fun a ha j v hj=>by cases ha;rw[Addr.add_lit,Nat.zero_add];exact hcs j v hj) (fun h=>by cases h) hin (by omega)
     · have hin:i<n:=by omega
       refine (QiA g n c i vb cs vs w hin hm (by omega) hn hl hl2 hcs hvs h1c h1v).mono fun e w' ⟨he,hw⟩=>?_
       rw[hw]
       have hG1:n+1<=grownCap w (n+1) c 36:=grownCap_ge _ _ _ _
       have hG2:=grownCap_le_maxLen w (n+1) c 36 (by omega)
       generalize grownCap w (n+1) c 36=G at *
       have hN:=Blk.newA w ((cs.take (i*5)).toArray++Builtin.zeroCells zAsk.cells (n+1-i)++Builtin.zeroCells zAsk.cells (G-(n+1))) 36
       have htl:(cs.take (i*5)).length=i*5:=by rw[List.length_take];omega
       have hL:((cs.take (i*5)).toArray++Builtin.zeroCells zAsk.cells (n+1-i)++Builtin.zeroCells zAsk.cells (G-(n+1))).toList.length=G*5:=by
        rw[Array.length_toList,Array.size_append,Array.size_append,size_zeroCells,size_zeroCells,hz5,List.size_toArray,htl]
        omega
       have hT2:((cs.take (i*5)).toArray++Builtin.zeroCells zAsk.cells (n+1-i)++Builtin.zeroCells zAsk.cells (G-(n+1))).toList.take (i*5)=cs.take (i*5):=by
        rw[Array.toList_append,Array.toList_append,List.append_assoc]
        exact List.take_left' htl
       generalize ((cs.take (i*5)).toArray++Builtin.zeroCells zAsk.cells (n+1-i)++Builtin.zeroCells zAsk.cells (G-(n+1)))=A at *
       have hk1:Below w.heap.size w (w.alloc (.cells A 36)).drew:=((Below.refl _ _).alloc (Nat.le_refl _) _).drew
       generalize A.toList=D at *
       have hdl:(cs.drop (i*5)).length=(n-i)*5:=by rw[List.length_drop,hl];omega
       have hB1:=Blk.setCells vs (i*5) _ D hN.drewn (by omega)
       have hl1:(spl D (i*5) vs).length=G*5:=by rw[Qy _ _ _ (by omega)];exact hL
       have hB2:=Blk.setCells (cs.drop (i*5)) ((i+1)*5) _ _ hB1.drewn (by omega)
       have hl3:(spl (spl D (i*5) vs) ((i+1)*5) (cs.drop (i*5))).length=G*5:=by
        rw[Qy _ _ _ (by omega)];exact hl1
       have hk2:=hk1.trans ((((Qs w.heap.size vs (i*5) (w.alloc (.cells A 36)).drew).drew).trans (Qs w.heap.size (cs.drop (i*5)) ((i+1)*5) _)).below (B:=w.heap.size) (by show w.heap.size<=(w.alloc _).heap.size;rw[World.size_alloc];omega) (fun k hk=>by rw[hk];exact Nat.le_refl _))
       refine⟨w.heap.size,G,_,he,hB2,hl3,hG1,hG2,?_,.of_below hk2,.inr (Nat.le_refl _)⟩
       rw[Qjm D vs (cs.drop (i*5)) (by omega) (by omega) (by omega),hT2]
structure InAS where
 n:Nat
 m:Nat
 c:Nat
 nn:Bool
 z:Nat->Nat->Int
 z2:Nat->Nat->Int
 i:Nat
structure InAR where
 c:Nat
 nn:Bool
def QcN:MCon where
 σ:=InAS
 χ:=InAR
 pre s:=s.n<=1000/\s.i<=s.n/\s.n<=s.m/\s.m<=s.c
 args s:=[.c (.so 0 0 5 s.n s.c s.nn),.c (.v (.int .i64 s.i)),.c (.so 1 0 5 1 1 true)]
 mem s:=[Qa3 s.m s.c s.z,Qa3 1 1 s.z2]
 ok s x:=s.n+1<=x.c
 val s x:=.o (.c (.so 0 0 5 (s.n+1) x.c x.nn))
 mem' s x:=[Qa3 (s.n+1) x.c (insZ s.i s.z s.z2)]
 k:=0
 len:=1
 det:=none
 find args M:=some (blkA args)
theorem insA_con:(Con.mem QcN).holds Tryd.prog 14:=by
 intro w0 S
 unfold Con.holdsAt
 refine⟨by kernel_rfl,(fun x0 h=>by cases h),?_⟩
 intro ρ s w hp hK HM
 obtain⟨n,m,c,nn,z,z2,i⟩:=s
 obtain⟨h1,h2,h3,h4⟩:=hp
 dsimp only at h1 h2 h3 h4
 have r1:RowAt w (ρ 0) 36 5 m c (rwA z m):=HM.holds _ List.mem_cons_self
 have r2:RowAt w (ρ 1) 36 5 1 1 (rwA z2 1):=HM.holds _ (List.mem_cons_of_mem _ List.mem_cons_self)
 have hd:=(List.pairwise_cons.1 HM.dist).1 _ List.mem_cons_self
 obtain⟨C2,hB2,hC2,ht2,-⟩:=r2.2.2 (by decide)
 have e2:C2=rwA z2 1:=by
  rw[List.take_of_length_le (by omega)]at ht2
  exact ht2
 subst e2
 have ha:(QcN.args ⟨n,m,c,nn,z,z2,i⟩).map (SA.den ρ)=[bif c.beq 0 && !nn then .slice none 0 0 else .slice (some ⟨ρ 0,0,none⟩) n c,.int .i64 i,.slice (some ⟨ρ 1,0,none⟩) 1 1]:=by
  simp only[QcN,List.map_cons,List.map_nil,SA.den,SC.den,Nat.zero_mul,Nat.sub_zero,Qhx];rfl
 rw[ha]
 refine (QjF w (ρ 0) n c i nn z z2 (ρ 1) h1 h2 (by omega) hB2 (fun hc h=>hd (ρ 0) ⟨hc,rfl⟩ ⟨by decide,h⟩) (fun hc=>?_)).mono ?_
 · obtain⟨C,hB,hC,ht,hm⟩:=r1.2.2 hc
   refine⟨C,hB,hC,?_,hm⟩
   have e:(rwA z m).take (n*5)=rwA z n:=by
    apply List.ext_getElem?
    intro k
    rcases Nat.lt_or_ge k (n*5)with hk|hk
    · have a1:=QbM z n (k/5) (k%5) (by omega) (by omega)
      have a2:=QbM z m (k/5) (k%5) (by omega) (by omega)
      rw[show k/5*5+k%5=k by omega]at a1 a2
      rw[List.getElem?_take,if_pos hk,a1,a2]
    · rw[List.getElem?_eq_none (by rw[List.length_take];omega),List.getElem?_eq_none (by rw[Qf];exact hk)]
   rw[<- e,<- ht,List.take_take,Nat.min_eq_left (by omega)]
 · rintro e w' ⟨d,cap,C,rfl,hB,hC,hn,hm,ht,hk,hdd⟩
   have hS:∀k,(0<c/\k=ρ 0)->feet (denM ρ 0 (QcN.mem ⟨n,m,c,nn,z,z2,i⟩)) k:=fun k ⟨hc,hk⟩=>⟨_,List.mem_cons_self,hc,hk.symm⟩
   refine⟨⟨cap,true⟩,fun _=>d,hn,fun i hi=>by simp[QcN]at hi,rfl,?_,⟨hk.mono hS,fun f hf=>?_,fun f hf g hg=>?_,List.pairwise_singleton _ _⟩⟩
   · simp only[QcN,SV.den,SA.den,SC.den,Bool.not_true,Bool.and_false,cond_false,Nat.zero_mul,Nat.sub_zero,Qhx]
   · obtain rfl:=List.mem_singleton.1 hf
     exact⟨hn,Qf _ _ _ _,fun _=>⟨C,hB,hC,ht,hm⟩⟩
   · obtain rfl:=List.mem_singleton.1 hf
     obtain⟨-,rfl⟩:=hg
     exact hdd.imp (hS d) id
end
section
open Go.RowKit
structure CkS where
 n:Nat
 m:Nat
 c:Nat
 nn:Bool
 z:Nat->Nat->Int
structure CkR where
 m:Nat
 c:Nat
 nn:Bool
 z:Nat->Nat->Int
def QeW:MCon where
 σ:=CkS
 χ:=CkR
 pre s:=s.n<=10000000/\s.n<=s.m/\s.m<=s.c
 args s:=[.c (.so 0 0 5 s.n s.c s.nn)]
 mem s:=[Qa3 s.m s.c s.z]
 ok s x:=(s.n<=x.m/\x.m<=x.c)/\∀i,i<s.n->∀j,x.z i j=s.z i j
 val s x:=.o (.c (.so 1 0 5 s.n x.c x.nn))
 mem' s x:=[Qa3 s.m s.c s.z,Qa3 x.m x.c x.z]
 k:=1
 len:=2
 det:=none
 find args M:=some (blkA args)
theorem cloA_con:(Con.mem QeW).holds Tryd.prog 15:=by
 intro w0 S
 refine Qw (Γ:=[]) (fun _=>noW) Tryd.func15 rfl (by kernel_rfl) Qg Qc (fun w S' _ _=>.nil _ _ _) QeW (fun s=>[]) (fun x0 h=>by cases h)
  (fun s ρ w _ _ _=>Q7 w _) [.tmp 0 36 5 [.int .i64,.int .i64,.int .i64,.int .i64,.int .i64]] (fun v M=>match v with
  |.o (.c (.so b _ _ _ _ _))=>[0,b]
  |_=>[]) 400 ?_
 rintro⟨n,m,c,nn,z⟩ w ⟨hn,hm,hc⟩ -
 refine⟨rfl,?_⟩
 dsimp only at hn hm hc
 refine Qh (q:=bif match Nat.beq c 0 with|false=>false|true=>bif nn then false else true then endN QeW [NZ.tmp 0 36 5 kI5] (fun (v:SV) (M:List SB)=>match v with|SV.o (SA.c (.so b lo sz n c nn))=>[0,b]|x=>[]) (CkS.mk n m c nn z) (SV.o (SA.c (.v (.slice none 0 0)))) [SB.rows 36 kI5 5 m c z]else ((0<=0/\0=0)/\(0+n<=m/\c=c)/\0+n<=68719476736)/\∀(c_1:Nat),0+n<=c_1->endN QeW [NZ.tmp 0 36 5 kI5] (fun (v:SV) (M:List SB)=>match v with|SV.o (SA.c (.so b lo sz n c nn))=>[0,b]|x=>[]) (CkS.mk n m c nn z) (SV.o (SA.c (.so 2 0 5 (0+n) c_1 true))) [SB.rows 36 kI5 5 m c z,SB.gone,SB.rows 36 kI5 5 (0+n) c_1 fun (i j:Nat)=>z (0+i) j]) (by kernel_rfl) ?_
 refine Qz (fun hf=>?_) (fun hf=>⟨⟨⟨Nat.le_refl _,rfl⟩,⟨by omega,rfl⟩,by omega⟩,fun c1 hc1=>?_⟩)
 · have h0:c=0:=by
    cases hb:Nat.beq c 0
    · rw[hb]at hf;cases hf
    · exact Nat.eq_of_beq_eq_true hb
   obtain rfl:n=0:=by omega
   exact QaW rfl ⟨0,0,false,fun _ _=>0⟩ ⟨⟨Nat.le_refl _,Nat.le_refl _⟩,fun i hi=>absurd hi (Nat.not_lt_zero _)⟩ rfl rfl rfl
 · rw[Nat.zero_add]at hc1 ⊢
   exact QaW rfl ⟨n,c1,true,fun i j=>z (0+i) j⟩ ⟨⟨Nat.le_refl _,hc1⟩,fun i _ j=>(by show z (0+i) j=z i j;rw[Nat.zero_add])⟩ rfl rfl rfl
end
section
open Go.ChangeShapes Go.WideShapes Go.RowKit
theorem lOwn:ownKnob Tryd.prog.godebug=none:=by kernel_rfl
theorem lEt:Tryd.prog.globalNamed "errors.errorType" =some 1:=by kernel_rfl
theorem lRt:(Tryd.prog.cutTypes.find? (·.1 == "internal/reflectlite.rtype")).map (·.2)=some 155:=by kernel_rfl
theorem lSize:Tryd.prog.types.size=212:=by kernel_rfl
theorem lRow:((List.range 212).filter fun t=>Tryd.prog.rowNamed t [101,114,114,111,114])=[42]:=by kernel_rfl
abbrev laidL:List (String × DataW Unit):=[("errors.errorType",Rows.laid_errors_errorType)]
abbrev ErrType (W:World):Prop:=W.cell? ⟨1,0,none⟩=some (.iface 155 (.agg #[.pointer (some ⟨7,42,none⟩)]))
theorem handle_of_laid {W:World}(h:laidMetH Tryd.prog laidL W):ErrType W:=by
 have h':laidMet Tryd.prog [] W/\handlesMet Tryd.prog laidL W:=h
 obtain⟨name,u,ty,e1,e2,e3,e4,e5⟩:=h'.2 _ (List.mem_singleton.2 rfl)
 have en:name=[101,114,114,111,114]:=(Option.some.inj e1).symm
 subst en
 obtain rfl:=Option.some.inj (lRt.symm.trans e2)
 have hm:ty∈(List.range 212).filter fun t=>Tryd.prog.rowNamed t [101,114,114,111,114]:=List.mem_filter.2 ⟨List.mem_range.2 (by rw[<- lSize];exact e3),e4⟩
 rw[lRow]at hm
 obtain rfl:=List.mem_singleton.1 hm
 have hh:typeHandle Tryd.prog 42=.pointer (some ⟨7,42,none⟩):=by kernel_rfl
 rw[hh]at e5
 simpa using World.var?_cell lEt e5 0
noncomputable def laidWorld (os:Os):World:=
 let w0:=World.holding Tryd.prog os ⟨#[],#[],[]⟩
 { w0 with heap:=w0.heap.modify 1 fun
  |.cells _ t frozen=>.cells #[.iface 155 (.agg #[.pointer (some ⟨7,42,none⟩)])] t frozen
  |o=>o }
theorem laidWorld_met (os:Os) (args:Array Value):laidMetH Tryd.prog laidL ((laidWorld os).forCall (fun _ _=>0) ⟨#[],args,[]⟩).memory:=
 laidMetH_of_parts (laidMet_nil _ _) (by kernel_rfl)
end
section
open Go.ChangeShapes Go.WideShapes Go.Deep Go.ChangeAt
theorem blk_lt {w:World}{b o:Nat}{v:Value}(h:w.cell? ⟨b,o,none⟩=some v):b<w.heap.size:=by
 unfold World.cell? at h
 by_cases hb:b<w.heap.size
 · exact hb
 · simp[Array.getElem?_eq_none (Nat.le_of_not_lt hb)]at h
theorem one_int {H:Type}{enc:TypeId × Value->H}{w:World}{base:Nat}{spare:Nat->Bool}{held:Bool}{n:Nat}{t:TypeId}{k:IntKind}{v:Value}{y:Option (DataW H × List MemPlace)}(ht:Tryd.prog.underlying t=some (.int k))
 (h:DataW.trod enc Tryd.prog w base spare held n t [v]=y) (hy:y.isSome):∃z,v=.int k z/\(Lit.int k z).wf=true:=by
 obtain⟨x,rfl⟩:=Option.isSome_iff_exists.1 hy
 obtain⟨z,h1,-,h2⟩:=DataW.trod_int ht h
 simp at h1
 exact⟨z,h1,h2⟩
theorem cellsOp_of {H:Type}{enc:TypeId × Value->H}{w:World}{base:Nat}{spare:Nat->Bool}{held:Bool}{n:Nat}{cs:List Value}{y:Option (DataW H × List MemPlace)}
 (h:DataW.trod enc Tryd.prog w base spare held n 24 cs=y) (hy:y.isSome):
 ∃z0 z1 z2:Int,cs=[.int .i64 z0,.int .i64 z1,.int .i64 z2]/\(Lit.int .i64 z0).wf=true/\(Lit.int .i64 z1).wf=true/\(Lit.int .i64 z2).wf=true:=by
 obtain⟨x,rfl⟩:=Option.isSome_iff_exists.1 hy
 obtain⟨ys,n',-,-,hlen,hyl,hf⟩:=DataW.trod_struct Tryd.underlying24 h
 have hc:Tryd.prog.cellsOf 24=3:=by kernel_rfl
 have hc_int:Tryd.prog.cellsOf 3=1:=by kernel_rfl
 rw[hc]at hlen
 match cs,hlen with
 |[v0,v1,v2],_=>
  have hyl':ys.length=3:=hyl
  have g0:DataW.trod enc Tryd.prog w base spare held n' 3 (([v0,v1,v2].drop 0).take (Tryd.prog.cellsOf 3))=ys[0]?:=hf 0 _ rfl
  rw[hc_int]at g0
  dsimp only[List.drop,List.take]at g0
  have g1:DataW.trod enc Tryd.prog w base spare held n' 3 (([v0,v1,v2].drop 1).take (Tryd.prog.cellsOf 3))=ys[1]?:=hf 1 _ rfl
  rw[hc_int]at g1
  dsimp only[List.drop,List.take]at g1
  have g2:DataW.trod enc Tryd.prog w base spare held n' 3 (([v0,v1,v2].drop 2).take (Tryd.prog.cellsOf 3))=ys[2]?:=hf 2 _ rfl
  rw[hc_int]at g2
  dsimp only[List.drop,List.take]at g2
  obtain⟨z0,rfl,w0⟩:=one_int Tryd.underlying3 g0 (by simp[hyl'])
  obtain⟨z1,rfl,w1⟩:=one_int Tryd.underlying3 g1 (by simp[hyl'])
  obtain⟨z2,rfl,w2⟩:=one_int Tryd.underlying3 g2 (by simp[hyl'])
  exact⟨z0,z1,z2,rfl,w0,w1,w2⟩
theorem cellsAnswer_of {H:Type}{enc:TypeId × Value->H}{w:World}{base:Nat}{spare:Nat->Bool}{held:Bool}{n:Nat}{cs:List Value}{y:Option (DataW H × List MemPlace)}
 (h:DataW.trod enc Tryd.prog w base spare held n 47 cs=y) (hy:y.isSome):
 ∃z0 z1:Int,cs=[.int .i64 z0,.int .i64 z1]/\(Lit.int .i64 z0).wf=true/\(Lit.int .i64 z1).wf=true:=by
 obtain⟨x,rfl⟩:=Option.isSome_iff_exists.1 hy
 obtain⟨ys,n',-,-,hlen,hyl,hf⟩:=DataW.trod_struct Tryd.underlying47 h
 have hc:Tryd.prog.cellsOf 47=2:=by kernel_rfl
 have hc_int:Tryd.prog.cellsOf 3=1:=by kernel_rfl
 rw[hc]at hlen
 match cs,hlen with
 |[v0,v1],_=>
  have hyl':ys.length=2:=hyl
  have g0:DataW.trod enc Tryd.prog w base spare held n' 3 (([v0,v1].drop 0).take (Tryd.prog.cellsOf 3))=ys[0]?:=hf 0 _ rfl
  rw[hc_int]at g0
  dsimp only[List.drop,List.take]at g0
  have g1:DataW.trod enc Tryd.prog w base spare held n' 3 (([v0,v1].drop 1).take (Tryd.prog.cellsOf 3))=ys[1]?:=hf 1 _ rfl
  rw[hc_int]at g1
  dsimp only[List.drop,List.take]at g1
  obtain⟨z0,rfl,w0⟩:=one_int Tryd.underlying3 g0 (by simp[hyl'])
  obtain⟨z1,rfl,w1⟩:=one_int Tryd.underlying3 g1 (by simp[hyl'])
  exact⟨z0,z1,rfl,w0,w1⟩
theorem cellsDeed_of {H:Type}{enc:TypeId × Value->H}{w:World}{base:Nat}{spare:Nat->Bool}{held:Bool}{n:Nat}{cs:List Value}{y:Option (DataW H × List MemPlace)}
 (h:DataW.trod enc Tryd.prog w base spare held n 49 cs=y) (hy:y.isSome):
 ∃z0 z1 z2 z3 z4 z5:Int,cs=[.int .i64 z0,.int .i64 z1,.int .i64 z2,.int .i64 z3,.int .i64 z4,.int .i64 z5]/\(Lit.int .i64 z0).wf=true/\(Lit.int .i64 z1).wf=true/\(Lit.int .i64 z2).wf=true/\(Lit.int .i64 z3).wf=true/\(Lit.int .i64 z4).wf=true/\(Lit.int .i64 z5).wf=true:=by
 obtain⟨x,rfl⟩:=Option.isSome_iff_exists.1 hy
 obtain⟨ys,n',-,-,hlen,hyl,hf⟩:=DataW.trod_struct Tryd.underlying49 h
 have hc:Tryd.prog.cellsOf 49=6:=by kernel_rfl
 have hc_int:Tryd.prog.cellsOf 3=1:=by kernel_rfl
 have hc_Op:Tryd.prog.cellsOf 24=3:=by kernel_rfl
 have hc_Answer:Tryd.prog.cellsOf 47=2:=by kernel_rfl
 rw[hc]at hlen
 match cs,hlen with
 |[v0,v1,v2,v3,v4,v5],_=>
  have hyl':ys.length=3:=hyl
  have g0:DataW.trod enc Tryd.prog w base spare held n' 3 (([v0,v1,v2,v3,v4,v5].drop 0).take (Tryd.prog.cellsOf 3))=ys[0]?:=hf 0 _ rfl
  rw[hc_int]at g0
  dsimp only[List.drop,List.take]at g0
  have g1:DataW.trod enc Tryd.prog w base spare held n' 24 (([v0,v1,v2,v3,v4,v5].drop 1).take (Tryd.prog.cellsOf 24))=ys[1]?:=hf 1 _ rfl
  rw[hc_Op]at g1
  dsimp only[List.drop,List.take]at g1
  have g2:DataW.trod enc Tryd.prog w base spare held n' 47 (([v0,v1,v2,v3,v4,v5].drop 4).take (Tryd.prog.cellsOf 47))=ys[2]?:=hf 2 _ rfl
  rw[hc_Answer]at g2
  dsimp only[List.drop,List.take]at g2
  obtain⟨z0,rfl,w0⟩:=one_int Tryd.underlying3 g0 (by simp[hyl'])
  obtain⟨z1,z2,z3,he1,w1,w2,w3⟩:=cellsOp_of g1 (by simp[hyl'])
  simp only[List.cons.injEq,and_true]at he1
  obtain⟨rfl,rfl,rfl⟩:=he1
  obtain⟨z4,z5,he2,w4,w5⟩:=cellsAnswer_of g2 (by simp[hyl'])
  simp only[List.cons.injEq,and_true]at he2
  obtain⟨rfl,rfl⟩:=he2
  exact⟨z0,z1,z2,z3,z4,z5,rfl,w0,w1,w2,w3,w4,w5⟩
theorem rowsDeed_of {H:Type}{enc:TypeId × Value->H}{w:World}{base:Nat}{spare:Nat->Bool}{held:Bool}{a0:Option Addr}{len0 cap0:Nat}{d0:DataW H}{p0:List MemPlace}
 (h:DataW.Trod enc Tryd.prog w base spare held 22 (.slice a0 len0 cap0) d0 p0):∃f,Rws 6 (fun _=>.i64) w a0 len0 cap0 f:=by
 obtain⟨fuel,hf⟩:=h
 have hc:Tryd.prog.cellsOf 49=6:=by kernel_rfl
 rcases open_slice Tryd.underlying22 hf with⟨hcs,-⟩|⟨a,len,cap,m,n,D,Pl,hcs,hb,hl,hm,hmm,hx,hi⟩
 · simp[Value.cells]at hcs
   obtain⟨rfl,rfl,rfl⟩:=hcs
   exact⟨fun _ _=>0,Nat.le_refl _,by omega,.inl rfl⟩
 · simp[Value.cells]at hcs
   obtain⟨rfl,rfl,rfl⟩:=hcs
   unfold maxLen at hm
   rw[hc]at hi
   have hi':∀i,i<len0->∃z:Nat->Int,∀j,j<6->w.cell? (a.add (i*6+j))=some (.int ((fun _=>.i64) j) (z j))/\(Lit.int ((fun _=>.i64) j) (z j)).wf=true:=by
    intro i hil
    obtain⟨cs,h1,h2⟩:=hi i (by rw[hmm];split<;>omega)
    obtain⟨z0,z1,z2,z3,z4,z5,rfl,w0,w1,w2,w3,w4,w5⟩:=cellsDeed_of h2 (by rfl)
    obtain⟨-,-,hat⟩:=World.cells?_some h1
    refine⟨fun j=>[z0,z1,z2,z3,z4,z5].getD j 0,fun j hj=>?_⟩
    rw[<- Go.Deep.add_add,hat j (by simpa using hj)]
    match j,hj with
    |0,_=>exact⟨rfl,w0⟩
    |1,_=>exact⟨rfl,w1⟩
    |2,_=>exact⟨rfl,w2⟩
    |3,_=>exact⟨rfl,w3⟩
    |4,_=>exact⟨rfl,w4⟩
    |5,_=>exact⟨rfl,w5⟩
   by_cases h0:len0=0
   · subst h0;exact⟨fun _ _=>0,Nat.zero_le _,by omega,.inl rfl⟩
   · obtain⟨z,hz⟩:=hi' 0 (by omega)
     obtain⟨b,off,spot⟩:=a
     have hspot:spot=none:=by simpa [Addr.add] using World.cell?_spot (hz 0 (by omega)).1
     subst hspot
     have hadd:∀i,(⟨b,off,none⟩:Addr).add i=⟨b,off+i,none⟩:=fun i=>by
      unfold Addr.add;split
      · subst i;rfl
      · rfl
     classical
     let F:Nat->Nat->Int:=fun i=>if h:i<len0 then Classical.choose (hi' i h)else fun _=>0
     refine⟨F,hl,by omega,.inr ⟨b,off,rfl,?_,fun j hj i hi0=>?_⟩⟩
     · have:=(hz 0 (by omega)).1;rw[hadd]at this;exact blk_lt this
     · have hF:F j=Classical.choose (hi' j hj):=by simp only[F,dif_pos hj]
       obtain⟨c1,c2⟩:=Classical.choose_spec (hi' j hj) i hi0
       rw[<- hF]at c1 c2
       rw[hadd,<- Nat.add_assoc]at c1
       exact⟨c1,trivial⟩
theorem aggOp_of {H:Type}{enc:TypeId × Value->H}{w:World}{base b0:Nat}{spare:Nat->Bool}{held:Bool}{v:Value}{d:DataW H}{p:List MemPlace}
 (hv:Value.okWide Tryd.prog w .any b0 24 v) (h:DataW.Trod enc Tryd.prog w base spare held 24 v d p):
 ∃z0 z1 z2:Int,v=.agg #[.int .i64 z0,.int .i64 z1,.int .i64 z2]/\(Lit.int .i64 z0).wf=true/\(Lit.int .i64 z1).wf=true/\(Lit.int .i64 z2).wf=true:=by
 obtain⟨cs,rfl,hs⟩:=okWide_struct Tryd.underlying24 hv
 obtain⟨fuel,hf⟩:=h
 obtain⟨z0,z1,z2,hc,w0,w1,w2⟩:=cellsOp_of hf (by rfl)
 refine⟨z0,z1,z2,?_,w0,w1,w2⟩
 have:cs.toList=[.int .i64 z0,.int .i64 z1,.int .i64 z2]:=hc
 rw[<- Array.toArray_toList (xs:=cs),this]
end
end Go.Proofs.YtflgoaogcenmpaaDoor
