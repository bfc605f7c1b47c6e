/- What the proof leans on, gathered. -/
import Derived.Test.YtflgoaogcenmpaaGreatDoorProg
import Derived.Test.YtflgoaogcenmpaaGreatDoorShl
import Derived.Shelf.Spec.SlicesInsertGrow
import Derived.Test.YtflgoaogcenmpaaGreatDoorZP2
namespace Go.Proofs.YtflgoaogcenmpaaGreatDoor
set_option linter.unusedVariables false
set_option maxRecDepth 100000
set_option maxHeartbeats 8000000
section
structure Wk where
 th:Nat
 does:Int
 k:Int
 key:Int
 x:Int
 tog:Int
 said:Bool
 i:Int
 v:Int
 r:Nat->Int
 asks:List Ask
 deeds:List Dd
 seen:Nat->Int
 oc:Int
 ov:Int
 whn:Int
def Qq (v:Int):Nat:=8+32*(v%2).toNat
def Wk.next (w:Wk) (n does:Int):Wk:=if w.i+1=n then { w with i:=0,does:=does } else { w with i:=w.i+1 }
def Qml (f:Nat->Int):Rec:=Rec.ofW (toN 32 f)
def Wk.all (w:Wk):Wk:=
 if w.does=8 then
  let q:=bDo (Qml w.r) w.asks
  { w with r:=fL q.words,deeds:=bD (Qml w.r) w.asks,oc:=fL q.words (18+w.th)/4294967296%4294967296,ov:=fL q.words (18+w.th)%4294967296,whn:=fL q.words (22+w.th) }
 else w
def Xl (l:List Ask) (k key x:Int):List Ask:=l.dropLast++[⟨(l.getLastD Ask.nil).t,(l.getLastD Ask.nil).g,k,key,x⟩]
theorem Qbx (l:List Ask) (a:Ask) (k key x:Int):Xl (l++[a]) k key x=l++[⟨a.t,a.g,k,key,x⟩]:=by
 unfold Xl
 rw[List.dropLast_concat,List.getLastD_concat]
def Wk.sim (a b:Wk):Prop:={ a with r:=b.r }=b/\toN 32 a.r=toN 32 b.r
theorem Wk.sim_rfl (a:Wk):a.sim a:=⟨rfl,rfl⟩
def Wk.allOK (w:Wk):Prop:=AsksOK w.asks/\w.asks.length<=4/\∃q,RecOK 1099511000000 q/\q.ver<1000000000/\toN 32 w.r=q.words
theorem Qow {B:Int}{q:Rec}(h:RecOK B q) (hB:B<=1099511627776) {f:Nat->Int}(hf:toN 32 f=q.words) (t:Nat) (ht:t<4):
 U64 (f (18+t))/\0<=f (22+t)/\f (22+t)<=9223372036854775807/\(ansOkB (f (18+t)/4294967296%4294967296) (f (18+t)%4294967296)=false->f (18+t)=0/\f (22+t)=0):=by
 have e (i:Nat) (hi:i<32):f i=fL q.words i:=by rw[<- hf,QeM hi]
 have h3:=Qgj h hB t ht
 rw[<- e (18+t) (by omega),<- e (22+t) (by omega)]at h3
 refine⟨h3.1,h3.2.1,h3.2.2,fun hn=>?_⟩
 have e1:f (18+t)=q.ans.getD t 0:=(e (18+t) (by omega)).trans (QgD h t ht)
 have e2:f (22+t)=q.whn.getD t 0:=(e (22+t) (by omega)).trans (QgC h t ht)
 rcases h.each t ht with h1|⟨⟨c,v,ha,hw⟩,-,-⟩
 · rw[e1,e2];exact h1
 · have hc:=Qd7 ha
   rw[e1,hw,hc.1,hc.2.1,(Qb3 _ _).2 ha]at hn
   cases hn
theorem Qjw {B:Int}{q:Rec}(h:RecOK B q) (hB:B<=1099511627776) {f:Nat->Int}(hf:toN 32 f=q.words):Qml f=q:=(RecW.of h hB hf).2
theorem Wk.all_not {w:Wk}(h:w.does≠8):w.all=w:=by unfold Wk.all;rw[if_neg h]
structure WSt where
 w:Wk
 m:Nat->Int
 s:Sto
def QW (z:WSt):WSt × Bool:=
 if z.w.does=17 then ({ z with w:={ z.w with v:=z.m 1,does:=18 } },false)
 else if z.w.does=18 then ({ z with w:={ z.w with seen:=putF z.w.seen 0 (z.s.now (Qq z.w.v+26)),does:=19 } },false)
 else if z.w.does=19 then ({ z with w:={ z.w with seen:=putF z.w.seen 1 (z.s.now (Qq z.w.v+18+z.w.th)),does:=20 } },false)
 else if z.w.does=20 then ({ z with w:={ z.w with seen:=putF z.w.seen 2 (z.s.now (Qq z.w.v+22+z.w.th)),does:=21 } },false)
 else
  (if z.m 1=z.w.v/\Qm (z.w.seen 0) z.w.th=z.w.tog then ({ z with w:={ z.w with oc:=z.w.seen 1/4294967296%4294967296,ov:=z.w.seen 1%4294967296,whn:=z.w.seen 2,does:=0 } },true)
   else ({ z with w:={ z.w with does:=if z.w.said then 3 else 1 } },false))
theorem QhU (z:WSt) (h:z.w.does=21):QW z=(if z.m 1=z.w.v/\Qm (z.w.seen 0) z.w.th=z.w.tog then ({ z with w:={ z.w with oc:=z.w.seen 1/4294967296%4294967296,ov:=z.w.seen 1%4294967296,whn:=z.w.seen 2,does:=0 } },true)
 else ({ z with w:={ z.w with does:=if z.w.said then 3 else 1 } },false)):=by
 unfold QW
 rw[if_neg (by rw[h];decide),if_neg (by rw[h];decide),if_neg (by rw[h];decide),if_neg (by rw[h];decide)]
def QaP (z:WSt):WSt × Bool:=
 if z.w.does=14 then ({ z with m:=putF z.m 1 (z.w.v+1),w:={ z.w with does:=15 } },false)
 else if z.w.does=15 then ({ z with m:=putF z.m 0 0,w:={ z.w with does:=16 } },false)
 else ({ z with w:={ z.w with does:=0 } },true)
def sayP (z:WSt):WSt:=
 if z.w.does=1 then { z with m:=putF z.m (2+2*z.w.th) (opW z.w.k z.w.key z.w.x),w:={ z.w with does:=2 } }
 else if z.w.does=2 then { z with m:=putF z.m (3+2*z.w.th) (z.w.tog+1),w:={ z.w with said:=true,does:=3 } }
 else (if z.m 0=0 then { z with m:=putF z.m 0 (z.w.th+1),w:={ z.w with does:=4 } } else { z with w:={ z.w with does:=17 } })
theorem say3 (z:WSt) (h:z.w.does=3):sayP z=(if z.m 0=0 then { z with m:=putF z.m 0 (z.w.th+1),w:={ z.w with does:=4 } } else { z with w:={ z.w with does:=17 } }):=by
 unfold sayP
 rw[if_neg (by rw[h];decide),if_neg (by rw[h];decide)]
def XG (z:WSt):WSt:=
 if z.w.does=8 then { z with s:=z.s.save (Qq (z.w.v+1)+z.w.i.toNat) (z.w.r z.w.i.toNat),w:=Wk.next z.w 32 9 }
 else if z.w.does=9 then { z with s:=z.s.flush z.w.th (Qq (z.w.v+1)/8+z.w.i.toNat),w:=Wk.next z.w 4 10 }
 else if z.w.does=10 then { z with s:=z.s.fence z.w.th,w:={ z.w with does:=11 } }
 else if z.w.does=11 then { z with s:=z.s.save 0 (z.w.v+1),w:={ z.w with does:=12 } }
 else if z.w.does=12 then { z with s:=z.s.flush z.w.th 0,w:={ z.w with does:=13 } }
 else { z with s:=z.s.fence z.w.th,w:={ z.w with does:=14 } }
def Qar (z:WSt):WSt:=
 if z.w.does=4 then { z with w:={ z.w with v:=z.m 1,i:=0,does:=5,asks:=[] } }
 else if z.w.does=5 then { z with w:=Wk.next { z.w with r:=putF z.w.r z.w.i.toNat (z.s.now (Qq z.w.v+z.w.i.toNat)) } 32 6 }
 else if z.w.does=6 then
  (if z.m (3+2*z.w.i.toNat)≠0/\z.m (3+2*z.w.i.toNat)-1≠Qm (z.w.r 26) z.w.i.toNat then { z with w:={ z.w with asks:=z.w.asks++[⟨z.w.i.toNat,z.m (3+2*z.w.i.toNat)-1,0,0,0⟩],does:=7 } }
   else { z with w:=(Wk.next z.w 4 8).all })
 else { z with w:=(Wk.next { z.w with asks:=Xl z.w.asks (z.m (2+2*z.w.i.toNat)/281474976710656%65536) (z.m (2+2*z.w.i.toNat)/4294967296%65536) (z.m (2+2*z.w.i.toNat)%4294967296),does:=6 } 4 8).all }
def Qd (z:WSt):WSt × Bool:=
 if z.w.does=0 then (z,false)
 else if z.w.does<=3 then (sayP z,false)
 else if z.w.does<=7 then (Qar z,false)
 else if z.w.does<=13 then (XG z,false)
 else if z.w.does<=16 then QaP z
 else QW z
def Wk.call (th:Nat) (k key x tog:Int) (again:Bool):Wk:=⟨th,bif again then 17 else 1,k,key,x,tog,false,0,0,fun _=>0,[],[],fun _=>0,0,0,0⟩
end
section
open Go.RowKit
structure WkS where
 w:Wk
 ma:Nat
 ca:Nat
 na:Bool
 za:Nat->Nat->Int
 md:Nat
 cd:Nat
 nd:Bool
 zd:Nat->Nat->Int
abbrev wkA (m c:Nat) (z:Nat->Nat->Int):SB:=.rows 139 [.int .i64,.int .i64,.int .i64,.int .i64,.int .i64] 5 m c z
abbrev wkD (m c:Nat) (z:Nat->Nat->Int):SB:=.rows 60 [.int .i64,.int .i64,.int .i64,.int .i64,.int .i64,.int .i64] 6 m c z
abbrev wkC (x y:Nat) (w:Wk) (ca:Nat) (na:Bool) (cd:Nat) (nd:Bool):SB:=.cells [.one (.v (.int .i64 w.th)),.one (.v (.int .i64 w.does)),.one (.v (.int .i64 w.k)),.one (.v (.int .i64 w.key)),.one (.v (.int .i64 w.x)),.one (.v (.int .i64 w.tog)),.one (.v (.bool w.said)),.one (.v (.int .i64 w.i)),.one (.v (.int .u64 w.v)),.ints (.int .u64) 32 w.r,.one (.so x 0 5 w.asks.length ca na),.one (.so y 0 6 w.deeds.length cd nd),.ints (.int .u64) 3 w.seen,.one (.v (.int .i64 w.oc)),.one (.v (.int .i64 w.ov)),.one (.v (.int .i64 w.whn))] 42
def Qct:List SA->List SB->Option (List Nat):=fun args M=>match blkA args with
 |b::r=>match getB M b with
  |.cells l _=>match segGet l 41,segGet l 42 with
   |some (.so x _ _ _ _ _),some (.so y _ _ _ _ _)=>some ((b::r)++[x,y])
   |_,_=>none
  |_=>none
 |_=>none
def Xx:PCon:=⟨fun args=>match args with
 |[.c (.v (.int .u64 v))]=>0<=v/\v<18446744073709551616
 |_=>False,fun args=>match args with
 |[.c (.v (.int .u64 v))]=>sv (.int .i64 (Qq v:Nat))
 |_=>sv undef,fun _=>none⟩
theorem Xy:(Con.pure Xx).holds Tryz.prog 65:=by
 refine QF (Γ:=[]) Tryz.func65 rfl (by kernel_rfl) Qg Qc (fun _=>.nil _ _ _) Xx (fun _=>[]) 400 ?_
 intro W args hp
 unfold Xx at hp;dsimp only at hp;split at hp
 case h_2=>exact hp.elim
 rename_i v
 obtain⟨h0,h1⟩:=hp
 refine⟨rfl,?_⟩
 refine Qi (q:=(2:Int)≠(0:Int)/\(8:Int)≠(0:Int)/\endP Xx [aU v] (SV.o (aI (IntKind.wrap .i64 (IntKind.wrap .i64 ((1:Int)+IntKind.wrap .i64 (Int.tdiv (IntKind.wrap .i64 (IntKind.wrap .i64 (Int.tmod v (2:Int))*(32:Int))) (8:Int)))*(8:Int))))) []) (by kernel_rfl) ?_
 have e:IntKind.wrap .i64 (IntKind.wrap .i64 (1+IntKind.wrap .i64 (Int.tdiv (IntKind.wrap .i64 (IntKind.wrap .i64 (Int.tmod v 2)*32)) 8))*8)=((Qq v:Nat):Int):=by
  unfold Qq
  rw[Int.tmod_eq_emod_of_nonneg h0]
  rcases (show v%2=0\/v%2=1 by omega)with h|h<;>(rw[h];rfl)
 rw[e]
 exact⟨by decide,by decide,rfl,fun ρ=>rfl⟩
structure WnS where
 s:WkS
 n:Int
 d:Int
def Qas:MCon:=dcon WnS (fun s=>0<=s.s.w.i/\s.s.w.i<1000) (fun s=>[.c (.p 0 0),.c (.v (.int .i64 s.n)),.c (.v (.int .i64 s.d))]) (fun s=>[wkC 1 2 s.s.w s.s.ca s.s.na s.s.cd s.s.nd,wkA s.s.ma s.s.ca s.s.za,wkD s.s.md s.s.cd s.s.zd])
 (fun s=>.t []) (fun s=>[wkC 1 2 (s.s.w.next s.n s.d) s.s.ca s.s.na s.s.cd s.s.nd,wkA s.s.ma s.s.ca s.s.za,wkD s.s.md s.s.cd s.s.zd]) 3 Qct
theorem QaE:(Con.mem Qas).holds Tryz.prog 66:=by
 intro w0 S
 refine Qb (Γ:=[]) (fun _=>noW) Tryz.func66 rfl (by kernel_rfl) Qg Qc (fun w S' _ _=>.nil _ _ _) Qas (fun _=>[]) (fun x0 h s x=>⟨rfl,trivial⟩) (fun s ρ w _ _ _=>Qh w _) [] (Qn 3) 400 ?_
 rintro⟨⟨w,ma,ca,na,za,md,cd,nd,zd⟩,n,d⟩ W ⟨h0,h1⟩ -
 refine⟨rfl,?_⟩
 dsimp only at h0 h1
 refine Qi (q:=bif IntKind.wrap .i64 (w.8+(1:Int))==n then endN Qas [] (Qn 3) (WnS.mk (WkS.mk w ma ca na za md cd nd zd) n d) (SV.t []) [SB.cells [sI (↑w.1:Int),sI d,sI w.3,sI w.4,sI w.5,sI w.6,sB w.7,sI 0,sU w.9,nU 32 w.10,sS 1 0 5 (List.length w.11) ca na,sS 2 0 6 (List.length w.12) cd nd,nU 3 w.13,sI w.14,sI w.15,sI w.16] 42,wkA ma ca za,wkD md cd zd]else endN Qas [] (Qn 3) (WnS.mk (WkS.mk w ma ca na za md cd nd zd) n d) (SV.t []) [SB.cells [sI (↑w.1:Int),sI w.2,sI w.3,sI w.4,sI w.5,sI w.6,sB w.7,sI (IntKind.wrap .i64 (w.8+(1:Int))),sU w.9,nU 32 w.10,sS 1 0 5 (List.length w.11) ca na,sS 2 0 6 (List.length w.12) cd nd,nU 3 w.13,sI w.14,sI w.15,sI w.16] 42,wkA ma ca za,wkD md cd zd]) (by kernel_rfl) ?_
 have e:IntKind.wrap .i64 (w.i+1)=w.i+1:=QH (by omega) (by omega)
 show bif IntKind.wrap .i64 (w.i+1)==n then _ else _
 rw[e]
 refine QY (fun h=>⟨(),trivial,rfl,?_⟩) (fun h=>⟨(),trivial,rfl,?_⟩)
 · show _=[wkC 1 2 (w.next n d) ca na cd nd,_,_]
   rw[show w.next n d={ w with i:=0,does:=d } from if_pos h];rfl
 · show _=[wkC 1 2 (w.next n d) ca na cd nd,_,_]
   rw[show w.next n d={ w with i:=w.i+1 } from if_neg h];rfl
abbrev Qao (n c:Nat) (z:Nat->Nat->Int):SB:=.rows 3 [.int .i64] 1 n c z
abbrev opA (a b c:Int):SA:=.a [.one (.v (.int .i64 a)),.one (.v (.int .i64 b)),.one (.v (.int .i64 c))]
abbrev ansA (a b:Int):SA:=.a [.one (.v (.int .i64 a)),.one (.v (.int .i64 b))]
structure CloS where
 lo:Nat
 n:Nat
 m:Nat
 c:Nat
 nn:Bool
 z:Nat->Nat->Int
structure CloR where
 c:Nat
 nn:Bool
 z:Nat->Nat->Int
def Qa4:RCon where
 σ:=CloS
 χ:=CloR
 pre s:=s.lo+s.n<=s.m/\s.n<=1000
 args s:=[.c (.so 0 s.lo 1 s.n s.c s.nn)]
 mem s:=[Qao s.m s.c s.z]
 ok s x:=s.n<=x.c/\((s.c.beq 0 && !s.nn)=true->x.nn=false/\x.c=0)/\∀i,i<s.n->x.z i 0=s.z (s.lo+i) 0
 val s x:=.o (.c (.so 1 0 1 s.n x.c x.nn))
 new s x:=[Qao s.n x.c x.z]
 len:=1
 det:=none
 find args M:=some (blkA args)
def rp1:SV->List SB->List Nat:=fun x M=>match x with
 |.o (.c (.so b _ _ _ _ _))=>[b]
 |_=>[]
theorem Qd3:(Con.rd Qa4).holds Tryz.prog 116:=by
 intro w0 S
 refine Qmp (AG:=[]) (Γ:=[]) Tryz.func116 rfl (by kernel_rfl) Qg Qc (fun _ _=>.nil _ _ _) Qa4 (fun x0 h=>by cases h) [.tmp 0 3 1 [.int .i64]] rp1 200 ?_
 rintro⟨lo,n,m,c,nn,z⟩ ρ w ⟨h0,h2⟩-hM
 dsimp only at h0 h2
 have hrow:RowAt w (ρ 0) 3 1 m c (QJ (ckAt [.int .i64]) 1 z m):=hM _ (List.mem_singleton.2 rfl)
 obtain⟨a,c',e1,hr,ha,hnc⟩:=Qma (b:=0) (n:=n) (nn:=nn) (kf:=fun _=>.i64) hrow rfl rfl h0
 refine⟨[.c (.r a n c' n 1 (fun _=>.i64) (fun i=>z (lo+i)))],by simp only[Qa4,List.map_cons,List.map_nil,SA.den,e1];rfl,rfl,?_⟩
 refine Qi (q:=bif Option.isNone a then endD Qa4 [NZ.tmp 0 3 1 [.int .i64]] rp1 (CloS.mk lo n m c nn z) (SV.o (SA.c (.v (.slice none 0 0)))) []else ((0<=0/\0=0)/\((Rws (TyI.size (TyI.one (Value.int .i64 (0:Int)) (Kd.int .i64))) (fun (x:Nat)=>.i64) w a n c' fun (i:Nat)=>z (lo+i))/\n<=n)/\0+n<=68719476736)/\∀(c_1:Nat),0+n<=c_1->endD Qa4 [NZ.tmp 0 3 1 [.int .i64]] rp1 (CloS.mk lo n m c nn z) (SV.o (SA.c (.so 1 0 1 (0+n) c_1 true))) [SB.gone,SB.rows 3 [.int .i64] 1 (0+n) c_1 fun (i j:Nat)=>z (lo+i) j]) (by kernel_rfl) ?_
 refine Q1 (fun hc=>?_) (fun hc=>⟨⟨⟨Nat.le_refl _,rfl⟩,⟨hr,Nat.le_refl _⟩,by omega⟩,fun c1 hc1=>?_⟩)
 · have hn:n=0:=by
    rw[ha]at hc
    simp only[Bool.and_eq_true]at hc
    have:=Nat.eq_of_beq_eq_true hc.1
    have:=hrow.1
    omega
   subst hn
   exact Qnv rfl ⟨0,false,fun _ _=>0⟩ ⟨Nat.le_refl _,fun _=>⟨rfl,rfl⟩,fun i (hi:i<0)=>by omega⟩ rfl rfl rfl
 · rw[Nat.zero_add]at hc1 ⊢
   exact Qnv rfl ⟨c1,true,fun i j=>z (lo+i) j⟩ ⟨hc1,(fun h=>absurd (h.symm.trans (ha.symm.trans hc)) (by decide)),fun i _=>rfl⟩ rfl rfl rfl
structure LstS where
 l:List Int
 m:Nat
 c:Nat
 nn:Bool
 z:Nat->Nat->Int
 k:Int
 key:Int
 x:Int
structure LstR where
 m:Nat
 c:Nat
 nn:Bool
 z:Nat->Nat->Int
abbrev LstS.pre (s:LstS):Prop:=s.l.length<=6/\(s.l.length<=s.m/\s.m<=s.c)/\IsL s.z s.l/\InR s.l/\(1<=s.k/\s.k<=6)
def QI (F:List Int->Int->Int->List Int × Int × Int):MCon where
 σ:=LstS
 χ:=LstR
 pre s:=s.pre
 args s:=[.c (.so 0 0 1 s.l.length s.c s.nn),opA s.k s.key s.x]
 mem s:=[Qao s.m s.c s.z]
 ok s x:=((F s.l s.k s.x).1.length<=x.m/\x.m<=x.c)/\IsL x.z (F s.l s.k s.x).1
 val s x:=.t [.c (.so 0 0 1 (F s.l s.k s.x).1.length x.c x.nn),ansA (F s.l s.k s.x).2.1 (F s.l s.k s.x).2.2]
 mem' s x:=[Qao x.m x.c x.z]
 k:=0
 len:=1
 det:=none
 find args M:=some (blkA args)
abbrev nzL:List NZ:=[.tmp 0 3 1 [.int .i64]]
def rpL:SV->List SB->List Nat:=fun x M=>match x with
 |.t (.c (.so b _ _ _ _ _)::_)=>[b]
 |.o (.c (.so b _ _ _ _ _))=>[b]
 |_=>[]
theorem QK (F:List Int->Int->Int->List Int × Int × Int) (s:LstS) (M:List SB) (b n m c:Nat) (nn:Bool) (z:Nat->Nat->Int) (a v:Int) (hM:getB M b=Qao m c z) (hb:b.blt M.length=true) (hav:Xi (sc M.length) M=true)
 (r:List Int × Int × Int) (hr:F s.l s.k s.x=r) (hn:n=r.1.length) (hm:n<=m) (hc:m<=c) (hz:IsL z r.1) (ha:a=r.2.1) (hv:v=r.2.2):endN (QI F) nzL rpL s (.t [.c (.so b 0 1 n c nn),ansA a v]) M:=by
 subst hr hn ha hv
 refine Qj (x':=.t [.c (.so b 0 1 (F s.l s.k s.x).1.length c nn),ansA (F s.l s.k s.x).2.1 (F s.l s.k s.x).2.2]) (M':=M) ?_ ⟨m,c,nn,z⟩ ⟨⟨hm,hc⟩,hz⟩ ?_ rfl ?_
 · have h1:(Xi (sc M.length) M&&QaK (sc M.length) (svL (.t [.c (.so b 0 1 (F s.l s.k s.x).1.length c nn),ansA (F s.l s.k s.x).2.1 (F s.l s.k s.x).2.2])))=true:=by
    rw[hav];simp only[svL,QaK,SA.av,SC.av,sc,hb,QQ,Bool.and_self]
   simp only[nrmR,h1,cond_true];rfl
 · have h2:Qa0 M.length [b]=true:=by simp only[Qa0,hb,Bool.and_self]
   show (nodB [b]&&Qa0 M.length [b]&&true&&true&&true&&true)=true
   rw[h2];rfl
 · show [getB M b]=_
   rw[hM];rfl
theorem QmN (F:List Int->Int->Int->List Int × Int × Int) (s:LstS) (M:List SB) (a v:Int) (hav:Xi (sc M.length) M=true)
 (r:List Int × Int × Int) (hr:F s.l s.k s.x=r) (hn:r.1=[]) (ha:a=r.2.1) (hv:v=r.2.2):endN (QI F) nzL rpL s (.t [.c (.v (.slice none 0 0)),ansA a v]) M:=by
 subst hr ha hv
 have hl:(QU M [(M.length,.rows 3 [.int .i64] 1 0 0 (fun _ _=>0))]).length=M.length+1:=(QdH _ M M.length).2.2 rfl
 refine Qj (x':=.t [.c (.so M.length 0 1 0 0 false),ansA (F s.l s.k s.x).2.1 (F s.l s.k s.x).2.2]) (M':=QU M [(M.length,.rows 3 [.int .i64] 1 0 0 (fun _ _=>0))]) ?_ ⟨0,0,false,fun _ _=>0⟩ ⟨⟨by rw[hn];exact Nat.le_refl _,Nat.le_refl _⟩,fun i hi=>by rw[hn]at hi;exact absurd hi (by simp)⟩ ?_ ?_ ?_
 · have h1:(Xi (sc M.length) M&&QaK (sc M.length) (svL (.t [.c (.v (.slice none 0 0)),ansA (F s.l s.k s.x).2.1 (F s.l s.k s.x).2.2])))=true:=by
    rw[hav];rfl
   simp only[nrmR,h1,cond_true];rfl
 · have h2:Qa0 (QU M [(M.length,.rows 3 [.int .i64] 1 0 0 (fun _ _=>0))]).length [M.length]=true:=by rw[hl];simp[Qa0,Nat.blt]
   show (nodB [M.length]&&Qa0 (QU M [(M.length,.rows 3 [.int .i64] 1 0 0 (fun _ _=>0))]).length [M.length]&&true&&true&&true&&true)=true
   rw[h2];rfl
 · show SV.t [.c (.so M.length 0 1 0 0 false),ansA _ _]=SV.t [.c (.so M.length 0 1 (F s.l s.k s.x).1.length 0 false),ansA _ _]
   rw[hn];rfl
 · show [getB (putB M M.length _) M.length]=[SB.rows 3 [.int .i64] 1 0 0 (fun _ _=>0)]
   rw[QaF]
theorem catT {i n:Nat}{a b:Int}(h:i<n):(bif Nat.ble (i+1) n then a else b)=a:=by
 rw[show Nat.ble (i+1) n=true from Nat.ble_eq_true_of_le h];rfl
theorem catF {n:Nat}{a b:Int}:(bif Nat.ble (n+1) n then a else b)=b:=by
 cases h:Nat.ble (n+1) n
 · rfl
 · exact absurd (Nat.le_of_ble_eq_true h) (by omega)
theorem len0 {l:List Int}(h:((l.length:Int)==(0:Int))=true):l=[]:=List.length_eq_zero_iff.1 (by have:=eq_of_beq h;omega)
theorem lenP {l:List Int}(h:((l.length:Int)==(0:Int))=false):0<l.length:=by
 have:¬(l.length:Int)=0:=by simpa using h
 omega
theorem Qmq:(Con.mem (QI queR)).holds Tryz.prog 84:=by
 intro w0 S
 refine QcV (AG:=[]) (Γ:=[(116,.rd Qa4)]) (fun _=>noW) Tryz.func84 rfl (by kernel_rfl) Qg Qc (fun w S' _ _=>.cons (Qd3 w S') (.nil _ _ _)) (QI queR) (fun x0 h=>by cases h) (fun s ρ w _ _ _=>Qh w _)
  nzL rpL 400 ?_
 rintro⟨l,m,c,nn,z,k,key,x⟩ w ⟨h1,⟨h2m,h2c⟩,h4,h5,h6⟩ -
 refine⟨rfl,?_⟩
 dsimp only at h1 h2m h2c h4 h5 h6
 have h2:=Nat.le_trans h2m h2c
 have hs:0+l.length<=m/\l.length<=1000:=⟨by omega,by omega⟩
 have hk:k=1\/k=2\/k=3\/k=4\/k=5\/k=6:=by omega
 rcases hk with rfl|rfl|rfl|rfl|rfl|rfl
 ·
  refine Qi (q:=List.length l<=c/\bif decide ((↑(List.length l):Int)>=(6:Int))then ∃(s:CloS),[SA.c (.so 0 0 1 (List.length l) c nn)]=[SA.c (.so 0 s.1 1 s.2 s.4 s.5)]/\[SB.rows 3 [.int .i64] 1 m c z]=[SB.rows 3 [.int .i64] 1 s.3 s.4 s.6]/\(s.1+s.2<=s.3/\s.2<=1000)/\∀(x_1:CloR),(s.2<=x_1.1/\((match Nat.beq s.4 0 with|false=>false|true=>bif s.5 then false else true)=true->x_1.2=false/\x_1.1=0)/\∀(i:Nat),i<s.2->x_1.3 i 0=s.6 (s.1+i) 0)->endN (QI queR) nzL rpL (LstS.mk l m c nn z (1:Int) key x) (SV.t [SA.c (.so 3 0 1 s.2 x_1.1 x_1.2),SA.a [sI 3,sI 0]]) [SB.rows 3 [.int .i64] 1 m c z,SB.cells [sI 1,sI key,sI x] 32,SB.cells [sI 3,sI 0] 40,SB.rows 3 [.int .i64] 1 s.2 x_1.1 x_1.3]else dP Tryz.f84 5 3 [⟨1,[0],[4],[],true⟩,xE 6,⟨4,[],[3],[3],false⟩,xR 3 1,xF 2 1,xF 0 0]/\∃(s:CloS),[SA.c (.so 0 0 1 (List.length l) c nn)]=[SA.c (.so 0 s.1 1 s.2 s.4 s.5)]/\[SB.rows 3 [.int .i64] 1 m c z]=[SB.rows 3 [.int .i64] 1 s.3 s.4 s.6]/\(s.1+s.2<=s.3/\s.2<=1000)/\∀(x_1:CloR),(s.2<=x_1.1/\((match Nat.beq s.4 0 with|false=>false|true=>bif s.5 then false else true)=true->x_1.2=false/\x_1.1=0)/\∀(i:Nat),i<s.2->x_1.3 i 0=s.6 (s.1+i) 0)->dP Tryz.f84 5 3 [⟨5,[3],[4,5],[],true⟩,⟨1,[0],[4],[4],true⟩,xE 6,⟨4,[],[3],[3],false⟩,xR 3 1,xF 2 1,xF 0 0]/\((s.2<=s.2/\x_1.1=x_1.1)/\(1<=1/\1=1)/\s.2+1<=68719476736)/\∀(c_1:Nat),s.2+1<=c_1->dP Tryz.f84 5 3 [⟨8,[],[2],[],false⟩,xF 7 5,⟨5,[3],[4,5],[5],true⟩,⟨1,[0],[4],[4],true⟩,xE 6,⟨4,[],[3],[3],false⟩,xR 3 1,xF 2 1,xF 0 0]/\endN (QI queR) nzL rpL (LstS.mk l m c nn z (1:Int) key x) (SV.t [SA.c (.so 5 0 1 (s.2+1) c_1 x_1.2),SA.a [sI 1,sI 0]]) [SB.rows 3 [.int .i64] 1 m c z,SB.cells [sI 1,sI key,sI x] 32,SB.cells [sI 1,sI 0] 40,SB.rows 3 [.int .i64] 1 1 1 fun (i j:Nat)=>match List.get?Internal (match List.get?Internal [[x]] i with|some x=>x|none=>[]) j with|some x=>x|none=>(0:Int),SB.gone,SB.rows 3 [.int .i64] 1 (s.2+1) c_1 fun (i j:Nat)=>bif Nat.ble (i+1) s.2 then x_1.3 i j else match List.get?Internal (match List.get?Internal [[x]] (0+(i-s.2))with|some x=>x|none=>[]) j with|some x=>x|none=>(0:Int)]) (by kernel_rfl) ?_
  refine⟨h2,Q1 (fun h=>?_) (fun h=>?_)⟩
  · have h:=of_decide_eq_true h
    have e:queR l 1 x=(l,3,0):=by unfold queR;rw[if_pos rfl,if_pos (by omega)]
    exact⟨⟨0,l.length,m,c,nn,z⟩,rfl,rfl,hs,fun y hy=>QK _ _ _ _ _ _ _ _ _ _ _ rfl rfl rfl _ e rfl (Nat.le_refl _) hy.1 (h4.sub fun i hi=>(hy.2.2 i hi).trans (by rw[Nat.zero_add])) rfl rfl⟩
  · have h:=of_decide_eq_false h
    have e:queR l 1 x=(l++[x],1,0):=by unfold queR;rw[if_pos rfl,if_neg (by omega)]
    refine⟨Qf (by kernel_rfl),⟨0,l.length,m,c,nn,z⟩,rfl,rfl,hs,fun y hy=>⟨Qf (by kernel_rfl),⟨⟨Nat.le_refl _,rfl⟩,⟨Nat.le_refl _,rfl⟩,by dsimp only;omega⟩,fun c' hc'=>⟨Qf (by kernel_rfl),?_⟩⟩⟩
    exact QK _ _ _ _ _ _ _ _ _ _ _ rfl rfl rfl _ e (by simp) (Nat.le_refl _) hc' ((h4.snoc (fun i hi=>(catT hi).trans ((hy.2.2 i hi).trans (by rw[Nat.zero_add]))) (catF.trans (by rw[Nat.sub_self];rfl)))) rfl rfl
 ·
  refine Qi (q:=List.length l<=c/\bif (↑(List.length l):Int)==(0:Int)then endN (QI queR) nzL rpL (LstS.mk l m c nn z (2:Int) key x) (SV.t [SA.c (.v (.slice none 0 0)),SA.a [sI 2,sI 0]]) [SB.rows 3 [.int .i64] 1 m c z,SB.cells [sI 2,sI key,sI x] 32,SB.cells [sI 2,sI 0] 40]else ((0:Int)<=(1:Int)/\(1:Int)<=(↑(List.length l):Int)/\(↑(List.length l):Int)<=(↑c:Int)/\(0=0\/(1:Int)<(↑c:Int)))/\((0:Int)<=(0:Int)/\(0:Int)<(↑(List.length l):Int)/\0+List.length l<=c)/\0<m/\dP Tryz.f84 12 3 [⟨2,[0],[3],[],true⟩,xE 6,xR 5 0,xF 4 0,xF 3 0,xF 1 0,xF 0 0]/\∃(s:CloS),[SA.c (.so 0 1 1 (match Int.toNat (↑(List.length l):Int)with|0=>0|Nat.succ a=>a) c nn)]=[SA.c (.so 0 s.1 1 s.2 s.4 s.5)]/\[SB.rows 3 [.int .i64] 1 m c z]=[SB.rows 3 [.int .i64] 1 s.3 s.4 s.6]/\(s.1+s.2<=s.3/\s.2<=1000)/\∀(x_1:CloR),(s.2<=x_1.1/\((match Nat.beq s.4 0 with|false=>false|true=>bif s.5 then false else true)=true->x_1.2=false/\x_1.1=0)/\∀(i:Nat),i<s.2->x_1.3 i 0=s.6 (s.1+i) 0)->dP Tryz.f84 12 3 [⟨8,[],[2],[],false⟩,xF 7 3,⟨2,[0],[3],[3],true⟩,xE 6,xR 5 0,xF 4 0,xF 3 0,xF 1 0,xF 0 0]/\endN (QI queR) nzL rpL (LstS.mk l m c nn z (2:Int) key x) (SV.t [SA.c (.so 3 0 1 s.2 x_1.1 x_1.2),SA.a [sI 1,sI (z 0 0)]]) [SB.rows 3 [.int .i64] 1 m c z,SB.cells [sI 2,sI key,sI x] 32,SB.cells [sI 1,sI (z 0 0)] 40,SB.rows 3 [.int .i64] 1 s.2 x_1.1 x_1.3]) (by kernel_rfl) ?_
  refine⟨h2,Q1 (fun h=>?_) (fun h=>?_)⟩
  · have h:=len0 h
    subst h
    exact QmN _ _ _ _ _ rfl _ rfl rfl rfl rfl
  · have h:=lenP h
    have e:queR l 2 x=(l.tail,1,l.getD 0 0):=by unfold queR;rw[if_neg (by decide),if_pos (.inl rfl),if_neg (by omega),if_neg (by decide)]
    refine⟨⟨by decide,by omega,by omega,.inl rfl⟩,⟨by decide,by omega,by omega⟩,(by omega:0<m),Qf (by kernel_rfl),⟨1,l.length-1,m,c,nn,z⟩,by rw[Int.toNat_natCast];rfl,rfl,(show 1+(l.length-1)<=m/\l.length-1<=1000 from⟨by omega,by omega⟩),fun y hy=>⟨Qf (by kernel_rfl),?_⟩⟩
    refine QK _ _ _ _ _ _ _ _ _ _ _ rfl rfl rfl _ e (by simp) (Nat.le_refl _) hy.1 (fun i hi=>?_) rfl (h4 0 h)
    have hi:i<l.length-1:=by simpa using hi
    refine (hy.2.2 i hi).trans ((h4 (1+i) (by omega)).trans ?_)
    cases l with
    |nil=>simp at h
    |cons a r=>simp[Nat.add_comm 1 i]
 ·
  refine Qi (q:=∃(s:CloS),[SA.c (.so 0 0 1 (List.length l) c nn)]=[SA.c (.so 0 s.1 1 s.2 s.4 s.5)]/\[SB.rows 3 [.int .i64] 1 m c z]=[SB.rows 3 [.int .i64] 1 s.3 s.4 s.6]/\(s.1+s.2<=s.3/\s.2<=1000)/\∀(x_1:CloR),(s.2<=x_1.1/\((match Nat.beq s.4 0 with|false=>false|true=>bif s.5 then false else true)=true->x_1.2=false/\x_1.1=0)/\∀(i:Nat),i<s.2->x_1.3 i 0=s.6 (s.1+i) 0)->endN (QI queR) nzL rpL (LstS.mk l m c nn z (3:Int) key x) (SV.t [SA.c (.so 3 0 1 s.2 x_1.1 x_1.2),SA.a [sI 5,sI 0]]) [SB.rows 3 [.int .i64] 1 m c z,SB.cells [sI 3,sI key,sI x] 32,SB.cells [sI 5,sI 0] 40,SB.rows 3 [.int .i64] 1 s.2 x_1.1 x_1.3]) (by kernel_rfl) ?_
  exact⟨⟨0,l.length,m,c,nn,z⟩,rfl,rfl,hs,fun y hy=>QK _ _ _ _ _ _ _ _ _ _ _ rfl rfl rfl (l,5,0) rfl rfl (Nat.le_refl _) hy.1 (h4.sub fun i hi=>(hy.2.2 i hi).trans (by rw[Nat.zero_add])) rfl rfl⟩
 ·
  refine Qi (q:=∃(s:CloS),[SA.c (.so 0 0 1 (List.length l) c nn)]=[SA.c (.so 0 s.1 1 s.2 s.4 s.5)]/\[SB.rows 3 [.int .i64] 1 m c z]=[SB.rows 3 [.int .i64] 1 s.3 s.4 s.6]/\(s.1+s.2<=s.3/\s.2<=1000)/\∀(x_1:CloR),(s.2<=x_1.1/\((match Nat.beq s.4 0 with|false=>false|true=>bif s.5 then false else true)=true->x_1.2=false/\x_1.1=0)/\∀(i:Nat),i<s.2->x_1.3 i 0=s.6 (s.1+i) 0)->endN (QI queR) nzL rpL (LstS.mk l m c nn z (4:Int) key x) (SV.t [SA.c (.so 3 0 1 s.2 x_1.1 x_1.2),SA.a [sI 5,sI 0]]) [SB.rows 3 [.int .i64] 1 m c z,SB.cells [sI 4,sI key,sI x] 32,SB.cells [sI 5,sI 0] 40,SB.rows 3 [.int .i64] 1 s.2 x_1.1 x_1.3]) (by kernel_rfl) ?_
  exact⟨⟨0,l.length,m,c,nn,z⟩,rfl,rfl,hs,fun y hy=>QK _ _ _ _ _ _ _ _ _ _ _ rfl rfl rfl (l,5,0) rfl rfl (Nat.le_refl _) hy.1 (h4.sub fun i hi=>(hy.2.2 i hi).trans (by rw[Nat.zero_add])) rfl rfl⟩
 ·
  refine Qi (q:=List.length l<=c/\bif (↑(List.length l):Int)==(0:Int)then endN (QI queR) nzL rpL (LstS.mk l m c nn z (5:Int) key x) (SV.t [SA.c (.v (.slice none 0 0)),SA.a [sI 2,sI 0]]) [SB.rows 3 [.int .i64] 1 m c z,SB.cells [sI 5,sI key,sI x] 32,SB.cells [sI 2,sI 0] 40]else ((0:Int)<=(0:Int)/\(0:Int)<(↑(List.length l):Int)/\0+List.length l<=c)/\0<m/\dP Tryz.f84 11 3 [⟨1,[0],[3],[],true⟩,xE 5,xR 4 0,xF 3 0,xF 2 0,xF 0 0]/\∃(s:CloS),[SA.c (.so 0 0 1 (List.length l) c nn)]=[SA.c (.so 0 s.1 1 s.2 s.4 s.5)]/\[SB.rows 3 [.int .i64] 1 m c z]=[SB.rows 3 [.int .i64] 1 s.3 s.4 s.6]/\(s.1+s.2<=s.3/\s.2<=1000)/\∀(x_1:CloR),(s.2<=x_1.1/\((match Nat.beq s.4 0 with|false=>false|true=>bif s.5 then false else true)=true->x_1.2=false/\x_1.1=0)/\∀(i:Nat),i<s.2->x_1.3 i 0=s.6 (s.1+i) 0)->dP Tryz.f84 11 3 [⟨7,[],[2],[],false⟩,xF 6 3,⟨1,[0],[3],[3],true⟩,xE 5,xR 4 0,xF 3 0,xF 2 0,xF 0 0]/\endN (QI queR) nzL rpL (LstS.mk l m c nn z (5:Int) key x) (SV.t [SA.c (.so 3 0 1 s.2 x_1.1 x_1.2),SA.a [sI 1,sI (z 0 0)]]) [SB.rows 3 [.int .i64] 1 m c z,SB.cells [sI 5,sI key,sI x] 32,SB.cells [sI 1,sI (z 0 0)] 40,SB.rows 3 [.int .i64] 1 s.2 x_1.1 x_1.3]) (by kernel_rfl) ?_
  refine⟨h2,Q1 (fun h=>?_) (fun h=>?_)⟩
  · have h:=len0 h
    subst h
    exact QmN _ _ _ _ _ rfl _ rfl rfl rfl rfl
  · have h:=lenP h
    have e:queR l 5 x=(l,1,l.getD 0 0):=by unfold queR;rw[if_neg (by decide),if_pos (.inr rfl),if_neg (by omega),if_pos rfl]
    refine⟨⟨by decide,by omega,by omega⟩,(by omega:0<m),Qf (by kernel_rfl),⟨0,l.length,m,c,nn,z⟩,rfl,rfl,hs,fun y hy=>⟨Qf (by kernel_rfl),?_⟩⟩
    exact QK _ _ _ _ _ _ _ _ _ _ _ rfl rfl rfl _ e rfl (Nat.le_refl _) hy.1 (h4.sub fun i hi=>(hy.2.2 i hi).trans (by rw[Nat.zero_add])) rfl (h4 0 h)
 ·
  refine Qi (q:=∃(s:CloS),[SA.c (.so 0 0 1 (List.length l) c nn)]=[SA.c (.so 0 s.1 1 s.2 s.4 s.5)]/\[SB.rows 3 [.int .i64] 1 m c z]=[SB.rows 3 [.int .i64] 1 s.3 s.4 s.6]/\(s.1+s.2<=s.3/\s.2<=1000)/\∀(x_1:CloR),(s.2<=x_1.1/\((match Nat.beq s.4 0 with|false=>false|true=>bif s.5 then false else true)=true->x_1.2=false/\x_1.1=0)/\∀(i:Nat),i<s.2->x_1.3 i 0=s.6 (s.1+i) 0)->List.length l<=c/\endN (QI queR) nzL rpL (LstS.mk l m c nn z (6:Int) key x) (SV.t [SA.c (.so 3 0 1 s.2 x_1.1 x_1.2),SA.a [sI 1,sI (↑(List.length l):Int)]]) [SB.rows 3 [.int .i64] 1 m c z,SB.cells [sI 6,sI key,sI x] 32,SB.cells [sI 1,sI (↑(List.length l):Int)] 40,SB.rows 3 [.int .i64] 1 s.2 x_1.1 x_1.3]) (by kernel_rfl) ?_
  exact⟨⟨0,l.length,m,c,nn,z⟩,rfl,rfl,hs,fun y hy=>⟨h2,QK _ _ _ _ _ _ _ _ _ _ _ rfl rfl rfl (l,1,(l.length:Int)) rfl rfl (Nat.le_refl _) hy.1 (h4.sub fun i hi=>(hy.2.2 i hi).trans (by rw[Nat.zero_add])) rfl rfl⟩⟩
theorem lenW {n:Nat}(h:n<=1000):IntKind.wrap .i64 ((n:Int)-1)=(n:Int)-1:=by
 simp only[IntKind.wrap,IntKind.bits,IntKind.signed];simp;omega
theorem Ql8:(Con.mem (QI stkR)).holds Tryz.prog 85:=by
 intro w0 S
 refine QcV (AG:=[]) (Γ:=[(116,.rd Qa4)]) (fun _=>noW) Tryz.func85 rfl (by kernel_rfl) Qg Qc (fun w S' _ _=>.cons (Qd3 w S') (.nil _ _ _)) (QI stkR) (fun x0 h=>by cases h) (fun s ρ w _ _ _=>Qh w _)
  nzL rpL 400 ?_
 rintro⟨l,m,c,nn,z,k,key,x⟩ w ⟨h1,⟨h2m,h2c⟩,h4,h5,h6⟩ -
 refine⟨rfl,?_⟩
 dsimp only at h1 h2m h2c h4 h5 h6
 have h2:=Nat.le_trans h2m h2c
 have hs:0+l.length<=m/\l.length<=1000:=⟨by omega,by omega⟩
 have hk:k=1\/k=2\/k=3\/k=4\/k=5\/k=6:=by omega
 rcases hk with rfl|rfl|rfl|rfl|rfl|rfl
 ·
  refine Qi (q:=∃(s:CloS),[SA.c (.so 0 0 1 (List.length l) c nn)]=[SA.c (.so 0 s.1 1 s.2 s.4 s.5)]/\[SB.rows 3 [.int .i64] 1 m c z]=[SB.rows 3 [.int .i64] 1 s.3 s.4 s.6]/\(s.1+s.2<=s.3/\s.2<=1000)/\∀(x_1:CloR),(s.2<=x_1.1/\((match Nat.beq s.4 0 with|false=>false|true=>bif s.5 then false else true)=true->x_1.2=false/\x_1.1=0)/\∀(i:Nat),i<s.2->x_1.3 i 0=s.6 (s.1+i) 0)->s.2<=x_1.1/\s.2<=x_1.1/\bif decide ((↑s.2:Int)>=(6:Int))then endN (QI stkR) nzL rpL (LstS.mk l m c nn z (1:Int) key x) (SV.t [SA.c (.so 3 0 1 s.2 x_1.1 x_1.2),SA.a [sI 3,sI 0]]) [SB.rows 3 [.int .i64] 1 m c z,SB.cells [sI 1,sI key,sI x] 32,SB.cells [sI 3,sI 0] 40,SB.rows 3 [.int .i64] 1 s.2 x_1.1 x_1.3]else ((s.2<=s.2/\x_1.1=x_1.1)/\(1<=1/\1=1)/\s.2+1<=68719476736)/\∀(c_1:Nat),s.2+1<=c_1->endN (QI stkR) nzL rpL (LstS.mk l m c nn z (1:Int) key x) (SV.t [SA.c (.so 5 0 1 (s.2+1) c_1 x_1.2),SA.a [sI 1,sI 0]]) [SB.rows 3 [.int .i64] 1 m c z,SB.cells [sI 1,sI key,sI x] 32,SB.cells [sI 1,sI 0] 40,SB.gone,SB.rows 3 [.int .i64] 1 1 1 fun (i j:Nat)=>match List.get?Internal (match List.get?Internal [[x]] i with|some x=>x|none=>[]) j with|some x=>x|none=>(0:Int),SB.rows 3 [.int .i64] 1 (s.2+1) c_1 fun (i j:Nat)=>bif Nat.ble (i+1) s.2 then x_1.3 i j else match List.get?Internal (match List.get?Internal [[x]] (0+(i-s.2))with|some x=>x|none=>[]) j with|some x=>x|none=>(0:Int)]) (by kernel_rfl) ?_
  refine⟨⟨0,l.length,m,c,nn,z⟩,rfl,rfl,hs,fun y hy=>⟨hy.1,hy.1,Q1 (fun h=>?_) (fun h=>?_)⟩⟩
  · have h:l.length>=6:=by have:=of_decide_eq_true h;dsimp only at this;omega
    have e:stkR l 1 x=(l,3,0):=by unfold stkR;rw[if_pos rfl,if_pos (by omega)]
    exact QK _ _ _ _ _ _ _ _ _ _ _ rfl rfl rfl _ e rfl (Nat.le_refl _) hy.1 (h4.sub fun i hi=>(hy.2.2 i hi).trans (by rw[Nat.zero_add])) rfl rfl
  · have h:l.length<6:=by have:=of_decide_eq_false h;dsimp only at this;omega
    have e:stkR l 1 x=(l++[x],1,0):=by unfold stkR;rw[if_pos rfl,if_neg (by omega)]
    refine⟨⟨⟨Nat.le_refl _,rfl⟩,⟨Nat.le_refl _,rfl⟩,by dsimp only;omega⟩,fun c' hc'=>?_⟩
    exact QK _ _ _ _ _ _ _ _ _ _ _ rfl rfl rfl _ e (by simp) (Nat.le_refl _) hc' (h4.snoc (fun i hi=>(catT hi).trans ((hy.2.2 i hi).trans (by rw[Nat.zero_add]))) (catF.trans (by rw[Nat.sub_self];rfl))) rfl rfl
 ·
  refine Qi (q:=∃(s:CloS),[SA.c (.so 0 0 1 (List.length l) c nn)]=[SA.c (.so 0 s.1 1 s.2 s.4 s.5)]/\[SB.rows 3 [.int .i64] 1 m c z]=[SB.rows 3 [.int .i64] 1 s.3 s.4 s.6]/\(s.1+s.2<=s.3/\s.2<=1000)/\∀(x_1:CloR),(s.2<=x_1.1/\((match Nat.beq s.4 0 with|false=>false|true=>bif s.5 then false else true)=true->x_1.2=false/\x_1.1=0)/\∀(i:Nat),i<s.2->x_1.3 i 0=s.6 (s.1+i) 0)->s.2<=x_1.1/\bif decide (IntKind.wrap .i64 ((↑s.2:Int)-(1:Int))<(0:Int))then endN (QI stkR) nzL rpL (LstS.mk l m c nn z (2:Int) key x) (SV.t [SA.c (.so 3 0 1 s.2 x_1.1 x_1.2),SA.a [sI 2,sI 0]]) [SB.rows 3 [.int .i64] 1 m c z,SB.cells [sI 2,sI key,sI x] 32,SB.cells [sI 2,sI 0] 40,SB.rows 3 [.int .i64] 1 s.2 x_1.1 x_1.3]else ((0:Int)<=IntKind.wrap .i64 ((↑s.2:Int)-(1:Int))/\IntKind.wrap .i64 ((↑s.2:Int)-(1:Int))<=(↑x_1.1:Int))/\((0:Int)<=IntKind.wrap .i64 ((↑s.2:Int)-(1:Int))/\IntKind.wrap .i64 ((↑s.2:Int)-(1:Int))<(↑s.2:Int)/\0+s.2<=x_1.1)/\0+Int.toNat (IntKind.wrap .i64 ((↑s.2:Int)-(1:Int)))<s.2/\dP Tryz.f85 15 4 [⟨9,[],[2],[],false⟩,xF 8 3,xE 7,xR 6 3,xF 5 3,xE 4,xF 3 3,xF 2 3,xE 1,xF 0 3]/\endN (QI stkR) nzL rpL (LstS.mk l m c nn z (2:Int) key x) (SV.t [SA.c (.so 3 0 1 (Int.toNat (IntKind.wrap .i64 ((↑s.2:Int)-(1:Int)))) x_1.1 x_1.2),SA.a [sI 1,sI (x_1.3 (0+Int.toNat (IntKind.wrap .i64 ((↑s.2:Int)-(1:Int)))) 0)]]) [SB.rows 3 [.int .i64] 1 m c z,SB.cells [sI 2,sI key,sI x] 32,SB.cells [sI 1,sI (x_1.3 (0+Int.toNat (IntKind.wrap .i64 ((↑s.2:Int)-(1:Int)))) 0)] 40,SB.rows 3 [.int .i64] 1 s.2 x_1.1 x_1.3]) (by kernel_rfl) ?_
  refine⟨⟨0,l.length,m,c,nn,z⟩,rfl,rfl,hs,fun y hy=>⟨hy.1,?_⟩⟩
  dsimp only at hy ⊢
  rw[lenW (by omega)]
  refine Q1 (fun h=>?_) (fun h=>?_)
  · have h:l.length=0:=by have:=of_decide_eq_true h;omega
    have e:stkR l 2 x=(l,2,0):=by unfold stkR;rw[if_neg (by decide),if_pos (.inl rfl),if_pos h]
    exact QK _ _ _ _ _ _ _ _ _ _ _ rfl rfl rfl _ e rfl (Nat.le_refl _) hy.1 (h4.sub fun i hi=>(hy.2.2 i hi).trans (by rw[Nat.zero_add])) rfl rfl
  · have h:0<l.length:=by have:=of_decide_eq_false h;omega
    have e:stkR l 2 x=(l.take (l.length-1),1,l.getD (l.length-1) 0):=by unfold stkR;rw[if_neg (by decide),if_pos (.inl rfl),if_neg (by omega),if_neg (by decide)]
    have ht:((l.length:Int)-1).toNat=l.length-1:=by omega
    rw[ht]
    refine⟨⟨by omega,by omega⟩,⟨by omega,by omega,by omega⟩,by omega,Qf (by kernel_rfl),?_⟩
    refine QK _ _ _ _ _ _ _ _ _ _ _ rfl rfl rfl _ e (by simp) (by omega) hy.1 (fun i hi=>?_) rfl ?_
    · have hi:i<l.length-1:=by simp at hi;omega
      rw[hy.2.2 i (by omega),Nat.zero_add,h4 i (by omega)]
      rw[List.getD_eq_getElem?_getD,List.getD_eq_getElem?_getD,List.getElem?_take,if_pos hi]
    · rw[hy.2.2 _ (by omega),Nat.zero_add,Nat.zero_add,h4 _ (by omega)]
 ·
  refine Qi (q:=∃(s:CloS),[SA.c (.so 0 0 1 (List.length l) c nn)]=[SA.c (.so 0 s.1 1 s.2 s.4 s.5)]/\[SB.rows 3 [.int .i64] 1 m c z]=[SB.rows 3 [.int .i64] 1 s.3 s.4 s.6]/\(s.1+s.2<=s.3/\s.2<=1000)/\∀(x_1:CloR),(s.2<=x_1.1/\((match Nat.beq s.4 0 with|false=>false|true=>bif s.5 then false else true)=true->x_1.2=false/\x_1.1=0)/\∀(i:Nat),i<s.2->x_1.3 i 0=s.6 (s.1+i) 0)->s.2<=x_1.1/\endN (QI stkR) nzL rpL (LstS.mk l m c nn z (3:Int) key x) (SV.t [SA.c (.so 3 0 1 s.2 x_1.1 x_1.2),SA.a [sI 5,sI 0]]) [SB.rows 3 [.int .i64] 1 m c z,SB.cells [sI 3,sI key,sI x] 32,SB.cells [sI 5,sI 0] 40,SB.rows 3 [.int .i64] 1 s.2 x_1.1 x_1.3]) (by kernel_rfl) ?_
  refine⟨⟨0,l.length,m,c,nn,z⟩,rfl,rfl,hs,fun y hy=>⟨hy.1,?_⟩⟩
  exact QK _ _ _ _ _ _ _ _ _ _ _ rfl rfl rfl (l,5,0) rfl rfl (Nat.le_refl _) hy.1 (h4.sub fun i hi=>(hy.2.2 i hi).trans (by rw[Nat.zero_add])) rfl rfl
 ·
  refine Qi (q:=∃(s:CloS),[SA.c (.so 0 0 1 (List.length l) c nn)]=[SA.c (.so 0 s.1 1 s.2 s.4 s.5)]/\[SB.rows 3 [.int .i64] 1 m c z]=[SB.rows 3 [.int .i64] 1 s.3 s.4 s.6]/\(s.1+s.2<=s.3/\s.2<=1000)/\∀(x_1:CloR),(s.2<=x_1.1/\((match Nat.beq s.4 0 with|false=>false|true=>bif s.5 then false else true)=true->x_1.2=false/\x_1.1=0)/\∀(i:Nat),i<s.2->x_1.3 i 0=s.6 (s.1+i) 0)->s.2<=x_1.1/\endN (QI stkR) nzL rpL (LstS.mk l m c nn z (4:Int) key x) (SV.t [SA.c (.so 3 0 1 s.2 x_1.1 x_1.2),SA.a [sI 5,sI 0]]) [SB.rows 3 [.int .i64] 1 m c z,SB.cells [sI 4,sI key,sI x] 32,SB.cells [sI 5,sI 0] 40,SB.rows 3 [.int .i64] 1 s.2 x_1.1 x_1.3]) (by kernel_rfl) ?_
  refine⟨⟨0,l.length,m,c,nn,z⟩,rfl,rfl,hs,fun y hy=>⟨hy.1,?_⟩⟩
  exact QK _ _ _ _ _ _ _ _ _ _ _ rfl rfl rfl (l,5,0) rfl rfl (Nat.le_refl _) hy.1 (h4.sub fun i hi=>(hy.2.2 i hi).trans (by rw[Nat.zero_add])) rfl rfl
 ·
  refine Qi (q:=∃(s:CloS),[SA.c (.so 0 0 1 (List.length l) c nn)]=[SA.c (.so 0 s.1 1 s.2 s.4 s.5)]/\[SB.rows 3 [.int .i64] 1 m c z]=[SB.rows 3 [.int .i64] 1 s.3 s.4 s.6]/\(s.1+s.2<=s.3/\s.2<=1000)/\∀(x_1:CloR),(s.2<=x_1.1/\((match Nat.beq s.4 0 with|false=>false|true=>bif s.5 then false else true)=true->x_1.2=false/\x_1.1=0)/\∀(i:Nat),i<s.2->x_1.3 i 0=s.6 (s.1+i) 0)->s.2<=x_1.1/\bif decide (IntKind.wrap .i64 ((↑s.2:Int)-(1:Int))<(0:Int))then endN (QI stkR) nzL rpL (LstS.mk l m c nn z (5:Int) key x) (SV.t [SA.c (.so 3 0 1 s.2 x_1.1 x_1.2),SA.a [sI 2,sI 0]]) [SB.rows 3 [.int .i64] 1 m c z,SB.cells [sI 5,sI key,sI x] 32,SB.cells [sI 2,sI 0] 40,SB.rows 3 [.int .i64] 1 s.2 x_1.1 x_1.3]else ((0:Int)<=IntKind.wrap .i64 ((↑s.2:Int)-(1:Int))/\IntKind.wrap .i64 ((↑s.2:Int)-(1:Int))<(↑s.2:Int)/\0+s.2<=x_1.1)/\0+Int.toNat (IntKind.wrap .i64 ((↑s.2:Int)-(1:Int)))<s.2/\dP Tryz.f85 14 4 [⟨7,[],[2],[],false⟩,xF 6 3,xE 5,xR 4 3,xF 3 3,xE 2,xF 1 3,xF 0 3]/\endN (QI stkR) nzL rpL (LstS.mk l m c nn z (5:Int) key x) (SV.t [SA.c (.so 3 0 1 s.2 x_1.1 x_1.2),SA.a [sI 1,sI (x_1.3 (0+Int.toNat (IntKind.wrap .i64 ((↑s.2:Int)-(1:Int)))) 0)]]) [SB.rows 3 [.int .i64] 1 m c z,SB.cells [sI 5,sI key,sI x] 32,SB.cells [sI 1,sI (x_1.3 (0+Int.toNat (IntKind.wrap .i64 ((↑s.2:Int)-(1:Int)))) 0)] 40,SB.rows 3 [.int .i64] 1 s.2 x_1.1 x_1.3]) (by kernel_rfl) ?_
  refine⟨⟨0,l.length,m,c,nn,z⟩,rfl,rfl,hs,fun y hy=>⟨hy.1,?_⟩⟩
  dsimp only at hy ⊢
  rw[lenW (by omega)]
  refine Q1 (fun h=>?_) (fun h=>?_)
  · have h:l.length=0:=by have:=of_decide_eq_true h;omega
    have e:stkR l 5 x=(l,2,0):=by unfold stkR;rw[if_neg (by decide),if_pos (.inr rfl),if_pos h]
    exact QK _ _ _ _ _ _ _ _ _ _ _ rfl rfl rfl _ e rfl (Nat.le_refl _) hy.1 (h4.sub fun i hi=>(hy.2.2 i hi).trans (by rw[Nat.zero_add])) rfl rfl
  · have h:0<l.length:=by have:=of_decide_eq_false h;omega
    have e:stkR l 5 x=(l,1,l.getD (l.length-1) 0):=by unfold stkR;rw[if_neg (by decide),if_pos (.inr rfl),if_neg (by omega),if_pos rfl]
    have ht:((l.length:Int)-1).toNat=l.length-1:=by omega
    rw[ht]
    refine⟨⟨by omega,by omega,by omega⟩,by omega,Qf (by kernel_rfl),?_⟩
    refine QK _ _ _ _ _ _ _ _ _ _ _ rfl rfl rfl _ e rfl (Nat.le_refl _) hy.1 (h4.sub fun i hi=>(hy.2.2 i hi).trans (by rw[Nat.zero_add])) rfl ?_
    rw[hy.2.2 _ (by omega),Nat.zero_add,Nat.zero_add,h4 _ (by omega)]
 ·
  refine Qi (q:=∃(s:CloS),[SA.c (.so 0 0 1 (List.length l) c nn)]=[SA.c (.so 0 s.1 1 s.2 s.4 s.5)]/\[SB.rows 3 [.int .i64] 1 m c z]=[SB.rows 3 [.int .i64] 1 s.3 s.4 s.6]/\(s.1+s.2<=s.3/\s.2<=1000)/\∀(x_1:CloR),(s.2<=x_1.1/\((match Nat.beq s.4 0 with|false=>false|true=>bif s.5 then false else true)=true->x_1.2=false/\x_1.1=0)/\∀(i:Nat),i<s.2->x_1.3 i 0=s.6 (s.1+i) 0)->s.2<=x_1.1/\s.2<=x_1.1/\endN (QI stkR) nzL rpL (LstS.mk l m c nn z (6:Int) key x) (SV.t [SA.c (.so 3 0 1 s.2 x_1.1 x_1.2),SA.a [sI 1,sI (↑s.2:Int)]]) [SB.rows 3 [.int .i64] 1 m c z,SB.cells [sI 6,sI key,sI x] 32,SB.cells [sI 1,sI (↑s.2:Int)] 40,SB.rows 3 [.int .i64] 1 s.2 x_1.1 x_1.3]) (by kernel_rfl) ?_
  refine⟨⟨0,l.length,m,c,nn,z⟩,rfl,rfl,hs,fun y hy=>⟨hy.1,hy.1,?_⟩⟩
  exact QK _ _ _ _ _ _ _ _ _ _ _ rfl rfl rfl (l,1,(l.length:Int)) rfl rfl (Nat.le_refl _) hy.1 (h4.sub fun i hi=>(hy.2.2 i hi).trans (by rw[Nat.zero_add])) rfl rfl
end
section
open Go.RowKit Go.Lib
structure InsS where
 l:List Int
 m:Nat
 c:Nat
 nn:Bool
 z:Nat->Nat->Int
 z2:Nat->Nat->Int
def Qbs:MCon where
 σ:=InsS
 χ:=LstR
 pre s:=s.l.length<=1000/\(s.l.length<=s.m/\s.m<=s.c)/\IsL s.z s.l
 args s:=[.c (.so 0 0 1 s.l.length s.c s.nn),.c (.v (.int .i64 0)),.c (.so 1 0 1 1 1 true)]
 mem s:=[Qao s.m s.c s.z,Qao 1 1 s.z2]
 ok s x:=(x.m=s.l.length+1/\x.m<=x.c)/\IsL x.z (s.z2 0 0::s.l)
 val s x:=.o (.c (.so 0 0 1 (s.l.length+1) x.c x.nn))
 mem' s x:=[Qao x.m x.c x.z]
 k:=0
 len:=1
 det:=none
 find args M:=some (blkA args)
structure DelS where
 l:List Int
 m:Nat
 c:Nat
 nn:Bool
 z:Nat->Nat->Int
 i:Nat
def QaR:MCon where
 σ:=DelS
 χ:=LstR
 pre s:=(s.i<s.l.length/\s.l.length<=1000)/\(s.l.length<=s.m/\s.m<=s.c)/\IsL s.z s.l
 args s:=[.c (.so 0 0 1 s.l.length s.c s.nn),.c (.v (.int .i64 s.i)),.c (.v (.int .i64 ((s.i+1:Nat):Int)))]
 mem s:=[Qao s.m s.c s.z]
 ok s x:=(x.m=s.l.length-1/\x.c=s.c)/\IsL x.z (s.l.eraseIdx s.i)
 val s x:=.o (.c (.so 0 0 1 (s.l.length-1) x.c true))
 mem' s x:=[Qao x.m x.c x.z]
 k:=0
 len:=1
 det:=none
 find args M:=some (blkA args)
theorem Blk.setCells {b:Nat}{t:TypeId}:∀(vs:List Value) (o:Nat) (w:World) (C:List Value),Blk w b C t->o+vs.length<=C.length->Blk (w.setCells b o vs) b (spl C o vs) t
 |[],o,w,C,h,_=>by
  have:spl C o []=C:=by simp[spl]
  rw[this];exact h
 |v::r,o,w,C,h,hl=>by
  simp only[List.length_cons]at hl
  have ih:=Blk.setCells r (o+1) _ _ (h.set o v) (by rw[List.length_set];omega)
  have e:spl (C.set o v) (o+1) r=spl C o (v::r):=by
   unfold spl
   have h1:(C.set o v).take (o+1)=C.take o++[v]:=by
    rw[List.take_succ_eq_append_getElem (by rw[List.length_set];omega),List.getElem_set_self,List.take_set_of_le (Nat.le_refl _)]
   have h2:(C.set o v).drop (o+1+r.length)=C.drop (o+(v::r).length):=by
    rw[List.drop_set_of_lt (by omega)]
    simp only[List.length_cons];congr 1;omega
   rw[h1,h2];simp
  rw[e]at ih
  exact ih
theorem Xv (b:Nat):∀(vs:List Value) (o:Nat) (w:World),Kept (· =b) w (w.setCells b o vs)
 |[],_,w=>Kept.refl _ w
 |v::r,o,w=>((Kept.refl _ w).own o v).trans (Xv b r (o+1) _)
theorem Blk.take_cell {w:World}{g:Nat}{C:List Value}{t:TypeId}{xs:List Int}(hB:Blk w g C t) (ht:C.take xs.length=xs.map (Value.int .i64)) (j:Nat) (hj:j<xs.length):w.cell? ⟨g,0+j,none⟩=some (.int .i64 (xs.getD j 0)):=by
 rw[Nat.zero_add,hB.cell]
 have e:(C.take xs.length)[j]?=(xs.map (Value.int .i64))[j]?:=by rw[ht]
 rw[List.getElem?_take,if_pos hj,List.getElem?_map,List.getElem?_eq_getElem hj]at e
 rw[e,List.getD_eq_getElem?_getD,List.getElem?_eq_getElem hj];rfl
def Qdc:Go.Shelf.Ren:=⟨fun|21=>117|27=>136|28=>137|35=>151|39=>159|n=>n,fun|22=>151|3=>3|4=>4|0=>0|n=>n,fun|n=>n⟩
theorem Qg1:Go.Proofs.Lays2.n21 Tryz.prog Qdc:={
 mixed:=by kernel_rfl
 f21:=Tryz.func117.trans (congrArg some (by kernel_rfl))
 f27:=Tryz.func136.trans (congrArg some (by kernel_rfl))
 f28:=Tryz.func137.trans (congrArg some (by kernel_rfl))
 f35:=Tryz.func151.trans (congrArg some (by kernel_rfl))
 f39:=Tryz.func159.trans (congrArg some (by kernel_rfl))
 t0:=Tryz.underlying0
 a0:=Tryz.isAgg0
 z0:=Tryz.sizeOf0
 v0:=Tryz.zeroValue0
 t3:=Tryz.underlying3
 a3:=Tryz.isAgg3
 z3:=Tryz.sizeOf3
 v3:=Tryz.zeroValue3
 t4:=Tryz.underlying4
 a4:=Tryz.isAgg4
 z4:=Tryz.sizeOf4
 v4:=Tryz.zeroValue4
 t22:=Tryz.underlying151
 a22:=Tryz.isAgg151
 z22:=Tryz.sizeOf151
 v22:=Tryz.zeroValue151
 i3:=by kernel_rfl }
theorem Blk.newA (w:World) (A:Array Value) (t:TypeId):Blk (w.alloc (.cells A t)) w.heap.size A.toList t:=by
 have:=Blk.new w A.toList t
 simpa using this
theorem Blk.drewn {w:World}{b:Nat}{C:List Value}{t:TypeId}(h:Blk w b C t):Blk w.drew b C t:=h
theorem QjO (xs:List Int):∀v∈xs.map (Value.int .i64),v.oneCell'=true:=by
 intro v hv
 obtain⟨z,-,rfl⟩:=List.mem_map.1 hv
 rfl
theorem QpA (b:Bool):(bif b then (0:Nat)else 0)=0:=by cases b<;>rfl
theorem Qjb (w:World) (q:Nat):Below w.heap.size w (w.drewN q):=⟨rfl,rfl,rfl,Nat.le_refl _,fun _ _=>rfl⟩
theorem Qfr {z:Nat->Nat->Int}{l:List Int}{m:Nat}(h:IsL z l) (hm:l.length<=m):(QJ (ckAt [.int .i64]) 1 z m).take l.length=l.map (Value.int .i64):=by
 apply List.ext_getElem?
 intro i
 rw[List.getElem?_take,List.getElem?_map]
 by_cases hi:i<l.length
 · rw[if_pos hi]
   have:=Xd (ckAt [.int .i64]) 1 z m i 0 (by omega) (by decide)
   rw[Nat.mul_one,Nat.add_zero]at this
   rw[this,h i hi,List.getD_eq_getElem?_getD,List.getElem?_eq_getElem hi];rfl
 · rw[if_neg hi,List.getElem?_eq_none (by omega)];rfl
theorem QkA (l:List Int):QJ (ckAt [.int .i64]) 1 (fun i _=>l.getD i 0) l.length=l.map (Value.int .i64):=by
 have:=Qfr (z:=fun i _=>l.getD i 0) (l:=l) (fun i _=>rfl) (Nat.le_refl _)
 rwa [List.take_of_length_le (by rw[Qz];omega)]at this
theorem QmI {w w':World}{S:Nat->Prop}{d c:Nat}{C:List Value}{l:List Int}(hk:Kept S w w') (hd:S d\/w.heap.size<=d) (hB:Blk w' d C 3) (hC:C.length=c) (hn:l.length<=c) (hm:c<=maxLen)
 (ht:C.take l.length=l.map (Value.int .i64)):Mem w S (denM (fun _=>d) 0 [Qao l.length c (fun i _=>l.getD i 0)]) w':=by
 have e:denM (fun _=>d) 0 [Qao l.length c (fun i _=>l.getD i 0)]=[.row d 3 1 l.length c (l.map (Value.int .i64))]:=by
  show [En.row d 3 1 l.length c (QJ (ckAt [.int .i64]) 1 (fun i _=>l.getD i 0) l.length)]=_
  rw[QkA]
 rw[e]
 refine⟨hk,fun f hf=>?_,fun f hf g hg=>?_,List.pairwise_singleton _ _⟩
 · rw[List.mem_singleton]at hf;subst hf
   exact⟨hn,by simp,fun _=>⟨C,hB,by omega,by rw[Nat.mul_one];exact ht,hm⟩⟩
 · rw[List.mem_singleton]at hf;subst hf
   obtain⟨-,rfl⟩:=hg
   exact hd
theorem Qld (w:World) (g n c:Nat) (nn:Bool) (xs:List Int) (x:Int) (vb:Nat) (hx:xs.length<=1000) (hn:xs.length<=c) (hv:Blk w vb [.int .i64 x] 3) (hne:0<c->vb≠g)
 (hg:0<c->∃C,Blk w g C 3/\C.length=c/\C.take xs.length=xs.map (Value.int .i64)/\c<=maxLen):
 Calls Tryz.prog 117 #[bif c.beq 0 && !nn then .slice none 0 0 else .slice (some ⟨g,0,none⟩) xs.length c,.int .i64 0,.slice (some ⟨vb,0,none⟩) 1 1] w fun e w'=>
  ∃d cap C,e=.returned (.slice (some ⟨d,0,none⟩) (xs.length+1) cap)/\Blk w' d C 3/\C.length=cap/\xs.length+1<=cap/\cap<=maxLen/\C.take (x::xs).length=(x::xs).map (Value.int .i64)/\Kept (fun k=>0<c/\k=g) w w'/\((0<c/\d=g)\/w.heap.size<=d):=by
 have hvs:∀j v,([.int .i64 x]:List Value)[j]?=some v->w.cell? ⟨vb,0+j,none⟩=some v:=fun j v h=>by rw[Nat.zero_add,hv.cell];exact h
 have h1v:∀v∈([.int .i64 x]:List Value),v.oneCell'=true:=by intro v h;simp at h;subst h;rfl
 have h63b:maxLen=9223372036854775807:=rfl
 rcases Nat.eq_zero_or_pos c with hc|hc
 · subst hc
   obtain rfl:xs=[]:=List.length_eq_zero_iff.1 (by omega)
   have grow (ad:Option Addr) (hz:ad=none->True):Calls Tryz.prog 117 #[.slice ad 0 0,.int .i64 0,.slice (some ⟨vb,0,none⟩) 1 1] w fun e w'=>
    ∃d cap C,e=.returned (.slice (some ⟨d,0,none⟩) (([]:List Int).length+1) cap)/\Blk w' d C 3/\C.length=cap/\([]:List Int).length+1<=cap/\cap<=maxLen/\C.take (x::([]:List Int)).length=(x::([]:List Int)).map (Value.int .i64)/\Kept (fun k=>0<0/\k=g) w w'/\((0<0/\d=g)\/w.heap.size<=d):=by
    refine (Any2.slices_Insert_int_end_grow Qg1 ad 0 0 vb 0 1 1 [] [.int .i64 x] w (by decide) (by decide) (by decide) (by decide) rfl rfl (fun _=>rfl) (fun a h j v hv=>by simp at hv) hvs h1v).mono fun e w' ⟨he,hw⟩=>?_
    have hG1:1<=grownCap w (0+1) 0 (Qdc.t 3):=grownCap_ge _ _ _ _
    have hG2:=grownCap_le_maxLen w (0+1) 0 (Qdc.t 3) (by omega)
    rw[hw]
    generalize grownCap w (0+1) 0 (Qdc.t 3)=G at *
    refine⟨_,G,_,he,Blk.newA w.drew _ _,by simp[size_zeroCells,Value.cells];omega,by simpa using hG1,hG2,by simp,.of_below (((Below.refl _ _).drew).alloc (Nat.le_refl _) _),.inr (Nat.le_refl _)⟩
   cases nn
   · exact grow none (fun _=>trivial)
   · exact grow (some ⟨g,0,none⟩) (fun _=>trivial)
 · obtain⟨C,hB,hC,ht,hm⟩:=hg hc
   rw[show (c.beq 0 && !nn)=false by rw[nbeq (by omega)];rfl]
   simp only[cond_false]
   have hcs:∀j v,(xs.map (Value.int .i64))[j]?=some v->w.cell? ⟨g,0+j,none⟩=some v:=fun j v h=>by
    rw[List.getElem?_map]at h
    have hj:j<xs.length:=by
     rcases Nat.lt_or_ge j xs.length with h' | h'
     · exact h'
     · rw[List.getElem?_eq_none h']at h;simp at h
    rw[List.getElem?_eq_getElem hj]at h
    rw[hB.take_cell ht j hj,<- h,List.getD_eq_getElem?_getD,List.getElem?_eq_getElem hj];rfl
   have hkS:∀k,k=g->(0<c/\k=g):=fun k h=>⟨hc,h⟩
   by_cases hroom:xs.length+1<=c
   · by_cases h0:xs.length=0
     · obtain rfl:xs=[]:=List.length_eq_zero_iff.1 h0
       refine (Any2.slices_Insert_int_end_room Qg1 g 0 0 c vb 0 1 1 [.int .i64 x] w (by decide) (by simpa using hroom) (by omega) rfl (fun j hj=>by
        obtain rfl:j=0:=by omega
        rw[hB.cell,List.getElem?_eq_getElem (by simp at hroom;omega)];rfl) (fun j _=>hB.frozen _) hvs h1v).mono fun e w' ⟨he,hw⟩=>?_
       rw[hw]
       have hB2:=Blk.setCells [Value.int .i64 x] 0 w C hB (by simp at hroom ⊢;omega)
       exact⟨g,c,_,he,hB2,by rw[XB _ _ _ (by simp at hroom ⊢;omega)];exact hC,by simpa using hroom,hm,by simp[spl],(Xv g _ _ w).mono hkS,.inl ⟨hc,rfl⟩⟩
     · have hn0:0<xs.length:=by omega
       have hsh:∀(b:Nat) (D:List Value),Blk w b D 3->w.shape? b=some (3,D.length):=fun b D h=>by unfold Blk at h;simp[World.shape?,h]
       refine (Any2.slices_Insert_int_shift Qg1 g 0 xs.length c 0 vb 0 1 1 (xs.map (Value.int .i64)) [.int .i64 x] w hn0 (by decide) hroom (by omega) (hne hc) (List.length_map _) rfl hcs (fun j hj=>by
        rw[Nat.zero_add,hB.cell,List.getElem?_eq_getElem (by omega)];rfl) (fun j _=>hB.frozen _) hvs (QjO xs) h1v 3 3 1 c (hsh _ _ hv) (by rw[hsh _ _ hB,hC]) (by omega) (hv.frozen _) (hv.frozen _)).mono fun e w' ⟨he,hw⟩=>?_
       rw[hw]
       have hB1:=Blk.setCells (xs.map (Value.int .i64)) 1 w.drew C hB.drewn (by simp;omega)
       have hl1:(spl C 1 (xs.map (Value.int .i64))).length=c:=by rw[XB _ _ _ (by simp;omega)];exact hC
       have hB2:=Blk.setCells [Value.int .i64 x] 0 _ _ hB1 (by rw[hl1];simp;omega)
       refine⟨g,c,_,he,hB2,by rw[XB _ _ _ (by rw[hl1];simp;omega)];exact hl1,hroom,hm,?_,(((Kept.refl _ w).drew.trans (Xv g _ _ w.drew)).trans (Xv g _ _ _)).mono hkS,.inl ⟨hc,rfl⟩⟩
       have hC1:(C.take 1).length=1:=by simp;omega
       simp only[spl,List.take_zero,List.nil_append,List.length_singleton,Nat.zero_add]
       rw[List.append_assoc,List.drop_append_of_le_length (by omega),List.drop_of_length_le (by omega:(C.take 1).length<=1),List.nil_append,List.length_cons,List.singleton_append,List.take_succ_cons,List.map_cons,List.take_append_of_le_length (by simp),List.take_of_length_le (by simp)]
   · have hroom':c<xs.length+1:=by omega
     have hn0:0<xs.length:=by omega
     refine (Any2.slices_Insert_int_grow Qg1 g 0 xs.length c 0 vb 0 1 1 (xs.map (Value.int .i64)) [.int .i64 x] w hn0 (by decide) hn hroom' (by omega) (List.length_map _) rfl hcs hvs (QjO xs) h1v).mono fun e w' ⟨he,hw⟩=>?_
     rw[hw,List.drop_zero]
     have hG1:xs.length+1<=grownCap w (xs.length+1) c (Qdc.t 3):=grownCap_ge _ _ _ _
     have hG2:=grownCap_le_maxLen w (xs.length+1) c (Qdc.t 3) (by omega)
     generalize grownCap w (xs.length+1) c (Qdc.t 3)=G at *
     have hN:=Blk.newA w (((xs.map (Value.int .i64)).take 0).toArray++Builtin.zeroCells (Value.int .i64 0).cells (xs.length+1-0)++Builtin.zeroCells (Value.int .i64 0).cells (G-(xs.length+1))) (Qdc.t 3)
     have hL:(((xs.map (Value.int .i64)).take 0).toArray++Builtin.zeroCells (Value.int .i64 0).cells (xs.length+1-0)++Builtin.zeroCells (Value.int .i64 0).cells (G-(xs.length+1))).toList.length=G:=by
      simp[size_zeroCells,Value.cells];omega
     generalize (((xs.map (Value.int .i64)).take 0).toArray++Builtin.zeroCells (Value.int .i64 0).cells (xs.length+1-0)++Builtin.zeroCells (Value.int .i64 0).cells (G-(xs.length+1)))=A at *
     have hk1:Below w.heap.size w (w.alloc (.cells A (Qdc.t 3))).drew:=((Below.refl _ _).alloc (Nat.le_refl _) _).drew
     generalize A.toList=D at *
     have hB1:=Blk.setCells [Value.int .i64 x] 0 _ D hN.drewn (by simp;omega)
     have hl1:(spl D 0 [Value.int .i64 x]).length=G:=by rw[XB _ _ _ (by simp;omega)];exact hL
     have hB2:=Blk.setCells (xs.map (Value.int .i64)) (0+1) _ _ hB1.drewn (by rw[hl1];simp;omega)
     have hl2:(spl (spl D 0 [Value.int .i64 x]) (0+1) (xs.map (Value.int .i64))).length=G:=by
      rw[XB _ _ _ (by rw[hl1];simp;omega)];exact hl1
     have hk2:=hk1.trans ((((Xv w.heap.size [Value.int .i64 x] 0 (w.alloc (.cells A (Qdc.t 3))).drew).drew).trans (Xv w.heap.size (xs.map (Value.int .i64)) (0+1) _)).below (B:=w.heap.size) (by show w.heap.size<=(w.alloc _).heap.size;rw[World.size_alloc];omega) (fun k hk=>by rw[hk];exact Nat.le_refl _))
     have ht2:(spl (spl D 0 [Value.int .i64 x]) (0+1) (xs.map (Value.int .i64))).take (xs.length+1)=(x::xs).map (Value.int .i64):=by simp[spl]
     exact⟨w.heap.size,G,_,he,hB2,hl2,hG1,hG2,ht2,.of_below hk2,.inr (Nat.le_refl _)⟩
theorem Qle:(Con.mem Qbs).holds Tryz.prog 117:=by
 intro w0 S
 unfold Con.holdsAt
 refine⟨by kernel_rfl,(fun x0 h=>by cases h),?_⟩
 intro ρ s w hp hK HM
 obtain⟨l,m,c,nn,z,z2⟩:=s
 obtain⟨h1,⟨h2,h3⟩,h4⟩:=hp
 dsimp only at h1 h2 h3 h4
 have r1:RowAt w (ρ 0) 3 1 m c (QJ (ckAt [.int .i64]) 1 z m):=HM.holds _ List.mem_cons_self
 have r2:RowAt w (ρ 1) 3 1 1 1 (QJ (ckAt [.int .i64]) 1 z2 1):=HM.holds _ (List.mem_cons_of_mem _ List.mem_cons_self)
 have hd:=(List.pairwise_cons.1 HM.dist).1 _ List.mem_cons_self
 obtain⟨C2,hB2,hC2,ht2,-⟩:=r2.2.2 (by decide)
 have e2:C2=[.int .i64 (z2 0 0)]:=by
  rw[List.take_of_length_le (by omega)]at ht2
  rw[ht2];rfl
 subst e2
 have ha:(Qbs.args ⟨l,m,c,nn,z,z2⟩).map (SA.den ρ)=[bif c.beq 0 && !nn then .slice none 0 0 else .slice (some ⟨ρ 0,0,none⟩) l.length c,.int .i64 0,.slice (some ⟨ρ 1,0,none⟩) 1 1]:=by
  simp only[Qbs,List.map_cons,List.map_nil,SA.den,SC.den,Nat.zero_mul,Nat.sub_zero,QpA];rfl
 rw[ha]
 refine (Qld w (ρ 0) l.length c nn l (z2 0 0) (ρ 1) h1 (by omega) hB2 (fun hc h=>hd (ρ 0) ⟨hc,rfl⟩ ⟨by decide,h⟩) (fun hc=>?_)).mono ?_
 · obtain⟨C,hB,hC,ht,hm⟩:=r1.2.2 hc
   refine⟨C,hB,by omega,?_,hm⟩
   have:=Qfr h4 h2
   rw[<- ht,List.take_take,Nat.mul_one,Nat.min_eq_left h2]at this
   exact this
 · rintro e w' ⟨d,cap,C,rfl,hB,hC,hn,hm,ht,hk,hdd⟩
   have hS:∀k,(0<c/\k=ρ 0)->feet (denM ρ 0 (Qbs.mem ⟨l,m,c,nn,z,z2⟩)) k:=fun k ⟨hc,hk⟩=>⟨_,List.mem_cons_self,hc,hk.symm⟩
   refine⟨⟨l.length+1,cap,true,fun i _=>(z2 0 0::l).getD i 0⟩,fun _=>d,⟨⟨rfl,hn⟩,fun i _=>rfl⟩,fun i hi=>by simp[Qbs]at hi,rfl,?_,QmI (l:=z2 0 0::l) (hk.mono hS) (hdd.imp (hS d) id) hB hC hn hm ht⟩
   simp only[Qbs,SV.den,SA.den,SC.den,Bool.not_true,Bool.and_false,cond_false,Nat.zero_mul,Nat.sub_zero,QpA]
theorem Qlw:(Con.mem QaR).holds Tryz.prog 118:=by
 intro w0 S
 unfold Con.holdsAt
 refine⟨by kernel_rfl,(fun x0 h=>by cases h),?_⟩
 intro ρ s w hp hK HM
 obtain⟨l,m,c,nn,z,i⟩:=s
 obtain⟨⟨h0,h1⟩,⟨h2,h3⟩,h4⟩:=hp
 dsimp only at h0 h1 h2 h3 h4
 have hc:0<c:=by omega
 have r1:RowAt w (ρ 0) 3 1 m c (QJ (ckAt [.int .i64]) 1 z m):=HM.holds _ List.mem_cons_self
 obtain⟨C,hB,hC,ht,hm⟩:=r1.2.2 hc
 have ht':C.take l.length=l.map (Value.int .i64):=by
  have:=Qfr h4 h2
  rw[<- ht,List.take_take,Nat.mul_one,Nat.min_eq_left h2]at this
  exact this
 have ha:(QaR.args ⟨l,m,c,nn,z,i⟩).map (SA.den ρ)=[.slice (some ⟨ρ 0,0,none⟩) l.length c,.int .i64 i,.int .i64 ((i+1:Nat):Int)]:=by
  simp only[QaR,List.map_cons,List.map_nil,SA.den,SC.den,Nat.zero_mul,Nat.sub_zero,QpA,show (c.beq 0 && !nn)=false by rw[nbeq (by omega)];rfl,cond_false]
 rw[ha]
 unfold maxLen at hm
 refine (Tryz.slices_Delete_int_cells (ρ 0) 0 l.length c i (i+1) l w (Nat.le_refl _) (by omega) hm (by omega) (by omega) (hB.take_cell ht') (fun j _=>hB.frozen _)).mono fun e w' ⟨he,q,hw⟩=>?_
 have hE:l.eraseIdx i=l.take i++l.drop (i+1):=List.eraseIdx_eq_take_drop_succ l i
 have hlen:(l.eraseIdx i).length=l.length-1:=by rw[List.length_eraseIdx];simp[h0]
 have hlz:((l.eraseIdx i++List.replicate 1 (0:Int)).map (Value.int .i64)).length=l.length:=by simp only[List.length_map,List.length_append,List.length_replicate,hlen];omega
 have hB1:=Blk.setCells ((l.eraseIdx i++List.replicate 1 (0:Int)).map (Value.int .i64)) 0 (w.drewN q) C hB (by rw[hlz];omega)
 rw[List.take_of_length_le (Nat.le_refl l.length),<- hE,show i+1-i=1 by omega]at hw
 have hS:∀k,k=ρ 0->feet (denM ρ 0 (QaR.mem ⟨l,m,c,nn,z,i⟩)) k:=fun k hk=>⟨_,List.mem_cons_self,hc,hk.symm⟩
 have hk:Kept (feet (denM ρ 0 (QaR.mem ⟨l,m,c,nn,z,i⟩))) w w':=by
  rw[hw];exact ((Kept.of_below (Qjb w q)).trans ((Xv (ρ 0) _ _ _).mono hS))
 refine⟨⟨l.length-1,c,true,fun j _=>(l.eraseIdx i).getD j 0⟩,fun _=>ρ 0,⟨⟨rfl,rfl⟩,fun i _=>rfl⟩,fun i hi=>by simp[QaR]at hi,rfl,?_,?_⟩
 · rw[he]
   simp only[QaR,SV.den,SA.den,SC.den,Bool.not_true,Bool.and_false,cond_false,Nat.zero_mul,Nat.sub_zero,QpA]
   rw[show l.length-(i+1-i)=l.length-1 by omega]
 · have:=QmI (w':=w') (l:=l.eraseIdx i) (c:=c) (d:=ρ 0) hk (.inl (hS _ rfl)) (by rw[hw];exact hB1) (by rw[XB _ _ _ (by rw[hlz];omega)];omega) (by omega) (by unfold maxLen;omega) (by
    simp only[spl,List.take_zero,List.nil_append,List.map_append]
    rw[List.append_assoc,List.take_append_of_le_length (by simp),List.take_of_length_le (by simp)])
   rw[hlen]at this
   exact this
end
section
open Go.RowKit
theorem QnB:(Con.mem (QI deqR)).holds Tryz.prog 86:=by
 intro w0 S
 refine QcV (AG:=[]) (Γ:=[(116,.rd Qa4),(117,.mem Qbs),(118,.mem QaR)]) (fun _=>noW) Tryz.func86 rfl (by kernel_rfl) Qg Qc (fun w S' _ _=>.cons (Qd3 w S') (.cons (Qle w S') (.cons (Qlw w S') (.nil _ _ _)))) (QI deqR) (fun x0 h=>by cases h) (fun s ρ w _ _ _=>Qh w _)
  nzL rpL 400 ?_
 rintro⟨l,m,c,nn,z,k,key,x⟩ w ⟨h1,⟨h2m,h2c⟩,h4,h5,h6⟩ -
 refine⟨rfl,?_⟩
 dsimp only at h1 h2m h2c h4 h5 h6
 have h2:=Nat.le_trans h2m h2c
 have hs:0+l.length<=m/\l.length<=1000:=⟨by omega,by omega⟩
 have hk:k=1\/k=2\/k=3\/k=4\/k=5\/k=6:=by omega
 rcases hk with rfl|rfl|rfl|rfl|rfl|rfl
 ·
  refine Qi (q:=∃(s:CloS),[SA.c (.so 0 0 1 (List.length l) c nn)]=[SA.c (.so 0 s.1 1 s.2 s.4 s.5)]/\[SB.rows 3 [.int .i64] 1 m c z]=[SB.rows 3 [.int .i64] 1 s.3 s.4 s.6]/\(s.1+s.2<=s.3/\s.2<=1000)/\∀(x_1:CloR),(s.2<=x_1.1/\((match Nat.beq s.4 0 with|false=>false|true=>bif s.5 then false else true)=true->x_1.2=false/\x_1.1=0)/\∀(i:Nat),i<s.2->x_1.3 i 0=s.6 (s.1+i) 0)->s.2<=x_1.1/\bif decide ((↑s.2:Int)>=(6:Int))then endN (QI deqR) nzL rpL (LstS.mk l m c nn z (1:Int) key x) (SV.t [SA.c (.so 3 0 1 s.2 x_1.1 x_1.2),SA.a [sI 3,sI 0]]) [SB.rows 3 [.int .i64] 1 m c z,SB.cells [sI 1,sI key,sI x] 32,SB.cells [sI 3,sI 0] 40,SB.rows 3 [.int .i64] 1 s.2 x_1.1 x_1.3]else ((s.2<=s.2/\x_1.1=x_1.1)/\(1<=1/\1=1)/\s.2+1<=68719476736)/\∀(c_1:Nat),s.2+1<=c_1->endN (QI deqR) nzL rpL (LstS.mk l m c nn z (1:Int) key x) (SV.t [SA.c (.so 5 0 1 (s.2+1) c_1 x_1.2),SA.a [sI 1,sI 0]]) [SB.rows 3 [.int .i64] 1 m c z,SB.cells [sI 1,sI key,sI x] 32,SB.cells [sI 1,sI 0] 40,SB.gone,SB.rows 3 [.int .i64] 1 1 1 fun (i j:Nat)=>match List.get?Internal (match List.get?Internal [[x]] i with|some x=>x|none=>[]) j with|some x=>x|none=>(0:Int),SB.rows 3 [.int .i64] 1 (s.2+1) c_1 fun (i j:Nat)=>bif Nat.ble (i+1) s.2 then x_1.3 i j else match List.get?Internal (match List.get?Internal [[x]] (0+(i-s.2))with|some x=>x|none=>[]) j with|some x=>x|none=>(0:Int)]) (by kernel_rfl) ?_
  refine⟨⟨0,l.length,m,c,nn,z⟩,rfl,rfl,hs,fun y hy=>⟨hy.1,Qp (fun h=>?_) (fun h=>?_)⟩⟩
  · have e:deqR l 1 x=(l,3,0):=by unfold deqR;rw[if_pos (by decide),if_pos (by dsimp only at h;omega)]
    exact QK _ _ _ _ _ _ _ _ _ _ _ rfl rfl rfl _ e rfl (Nat.le_refl _) hy.1 (h4.sub fun i hi=>(hy.2.2 i hi).trans (by rw[Nat.zero_add])) rfl rfl
  · dsimp only at h hy ⊢
    have e:deqR l 1 x=(l++[x],1,0):=by unfold deqR;rw[if_pos (by decide),if_neg (by omega),if_pos rfl]
    refine⟨⟨⟨Nat.le_refl _,rfl⟩,⟨Nat.le_refl _,rfl⟩,by omega⟩,fun c' hc'=>?_⟩
    exact QK _ _ _ _ _ _ _ _ _ _ _ rfl rfl rfl _ e (by simp) (Nat.le_refl _) hc' (h4.snoc (fun i hi=>(catT hi).trans ((hy.2.2 i hi).trans (by rw[Nat.zero_add]))) (catF.trans (by rw[Nat.sub_self];rfl))) rfl rfl
 ·
  refine Qi (q:=∃(s:CloS),[SA.c (.so 0 0 1 (List.length l) c nn)]=[SA.c (.so 0 s.1 1 s.2 s.4 s.5)]/\[SB.rows 3 [.int .i64] 1 m c z]=[SB.rows 3 [.int .i64] 1 s.3 s.4 s.6]/\(s.1+s.2<=s.3/\s.2<=1000)/\∀(x_1:CloR),(s.2<=x_1.1/\((match Nat.beq s.4 0 with|false=>false|true=>bif s.5 then false else true)=true->x_1.2=false/\x_1.1=0)/\∀(i:Nat),i<s.2->x_1.3 i 0=s.6 (s.1+i) 0)->s.2<=x_1.1/\bif (↑s.2:Int)==(0:Int)then endN (QI deqR) nzL rpL (LstS.mk l m c nn z (2:Int) key x) (SV.t [SA.c (.so 3 0 1 s.2 x_1.1 x_1.2),SA.a [sI 2,sI 0]]) [SB.rows 3 [.int .i64] 1 m c z,SB.cells [sI 2,sI key,sI x] 32,SB.cells [sI 2,sI 0] 40,SB.rows 3 [.int .i64] 1 s.2 x_1.1 x_1.3]else ((0:Int)<=(0:Int)/\(0:Int)<(↑s.2:Int)/\0+s.2<=x_1.1)/\0<s.2/\∃(s_1:DelS),[SA.c (.so 3 0 1 s.2 x_1.1 x_1.2),aI 0,aI 1]=[SA.c (.so 3 0 1 (List.length s_1.1) s_1.3 s_1.4),aI ↑s_1.6,aI (↑(s_1.6+1):Int)]/\[SB.rows 3 [.int .i64] 1 s.2 x_1.1 x_1.3]=[SB.rows 3 [.int .i64] 1 s_1.2 s_1.3 s_1.5]/\((s_1.6<List.length s_1.1/\List.length s_1.1<=1000)/\(List.length s_1.1<=s_1.2/\s_1.2<=s_1.3)/\IsL s_1.5 s_1.1)/\∀(x_2:LstR),((x_2.1=match List.length s_1.1 with|0=>0|Nat.succ a=>a)/\x_2.2=s_1.3)/\IsL x_2.4 (List.eraseIdx s_1.1 s_1.6)->endN (QI deqR) nzL rpL (LstS.mk l m c nn z (2:Int) key x) (SV.t [SA.c (.so 4 0 1 (match List.length s_1.1 with|0=>0|Nat.succ a=>a) x_2.2 true),SA.a [sI 1,sI (x_1.3 0 0)]]) [SB.rows 3 [.int .i64] 1 m c z,SB.cells [sI 2,sI key,sI x] 32,SB.cells [sI 1,sI (x_1.3 0 0)] 40,SB.gone,SB.rows 3 [.int .i64] 1 x_2.1 x_2.2 x_2.4]) (by kernel_rfl) ?_
  refine⟨⟨0,l.length,m,c,nn,z⟩,rfl,rfl,hs,fun y hy=>⟨hy.1,QY (fun h=>?_) (fun h=>?_)⟩⟩
  · have e:deqR l 2 x=(l,2,0):=by unfold deqR;rw[if_neg (by decide),if_pos (by decide),if_pos (by dsimp only at h;omega)]
    exact QK _ _ _ _ _ _ _ _ _ _ _ rfl rfl rfl _ e rfl (Nat.le_refl _) hy.1 (h4.sub fun i hi=>(hy.2.2 i hi).trans (by rw[Nat.zero_add])) rfl rfl
  · dsimp only at h hy ⊢
    have hn:0<l.length:=by omega
    have e:deqR l 2 x=(l.eraseIdx 0,1,l.getD 0 0):=by unfold deqR;rw[if_neg (by decide),if_pos (by decide),if_neg (by omega),if_neg (by decide),if_neg (by decide)]
    have hy0 (i:Nat) (hi:i<l.length):y.3 (0+i) 0=l.getD i 0:=(congrArg (y.3 · 0) (Nat.zero_add i)).trans ((hy.2.2 i hi).trans ((congrArg (z · 0) (Nat.zero_add i)).trans (h4 i hi)))
    refine⟨⟨by omega,by omega,by have:=hy.1;omega⟩,hn,⟨l,l.length,y.1,y.2,y.3,0⟩,rfl,rfl,⟨⟨hn,Nat.le_trans h1 (by decide)⟩,⟨Nat.le_refl _,hy.1⟩,h4.sub fun i hi=>(hy.2.2 i hi).trans (by rw[Nat.zero_add])⟩,fun q hq=>?_⟩
    exact QK _ _ _ _ _ _ _ _ _ _ _ rfl rfl rfl _ e (by rw[List.length_eraseIdx,if_pos hn];rfl) (Nat.le_of_eq (show l.length-1=q.1 from hq.1.1.symm)) (Nat.le_trans (Nat.le_of_eq (show q.1=l.length-1 from hq.1.1)) (Nat.le_trans (Nat.le_trans (Nat.sub_le _ _) hy.1) (Nat.le_of_eq hq.1.2.symm))) hq.2 rfl (hy0 0 hn)
 ·
  refine Qi (q:=∃(s:CloS),[SA.c (.so 0 0 1 (List.length l) c nn)]=[SA.c (.so 0 s.1 1 s.2 s.4 s.5)]/\[SB.rows 3 [.int .i64] 1 m c z]=[SB.rows 3 [.int .i64] 1 s.3 s.4 s.6]/\(s.1+s.2<=s.3/\s.2<=1000)/\∀(x_1:CloR),(s.2<=x_1.1/\((match Nat.beq s.4 0 with|false=>false|true=>bif s.5 then false else true)=true->x_1.2=false/\x_1.1=0)/\∀(i:Nat),i<s.2->x_1.3 i 0=s.6 (s.1+i) 0)->s.2<=x_1.1/\bif decide ((↑s.2:Int)>=(6:Int))then endN (QI deqR) nzL rpL (LstS.mk l m c nn z (3:Int) key x) (SV.t [SA.c (.so 3 0 1 s.2 x_1.1 x_1.2),SA.a [sI 3,sI 0]]) [SB.rows 3 [.int .i64] 1 m c z,SB.cells [sI 3,sI key,sI x] 32,SB.cells [sI 3,sI 0] 40,SB.rows 3 [.int .i64] 1 s.2 x_1.1 x_1.3]else ∃(s_1:InsS),[SA.c (.so 3 0 1 s.2 x_1.1 x_1.2),aI 0,SA.c (.so 4 0 1 1 1 true)]=[SA.c (.so 3 0 1 (List.length s_1.1) s_1.3 s_1.4),aI 0,SA.c (.so 4 0 1 1 1 true)]/\[SB.rows 3 [.int .i64] 1 s.2 x_1.1 x_1.3,SB.rows 3 [.int .i64] 1 1 1 fun (i j:Nat)=>match List.get?Internal (match List.get?Internal [[x]] i with|some x=>x|none=>[]) j with|some x=>x|none=>(0:Int)]=[SB.rows 3 [.int .i64] 1 s_1.2 s_1.3 s_1.5,SB.rows 3 [.int .i64] 1 1 1 s_1.6]/\(List.length s_1.1<=1000/\(List.length s_1.1<=s_1.2/\s_1.2<=s_1.3)/\IsL s_1.5 s_1.1)/\∀(x_2:LstR),(x_2.1=List.length s_1.1+1/\x_2.1<=x_2.2)/\IsL x_2.4 (s_1.6 0 0::s_1.1)->endN (QI deqR) nzL rpL (LstS.mk l m c nn z (3:Int) key x) (SV.t [SA.c (.so 5 0 1 (List.length s_1.1+1) x_2.2 x_2.3),SA.a [sI 1,sI 0]]) [SB.rows 3 [.int .i64] 1 m c z,SB.cells [sI 3,sI key,sI x] 32,SB.cells [sI 1,sI 0] 40,SB.gone,SB.gone,SB.rows 3 [.int .i64] 1 x_2.1 x_2.2 x_2.4]) (by kernel_rfl) ?_
  refine⟨⟨0,l.length,m,c,nn,z⟩,rfl,rfl,hs,fun y hy=>⟨hy.1,Qp (fun h=>?_) (fun h=>?_)⟩⟩
  · have e:deqR l 3 x=(l,3,0):=by unfold deqR;rw[if_pos (by decide),if_pos (by dsimp only at h;omega)]
    exact QK _ _ _ _ _ _ _ _ _ _ _ rfl rfl rfl _ e rfl (Nat.le_refl _) hy.1 (h4.sub fun i hi=>(hy.2.2 i hi).trans (by rw[Nat.zero_add])) rfl rfl
  · dsimp only at h hy ⊢
    have e:deqR l 3 x=(x::l,1,0):=by unfold deqR;rw[if_pos (by decide),if_neg (by omega),if_neg (by decide)]
    refine⟨⟨l,l.length,y.1,y.2,y.3,_⟩,rfl,rfl,⟨Nat.le_trans h1 (by decide),⟨Nat.le_refl _,hy.1⟩,h4.sub fun i hi=>(hy.2.2 i hi).trans (by rw[Nat.zero_add])⟩,fun q hq=>?_⟩
    exact QK _ _ _ _ _ _ _ _ _ _ _ rfl rfl rfl _ e rfl (by rw[hq.1.1];exact Nat.le_refl _) hq.1.2 hq.2 rfl rfl
 ·
  refine Qi (q:=∃(s:CloS),[SA.c (.so 0 0 1 (List.length l) c nn)]=[SA.c (.so 0 s.1 1 s.2 s.4 s.5)]/\[SB.rows 3 [.int .i64] 1 m c z]=[SB.rows 3 [.int .i64] 1 s.3 s.4 s.6]/\(s.1+s.2<=s.3/\s.2<=1000)/\∀(x_1:CloR),(s.2<=x_1.1/\((match Nat.beq s.4 0 with|false=>false|true=>bif s.5 then false else true)=true->x_1.2=false/\x_1.1=0)/\∀(i:Nat),i<s.2->x_1.3 i 0=s.6 (s.1+i) 0)->s.2<=x_1.1/\bif (↑s.2:Int)==(0:Int)then endN (QI deqR) nzL rpL (LstS.mk l m c nn z (4:Int) key x) (SV.t [SA.c (.so 3 0 1 s.2 x_1.1 x_1.2),SA.a [sI 2,sI 0]]) [SB.rows 3 [.int .i64] 1 m c z,SB.cells [sI 4,sI key,sI x] 32,SB.cells [sI 2,sI 0] 40,SB.rows 3 [.int .i64] 1 s.2 x_1.1 x_1.3]else s.2<=x_1.1/\((0:Int)<=IntKind.wrap .i64 ((↑s.2:Int)-(1:Int))/\IntKind.wrap .i64 ((↑s.2:Int)-(1:Int))<(↑s.2:Int)/\0+s.2<=x_1.1)/\0+Int.toNat (IntKind.wrap .i64 ((↑s.2:Int)-(1:Int)))<s.2/\∃(s_1:DelS),[SA.c (.so 3 0 1 s.2 x_1.1 x_1.2),aI (IntKind.wrap .i64 ((↑s.2:Int)-(1:Int))),aI (IntKind.wrap .i64 (IntKind.wrap .i64 ((↑s.2:Int)-(1:Int))+(1:Int)))]=[SA.c (.so 3 0 1 (List.length s_1.1) s_1.3 s_1.4),aI ↑s_1.6,aI (↑(s_1.6+1):Int)]/\[SB.rows 3 [.int .i64] 1 s.2 x_1.1 x_1.3]=[SB.rows 3 [.int .i64] 1 s_1.2 s_1.3 s_1.5]/\((s_1.6<List.length s_1.1/\List.length s_1.1<=1000)/\(List.length s_1.1<=s_1.2/\s_1.2<=s_1.3)/\IsL s_1.5 s_1.1)/\∀(x_2:LstR),((x_2.1=match List.length s_1.1 with|0=>0|Nat.succ a=>a)/\x_2.2=s_1.3)/\IsL x_2.4 (List.eraseIdx s_1.1 s_1.6)->endN (QI deqR) nzL rpL (LstS.mk l m c nn z (4:Int) key x) (SV.t [SA.c (.so 4 0 1 (match List.length s_1.1 with|0=>0|Nat.succ a=>a) x_2.2 true),SA.a [sI 1,sI (x_1.3 (0+Int.toNat (IntKind.wrap .i64 ((↑s.2:Int)-(1:Int)))) 0)]]) [SB.rows 3 [.int .i64] 1 m c z,SB.cells [sI 4,sI key,sI x] 32,SB.cells [sI 1,sI (x_1.3 (0+Int.toNat (IntKind.wrap .i64 ((↑s.2:Int)-(1:Int)))) 0)] 40,SB.gone,SB.rows 3 [.int .i64] 1 x_2.1 x_2.2 x_2.4]) (by kernel_rfl) ?_
  refine⟨⟨0,l.length,m,c,nn,z⟩,rfl,rfl,hs,fun y hy=>⟨hy.1,QY (fun h=>?_) (fun h=>?_)⟩⟩
  · have e:deqR l 4 x=(l,2,0):=by unfold deqR;rw[if_neg (by decide),if_pos (by decide),if_pos (by dsimp only at h;omega)]
    exact QK _ _ _ _ _ _ _ _ _ _ _ rfl rfl rfl _ e rfl (Nat.le_refl _) hy.1 (h4.sub fun i hi=>(hy.2.2 i hi).trans (by rw[Nat.zero_add])) rfl rfl
  · dsimp only at h hy ⊢
    have hn:0<l.length:=by omega
    have e:deqR l 4 x=(l.eraseIdx (l.length-1),1,l.getD (l.length-1) 0):=by unfold deqR;rw[if_neg (by decide),if_pos (by decide),if_neg (by omega),if_neg (by decide),if_pos rfl]
    have hy0 (i:Nat) (hi:i<l.length):y.3 (0+i) 0=l.getD i 0:=(congrArg (y.3 · 0) (Nat.zero_add i)).trans ((hy.2.2 i hi).trans ((congrArg (z · 0) (Nat.zero_add i)).trans (h4 i hi)))
    have ew:IntKind.wrap .i64 ((l.length:Int)-1)=((l.length-1:Nat):Int):=by rw[QH (by omega) (by omega)];omega
    rw[ew,sucI (by omega),Int.toNat_natCast]
    refine⟨hy.1,⟨by omega,by omega,by have:=hy.1;omega⟩,by omega,⟨l,l.length,y.1,y.2,y.3,l.length-1⟩,rfl,rfl,⟨⟨Nat.sub_lt hn (by decide),Nat.le_trans h1 (by decide)⟩,⟨Nat.le_refl _,hy.1⟩,h4.sub fun i hi=>(hy.2.2 i hi).trans (by rw[Nat.zero_add])⟩,fun q hq=>?_⟩
    exact QK _ _ _ _ _ _ _ _ _ _ _ rfl rfl rfl _ e (by rw[List.length_eraseIdx,if_pos (Nat.sub_lt hn (by decide))];rfl) (Nat.le_of_eq (show l.length-1=q.1 from hq.1.1.symm)) (Nat.le_trans (Nat.le_of_eq (show q.1=l.length-1 from hq.1.1)) (Nat.le_trans (Nat.le_trans (Nat.sub_le _ _) hy.1) (Nat.le_of_eq hq.1.2.symm))) hq.2 rfl (hy0 _ (by omega))
 ·
  refine Qi (q:=∃(s:CloS),[SA.c (.so 0 0 1 (List.length l) c nn)]=[SA.c (.so 0 s.1 1 s.2 s.4 s.5)]/\[SB.rows 3 [.int .i64] 1 m c z]=[SB.rows 3 [.int .i64] 1 s.3 s.4 s.6]/\(s.1+s.2<=s.3/\s.2<=1000)/\∀(x_1:CloR),(s.2<=x_1.1/\((match Nat.beq s.4 0 with|false=>false|true=>bif s.5 then false else true)=true->x_1.2=false/\x_1.1=0)/\∀(i:Nat),i<s.2->x_1.3 i 0=s.6 (s.1+i) 0)->s.2<=x_1.1/\bif (↑s.2:Int)==(0:Int)then endN (QI deqR) nzL rpL (LstS.mk l m c nn z (5:Int) key x) (SV.t [SA.c (.so 3 0 1 s.2 x_1.1 x_1.2),SA.a [sI 2,sI 0]]) [SB.rows 3 [.int .i64] 1 m c z,SB.cells [sI 5,sI key,sI x] 32,SB.cells [sI 2,sI 0] 40,SB.rows 3 [.int .i64] 1 s.2 x_1.1 x_1.3]else ((0:Int)<=(0:Int)/\(0:Int)<(↑s.2:Int)/\0+s.2<=x_1.1)/\0<s.2/\endN (QI deqR) nzL rpL (LstS.mk l m c nn z (5:Int) key x) (SV.t [SA.c (.so 3 0 1 s.2 x_1.1 x_1.2),SA.a [sI 1,sI (x_1.3 0 0)]]) [SB.rows 3 [.int .i64] 1 m c z,SB.cells [sI 5,sI key,sI x] 32,SB.cells [sI 1,sI (x_1.3 0 0)] 40,SB.rows 3 [.int .i64] 1 s.2 x_1.1 x_1.3]) (by kernel_rfl) ?_
  refine⟨⟨0,l.length,m,c,nn,z⟩,rfl,rfl,hs,fun y hy=>⟨hy.1,QY (fun h=>?_) (fun h=>?_)⟩⟩
  · have e:deqR l 5 x=(l,2,0):=by unfold deqR;rw[if_neg (by decide),if_pos (by decide),if_pos (by dsimp only at h;omega)]
    exact QK _ _ _ _ _ _ _ _ _ _ _ rfl rfl rfl _ e rfl (Nat.le_refl _) hy.1 (h4.sub fun i hi=>(hy.2.2 i hi).trans (by rw[Nat.zero_add])) rfl rfl
  · dsimp only at h hy ⊢
    have hn:0<l.length:=by omega
    have e:deqR l 5 x=(l,1,l.getD 0 0):=by unfold deqR;rw[if_neg (by decide),if_pos (by decide),if_neg (by omega),if_pos rfl]
    have hy0 (i:Nat) (hi:i<l.length):y.3 (0+i) 0=l.getD i 0:=(congrArg (y.3 · 0) (Nat.zero_add i)).trans ((hy.2.2 i hi).trans ((congrArg (z · 0) (Nat.zero_add i)).trans (h4 i hi)))
    refine⟨⟨by omega,by omega,by have:=hy.1;omega⟩,hn,?_⟩
    exact QK _ _ _ _ _ _ _ _ _ _ _ rfl rfl rfl _ e rfl (Nat.le_refl _) hy.1 (h4.sub fun i hi=>(hy.2.2 i hi).trans (by rw[Nat.zero_add])) rfl (hy0 0 hn)
 ·
  refine Qi (q:=∃(s:CloS),[SA.c (.so 0 0 1 (List.length l) c nn)]=[SA.c (.so 0 s.1 1 s.2 s.4 s.5)]/\[SB.rows 3 [.int .i64] 1 m c z]=[SB.rows 3 [.int .i64] 1 s.3 s.4 s.6]/\(s.1+s.2<=s.3/\s.2<=1000)/\∀(x_1:CloR),(s.2<=x_1.1/\((match Nat.beq s.4 0 with|false=>false|true=>bif s.5 then false else true)=true->x_1.2=false/\x_1.1=0)/\∀(i:Nat),i<s.2->x_1.3 i 0=s.6 (s.1+i) 0)->s.2<=x_1.1/\endN (QI deqR) nzL rpL (LstS.mk l m c nn z (6:Int) key x) (SV.t [SA.c (.so 3 0 1 s.2 x_1.1 x_1.2),SA.a [sI 1,sI (↑s.2:Int)]]) [SB.rows 3 [.int .i64] 1 m c z,SB.cells [sI 6,sI key,sI x] 32,SB.cells [sI 1,sI (↑s.2:Int)] 40,SB.rows 3 [.int .i64] 1 s.2 x_1.1 x_1.3]) (by kernel_rfl) ?_
  exact⟨⟨0,l.length,m,c,nn,z⟩,rfl,rfl,hs,fun y hy=>⟨hy.1,QK _ _ _ _ _ _ _ _ _ _ _ rfl rfl rfl (l,1,(l.length:Int)) rfl rfl (Nat.le_refl _) hy.1 (h4.sub fun i hi=>(hy.2.2 i hi).trans (by rw[Nat.zero_add])) rfl rfl⟩⟩
structure UpS where
 l:List Int
 m:Nat
 c:Nat
 nn:Bool
 z:Nat->Nat->Int
abbrev UpS.pre (s:UpS):Prop:=s.l.length<=1000/\s.l.length<=s.m/\s.m<=s.c/\IsL s.z s.l
def Qaa (p:List Int->Prop) (F:List Int->List Int):MCon where
 σ:=UpS
 χ:=Nat->Nat->Int
 pre s:=s.pre/\p s.l
 args s:=[.c (.so 0 0 1 s.l.length s.c s.nn)]
 mem s:=[Qao s.m s.c s.z]
 ok s z:=IsL z (F s.l)
 val s z:=.o (.c (.so 0 0 1 s.l.length s.c s.nn))
 mem' s z:=[Qao s.m s.c z]
 k:=1
 len:=1
 det:=none
 find args M:=some (blkA args)
theorem QcR {p:List Int->Prop}{F:List Int->List Int}{s:UpS}{z:Nat->Nat->Int}(h:IsL z (F s.l)):endN (Qaa p F) [] (Qn 1) s (.o (.c (.so 0 0 1 s.l.length s.c s.nn))) [Qao s.m s.c z]:=
 ⟨z,h,rfl,rfl⟩
structure UpG (s:UpS) where
 l:List Int
 i:Nat
 z:Nat->Nat->Int
 hl:l.length=s.l.length
 hi:i<l.length
 hz:IsL z l
 he:∃f,i<=f/\upF f l i=upOf s.l
def annUp (s:UpS):Ann where
 σ:=UpG s
 I g:=([(0,.o (.c (.so 0 0 1 s.l.length s.c s.nn))),(3,sv (.int .i64 g.i))],[Qao s.m s.c g.z])
 dec g:=g.i
 pi _ _:=[0]
 nz:=[]
theorem Qjk {z:Nat->Nat->Int}{a b:Nat}{u v w:Int}(j:Nat) (ha:z (0+a) 0=u) (hb:z (0+b) 0=v) (hj:z j 0=w):
 (bif (match Nat.beq j (0+b)with|false=>false|true=>Nat.ble 0 0)then (match List.get?Internal [z (0+a) 0] 0 with|some x=>x|none=>(0:Int))
  else bif (match Nat.beq j (0+a)with|false=>false|true=>Nat.ble 0 0)then (match List.get?Internal [z (0+b) 0] 0 with|some x=>x|none=>(0:Int))else z j 0)=if j=b then u else if j=a then v else w:=by
 rw[Nat.zero_add]at *
 rw[Nat.zero_add]at *
 subst ha hb hj
 by_cases h1:j=b
 · subst h1;simp[List.get?Internal];rfl
 · rw[show Nat.beq j b=false from nbeq h1,if_neg h1]
   by_cases h2:j=a
   · subst h2;simp[List.get?Internal];rfl
   · rw[show Nat.beq j a=false from nbeq h2,if_neg h2];rfl
theorem up_con:(Con.mem (Qaa (fun l=>0<l.length) upOf)).holds Tryz.prog 119:=by
 intro w0 S
 refine Qb (Γ:=[]) (fun _=>noW) Tryz.func119 rfl (by kernel_rfl) Qg Qc (fun _ _ _ _=>.nil _ _ _) (Qaa _ upOf) (fun s=>[(119,[(0,annUp s)])]) (fun x0 h=>by cases h) (fun s ρ w _ _ _=>Qh w _) [] (Qn 1) 400 ?_
 rintro⟨l,m,c,nn,z⟩ w ⟨⟨h1,h2,h3,h4⟩,h5⟩ -
 refine⟨rfl,?_⟩
 dsimp only at h1 h2 h3 h4 h5
 refine Qi (q:=List.length l<=c/\(∃(s0:Ann.σ (annUp (UpS.mk l m c nn z))),(eS (SA.c (.so 0 0 1 (List.length l) c nn)) (SA.c (.so 0 0 1 (List.length l) c nn))/\eS (aI (IntKind.wrap .i64 ((↑(List.length l):Int)-(1:Int)))) (aI ↑s0.2)/\True)/\[SB.rows 3 [.int .i64] 1 m c z]=[SB.rows 3 [.int .i64] 1 m c s0.3])/\∀(s:UpG (UpS.mk l m c nn z)),bif decide ((↑s.2:Int)>(0:Int))then ((0:Int)<=(↑s.2:Int)/\(↑s.2:Int)<(↑(List.length l):Int)/\0+List.length l<=c)/\0+Int.toNat (↑s.2:Int)<m/\(2:Int)≠(0:Int)/\((0:Int)<=IntKind.wrap .i64 (Int.tdiv (IntKind.wrap .i64 ((↑s.2:Int)-(1:Int))) (2:Int))/\IntKind.wrap .i64 (Int.tdiv (IntKind.wrap .i64 ((↑s.2:Int)-(1:Int))) (2:Int))<(↑(List.length l):Int)/\0+List.length l<=c)/\0+Int.toNat (IntKind.wrap .i64 (Int.tdiv (IntKind.wrap .i64 ((↑s.2:Int)-(1:Int))) (2:Int)))<m/\dP Tryz.f119 2 1 [xE 14,xE 13,xR 12 0,xF 11 0,xE 10,xE 9,xE 8,xF 7 0,xR 6 0,xF 5 0,xE 4,xF 3 0,xE 2,xE 1,xE 0]/\bif decide (s.3 (0+Int.toNat (↑s.2:Int)) 0<s.3 (0+Int.toNat (IntKind.wrap .i64 (Int.tdiv (IntKind.wrap .i64 ((↑s.2:Int)-(1:Int))) (2:Int)))) 0)then (2:Int)≠(0:Int)/\(2:Int)≠(0:Int)/\((0:Int)<=IntKind.wrap .i64 (Int.tdiv (IntKind.wrap .i64 ((↑s.2:Int)-(1:Int))) (2:Int))/\IntKind.wrap .i64 (Int.tdiv (IntKind.wrap .i64 ((↑s.2:Int)-(1:Int))) (2:Int))<(↑(List.length l):Int)/\0+List.length l<=c)/\0+Int.toNat (IntKind.wrap .i64 (Int.tdiv (IntKind.wrap .i64 ((↑s.2:Int)-(1:Int))) (2:Int)))<m/\((0:Int)<=(↑s.2:Int)/\(↑s.2:Int)<(↑(List.length l):Int)/\0+List.length l<=c)/\0+Int.toNat (↑s.2:Int)<m/\((0:Int)<=(↑s.2:Int)/\(↑s.2:Int)<(↑(List.length l):Int)/\0+List.length l<=c)/\0+Int.toNat (↑s.2:Int)<m/\((0:Int)<=IntKind.wrap .i64 (Int.tdiv (IntKind.wrap .i64 ((↑s.2:Int)-(1:Int))) (2:Int))/\IntKind.wrap .i64 (Int.tdiv (IntKind.wrap .i64 ((↑s.2:Int)-(1:Int))) (2:Int))<(↑(List.length l):Int)/\0+List.length l<=c)/\0+Int.toNat (IntKind.wrap .i64 (Int.tdiv (IntKind.wrap .i64 ((↑s.2:Int)-(1:Int))) (2:Int)))<m/\dP Tryz.f119 4 1 [⟨19,[],[0],[],false⟩,xF 18 0,⟨17,[],[0],[],false⟩,xF 16 0,xR 15 0,xF 14 0,xE 13,xF 12 0,xR 11 0,xF 10 0,xE 9,xE 8,xE 7,xF 6 0,xE 5,xE 4,xE 3,xF 2 0,xE 1,xF 0 0]/\(2:Int)≠(0:Int)/\∃(s':UpG (UpS.mk l m c nn z)),((eS (SA.c (.so 0 0 1 (List.length l) c nn)) (SA.c (.so 0 0 1 (List.length l) c nn))/\eS (aI (IntKind.wrap .i64 (Int.tdiv (IntKind.wrap .i64 ((↑s.2:Int)-(1:Int))) (2:Int)))) (aI ↑s'.2)/\True)/\[SB.rows 3 [.int .i64] 1 m c fun (i j:Nat)=>bif match Nat.beq i (0+Int.toNat (IntKind.wrap .i64 (Int.tdiv (IntKind.wrap .i64 ((↑s.2:Int)-(1:Int))) (2:Int))))with|false=>false|true=>Nat.ble j 0 then match List.get?Internal [s.3 (0+Int.toNat (↑s.2:Int)) 0] j with|some x=>x|none=>(0:Int)else bif match Nat.beq i (0+Int.toNat (↑s.2:Int))with|false=>false|true=>Nat.ble j 0 then match List.get?Internal [s.3 (0+Int.toNat (IntKind.wrap .i64 (Int.tdiv (IntKind.wrap .i64 ((↑s.2:Int)-(1:Int))) (2:Int)))) 0] j with|some x=>x|none=>(0:Int)else s.3 i j]=[SB.rows 3 [.int .i64] 1 m c s'.3])/\s'.2<s.2 else endN (Qaa (fun (l:List Int)=>0<List.length l) upOf) [] (Qn 1) (UpS.mk l m c nn z) (SV.o (SA.c (.so 0 0 1 (List.length l) c nn))) [SB.rows 3 [.int .i64] 1 m c s.3]else dP Tryz.f119 2 1 [xE 14,xE 13,xE 12,xE 11,xE 10,xE 9,xE 8,xE 7,xE 6,xE 5,xE 4,xE 3,xE 2,xE 1,xE 0]/\endN (Qaa (fun (l:List Int)=>0<List.length l) upOf) [] (Qn 1) (UpS.mk l m c nn z) (SV.o (SA.c (.so 0 0 1 (List.length l) c nn))) [SB.rows 3 [.int .i64] 1 m c s.3]) (by kernel_rfl) ?_
 refine⟨by omega,⟨⟨l,l.length-1,z,rfl,by omega,h4,⟨l.length-1,Nat.le_refl _,rfl⟩⟩,⟨rfl,by rw[lenW h1];congr 5;show _=((l.length-1:Nat):Int);omega,trivial⟩,rfl⟩,?_⟩
 rintro⟨l',i,z',hl,hi,hz,f,hf,he⟩
 dsimp only at hl hi hz hf he ⊢
 refine Qp (fun hpos=>?_) (fun hn=>⟨Qf (by kernel_rfl),QcR ?_⟩)
 · have e:IntKind.wrap .i64 (Int.tdiv (IntKind.wrap .i64 ((i:Int)-1)) 2)=(((i-1)/2:Nat):Int):=by
    rw[QH (x:=(i:Int)-1) (by omega) (by omega),Int.tdiv_eq_ediv_of_nonneg (by omega),QH (by omega) (by omega)];omega
   have hz1:z' (0+i) 0=hp l' i:=(congrArg (z' · 0) (Nat.zero_add i)).trans (hz i hi)
   have hz2:z' (0+(i-1)/2) 0=hp l' ((i-1)/2):=(congrArg (z' · 0) (Nat.zero_add _)).trans (hz ((i-1)/2) (by omega))
   rw[e,Int.toNat_natCast,Int.toNat_natCast]
   refine⟨⟨by omega,by omega,by omega⟩,by omega,by decide,⟨by omega,by omega,by omega⟩,by omega,Qf (by kernel_rfl),Qp (fun hlt=>?_) (fun hge=>QcR ?_)⟩
   · refine⟨by decide,by decide,⟨by omega,by omega,by omega⟩,by omega,⟨by omega,by omega,by omega⟩,by omega,⟨by omega,by omega,by omega⟩,by omega,⟨by omega,by omega,by omega⟩,by omega,Qf (by kernel_rfl),by decide,
      ⟨swp l' i ((i-1)/2),(i-1)/2,_,by rw[Qy,hl],by rw[Qy];omega,?_,⟨f-1,by omega,?_⟩⟩,⟨⟨rfl,rfl,trivial⟩,rfl⟩,by dsimp only;omega⟩
     · intro j hj
       rw[Qy]at hj
       show _=hp (swp l' i ((i-1)/2)) j
       rw[Qcp _ _ _ _ hi (by omega)]
       exact Qjk j hz1 hz2 (hz j (by omega))
     · obtain⟨f,rfl⟩:∃f',f=f'+1:=⟨f-1,by omega⟩
       rw[<- he];simp only[upF,Nat.add_sub_cancel]
       rw[if_pos ⟨by omega,hz1 ▸ hz2 ▸ hlt⟩]
   · rw[<- he]
     cases f with
     |zero=>exact hz
     |succ f=>simp only[upF];rw[if_neg (fun h=>hge (by rw[hz1,hz2];exact h.2))];exact hz
 · rw[<- he]
   cases f with
   |zero=>exact hz
   |succ f=>simp only[upF];rw[if_neg (by omega)];exact hz
structure DnG (s:UpS) where
 l:List Int
 i:Nat
 z:Nat->Nat->Int
 hl:l.length=s.l.length
 hi:i<=l.length
 hz:IsL z l
 he:∃f,l.length<=i+f/\Qdu f l i=Qa2 s.l
def Qn4 (s:UpS):Ann where
 σ:=DnG s
 I g:=([(0,.o (.c (.so 0 0 1 s.l.length s.c s.nn))),(3,sv (.int .i64 g.i))],[Qao s.m s.c g.z])
 dec g:=s.l.length-g.i
 pi _ _:=[0]
 nz:=[]
theorem Qps:(Con.mem (Qaa (fun _=>True) Qa2)).holds Tryz.prog 120:=by
 intro w0 S
 refine Qb (Γ:=[]) (fun _=>noW) Tryz.func120 rfl (by kernel_rfl) Qg Qc (fun _ _ _ _=>.nil _ _ _) (Qaa _ Qa2) (fun s=>[(120,[(0,Qn4 s)])]) (fun x0 h=>by cases h) (fun s ρ w _ _ _=>Qh w _) [] (Qn 1) 400 ?_
 rintro⟨l,m,c,nn,z⟩ w ⟨⟨h1,h2,h3,h4⟩,-⟩ -
 refine⟨rfl,?_⟩
 dsimp only at h1 h2 h3 h4
 refine Qi (q:=(∃(s0:Ann.σ (Qn4 (UpS.mk l m c nn z))),(eS (SA.c (.so 0 0 1 (List.length l) c nn)) (SA.c (.so 0 0 1 (List.length l) c nn))/\eS (aI 0) (aI ↑s0.2)/\True)/\[SB.rows 3 [.int .i64] 1 m c z]=[SB.rows 3 [.int .i64] 1 m c s0.3])/\∀(s:DnG (UpS.mk l m c nn z)),List.length l<=c/\bif decide (IntKind.wrap .i64 (IntKind.wrap .i64 (IntKind.wrap .i64 ((2:Int)*(↑s.2:Int))+(1:Int))+(1:Int))<(↑(List.length l):Int))then ((0:Int)<=IntKind.wrap .i64 (IntKind.wrap .i64 (IntKind.wrap .i64 ((2:Int)*(↑s.2:Int))+(1:Int))+(1:Int))/\IntKind.wrap .i64 (IntKind.wrap .i64 (IntKind.wrap .i64 ((2:Int)*(↑s.2:Int))+(1:Int))+(1:Int))<(↑(List.length l):Int)/\0+List.length l<=c)/\0+Int.toNat (IntKind.wrap .i64 (IntKind.wrap .i64 (IntKind.wrap .i64 ((2:Int)*(↑s.2:Int))+(1:Int))+(1:Int)))<m/\((0:Int)<=IntKind.wrap .i64 (IntKind.wrap .i64 ((2:Int)*(↑s.2:Int))+(1:Int))/\IntKind.wrap .i64 (IntKind.wrap .i64 ((2:Int)*(↑s.2:Int))+(1:Int))<(↑(List.length l):Int)/\0+List.length l<=c)/\0+Int.toNat (IntKind.wrap .i64 (IntKind.wrap .i64 ((2:Int)*(↑s.2:Int))+(1:Int)))<m/\dP Tryz.f120 3 1 [xE 16,xE 15,xR 14 0,xF 13 0,xE 12,xF 11 0,xR 10 0,xF 9 0,xE 8,xE 7,xF 6 0,xE 5,xE 4,xE 3,xF 2 0,xE 1,xE 0]/\bif decide (s.3 (0+Int.toNat (IntKind.wrap .i64 (IntKind.wrap .i64 (IntKind.wrap .i64 ((2:Int)*(↑s.2:Int))+(1:Int))+(1:Int)))) 0<s.3 (0+Int.toNat (IntKind.wrap .i64 (IntKind.wrap .i64 ((2:Int)*(↑s.2:Int))+(1:Int)))) 0)then List.length l<=c/\bif decide (IntKind.wrap .i64 (IntKind.wrap .i64 (IntKind.wrap .i64 ((2:Int)*(↑s.2:Int))+(1:Int))+(1:Int))>=(↑(List.length l):Int))then dP Tryz.f120 5 1 [xE 14,xE 13,xE 12,xE 11,xE 10,xE 9,xE 8,xE 7,xE 6,xE 5,xE 4,xE 3,xE 2,xF 1 0,xE 0]/\endN (Qaa (fun (x:List Int)=>True) Qa2) [] (Qn 1) (UpS.mk l m c nn z) (SV.o (SA.c (.so 0 0 1 (List.length l) c nn))) [SB.rows 3 [.int .i64] 1 m c s.3]else ((0:Int)<=(↑s.2:Int)/\(↑s.2:Int)<(↑(List.length l):Int)/\0+List.length l<=c)/\0+Int.toNat (↑s.2:Int)<m/\((0:Int)<=IntKind.wrap .i64 (IntKind.wrap .i64 (IntKind.wrap .i64 ((2:Int)*(↑s.2:Int))+(1:Int))+(1:Int))/\IntKind.wrap .i64 (IntKind.wrap .i64 (IntKind.wrap .i64 ((2:Int)*(↑s.2:Int))+(1:Int))+(1:Int))<(↑(List.length l):Int)/\0+List.length l<=c)/\0+Int.toNat (IntKind.wrap .i64 (IntKind.wrap .i64 (IntKind.wrap .i64 ((2:Int)*(↑s.2:Int))+(1:Int))+(1:Int)))<m/\dP Tryz.f120 5 1 [xE 14,xE 13,xR 12 0,xF 11 0,xE 10,xF 9 0,xR 8 0,xF 7 0,xE 6,xF 5 0,xE 4,xE 3,xE 2,xF 1 0,xE 0]/\bif decide (s.3 (0+Int.toNat (↑s.2:Int)) 0<=s.3 (0+Int.toNat (IntKind.wrap .i64 (IntKind.wrap .i64 (IntKind.wrap .i64 ((2:Int)*(↑s.2:Int))+(1:Int))+(1:Int)))) 0)then endN (Qaa (fun (x:List Int)=>True) Qa2) [] (Qn 1) (UpS.mk l m c nn z) (SV.o (SA.c (.so 0 0 1 (List.length l) c nn))) [SB.rows 3 [.int .i64] 1 m c s.3]else ((0:Int)<=IntKind.wrap .i64 (IntKind.wrap .i64 (IntKind.wrap .i64 ((2:Int)*(↑s.2:Int))+(1:Int))+(1:Int))/\IntKind.wrap .i64 (IntKind.wrap .i64 (IntKind.wrap .i64 ((2:Int)*(↑s.2:Int))+(1:Int))+(1:Int))<(↑(List.length l):Int)/\0+List.length l<=c)/\0+Int.toNat (IntKind.wrap .i64 (IntKind.wrap .i64 (IntKind.wrap .i64 ((2:Int)*(↑s.2:Int))+(1:Int))+(1:Int)))<m/\((0:Int)<=(↑s.2:Int)/\(↑s.2:Int)<(↑(List.length l):Int)/\0+List.length l<=c)/\0+Int.toNat (↑s.2:Int)<m/\((0:Int)<=(↑s.2:Int)/\(↑s.2:Int)<(↑(List.length l):Int)/\0+List.length l<=c)/\0+Int.toNat (↑s.2:Int)<m/\((0:Int)<=IntKind.wrap .i64 (IntKind.wrap .i64 (IntKind.wrap .i64 ((2:Int)*(↑s.2:Int))+(1:Int))+(1:Int))/\IntKind.wrap .i64 (IntKind.wrap .i64 (IntKind.wrap .i64 ((2:Int)*(↑s.2:Int))+(1:Int))+(1:Int))<(↑(List.length l):Int)/\0+List.length l<=c)/\0+Int.toNat (IntKind.wrap .i64 (IntKind.wrap .i64 (IntKind.wrap .i64 ((2:Int)*(↑s.2:Int))+(1:Int))+(1:Int)))<m/\dP Tryz.f120 7 1 [⟨15,[],[0],[],false⟩,xF 14 0,⟨13,[],[0],[],false⟩,xF 12 0,xR 11 0,xF 10 0,xE 9,xF 8 0,xR 7 0,xF 6 0,xE 5,xF 4 0,xE 3,xF 2 0,xE 1,xF 0 0]/\∃(s':DnG (UpS.mk l m c nn z)),((eS (SA.c (.so 0 0 1 (List.length l) c nn)) (SA.c (.so 0 0 1 (List.length l) c nn))/\eS (aI (IntKind.wrap .i64 (IntKind.wrap .i64 (IntKind.wrap .i64 ((2:Int)*(↑s.2:Int))+(1:Int))+(1:Int)))) (aI ↑s'.2)/\True)/\[SB.rows 3 [.int .i64] 1 m c fun (i j:Nat)=>bif match Nat.beq i (0+Int.toNat (IntKind.wrap .i64 (IntKind.wrap .i64 (IntKind.wrap .i64 ((2:Int)*(↑s.2:Int))+(1:Int))+(1:Int))))with|false=>false|true=>Nat.ble j 0 then match List.get?Internal [s.3 (0+Int.toNat (↑s.2:Int)) 0] j with|some x=>x|none=>(0:Int)else bif match Nat.beq i (0+Int.toNat (↑s.2:Int))with|false=>false|true=>Nat.ble j 0 then match List.get?Internal [s.3 (0+Int.toNat (IntKind.wrap .i64 (IntKind.wrap .i64 (IntKind.wrap .i64 ((2:Int)*(↑s.2:Int))+(1:Int))+(1:Int)))) 0] j with|some x=>x|none=>(0:Int)else s.3 i j]=[SB.rows 3 [.int .i64] 1 m c s'.3])/\List.length l-s'.2<List.length l-s.2 else List.length l<=c/\bif decide (IntKind.wrap .i64 (IntKind.wrap .i64 ((2:Int)*(↑s.2:Int))+(1:Int))>=(↑(List.length l):Int))then dP Tryz.f120 5 1 [xE 14,xE 13,xE 12,xE 11,xE 10,xE 9,xE 8,xE 7,xE 6,xE 5,xE 4,xE 3,xE 2,xF 1 0,xE 0]/\endN (Qaa (fun (x:List Int)=>True) Qa2) [] (Qn 1) (UpS.mk l m c nn z) (SV.o (SA.c (.so 0 0 1 (List.length l) c nn))) [SB.rows 3 [.int .i64] 1 m c s.3]else ((0:Int)<=(↑s.2:Int)/\(↑s.2:Int)<(↑(List.length l):Int)/\0+List.length l<=c)/\0+Int.toNat (↑s.2:Int)<m/\((0:Int)<=IntKind.wrap .i64 (IntKind.wrap .i64 ((2:Int)*(↑s.2:Int))+(1:Int))/\IntKind.wrap .i64 (IntKind.wrap .i64 ((2:Int)*(↑s.2:Int))+(1:Int))<(↑(List.length l):Int)/\0+List.length l<=c)/\0+Int.toNat (IntKind.wrap .i64 (IntKind.wrap .i64 ((2:Int)*(↑s.2:Int))+(1:Int)))<m/\dP Tryz.f120 5 1 [xE 14,xE 13,xR 12 0,xF 11 0,xE 10,xF 9 0,xR 8 0,xF 7 0,xE 6,xF 5 0,xE 4,xE 3,xE 2,xF 1 0,xE 0]/\bif decide (s.3 (0+Int.toNat (↑s.2:Int)) 0<=s.3 (0+Int.toNat (IntKind.wrap .i64 (IntKind.wrap .i64 ((2:Int)*(↑s.2:Int))+(1:Int)))) 0)then endN (Qaa (fun (x:List Int)=>True) Qa2) [] (Qn 1) (UpS.mk l m c nn z) (SV.o (SA.c (.so 0 0 1 (List.length l) c nn))) [SB.rows 3 [.int .i64] 1 m c s.3]else ((0:Int)<=IntKind.wrap .i64 (IntKind.wrap .i64 ((2:Int)*(↑s.2:Int))+(1:Int))/\IntKind.wrap .i64 (IntKind.wrap .i64 ((2:Int)*(↑s.2:Int))+(1:Int))<(↑(List.length l):Int)/\0+List.length l<=c)/\0+Int.toNat (IntKind.wrap .i64 (IntKind.wrap .i64 ((2:Int)*(↑s.2:Int))+(1:Int)))<m/\((0:Int)<=(↑s.2:Int)/\(↑s.2:Int)<(↑(List.length l):Int)/\0+List.length l<=c)/\0+Int.toNat (↑s.2:Int)<m/\((0:Int)<=(↑s.2:Int)/\(↑s.2:Int)<(↑(List.length l):Int)/\0+List.length l<=c)/\0+Int.toNat (↑s.2:Int)<m/\((0:Int)<=IntKind.wrap .i64 (IntKind.wrap .i64 ((2:Int)*(↑s.2:Int))+(1:Int))/\IntKind.wrap .i64 (IntKind.wrap .i64 ((2:Int)*(↑s.2:Int))+(1:Int))<(↑(List.length l):Int)/\0+List.length l<=c)/\0+Int.toNat (IntKind.wrap .i64 (IntKind.wrap .i64 ((2:Int)*(↑s.2:Int))+(1:Int)))<m/\dP Tryz.f120 7 1 [⟨15,[],[0],[],false⟩,xF 14 0,⟨13,[],[0],[],false⟩,xF 12 0,xR 11 0,xF 10 0,xE 9,xF 8 0,xR 7 0,xF 6 0,xE 5,xF 4 0,xE 3,xF 2 0,xE 1,xF 0 0]/\∃(s':DnG (UpS.mk l m c nn z)),((eS (SA.c (.so 0 0 1 (List.length l) c nn)) (SA.c (.so 0 0 1 (List.length l) c nn))/\eS (aI (IntKind.wrap .i64 (IntKind.wrap .i64 ((2:Int)*(↑s.2:Int))+(1:Int)))) (aI ↑s'.2)/\True)/\[SB.rows 3 [.int .i64] 1 m c fun (i j:Nat)=>bif match Nat.beq i (0+Int.toNat (IntKind.wrap .i64 (IntKind.wrap .i64 ((2:Int)*(↑s.2:Int))+(1:Int))))with|false=>false|true=>Nat.ble j 0 then match List.get?Internal [s.3 (0+Int.toNat (↑s.2:Int)) 0] j with|some x=>x|none=>(0:Int)else bif match Nat.beq i (0+Int.toNat (↑s.2:Int))with|false=>false|true=>Nat.ble j 0 then match List.get?Internal [s.3 (0+Int.toNat (IntKind.wrap .i64 (IntKind.wrap .i64 ((2:Int)*(↑s.2:Int))+(1:Int)))) 0] j with|some x=>x|none=>(0:Int)else s.3 i j]=[SB.rows 3 [.int .i64] 1 m c s'.3])/\List.length l-s'.2<List.length l-s.2 else dP Tryz.f120 3 1 [xE 16,xE 15,xE 14,xE 13,xE 12,xE 11,xE 10,xE 9,xE 8,xE 7,xE 6,xE 5,xE 4,xE 3,xF 2 0,xE 1,xE 0]/\List.length l<=c/\bif decide (IntKind.wrap .i64 (IntKind.wrap .i64 ((2:Int)*(↑s.2:Int))+(1:Int))>=(↑(List.length l):Int))then dP Tryz.f120 5 1 [xE 14,xE 13,xE 12,xE 11,xE 10,xE 9,xE 8,xE 7,xE 6,xE 5,xE 4,xE 3,xE 2,xF 1 0,xE 0]/\endN (Qaa (fun (x:List Int)=>True) Qa2) [] (Qn 1) (UpS.mk l m c nn z) (SV.o (SA.c (.so 0 0 1 (List.length l) c nn))) [SB.rows 3 [.int .i64] 1 m c s.3]else ((0:Int)<=(↑s.2:Int)/\(↑s.2:Int)<(↑(List.length l):Int)/\0+List.length l<=c)/\0+Int.toNat (↑s.2:Int)<m/\((0:Int)<=IntKind.wrap .i64 (IntKind.wrap .i64 ((2:Int)*(↑s.2:Int))+(1:Int))/\IntKind.wrap .i64 (IntKind.wrap .i64 ((2:Int)*(↑s.2:Int))+(1:Int))<(↑(List.length l):Int)/\0+List.length l<=c)/\0+Int.toNat (IntKind.wrap .i64 (IntKind.wrap .i64 ((2:Int)*(↑s.2:Int))+(1:Int)))<m/\dP Tryz.f120 5 1 [xE 14,xE 13,xR 12 0,xF 11 0,xE 10,xF 9 0,xR 8 0,xF 7 0,xE 6,xF 5 0,xE 4,xE 3,xE 2,xF 1 0,xE 0]/\bif decide (s.3 (0+Int.toNat (↑s.2:Int)) 0<=s.3 (0+Int.toNat (IntKind.wrap .i64 (IntKind.wrap .i64 ((2:Int)*(↑s.2:Int))+(1:Int)))) 0)then endN (Qaa (fun (x:List Int)=>True) Qa2) [] (Qn 1) (UpS.mk l m c nn z) (SV.o (SA.c (.so 0 0 1 (List.length l) c nn))) [SB.rows 3 [.int .i64] 1 m c s.3]else ((0:Int)<=IntKind.wrap .i64 (IntKind.wrap .i64 ((2:Int)*(↑s.2:Int))+(1:Int))/\IntKind.wrap .i64 (IntKind.wrap .i64 ((2:Int)*(↑s.2:Int))+(1:Int))<(↑(List.length l):Int)/\0+List.length l<=c)/\0+Int.toNat (IntKind.wrap .i64 (IntKind.wrap .i64 ((2:Int)*(↑s.2:Int))+(1:Int)))<m/\((0:Int)<=(↑s.2:Int)/\(↑s.2:Int)<(↑(List.length l):Int)/\0+List.length l<=c)/\0+Int.toNat (↑s.2:Int)<m/\((0:Int)<=(↑s.2:Int)/\(↑s.2:Int)<(↑(List.length l):Int)/\0+List.length l<=c)/\0+Int.toNat (↑s.2:Int)<m/\((0:Int)<=IntKind.wrap .i64 (IntKind.wrap .i64 ((2:Int)*(↑s.2:Int))+(1:Int))/\IntKind.wrap .i64 (IntKind.wrap .i64 ((2:Int)*(↑s.2:Int))+(1:Int))<(↑(List.length l):Int)/\0+List.length l<=c)/\0+Int.toNat (IntKind.wrap .i64 (IntKind.wrap .i64 ((2:Int)*(↑s.2:Int))+(1:Int)))<m/\dP Tryz.f120 7 1 [⟨15,[],[0],[],false⟩,xF 14 0,⟨13,[],[0],[],false⟩,xF 12 0,xR 11 0,xF 10 0,xE 9,xF 8 0,xR 7 0,xF 6 0,xE 5,xF 4 0,xE 3,xF 2 0,xE 1,xF 0 0]/\∃(s':DnG (UpS.mk l m c nn z)),((eS (SA.c (.so 0 0 1 (List.length l) c nn)) (SA.c (.so 0 0 1 (List.length l) c nn))/\eS (aI (IntKind.wrap .i64 (IntKind.wrap .i64 ((2:Int)*(↑s.2:Int))+(1:Int)))) (aI ↑s'.2)/\True)/\[SB.rows 3 [.int .i64] 1 m c fun (i j:Nat)=>bif match Nat.beq i (0+Int.toNat (IntKind.wrap .i64 (IntKind.wrap .i64 ((2:Int)*(↑s.2:Int))+(1:Int))))with|false=>false|true=>Nat.ble j 0 then match List.get?Internal [s.3 (0+Int.toNat (↑s.2:Int)) 0] j with|some x=>x|none=>(0:Int)else bif match Nat.beq i (0+Int.toNat (↑s.2:Int))with|false=>false|true=>Nat.ble j 0 then match List.get?Internal [s.3 (0+Int.toNat (IntKind.wrap .i64 (IntKind.wrap .i64 ((2:Int)*(↑s.2:Int))+(1:Int)))) 0] j with|some x=>x|none=>(0:Int)else s.3 i j]=[SB.rows 3 [.int .i64] 1 m c s'.3])/\List.length l-s'.2<List.length l-s.2) (by kernel_rfl) ?_
 refine⟨⟨⟨l,0,z,rfl,Nat.zero_le _,h4,⟨l.length,by omega,rfl⟩⟩,⟨rfl,rfl,trivial⟩,rfl⟩,?_⟩
 rintro⟨l',i,z',hl,hi,hz,f,hf,he⟩
 dsimp only at hl hi hz hf he ⊢
 have e1:IntKind.wrap .i64 ((2:Int)*(i:Int))=((2*i:Nat):Int):=by rw[QH (by omega) (by omega)];omega
 have e2:IntKind.wrap .i64 (((2*i:Nat):Int)+1)=((2*i+1:Nat):Int):=by rw[QH (by omega) (by omega)];omega
 have e3:IntKind.wrap .i64 (((2*i+1:Nat):Int)+1)=((2*i+2:Nat):Int):=by rw[QH (by omega) (by omega)];omega
 rw[e1,e2,e3,Int.toNat_natCast,Int.toNat_natCast,Int.toNat_natCast]
 have zh (j:Nat) (hj:j<l'.length):z' (0+j) 0=hp l' j:=(congrArg (z' · 0) (Nat.zero_add j)).trans (hz j hj)
 have kidA (ha:2*i+2<l'.length) (hb:z' (0+(2*i+2)) 0<z' (0+(2*i+1)) 0):kid l' i=2*i+2:=by
  rw[zh _ ha,zh _ (by omega)]at hb;exact if_pos ⟨ha,hb⟩
 have kidB (hb:l'.length<=2*i+2\/¬z' (0+(2*i+2)) 0<z' (0+(2*i+1)) 0):kid l' i=2*i+1:=by
  refine if_neg (fun h=>?_)
  rcases hb with hb|hb
  · omega
  · rw[zh _ h.1,zh _ (by omega)]at hb;exact hb h.2
 have stop1 (k:Nat) (hk:kid l' i=k) (h:l'.length<=k):IsL z' (Qa2 l):=by
  rw[<- he]
  cases f with
  |zero=>exact hz
  |succ f=>simp only[Qdu];rw[if_pos (.inl (by omega))];exact hz
 have stop2 (k:Nat) (hk:kid l' i=k) (h0:i<l'.length) (h1:k<l'.length) (h:z' (0+i) 0<=z' (0+k) 0):IsL z' (Qa2 l):=by
  rw[zh _ h0,zh _ h1,<- hk]at h
  rw[<- he]
  cases f with
  |zero=>exact hz
  |succ f=>simp only[Qdu];rw[if_pos (.inr h)];exact hz
 have go (k:Nat) (hk:kid l' i=k) (h0:i<l'.length) (h1:k<l'.length) (h:¬z' (0+i) 0<=z' (0+k) 0):∃f',(swp l' i k).length<=k+f'/\Qdu f' (swp l' i k) k=Qa2 l:=by
  rw[zh _ h0,zh _ h1,<- hk]at h
  obtain⟨f,rfl⟩:∃f',f=f'+1:=⟨f-1,by omega⟩
  refine⟨f,by rw[Qy];omega,?_⟩
  rw[<- he];simp only[Qdu];rw[if_neg (fun hh=>hh.elim (by omega) h),hk]
 repeat' (first|exact Qf (by kernel_rfl)|refine And.intro ?_ ?_|refine Qp (fun _=>?_) (fun _=>?_))
 all_goals (try omega)
 · rename_i a b c d
   exact QcR (stop2 _ (kidA (by omega) b) (by omega) (by omega) d)
 · rename_i a b c d
   refine⟨⟨swp l' i (2*i+2),2*i+2,_,by rw[Qy,hl],by rw[Qy];omega,?_,go _ (kidA (by omega) b) (by omega) (by omega) d⟩,⟨⟨rfl,rfl,trivial⟩,rfl⟩,by dsimp only;omega⟩
   intro j hj
   rw[Qy]at hj
   show _=hp (swp l' i (2*i+2)) j
   rw[Qcp _ _ _ _ (by omega) (by omega)]
   exact Qjk j (zh _ (by omega)) (zh _ (by omega)) (hz j hj)
 · rename_i a b c d
   exact QcR (stop2 _ (kidB (.inr b)) (by omega) (by omega) d)
 · rename_i a b c d
   refine⟨⟨swp l' i (2*i+1),2*i+1,_,by rw[Qy,hl],by rw[Qy];omega,?_,go _ (kidB (.inr b)) (by omega) (by omega) d⟩,⟨⟨rfl,rfl,trivial⟩,rfl⟩,by dsimp only;omega⟩
   intro j hj
   rw[Qy]at hj
   show _=hp (swp l' i (2*i+1)) j
   rw[Qcp _ _ _ _ (by omega) (by omega)]
   exact Qjk j (zh _ (by omega)) (zh _ (by omega)) (hz j hj)
 · exact QcR (stop1 _ (kidB (.inl (by omega))) (by omega))
 · rename_i a c d
   exact QcR (stop2 _ (kidB (.inl (by omega))) (by omega) (by omega) d)
 · rename_i a c d
   refine⟨⟨swp l' i (2*i+1),2*i+1,_,by rw[Qy,hl],by rw[Qy];omega,?_,go _ (kidB (.inl (by omega))) (by omega) (by omega) d⟩,⟨⟨rfl,rfl,trivial⟩,rfl⟩,by dsimp only;omega⟩
   intro j hj
   rw[Qy]at hj
   show _=hp (swp l' i (2*i+1)) j
   rw[Qcp _ _ _ _ (by omega) (by omega)]
   exact Qjk j (zh _ (by omega)) (zh _ (by omega)) (hz j hj)
theorem Qpe:(Con.mem (QI Xn)).holds Tryz.prog 87:=by
 intro w0 S
 refine QcV (AG:=[]) (Γ:=[(116,.rd Qa4),(119,.mem (Qaa (fun l=>0<l.length) upOf)),(120,.mem (Qaa (fun _=>True) Qa2))]) (fun _=>noW) Tryz.func87 rfl (by kernel_rfl) Qg Qc (fun w S' _ _=>.cons (Qd3 w S') (.cons (up_con w S') (.cons (Qps w S') (.nil _ _ _)))) (QI Xn) (fun x0 h=>by cases h) (fun s ρ w _ _ _=>Qh w _)
  nzL rpL 400 ?_
 rintro⟨l,m,c,nn,z,k,key,x⟩ w ⟨h1,⟨h2m,h2c⟩,h4,h5,h6⟩ -
 refine⟨rfl,?_⟩
 dsimp only at h1 h2m h2c h4 h5 h6
 have h2:=Nat.le_trans h2m h2c
 have hs:0+l.length<=m/\l.length<=1000:=⟨by omega,by omega⟩
 have hk:k=1\/k=2\/k=3\/k=4\/k=5\/k=6:=by omega
 rcases hk with rfl|rfl|rfl|rfl|rfl|rfl
 ·
  refine Qi (q:=∃(s:CloS),[SA.c (.so 0 0 1 (List.length l) c nn)]=[SA.c (.so 0 s.1 1 s.2 s.4 s.5)]/\[SB.rows 3 [.int .i64] 1 m c z]=[SB.rows 3 [.int .i64] 1 s.3 s.4 s.6]/\(s.1+s.2<=s.3/\s.2<=1000)/\∀(x_1:CloR),(s.2<=x_1.1/\((match Nat.beq s.4 0 with|false=>false|true=>bif s.5 then false else true)=true->x_1.2=false/\x_1.1=0)/\∀(i:Nat),i<s.2->x_1.3 i 0=s.6 (s.1+i) 0)->s.2<=x_1.1/\bif decide ((↑s.2:Int)>=(6:Int))then endN (QI Xn) nzL rpL (LstS.mk l m c nn z (1:Int) key x) (SV.t [SA.c (.so 3 0 1 s.2 x_1.1 x_1.2),SA.a [sI 3,sI 0]]) [SB.rows 3 [.int .i64] 1 m c z,SB.cells [sI 1,sI key,sI x] 32,SB.cells [sI 3,sI 0] 40,SB.rows 3 [.int .i64] 1 s.2 x_1.1 x_1.3]else ((s.2<=s.2/\x_1.1=x_1.1)/\(1<=1/\1=1)/\s.2+1<=68719476736)/\∀(c_1:Nat),s.2+1<=c_1->∃(s_1:UpS),[SA.c (.so 5 0 1 (s.2+1) c_1 x_1.2)]=[SA.c (.so 5 0 1 (List.length s_1.1) s_1.3 s_1.4)]/\[SB.rows 3 [.int .i64] 1 (s.2+1) c_1 fun (i j:Nat)=>bif Nat.ble (i+1) s.2 then x_1.3 i j else match List.get?Internal (match List.get?Internal [[x]] (0+(i-s.2))with|some x=>x|none=>[]) j with|some x=>x|none=>(0:Int)]=[SB.rows 3 [.int .i64] 1 s_1.2 s_1.3 s_1.5]/\((List.length s_1.1<=1000/\List.length s_1.1<=s_1.2/\s_1.2<=s_1.3/\IsL s_1.5 s_1.1)/\0<List.length s_1.1)/\∀(x_2:Nat->Nat->Int),IsL x_2 (upOf s_1.1)->endN (QI Xn) nzL rpL (LstS.mk l m c nn z (1:Int) key x) (SV.t [SA.c (.so 5 0 1 (List.length s_1.1) s_1.3 s_1.4),SA.a [sI 1,sI 0]]) [SB.rows 3 [.int .i64] 1 m c z,SB.cells [sI 1,sI key,sI x] 32,SB.cells [sI 1,sI 0] 40,SB.gone,SB.rows 3 [.int .i64] 1 1 1 fun (i j:Nat)=>match List.get?Internal (match List.get?Internal [[x]] i with|some x=>x|none=>[]) j with|some x=>x|none=>(0:Int),SB.rows 3 [.int .i64] 1 s_1.2 s_1.3 x_2]) (by kernel_rfl) ?_
  refine⟨⟨0,l.length,m,c,nn,z⟩,rfl,rfl,hs,fun y hy=>⟨hy.1,Qp (fun h=>?_) (fun h=>?_)⟩⟩
  · have e:Xn l 1 x=(l,3,0):=by unfold Xn;rw[if_pos rfl,if_pos (by dsimp only at h;omega)]
    exact QK _ _ _ _ _ _ _ _ _ _ _ rfl rfl rfl _ e rfl (Nat.le_refl _) hy.1 (h4.sub fun i hi=>(hy.2.2 i hi).trans (by rw[Nat.zero_add])) rfl rfl
  · dsimp only at h hy ⊢
    have e:Xn l 1 x=(upOf (l++[x]),1,0):=by unfold Xn upOf;rw[if_pos rfl,if_neg (by omega),List.length_append];rfl
    have hl:(l++[x]).length=l.length+1:=by simp
    refine⟨⟨⟨Nat.le_refl _,rfl⟩,⟨Nat.le_refl _,rfl⟩,by omega⟩,fun c' hc'=>⟨⟨l++[x],l.length+1,c',y.2,_⟩,by rw[hl],rfl,⟨⟨by rw[hl];omega,by rw[hl];exact Nat.le_refl _,hc',?_⟩,by rw[hl];omega⟩,fun z' hz'=>?_⟩⟩
    · exact h4.snoc (x:=x) (fun i hi=>(catT hi).trans ((hy.2.2 i hi).trans (by rw[Nat.zero_add]))) (catF.trans (by rw[Nat.sub_self];rfl))
    exact QK _ _ _ _ _ _ _ _ _ _ _ rfl rfl rfl _ e (Qgd _ _ _).symm (by rw[hl];exact Nat.le_refl _) hc' hz' rfl rfl
 ·
  refine Qi (q:=∃(s:CloS),[SA.c (.so 0 0 1 (List.length l) c nn)]=[SA.c (.so 0 s.1 1 s.2 s.4 s.5)]/\[SB.rows 3 [.int .i64] 1 m c z]=[SB.rows 3 [.int .i64] 1 s.3 s.4 s.6]/\(s.1+s.2<=s.3/\s.2<=1000)/\∀(x_1:CloR),(s.2<=x_1.1/\((match Nat.beq s.4 0 with|false=>false|true=>bif s.5 then false else true)=true->x_1.2=false/\x_1.1=0)/\∀(i:Nat),i<s.2->x_1.3 i 0=s.6 (s.1+i) 0)->s.2<=x_1.1/\bif (↑s.2:Int)==(0:Int)then endN (QI Xn) nzL rpL (LstS.mk l m c nn z (2:Int) key x) (SV.t [SA.c (.so 3 0 1 s.2 x_1.1 x_1.2),SA.a [sI 2,sI 0]]) [SB.rows 3 [.int .i64] 1 m c z,SB.cells [sI 2,sI key,sI x] 32,SB.cells [sI 2,sI 0] 40,SB.rows 3 [.int .i64] 1 s.2 x_1.1 x_1.3]else ((0:Int)<=(0:Int)/\(0:Int)<(↑s.2:Int)/\0+s.2<=x_1.1)/\0<s.2/\s.2<=x_1.1/\((0:Int)<=IntKind.wrap .i64 ((↑s.2:Int)-(1:Int))/\IntKind.wrap .i64 ((↑s.2:Int)-(1:Int))<(↑s.2:Int)/\0+s.2<=x_1.1)/\0+Int.toNat (IntKind.wrap .i64 ((↑s.2:Int)-(1:Int)))<s.2/\((0:Int)<=(0:Int)/\(0:Int)<(↑s.2:Int)/\0+s.2<=x_1.1)/\0<s.2/\((0:Int)<=IntKind.wrap .i64 ((↑s.2:Int)-(1:Int))/\IntKind.wrap .i64 ((↑s.2:Int)-(1:Int))<=(↑x_1.1:Int))/\∃(s_1:UpS),[SA.c (.so 3 0 1 (Int.toNat (IntKind.wrap .i64 ((↑s.2:Int)-(1:Int)))) x_1.1 x_1.2)]=[SA.c (.so 3 0 1 (List.length s_1.1) s_1.3 s_1.4)]/\[SB.rows 3 [.int .i64] 1 s.2 x_1.1 fun (i j:Nat)=>bif match Nat.beq i 0 with|false=>false|true=>Nat.ble j 0 then match List.get?Internal [x_1.3 (0+Int.toNat (IntKind.wrap .i64 ((↑s.2:Int)-(1:Int)))) 0] j with|some x=>x|none=>(0:Int)else x_1.3 i j]=[SB.rows 3 [.int .i64] 1 s_1.2 s_1.3 s_1.5]/\((List.length s_1.1<=1000/\List.length s_1.1<=s_1.2/\s_1.2<=s_1.3/\IsL s_1.5 s_1.1)/\True)/\∀(x_2:Nat->Nat->Int),IsL x_2 (Qa2 s_1.1)->endN (QI Xn) nzL rpL (LstS.mk l m c nn z (2:Int) key x) (SV.t [SA.c (.so 3 0 1 (List.length s_1.1) s_1.3 s_1.4),SA.a [sI 1,sI (x_1.3 0 0)]]) [SB.rows 3 [.int .i64] 1 m c z,SB.cells [sI 2,sI key,sI x] 32,SB.cells [sI 1,sI (x_1.3 0 0)] 40,SB.rows 3 [.int .i64] 1 s_1.2 s_1.3 x_2]) (by kernel_rfl) ?_
  refine⟨⟨0,l.length,m,c,nn,z⟩,rfl,rfl,hs,fun y hy=>⟨hy.1,QY (fun h=>?_) (fun h=>?_)⟩⟩
  · have e:Xn l 2 x=(l,2,0):=by unfold Xn;rw[if_neg (by decide),if_pos (.inl rfl),if_pos (by dsimp only at h;omega)]
    exact QK _ _ _ _ _ _ _ _ _ _ _ rfl rfl rfl _ e rfl (Nat.le_refl _) hy.1 (h4.sub fun i hi=>(hy.2.2 i hi).trans (by rw[Nat.zero_add])) rfl rfl
  · dsimp only at h hy ⊢
    have hn:0<l.length:=by omega
    have e:Xn l 2 x=(Qa2 ((l.set 0 (hp l (l.length-1))).take (l.length-1)),1,hp l 0):=by
     unfold Xn Qa2;rw[if_neg (by decide),if_pos (.inl rfl),if_neg (by omega),if_neg (by decide)];congr 2;simp
    have ew:IntKind.wrap .i64 ((l.length:Int)-1)=((l.length-1:Nat):Int):=by rw[QH (by omega) (by omega)];omega
    have ht:((l.set 0 (hp l (l.length-1))).take (l.length-1)).length=l.length-1:=by simp
    have hy0 (i:Nat) (hi:i<l.length):y.3 i 0=hp l i:=(hy.2.2 i hi).trans ((congrArg (z · 0) (Nat.zero_add i)).trans (h4 i hi))
    rw[ew,Int.toNat_natCast]
    refine⟨⟨by omega,by omega,by omega⟩,by omega,by omega,⟨by omega,by omega,by omega⟩,by omega,⟨by omega,by omega,by omega⟩,by omega,⟨by omega,by omega⟩,
     ⟨(l.set 0 (hp l (l.length-1))).take (l.length-1),l.length,y.1,y.2,_⟩,by rw[ht],rfl,⟨⟨by rw[ht];omega,Nat.le_trans (Nat.le_of_eq ht) (Nat.sub_le _ _),hy.1,fun i hi=>?_⟩,trivial⟩,fun z' hz'=>?_⟩
    · rw[ht]at hi
      show _=hp _ i
      by_cases h0:i=0
      · subst h0
        simp only[hp,List.getD_eq_getElem?_getD,List.getElem?_take,if_pos hi,List.getElem?_set_self hn,Option.getD_some]
        exact (congrArg (y.3 · 0) (Nat.zero_add _)).trans ((hy0 _ (by omega)).trans (by simp[hp,List.getD_eq_getElem?_getD]))
      · rw[QiD l _ _ i hi (by omega)];dsimp only;rw[show Nat.beq i 0=false from nbeq h0]
        exact hy0 i (by omega)
    · exact QK _ _ _ _ _ _ _ _ _ _ _ rfl rfl rfl _ e (QeO _ _ _).symm (Nat.le_trans (Nat.le_of_eq ht) (Nat.sub_le _ _)) hy.1 hz' rfl (hy0 0 hn)
 ·
  refine Qi (q:=∃(s:CloS),[SA.c (.so 0 0 1 (List.length l) c nn)]=[SA.c (.so 0 s.1 1 s.2 s.4 s.5)]/\[SB.rows 3 [.int .i64] 1 m c z]=[SB.rows 3 [.int .i64] 1 s.3 s.4 s.6]/\(s.1+s.2<=s.3/\s.2<=1000)/\∀(x_1:CloR),(s.2<=x_1.1/\((match Nat.beq s.4 0 with|false=>false|true=>bif s.5 then false else true)=true->x_1.2=false/\x_1.1=0)/\∀(i:Nat),i<s.2->x_1.3 i 0=s.6 (s.1+i) 0)->endN (QI Xn) nzL rpL (LstS.mk l m c nn z (3:Int) key x) (SV.t [SA.c (.so 3 0 1 s.2 x_1.1 x_1.2),SA.a [sI 5,sI 0]]) [SB.rows 3 [.int .i64] 1 m c z,SB.cells [sI 3,sI key,sI x] 32,SB.cells [sI 5,sI 0] 40,SB.rows 3 [.int .i64] 1 s.2 x_1.1 x_1.3]) (by kernel_rfl) ?_
  exact⟨⟨0,l.length,m,c,nn,z⟩,rfl,rfl,hs,fun y hy=>QK _ _ _ _ _ _ _ _ _ _ _ rfl rfl rfl (l,5,0) rfl rfl (Nat.le_refl _) hy.1 (h4.sub fun i hi=>(hy.2.2 i hi).trans (by rw[Nat.zero_add])) rfl rfl⟩
 ·
  refine Qi (q:=∃(s:CloS),[SA.c (.so 0 0 1 (List.length l) c nn)]=[SA.c (.so 0 s.1 1 s.2 s.4 s.5)]/\[SB.rows 3 [.int .i64] 1 m c z]=[SB.rows 3 [.int .i64] 1 s.3 s.4 s.6]/\(s.1+s.2<=s.3/\s.2<=1000)/\∀(x_1:CloR),(s.2<=x_1.1/\((match Nat.beq s.4 0 with|false=>false|true=>bif s.5 then false else true)=true->x_1.2=false/\x_1.1=0)/\∀(i:Nat),i<s.2->x_1.3 i 0=s.6 (s.1+i) 0)->endN (QI Xn) nzL rpL (LstS.mk l m c nn z (4:Int) key x) (SV.t [SA.c (.so 3 0 1 s.2 x_1.1 x_1.2),SA.a [sI 5,sI 0]]) [SB.rows 3 [.int .i64] 1 m c z,SB.cells [sI 4,sI key,sI x] 32,SB.cells [sI 5,sI 0] 40,SB.rows 3 [.int .i64] 1 s.2 x_1.1 x_1.3]) (by kernel_rfl) ?_
  exact⟨⟨0,l.length,m,c,nn,z⟩,rfl,rfl,hs,fun y hy=>QK _ _ _ _ _ _ _ _ _ _ _ rfl rfl rfl (l,5,0) rfl rfl (Nat.le_refl _) hy.1 (h4.sub fun i hi=>(hy.2.2 i hi).trans (by rw[Nat.zero_add])) rfl rfl⟩
 ·
  refine Qi (q:=∃(s:CloS),[SA.c (.so 0 0 1 (List.length l) c nn)]=[SA.c (.so 0 s.1 1 s.2 s.4 s.5)]/\[SB.rows 3 [.int .i64] 1 m c z]=[SB.rows 3 [.int .i64] 1 s.3 s.4 s.6]/\(s.1+s.2<=s.3/\s.2<=1000)/\∀(x_1:CloR),(s.2<=x_1.1/\((match Nat.beq s.4 0 with|false=>false|true=>bif s.5 then false else true)=true->x_1.2=false/\x_1.1=0)/\∀(i:Nat),i<s.2->x_1.3 i 0=s.6 (s.1+i) 0)->s.2<=x_1.1/\bif (↑s.2:Int)==(0:Int)then endN (QI Xn) nzL rpL (LstS.mk l m c nn z (5:Int) key x) (SV.t [SA.c (.so 3 0 1 s.2 x_1.1 x_1.2),SA.a [sI 2,sI 0]]) [SB.rows 3 [.int .i64] 1 m c z,SB.cells [sI 5,sI key,sI x] 32,SB.cells [sI 2,sI 0] 40,SB.rows 3 [.int .i64] 1 s.2 x_1.1 x_1.3]else ((0:Int)<=(0:Int)/\(0:Int)<(↑s.2:Int)/\0+s.2<=x_1.1)/\0<s.2/\endN (QI Xn) nzL rpL (LstS.mk l m c nn z (5:Int) key x) (SV.t [SA.c (.so 3 0 1 s.2 x_1.1 x_1.2),SA.a [sI 1,sI (x_1.3 0 0)]]) [SB.rows 3 [.int .i64] 1 m c z,SB.cells [sI 5,sI key,sI x] 32,SB.cells [sI 1,sI (x_1.3 0 0)] 40,SB.rows 3 [.int .i64] 1 s.2 x_1.1 x_1.3]) (by kernel_rfl) ?_
  refine⟨⟨0,l.length,m,c,nn,z⟩,rfl,rfl,hs,fun y hy=>⟨hy.1,QY (fun h=>?_) (fun h=>?_)⟩⟩
  · have e:Xn l 5 x=(l,2,0):=by unfold Xn;rw[if_neg (by decide),if_pos (.inr rfl),if_pos (by dsimp only at h;omega)]
    exact QK _ _ _ _ _ _ _ _ _ _ _ rfl rfl rfl _ e rfl (Nat.le_refl _) hy.1 (h4.sub fun i hi=>(hy.2.2 i hi).trans (by rw[Nat.zero_add])) rfl rfl
  · dsimp only at h hy ⊢
    have hn:0<l.length:=by omega
    have e:Xn l 5 x=(l,1,hp l 0):=by unfold Xn;rw[if_neg (by decide),if_pos (.inr rfl),if_neg (by omega),if_pos rfl]
    exact⟨⟨by omega,by omega,by omega⟩,hn,QK _ _ _ _ _ _ _ _ _ _ _ rfl rfl rfl _ e rfl (Nat.le_refl _) hy.1 (h4.sub fun i hi=>(hy.2.2 i hi).trans (by rw[Nat.zero_add])) rfl ((hy.2.2 0 hn).trans ((congrArg (z · 0) (Nat.zero_add 0)).trans (h4 0 hn)))⟩
 ·
  refine Qi (q:=∃(s:CloS),[SA.c (.so 0 0 1 (List.length l) c nn)]=[SA.c (.so 0 s.1 1 s.2 s.4 s.5)]/\[SB.rows 3 [.int .i64] 1 m c z]=[SB.rows 3 [.int .i64] 1 s.3 s.4 s.6]/\(s.1+s.2<=s.3/\s.2<=1000)/\∀(x_1:CloR),(s.2<=x_1.1/\((match Nat.beq s.4 0 with|false=>false|true=>bif s.5 then false else true)=true->x_1.2=false/\x_1.1=0)/\∀(i:Nat),i<s.2->x_1.3 i 0=s.6 (s.1+i) 0)->s.2<=x_1.1/\endN (QI Xn) nzL rpL (LstS.mk l m c nn z (6:Int) key x) (SV.t [SA.c (.so 3 0 1 s.2 x_1.1 x_1.2),SA.a [sI 1,sI (↑s.2:Int)]]) [SB.rows 3 [.int .i64] 1 m c z,SB.cells [sI 6,sI key,sI x] 32,SB.cells [sI 1,sI (↑s.2:Int)] 40,SB.rows 3 [.int .i64] 1 s.2 x_1.1 x_1.3]) (by kernel_rfl) ?_
  exact⟨⟨0,l.length,m,c,nn,z⟩,rfl,rfl,hs,fun y hy=>⟨hy.1,QK _ _ _ _ _ _ _ _ _ _ _ rfl rfl rfl (l,1,(l.length:Int)) rfl rfl (Nat.le_refl _) hy.1 (h4.sub fun i hi=>(hy.2.2 i hi).trans (by rw[Nat.zero_add])) rfl rfl⟩⟩
abbrev Qcv (f:Nat->Int):SB:=.cells [.ints (.int .i64) 16 f] 161
def Qhk:PCon:=⟨fun args=>match args with
 |[.c (.v (.int .i64 k))]=>0<=k/\k<=1000
 |_=>False,fun args=>match args with
 |[.c (.v (.int .i64 k))]=>sv (.int .i64 (k*5%8))
 |_=>sv undef,fun _=>none⟩
theorem Qpc:(Con.pure Qhk).holds Tryz.prog 135:=by
 refine Qv (AG:=[]) (Γ:=[]) Tryz.func135 rfl (by kernel_rfl) Qg Qc (fun _=>GamOk.nil _ _ _) Qhk 200 ?_
 intro W args hp
 unfold Qhk at hp;dsimp only at hp;split at hp
 case h_2=>exact hp.elim
 rename_i k
 refine⟨rfl,?_⟩
 refine Qi (q:=(8:Int)≠(0:Int)/\SV.o (aI (Int.tmod (IntKind.wrap .i64 (k*(5:Int))) (8:Int)))=SV.o (aI (k*(5:Int)%(8:Int)))/\true=true) (by kernel_rfl) ?_
 exact⟨by decide,by rw[QH (by omega) (by omega),Int.tmod_eq_emod_of_nonneg (by omega)],rfl⟩
structure AtS where
 f:Nat->Int
 k:Int
def Qhm:MCon:=dcon AtS (fun s=>0<=s.k/\s.k<=1000) (fun s=>[.c (.p 0 0),.c (.v (.int .i64 s.k))]) (fun s=>[Qcv s.f])
 (fun s=>sv (.int .i64 (atI (toN 16 s.f) s.k))) (fun s=>[Qcv s.f]) 1 (fun args _=>some (blkA args))
structure AtG (s:AtS) where
 i:Nat
 hi:i<=8
 he:QfZ (toN 16 s.f) s.k (8-i) i=atI (toN 16 s.f) s.k
def Qqn (s:AtS):Ann where
 σ:=AtG s
 I g:=([(0,.o (.c (.p 0 0))),(1,sv (.int .i64 s.k)),(7,sv (.int .i64 g.i))],[Qcv s.f])
 dec g:=8-g.i
 pi _ _:=[0]
 nz:=[]
theorem QnY:(Con.mem Qhm).holds Tryz.prog 114:=by
 intro w0 S
 refine Qb (Γ:=[(135,.pure Qhk)]) (fun _=>noW) Tryz.func114 rfl (by kernel_rfl) Qg Qc (fun w S' _ _=>.cons (Qpc w S') (.nil _ _ _)) Qhm (fun s=>[(114,[(0,Qqn s)])]) (fun x0 h s x=>⟨rfl,trivial⟩) (fun s ρ w _ _ _=>Qh w _) [] (Qn 1) 400 ?_
 rintro⟨f,k⟩ w ⟨h0,h1⟩ -
 refine⟨rfl,?_⟩
 dsimp only at h0 h1
 refine Qi (q:=(∃(s0:Ann.σ (Qqn (AtS.mk f k))),(eS (aP 0 0) (aP 0 0)/\eS (aI k) (aI k)/\eS (aI 0) (aI ↑s0.1)/\True)/\[SB.cells [nI 16 f] 161]=[SB.cells [nI 16 f] 161])/\∀(s:AtG (AtS.mk f k)),bif decide ((↑s.1:Int)<(8:Int))then ((0:Int)<=k/\k<=(1000:Int))/\(8:Int)≠(0:Int)/\((0:Int)<=Int.tmod (IntKind.wrap .i64 (k*(5:Int)%(8:Int)+(↑s.1:Int))) (8:Int)/\Int.tmod (IntKind.wrap .i64 (k*(5:Int)%(8:Int)+(↑s.1:Int))) (8:Int)<(8:Int))/\0+Int.toNat (Int.tmod (IntKind.wrap .i64 (k*(5:Int)%(8:Int)+(↑s.1:Int))) (8:Int))+Int.toNat (Int.tmod (IntKind.wrap .i64 (k*(5:Int)%(8:Int)+(↑s.1:Int))) (8:Int))<16/\bif f (0+Int.toNat (Int.tmod (IntKind.wrap .i64 (k*(5:Int)%(8:Int)+(↑s.1:Int))) (8:Int))+Int.toNat (Int.tmod (IntKind.wrap .i64 (k*(5:Int)%(8:Int)+(↑s.1:Int))) (8:Int)))==k then endN Qhm [] (Qn 1) (AtS.mk f k) (SV.o (aI (Int.tmod (IntKind.wrap .i64 (k*(5:Int)%(8:Int)+(↑s.1:Int))) (8:Int)))) [SB.cells [nI 16 f] 161]else ((0:Int)<=Int.tmod (IntKind.wrap .i64 (k*(5:Int)%(8:Int)+(↑s.1:Int))) (8:Int)/\Int.tmod (IntKind.wrap .i64 (k*(5:Int)%(8:Int)+(↑s.1:Int))) (8:Int)<(8:Int))/\0+Int.toNat (Int.tmod (IntKind.wrap .i64 (k*(5:Int)%(8:Int)+(↑s.1:Int))) (8:Int))+Int.toNat (Int.tmod (IntKind.wrap .i64 (k*(5:Int)%(8:Int)+(↑s.1:Int))) (8:Int))<16/\bif f (0+Int.toNat (Int.tmod (IntKind.wrap .i64 (k*(5:Int)%(8:Int)+(↑s.1:Int))) (8:Int))+Int.toNat (Int.tmod (IntKind.wrap .i64 (k*(5:Int)%(8:Int)+(↑s.1:Int))) (8:Int)))==(0:Int)then endN Qhm [] (Qn 1) (AtS.mk f k) (SV.o (aI (Int.tmod (IntKind.wrap .i64 (k*(5:Int)%(8:Int)+(↑s.1:Int))) (8:Int)))) [SB.cells [nI 16 f] 161]else ∃(s':AtG (AtS.mk f k)),((eS (aP 0 0) (aP 0 0)/\eS (aI k) (aI k)/\eS (aI (IntKind.wrap .i64 ((↑s.1:Int)+(1:Int)))) (aI ↑s'.1)/\True)/\[SB.cells [nI 16 f] 161]=[SB.cells [nI 16 f] 161])/\8-s'.1<8-s.1 else endN Qhm [] (Qn 1) (AtS.mk f k) (SV.o (aI (-1:Int))) [SB.cells [nI 16 f] 161]) (by kernel_rfl) ?_
 refine⟨⟨⟨0,by omega,rfl⟩,⟨rfl,rfl,rfl,trivial⟩,rfl⟩,?_⟩
 rintro⟨i,hi,he⟩
 dsimp only at hi he ⊢
 have hend:∀a:Int,a=atI (toN 16 f) k->endN Qhm [] (Qn 1) ⟨f,k⟩ (sv (.int .i64 a)) [Qcv f]:=fun a h=>by subst h;exact⟨(),trivial,rfl,rfl⟩
 refine Qp (fun hlt=>?_) (fun hge=>hend _ ?_)
 · have es:Int.tmod (IntKind.wrap .i64 (k*5%8+(i:Int))) 8=((QX k i:Nat):Int):=by
    rw[QH (by omega) (by omega),Int.tmod_eq_emod_of_nonneg (by omega)];unfold QX;omega
   have hs:=QaJ k i
   have hf:f (0+QX k i+QX k i)=tk (toN 16 f) (QX k i):=by unfold tk;rw[Xa (by omega)];rfl
   rw[es,Int.toNat_natCast,hf]
   obtain⟨n,hn⟩:∃n,8-i=n+1:=⟨7-i,by omega⟩
   rw[hn]at he
   simp only[QfZ]at he
   refine⟨⟨h0,h1⟩,by decide,⟨by omega,by omega⟩,by omega,QY (fun h=>?_) (fun h=>⟨⟨by omega,by omega⟩,by omega,QY (fun h2=>?_) (fun h2=>?_)⟩)⟩
   · rw[if_pos ((hit_iff _ _ _).2 (.inl h))]at he;exact hend _ he
   · rw[if_pos ((hit_iff _ _ _).2 (.inr h2))]at he;exact hend _ he
   · rw[if_neg (by rw[(QeK _ _ _).2 ⟨h,h2⟩];decide)]at he
     exact⟨⟨i+1,by omega,by rw[show 8-(i+1)=n by omega];exact he⟩,⟨⟨rfl,rfl,svI (sucI (by omega)),trivial⟩,rfl⟩,by dsimp only;omega⟩
 · obtain rfl:i=8:=by omega
   rw[<- he];rfl
def Qey:PCon:=⟨fun args=>match args with
 |[.a [.ints (.int .i64) n f]]=>n=16
 |_=>False,fun args=>match args with
 |[.a [.ints (.int .i64) n f]]=>sv (.int .i64 (lenT (toN 16 f)))
 |_=>sv undef,fun _=>none⟩
structure LenG where
 i:Nat
 hi:i<=8
def Qqi (f:Nat->Int):Ann where
 σ:=LenG
 I g:=([(3,sv (.int .i64 (Qb1 (toN 16 f) g.i))),(6,.o (.a [.ints (.int .i64) 16 f])),(7,sv (.int .i64 g.i))],[])
 dec g:=8-g.i
 pi _ _:=[]
 nz:=[]
def agLen:List SA->List (Nat × Anns)
 |[.a [.ints (.int .i64) n f]]=>[(113,[(0,Qqi f)])]
 |_=>[]
theorem Qji:(Con.pure Qey).holds Tryz.prog 113:=by
 refine QF (Γ:=[]) Tryz.func113 rfl (by kernel_rfl) Qg Qc (fun _=>GamOk.nil _ _ _) Qey agLen 400 ?_
 intro W args hp
 unfold Qey at hp;dsimp only at hp;split at hp
 case h_2=>exact hp.elim
 rename_i n f
 subst hp
 refine⟨rfl,?_⟩
 refine Qi (q:=(∃(s0:Ann.σ (Qqi f)),(eS (aI 0) (aI (↑(Qb1 (toN 16 f) s0.1):Int))/\eS (SA.a [nI 16 f]) (SA.a [nI 16 f])/\eS (aI 0) (aI ↑s0.1)/\True)/\([]:List SB)=[])/\∀(s:LenG),bif decide ((↑s.1:Int)<(8:Int))then (iR (↑s.1:Int) (8:Int))/\bif f (0+Int.toNat (↑s.1:Int)+Int.toNat (↑s.1:Int)) != (0:Int)then ∃(s':LenG),((eS (aI (IntKind.wrap .i64 ((↑(Qb1 (toN 16 f) s.1):Int)+(1:Int)))) (aI (↑(Qb1 (toN 16 f) s'.1):Int))/\eS (SA.a [nI 16 f]) (SA.a [nI 16 f])/\eS (aI (IntKind.wrap .i64 ((↑s.1:Int)+(1:Int)))) (aI ↑s'.1)/\True)/\([]:List SB)=[])/\8-s'.1<8-s.1 else ∃(s':LenG),((eS (aI (↑(Qb1 (toN 16 f) s.1):Int)) (aI (↑(Qb1 (toN 16 f) s'.1):Int))/\eS (SA.a [nI 16 f]) (SA.a [nI 16 f])/\eS (aI (IntKind.wrap .i64 ((↑s.1:Int)+(1:Int)))) (aI ↑s'.1)/\True)/\([]:List SB)=[])/\8-s'.1<8-s.1 else endP Qey [SA.a [nI 16 f]] (SV.o (aI (↑(Qb1 (toN 16 f) s.1):Int))) []) (by kernel_rfl) ?_
 refine⟨⟨⟨0,by omega⟩,⟨rfl,rfl,rfl,trivial⟩,rfl⟩,?_⟩
 rintro⟨i,hi⟩
 dsimp only
 have hc:=QpE (toN 16 f) i
 refine Qp (fun hlt=>⟨⟨by omega,by omega⟩,?_⟩) (fun hge=>?_)
 · have hf:f (0+(i:Int).toNat+(i:Int).toNat)=tk (toN 16 f) i:=by unfold tk;rw[Xa (by omega)];rfl
   rw[hf]
   refine QG (fun h=>?_) (fun h=>?_)
   · exact⟨⟨i+1,by omega⟩,⟨⟨svI ((sucI (by omega)).trans (by simp only[Qb1];rw[if_neg h])),rfl,svI (sucI (by omega)),trivial⟩,rfl⟩,by dsimp only;omega⟩
   · exact⟨⟨i+1,by omega⟩,⟨⟨svI (by simp only[Qb1];rw[if_pos h];rfl),rfl,svI (sucI (by omega)),trivial⟩,rfl⟩,by dsimp only;omega⟩
 · obtain rfl:i=8:=by omega
   exact⟨rfl,fun ρ=>rfl⟩
def Xp:PCon:=⟨fun args=>match args with
 |[.a [.ints (.int .i64) n f]]=>n=16/\Good (toN 16 f)
 |_=>False,fun _=>sv (.bool true),fun _=>none⟩
def Qj9 (f:Nat->Int):Ann where
 σ:=LenG
 I g:=([(1,.o (.c (.p 0 0))),(8,.o (.a [.ints (.int .i64) 16 f])),(9,sv (.int .i64 g.i))],[Qcv f])
 dec g:=8-g.i
 pi _ _:=[0]
 nz:=[]
def Qrt:List SA->List (Nat × Anns)
 |[.a [.ints (.int .i64) n f]]=>[(112,[(0,Qj9 f)])]
 |_=>[]
theorem Qkf:(Con.pure Xp).holds Tryz.prog 112:=by
 refine QF (Γ:=[(113,.pure Qey),(114,.mem Qhm)]) Tryz.func112 rfl (by kernel_rfl) Qg Qc (fun W=>.cons (Qji W _) (.cons (QnY W _) (.nil _ _ _))) Xp Qrt 400 ?_
 intro W args hp
 unfold Xp at hp;dsimp only at hp;split at hp
 case h_2=>exact hp.elim
 rename_i n f
 obtain⟨rfl,hg⟩:=hp
 refine⟨rfl,?_⟩
 refine Qi (q:=16=16/\bif decide ((↑(lenT (toN 16 f)):Int)>(6:Int))then endP Xp [SA.a [nI 16 f]] (SV.o (aB false)) []else (∃(s0:Ann.σ (Qj9 f)),(eS (aP 0 0) (aP 0 0)/\eS (SA.a [nI 16 f]) (SA.a [nI 16 f])/\eS (aI 0) (aI ↑s0.1)/\True)/\[SB.cells [nI 16 f] 161]=[SB.cells [nI 16 f] 161])/\∀(s:LenG),bif decide ((↑s.1:Int)<(8:Int))then (iR (↑s.1:Int) (8:Int))/\bif decide (f (0+Int.toNat (↑s.1:Int)+Int.toNat (↑s.1:Int))<(0:Int))then endP Xp [SA.a [nI 16 f]] (SV.o (aB false)) []else bif decide (f (0+Int.toNat (↑s.1:Int)+Int.toNat (↑s.1:Int))>(1000:Int))then endP Xp [SA.a [nI 16 f]] (SV.o (aB false)) []else bif decide (f (0+Int.toNat (↑s.1:Int)+Int.toNat (↑s.1:Int)+1)<(0:Int))then endP Xp [SA.a [nI 16 f]] (SV.o (aB false)) []else bif decide (f (0+Int.toNat (↑s.1:Int)+Int.toNat (↑s.1:Int)+1)>(4294967295:Int))then endP Xp [SA.a [nI 16 f]] (SV.o (aB false)) []else bif f (0+Int.toNat (↑s.1:Int)+Int.toNat (↑s.1:Int))==(0:Int)then bif f (0+Int.toNat (↑s.1:Int)+Int.toNat (↑s.1:Int)+1) != (0:Int)then endP Xp [SA.a [nI 16 f]] (SV.o (aB false)) []else bif f (0+Int.toNat (↑s.1:Int)+Int.toNat (↑s.1:Int)) != (0:Int)then ∃(s_1:AtS),[aP 0 0,aI (f (0+Int.toNat (↑s.1:Int)+Int.toNat (↑s.1:Int)))]=[aP 0 0,aI s_1.2]/\[SB.cells [nI 16 f] 161]=[SB.cells [nI 16 s_1.1] 161]/\((0:Int)<=s_1.2/\s_1.2<=(1000:Int))/\∀(x:Unit),True->bif atI (toN 16 s_1.1) s_1.2 != (↑s.1:Int)then endP Xp [SA.a [nI 16 f]] (SV.o (aB false)) []else ∃(s':LenG),((eS (aP 0 0) (aP 0 0)/\eS (SA.a [nI 16 f]) (SA.a [nI 16 f])/\eS (aI (IntKind.wrap .i64 ((↑s.1:Int)+(1:Int)))) (aI ↑s'.1)/\True)/\[SB.cells [nI 16 s_1.1] 161]=[SB.cells [nI 16 f] 161])/\8-s'.1<8-s.1 else ∃(s':LenG),((eS (aP 0 0) (aP 0 0)/\eS (SA.a [nI 16 f]) (SA.a [nI 16 f])/\eS (aI (IntKind.wrap .i64 ((↑s.1:Int)+(1:Int)))) (aI ↑s'.1)/\True)/\[SB.cells [nI 16 f] 161]=[SB.cells [nI 16 f] 161])/\8-s'.1<8-s.1 else bif f (0+Int.toNat (↑s.1:Int)+Int.toNat (↑s.1:Int)) != (0:Int)then ∃(s_1:AtS),[aP 0 0,aI (f (0+Int.toNat (↑s.1:Int)+Int.toNat (↑s.1:Int)))]=[aP 0 0,aI s_1.2]/\[SB.cells [nI 16 f] 161]=[SB.cells [nI 16 s_1.1] 161]/\((0:Int)<=s_1.2/\s_1.2<=(1000:Int))/\∀(x:Unit),True->bif atI (toN 16 s_1.1) s_1.2 != (↑s.1:Int)then endP Xp [SA.a [nI 16 f]] (SV.o (aB false)) []else ∃(s':LenG),((eS (aP 0 0) (aP 0 0)/\eS (SA.a [nI 16 f]) (SA.a [nI 16 f])/\eS (aI (IntKind.wrap .i64 ((↑s.1:Int)+(1:Int)))) (aI ↑s'.1)/\True)/\[SB.cells [nI 16 s_1.1] 161]=[SB.cells [nI 16 f] 161])/\8-s'.1<8-s.1 else ∃(s':LenG),((eS (aP 0 0) (aP 0 0)/\eS (SA.a [nI 16 f]) (SA.a [nI 16 f])/\eS (aI (IntKind.wrap .i64 ((↑s.1:Int)+(1:Int)))) (aI ↑s'.1)/\True)/\[SB.cells [nI 16 f] 161]=[SB.cells [nI 16 f] 161])/\8-s'.1<8-s.1 else endP Xp [SA.a [nI 16 f]] (SV.o (aB true)) []) (by kernel_rfl) ?_
 refine⟨rfl,Qp (fun h=>absurd hg.few (by omega)) (fun _=>⟨⟨⟨0,by omega⟩,⟨rfl,rfl,rfl,trivial⟩,rfl⟩,?_⟩)⟩
 rintro⟨i,hi⟩
 dsimp only
 refine Qp (fun hlt=>⟨⟨by omega,by omega⟩,?_⟩) (fun _=>⟨rfl,fun ρ=>rfl⟩)
 have hi8:i<8:=by omega
 have hk:f (0+(i:Int).toNat+(i:Int).toNat)=tk (toN 16 f) i:=by unfold tk;rw[Xa (by omega)];rfl
 have hv:f (0+(i:Int).toNat+(i:Int).toNat+1)=tv (toN 16 f) i:=by unfold tv;rw[Xa (by omega)];rfl
 have k0:=hg.key0 i hi8
 have k1:=hg.key1 i hi8
 have v0:=hg.val0 i hi8
 have v1:=hg.val1 i hi8
 have hnext:∀(M:List SB),M=[Qcv f]->∃s':LenG,((some (SV.o (SA.c (.p 0 0)))=some (SV.o (SA.c (.p 0 0)))/\some (SV.o (SA.a [.ints (.int .i64) 16 f]))=some (SV.o (SA.a [.ints (.int .i64) 16 f]))/\some (sv (.int .i64 (IntKind.wrap .i64 ((i:Int)+1))))=some (sv (.int .i64 s'.i))/\True)/\M=[Qcv f])/\8-s'.i<8-i:=
  fun M hM=>⟨⟨i+1,by omega⟩,⟨⟨rfl,rfl,svI (sucI (by omega)),trivial⟩,hM⟩,by dsimp only;omega⟩
 refine Qp (fun h=>absurd h (by omega)) (fun _=>Qp (fun h=>absurd h (by omega)) (fun _=>Qp (fun h=>absurd h (by omega)) (fun _=>Qp (fun h=>absurd h (by omega)) (fun _=>QY (fun h=>?_) (fun h=>?_)))))
 · refine QG (fun h2=>absurd ?_ h2) (fun _=>QG (fun h3=>absurd h h3) (fun _=>hnext _ rfl))
   rw[hv];exact hg.none i hi8 (by rw[<- hk];exact h)
 · refine QG (fun _=>⟨⟨f,_⟩,rfl,rfl,⟨by rw[hk];exact k0,by rw[hk];exact k1⟩,fun _ _=>?_⟩) (fun h3=>absurd h3 h)
   refine QG (fun h4=>absurd ?_ h4) (fun _=>hnext _ rfl)
   dsimp only
   rw[hk];exact hg.found i hi8 (by rw[<- hk];exact h)
def QcG:PCon:=⟨fun args=>match args with
 |[.a [.ints (.int .i64) n f],.c (.v (.int .i64 i))]=>n=16/\Good (toN 16 f)/\0<=i/\i<8/\tk (toN 16 f) i.toNat≠0
 |_=>False,fun args=>match args with
 |[.a [.ints (.int .i64) n f],.c (.v (.int .i64 i))]=>.o (.a [.ints (.int .i64) 16 (fL (QeQ (toN 16 f) i.toNat))])
 |_=>sv undef,fun _=>none⟩
structure CloG (t:List Int) (i:Nat) where
 n:Nat
 f:Nat->Int
 hn:n<XM t i
 hf:toN 16 f=QkY t i n
def Qiw (t:List Int) (i:Nat):Ann where
 σ:=CloG t i
 I g:=([(2,.o (.c (.p 0 0))),(4,.o (.c (.p 1 0))),(5,sv (.int .i64 (((i+1+g.n)%8:Nat):Int)))],[Qcv g.f,Qcv (fun _=>0)])
 dec g:=XM t i-g.n
 pi _ _:=[0,1]
 nz:=[]
def QpZ:List SA->List (Nat × Anns)
 |[.a [.ints (.int .i64) n f],.c (.v (.int .i64 i))]=>[(115,[(0,Qiw (toN 16 f) i.toNat)])]
 |_=>[]
theorem Qjf (f:Nat->Int) (i j:Nat) (a b:Int):
 (bif (match Nat.ble (0+i+i) j with|false=>false|true=>Nat.ble j (0+i+i+1))then (match List.get?Internal [a,b] (j-(0+i+i))with|some x=>x|none=>(0:Int))else f j)=if j=i*2+1 then b else if j=i*2 then a else f j:=by
 by_cases h1:j=i*2+1
 · subst h1
   rw[show Nat.ble (0+i+i) (i*2+1)=true from Qim (by omega),show Nat.ble (i*2+1) (0+i+i+1)=true from Qim (by omega),if_pos rfl,show i*2+1-(0+i+i)=1 by omega];rfl
 · rw[if_neg h1]
   by_cases h2:j=i*2
   · subst h2
     rw[show Nat.ble (0+i+i) (i*2)=true from Qim (by omega),show Nat.ble (i*2) (0+i+i+1)=true from Qim (by omega),if_pos rfl,show i*2-(0+i+i)=0 by omega];rfl
   · rw[if_neg h2]
     by_cases h3:0+i+i<=j
     · rw[show Nat.ble (0+i+i) j=true from Qim h3,show Nat.ble j (0+i+i+1)=false from QnU (by omega)];rfl
     · rw[show Nat.ble (0+i+i) j=false from QnU (by omega)];rfl
theorem QeY (f:Nat->Int) (i:Nat) (a b:Int) (h:i<8):
 toN 16 (fun j=>bif (match Nat.ble (0+i+i) j with|false=>false|true=>Nat.ble j (0+i+i+1))then (match List.get?Internal [a,b] (j-(0+i+i))with|some x=>x|none=>(0:Int))else f j)=setS (toN 16 f) i a b:=by
 unfold setS
 rw[QiB,QiB]
 exact QdB fun j hj=>Qjf f i j a b
theorem Qlz:(Con.pure QcG).holds Tryz.prog 115:=by
 refine QF (Γ:=[(114,.mem Qhm)]) Tryz.func115 rfl (by kernel_rfl) Qg Qc (fun W=>.cons (QnY W _) (.nil _ _ _)) QcG QpZ 400 ?_
 intro W args hp
 unfold QcG at hp;dsimp only at hp;split at hp
 case h_2=>exact hp.elim
 rename_i n f i
 obtain⟨rfl,hg,h0,h8,hk⟩:=hp
 refine⟨rfl,?_⟩
 refine Qi (q:=(iR i (8:Int))/\0+Int.toNat i+Int.toNat i+1+1<=16/\(8:Int)≠(0:Int)/\(∃(s0:Ann.σ (Qiw (toN 16 f) (Int.toNat i))),(eS (aP 0 0) (aP 0 0)/\eS (aP 1 0) (aP 1 0)/\eS (aI (Int.tmod (IntKind.wrap .i64 (i+(1:Int))) (8:Int))) (aI (↑((Int.toNat i+1+s0.1)%8):Int))/\True)/\[SB.cells [nI 16 fun (j:Nat)=>bif match Nat.ble (0+Int.toNat i+Int.toNat i) j with|false=>false|true=>Nat.ble j (0+Int.toNat i+Int.toNat i+1)then match List.get?Internal [(0:Int),(0:Int)] (j-(0+Int.toNat i+Int.toNat i))with|some x=>x|none=>(0:Int)else f j] 161,SB.cells [nI 16 zF] 161]=[SB.cells [nI 16 s0.2] 161,SB.cells [nI 16 zF] 161])/\∀(s:CloG (toN 16 f) (Int.toNat i)),((0:Int)<=(↑((Int.toNat i+1+s.1)%8):Int)/\(↑((Int.toNat i+1+s.1)%8):Int)<(8:Int))/\0+Int.toNat (↑((Int.toNat i+1+s.1)%8):Int)+Int.toNat (↑((Int.toNat i+1+s.1)%8):Int)<16/\bif s.2 (0+Int.toNat (↑((Int.toNat i+1+s.1)%8):Int)+Int.toNat (↑((Int.toNat i+1+s.1)%8):Int)) != (0:Int)then ((0:Int)<=(↑((Int.toNat i+1+s.1)%8):Int)/\(↑((Int.toNat i+1+s.1)%8):Int)<(8:Int))/\0+Int.toNat (↑((Int.toNat i+1+s.1)%8):Int)+Int.toNat (↑((Int.toNat i+1+s.1)%8):Int)+1+1<=16/\((0:Int)<=(↑((Int.toNat i+1+s.1)%8):Int)/\(↑((Int.toNat i+1+s.1)%8):Int)<(8:Int))/\0+Int.toNat (↑((Int.toNat i+1+s.1)%8):Int)+Int.toNat (↑((Int.toNat i+1+s.1)%8):Int)+1+1<=16/\∃(s_1:AtS),[aP 0 0,aI (s.2 (0+Int.toNat (↑((Int.toNat i+1+s.1)%8):Int)+Int.toNat (↑((Int.toNat i+1+s.1)%8):Int)))]=[aP 0 0,aI s_1.2]/\[SB.cells [nI 16 fun (j:Nat)=>bif match Nat.ble (0+Int.toNat (↑((Int.toNat i+1+s.1)%8):Int)+Int.toNat (↑((Int.toNat i+1+s.1)%8):Int)) j with|false=>false|true=>Nat.ble j (0+Int.toNat (↑((Int.toNat i+1+s.1)%8):Int)+Int.toNat (↑((Int.toNat i+1+s.1)%8):Int)+1)then match List.get?Internal [(0:Int),(0:Int)] (j-(0+Int.toNat (↑((Int.toNat i+1+s.1)%8):Int)+Int.toNat (↑((Int.toNat i+1+s.1)%8):Int)))with|some x=>x|none=>(0:Int)else s.2 j] 161]=[SB.cells [nI 16 s_1.1] 161]/\((0:Int)<=s_1.2/\s_1.2<=(1000:Int))/\∀(x:Unit),True->((0:Int)<=atI (toN 16 s_1.1) s_1.2/\atI (toN 16 s_1.1) s_1.2<(8:Int))/\0+Int.toNat (atI (toN 16 s_1.1) s_1.2)+Int.toNat (atI (toN 16 s_1.1) s_1.2)+1+1<=16/\dP Tryz.f115 7 3 [⟨5,[],[0],[],false⟩,xF 4 0,xR 3 2,⟨2,[],[0],[],false⟩,xR 1 2,xF 0 2]/\(8:Int)≠(0:Int)/\∃(s':CloG (toN 16 f) (Int.toNat i)),((eS (aP 0 0) (aP 0 0)/\eS (aP 1 0) (aP 1 0)/\eS (aI (Int.tmod (IntKind.wrap .i64 ((↑((Int.toNat i+1+s.1)%8):Int)+(1:Int))) (8:Int))) (aI (↑((Int.toNat i+1+s'.1)%8):Int))/\True)/\[SB.cells [nI 16 fun (j:Nat)=>bif match Nat.ble (0+Int.toNat (atI (toN 16 s_1.1) s_1.2)+Int.toNat (atI (toN 16 s_1.1) s_1.2)) j with|false=>false|true=>Nat.ble j (0+Int.toNat (atI (toN 16 s_1.1) s_1.2)+Int.toNat (atI (toN 16 s_1.1) s_1.2)+1)then match List.get?Internal [s.2 (0+Int.toNat (↑((Int.toNat i+1+s.1)%8):Int)+Int.toNat (↑((Int.toNat i+1+s.1)%8):Int)),s.2 (0+Int.toNat (↑((Int.toNat i+1+s.1)%8):Int)+Int.toNat (↑((Int.toNat i+1+s.1)%8):Int)+1)] (j-(0+Int.toNat (atI (toN 16 s_1.1) s_1.2)+Int.toNat (atI (toN 16 s_1.1) s_1.2)))with|some x=>x|none=>(0:Int)else s_1.1 j] 161,SB.cells [nI 16 zF] 161]=[SB.cells [nI 16 s'.2] 161,SB.cells [nI 16 zF] 161])/\XM (toN 16 f) (Int.toNat i)-s'.1<XM (toN 16 f) (Int.toNat i)-s.1 else endP QcG [SA.a [nI 16 f],aI i] (SV.o (SA.a [nI 16 s.2])) []) (by kernel_rfl) ?_
 obtain⟨n0,rfl⟩:=Int.eq_ofNat_of_zero_le h0
 rw[Int.toNat_natCast]at hk ⊢
 have hn8:n0<8:=by omega
 obtain⟨E1,E7,hrun,hstop⟩:=Qcj hg n0 hn8 hk
 refine⟨⟨by omega,by omega⟩,by omega,by decide,⟨⟨0,_,by omega,?_⟩,⟨rfl,rfl,svI ?_,trivial⟩,rfl⟩,?_⟩
 · exact QeY _ n0 0 0 hn8
 · dsimp only;rw[sucI (by omega),Int.tmod_eq_emod_of_nonneg (by omega)];omega
 rintro⟨n,g,hn,hgt⟩
 dsimp only at hn hgt ⊢
 have hI:=QfI hg n0 hn8 hk n hn
 rw[<- hgt]at hI
 have hj:(n0+1+n)%8<8:=Nat.mod_lt _ (by decide)
 have hq:tk (toN 16 g) ((n0+(n+1))%8)=tk (toN 16 g) ((n0+1+n)%8):=by congr 2;omega
 have hst:(toN 16 g)=QkY (toN 16 f) n0 n:=hgt
 generalize hm:(n0+1+n)%8=q at *
 rw[Int.toNat_natCast]
 have gk:g (0+q+q)=tk (toN 16 g) q:=by unfold tk;rw[Xa (by omega)];rfl
 have gv:g (0+q+q+1)=tv (toN 16 g) q:=by unfold tv;rw[Xa (by omega)];rfl
 have k0:=hI.key0 q hj
 have k1:=hI.key1 q hj
 refine⟨⟨by omega,by omega⟩,by omega,QG (fun h=>?_) (fun h=>?_)⟩
 · have hne:n+1<XM (toN 16 f) n0:=by
    rcases Nat.lt_or_ge (n+1) (XM (toN 16 f) n0)with h1|h1
    · exact h1
    · exfalso;apply h
      rw[gk,<- hq,show n+1=XM (toN 16 f) n0 by omega];exact hI.stop
   have hU:=QeY g q 0 0 hj
   have hat:=(Qjn hI hn8 hne E7)
   rw[hm]at hat
   obtain⟨a,ha,hae,-⟩:=hat
   refine⟨⟨by omega,by omega⟩,by omega,⟨by omega,by omega⟩,by omega,⟨_,_⟩,rfl,rfl,⟨by rw[gk];exact k0,by rw[gk];exact k1⟩,fun _ _=>?_⟩
   dsimp only[cond]at hU ⊢
   rw[hU,gk,hae,Int.toNat_natCast,gv]
   refine⟨⟨by omega,by omega⟩,by omega,Qf (by kernel_rfl),by decide,⟨n+1,_,hne,?_⟩,⟨⟨rfl,rfl,svI ?_,trivial⟩,rfl⟩,by dsimp only;omega⟩
   · refine (QeY _ a _ _ ha).trans ?_
     rw[hU]
     simp only[QkY]
     rw[<- hst,hm]
     unfold Qol
     rw[hae];rfl
   · dsimp only;rw[sucI (by omega),Int.tmod_eq_emod_of_nonneg (by omega)];omega
 · have hne:n+1=XM (toN 16 f) n0:=by
    rcases Nat.lt_or_ge (n+1) (XM (toN 16 f) n0)with h1|h1
    · exact absurd (hq.trans (gk.symm.trans h)) (hI.run (n+1) (by omega) h1)
    · omega
   refine⟨rfl,fun ρ=>QaC fun i hi=>?_⟩
   dsimp only[Int.toNat_natCast]
   rw[show QeQ (toN 16 f) n0=toN 16 g by rw[hst];unfold QeQ;rw[<- hne];rfl,QeM hi]
def Xu:PCon:=⟨fun args=>match args with
 |[.a [.ints (.int .i64) n f],.a [.one (.v (.int .i64 k)),.one (.v (.int .i64 key)),.one (.v (.int .i64 x))]]=>n=16/\Good (toN 16 f)/\opOk k key x=true
 |_=>False,fun args=>match args with
 |[.a [.ints (.int .i64) n f],.a [.one (.v (.int .i64 k)),.one (.v (.int .i64 key)),.one (.v (.int .i64 x))]]=>
  .t [.a [.ints (.int .i64) 16 (fL (doT (toN 16 f) k key x).1)],ansA (doT (toN 16 f) k key x).2.1 (doT (toN 16 f) k key x).2.2]
 |_=>sv undef,fun _=>none⟩
theorem Qav (f f':Nat->Int) (k key x c v:Int) (M:List SB) (h:doT (toN 16 f) k key x=(toN 16 f',c,v)):endP Xu [.a [.ints (.int .i64) 16 f],opA k key x] (.t [.a [.ints (.int .i64) 16 f'],ansA c v]) M:=by
 refine⟨rfl,fun ρ=>?_⟩
 simp only[PCon.out,Xu,SV.den,List.map_cons,List.map_nil]
 rw[h,QaC (f:=f') (g:=fL (toN 16 f')) (fun i hi=>(QeM hi).symm)]
theorem Qqw:(Con.pure Xu).holds Tryz.prog 81:=by
 refine QF (Γ:=[(113,.pure Qey),(114,.mem Qhm),(115,.pure QcG)]) Tryz.func81 rfl (by kernel_rfl) Qg Qc (fun W=>.cons (Qji W _) (.cons (QnY W _) (.cons (Qlz W _) (.nil _ _ _)))) Xu (fun _=>[]) 600 ?_
 intro W args hp
 unfold Xu at hp;dsimp only at hp;split at hp
 case h_2=>exact hp.elim
 rename_i n f k key x
 obtain⟨rfl,hg,ho⟩:=hp
 refine⟨rfl,?_⟩
 have ho:=of_decide_eq_true ho
 have hk:k=1\/k=2\/k=3\/k=4\/k=5\/k=6:=by omega
 rcases hk with rfl|rfl|rfl|rfl|rfl|rfl
 ·
  refine Qi (q:=bif decide (key<(1:Int))then endP Xu [SA.a [nI 16 f],SA.a [sI 1,sI key,sI x]] (SV.t [SA.a [nI 16 f],SA.a [sI 5,sI 0]]) []else bif decide (key>(1000:Int))then endP Xu [SA.a [nI 16 f],SA.a [sI 1,sI key,sI x]] (SV.t [SA.a [nI 16 f],SA.a [sI 5,sI 0]]) []else ∃(s:AtS),[aP 0 0,aI key]=[aP 0 0,aI s.2]/\[SB.cells [nI 16 f] 161]=[SB.cells [nI 16 s.1] 161]/\((0:Int)<=s.2/\s.2<=(1000:Int))/\∀(x_1:Unit),True->bif decide (atI (toN 16 s.1) s.2>=(0:Int))then ((0:Int)<=atI (toN 16 s.1) s.2/\atI (toN 16 s.1) s.2<(8:Int))/\0+Int.toNat (atI (toN 16 s.1) s.2)+Int.toNat (atI (toN 16 s.1) s.2)<16/\dP Tryz.f81 6 4 [xE 11,xE 10,xE 9,xR 8 1,xF 7 1,xR 6 0,xF 5 0,xF 4 0,xE 3,xE 2,xE 1,xE 0]/\bif bif s.1 (0+Int.toNat (atI (toN 16 s.1) s.2)+Int.toNat (atI (toN 16 s.1) s.2))==key then false else true then 16=16/\bif decide ((↑(lenT (toN 16 s.1)):Int)>=(6:Int))then endP Xu [SA.a [nI 16 f],SA.a [sI 1,sI key,sI x]] (SV.t [SA.a [nI 16 s.1],SA.a [sI 3,sI 0]]) []else ((0:Int)<=atI (toN 16 s.1) s.2/\atI (toN 16 s.1) s.2<(8:Int))/\0+Int.toNat (atI (toN 16 s.1) s.2)+Int.toNat (atI (toN 16 s.1) s.2)+1+1<=16/\endP Xu [SA.a [nI 16 f],SA.a [sI 1,sI key,sI x]] (SV.t [SA.a [nI 16 fun (j:Nat)=>bif match Nat.ble (0+Int.toNat (atI (toN 16 s.1) s.2)+Int.toNat (atI (toN 16 s.1) s.2)) j with|false=>false|true=>Nat.ble j (0+Int.toNat (atI (toN 16 s.1) s.2)+Int.toNat (atI (toN 16 s.1) s.2)+1)then match List.get?Internal [key,x] (j-(0+Int.toNat (atI (toN 16 s.1) s.2)+Int.toNat (atI (toN 16 s.1) s.2)))with|some x=>x|none=>(0:Int)else s.1 j],SA.a [sI 1,sI 0]]) []else ((0:Int)<=atI (toN 16 s.1) s.2/\atI (toN 16 s.1) s.2<(8:Int))/\0+Int.toNat (atI (toN 16 s.1) s.2)+Int.toNat (atI (toN 16 s.1) s.2)+1+1<=16/\endP Xu [SA.a [nI 16 f],SA.a [sI 1,sI key,sI x]] (SV.t [SA.a [nI 16 fun (j:Nat)=>bif match Nat.ble (0+Int.toNat (atI (toN 16 s.1) s.2)+Int.toNat (atI (toN 16 s.1) s.2)) j with|false=>false|true=>Nat.ble j (0+Int.toNat (atI (toN 16 s.1) s.2)+Int.toNat (atI (toN 16 s.1) s.2)+1)then match List.get?Internal [key,x] (j-(0+Int.toNat (atI (toN 16 s.1) s.2)+Int.toNat (atI (toN 16 s.1) s.2)))with|some x=>x|none=>(0:Int)else s.1 j],SA.a [sI 1,sI 0]]) []else dP Tryz.f81 6 4 [xE 11,xE 10,xE 9,xE 8,xE 7,xE 6,xE 5,xE 4,xE 3,xE 2,xE 1,xE 0]/\16=16/\bif decide ((↑(lenT (toN 16 s.1)):Int)>=(6:Int))then endP Xu [SA.a [nI 16 f],SA.a [sI 1,sI key,sI x]] (SV.t [SA.a [nI 16 s.1],SA.a [sI 3,sI 0]]) []else ((0:Int)<=atI (toN 16 s.1) s.2/\atI (toN 16 s.1) s.2<(8:Int))/\0+Int.toNat (atI (toN 16 s.1) s.2)+Int.toNat (atI (toN 16 s.1) s.2)+1+1<=16/\endP Xu [SA.a [nI 16 f],SA.a [sI 1,sI key,sI x]] (SV.t [SA.a [nI 16 fun (j:Nat)=>bif match Nat.ble (0+Int.toNat (atI (toN 16 s.1) s.2)+Int.toNat (atI (toN 16 s.1) s.2)) j with|false=>false|true=>Nat.ble j (0+Int.toNat (atI (toN 16 s.1) s.2)+Int.toNat (atI (toN 16 s.1) s.2)+1)then match List.get?Internal [key,x] (j-(0+Int.toNat (atI (toN 16 s.1) s.2)+Int.toNat (atI (toN 16 s.1) s.2)))with|some x=>x|none=>(0:Int)else s.1 j],SA.a [sI 1,sI 0]]) []) (by kernel_rfl) ?_
  refine Qp (fun h=>Qav _ _ _ _ _ _ _ _ (by unfold doT;rw[if_neg (by decide),if_pos (.inr (.inl h))])) (fun h1=>Qp (fun h=>absurd h (by omega)) (fun h2=>?_))
  have hw:¬(((1:Int)≠1/\(1:Int)≠2/\(1:Int)≠5)\/key<1\/1000<key):=by omega
  obtain⟨i,hi,hai,-,-⟩:=hg.at key
  have fk:f (0+i+i)=tk (toN 16 f) i:=by unfold tk;rw[Xa (by omega)];rfl
  have fv:f (0+i+i+1)=tv (toN 16 f) i:=by unfold tv;rw[Xa (by omega)];rfl
  have hth:thereB (toN 16 f) key=(tk (toN 16 f) i==key):=by unfold thereB;rw[hai,decide_eq_true (by omega),Int.toNat_natCast];rfl
  refine⟨⟨f,key⟩,rfl,rfl,⟨ho.2.2.1,ho.2.2.2.1⟩,fun _ _=>?_⟩
  dsimp only
  rw[hai,Int.toNat_natCast,fk]
  refine Qp (fun _=>⟨⟨by omega,by omega⟩,by omega,Qf (by kernel_rfl),?_⟩) (fun h=>absurd h (by omega))
  have hput (h:¬(thereB (toN 16 f) key=false/\6<=lenT (toN 16 f))):doT (toN 16 f) 1 key x=(setS (toN 16 f) i key x,1,0):=by
   unfold doT;rw[if_neg (by decide),if_neg hw,if_pos rfl,if_neg h,hai];rfl
  have hU:=QeY f i key x hi
  refine Qii (fun h=>⟨rfl,Qp (fun h6=>Qav _ _ _ _ _ _ _ _ ?_) (fun h6=>⟨⟨by omega,by omega⟩,by omega,Qav _ _ _ _ _ _ _ _ ?_⟩)⟩) (fun h=>⟨⟨by omega,by omega⟩,by omega,Qav _ _ _ _ _ _ _ _ ?_⟩)
  · have ht:thereB (toN 16 f) key=false:=by rw[hth];exact beq_eq_false_iff_ne.2 h
    unfold doT;rw[if_neg (by decide),if_neg hw,if_pos rfl,if_pos ⟨ht,by omega⟩]
  · rw[hput (fun hh=>by omega)];exact congrArg (·,1,0) hU.symm
  · rw[hput (fun hh=>by rw[hth]at hh;exact absurd h (beq_eq_false_iff_ne.1 hh.1))];exact congrArg (·,1,0) hU.symm
 ·
  refine Qi (q:=bif decide (key<(1:Int))then endP Xu [SA.a [nI 16 f],SA.a [sI 2,sI key,sI x]] (SV.t [SA.a [nI 16 f],SA.a [sI 5,sI 0]]) []else bif decide (key>(1000:Int))then endP Xu [SA.a [nI 16 f],SA.a [sI 2,sI key,sI x]] (SV.t [SA.a [nI 16 f],SA.a [sI 5,sI 0]]) []else ∃(s:AtS),[aP 0 0,aI key]=[aP 0 0,aI s.2]/\[SB.cells [nI 16 f] 161]=[SB.cells [nI 16 s.1] 161]/\((0:Int)<=s.2/\s.2<=(1000:Int))/\∀(x_1:Unit),True->bif decide (atI (toN 16 s.1) s.2>=(0:Int))then ((0:Int)<=atI (toN 16 s.1) s.2/\atI (toN 16 s.1) s.2<(8:Int))/\0+Int.toNat (atI (toN 16 s.1) s.2)+Int.toNat (atI (toN 16 s.1) s.2)<16/\dP Tryz.f81 6 4 [xE 11,xE 10,xE 9,xR 8 1,xF 7 1,xR 6 0,xF 5 0,xF 4 0,xE 3,xE 2,xE 1,xE 0]/\bif bif s.1 (0+Int.toNat (atI (toN 16 s.1) s.2)+Int.toNat (atI (toN 16 s.1) s.2))==key then false else true then endP Xu [SA.a [nI 16 f],SA.a [sI 2,sI key,sI x]] (SV.t [SA.a [nI 16 s.1],SA.a [sI 4,sI 0]]) []else ((0:Int)<=atI (toN 16 s.1) s.2/\atI (toN 16 s.1) s.2<(8:Int))/\0+Int.toNat (atI (toN 16 s.1) s.2)+Int.toNat (atI (toN 16 s.1) s.2)+1<16/\(16=16/\Good (toN 16 s.1)/\(0:Int)<=atI (toN 16 s.1) s.2/\atI (toN 16 s.1) s.2<(8:Int)/\tk (toN 16 s.1) (Int.toNat (atI (toN 16 s.1) s.2))≠(0:Int))/\endP Xu [SA.a [nI 16 f],SA.a [sI 2,sI key,sI x]] (SV.t [SA.a [nI 16 (fL (QeQ (toN 16 s.1) (Int.toNat (atI (toN 16 s.1) s.2))))],SA.a [sI 1,sI (s.1 (0+Int.toNat (atI (toN 16 s.1) s.2)+Int.toNat (atI (toN 16 s.1) s.2)+1))]]) []else dP Tryz.f81 6 4 [xE 11,xE 10,xE 9,xE 8,xE 7,xE 6,xE 5,xE 4,xE 3,xE 2,xE 1,xE 0]/\endP Xu [SA.a [nI 16 f],SA.a [sI 2,sI key,sI x]] (SV.t [SA.a [nI 16 s.1],SA.a [sI 4,sI 0]]) []) (by kernel_rfl) ?_
  refine Qp (fun h=>Qav _ _ _ _ _ _ _ _ (by unfold doT;rw[if_neg (by decide),if_pos (.inr (.inl h))])) (fun h1=>Qp (fun h=>absurd h (by omega)) (fun h2=>?_))
  have hw:¬(((2:Int)≠1/\(2:Int)≠2/\(2:Int)≠5)\/key<1\/1000<key):=by omega
  obtain⟨i,hi,hai,-,-⟩:=hg.at key
  have fk:f (0+i+i)=tk (toN 16 f) i:=by unfold tk;rw[Xa (by omega)];rfl
  have fv:f (0+i+i+1)=tv (toN 16 f) i:=by unfold tv;rw[Xa (by omega)];rfl
  have hth:thereB (toN 16 f) key=(tk (toN 16 f) i==key):=by unfold thereB;rw[hai,decide_eq_true (by omega),Int.toNat_natCast];rfl
  refine⟨⟨f,key⟩,rfl,rfl,⟨ho.2.2.1,ho.2.2.2.1⟩,fun _ _=>?_⟩
  dsimp only
  rw[hai,Int.toNat_natCast,fk]
  refine Qp (fun _=>⟨⟨by omega,by omega⟩,by omega,Qf (by kernel_rfl),?_⟩) (fun h=>absurd h (by omega))
  refine Qii (fun h=>Qav _ _ _ _ _ _ _ _ ?_) (fun h=>⟨⟨by omega,by omega⟩,by omega,⟨rfl,hg,by omega,by omega,by rw[h];omega⟩,Qav _ _ _ _ _ _ _ _ ?_⟩)
  · have ht:thereB (toN 16 f) key=false:=by rw[hth];exact beq_eq_false_iff_ne.2 h
    unfold doT;rw[if_neg (by decide),if_neg hw,if_neg (by decide),if_pos ht]
  · have ht:¬thereB (toN 16 f) key=false:=by rw[hth,beq_iff_eq.2 h];decide
    unfold doT;rw[if_neg (by decide),if_neg hw,if_neg (by decide),if_neg ht,if_pos rfl,hai,Int.toNat_natCast,fv]
    rw[Qbu (QfU hg i hi (by rw[h];omega)).len]
 ·
  refine Qi (q:=endP Xu [SA.a [nI 16 f],SA.a [sI 3,sI key,sI x]] (SV.t [SA.a [nI 16 f],SA.a [sI 5,sI 0]]) []) (by kernel_rfl) ?_
  exact Qav _ _ _ _ _ _ _ _ (by unfold doT;rw[if_neg (by decide),if_pos (.inl (by decide))])
 ·
  refine Qi (q:=endP Xu [SA.a [nI 16 f],SA.a [sI 4,sI key,sI x]] (SV.t [SA.a [nI 16 f],SA.a [sI 5,sI 0]]) []) (by kernel_rfl) ?_
  exact Qav _ _ _ _ _ _ _ _ (by unfold doT;rw[if_neg (by decide),if_pos (.inl (by decide))])
 ·
  refine Qi (q:=bif decide (key<(1:Int))then endP Xu [SA.a [nI 16 f],SA.a [sI 5,sI key,sI x]] (SV.t [SA.a [nI 16 f],SA.a [sI 5,sI 0]]) []else bif decide (key>(1000:Int))then endP Xu [SA.a [nI 16 f],SA.a [sI 5,sI key,sI x]] (SV.t [SA.a [nI 16 f],SA.a [sI 5,sI 0]]) []else ∃(s:AtS),[aP 0 0,aI key]=[aP 0 0,aI s.2]/\[SB.cells [nI 16 f] 161]=[SB.cells [nI 16 s.1] 161]/\((0:Int)<=s.2/\s.2<=(1000:Int))/\∀(x_1:Unit),True->bif decide (atI (toN 16 s.1) s.2>=(0:Int))then ((0:Int)<=atI (toN 16 s.1) s.2/\atI (toN 16 s.1) s.2<(8:Int))/\0+Int.toNat (atI (toN 16 s.1) s.2)+Int.toNat (atI (toN 16 s.1) s.2)<16/\dP Tryz.f81 6 4 [xE 11,xE 10,xE 9,xR 8 1,xF 7 1,xR 6 0,xF 5 0,xF 4 0,xE 3,xE 2,xE 1,xE 0]/\bif bif s.1 (0+Int.toNat (atI (toN 16 s.1) s.2)+Int.toNat (atI (toN 16 s.1) s.2))==key then false else true then endP Xu [SA.a [nI 16 f],SA.a [sI 5,sI key,sI x]] (SV.t [SA.a [nI 16 s.1],SA.a [sI 4,sI 0]]) []else ((0:Int)<=atI (toN 16 s.1) s.2/\atI (toN 16 s.1) s.2<(8:Int))/\0+Int.toNat (atI (toN 16 s.1) s.2)+Int.toNat (atI (toN 16 s.1) s.2)+1<16/\endP Xu [SA.a [nI 16 f],SA.a [sI 5,sI key,sI x]] (SV.t [SA.a [nI 16 s.1],SA.a [sI 1,sI (s.1 (0+Int.toNat (atI (toN 16 s.1) s.2)+Int.toNat (atI (toN 16 s.1) s.2)+1))]]) []else dP Tryz.f81 6 4 [xE 11,xE 10,xE 9,xE 8,xE 7,xE 6,xE 5,xE 4,xE 3,xE 2,xE 1,xE 0]/\endP Xu [SA.a [nI 16 f],SA.a [sI 5,sI key,sI x]] (SV.t [SA.a [nI 16 s.1],SA.a [sI 4,sI 0]]) []) (by kernel_rfl) ?_
  refine Qp (fun h=>Qav _ _ _ _ _ _ _ _ (by unfold doT;rw[if_neg (by decide),if_pos (.inr (.inl h))])) (fun h1=>Qp (fun h=>absurd h (by omega)) (fun h2=>?_))
  have hw:¬(((5:Int)≠1/\(5:Int)≠2/\(5:Int)≠5)\/key<1\/1000<key):=by omega
  obtain⟨i,hi,hai,-,-⟩:=hg.at key
  have fk:f (0+i+i)=tk (toN 16 f) i:=by unfold tk;rw[Xa (by omega)];rfl
  have fv:f (0+i+i+1)=tv (toN 16 f) i:=by unfold tv;rw[Xa (by omega)];rfl
  have hth:thereB (toN 16 f) key=(tk (toN 16 f) i==key):=by unfold thereB;rw[hai,decide_eq_true (by omega),Int.toNat_natCast];rfl
  refine⟨⟨f,key⟩,rfl,rfl,⟨ho.2.2.1,ho.2.2.2.1⟩,fun _ _=>?_⟩
  dsimp only
  rw[hai,Int.toNat_natCast,fk]
  refine Qp (fun _=>⟨⟨by omega,by omega⟩,by omega,Qf (by kernel_rfl),?_⟩) (fun h=>absurd h (by omega))
  refine Qii (fun h=>Qav _ _ _ _ _ _ _ _ ?_) (fun h=>⟨⟨by omega,by omega⟩,by omega,Qav _ _ _ _ _ _ _ _ ?_⟩)
  · have ht:thereB (toN 16 f) key=false:=by rw[hth];exact beq_eq_false_iff_ne.2 h
    unfold doT;rw[if_neg (by decide),if_neg hw,if_neg (by decide),if_pos ht]
  · have ht:¬thereB (toN 16 f) key=false:=by rw[hth,beq_iff_eq.2 h];decide
    unfold doT;rw[if_neg (by decide),if_neg hw,if_neg (by decide),if_neg ht,if_neg (by decide),hai,Int.toNat_natCast,fv]
 ·
  refine Qi (q:=16=16/\dP Tryz.f81 2 4 [⟨5,[],[3],[],false⟩,⟨4,[],[2],[],false⟩,xE 3,xE 2,xR 1 0,xR 0 0]/\endP Xu [SA.a [nI 16 f],SA.a [sI 6,sI key,sI x]] (SV.t [SA.a [nI 16 f],SA.a [sI 1,sI (↑(lenT (toN 16 f)):Int)]]) []) (by kernel_rfl) ?_
  exact⟨rfl,Qf (by kernel_rfl),Qav _ _ _ _ _ _ _ _ (by unfold doT;rw[if_pos rfl])⟩
abbrev QfW (f:Nat->Int):SB:=.cells [.ints (.int .u64) 17 f] 62
abbrev Qd4 (f:Nat->Int):SA:=.a [.ints (.int .u64) 17 f]
def Qb0:MCon:=dcon UpS (fun s=>s.pre) (fun s=>[.c (.so 0 0 1 s.l.length s.c s.nn)]) (fun s=>[Qao s.m s.c s.z]) (fun s=>sv (.bool (QeX s.l))) (fun s=>[Qao s.m s.c s.z]) 1 (fun args _=>some (blkA args))
structure HrG (s:UpS) where
 i:Nat
 hi:i<=s.l.length
 he:QbS s.l i=true
def Qiv (s:UpS):Ann where
 σ:=HrG s
 I g:=([(0,.o (.c (.so 0 0 1 s.l.length s.c s.nn))),(5,sv (.int .i64 s.l.length)),(6,sv (.int .i64 g.i))],[Qao s.m s.c s.z])
 dec g:=s.l.length-g.i
 pi _ _:=[0]
 nz:=[]
theorem Qlh:(Con.mem Qb0).holds Tryz.prog 111:=by
 intro w0 S
 refine Qb (Γ:=[]) (fun _=>noW) Tryz.func111 rfl (by kernel_rfl) Qg Qc (fun _ _ _ _=>.nil _ _ _) Qb0 (fun s=>[(111,[(0,Qiv s)])]) (fun x0 h s x=>⟨rfl,trivial⟩) (fun s ρ w _ _ _=>Qh w _) [] (Qn 1) 400 ?_
 rintro⟨l,m,c,nn,z⟩ w ⟨h1,h2,h3,h4⟩ -
 refine⟨rfl,?_⟩
 dsimp only at h1 h2 h3 h4
 refine Qi (q:=List.length l<=c/\(∃(s0:Ann.σ (Qiv (UpS.mk l m c nn z))),(eS (SA.c (.so 0 0 1 (List.length l) c nn)) (SA.c (.so 0 0 1 (List.length l) c nn))/\eS (aI (↑(List.length l):Int)) (aI (↑(List.length l):Int))/\eS (aI 0) (aI ↑s0.1)/\True)/\[SB.rows 3 [.int .i64] 1 m c z]=[SB.rows 3 [.int .i64] 1 m c z])/\∀(s:HrG (UpS.mk l m c nn z)),bif decide ((↑s.1:Int)<(↑(List.length l):Int))then bif decide ((↑s.1:Int)>(0:Int))then ((0:Int)<=(↑s.1:Int)/\(↑s.1:Int)<(↑(List.length l):Int)/\0+List.length l<=c)/\0+Int.toNat (↑s.1:Int)<m/\(2:Int)≠(0:Int)/\((0:Int)<=IntKind.wrap .i64 (Int.tdiv (IntKind.wrap .i64 ((↑s.1:Int)-(1:Int))) (2:Int))/\IntKind.wrap .i64 (Int.tdiv (IntKind.wrap .i64 ((↑s.1:Int)-(1:Int))) (2:Int))<(↑(List.length l):Int)/\0+List.length l<=c)/\0+Int.toNat (IntKind.wrap .i64 (Int.tdiv (IntKind.wrap .i64 ((↑s.1:Int)-(1:Int))) (2:Int)))<m/\dP Tryz.f111 4 1 [xE 14,xE 13,xR 12 0,xF 11 0,xE 10,xE 9,xE 8,xF 7 0,xR 6 0,xF 5 0,xE 4,xF 3 0,xE 2,xE 1,xE 0]/\bif decide (z (0+Int.toNat (↑s.1:Int)) 0<z (0+Int.toNat (IntKind.wrap .i64 (Int.tdiv (IntKind.wrap .i64 ((↑s.1:Int)-(1:Int))) (2:Int)))) 0)then endN Qb0 [] (Qn 1) (UpS.mk l m c nn z) (SV.o (aB false)) [SB.rows 3 [.int .i64] 1 m c z]else ∃(s':HrG (UpS.mk l m c nn z)),((eS (SA.c (.so 0 0 1 (List.length l) c nn)) (SA.c (.so 0 0 1 (List.length l) c nn))/\eS (aI (↑(List.length l):Int)) (aI (↑(List.length l):Int))/\eS (aI (IntKind.wrap .i64 ((↑s.1:Int)+(1:Int)))) (aI ↑s'.1)/\True)/\[SB.rows 3 [.int .i64] 1 m c z]=[SB.rows 3 [.int .i64] 1 m c z])/\List.length l-s'.1<List.length l-s.1 else dP Tryz.f111 4 1 [xE 14,xE 13,xE 12,xE 11,xE 10,xE 9,xE 8,xE 7,xE 6,xE 5,xE 4,xE 3,xE 2,xE 1,xE 0]/\∃(s':HrG (UpS.mk l m c nn z)),((eS (SA.c (.so 0 0 1 (List.length l) c nn)) (SA.c (.so 0 0 1 (List.length l) c nn))/\eS (aI (↑(List.length l):Int)) (aI (↑(List.length l):Int))/\eS (aI (IntKind.wrap .i64 ((↑s.1:Int)+(1:Int)))) (aI ↑s'.1)/\True)/\[SB.rows 3 [.int .i64] 1 m c z]=[SB.rows 3 [.int .i64] 1 m c z])/\List.length l-s'.1<List.length l-s.1 else List.length l<=c/\endN Qb0 [] (Qn 1) (UpS.mk l m c nn z) (SV.o (aB (decide ((↑(List.length l):Int)<=(6:Int))))) [SB.rows 3 [.int .i64] 1 m c z]) (by kernel_rfl) ?_
 refine⟨by omega,⟨⟨0,Nat.zero_le _,rfl⟩,⟨rfl,rfl,rfl,trivial⟩,rfl⟩,?_⟩
 rintro⟨i,hi,he⟩
 dsimp only at hi he ⊢
 have zh (j:Nat) (hj:j<l.length):z (0+j) 0=hp l j:=(congrArg (z · 0) (Nat.zero_add j)).trans (h4 j hj)
 have hend (b:Bool) (h:QeX l=b):endN Qb0 [] (Qn 1) ⟨l,m,c,nn,z⟩ (sv (.bool b)) [Qao m c z]:=by subst h;exact⟨(),trivial,rfl,rfl⟩
 have nx (hlt:i<l.length) (h:QbS l (i+1)=true):∃s':HrG ⟨l,m,c,nn,z⟩,((some (SV.o (SA.c (.so 0 0 1 l.length c nn)))=some (SV.o (SA.c (.so 0 0 1 l.length c nn)))/\some (sv (.int .i64 l.length))=some (sv (.int .i64 l.length))/\some (sv (.int .i64 (IntKind.wrap .i64 ((i:Int)+1))))=some (sv (.int .i64 s'.i))/\True)/\[Qao m c z]=[Qao m c z])/\l.length-s'.i<l.length-i:=
  ⟨⟨i+1,hlt,h⟩,⟨⟨rfl,rfl,svI (sucI (by omega)),trivial⟩,rfl⟩,by dsimp only;omega⟩
 refine Qp (fun hlt=>?_) (fun hge=>⟨by omega,hend _ ?_⟩)
 · refine Qp (fun hpos=>?_) (fun hz0=>⟨Qf (by kernel_rfl),nx (by omega) ?_⟩)
   · have e:IntKind.wrap .i64 (Int.tdiv (IntKind.wrap .i64 ((i:Int)-1)) 2)=(((i-1)/2:Nat):Int):=by
      rw[QH (x:=(i:Int)-1) (by omega) (by omega),Int.tdiv_eq_ediv_of_nonneg (by omega),QH (by omega) (by omega)];omega
     rw[e,Int.toNat_natCast,Int.toNat_natCast]
     refine⟨⟨by omega,by omega,by omega⟩,by omega,by decide,⟨by omega,by omega,by omega⟩,by omega,Qf (by kernel_rfl),Qp (fun h=>hend _ ?_) (fun h=>nx (by omega) ?_)⟩
     · rw[zh i (by omega),zh _ (by omega)]at h
       unfold QeX
       rw[Qli l (i+1) l.length ?_ (by omega)];rfl
       simp only[QbS]
       rw[decide_eq_false (by omega),Bool.and_false]
     · rw[zh i (by omega),zh _ (by omega)]at h
       simp only[QbS,he,Bool.true_and,decide_eq_true_eq];omega
   · simp only[QbS,he,Bool.true_and,decide_eq_true_eq];omega
 · obtain rfl:i=l.length:=by omega
   unfold QeX
   rw[he,Bool.true_and,decide_eq_decide];omega
structure QdA where
 f:Nat->Int
 l:List Int
def QcF:MCon where
 σ:=QdA
 χ:=LstR
 pre s:=toN 17 s.f=lstC s.l/\s.l.length<=6/\InR s.l
 args s:=[Qd4 s.f]
 mem s:=[]
 ok s x:=(s.l.length<=x.m/\x.m<=x.c)/\IsL x.z s.l
 val s x:=.t [.c (.so 0 0 1 s.l.length x.c x.nn),.c (.v (.bool true))]
 mem' s x:=[Qao x.m x.c x.z]
 k:=0
 len:=1
 det:=none
 find args M:=some []
structure LiG (l:List Int) where
 i:Nat
 n:Nat
 m:Nat
 c:Nat
 nn:Bool
 z:Nat->Nat->Int
 hi:i<=16
 hn:n=min i l.length
 hm:n<=m/\m<=c
 hz:IsL z (l.take i)
def Qn3 (s:QdA):Ann where
 σ:=LiG s.l
 I g:=([(1,.o (.c (.p 0 0))),(4,.o (.c (.so 1 0 1 g.n g.c g.nn))),(11,.o (.c (.s 0 1 16 16))),(12,sv (.int .i64 16)),(13,sv (.int .i64 g.i))],[QfW s.f,Qao g.m g.c g.z])
 dec g:=16-g.i
 pi env M:=match lk env 4 with
  |some (.o (.c (.so b _ _ _ _ _)))=>[0,b]
  |_=>[0]
 nz:=[.tmp 4 3 1 [.int .i64]]
theorem QjI:(Con.mem QcF).holds Tryz.prog 83:=by
 intro w0 S
 refine Qb (Γ:=[]) (fun _=>noW) Tryz.func83 rfl (by kernel_rfl) Qg Qc (fun _ _ _ _=>.nil _ _ _) QcF (fun s=>[(83,[(0,Qn3 s)])]) (fun x0 h=>by cases h) (fun s ρ w _ _ _=>Qh w _) [.tmp 0 3 1 [.int .i64]] rpL 400 ?_
 rintro⟨f,l⟩ w ⟨h1,h2,h3⟩ -
 refine⟨rfl,?_⟩
 dsimp only at h1 h2 h3
 refine Qi (q:=(iR (0:Int) (17:Int))/\0<17/\bif decide (f 0>(6:Int))then endN QcF [NZ.tmp 0 3 1 [.int .i64]] rpL (QdA.mk f l) (SV.t [SA.c (.v (.slice none 0 0)),aB false]) [SB.cells [nU 17 f] 62]else ((0:Int)<=(1:Int)/\(1:Int)<=(17:Int)/\(17:Int)<=(17:Int))/\(∃(s0:Ann.σ (Qn3 (QdA.mk f l))),(eS (aP 0 0) (aP 0 0)/\eS (SA.c (.so 1 0 1 0 0 false)) (SA.c (.so 1 0 1 s0.2 s0.4 s0.5))/\eS (SA.c (.s 0 1 16 16)) (SA.c (.s 0 1 16 16))/\eS (aI 16) (aI 16)/\eS (aI 0) (aI ↑s0.1)/\True)/\[SB.cells [nU 17 f] 62,SB.rows 3 [.int .i64] 1 0 0 fun (x x_1:Nat)=>(0:Int)]=[SB.cells [nU 17 f] 62,SB.rows 3 [.int .i64] 1 s0.3 s0.4 s0.6])/\∀(s:LiG l),bif decide ((↑s.1:Int)<(16:Int))then (iR (↑s.1:Int) (16:Int))/\1+Int.toNat (↑s.1:Int)<17/\(iR (0:Int) (17:Int))/\0<17/\bif decide (f (1+Int.toNat (↑s.1:Int))>(4294967295:Int))then endN QcF [NZ.tmp 0 3 1 [.int .i64]] rpL (QdA.mk f l) (SV.t [SA.c (.v (.slice none 0 0)),aB false]) [SB.cells [nU 17 f] 62,SB.rows 3 [.int .i64] 1 s.3 s.4 s.6]else bif bif decide ((↑s.1:Int)<IntKind.wrap .i64 (f 0))then false else true then bif f (1+Int.toNat (↑s.1:Int)) != (0:Int)then endN QcF [NZ.tmp 0 3 1 [.int .i64]] rpL (QdA.mk f l) (SV.t [SA.c (.v (.slice none 0 0)),aB false]) [SB.cells [nU 17 f] 62,SB.rows 3 [.int .i64] 1 s.3 s.4 s.6]else bif decide ((↑s.1:Int)<IntKind.wrap .i64 (f 0))then ((s.2<=s.3/\s.4=s.4)/\(1<=1/\1=1)/\s.2+1<=68719476736)/\∀(c:Nat),s.2+1<=c->∃(s':LiG l),((eS (aP 0 0) (aP 0 0)/\eS (SA.c (.so 3 0 1 (s.2+1) c s.5)) (SA.c (.so 3 0 1 s'.2 s'.4 s'.5))/\eS (SA.c (.s 0 1 16 16)) (SA.c (.s 0 1 16 16))/\eS (aI 16) (aI 16)/\eS (aI (IntKind.wrap .i64 ((↑s.1:Int)+(1:Int)))) (aI ↑s'.1)/\True)/\[SB.cells [nU 17 f] 62,SB.rows 3 [.int .i64] 1 (s.2+1) c fun (i j:Nat)=>bif Nat.ble (i+1) s.2 then s.6 i j else match List.get?Internal (match List.get?Internal [[IntKind.wrap .i64 (f (1+Int.toNat (↑s.1:Int)))]] (0+(i-s.2))with|some x=>x|none=>[]) j with|some x=>x|none=>(0:Int)]=[SB.cells [nU 17 f] 62,SB.rows 3 [.int .i64] 1 s'.3 s'.4 s'.6])/\16-s'.1<16-s.1 else ∃(s':LiG l),((eS (aP 0 0) (aP 0 0)/\eS (SA.c (.so 1 0 1 s.2 s.4 s.5)) (SA.c (.so 1 0 1 s'.2 s'.4 s'.5))/\eS (SA.c (.s 0 1 16 16)) (SA.c (.s 0 1 16 16))/\eS (aI 16) (aI 16)/\eS (aI (IntKind.wrap .i64 ((↑s.1:Int)+(1:Int)))) (aI ↑s'.1)/\True)/\[SB.cells [nU 17 f] 62,SB.rows 3 [.int .i64] 1 s.3 s.4 s.6]=[SB.cells [nU 17 f] 62,SB.rows 3 [.int .i64] 1 s'.3 s'.4 s'.6])/\16-s'.1<16-s.1 else bif decide ((↑s.1:Int)<IntKind.wrap .i64 (f 0))then ((s.2<=s.3/\s.4=s.4)/\(1<=1/\1=1)/\s.2+1<=68719476736)/\∀(c:Nat),s.2+1<=c->∃(s':LiG l),((eS (aP 0 0) (aP 0 0)/\eS (SA.c (.so 3 0 1 (s.2+1) c s.5)) (SA.c (.so 3 0 1 s'.2 s'.4 s'.5))/\eS (SA.c (.s 0 1 16 16)) (SA.c (.s 0 1 16 16))/\eS (aI 16) (aI 16)/\eS (aI (IntKind.wrap .i64 ((↑s.1:Int)+(1:Int)))) (aI ↑s'.1)/\True)/\[SB.cells [nU 17 f] 62,SB.rows 3 [.int .i64] 1 (s.2+1) c fun (i j:Nat)=>bif Nat.ble (i+1) s.2 then s.6 i j else match List.get?Internal (match List.get?Internal [[IntKind.wrap .i64 (f (1+Int.toNat (↑s.1:Int)))]] (0+(i-s.2))with|some x=>x|none=>[]) j with|some x=>x|none=>(0:Int)]=[SB.cells [nU 17 f] 62,SB.rows 3 [.int .i64] 1 s'.3 s'.4 s'.6])/\16-s'.1<16-s.1 else ∃(s':LiG l),((eS (aP 0 0) (aP 0 0)/\eS (SA.c (.so 1 0 1 s.2 s.4 s.5)) (SA.c (.so 1 0 1 s'.2 s'.4 s'.5))/\eS (SA.c (.s 0 1 16 16)) (SA.c (.s 0 1 16 16))/\eS (aI 16) (aI 16)/\eS (aI (IntKind.wrap .i64 ((↑s.1:Int)+(1:Int)))) (aI ↑s'.1)/\True)/\[SB.cells [nU 17 f] 62,SB.rows 3 [.int .i64] 1 s.3 s.4 s.6]=[SB.cells [nU 17 f] 62,SB.rows 3 [.int .i64] 1 s'.3 s'.4 s'.6])/\16-s'.1<16-s.1 else endN QcF [NZ.tmp 0 3 1 [.int .i64]] rpL (QdA.mk f l) (SV.t [SA.c (.so 1 0 1 s.2 s.4 s.5),aB true]) [SB.cells [nU 17 f] 62,SB.rows 3 [.int .i64] 1 s.3 s.4 s.6]) (by kernel_rfl) ?_
 have f0:f 0=l.length:=by
  have:=Xa (n:=17) (f:=f) (i:=0) (by decide)
  rw[h1]at this;exact this.symm
 have fi (i:Nat) (hi:i<16):f (1+i)=l.getD i 0:=by
  have:=Xa (n:=17) (f:=f) (i:=1+i) (by omega)
  rw[h1,Nat.add_comm 1 i,List.getD_eq_getElem?_getD,QoY l i hi (by omega)]at this
  rw[Nat.add_comm 1 i];exact this.symm
 rw[f0,QH (x:=(l.length:Int)) (by omega) (by omega)]
 refine⟨⟨by omega,by omega⟩,by omega,Qp (fun h=>absurd h (by omega)) (fun _=>⟨⟨by omega,by omega,by omega⟩,⟨⟨0,0,0,0,false,_,by omega,(Nat.zero_min _).symm,⟨Nat.le_refl _,Nat.le_refl _⟩,fun i hi=>by rw[List.take_zero]at hi;exact absurd hi (Nat.not_lt_zero _)⟩,⟨rfl,rfl,rfl,rfl,rfl,trivial⟩,rfl⟩,?_⟩)⟩
 rintro⟨i,n,m,c,nn,z,hi,hn,hm,hz⟩
 dsimp only at hi hn hm hz ⊢
 have hv:0<=l.getD i 0/\l.getD i 0<=4294967295:=by
  rcases Nat.lt_or_ge i l.length with h|h
  · exact h3.get i h
  · rw[List.getD_eq_getElem?_getD,List.getElem?_eq_none h];simp
 refine Qp (fun hlt=>?_) (fun hge=>?_)
 · rw[Int.toNat_natCast,fi i (by omega)]
   refine⟨⟨by omega,by omega⟩,by omega,⟨by omega,by omega⟩,by omega,Qp (fun h=>absurd h (by omega)) (fun _=>?_)⟩
   rcases Nat.lt_or_ge i l.length with hil|hil
   · refine QnQ (fun h=>absurd h (by omega)) (fun _=>Qp (fun _=>?_) (fun h=>absurd h (by omega)))
     obtain rfl:n=i:=by omega
     rw[QH (x:=l.getD n 0) (by omega) (by omega)]
     refine⟨⟨⟨hm.1,rfl⟩,⟨Nat.le_refl _,rfl⟩,by omega⟩,fun c' hc'=>⟨⟨n+1,n+1,n+1,c',nn,_,by omega,by omega,⟨Nat.le_refl _,hc'⟩,?_⟩,⟨⟨rfl,rfl,rfl,rfl,svI (sucI (by omega)),trivial⟩,rfl⟩,by dsimp only;omega⟩⟩
     have ht:l.take (n+1)=l.take n++[l.getD n 0]:=by
      rw[List.take_add_one,List.getElem?_eq_getElem hil];simp[List.getD_eq_getElem?_getD,hil]
     have hti:(l.take n).length=n:=by simp;omega
     show IsL _ (l.take (n+1))
     rw[ht]
     refine hz.snoc (fun j hj=>?_) ?_
     · rw[hti]at hj;exact catT hj
     · rw[hti];exact catF.trans (by rw[Nat.sub_self];rfl)
   · have hg0:l.getD i 0=0:=by rw[List.getD_eq_getElem?_getD,List.getElem?_eq_none hil];rfl
     rw[hg0]
     refine QnQ (fun _=>QG (fun h=>absurd rfl h) (fun _=>Qp (fun h=>absurd h (by omega)) (fun _=>?_))) (fun h=>absurd h (by omega))
     exact⟨⟨i+1,n,m,c,nn,z,by omega,by omega,hm,by show IsL z (l.take (i+1));rw[List.take_of_length_le (by omega)];rw[List.take_of_length_le hil]at hz;exact hz⟩,⟨⟨rfl,rfl,rfl,rfl,svI (sucI (by omega)),trivial⟩,rfl⟩,by dsimp only;omega⟩
 · obtain rfl:i=16:=by omega
   obtain rfl:n=l.length:=by omega
   rw[List.take_of_length_le (by omega)]at hz
   exact Qj (x':=.t [.c (.so 1 0 1 l.length c nn),.c (.v (.bool true))]) (M':=[QfW f,Qao m c z]) rfl ⟨m,c,nn,z⟩ ⟨hm,hz⟩ rfl rfl rfl
def Qd0:MCon:=dcon UpS (fun s=>s.pre/\s.l.length<=6/\InR s.l) (fun s=>[.c (.so 0 0 1 s.l.length s.c s.nn)]) (fun s=>[Qao s.m s.c s.z]) (fun s=>.o (Qd4 (fL (lstC s.l)))) (fun s=>[Qao s.m s.c s.z]) 1 (fun args _=>some (blkA args))
structure LdG (s:UpS) where
 i:Nat
 hi:i<=s.l.length
def Qiu (s:UpS):Ann where
 σ:=LdG s
 I g:=([(2,.o (.c (.p 1 0))),(3,.o (.c (.p 2 0))),(10,.o (.c (.so 0 0 1 s.l.length s.c s.nn))),(11,sv (.int .i64 s.l.length)),(12,sv (.int .i64 g.i))],[Qao s.m s.c s.z,QfW (fun _=>0),QfW (fL (Qcy s.l g.i))])
 dec g:=s.l.length-g.i
 pi _ _:=[0,1,2]
 nz:=[]
theorem QkR:(Con.mem Qd0).holds Tryz.prog 88:=by
 intro w0 S
 refine Qb (Γ:=[]) (fun _=>noW) Tryz.func88 rfl (by kernel_rfl) Qg Qc (fun _ _ _ _=>.nil _ _ _) Qd0 (fun s=>[(88,[(0,Qiu s)])]) (fun x0 h s x=>⟨rfl,trivial⟩) (fun s ρ w _ _ _=>Qh w _) [] (Qn 1) 400 ?_
 rintro⟨l,m,c,nn,z⟩ w ⟨⟨h1,h2,h3,h4⟩,h5,h6⟩ -
 refine⟨rfl,?_⟩
 dsimp only at h1 h2 h3 h4 h5 h6
 refine Qi (q:=List.length l<=c/\List.length l<=c/\(∃(s0:Ann.σ (Qiu (UpS.mk l m c nn z))),(eS (aP 1 0) (aP 1 0)/\eS (aP 2 0) (aP 2 0)/\eS (SA.c (.so 0 0 1 (List.length l) c nn)) (SA.c (.so 0 0 1 (List.length l) c nn))/\eS (aI (↑(List.length l):Int)) (aI (↑(List.length l):Int))/\eS (aI 0) (aI ↑s0.1)/\True)/\[SB.rows 3 [.int .i64] 1 m c z,SB.cells [nU 17 zF] 62,SB.cells [nU 17 fun (i:Nat)=>bif Nat.beq i 0 then IntKind.wrap .u64 (↑(List.length l):Int)else (0:Int)] 62]=[SB.rows 3 [.int .i64] 1 m c z,SB.cells [nU 17 zF] 62,SB.cells [nU 17 (fL (Qcy l s0.1))] 62])/\∀(s:LdG (UpS.mk l m c nn z)),bif decide ((↑s.1:Int)<(↑(List.length l):Int))then ((0:Int)<=(↑s.1:Int)/\(↑s.1:Int)<(↑(List.length l):Int)/\0+List.length l<=c)/\0+Int.toNat (↑s.1:Int)<m/\((0:Int)<=IntKind.wrap .i64 ((↑s.1:Int)+(1:Int))/\IntKind.wrap .i64 ((↑s.1:Int)+(1:Int))<(17:Int))/\Int.toNat (IntKind.wrap .i64 ((↑s.1:Int)+(1:Int)))<17/\∃(s':LdG (UpS.mk l m c nn z)),((eS (aP 1 0) (aP 1 0)/\eS (aP 2 0) (aP 2 0)/\eS (SA.c (.so 0 0 1 (List.length l) c nn)) (SA.c (.so 0 0 1 (List.length l) c nn))/\eS (aI (↑(List.length l):Int)) (aI (↑(List.length l):Int))/\eS (aI (IntKind.wrap .i64 ((↑s.1:Int)+(1:Int)))) (aI ↑s'.1)/\True)/\[SB.rows 3 [.int .i64] 1 m c z,SB.cells [nU 17 zF] 62,SB.cells [nU 17 fun (i:Nat)=>bif Nat.beq i (Int.toNat (IntKind.wrap .i64 ((↑s.1:Int)+(1:Int))))then IntKind.wrap .u64 (z (0+Int.toNat (↑s.1:Int)) 0)else fL (Qcy l s.1) i] 62]=[SB.rows 3 [.int .i64] 1 m c z,SB.cells [nU 17 zF] 62,SB.cells [nU 17 (fL (Qcy l s'.1))] 62])/\List.length l-s'.1<List.length l-s.1 else endN Qd0 [] (Qn 1) (UpS.mk l m c nn z) (SV.o (SA.a [nU 17 (fL (Qcy l s.1))])) [SB.rows 3 [.int .i64] 1 m c z,SB.cells [nU 17 (fL (Qcy l s.1))] 62,SB.cells [nU 17 (fL (Qcy l s.1))] 62]) (by kernel_rfl) ?_
 rw[QaI (by omega) (by omega)]
 refine⟨by omega,by omega,⟨⟨0,Nat.zero_le _⟩,⟨rfl,rfl,rfl,rfl,rfl,trivial⟩,?_⟩,?_⟩
 · rw[show (fun i:Nat=>bif Nat.beq i 0 then (l.length:Int)else 0)=fL (Qcy l 0)from funext fun j=>by
    rw[QkI]
    cases j<;>rfl]
 rintro⟨i,hi⟩
 dsimp only at hi ⊢
 refine Qp (fun hlt=>?_) (fun hge=>?_)
 · have hil:i<l.length:=by omega
   have hv:=h6.get i hil
   have zh:z (0+i) 0=l.getD i 0:=(congrArg (z · 0) (Nat.zero_add i)).trans (h4 i hil)
   rw[sucI (by omega),Int.toNat_natCast,Int.toNat_natCast,zh,QaI (by omega) (by omega)]
   refine⟨⟨by omega,by omega,by omega⟩,by omega,⟨by omega,by omega⟩,by omega,⟨i+1,hil⟩,⟨⟨rfl,rfl,rfl,rfl,rfl,trivial⟩,?_⟩,by dsimp only;omega⟩
   rw[show (fun j:Nat=>bif Nat.beq j (i+1)then l.getD i 0 else fL (Qcy l i) j)=fL (Qcy l (i+1))from funext fun j=>by
    rw[QkJ l i j hil]
    by_cases h:j=i+1
    · subst h;rw[if_pos rfl,show Nat.beq (i+1) (i+1)=true from Nat.beq_refl _];rfl
    · rw[if_neg h,show Nat.beq j (i+1)=false from nbeq h];rfl]
 · obtain rfl:i=l.length:=by omega
   rw[QmP]
   exact⟨(),trivial,rfl,rfl⟩
def QaG:PCon:=⟨fun args=>match args with
 |[.a [.ints (.int .u64) n f]]=>n=17/\Good (toN 16 f)/\f 16=0
 |_=>False,fun args=>match args with
 |[.a [.ints (.int .u64) n f]]=>.t [.a [.ints (.int .i64) 16 (fL (toN 16 f))],.c (.v (.bool true))]
 |_=>sv undef,fun _=>none⟩
structure SlG (f:Nat->Int) where
 i:Nat
 g:Nat->Int
 hi:i<=8
 hg:∀j,j<2*i->g j=f j
def Qj8 (f:Nat->Int):Ann where
 σ:=SlG f
 I g:=([(1,.o (.c (.p 0 0))),(2,.o (.c (.p 1 0))),(4,.o (.c (.p 2 0))),(6,sv (.int .i64 g.i))],[QfW f,Qcv (fun _=>0),Qcv g.g])
 dec g:=8-g.i
 pi _ _:=[0,1,2]
 nz:=[]
def Qrs:List SA->List (Nat × Anns)
 |[.a [.ints (.int .u64) n f]]=>[(80,[(0,Qj8 f)])]
 |_=>[]
theorem QhF:(Con.pure QaG).holds Tryz.prog 80:=by
 refine QF (Γ:=[(112,.pure Xp)]) Tryz.func80 rfl (by kernel_rfl) Qg Qc (fun W=>.cons (Qkf W _) (.nil _ _ _)) QaG Qrs 400 ?_
 intro W args hp
 unfold QaG at hp;dsimp only at hp;split at hp
 case h_2=>exact hp.elim
 rename_i n f
 obtain⟨rfl,hg,h0⟩:=hp
 refine⟨rfl,?_⟩
 refine Qi (q:=(∃(s0:Ann.σ (Qj8 f)),(eS (aP 0 0) (aP 0 0)/\eS (aP 1 0) (aP 1 0)/\eS (aP 2 0) (aP 2 0)/\eS (aI 0) (aI ↑s0.1)/\True)/\[SB.cells [nU 17 f] 62,SB.cells [nI 16 zF] 161,SB.cells [nI 16 zF] 161]=[SB.cells [nU 17 f] 62,SB.cells [nI 16 zF] 161,SB.cells [nI 16 s0.2] 161])/\∀(s:SlG f),bif decide ((↑s.1:Int)<(8:Int))then ((0:Int)<=IntKind.wrap .i64 ((2:Int)*(↑s.1:Int))/\IntKind.wrap .i64 ((2:Int)*(↑s.1:Int))<(17:Int))/\Int.toNat (IntKind.wrap .i64 ((2:Int)*(↑s.1:Int)))<17/\bif decide (f (Int.toNat (IntKind.wrap .i64 ((2:Int)*(↑s.1:Int))))>(1000:Int))then endP QaG [SA.a [nU 17 f]] (SV.t [SA.a [nI 16 s.2],aB false]) []else ((0:Int)<=IntKind.wrap .i64 (IntKind.wrap .i64 ((2:Int)*(↑s.1:Int))+(1:Int))/\IntKind.wrap .i64 (IntKind.wrap .i64 ((2:Int)*(↑s.1:Int))+(1:Int))<(17:Int))/\Int.toNat (IntKind.wrap .i64 (IntKind.wrap .i64 ((2:Int)*(↑s.1:Int))+(1:Int)))<17/\bif decide (f (Int.toNat (IntKind.wrap .i64 (IntKind.wrap .i64 ((2:Int)*(↑s.1:Int))+(1:Int))))>(4294967295:Int))then endP QaG [SA.a [nU 17 f]] (SV.t [SA.a [nI 16 s.2],aB false]) []else ((0:Int)<=IntKind.wrap .i64 ((2:Int)*(↑s.1:Int))/\IntKind.wrap .i64 ((2:Int)*(↑s.1:Int))<(17:Int))/\Int.toNat (IntKind.wrap .i64 ((2:Int)*(↑s.1:Int)))<17/\((0:Int)<=IntKind.wrap .i64 (IntKind.wrap .i64 ((2:Int)*(↑s.1:Int))+(1:Int))/\IntKind.wrap .i64 (IntKind.wrap .i64 ((2:Int)*(↑s.1:Int))+(1:Int))<(17:Int))/\Int.toNat (IntKind.wrap .i64 (IntKind.wrap .i64 ((2:Int)*(↑s.1:Int))+(1:Int)))<17/\(iR (↑s.1:Int) (8:Int))/\0+Int.toNat (↑s.1:Int)+Int.toNat (↑s.1:Int)+1+1<=16/\dP Tryz.f80 7 3 [⟨14,[],[2],[],false⟩,xF 13 2,xE 12,xE 11,xR 10 0,xF 9 0,xE 8,xE 7,xE 6,xE 5,xR 4 0,xF 3 0,xE 2,xE 1,xE 0]/\∃(s':SlG f),((eS (aP 0 0) (aP 0 0)/\eS (aP 1 0) (aP 1 0)/\eS (aP 2 0) (aP 2 0)/\eS (aI (IntKind.wrap .i64 ((↑s.1:Int)+(1:Int)))) (aI ↑s'.1)/\True)/\[SB.cells [nU 17 f] 62,SB.cells [nI 16 zF] 161,SB.cells [nI 16 fun (j:Nat)=>bif match Nat.ble (0+Int.toNat (↑s.1:Int)+Int.toNat (↑s.1:Int)) j with|false=>false|true=>Nat.ble j (0+Int.toNat (↑s.1:Int)+Int.toNat (↑s.1:Int)+1)then match List.get?Internal [IntKind.wrap .i64 (f (Int.toNat (IntKind.wrap .i64 ((2:Int)*(↑s.1:Int))))),IntKind.wrap .i64 (f (Int.toNat (IntKind.wrap .i64 (IntKind.wrap .i64 ((2:Int)*(↑s.1:Int))+(1:Int)))))] (j-(0+Int.toNat (↑s.1:Int)+Int.toNat (↑s.1:Int)))with|some x=>x|none=>(0:Int)else s.2 j] 161]=[SB.cells [nU 17 f] 62,SB.cells [nI 16 zF] 161,SB.cells [nI 16 s'.2] 161])/\8-s'.1<8-s.1 else (iR (16:Int) (17:Int))/\16<17/\bif f 16==(0:Int)then (16=16/\Good (toN 16 s.2))/\dP Tryz.f80 9 3 [xE 9,⟨8,[],[1],[],false⟩,xE 7,xE 6,xR 5 2,xE 4,xE 3,xR 2 0,xF 1 0,xR 0 2]/\endP QaG [SA.a [nU 17 f]] (SV.t [SA.a [nI 16 s.2],aB true]) []else dP Tryz.f80 9 3 [xE 9,⟨8,[],[1],[],false⟩,xE 7,xE 6,xE 5,xE 4,xE 3,xR 2 0,xF 1 0,xR 0 2]/\endP QaG [SA.a [nU 17 f]] (SV.t [SA.a [nI 16 s.2],aB false]) []) (by kernel_rfl) ?_
 refine⟨⟨⟨0,fun _=>0,by omega,fun j hj=>by omega⟩,⟨rfl,rfl,rfl,rfl,trivial⟩,rfl⟩,?_⟩
 rintro⟨i,g,hi,hg'⟩
 dsimp only at hi hg' ⊢
 refine Qp (fun hlt=>?_) (fun hge=>?_)
 · have e1:IntKind.wrap .i64 ((2:Int)*(i:Int))=((2*i:Nat):Int):=by rw[QH (by omega) (by omega)];omega
   rw[e1,sucI (by omega),Int.toNat_natCast,Int.toNat_natCast]
   have hi8:i<8:=by omega
   have fk:f (2*i)=tk (toN 16 f) i:=by unfold tk;rw[Xa (by omega),Nat.mul_comm]
   have fv:f (2*i+1)=tv (toN 16 f) i:=by unfold tv;rw[Xa (by omega),Nat.mul_comm]
   have k0:=hg.key0 i hi8
   have k1:=hg.key1 i hi8
   have v0:=hg.val0 i hi8
   have v1:=hg.val1 i hi8
   refine⟨⟨by omega,by omega⟩,by omega,Qp (fun h=>absurd h (by omega)) (fun _=>⟨⟨by omega,by omega⟩,by omega,Qp (fun h=>absurd h (by omega)) (fun _=>⟨⟨by omega,by omega⟩,by omega,⟨by omega,by omega⟩,by omega,⟨by omega,by omega⟩,by omega,Qf (by kernel_rfl),⟨i+1,_,by omega,?_⟩,⟨⟨rfl,rfl,rfl,svI (sucI (by omega)),trivial⟩,rfl⟩,by dsimp only;omega⟩)⟩)⟩
   intro j hj
   rw[Int.toNat_natCast]
   refine (Qjf g i j _ _).trans ?_
   rw[QH (by omega) (by omega),QH (by omega) (by omega)]
   by_cases h1:j=i*2+1
   · rw[if_pos h1,h1,Nat.mul_comm]
   · rw[if_neg h1]
     by_cases h2:j=i*2
     · rw[if_pos h2,h2,Nat.mul_comm]
     · rw[if_neg h2];exact hg' j (by omega)
 · obtain rfl:i=8:=by omega
   have e:toN 16 g=toN 16 f:=QdB fun j hj=>hg' j (by omega)
   rw[h0]
   refine⟨⟨by omega,by omega⟩,by omega,QY (fun _=>⟨⟨rfl,by rw[e];exact hg⟩,Qf (by kernel_rfl),rfl,fun ρ=>?_⟩) (fun h=>absurd rfl h)⟩
   simp only[PCon.out,QaG,SV.den,List.map_cons,List.map_nil]
   rw[QaC (f:=g) (g:=fL (toN 16 f)) (fun i hi=>by rw[QeM hi];exact hg' i (by omega))]
def Qfc:PCon:=⟨fun args=>match args with
 |[.c (.v (.int .i64 n)),.a [.one (.v (.int .i64 k)),.one (.v (.int .i64 key)),.one (.v (.int .i64 x))]]=>0<=n/\n<=4294967295/\opOk k key x=true
 |_=>False,fun args=>match args with
 |[.c (.v (.int .i64 n)),.a [.one (.v (.int .i64 k)),.one (.v (.int .i64 key)),.one (.v (.int .i64 x))]]=>
  .t [.c (.v (.int .i64 (XE n k x))),ansA (XT n k x) (Qad n k x)]
 |_=>sv undef,fun _=>none⟩
theorem QlO:(Con.pure Qfc).holds Tryz.prog 82:=by
 refine Qv (AG:=[]) (Γ:=[]) Tryz.func82 rfl (by kernel_rfl) Qg Qc (fun _=>GamOk.nil _ _ _) Qfc 400 ?_
 intro W args hp
 unfold Qfc at hp;dsimp only at hp;split at hp
 case h_2=>exact hp.elim
 rename_i n k key x
 obtain⟨h0,h1,ho⟩:=hp
 refine⟨rfl,?_⟩
 have ho:=of_decide_eq_true ho
 have hk:k=1\/k=2\/k=3\/k=4\/k=5\/k=6:=by omega
 rcases hk with rfl|rfl|rfl|rfl|rfl|rfl
 ·
  refine Qi (q:=bif decide (x>IntKind.wrap .i64 ((4294967295:Int)-n))then SV.t [aI n,SA.a [sI 3,sI 0]]=SV.t [aI (XE n (1:Int) x),SA.a [sI (XT n (1:Int) x),sI (Qad n (1:Int) x)]]/\true=true else SV.t [aI (IntKind.wrap .i64 (n+x)),SA.a [sI 1,sI n]]=SV.t [aI (XE n (1:Int) x),SA.a [sI (XT n (1:Int) x),sI (Qad n (1:Int) x)]]/\true=true) (by kernel_rfl) ?_
  rw[QH (by omega) (by omega)]
  refine Qp (fun h=>⟨?_,rfl⟩) (fun h=>?_)
  · unfold XE XT Qad;rw[if_pos rfl,if_pos rfl,if_pos rfl,if_pos (by omega),if_pos (by omega),if_pos (by omega)]
  · rw[QH (by omega) (by omega)]
    refine⟨?_,rfl⟩
    unfold XE XT Qad;rw[if_pos rfl,if_pos rfl,if_pos rfl,if_neg (by omega),if_neg (by omega),if_neg (by omega)]
 ·
  refine Qi (q:=bif decide (x>n)then SV.t [aI n,SA.a [sI 2,sI 0]]=SV.t [aI (XE n (2:Int) x),SA.a [sI (XT n (2:Int) x),sI (Qad n (2:Int) x)]]/\true=true else SV.t [aI (IntKind.wrap .i64 (n-x)),SA.a [sI 1,sI n]]=SV.t [aI (XE n (2:Int) x),SA.a [sI (XT n (2:Int) x),sI (Qad n (2:Int) x)]]/\true=true) (by kernel_rfl) ?_
  refine Qp (fun h=>⟨?_,rfl⟩) (fun h=>?_)
  · rw[show XE n 2 x=n from by unfold XE;rw[if_neg (by decide),if_pos rfl,if_pos (by omega)],show XT n 2 x=2 from by unfold XT;rw[if_neg (by decide),if_pos rfl,if_pos (by omega)],show Qad n 2 x=0 from by unfold Qad;rw[if_neg (by decide),if_pos rfl,if_pos (by omega)]]
  · rw[QH (by omega) (by omega),show XE n 2 x=n-x from by unfold XE;rw[if_neg (by decide),if_pos rfl,if_neg (by omega)],show XT n 2 x=1 from by unfold XT;rw[if_neg (by decide),if_pos rfl,if_neg (by omega)],show Qad n 2 x=n from by unfold Qad;rw[if_neg (by decide),if_pos rfl,if_neg (by omega)]]
    exact⟨rfl,rfl⟩
 ·
  refine Qi (q:=SV.t [aI n,SA.a [sI 5,sI 0]]=SV.t [aI (XE n (3:Int) x),SA.a [sI (XT n (3:Int) x),sI (Qad n (3:Int) x)]]/\true=true) (by kernel_rfl) ?_
  exact⟨rfl,rfl⟩
 ·
  refine Qi (q:=SV.t [aI n,SA.a [sI 5,sI 0]]=SV.t [aI (XE n (4:Int) x),SA.a [sI (XT n (4:Int) x),sI (Qad n (4:Int) x)]]/\true=true) (by kernel_rfl) ?_
  exact⟨rfl,rfl⟩
 ·
  refine Qi (q:=SV.t [aI n,SA.a [sI 1,sI n]]=SV.t [aI (XE n (5:Int) x),SA.a [sI (XT n (5:Int) x),sI (Qad n (5:Int) x)]]/\true=true) (by kernel_rfl) ?_
  exact⟨rfl,rfl⟩
 ·
  refine Qi (q:=SV.t [aI n,SA.a [sI 1,sI n]]=SV.t [aI (XE n (6:Int) x),SA.a [sI (XT n (6:Int) x),sI (Qad n (6:Int) x)]]/\true=true) (by kernel_rfl) ?_
  exact⟨rfl,rfl⟩
def QpB:PCon:=⟨fun args=>match args with
 |[.c (.v (.int .i64 n))]=>True
 |_=>False,fun args=>match args with
 |[.c (.v (.int .i64 n))]=>sv (.bool (decide (1<=n/\n<=6)))
 |_=>sv undef,fun _=>none⟩
theorem is_con:(Con.pure QpB).holds Tryz.prog 46:=by
 refine Qv (AG:=[]) (Γ:=[]) Tryz.func46 rfl (by kernel_rfl) Qg Qc (fun _=>GamOk.nil _ _ _) QpB 400 ?_
 intro W args hp
 unfold QpB at hp;dsimp only at hp;split at hp
 case h_2=>exact hp.elim
 rename_i n
 refine⟨rfl,?_⟩
 refine Qi (q:=bif decide (n>=(1:Int))then SV.o (aB (decide (n<=(6:Int))))=SV.o (aB (decide ((1:Int)<=n/\n<=(6:Int))))/\true=true else SV.o (aB false)=SV.o (aB (decide ((1:Int)<=n/\n<=(6:Int))))/\true=true) (by kernel_rfl) ?_
 exact Qp (fun h=>⟨svB (by rw[decide_eq_decide];omega),rfl⟩) (fun h=>⟨svB (by symm;rw[decide_eq_false_iff_not];omega),rfl⟩)
def QbZ:PCon:=⟨fun args=>match args with
 |[.a [.one (.v (.int .i64 a)),.one (.v (.int .i64 b)),.one (.v (.int .i64 c))]]=>True
 |_=>False,fun args=>match args with
 |[.a [.one (.v (.int .i64 a)),.one (.v (.int .i64 b)),.one (.v (.int .i64 c))]]=>sv (.bool (opOk a b c))
 |_=>sv undef,fun _=>none⟩
theorem QkG:(Con.pure QbZ).holds Tryz.prog 78:=by
 refine Qv (AG:=[]) (Γ:=[]) Tryz.func78 rfl (by kernel_rfl) Qg Qc (fun _=>GamOk.nil _ _ _) QbZ 400 ?_
 intro W args hp
 unfold QbZ at hp;dsimp only at hp;split at hp
 case h_2=>exact hp.elim
 rename_i a b c
 refine⟨rfl,?_⟩
 refine Qi (q:=bif decide (a>=(1:Int))then bif decide (a<=(6:Int))then bif decide (b>=(0:Int))then bif decide (b<=(1000:Int))then bif decide (c>=(0:Int))then SV.o (aB (decide (c<=(4294967295:Int))))=SV.o (aB (opOk a b c))/\true=true else SV.o (aB false)=SV.o (aB (opOk a b c))/\true=true else SV.o (aB false)=SV.o (aB (opOk a b c))/\true=true else SV.o (aB false)=SV.o (aB (opOk a b c))/\true=true else SV.o (aB false)=SV.o (aB (opOk a b c))/\true=true else SV.o (aB false)=SV.o (aB (opOk a b c))/\true=true) (by kernel_rfl) ?_
 repeat' (first|refine Qp (fun _=>?_) (fun _=>?_)|refine And.intro ?_ ?_)
 all_goals (first|rfl|(refine svB ?_;unfold opOk;first|(rw[decide_eq_decide];omega)|(symm;rw[decide_eq_false_iff_not];omega)))
def QdY:PCon:=⟨fun args=>match args with
 |[.c (.v (.int .i64 k)),.a [.ints (.int .u64) n f]]=>n=17/\ObjForm k (toN 17 f)
 |_=>False,fun args=>match args with
 |[.c (.v (.int .i64 k)),.a [.ints (.int .u64) n f]]=>sv (.bool (Qat k (toN 17 f)))
 |_=>sv undef,fun _=>none⟩
theorem QhM:(Con.pure QdY).holds Tryz.prog 79:=by
 refine Qv (AG:=[]) (Γ:=[(83,.mem QcF),(111,.mem Qb0),(80,.pure QaG)]) Tryz.func79 rfl (by kernel_rfl) Qg Qc (fun W=>.cons (QjI W _) (.cons (Qlh W _) (.cons (QhF W _) (.nil _ _ _)))) QdY 400 ?_
 intro W args hp
 unfold QdY at hp;dsimp only at hp;split at hp
 case h_2=>exact hp.elim
 rename_i k n f
 obtain⟨rfl,h⟩:=hp
 refine⟨rfl,?_⟩
 have hk:k=1\/k=2\/k=3\/k=4\/k=5\/k=6:=by
  rcases h with (⟨h1,h2,-⟩|⟨h1,-⟩|⟨h1,-⟩)|⟨h1,-⟩<;>omega
 rcases hk with rfl|rfl|rfl|rfl|rfl|rfl
 ·
  refine Qi (q:=∃(s:QdA),[SA.a [nU 17 f]]=[SA.a [nU 17 s.1]]/\eN/\(toN 17 s.1=lstC s.2/\List.length s.2<=6/\InR s.2)/\∀(x:LstR),(List.length s.2<=x.1/\x.1<=x.2)/\IsL x.4 s.2->SV.o (aB true)=SV.o (aB (Qat (1:Int) (toN 17 f)))/\true=true) (by kernel_rfl) ?_
  obtain⟨l,e,h1,h2,-⟩:=h.list (by decide) (by decide)
  exact⟨⟨f,l⟩,rfl,rfl,⟨e,h1,h2⟩,fun _ _=>⟨rfl,rfl⟩⟩
 ·
  refine Qi (q:=∃(s:QdA),[SA.a [nU 17 f]]=[SA.a [nU 17 s.1]]/\eN/\(toN 17 s.1=lstC s.2/\List.length s.2<=6/\InR s.2)/\∀(x:LstR),(List.length s.2<=x.1/\x.1<=x.2)/\IsL x.4 s.2->SV.o (aB true)=SV.o (aB (Qat (2:Int) (toN 17 f)))/\true=true) (by kernel_rfl) ?_
  obtain⟨l,e,h1,h2,-⟩:=h.list (by decide) (by decide)
  exact⟨⟨f,l⟩,rfl,rfl,⟨e,h1,h2⟩,fun _ _=>⟨rfl,rfl⟩⟩
 ·
  refine Qi (q:=∃(s:QdA),[SA.a [nU 17 f]]=[SA.a [nU 17 s.1]]/\eN/\(toN 17 s.1=lstC s.2/\List.length s.2<=6/\InR s.2)/\∀(x:LstR),(List.length s.2<=x.1/\x.1<=x.2)/\IsL x.4 s.2->SV.o (aB true)=SV.o (aB (Qat (3:Int) (toN 17 f)))/\true=true) (by kernel_rfl) ?_
  obtain⟨l,e,h1,h2,-⟩:=h.list (by decide) (by decide)
  exact⟨⟨f,l⟩,rfl,rfl,⟨e,h1,h2⟩,fun _ _=>⟨rfl,rfl⟩⟩
 ·
  refine Qi (q:=∃(s:QdA),[SA.a [nU 17 f]]=[SA.a [nU 17 s.1]]/\eN/\(toN 17 s.1=lstC s.2/\List.length s.2<=6/\InR s.2)/\∀(x:LstR),(List.length s.2<=x.1/\x.1<=x.2)/\IsL x.4 s.2->∃(s_1:UpS),[SA.c (.so 1 0 1 (List.length s.2) x.2 x.3)]=[SA.c (.so 1 0 1 (List.length s_1.1) s_1.3 s_1.4)]/\[SB.rows 3 [.int .i64] 1 x.1 x.2 x.4]=[SB.rows 3 [.int .i64] 1 s_1.2 s_1.3 s_1.5]/\(List.length s_1.1<=1000/\List.length s_1.1<=s_1.2/\s_1.2<=s_1.3/\IsL s_1.5 s_1.1)/\∀(x:Unit),True->SV.o (aB (QeX s_1.1))=SV.o (aB (Qat (4:Int) (toN 17 f)))/\true=true) (by kernel_rfl) ?_
  obtain⟨l,e,h1,h2,-⟩:=h.list (by decide) (by decide)
  refine⟨⟨f,l⟩,rfl,rfl,⟨e,h1,h2⟩,fun y hy=>⟨⟨l,y.1,y.2,y.3,y.4⟩,rfl,rfl,⟨Nat.le_trans h1 (by decide),hy.1.1,hy.1.2,hy.2⟩,fun _ _=>⟨svB ?_,rfl⟩⟩⟩
  show QeX l=QeX (((toN 17 f).drop 1).take ((toN 17 f).getD 0 0).toNat)
  rw[e,QfF]
 ·
  refine Qi (q:=(17=17/\Good (toN 16 f)/\f 16=(0:Int))/\SV.o (aB true)=SV.o (aB (Qat (5:Int) (toN 17 f)))/\true=true) (by kernel_rfl) ?_
  obtain⟨g,h0⟩:=h.tab
  exact⟨⟨rfl,g,h0⟩,rfl,rfl⟩
 ·
  refine Qi (q:=(iR (0:Int) (17:Int))/\0<17/\bif decide (f 0<=(4294967295:Int))then (iR (0:Int) (17:Int))/\0<17/\SV.o (aB (bif decide ([f 0,f 1,f 2,f 3,f 4,f 5,f 6,f 7,f 8,f 9,f 10,f 11,f 12,f 13,f 14,f 15,f 16]=[f 0,(0:Int),(0:Int),(0:Int),(0:Int),(0:Int),(0:Int),(0:Int),(0:Int),(0:Int),(0:Int),(0:Int),(0:Int),(0:Int),(0:Int),(0:Int),(0:Int)])then true else false))=SV.o (aB (Qat (6:Int) (toN 17 f)))/\true=true else SV.o (aB false)=SV.o (aB (Qat (6:Int) (toN 17 f)))/\true=true) (by kernel_rfl) ?_
  obtain⟨h0,h1,z⟩:=h.tally
  rw[z 1 (by decide) (by decide),z 2 (by decide) (by decide),z 3 (by decide) (by decide),z 4 (by decide) (by decide),z 5 (by decide) (by decide),z 6 (by decide) (by decide),z 7 (by decide) (by decide),z 8 (by decide) (by decide),z 9 (by decide) (by decide),z 10 (by decide) (by decide),z 11 (by decide) (by decide),z 12 (by decide) (by decide),z 13 (by decide) (by decide),z 14 (by decide) (by decide),z 15 (by decide) (by decide),z 16 (by decide) (by decide)]
  refine⟨⟨by decide,by decide⟩,by decide,Qp (fun _=>⟨⟨by decide,by decide⟩,by decide,svB ?_,rfl⟩) (fun h=>absurd h1 h)⟩
  rw[decide_eq_true rfl];rfl
def QaQ:PCon:=⟨fun args=>match args with
 |[.c (.v (.int .i64 k)),.a [.ints (.int .u64) n f],.a [.one (.v (.int .i64 w)),.one (.v (.int .i64 key)),.one (.v (.int .i64 x))]]=>n=17/\Qc8 k (toN 17 f)
 |_=>False,fun args=>match args with
 |[.c (.v (.int .i64 k)),.a [.ints (.int .u64) n f],.a [.one (.v (.int .i64 w)),.one (.v (.int .i64 key)),.one (.v (.int .i64 x))]]=>
  .t [Qd4 (fL (objR k (toN 17 f) w key x).1),ansA (objR k (toN 17 f) w key x).2.1 (objR k (toN 17 f) w key x).2.2,.c (.v .nilIface)]
 |_=>sv undef,fun args=>match args with
 |[.c (.v (.int .i64 k)),.a [.ints (.int .u64) n f],.a [.one (.v (.int .i64 w)),.one (.v (.int .i64 key)),.one (.v (.int .i64 x))]]=>
  some (opOk w key x,.t [Qd4 (fun _=>0),ansA 0 0,.c (.v (.iface 91 (.int .i64 1)))])
 |_=>none⟩
theorem Qex (k:Int) (f f':Nat->Int) (w key x c v:Int) (M:List SB) (ho:opOk w key x=true) (d:List Int) (h:objR k (toN 17 f) w key x=(d,c,v)) (e:∀i,i<17->f' i=fL d i):
 endP QaQ [.c (.v (.int .i64 k)),Qd4 f,opA w key x] (.t [Qd4 f',ansA c v,.c (.v .nilIface)]) M:=by
 refine⟨rfl,fun ρ=>?_⟩
 simp only[PCon.out,QaQ,ho,cond_true,SV.den,List.map_cons,List.map_nil]
 rw[h,QaC e]
theorem Qgw (k:Int) (f:Nat->Int) (w key x:Int) (M:List SB) (ho:¬opOk w key x=true):
 endP QaQ [.c (.v (.int .i64 k)),Qd4 f,opA w key x] (.t [Qd4 (fun _=>0),ansA 0 0,.c (.v (.iface 91 (.int .i64 1)))]) M:=by
 refine⟨rfl,fun ρ=>?_⟩
 simp only[PCon.out,QaQ,Bool.not_eq_true]at *
 rw[ho];rfl
structure DoG (d:List Int) where
 i:Nat
 g:Nat->Int
 hi:i<=8
 h1:∀j,j<2*i->g j=fL d j
 h2:∀j,2*i<=j->g j=0
def annDo (d:List Int) (c v:Int):Ann where
 σ:=DoG d
 I g:=([(6,.o (.c (.p 0 0))),(7,.o (.c (.p 1 0))),(11,.o (.c (.p 2 0))),(12,.o (.c (.p 3 0))),(47,.o (.a [.ints (.int .i64) 16 (fL d)])),(48,sv (.int .i64 g.i))],
   [QfW (fun _=>0),.cells [.one (.v (.int .i64 0)),.one (.v (.int .i64 0))] 40,.cells [.one (.v (.int .i64 c)),.one (.v (.int .i64 v))] 40,QfW g.g])
 dec g:=8-g.i
 pi env _:=[blkE env 6,blkE env 7,blkE env 11,blkE env 12]
 nz:=[]
def agDo:List SA->List (Nat × Anns)
 |[_,.a [.ints (.int .u64) n f],.a [.one (.v (.int .i64 w)),.one (.v (.int .i64 key)),.one (.v (.int .i64 x))]]=>[(47,[(1,annDo (doT (toN 16 f) w key x).1 (doT (toN 16 f) w key x).2.1 (doT (toN 16 f) w key x).2.2)])]
 |_=>[]
theorem do_con:(Con.pure QaQ).holds Tryz.prog 47:=by
 refine QF (Γ:=[(78,.pure QbZ),(79,.pure QdY),(80,.pure QaG),(81,.pure Xu),(82,.pure Qfc),(83,.mem QcF),(88,.mem Qd0),(84,.mem (QI queR)),(85,.mem (QI stkR)),(86,.mem (QI deqR)),(87,.mem (QI Xn))]) Tryz.func47 rfl (by kernel_rfl) Qg Qc
  (fun W=>.cons (QkG W _) (.cons (QhM W _) (.cons (QhF W _) (.cons (Qqw W _) (.cons (QlO W _) (.cons (QjI W _) (.cons (QkR W _) (.cons (Qmq W _) (.cons (Ql8 W _) (.cons (QnB W _) (.cons (Qpe W _) (.nil _ _ _)))))))))))) QaQ agDo 1000 ?_
 intro W args hp
 unfold QaQ at hp;dsimp only at hp;split at hp
 case h_2=>exact hp.elim
 rename_i k n f w key x
 obtain⟨rfl,h⟩:=hp
 refine⟨rfl,?_⟩
 have hk:k=1\/k=2\/k=3\/k=4\/k=5\/k=6:=by
  rcases h with⟨h1,h2,-⟩|⟨h1,-⟩|⟨h1,-⟩<;>omega
 rcases hk with rfl|rfl|rfl|rfl|rfl|rfl
 ·
  refine Qi (q:=True/\bif bif opOk w key x then false else true then endP QaQ [aI 1,SA.a [nU 17 f],SA.a [sI w,sI key,sI x]] (SV.t [SA.a [nU 17 zF],SA.a [sI 0,sI 0],SA.c (.v (.iface 91 (Value.int .i64 (1:Int))))]) []else (17=17/\ObjForm (1:Int) (toN 17 f))/\bif bif Qat (1:Int) (toN 17 f)then false else true then endP QaQ [aI 1,SA.a [nU 17 f],SA.a [sI w,sI key,sI x]] (SV.t [SA.a [nU 17 zF],SA.a [sI 0,sI 0],SA.c (.v (.iface 91 (Value.int .i64 (1:Int))))]) []else ∃(s:QdA),[SA.a [nU 17 f]]=[SA.a [nU 17 s.1]]/\eN/\(toN 17 s.1=lstC s.2/\List.length s.2<=6/\InR s.2)/\∀(x_1:LstR),(List.length s.2<=x_1.1/\x_1.1<=x_1.2)/\IsL x_1.4 s.2->∃(s_1:LstS),[SA.c (.so 4 0 1 (List.length s.2) x_1.2 x_1.3),SA.a [sI w,sI key,sI x]]=[SA.c (.so 4 0 1 (List.length s_1.1) s_1.3 s_1.4),SA.a [sI s_1.6,sI s_1.7,sI s_1.8]]/\[SB.rows 3 [.int .i64] 1 x_1.1 x_1.2 x_1.4]=[SB.rows 3 [.int .i64] 1 s_1.2 s_1.3 s_1.5]/\(List.length s_1.1<=6/\(List.length s_1.1<=s_1.2/\s_1.2<=s_1.3)/\IsL s_1.5 s_1.1/\InR s_1.1/\(1:Int)<=s_1.6/\s_1.6<=(6:Int))/\∀(x_2:LstR),(List.length (queR (LstS.l s_1) (LstS.k s_1) (LstS.x s_1)).1<=x_2.1/\x_2.1<=x_2.2)/\IsL x_2.4 (queR (LstS.l s_1) (LstS.k s_1) (LstS.x s_1)).1->∃(s:UpS),[SA.c (.so 6 0 1 (List.length (queR (LstS.l s_1) (LstS.k s_1) (LstS.x s_1)).1) x_2.2 x_2.3)]=[SA.c (.so 6 0 1 (List.length s.1) s.3 s.4)]/\[SB.rows 3 [.int .i64] 1 x_2.1 x_2.2 x_2.4]=[SB.rows 3 [.int .i64] 1 s.2 s.3 s.5]/\((List.length s.1<=1000/\List.length s.1<=s.2/\s.2<=s.3/\IsL s.5 s.1)/\List.length s.1<=6/\InR s.1)/\∀(x_3:Unit),True->dP Tryz.f47 20 8 [xE 5,⟨4,[],[3],[],false⟩,⟨3,[],[2],[],false⟩,xR 2 7,⟨1,[],[6],[],false⟩,xF 0 6]/\endP QaQ [aI 1,SA.a [nU 17 f],SA.a [sI w,sI key,sI x]] (SV.t [SA.a [nU 17 (fL (lstC s.1))],SA.a [sI (Prod.snd (queR (LstS.l s_1) (LstS.k s_1) (LstS.x s_1))).1,sI (Prod.snd (queR (LstS.l s_1) (LstS.k s_1) (LstS.x s_1))).2],SA.c (.v Value.nilIface)]) []) (by kernel_rfl) ?_
  obtain⟨l,e,h1,h2,h3⟩:=(ObjForm.list (.inl h) (by decide) (by decide))
  refine⟨trivial,XA (fun ho=>Qgw _ _ _ _ _ _ (by rw[ho];decide)) (fun ho=>⟨⟨rfl,.inl h⟩,XA (fun hr=>?_) (fun _=>?_)⟩)⟩
  · cases hr
  have hw:=of_decide_eq_true ho
  have hl:=(Qmr l w x h1 h2 hw.2.2.2.2.1 hw.2.2.2.2.2 ⟨hw.1,hw.2.1⟩).1
  refine⟨⟨f,l⟩,rfl,rfl,⟨e,h1,h2⟩,fun y hy=>⟨⟨l,y.1,y.2,y.3,y.4,w,key,x⟩,rfl,rfl,⟨h1,hy.1,hy.2,h2,hw.1,hw.2.1⟩,fun q hq=>⟨⟨(queR l w x).1,q.1,q.2,q.3,q.4⟩,rfl,rfl,⟨⟨Nat.le_trans hl.len (by decide),hq.1.1,hq.1.2,hq.2⟩,hl.len,hl.inr⟩,fun _ _=>⟨Qf (by kernel_rfl),Qex _ _ _ _ _ _ _ _ _ ho _ ?_ (fun _ _=>rfl)⟩⟩⟩⟩
  rw[e,QbM 1 l w key x (by decide) (by decide)]
  unfold lstR;rw[if_pos rfl]
 ·
  refine Qi (q:=True/\bif bif opOk w key x then false else true then endP QaQ [aI 2,SA.a [nU 17 f],SA.a [sI w,sI key,sI x]] (SV.t [SA.a [nU 17 zF],SA.a [sI 0,sI 0],SA.c (.v (.iface 91 (Value.int .i64 (1:Int))))]) []else (17=17/\ObjForm (2:Int) (toN 17 f))/\bif bif Qat (2:Int) (toN 17 f)then false else true then endP QaQ [aI 2,SA.a [nU 17 f],SA.a [sI w,sI key,sI x]] (SV.t [SA.a [nU 17 zF],SA.a [sI 0,sI 0],SA.c (.v (.iface 91 (Value.int .i64 (1:Int))))]) []else ∃(s:QdA),[SA.a [nU 17 f]]=[SA.a [nU 17 s.1]]/\eN/\(toN 17 s.1=lstC s.2/\List.length s.2<=6/\InR s.2)/\∀(x_1:LstR),(List.length s.2<=x_1.1/\x_1.1<=x_1.2)/\IsL x_1.4 s.2->∃(s_1:LstS),[SA.c (.so 4 0 1 (List.length s.2) x_1.2 x_1.3),SA.a [sI w,sI key,sI x]]=[SA.c (.so 4 0 1 (List.length s_1.1) s_1.3 s_1.4),SA.a [sI s_1.6,sI s_1.7,sI s_1.8]]/\[SB.rows 3 [.int .i64] 1 x_1.1 x_1.2 x_1.4]=[SB.rows 3 [.int .i64] 1 s_1.2 s_1.3 s_1.5]/\(List.length s_1.1<=6/\(List.length s_1.1<=s_1.2/\s_1.2<=s_1.3)/\IsL s_1.5 s_1.1/\InR s_1.1/\(1:Int)<=s_1.6/\s_1.6<=(6:Int))/\∀(x_2:LstR),(List.length (stkR (LstS.l s_1) (LstS.k s_1) (LstS.x s_1)).1<=x_2.1/\x_2.1<=x_2.2)/\IsL x_2.4 (stkR (LstS.l s_1) (LstS.k s_1) (LstS.x s_1)).1->∃(s:UpS),[SA.c (.so 6 0 1 (List.length (stkR (LstS.l s_1) (LstS.k s_1) (LstS.x s_1)).1) x_2.2 x_2.3)]=[SA.c (.so 6 0 1 (List.length s.1) s.3 s.4)]/\[SB.rows 3 [.int .i64] 1 x_2.1 x_2.2 x_2.4]=[SB.rows 3 [.int .i64] 1 s.2 s.3 s.5]/\((List.length s.1<=1000/\List.length s.1<=s.2/\s.2<=s.3/\IsL s.5 s.1)/\List.length s.1<=6/\InR s.1)/\∀(x_3:Unit),True->dP Tryz.f47 20 8 [xE 5,⟨4,[],[3],[],false⟩,⟨3,[],[2],[],false⟩,xR 2 7,⟨1,[],[6],[],false⟩,xF 0 6]/\endP QaQ [aI 2,SA.a [nU 17 f],SA.a [sI w,sI key,sI x]] (SV.t [SA.a [nU 17 (fL (lstC s.1))],SA.a [sI (Prod.snd (stkR (LstS.l s_1) (LstS.k s_1) (LstS.x s_1))).1,sI (Prod.snd (stkR (LstS.l s_1) (LstS.k s_1) (LstS.x s_1))).2],SA.c (.v Value.nilIface)]) []) (by kernel_rfl) ?_
  obtain⟨l,e,h1,h2,h3⟩:=(ObjForm.list (.inl h) (by decide) (by decide))
  refine⟨trivial,XA (fun ho=>Qgw _ _ _ _ _ _ (by rw[ho];decide)) (fun ho=>⟨⟨rfl,.inl h⟩,XA (fun hr=>?_) (fun _=>?_)⟩)⟩
  · cases hr
  have hw:=of_decide_eq_true ho
  have hl:=(QlX l w x h1 h2 hw.2.2.2.2.1 hw.2.2.2.2.2 ⟨hw.1,hw.2.1⟩).1
  refine⟨⟨f,l⟩,rfl,rfl,⟨e,h1,h2⟩,fun y hy=>⟨⟨l,y.1,y.2,y.3,y.4,w,key,x⟩,rfl,rfl,⟨h1,hy.1,hy.2,h2,hw.1,hw.2.1⟩,fun q hq=>⟨⟨(stkR l w x).1,q.1,q.2,q.3,q.4⟩,rfl,rfl,⟨⟨Nat.le_trans hl.len (by decide),hq.1.1,hq.1.2,hq.2⟩,hl.len,hl.inr⟩,fun _ _=>⟨Qf (by kernel_rfl),Qex _ _ _ _ _ _ _ _ _ ho _ ?_ (fun _ _=>rfl)⟩⟩⟩⟩
  rw[e,QbM 2 l w key x (by decide) (by decide)]
  unfold lstR;rw[if_neg (by decide),if_pos rfl]
 ·
  refine Qi (q:=True/\bif bif opOk w key x then false else true then endP QaQ [aI 3,SA.a [nU 17 f],SA.a [sI w,sI key,sI x]] (SV.t [SA.a [nU 17 zF],SA.a [sI 0,sI 0],SA.c (.v (.iface 91 (Value.int .i64 (1:Int))))]) []else (17=17/\ObjForm (3:Int) (toN 17 f))/\bif bif Qat (3:Int) (toN 17 f)then false else true then endP QaQ [aI 3,SA.a [nU 17 f],SA.a [sI w,sI key,sI x]] (SV.t [SA.a [nU 17 zF],SA.a [sI 0,sI 0],SA.c (.v (.iface 91 (Value.int .i64 (1:Int))))]) []else ∃(s:QdA),[SA.a [nU 17 f]]=[SA.a [nU 17 s.1]]/\eN/\(toN 17 s.1=lstC s.2/\List.length s.2<=6/\InR s.2)/\∀(x_1:LstR),(List.length s.2<=x_1.1/\x_1.1<=x_1.2)/\IsL x_1.4 s.2->∃(s_1:LstS),[SA.c (.so 4 0 1 (List.length s.2) x_1.2 x_1.3),SA.a [sI w,sI key,sI x]]=[SA.c (.so 4 0 1 (List.length s_1.1) s_1.3 s_1.4),SA.a [sI s_1.6,sI s_1.7,sI s_1.8]]/\[SB.rows 3 [.int .i64] 1 x_1.1 x_1.2 x_1.4]=[SB.rows 3 [.int .i64] 1 s_1.2 s_1.3 s_1.5]/\(List.length s_1.1<=6/\(List.length s_1.1<=s_1.2/\s_1.2<=s_1.3)/\IsL s_1.5 s_1.1/\InR s_1.1/\(1:Int)<=s_1.6/\s_1.6<=(6:Int))/\∀(x_2:LstR),(List.length (deqR (LstS.l s_1) (LstS.k s_1) (LstS.x s_1)).1<=x_2.1/\x_2.1<=x_2.2)/\IsL x_2.4 (deqR (LstS.l s_1) (LstS.k s_1) (LstS.x s_1)).1->∃(s:UpS),[SA.c (.so 6 0 1 (List.length (deqR (LstS.l s_1) (LstS.k s_1) (LstS.x s_1)).1) x_2.2 x_2.3)]=[SA.c (.so 6 0 1 (List.length s.1) s.3 s.4)]/\[SB.rows 3 [.int .i64] 1 x_2.1 x_2.2 x_2.4]=[SB.rows 3 [.int .i64] 1 s.2 s.3 s.5]/\((List.length s.1<=1000/\List.length s.1<=s.2/\s.2<=s.3/\IsL s.5 s.1)/\List.length s.1<=6/\InR s.1)/\∀(x_3:Unit),True->dP Tryz.f47 20 8 [xE 5,⟨4,[],[3],[],false⟩,⟨3,[],[2],[],false⟩,xR 2 7,⟨1,[],[6],[],false⟩,xF 0 6]/\endP QaQ [aI 3,SA.a [nU 17 f],SA.a [sI w,sI key,sI x]] (SV.t [SA.a [nU 17 (fL (lstC s.1))],SA.a [sI (Prod.snd (deqR (LstS.l s_1) (LstS.k s_1) (LstS.x s_1))).1,sI (Prod.snd (deqR (LstS.l s_1) (LstS.k s_1) (LstS.x s_1))).2],SA.c (.v Value.nilIface)]) []) (by kernel_rfl) ?_
  obtain⟨l,e,h1,h2,h3⟩:=(ObjForm.list (.inl h) (by decide) (by decide))
  refine⟨trivial,XA (fun ho=>Qgw _ _ _ _ _ _ (by rw[ho];decide)) (fun ho=>⟨⟨rfl,.inl h⟩,XA (fun hr=>?_) (fun _=>?_)⟩)⟩
  · cases hr
  have hw:=of_decide_eq_true ho
  have hl:=(QnC l w x h1 h2 hw.2.2.2.2.1 hw.2.2.2.2.2 ⟨hw.1,hw.2.1⟩).1
  refine⟨⟨f,l⟩,rfl,rfl,⟨e,h1,h2⟩,fun y hy=>⟨⟨l,y.1,y.2,y.3,y.4,w,key,x⟩,rfl,rfl,⟨h1,hy.1,hy.2,h2,hw.1,hw.2.1⟩,fun q hq=>⟨⟨(deqR l w x).1,q.1,q.2,q.3,q.4⟩,rfl,rfl,⟨⟨Nat.le_trans hl.len (by decide),hq.1.1,hq.1.2,hq.2⟩,hl.len,hl.inr⟩,fun _ _=>⟨Qf (by kernel_rfl),Qex _ _ _ _ _ _ _ _ _ ho _ ?_ (fun _ _=>rfl)⟩⟩⟩⟩
  rw[e,QbM 3 l w key x (by decide) (by decide)]
  unfold lstR;rw[if_neg (by decide),if_neg (by decide),if_pos rfl]
 ·
  refine Qi (q:=True/\bif bif opOk w key x then false else true then endP QaQ [aI 4,SA.a [nU 17 f],SA.a [sI w,sI key,sI x]] (SV.t [SA.a [nU 17 zF],SA.a [sI 0,sI 0],SA.c (.v (.iface 91 (Value.int .i64 (1:Int))))]) []else (17=17/\ObjForm (4:Int) (toN 17 f))/\bif bif Qat (4:Int) (toN 17 f)then false else true then endP QaQ [aI 4,SA.a [nU 17 f],SA.a [sI w,sI key,sI x]] (SV.t [SA.a [nU 17 zF],SA.a [sI 0,sI 0],SA.c (.v (.iface 91 (Value.int .i64 (1:Int))))]) []else ∃(s:QdA),[SA.a [nU 17 f]]=[SA.a [nU 17 s.1]]/\eN/\(toN 17 s.1=lstC s.2/\List.length s.2<=6/\InR s.2)/\∀(x_1:LstR),(List.length s.2<=x_1.1/\x_1.1<=x_1.2)/\IsL x_1.4 s.2->∃(s_1:LstS),[SA.c (.so 4 0 1 (List.length s.2) x_1.2 x_1.3),SA.a [sI w,sI key,sI x]]=[SA.c (.so 4 0 1 (List.length s_1.1) s_1.3 s_1.4),SA.a [sI s_1.6,sI s_1.7,sI s_1.8]]/\[SB.rows 3 [.int .i64] 1 x_1.1 x_1.2 x_1.4]=[SB.rows 3 [.int .i64] 1 s_1.2 s_1.3 s_1.5]/\(List.length s_1.1<=6/\(List.length s_1.1<=s_1.2/\s_1.2<=s_1.3)/\IsL s_1.5 s_1.1/\InR s_1.1/\(1:Int)<=s_1.6/\s_1.6<=(6:Int))/\∀(x_2:LstR),(List.length (Xn (LstS.l s_1) (LstS.k s_1) (LstS.x s_1)).1<=x_2.1/\x_2.1<=x_2.2)/\IsL x_2.4 (Xn (LstS.l s_1) (LstS.k s_1) (LstS.x s_1)).1->∃(s:UpS),[SA.c (.so 6 0 1 (List.length (Xn (LstS.l s_1) (LstS.k s_1) (LstS.x s_1)).1) x_2.2 x_2.3)]=[SA.c (.so 6 0 1 (List.length s.1) s.3 s.4)]/\[SB.rows 3 [.int .i64] 1 x_2.1 x_2.2 x_2.4]=[SB.rows 3 [.int .i64] 1 s.2 s.3 s.5]/\((List.length s.1<=1000/\List.length s.1<=s.2/\s.2<=s.3/\IsL s.5 s.1)/\List.length s.1<=6/\InR s.1)/\∀(x_3:Unit),True->dP Tryz.f47 20 8 [xE 5,⟨4,[],[3],[],false⟩,⟨3,[],[2],[],false⟩,xR 2 7,⟨1,[],[6],[],false⟩,xF 0 6]/\endP QaQ [aI 4,SA.a [nU 17 f],SA.a [sI w,sI key,sI x]] (SV.t [SA.a [nU 17 (fL (lstC s.1))],SA.a [sI (Prod.snd (Xn (LstS.l s_1) (LstS.k s_1) (LstS.x s_1))).1,sI (Prod.snd (Xn (LstS.l s_1) (LstS.k s_1) (LstS.x s_1))).2],SA.c (.v Value.nilIface)]) []) (by kernel_rfl) ?_
  obtain⟨l,e,h1,h2,h3⟩:=(ObjForm.list (.inl h) (by decide) (by decide))
  refine⟨trivial,XA (fun ho=>Qgw _ _ _ _ _ _ (by rw[ho];decide)) (fun ho=>⟨⟨rfl,.inl h⟩,XA (fun hr=>?_) (fun _=>?_)⟩)⟩
  · have hh:Qat 4 (toN 17 f)=QeX l:=by show QeX _=_;rw[e,QfF]
    rw[hh,(Qh0 l).2 ⟨h3 rfl h,h1⟩]at hr;cases hr
  have hw:=of_decide_eq_true ho
  have hl:=(QjR l w x h1 h2 hw.2.2.2.2.1 hw.2.2.2.2.2 ⟨hw.1,hw.2.1⟩).1
  refine⟨⟨f,l⟩,rfl,rfl,⟨e,h1,h2⟩,fun y hy=>⟨⟨l,y.1,y.2,y.3,y.4,w,key,x⟩,rfl,rfl,⟨h1,hy.1,hy.2,h2,hw.1,hw.2.1⟩,fun q hq=>⟨⟨(Xn l w x).1,q.1,q.2,q.3,q.4⟩,rfl,rfl,⟨⟨Nat.le_trans hl.len (by decide),hq.1.1,hq.1.2,hq.2⟩,hl.len,hl.inr⟩,fun _ _=>⟨Qf (by kernel_rfl),Qex _ _ _ _ _ _ _ _ _ ho _ ?_ (fun _ _=>rfl)⟩⟩⟩⟩
  rw[e,QbM 4 l w key x (by decide) (by decide)]
  unfold lstR;rw[if_neg (by decide),if_neg (by decide),if_neg (by decide)]
 ·
  refine Qi (q:=True/\bif bif opOk w key x then false else true then endP QaQ [aI 5,SA.a [nU 17 f],SA.a [sI w,sI key,sI x]] (SV.t [SA.a [nU 17 zF],SA.a [sI 0,sI 0],SA.c (.v (.iface 91 (Value.int .i64 (1:Int))))]) []else (17=17/\ObjForm (5:Int) (toN 17 f))/\bif bif Qat (5:Int) (toN 17 f)then false else true then endP QaQ [aI 5,SA.a [nU 17 f],SA.a [sI w,sI key,sI x]] (SV.t [SA.a [nU 17 zF],SA.a [sI 0,sI 0],SA.c (.v (.iface 91 (Value.int .i64 (1:Int))))]) []else (17=17/\Good (toN 16 f)/\f 16=(0:Int))/\(16=16/\Good (toN 16 (fL (toN 16 f)))/\opOk w key x=true)/\(∃(s0:Ann.σ (annDo (Prod.fst (doT (toN 16 f) w key x)) (Prod.fst (Prod.snd (doT (toN 16 f) w key x))) (Prod.snd (Prod.snd (doT (toN 16 f) w key x))))),(eS (aP 2 0) (aP 2 0)/\eS (aP 3 0) (aP 3 0)/\eS (aP 5 0) (aP 5 0)/\eS (aP 6 0) (aP 6 0)/\eS (SA.a [nI 16 (fL (doT (toN 16 (fL (toN 16 f))) w key x).1)]) (SA.a [nI 16 (fL (doT (toN 16 f) w key x).1)])/\eS (aI 0) (aI ↑s0.1)/\True)/\[SB.cells [nU 17 zF] 62,SB.cells [sI 0,sI 0] 40,SB.cells [sI (Prod.snd (doT (toN 16 (fL (toN 16 f))) w key x)).1,sI (Prod.snd (doT (toN 16 (fL (toN 16 f))) w key x)).2] 40,SB.cells [nU 17 zF] 62]=[SB.cells [nU 17 zF] 62,SB.cells [sI 0,sI 0] 40,SB.cells [sI (Prod.snd (doT (toN 16 f) w key x)).1,sI (Prod.snd (doT (toN 16 f) w key x)).2] 40,SB.cells [nU 17 s0.2] 62])/\∀(s:DoG (doT (toN 16 f) w key x).1),bif decide ((↑s.1:Int)<(8:Int))then (iR (↑s.1:Int) (8:Int))/\((0:Int)<=IntKind.wrap .i64 ((2:Int)*(↑s.1:Int))/\IntKind.wrap .i64 ((2:Int)*(↑s.1:Int))<(17:Int))/\Int.toNat (IntKind.wrap .i64 ((2:Int)*(↑s.1:Int)))<17/\((0:Int)<=IntKind.wrap .i64 (IntKind.wrap .i64 ((2:Int)*(↑s.1:Int))+(1:Int))/\IntKind.wrap .i64 (IntKind.wrap .i64 ((2:Int)*(↑s.1:Int))+(1:Int))<(17:Int))/\Int.toNat (IntKind.wrap .i64 (IntKind.wrap .i64 ((2:Int)*(↑s.1:Int))+(1:Int)))<17/\dP Tryz.f47 11 5 [⟨14,[],[3],[],false⟩,xF 13 3,⟨12,[],[3],[],false⟩,xF 11 3,xE 10,xR 9 4,xF 8 4,xE 7,xR 6 4,xF 5 4,xE 4,xE 3,xE 2,xE 1,xE 0]/\∃(s':DoG (doT (toN 16 f) w key x).1),((eS (aP 0 0) (aP 0 0)/\eS (aP 1 0) (aP 1 0)/\eS (aP 2 0) (aP 2 0)/\eS (aP 3 0) (aP 3 0)/\eS (SA.a [nI 16 (fL (doT (toN 16 f) w key x).1)]) (SA.a [nI 16 (fL (doT (toN 16 f) w key x).1)])/\eS (aI (IntKind.wrap .i64 ((↑s.1:Int)+(1:Int)))) (aI ↑s'.1)/\True)/\[SB.cells [nU 17 zF] 62,SB.cells [sI 0,sI 0] 40,SB.cells [sI (Prod.snd (doT (toN 16 f) w key x)).1,sI (Prod.snd (doT (toN 16 f) w key x)).2] 40,SB.cells [nU 17 fun (i:Nat)=>bif Nat.beq i (Int.toNat (IntKind.wrap .i64 (IntKind.wrap .i64 ((2:Int)*(↑s.1:Int))+(1:Int))))then IntKind.wrap .u64 (fL (doT (toN 16 f) w key x).1 (0+Int.toNat (↑s.1:Int)+Int.toNat (↑s.1:Int)+1))else bif Nat.beq i (Int.toNat (IntKind.wrap .i64 ((2:Int)*(↑s.1:Int))))then IntKind.wrap .u64 (fL (doT (toN 16 f) w key x).1 (0+Int.toNat (↑s.1:Int)+Int.toNat (↑s.1:Int)))else s.2 i] 62]=[SB.cells [nU 17 zF] 62,SB.cells [sI 0,sI 0] 40,SB.cells [sI (Prod.snd (doT (toN 16 f) w key x)).1,sI (Prod.snd (doT (toN 16 f) w key x)).2] 40,SB.cells [nU 17 s'.2] 62])/\8-s'.1<8-s.1 else dP Tryz.f47 13 4 [xE 4,⟨3,[],[1],[],false⟩,⟨2,[],[0],[],false⟩,xR 1 2,xR 0 3]/\endP QaQ [aI 5,SA.a [nU 17 f],SA.a [sI w,sI key,sI x]] (SV.t [SA.a [nU 17 s.2],SA.a [sI (Prod.snd (doT (toN 16 f) w key x)).1,sI (Prod.snd (doT (toN 16 f) w key x)).2],SA.c (.v Value.nilIface)]) []) (by kernel_rfl) ?_
  obtain⟨hg,h0⟩:=(ObjForm.tab (.inl h))
  refine⟨trivial,XA (fun ho=>Qgw _ _ _ _ _ _ (by rw[ho];decide)) (fun ho=>⟨⟨rfl,.inl h⟩,XA (fun hr=>by cases hr) (fun _=>?_)⟩)⟩
  have hw:=of_decide_eq_true ho
  have hG:=QjZ hg w key x hw.2.2.2.2.1 hw.2.2.2.2.2
  have he:objR 5 (toN 17 f) w key x=((doT (toN 16 f) w key x).1++[0],(doT (toN 16 f) w key x).2):=by
   rw[Qjh,h0,Qem _ hg]
  rw[Qbu (Qbd 16 f)]
  generalize doT (toN 16 f) w key x=D at *
  obtain⟨d,c,v⟩:=D
  dsimp only at hG he ⊢
  refine⟨⟨rfl,hg,h0⟩,⟨rfl,hg,ho⟩,⟨⟨0,fun _=>0,by omega,fun j hj=>by omega,fun _ _=>rfl⟩,⟨rfl,rfl,rfl,rfl,rfl,rfl,trivial⟩,rfl⟩,?_⟩
  rintro⟨i,g,hi,g1,g2⟩
  dsimp only at hi g1 g2 ⊢
  refine Qp (fun hlt=>?_) (fun hge=>⟨Qf (by kernel_rfl),Qex _ _ _ _ _ _ _ _ _ ho _ he (fun j hj=>?_)⟩)
  · have e1:IntKind.wrap .i64 ((2:Int)*(i:Int))=((2*i:Nat):Int):=by rw[QH (by omega) (by omega)];omega
    have hi8:i<8:=by omega
    have fk:fL d (0+i+i)=tk d i:=by unfold tk fL;rfl
    have fv:fL d (0+i+i+1)=tv d i:=by unfold tv fL;rfl
    have k0:=hG.key0 i hi8
    have k1:=hG.key1 i hi8
    have v0:=hG.val0 i hi8
    have v1:=hG.val1 i hi8
    rw[e1,sucI (by omega),Int.toNat_natCast,Int.toNat_natCast,Int.toNat_natCast,fk,fv,QaI (by omega) (by omega),QaI (by omega) (by omega)]
    refine⟨⟨by omega,by omega⟩,⟨by omega,by omega⟩,by omega,⟨by omega,by omega⟩,by omega,Qf (by kernel_rfl),⟨i+1,_,by omega,fun j hj=>?_,fun j hj=>?_⟩,⟨⟨rfl,rfl,rfl,rfl,rfl,svI (sucI (by omega)),trivial⟩,rfl⟩,by dsimp only;omega⟩
    · by_cases a1:j=2*i+1
      · subst a1;rw[show Nat.beq (2*i+1) (2*i+1)=true from Nat.beq_refl _];unfold tv fL;rw[Nat.mul_comm]
      · rw[show Nat.beq j (2*i+1)=false from nbeq a1]
        by_cases a2:j=2*i
        · subst a2;rw[show Nat.beq (2*i) (2*i)=true from Nat.beq_refl _];unfold tk fL;rw[Nat.mul_comm];rfl
        · rw[show Nat.beq j (2*i)=false from nbeq a2];exact g1 j (by omega)
    · rw[show Nat.beq j (2*i+1)=false from nbeq (by omega),show Nat.beq j (2*i)=false from nbeq (by omega)];exact g2 j (by omega)
  · by_cases hj16:j<16
    · rw[g1 j (by omega),XX (by rw[hG.len];exact hj16)]
    · rw[g2 j (by omega),XL (by rw[hG.len];omega),hG.len,show j=16 by omega];rfl
 ·
  refine Qi (q:=True/\bif bif opOk w key x then false else true then endP QaQ [aI 6,SA.a [nU 17 f],SA.a [sI w,sI key,sI x]] (SV.t [SA.a [nU 17 zF],SA.a [sI 0,sI 0],SA.c (.v (.iface 91 (Value.int .i64 (1:Int))))]) []else (17=17/\ObjForm (6:Int) (toN 17 f))/\bif bif Qat (6:Int) (toN 17 f)then false else true then endP QaQ [aI 6,SA.a [nU 17 f],SA.a [sI w,sI key,sI x]] (SV.t [SA.a [nU 17 zF],SA.a [sI 0,sI 0],SA.c (.v (.iface 91 (Value.int .i64 (1:Int))))]) []else (iR (0:Int) (17:Int))/\0<17/\((0:Int)<=IntKind.wrap .i64 (f 0)/\IntKind.wrap .i64 (f 0)<=(4294967295:Int)/\opOk w key x=true)/\dP Tryz.f47 16 5 [xE 6,⟨5,[],[3],[],false⟩,⟨4,[],[2],[],false⟩,xR 3 4,xE 2,xE 1,xE 0]/\endP QaQ [aI 6,SA.a [nU 17 f],SA.a [sI w,sI key,sI x]] (SV.t [SA.a [nU 17 fun (i:Nat)=>bif Nat.beq i 0 then IntKind.wrap .u64 (XE (IntKind.wrap .i64 (f 0)) w x)else (0:Int)],SA.a [sI (XT (IntKind.wrap .i64 (f 0)) w x),sI (Qad (IntKind.wrap .i64 (f 0)) w x)],SA.c (.v Value.nilIface)]) []) (by kernel_rfl) ?_
  obtain⟨h0,h1,z⟩:=ObjForm.tally (.inl h)
  refine⟨trivial,XA (fun ho=>Qgw _ _ _ _ _ _ (by rw[ho];decide)) (fun ho=>⟨⟨rfl,.inl h⟩,XA (fun hr=>by cases hr) (fun _=>?_)⟩)⟩
  have hw:=of_decide_eq_true ho
  have e:toN 17 f=f 0::List.replicate 16 0:=by
   rcases h with⟨-,h,-⟩|⟨h,-⟩|⟨-,n,e,-⟩
   · omega
   · omega
   · have:=Xa (n:=17) (f:=f) (i:=0) (by decide)
     rw[e]at this
     rw[e,<- this];rfl
  rw[QH (by omega) (by omega),QaI (Qhw _ _ _ h0 hw.2.2.2.2.1) (Int.lt_of_le_of_lt (Qhx _ _ _ h1 hw.2.2.2.2.1) (by decide))]
  refine⟨⟨by decide,by decide⟩,by decide,⟨h0,h1,ho⟩,Qf (by kernel_rfl),Qex _ _ _ _ _ _ _ _ _ ho _ (by rw[e,Qel]) (fun j hj=>?_)⟩
  cases j with
  |zero=>rfl
  |succ j=>rw[Qak,Qe6];rfl
abbrev uA (n:Int):SA:=.c (.v (.int .u64 n))
def nilE:SA:=.c (.v .nilIface)
def Qhg:PCon:=⟨fun args=>match args with
 |[.c (.v (.int .i64 n))]=>0<=n/\n<=64
 |_=>False,fun args=>match args with
 |[.c (.v (.int .i64 n))]=>sv (.int .u64 (Qf7 n))
 |_=>sv undef,fun _=>none⟩
theorem QoK:(Con.pure Qhg).holds Tryz.prog 131:=by
 refine Qv (AG:=[]) (Γ:=[]) Tryz.func131 rfl (by kernel_rfl) Qg Qc (fun _=>GamOk.nil _ _ _) Qhg 200 ?_
 intro W args hp
 unfold Qhg at hp;dsimp only at hp;split at hp
 case h_2=>exact hp.elim
 rename_i n
 refine⟨rfl,?_⟩
 refine Qi (q:=bif decide (n>=(64:Int))then SV.o (aU 18446744073709551615)=SV.o (aU (Qf7 n))/\true=true else (0:Int)<=n/\SV.o (aU (IntKind.wrap .u64 (IntKind.wrap .u64 ((1:Int)*(2:Int)^min (Int.toNat n) 64)-(1:Int))))=SV.o (aU (Qf7 n))/\true=true) (by kernel_rfl) ?_
 obtain⟨m,rfl⟩:=Int.eq_ofNat_of_zero_le hp.1
 refine Q1 (fun h=>⟨?_,rfl⟩) (fun h=>⟨hp.1,?_,rfl⟩)
 · unfold Qf7;rw[decide_eq_true (of_decide_eq_true h)];rfl
 · have h:=of_decide_eq_false h
   have l:=Nat.pow_lt_pow_right (show 1<2 by decide) (show m<64 by omega)
   have l2:=Nat.two_pow_pos m
   have e1:=QiF 1 m (by omega) (by omega)
   rw[show (1:Int)*2^min (m:Int).toNat 64=((1:Nat):Int)*2^min (m:Int).toNat 64 from rfl,e1,onesN m (by omega)]
   rw[show ((1*2^m:Nat):Int)-1=((2^m-1:Nat):Int) by omega,Qb5 (by omega)]
def QdU:PCon:=⟨fun args=>match args with
 |[.c (.v (.int .i64 a)),.c (.v (.int .i64 n))]=>True
 |_=>False,fun args=>match args with
 |[.c (.v (.int .i64 a)),.c (.v (.int .i64 n))]=>sv (.bool (Qcn a n))
 |_=>sv undef,fun _=>none⟩
theorem Qkd:(Con.pure QdU).holds Tryz.prog 130:=by
 refine Qv (AG:=[]) (Γ:=[]) Tryz.func130 rfl (by kernel_rfl) Qg Qc (fun _=>GamOk.nil _ _ _) QdU 200 ?_
 intro W args hp
 unfold QdU at hp;dsimp only at hp;split at hp
 case h_2=>exact hp.elim
 rename_i a n
 refine⟨rfl,?_⟩
 refine Qi (q:=bif decide (a>=(0:Int))then bif decide (n>=(1:Int))then bif decide (a<(64:Int))then SV.o (aB (decide (n<=IntKind.wrap .i64 ((64:Int)-a))))=SV.o (aB (Qcn a n))/\true=true else SV.o (aB false)=SV.o (aB (Qcn a n))/\true=true else SV.o (aB false)=SV.o (aB (Qcn a n))/\true=true else SV.o (aB false)=SV.o (aB (Qcn a n))/\true=true) (by kernel_rfl) ?_
 have hw:decide (a>=0)=true->decide (a<64)=true->IntKind.wrap .i64 (64-a)=64-a:=fun h1 h2=>by
  have:=of_decide_eq_true h1;have:=of_decide_eq_true h2
  simp only[IntKind.wrap,IntKind.bits,IntKind.signed];simp;omega
 refine Q1 (fun h1=>Q1 (fun h2=>Q1 (fun h3=>⟨?_,rfl⟩) (fun h3=>⟨?_,rfl⟩)) (fun h2=>⟨?_,rfl⟩)) (fun h1=>⟨?_,rfl⟩)
 · rw[hw h1 h3];refine svB ?_;unfold Qcn;simp only[decide_eq_true_eq,decide_eq_decide]at *;omega
 all_goals (refine svB ?_;unfold Qcn;symm;simp only[decide_eq_true_eq,decide_eq_false_iff_not]at *;omega)
def Qif:PCon:=⟨fun args=>match args with
 |[.c (.v (.int .u64 w)),.c (.v (.int .i64 a)),.c (.v (.int .i64 n))]=>U64 w/\Qcn a n=true
 |_=>False,fun args=>match args with
 |[.c (.v (.int .u64 w)),.c (.v (.int .i64 a)),.c (.v (.int .i64 n))]=>.t [uA (getZ w a n),nilE]
 |_=>sv undef,fun _=>none⟩
theorem Qm9:(Con.pure Qif).holds Tryz.prog 105:=by
 refine Qv (AG:=[]) (Γ:=[(130,.pure QdU),(131,.pure Qhg)]) Tryz.func105 rfl (by kernel_rfl) Qg Qc
  (fun W=>.cons (Qkd W _) (.cons (QoK W _) (.nil _ _ _))) Qif 200 ?_
 intro W args hp
 unfold Qif at hp;dsimp only at hp;split at hp
 case h_2=>exact hp.elim
 rename_i w a n
 refine⟨rfl,?_⟩
 refine Qi (q:=True/\bif bif Qcn a n then false else true then SV.t [aU 0,SA.c (.v (.iface 91 (Value.int .i64 (2:Int))))]=SV.t [aU (getZ w a n),SA.c (.v Value.nilIface)]/\true=true else (0:Int)<=a/\((0:Int)<=n/\n<=(64:Int))/\dP Tryz.f105 3 0 [xE 7,xE 6,xE 5,xE 4,xE 3,xE 2,xE 1,xE 0]/\SV.t [aU (bits BinOp.and .u64 (Int.fdiv w ((2:Int)^min (Int.toNat a) 64)) (Qf7 n)),SA.c (.v Value.nilIface)]=SV.t [aU (getZ w a n),SA.c (.v Value.nilIface)]/\true=true) (by kernel_rfl) ?_
 have h:=of_decide_eq_true hp.2
 rw[hp.2]
 exact⟨trivial,by omega,⟨by omega,by omega⟩,Qf (by kernel_rfl),by rw[Qg5 hp.1 hp.2],rfl⟩
def Qj3:PCon:=⟨fun args=>match args with
 |[.c (.v (.int .u64 w)),.c (.v (.int .i64 a))]=>U64 w
 |_=>False,fun args=>match args with
 |[.c (.v (.int .u64 w)),.c (.v (.int .i64 a))]=>sv (.bool (bitZ w a))
 |_=>sv undef,fun _=>none⟩
theorem Qrn:(Con.pure Qj3).holds Tryz.prog 102:=by
 refine Qv (AG:=[]) (Γ:=[]) Tryz.func102 rfl (by kernel_rfl) Qg Qc (fun _=>GamOk.nil _ _ _) Qj3 200 ?_
 intro W args hp
 unfold Qj3 at hp;dsimp only at hp;split at hp
 case h_2=>exact hp.elim
 rename_i w a
 refine⟨rfl,?_⟩
 refine Qi (q:=bif decide (a>=(0:Int))then bif decide (a<(64:Int))then (0:Int)<=a/\SV.o (aB (bits BinOp.and .u64 (Int.fdiv w ((2:Int)^min (Int.toNat a) 64)) (1:Int)==(1:Int)))=SV.o (aB (bitZ w a))/\true=true else SV.o (aB false)=SV.o (aB (bitZ w a))/\true=true else SV.o (aB false)=SV.o (aB (bitZ w a))/\true=true) (by kernel_rfl) ?_
 refine Q1 (fun h1=>Q1 (fun h2=>⟨of_decide_eq_true h1,?_,rfl⟩) (fun h2=>⟨?_,rfl⟩)) (fun h1=>⟨?_,rfl⟩)
 · exact svB (QpQ hp ⟨of_decide_eq_true h1,of_decide_eq_true h2⟩)
 · refine svB ?_;unfold bitZ;rw[decide_eq_false (by have:=of_decide_eq_false h2;omega)];rfl
 · refine svB ?_;unfold bitZ;rw[decide_eq_false (by have:=of_decide_eq_false h1;omega)];rfl
def Qhl:PCon:=⟨fun args=>match args with
 |[.c (.v (.int .u64 w)),.c (.v (.int .i64 a))]=>U64 w
 |_=>False,fun args=>match args with
 |[.c (.v (.int .u64 w)),.c (.v (.int .i64 a))]=>sv (.int .u64 (Qc7 w a))
 |_=>sv undef,fun _=>none⟩
theorem Qpi:(Con.pure Qhl).holds Tryz.prog 150:=by
 refine Qv (AG:=[]) (Γ:=[]) Tryz.func150 rfl (by kernel_rfl) Qg Qc (fun _=>GamOk.nil _ _ _) Qhl 200 ?_
 intro W args hp
 unfold Qhl at hp;dsimp only at hp;split at hp
 case h_2=>exact hp.elim
 rename_i w a
 refine⟨rfl,?_⟩
 refine Qi (q:=bif decide (a<(0:Int))then SV.o (aU w)=SV.o (aU (Qc7 w a))/\true=true else bif decide (a>=(64:Int))then SV.o (aU w)=SV.o (aU (Qc7 w a))/\true=true else (0:Int)<=a/\SV.o (aU (bits BinOp.xor .u64 w (IntKind.wrap .u64 ((1:Int)*(2:Int)^min (Int.toNat a) 64))))=SV.o (aU (Qc7 w a))/\true=true) (by kernel_rfl) ?_
 refine Q1 (fun h1=>⟨?_,rfl⟩) (fun h1=>Q1 (fun h2=>⟨?_,rfl⟩) (fun h2=>⟨by have:=of_decide_eq_false h1;omega,?_,rfl⟩))
 · unfold Qc7;rw[decide_eq_false (by have:=of_decide_eq_true h1;omega)];rfl
 · unfold Qc7;rw[decide_eq_false (by have:=of_decide_eq_true h2;omega)];rfl
 · have h1:=of_decide_eq_false h1;have h2:=of_decide_eq_false h2
   rw[Qnh hp ⟨by omega,by omega⟩]
def XO:PCon:=QbZ
theorem QaA:(Con.pure XO).holds Tryz.prog 11:=by
 refine Qv (AG:=[]) (Γ:=[]) Tryz.func11 rfl (by kernel_rfl) Qg Qc (fun _=>GamOk.nil _ _ _) XO 400 ?_
 intro W args hp
 unfold XO QbZ at hp;dsimp only at hp;split at hp
 case h_2=>exact hp.elim
 rename_i a b c
 refine⟨rfl,?_⟩
 refine Qi (q:=bif decide (a>=(1:Int))then bif decide (a<=(6:Int))then bif decide (b>=(0:Int))then bif decide (b<=(1000:Int))then bif decide (c>=(0:Int))then SV.o (aB (decide (c<=(4294967295:Int))))=SV.o (aB (opOk a b c))/\true=true else SV.o (aB false)=SV.o (aB (opOk a b c))/\true=true else SV.o (aB false)=SV.o (aB (opOk a b c))/\true=true else SV.o (aB false)=SV.o (aB (opOk a b c))/\true=true else SV.o (aB false)=SV.o (aB (opOk a b c))/\true=true else SV.o (aB false)=SV.o (aB (opOk a b c))/\true=true) (by kernel_rfl) ?_
 repeat' (first|refine Qp (fun _=>?_) (fun _=>?_)|refine And.intro ?_ ?_)
 all_goals (first|rfl|(refine svB ?_;unfold opOk;first|(rw[decide_eq_decide];omega)|(symm;rw[decide_eq_false_iff_not];omega)))
def QfT:PCon:=⟨fun args=>match args with
 |[.a [.one (.v (.int .i64 a)),.one (.v (.int .i64 b))]]=>True
 |_=>False,fun args=>match args with
 |[.a [.one (.v (.int .i64 a)),.one (.v (.int .i64 b))]]=>sv (.bool (ansOkB a b))
 |_=>sv undef,fun _=>none⟩
theorem QjU:(Con.pure QfT).holds Tryz.prog 101:=by
 refine Qv (AG:=[]) (Γ:=[]) Tryz.func101 rfl (by kernel_rfl) Qg Qc (fun _=>GamOk.nil _ _ _) QfT 400 ?_
 intro W args hp
 unfold QfT at hp;dsimp only at hp;split at hp
 case h_2=>exact hp.elim
 rename_i a b
 refine⟨rfl,?_⟩
 refine Qi (q:=bif decide (a>=(1:Int))then bif decide (a<=(5:Int))then bif decide (b>=(0:Int))then bif decide (b<=(4294967295:Int))then bif a==(1:Int)then SV.o (aB true)=SV.o (aB (ansOkB a b))/\true=true else SV.o (aB (b==(0:Int)))=SV.o (aB (ansOkB a b))/\true=true else SV.o (aB false)=SV.o (aB (ansOkB a b))/\true=true else SV.o (aB false)=SV.o (aB (ansOkB a b))/\true=true else SV.o (aB false)=SV.o (aB (ansOkB a b))/\true=true else SV.o (aB false)=SV.o (aB (ansOkB a b))/\true=true) (by kernel_rfl) ?_
 repeat' (first|refine Qp (fun _=>?_) (fun _=>?_)|refine QY (fun _=>?_) (fun _=>?_)|refine And.intro ?_ ?_)
 all_goals (first|rfl|(refine svB ?_;unfold ansOkB;first|(symm;rw[decide_eq_false_iff_not];omega)|(symm;rw[decide_eq_true_iff];omega)|(rw[decide_eq_decide];omega)|(rw[Bool.eq_iff_iff,beq_iff_eq,decide_eq_true_iff];omega)))
def Qd1:PCon:=⟨fun args=>match args with
 |[.a [.one (.v (.int .i64 a)),.one (.v (.int .i64 b))]]=>QV a b
 |_=>False,fun args=>match args with
 |[.a [.one (.v (.int .i64 a)),.one (.v (.int .i64 b))]]=>.t [uA (ansW a b),nilE]
 |_=>sv undef,fun _=>none⟩
theorem QlE:(Con.pure Qd1).holds Tryz.prog 149:=by
 refine Qv (AG:=[]) (Γ:=[(101,.pure QfT)]) Tryz.func149 rfl (by kernel_rfl) Qg Qc (fun W=>.cons (QjU W _) (.nil _ _ _)) Qd1 400 ?_
 intro W args hp
 unfold Qd1 at hp;dsimp only at hp;split at hp
 case h_2=>exact hp.elim
 rename_i a b
 refine⟨rfl,?_⟩
 refine Qi (q:=True/\bif bif ansOkB a b then false else true then SV.t [aU 0,SA.c (.v (.iface 91 (Value.int .i64 (1:Int))))]=SV.t [aU (ansW a b),SA.c (.v Value.nilIface)]/\true=true else (0:Int)<=(32:Int)/\SV.t [aU (bits BinOp.or .u64 (IntKind.wrap .u64 (IntKind.wrap .u64 a*(4294967296:Int))) (IntKind.wrap .u64 b)),SA.c (.v Value.nilIface)]=SV.t [aU (ansW a b),SA.c (.v Value.nilIface)]/\true=true) (by kernel_rfl) ?_
 have hb:=(Qb3 a b).2 hp
 have hw:=QpX hp
 rw[show (2:Int)^(min (32:Int).toNat 64)=4294967296 from rfl]at hw
 refine⟨trivial,XA (fun h=>absurd (hb.symm.trans h) (by decide)) (fun _=>⟨by decide,?_,rfl⟩)⟩
 rw[hw]
def QbJ:PCon:=⟨fun args=>match args with
 |[.c (.v (.int .u64 w))]=>U64 w
 |_=>False,fun args=>match args with
 |[.c (.v (.int .u64 w))]=>.t [ansA (w/4294967296%4294967296) (w%4294967296),nilE]
 |_=>sv undef,fun args=>match args with
 |[.c (.v (.int .u64 w))]=>some (ansOkB (w/4294967296%4294967296) (w%4294967296),.t [ansA 0 0,.c (.v (.iface 91 (.int .i64 3)))])
 |_=>none⟩
theorem Qb6:(Con.pure QbJ).holds Tryz.prog 72:=by
 refine Qv (AG:=[]) (Γ:=[(101,.pure QfT),(105,.pure Qif)]) Tryz.func72 rfl (by kernel_rfl) Qg Qc (fun W=>.cons (QjU W _) (.cons (Qm9 W _) (.nil _ _ _))) QbJ 400 ?_
 intro W args hp
 unfold QbJ at hp;dsimp only at hp;split at hp
 case h_2=>exact hp.elim
 rename_i w
 refine⟨rfl,?_⟩
 refine Qi (q:=(U64 w/\true=true)/\(U64 w/\true=true)/\True/\bif bif ansOkB (IntKind.wrap .i64 (getZ w (32:Int) (32:Int))) (IntKind.wrap .i64 (getZ w (0:Int) (32:Int)))then false else true then (SV.t [SA.a [sI 0,sI 0],SA.c (.v (.iface 91 (Value.int .i64 (3:Int))))]=bif ansOkB (w/(4294967296:Int)%(4294967296:Int)) (w%(4294967296:Int))then SV.t [SA.a [sI (w/(4294967296:Int)%(4294967296:Int)),sI (w%(4294967296:Int))],SA.c (.v Value.nilIface)]else SV.t [SA.a [sI 0,sI 0],SA.c (.v (.iface 91 (Value.int .i64 (3:Int))))])/\true=true else (SV.t [SA.a [sI (IntKind.wrap .i64 (getZ w (32:Int) (32:Int))),sI (IntKind.wrap .i64 (getZ w (0:Int) (32:Int)))],SA.c (.v Value.nilIface)]=bif ansOkB (w/(4294967296:Int)%(4294967296:Int)) (w%(4294967296:Int))then SV.t [SA.a [sI (w/(4294967296:Int)%(4294967296:Int)),sI (w%(4294967296:Int))],SA.c (.v Value.nilIface)]else SV.t [SA.a [sI 0,sI 0],SA.c (.v (.iface 91 (Value.int .i64 (3:Int))))])/\true=true) (by kernel_rfl) ?_
 have e1:=QqY hp
 have e2:=Qnb hp
 rw[e1,e2,QH (by omega) (by omega),QH (by omega) (by omega)]
 exact⟨⟨hp,rfl⟩,⟨hp,rfl⟩,trivial,XA (fun h=>⟨by rw[h];rfl,rfl⟩) (fun h=>⟨by rw[h];rfl,rfl⟩)⟩
structure WlS where
 s:WkS
 m:Nat->Int
 t:Sto
abbrev WlS.z (s:WlS):WSt:=⟨s.s.w,s.m,s.t⟩
abbrev wkM (x y:Nat) (s:WkS) (z:WSt):List SB:=[wkC x y z.w s.ca s.na s.cd s.nd,ramB z.m,stoB z.s,wkA s.ma s.ca s.za,wkD s.md s.cd s.zd]
def Q8 (d:Int):MCon:=dcon WlS (fun s=>s.s.w.does=d/\s.s.w.th<4/\(0<=s.s.w.v/\s.s.w.v<18446744073709551616)/\(0<=s.s.w.seen 0/\s.s.w.seen 0<16)/\(0<=s.s.w.seen 2/\s.s.w.seen 2<=9223372036854775807)/\U64 (s.s.w.seen 1) /\
    (s.s.w.does=21->(s.m 1=s.s.w.v/\Qm (s.s.w.seen 0) s.s.w.th=s.s.w.tog)->ansOkB (s.s.w.seen 1/4294967296%4294967296) (s.s.w.seen 1%4294967296)=true\/s.s.w.seen 1=0))
 (fun s=>[.c (.p 0 0),.c (.p 1 0),.c (.p 2 0)]) (fun s=>wkM 3 4 s.s s.z) (fun s=>sv (.bool (QW s.z).2)) (fun s=>wkM 3 4 s.s (QW s.z).1) 5 Qct
theorem QkQ:(Con.mem (Q8 17)).holds Tryz.prog 39:=by
 intro w0 S
 refine Qb (Γ:=[(19,.mem Q6),(15,.mem QN),(65,.pure Xx),(72,.pure QbJ)]) (fun _=>noW) Tryz.func39 rfl (by kernel_rfl) Qg Qc (fun w S' _ _=>.cons (Xw w S') (.cons (QO w S') (.cons (Xy w S') (.cons (Qb6 w S') (.nil _ _ _))))) (Q8 17) (fun _=>[]) (fun x0 h s x=>⟨rfl,trivial⟩) (fun s ρ w _ _ _=>Qh w _) [] (Qn 5) 400 ?_
 rintro⟨⟨⟨th,does,k,key,x,tog,said,i,v,r,asks,deeds,seen,oc,ov,whn⟩,ma,ca,na,za,md,cd,nd,zd⟩,m,t⟩ W ⟨h0,h1,h2,h3,h4,h5,h6⟩ -
 refine⟨rfl,?_⟩
 dsimp only at h0 h1 h2 h3 h4 h5 h6
 subst h0
 refine Qi (q:=∃(s:Qa6),[aP 1 0,aI 1]=[aP 1 0,aI s.2]/\[ramB m]=[ramB s.1]/\(iR s.2 (16:Int))/\∀(x_1:Unit),True->endN (Q8 (17:Int)) [] (Qn 5) (WlS.mk (WkS.mk (Wk.mk th (17:Int) k key x tog said i v r asks deeds seen oc ov whn) ma ca na za md cd nd zd) m t) (SV.o (aB false)) [SB.cells [sI ↑th,sI 18,sI k,sI key,sI x,sI tog,sB said,sI i,sU (s.1 (Int.toNat s.2)),nU 32 r,sS 3 0 5 (List.length asks) ca na,sS 4 0 6 (List.length deeds) cd nd,nU 3 seen,sI oc,sI ov,sI whn] 42,ramB s.1,stoB (WlS.t (WlS.mk (WkS.mk (Wk.mk th (17:Int) k key x tog said i v r asks deeds seen oc ov whn) ma ca na za md cd nd zd) m t)),wkA ma ca za,wkD md cd zd]) (by kernel_rfl) ?_
 exact⟨⟨m,1⟩,rfl,rfl,⟨(by decide:(0:Int)<=1),(by decide:(1:Int)<16)⟩,fun _ _=>⟨(),trivial,rfl,rfl⟩⟩
theorem QkP:(Con.mem (Q8 18)).holds Tryz.prog 39:=by
 intro w0 S
 refine Qb (Γ:=[(19,.mem Q6),(15,.mem QN),(65,.pure Xx),(72,.pure QbJ)]) (fun _=>noW) Tryz.func39 rfl (by kernel_rfl) Qg Qc (fun w S' _ _=>.cons (Xw w S') (.cons (QO w S') (.cons (Xy w S') (.cons (Qb6 w S') (.nil _ _ _))))) (Q8 18) (fun _=>[]) (fun x0 h s x=>⟨rfl,trivial⟩) (fun s ρ w _ _ _=>Qh w _) [] (Qn 5) 400 ?_
 rintro⟨⟨⟨th,does,k,key,x,tog,said,i,v,r,asks,deeds,seen,oc,ov,whn⟩,ma,ca,na,za,md,cd,nd,zd⟩,m,t⟩ W ⟨h0,h1,h2,h3,h4,h5,h6⟩ -
 refine⟨rfl,?_⟩
 dsimp only at h0 h1 h2 h3 h4 h5 h6
 subst h0
 refine Qi (q:=(iR v (18446744073709551616:Int))/\∃(s:QC),[aP 2 0,aI (IntKind.wrap .i64 ((↑(Qq v):Int)+(26:Int)))]=[aP 2 0,aI s.2]/\[stoB (WlS.t (WlS.mk (WkS.mk (Wk.mk th (18:Int) k key x tog said i v r asks deeds seen oc ov whn) ma ca na za md cd nd zd) m t))]=[stoB (QC.s s)]/\(iR s.2 (72:Int))/\∀(x_1:Unit),True->(iR (0:Int) (3:Int))/\0<3/\dP Tryz.f39 5 5 [⟨15,[],[0],[3,4],false⟩,xF 14 0,xF 13 0,xF 12 0,xE 11,xE 10,xE 9,⟨8,[],[2],[],false⟩,xE 7,xE 6,xR 5 0,xF 4 0,xF 3 0,xF 2 0,xF 1 2,xF 0 0]/\endN (Q8 (18:Int)) [] (Qn 5) (WlS.mk (WkS.mk (Wk.mk th (18:Int) k key x tog said i v r asks deeds seen oc ov whn) ma ca na za md cd nd zd) m t) (SV.o (aB false)) [SB.cells [sI ↑th,sI 19,sI k,sI key,sI x,sI tog,sB said,sI i,sU v,nU 32 r,sS 3 0 5 (List.length asks) ca na,sS 4 0 6 (List.length deeds) cd nd,nU 3 fun (i:Nat)=>bif Nat.beq i 0 then (QC.s s).1 (Int.toNat s.2)else seen i,sI oc,sI ov,sI whn] 42,ramB m,stoB (QC.s s),wkA ma ca za,wkD md cd zd]) (by kernel_rfl) ?_
 have hb:Qq v<=40:=by unfold Qq;omega
 have e:IntKind.wrap .i64 ((Qq v:Int)+26)=((Qq v+26:Nat):Int):=by rw[QH (by omega) (by omega)];omega
 rw[e]
 exact⟨h2,⟨t,((Qq v+26:Nat):Int)⟩,rfl,rfl,⟨(by omega:(0:Int)<=((Qq v+26:Nat):Int)),(by omega:((Qq v+26:Nat):Int)<72)⟩,fun _ _=>⟨⟨by decide,by decide⟩,by decide,Qf (by kernel_rfl),(),trivial,rfl,rfl⟩⟩
theorem QkO:(Con.mem (Q8 19)).holds Tryz.prog 39:=by
 intro w0 S
 refine Qb (Γ:=[(19,.mem Q6),(15,.mem QN),(65,.pure Xx),(72,.pure QbJ)]) (fun _=>noW) Tryz.func39 rfl (by kernel_rfl) Qg Qc (fun w S' _ _=>.cons (Xw w S') (.cons (QO w S') (.cons (Xy w S') (.cons (Qb6 w S') (.nil _ _ _))))) (Q8 19) (fun _=>[]) (fun x0 h s x=>⟨rfl,trivial⟩) (fun s ρ w _ _ _=>Qh w _) [] (Qn 5) 400 ?_
 rintro⟨⟨⟨th,does,k,key,x,tog,said,i,v,r,asks,deeds,seen,oc,ov,whn⟩,ma,ca,na,za,md,cd,nd,zd⟩,m,t⟩ W ⟨h0,h1,h2,h3,h4,h5,h6⟩ -
 refine⟨rfl,?_⟩
 dsimp only at h0 h1 h2 h3 h4 h5 h6
 subst h0
 refine Qi (q:=(iR v (18446744073709551616:Int))/\∃(s:QC),[aP 2 0,aI (IntKind.wrap .i64 (IntKind.wrap .i64 ((↑(Qq v):Int)+(18:Int))+(↑th:Int)))]=[aP 2 0,aI s.2]/\[stoB (WlS.t (WlS.mk (WkS.mk (Wk.mk th (19:Int) k key x tog said i v r asks deeds seen oc ov whn) ma ca na za md cd nd zd) m t))]=[stoB (QC.s s)]/\(iR s.2 (72:Int))/\∀(x_1:Unit),True->(iR (1:Int) (3:Int))/\1<3/\dP Tryz.f39 7 5 [⟨20,[],[0],[3,4],false⟩,xF 19 0,xF 18 0,xF 17 0,xE 16,xE 15,xE 14,⟨13,[],[2],[],false⟩,xE 12,xR 11 0,xF 10 0,xF 9 0,xF 8 0,xE 7,xE 6,xR 5 0,xF 4 0,xF 3 0,xF 2 0,xF 1 2,xF 0 0]/\endN (Q8 (19:Int)) [] (Qn 5) (WlS.mk (WkS.mk (Wk.mk th (19:Int) k key x tog said i v r asks deeds seen oc ov whn) ma ca na za md cd nd zd) m t) (SV.o (aB false)) [SB.cells [sI ↑th,sI 20,sI k,sI key,sI x,sI tog,sB said,sI i,sU v,nU 32 r,sS 3 0 5 (List.length asks) ca na,sS 4 0 6 (List.length deeds) cd nd,nU 3 fun (i:Nat)=>bif Nat.beq i 1 then (QC.s s).1 (Int.toNat s.2)else seen i,sI oc,sI ov,sI whn] 42,ramB m,stoB (QC.s s),wkA ma ca za,wkD md cd zd]) (by kernel_rfl) ?_
 have hb:Qq v<=40:=by unfold Qq;omega
 have e:IntKind.wrap .i64 (IntKind.wrap .i64 ((Qq v:Int)+18)+(th:Int))=((Qq v+18+th:Nat):Int):=by rw[QH (x:=(Qq v:Int)+18) (by omega) (by omega),QH (by omega) (by omega)];omega
 rw[e]
 exact⟨h2,⟨t,((Qq v+18+th:Nat):Int)⟩,rfl,rfl,⟨(by omega:(0:Int)<=((Qq v+18+th:Nat):Int)),(by omega:((Qq v+18+th:Nat):Int)<72)⟩,fun _ _=>⟨⟨by decide,by decide⟩,by decide,Qf (by kernel_rfl),(),trivial,rfl,rfl⟩⟩
theorem QkN:(Con.mem (Q8 20)).holds Tryz.prog 39:=by
 intro w0 S
 refine Qb (Γ:=[(19,.mem Q6),(15,.mem QN),(65,.pure Xx),(72,.pure QbJ)]) (fun _=>noW) Tryz.func39 rfl (by kernel_rfl) Qg Qc (fun w S' _ _=>.cons (Xw w S') (.cons (QO w S') (.cons (Xy w S') (.cons (Qb6 w S') (.nil _ _ _))))) (Q8 20) (fun _=>[]) (fun x0 h s x=>⟨rfl,trivial⟩) (fun s ρ w _ _ _=>Qh w _) [] (Qn 5) 400 ?_
 rintro⟨⟨⟨th,does,k,key,x,tog,said,i,v,r,asks,deeds,seen,oc,ov,whn⟩,ma,ca,na,za,md,cd,nd,zd⟩,m,t⟩ W ⟨h0,h1,h2,h3,h4,h5,h6⟩ -
 refine⟨rfl,?_⟩
 dsimp only at h0 h1 h2 h3 h4 h5 h6
 subst h0
 refine Qi (q:=(iR v (18446744073709551616:Int))/\∃(s:QC),[aP 2 0,aI (IntKind.wrap .i64 (IntKind.wrap .i64 ((↑(Qq v):Int)+(22:Int))+(↑th:Int)))]=[aP 2 0,aI s.2]/\[stoB (WlS.t (WlS.mk (WkS.mk (Wk.mk th (20:Int) k key x tog said i v r asks deeds seen oc ov whn) ma ca na za md cd nd zd) m t))]=[stoB (QC.s s)]/\(iR s.2 (72:Int))/\∀(x_1:Unit),True->(iR (2:Int) (3:Int))/\2<3/\dP Tryz.f39 9 5 [⟨20,[],[0],[3,4],false⟩,xF 19 0,xF 18 0,xF 17 0,xE 16,xE 15,xE 14,⟨13,[],[2],[],false⟩,xE 12,xR 11 0,xF 10 0,xF 9 0,xF 8 0,xE 7,xE 6,xR 5 0,xF 4 0,xF 3 0,xF 2 0,xF 1 2,xF 0 0]/\endN (Q8 (20:Int)) [] (Qn 5) (WlS.mk (WkS.mk (Wk.mk th (20:Int) k key x tog said i v r asks deeds seen oc ov whn) ma ca na za md cd nd zd) m t) (SV.o (aB false)) [SB.cells [sI ↑th,sI 21,sI k,sI key,sI x,sI tog,sB said,sI i,sU v,nU 32 r,sS 3 0 5 (List.length asks) ca na,sS 4 0 6 (List.length deeds) cd nd,nU 3 fun (i:Nat)=>bif Nat.beq i 2 then (QC.s s).1 (Int.toNat s.2)else seen i,sI oc,sI ov,sI whn] 42,ramB m,stoB (QC.s s),wkA ma ca za,wkD md cd zd]) (by kernel_rfl) ?_
 have hb:Qq v<=40:=by unfold Qq;omega
 have e:IntKind.wrap .i64 (IntKind.wrap .i64 ((Qq v:Int)+22)+(th:Int))=((Qq v+22+th:Nat):Int):=by rw[QH (x:=(Qq v:Int)+22) (by omega) (by omega),QH (by omega) (by omega)];omega
 rw[e]
 exact⟨h2,⟨t,((Qq v+22+th:Nat):Int)⟩,rfl,rfl,⟨(by omega:(0:Int)<=((Qq v+22+th:Nat):Int)),(by omega:((Qq v+22+th:Nat):Int)<72)⟩,fun _ _=>⟨⟨by decide,by decide⟩,by decide,Qf (by kernel_rfl),(),trivial,rfl,rfl⟩⟩
theorem QkM:(Con.mem (Q8 21)).holds Tryz.prog 39:=by
 intro w0 S
 refine Qb (Γ:=[(19,.mem Q6),(15,.mem QN),(65,.pure Xx),(72,.pure QbJ)]) (fun _=>noW) Tryz.func39 rfl (by kernel_rfl) Qg Qc (fun w S' _ _=>.cons (Xw w S') (.cons (QO w S') (.cons (Xy w S') (.cons (Qb6 w S') (.nil _ _ _))))) (Q8 21) (fun _=>[]) (fun x0 h s x=>⟨rfl,trivial⟩) (fun s ρ w _ _ _=>Qh w _) [] (Qn 5) 400 ?_
 rintro⟨⟨⟨th,does,k,key,x,tog,said,i,v,r,asks,deeds,seen,oc,ov,whn⟩,ma,ca,na,za,md,cd,nd,zd⟩,m,t⟩ W ⟨h0,h1,h2,h3,h4,h5,h6⟩ -
 refine⟨rfl,?_⟩
 dsimp only at h0 h1 h2 h3 h4 h5 h6
 subst h0
 refine Qi (q:=∃(s:Qa6),[aP 1 0,aI 1]=[aP 1 0,aI s.2]/\[ramB m]=[ramB s.1]/\(iR s.2 (16:Int))/\∀(x_1:Unit),True->bif s.1 (Int.toNat s.2)==v then (iR (0:Int) (3:Int))/\0<3/\(0:Int)<=(↑th:Int)/\dP Tryz.f39 12 5 [xE 24,xE 23,xR 22 0,xF 21 0,xF 20 0,xF 19 0,xE 18,xE 17,xE 16,xR 15 0,xF 14 0,xF 13 0,xF 12 0,xR 11 0,xF 10 0,xF 9 0,xF 8 0,xF 7 0,xE 6,xE 5,xR 4 0,xF 3 0,xF 2 0,xF 1 0,xE 0]/\bif IntKind.wrap .i64 (bits BinOp.and .u64 (Int.fdiv (seen 0) ((2:Int)^min (Int.toNat (↑th:Int)) 64)) (1:Int))==tog then (iR (1:Int) (3:Int))/\1<3/\U64 (seen 1)/\bif ansOkB (seen 1/(4294967296:Int)%(4294967296:Int)) (seen 1%(4294967296:Int))then (iR (2:Int) (3:Int))/\2<3/\endN (Q8 (21:Int)) [] (Qn 5) (WlS.mk (WkS.mk (Wk.mk th (21:Int) k key x tog said i v r asks deeds seen oc ov whn) ma ca na za md cd nd zd) m t) (SV.o (aB true)) [SB.cells [sI ↑th,sI 0,sI k,sI key,sI x,sI tog,sB said,sI i,sU v,nU 32 r,sS 3 0 5 (List.length asks) ca na,sS 4 0 6 (List.length deeds) cd nd,nU 3 seen,sI (seen 1/(4294967296:Int)%(4294967296:Int)),sI (seen 1%(4294967296:Int)),sI (IntKind.wrap .i64 (seen 2))] 42,ramB s.1,stoB (WlS.t (WlS.mk (WkS.mk (Wk.mk th (21:Int) k key x tog said i v r asks deeds seen oc ov whn) ma ca na za md cd nd zd) m t)),wkA ma ca za,wkD md cd zd]else (iR (2:Int) (3:Int))/\2<3/\endN (Q8 (21:Int)) [] (Qn 5) (WlS.mk (WkS.mk (Wk.mk th (21:Int) k key x tog said i v r asks deeds seen oc ov whn) ma ca na za md cd nd zd) m t) (SV.o (aB true)) [SB.cells [sI ↑th,sI 0,sI k,sI key,sI x,sI tog,sB said,sI i,sU v,nU 32 r,sS 3 0 5 (List.length asks) ca na,sS 4 0 6 (List.length deeds) cd nd,nU 3 seen,sI 0,sI 0,sI (IntKind.wrap .i64 (seen 2))] 42,ramB s.1,stoB (WlS.t (WlS.mk (WkS.mk (Wk.mk th (21:Int) k key x tog said i v r asks deeds seen oc ov whn) ma ca na za md cd nd zd) m t)),wkA ma ca za,wkD md cd zd]else bif bif said then false else true then endN (Q8 (21:Int)) [] (Qn 5) (WlS.mk (WkS.mk (Wk.mk th (21:Int) k key x tog said i v r asks deeds seen oc ov whn) ma ca na za md cd nd zd) m t) (SV.o (aB false)) [SB.cells [sI ↑th,sI 1,sI k,sI key,sI x,sI tog,sB said,sI i,sU v,nU 32 r,sS 3 0 5 (List.length asks) ca na,sS 4 0 6 (List.length deeds) cd nd,nU 3 seen,sI oc,sI ov,sI whn] 42,ramB s.1,stoB (WlS.t (WlS.mk (WkS.mk (Wk.mk th (21:Int) k key x tog said i v r asks deeds seen oc ov whn) ma ca na za md cd nd zd) m t)),wkA ma ca za,wkD md cd zd]else endN (Q8 (21:Int)) [] (Qn 5) (WlS.mk (WkS.mk (Wk.mk th (21:Int) k key x tog said i v r asks deeds seen oc ov whn) ma ca na za md cd nd zd) m t) (SV.o (aB false)) [SB.cells [sI ↑th,sI 3,sI k,sI key,sI x,sI tog,sB said,sI i,sU v,nU 32 r,sS 3 0 5 (List.length asks) ca na,sS 4 0 6 (List.length deeds) cd nd,nU 3 seen,sI oc,sI ov,sI whn] 42,ramB s.1,stoB (WlS.t (WlS.mk (WkS.mk (Wk.mk th (21:Int) k key x tog said i v r asks deeds seen oc ov whn) ma ca na za md cd nd zd) m t)),wkA ma ca za,wkD md cd zd]else dP Tryz.f39 12 5 [xE 24,xE 23,xE 22,xE 21,xE 20,xE 19,xE 18,xE 17,xE 16,xE 15,xE 14,xE 13,xE 12,xE 11,xE 10,xE 9,xE 8,xE 7,xE 6,xE 5,xR 4 0,xF 3 0,xF 2 0,xF 1 0,xE 0]/\bif bif said then false else true then endN (Q8 (21:Int)) [] (Qn 5) (WlS.mk (WkS.mk (Wk.mk th (21:Int) k key x tog said i v r asks deeds seen oc ov whn) ma ca na za md cd nd zd) m t) (SV.o (aB false)) [SB.cells [sI ↑th,sI 1,sI k,sI key,sI x,sI tog,sB said,sI i,sU v,nU 32 r,sS 3 0 5 (List.length asks) ca na,sS 4 0 6 (List.length deeds) cd nd,nU 3 seen,sI oc,sI ov,sI whn] 42,ramB s.1,stoB (WlS.t (WlS.mk (WkS.mk (Wk.mk th (21:Int) k key x tog said i v r asks deeds seen oc ov whn) ma ca na za md cd nd zd) m t)),wkA ma ca za,wkD md cd zd]else endN (Q8 (21:Int)) [] (Qn 5) (WlS.mk (WkS.mk (Wk.mk th (21:Int) k key x tog said i v r asks deeds seen oc ov whn) ma ca na za md cd nd zd) m t) (SV.o (aB false)) [SB.cells [sI ↑th,sI 3,sI k,sI key,sI x,sI tog,sB said,sI i,sU v,nU 32 r,sS 3 0 5 (List.length asks) ca na,sS 4 0 6 (List.length deeds) cd nd,nU 3 seen,sI oc,sI ov,sI whn] 42,ramB s.1,stoB (WlS.t (WlS.mk (WkS.mk (Wk.mk th (21:Int) k key x tog said i v r asks deeds seen oc ov whn) ma ca na za md cd nd zd) m t)),wkA ma ca za,wkD md cd zd]) (by kernel_rfl) ?_
 have eb:IntKind.wrap .i64 (bits BinOp.and .u64 (Int.fdiv (seen 0) (2^min (Int.toNat (th:Int)) 64)) 1)=Qm (seen 0) th:=by
  have:=Qg5 (w:=seen 0) (a:=(th:Int)) (n:=1) ⟨by omega,by omega⟩ (by unfold Qcn;exact decide_eq_true (by omega))
  rw[show Qf7 1=1 from rfl]at this
  rw[this]
  have hs:(seen 0).toNat<16:=by omega
  have ht:((seen 0).toNat:Int)=seen 0:=by omega
  have hg:getZ (seen 0) (th:Int) 1=Qm (seen 0) th:=by
   unfold getZ Qm getN
   rw[Int.toNat_natCast]
   rcases (show th=0\/th=1\/th=2\/th=3 by omega)with rfl|rfl|rfl|rfl<;>(simp only[Int.toNat_one,Nat.pow_one,Nat.reducePow,Int.reducePow];omega)
  rw[hg]
  unfold Qm
  exact QH (by omega) (by omega)
 have e2:IntKind.wrap .i64 (seen 2)=seen 2:=QH (by omega) h4.2
 rw[eb,e2]
 refine⟨⟨m,1⟩,rfl,rfl,⟨(by decide:(0:Int)<=1),(by decide:(1:Int)<16)⟩,fun _ _=>?_⟩
 show bif m 1==v then _ else _
 refine QY (fun ev=>?_) (fun ev=>?_)
 · refine⟨⟨by decide,by decide⟩,by decide,by omega,Qf (by kernel_rfl),QY (fun eg=>?_) (fun eg=>?_)⟩
   · have ha:=h6 rfl ⟨ev,eg⟩
     have hl:QW ⟨⟨th,21,k,key,x,tog,said,i,v,r,asks,deeds,seen,oc,ov,whn⟩,m,t⟩=(⟨⟨th,0,k,key,x,tog,said,i,v,r,asks,deeds,seen,seen 1/4294967296%4294967296,seen 1%4294967296,seen 2⟩,m,t⟩,true):=by
      rw[QhU _ rfl,if_pos ⟨ev,eg⟩]
     refine⟨⟨by decide,by decide⟩,by decide,h5,Q1 (fun _=>⟨⟨by decide,by decide⟩,by decide,(),trivial,?_,?_⟩) (fun h=>⟨⟨by decide,by decide⟩,by decide,(),trivial,?_,?_⟩)⟩
     · show _=sv (.bool (QW _).2)
       rw[hl]
     · show _=wkM 3 4 _ (QW _).1
       rw[hl];rfl
     · show _=sv (.bool (QW _).2)
       rw[hl]
     · rcases ha with ha|ha
       · exact absurd (ha.symm.trans h) (by decide)
       · show _=wkM 3 4 _ (QW _).1
         rw[hl,ha];rfl
   · have hl (b:Bool):QW ⟨⟨th,21,k,key,x,tog,b,i,v,r,asks,deeds,seen,oc,ov,whn⟩,m,t⟩=(⟨⟨th,if b then 3 else 1,k,key,x,tog,b,i,v,r,asks,deeds,seen,oc,ov,whn⟩,m,t⟩,false):=by
      rw[QhU _ rfl,if_neg (fun h=>eg h.2)]
     refine XA (fun hs=>⟨(),trivial,?_,?_⟩) (fun hs=>⟨(),trivial,?_,?_⟩)<;>subst hs
     · show _=sv (.bool (QW _).2)
       rw[hl]
     · show _=wkM 3 4 _ (QW _).1
       rw[hl];rfl
     · show _=sv (.bool (QW _).2)
       rw[hl]
     · show _=wkM 3 4 _ (QW _).1
       rw[hl];rfl
 · have hl (b:Bool):QW ⟨⟨th,21,k,key,x,tog,b,i,v,r,asks,deeds,seen,oc,ov,whn⟩,m,t⟩=(⟨⟨th,if b then 3 else 1,k,key,x,tog,b,i,v,r,asks,deeds,seen,oc,ov,whn⟩,m,t⟩,false):=by
    rw[QhU _ rfl,if_neg (fun h=>ev h.1)]
   refine⟨Qf (by kernel_rfl),XA (fun hs=>⟨(),trivial,?_,?_⟩) (fun hs=>⟨(),trivial,?_,?_⟩)⟩<;>subst hs
   · show _=sv (.bool (QW _).2)
     rw[hl]
   · show _=wkM 3 4 _ (QW _).1
     rw[hl];rfl
   · show _=sv (.bool (QW _).2)
     rw[hl]
   · show _=wkM 3 4 _ (QW _).1
     rw[hl];rfl
abbrev recA (f:Nat->Int):SA:=.a [.ints (.int .u64) 32 f]
abbrev recB (f:Nat->Int):SB:=.cells [.ints (.int .u64) 32 f] 35
abbrev errA (n:Int):SA:=.c (.v (.iface 91 (.int .i64 n)))
def Qdw:PCon:=⟨fun args=>match args with
 |[.c (.v (.int .i64 k))]=>1<=k/\k<=6
 |_=>False,fun args=>match args with
 |[.c (.v (.int .i64 k))]=>.t [recA (fL (Rec.new k).words),nilE]
 |_=>sv undef,fun _=>none⟩
theorem Qov:(Con.pure Qdw).holds Tryz.prog 32:=by
 refine QF (Γ:=[(46,.pure QpB)]) Tryz.func32 rfl (by kernel_rfl) Qg Qc (fun W=>.cons (is_con W _) (.nil _ _ _)) Qdw (fun _=>[]) 400 ?_
 intro W args hp
 unfold Qdw at hp;dsimp only at hp;split at hp
 case h_2=>exact hp.elim
 rename_i k
 refine⟨rfl,?_⟩
 refine Qi (q:=True/\bif bif decide ((1:Int)<=k/\k<=(6:Int))then false else true then endP Qdw [aI k] (SV.t [SA.a [nU 32 zF],SA.c (.v (.iface 91 (Value.int .i64 (1:Int))))]) []else endP Qdw [aI k] (SV.t [SA.a [nU 32 fun (i:Nat)=>bif Nat.beq i 0 then IntKind.wrap .u64 k else (0:Int)],SA.c (.v Value.nilIface)]) []) (by kernel_rfl) ?_
 refine⟨trivial,XA (fun h=>absurd (show decide (1<=k/\k<=6)=true from decide_eq_true hp) (by rw[h];decide)) (fun _=>⟨rfl,fun ρ=>?_⟩)⟩
 have e:∀i,i<32->(fun i=>bif Nat.beq i 0 then k else 0) i=fL (Rec.new k).words i:=fun i hi=>by
  cases i with
  |zero=>rfl
  |succ j=>rw[show (Rec.new k).words=k::List.replicate 31 0 from rfl,Qak,Qe6];rfl
 simp only[PCon.out,Qdw,SV.den,List.map_cons,List.map_nil]
 rw[QaI (by omega) (by omega),QaC e];rfl
def Qc2:PCon:=⟨fun args=>match args with
 |[.a [.ints (.int .u64) n f]]=>n=32/\0<=f 0/\f 0<=6
 |_=>False,fun args=>match args with
 |[.a [.ints (.int .u64) n f]]=>sv (.int .i64 (f 0))
 |_=>sv undef,fun _=>none⟩
theorem QhL:(Con.pure Qc2).holds Tryz.prog 147:=by
 refine QF (Γ:=[]) Tryz.func147 rfl (by kernel_rfl) Qg Qc (fun W=>.nil _ _ _) Qc2 (fun _=>[]) 400 ?_
 intro W args hp
 unfold Qc2 at hp;dsimp only at hp;split at hp
 case h_2=>exact hp.elim
 rename_i n f
 obtain⟨rfl,h0,h6⟩:=hp
 refine⟨rfl,?_⟩
 refine Qi (q:=(iR (0:Int) (32:Int))/\0<32/\endP Qc2 [SA.a [nU 32 f]] (SV.o (aI (IntKind.wrap .i64 (if (4294967296:Int)<f 0 then (4294967296:Int)else f 0)))) []) (by kernel_rfl) ?_
 refine⟨⟨by decide,by decide⟩,by decide,rfl,fun ρ=>?_⟩
 rw[if_neg (by omega),QH (by omega) (by omega)];rfl
def Qbb:PCon:=⟨fun args=>match args with
 |[.a [.ints (.int .u64) n f]]=>n=32
 |_=>False,fun args=>match args with
 |[.a [.ints (.int .u64) n f]]=>.o (Qd4 (fL (toN 17 (fun i=>f (1+i)))))
 |_=>sv undef,fun _=>none⟩
theorem Qft:(Con.pure Qbb).holds Tryz.prog 148:=by
 refine QF (Γ:=[]) Tryz.func148 rfl (by kernel_rfl) Qg Qc (fun W=>.nil _ _ _) Qbb (fun _=>[]) 400 ?_
 intro W args hp
 unfold Qbb at hp;dsimp only at hp;split at hp
 case h_2=>exact hp.elim
 rename_i n f
 subst hp
 refine⟨rfl,?_⟩
 refine Qi (q:=((0:Int)<=(1:Int)/\(1:Int)<=(18:Int)/\(18:Int)<=(32:Int))/\endP Qbb [SA.a [nU 32 f]] (SV.o (SA.a [nU 17 fun (i:Nat)=>f (1+i)])) []) (by kernel_rfl) ?_
 exact⟨⟨by decide,by decide,by decide⟩,rfl,fun ρ=>QaC fun i hi=>(QeM (n:=17) (f:=fun i=>f (1+i)) hi).symm⟩
def Xk:PCon:=⟨fun args=>match args with
 |[.a [.ints (.int .u64) n f],.c (.v (.int .i64 t))]=>n=32/\0<=t/\t<4/\0<=f 26/\f 26<16
 |_=>False,fun args=>match args with
 |[.a [.ints (.int .u64) n f],.c (.v (.int .i64 t))]=>sv (.int .i64 (Qm (f 26) t.toNat))
 |_=>sv undef,fun _=>none⟩
theorem Qbk:(Con.pure Xk).holds Tryz.prog 67:=by
 refine QF (Γ:=[(102,.pure Qj3)]) Tryz.func67 rfl (by kernel_rfl) Qg Qc (fun W=>.cons (Qrn W _) (.nil _ _ _)) Xk (fun _=>[]) 400 ?_
 intro W args hp
 unfold Xk at hp;dsimp only at hp;split at hp
 case h_2=>exact hp.elim
 rename_i n f t
 obtain⟨rfl,h0,h4,g0,g16⟩:=hp
 refine⟨rfl,?_⟩
 refine Qi (q:=bif decide (t<(0:Int))then endP Xk [SA.a [nU 32 f],aI t] (SV.o (aI 0)) []else bif decide (t>=(4:Int))then endP Xk [SA.a [nU 32 f],aI t] (SV.o (aI 0)) []else (iR (26:Int) (32:Int))/\26<32/\U64 (f 26)/\bif bif bitZ (f 26) t then false else true then endP Xk [SA.a [nU 32 f],aI t] (SV.o (aI 0)) []else endP Xk [SA.a [nU 32 f],aI t] (SV.o (aI 1)) []) (by kernel_rfl) ?_
 obtain⟨T,rfl⟩:=Int.eq_ofNat_of_zero_le h0
 refine Qp (fun h=>absurd h (by omega)) (fun _=>Qp (fun h=>absurd h (by omega)) (fun _=>⟨⟨by decide,by decide⟩,by decide,⟨g0,by omega⟩,?_⟩))
 rw[QpR g0 g16 (by omega)]
 have h01:=QlM (f 26) T
 refine XA (fun h=>⟨rfl,fun ρ=>?_⟩) (fun h=>⟨rfl,fun ρ=>?_⟩)
 · show Value.int .i64 0=Value.int .i64 (Qm (f 26) T)
   have:¬Qm (f 26) T=1:=by simpa using h
   rw[show Qm (f 26) T=0 by omega]
 · show Value.int .i64 1=Value.int .i64 (Qm (f 26) T)
   rw[show Qm (f 26) T=1 by simpa using h]
def Xr:PCon:=⟨fun args=>match args with
 |[.a [.ints (.int .u64) n f],.c (.v (.int .i64 t))]=>n=32/\0<=t/\t<4/\U64 (f (18+t.toNat))/\0<=f (22+t.toNat)/\f (22+t.toNat)<=9223372036854775807
 |_=>False,fun args=>match args with
 |[.a [.ints (.int .u64) n f],.c (.v (.int .i64 t))]=>.t [ansA (f (18+t.toNat)/4294967296%4294967296) (f (18+t.toNat)%4294967296),.c (.v (.int .i64 (f (22+t.toNat)))),nilE]
 |_=>sv undef,fun args=>match args with
 |[.a [.ints (.int .u64) n f],.c (.v (.int .i64 t))]=>some (ansOkB (f (18+t.toNat)/4294967296%4294967296) (f (18+t.toNat)%4294967296),.t [ansA 0 0,.c (.v (.int .i64 0)),errA 8])
 |_=>none⟩
theorem Qfu:(Con.pure Xr).holds Tryz.prog 104:=by
 refine QF (Γ:=[(72,.pure QbJ)]) Tryz.func104 rfl (by kernel_rfl) Qg Qc (fun W=>.cons (Qb6 W _) (.nil _ _ _)) Xr (fun _=>[]) 400 ?_
 intro W args hp
 unfold Xr at hp;dsimp only at hp;split at hp
 case h_2=>exact hp.elim
 rename_i n f t
 obtain⟨rfl,h0,h4,hu,w0,w1⟩:=hp
 refine⟨rfl,?_⟩
 refine Qi (q:=bif decide (t<(0:Int))then endP Xr [SA.a [nU 32 f],aI t] (SV.t [SA.a [sI 0,sI 0],aI 0,SA.c (.v (.iface 91 (Value.int .i64 (2:Int))))]) []else bif decide (t>=(4:Int))then endP Xr [SA.a [nU 32 f],aI t] (SV.t [SA.a [sI 0,sI 0],aI 0,SA.c (.v (.iface 91 (Value.int .i64 (2:Int))))]) []else ((0:Int)<=IntKind.wrap .i64 ((18:Int)+t)/\IntKind.wrap .i64 ((18:Int)+t)<(32:Int))/\Int.toNat (IntKind.wrap .i64 ((18:Int)+t))<32/\U64 (f (Int.toNat (IntKind.wrap .i64 ((18:Int)+t))))/\bif ansOkB (f (Int.toNat (IntKind.wrap .i64 ((18:Int)+t)))/(4294967296:Int)%(4294967296:Int)) (f (Int.toNat (IntKind.wrap .i64 ((18:Int)+t)))%(4294967296:Int))then ((0:Int)<=IntKind.wrap .i64 ((22:Int)+t)/\IntKind.wrap .i64 ((22:Int)+t)<(32:Int))/\Int.toNat (IntKind.wrap .i64 ((22:Int)+t))<32/\dP Tryz.f104 6 3 [xE 8,xE 7,⟨6,[],[1],[],false⟩,xE 5,xR 4 0,xF 3 0,xE 2,xE 1,xR 0 2]/\endP Xr [SA.a [nU 32 f],aI t] (SV.t [SA.a [sI (f (Int.toNat (IntKind.wrap .i64 ((18:Int)+t)))/(4294967296:Int)%(4294967296:Int)),sI (f (Int.toNat (IntKind.wrap .i64 ((18:Int)+t)))%(4294967296:Int))],aI (IntKind.wrap .i64 (f (Int.toNat (IntKind.wrap .i64 ((22:Int)+t))))),SA.c (.v Value.nilIface)]) []else endP Xr [SA.a [nU 32 f],aI t] (SV.t [SA.a [sI 0,sI 0],aI 0,SA.c (.v (.iface 91 (Value.int .i64 (8:Int))))]) []) (by kernel_rfl) ?_
 obtain⟨T,rfl⟩:=Int.eq_ofNat_of_zero_le h0
 rw[Int.toNat_natCast]at hu w0 w1
 have e1:IntKind.wrap .i64 ((18:Int)+(T:Int))=((18+T:Nat):Int):=by rw[QH (by omega) (by omega)];omega
 have e2:IntKind.wrap .i64 ((22:Int)+(T:Int))=((22+T:Nat):Int):=by rw[QH (by omega) (by omega)];omega
 rw[e1,e2,Int.toNat_natCast,Int.toNat_natCast,QH (x:=f (22+T)) (by omega) (by omega)]
 refine Qp (fun h=>absurd h (by omega)) (fun _=>Qp (fun h=>absurd h (by omega)) (fun _=>⟨⟨by omega,by omega⟩,by omega,hu,Q1 (fun h=>⟨⟨by omega,by omega⟩,by omega,Qf (by kernel_rfl),rfl,fun ρ=>?_⟩) (fun h=>⟨rfl,fun ρ=>?_⟩)⟩))
 · simp only[PCon.out,Xr,Int.toNat_natCast,h,cond_true];rfl
 · simp only[PCon.out,Xr,Int.toNat_natCast,h,cond_false]
def QR:PCon:=⟨fun args=>match args with
 |[.a [.ints (.int .u64) n f]]=>n=32/\RecW f
 |_=>False,fun _=>sv (.bool true),fun _=>none⟩
structure RoG where
 t:Nat
 ht:t<=4
structure RiG where
 t:Nat
 u:Nat
 ht:t<4
 hu:u<=t
def annO (f:Nat->Int):Ann where
 σ:=RoG
 I g:=([(1,.o (.c (.p 0 0))),(3,sv (.int .u64 (f 28))),(35,sv (.int .i64 g.t))],[recB f])
 dec g:=4-g.t
 pi _ _:=[0]
 nz:=[]
def annI (f:Nat->Int):Ann where
 rel:=some fun a b=>b.t=a.t
 σ:=RiG
 I g:=([(1,.o (.c (.p 0 0))),(3,sv (.int .u64 (f 28))),(6,sv (.int .u64 (f (22+g.t)))),(35,sv (.int .i64 g.t)),(69,sv (.int .i64 g.t)),(70,sv (.int .i64 g.u))],[recB f])
 dec g:=g.t-g.u
 pi _ _:=[0]
 nz:=[]
def agRR:List SA->List (Nat × Anns)
 |[.a [.ints (.int .u64) n f]]=>[(127,[(0,annO f),(2,annI f)])]
 |_=>[]
theorem Qgh:(Con.pure QR).holds Tryz.prog 127:=by
 refine QF (Γ:=[(147,.pure Qc2),(148,.pure Qbb),(79,.pure QdY),(72,.pure QbJ)]) Tryz.func127 rfl (by kernel_rfl) Qg Qc
  (fun W=>.cons (QhL W _) (.cons (Qft W _) (.cons (QhM W _) (.cons (Qb6 W _) (.nil _ _ _))))) QR agRR 600 ?_
 intro W args hp
 unfold QR at hp;dsimp only at hp;split at hp
 case h_2=>exact hp.elim
 rename_i n f
 obtain⟨rfl,h⟩:=hp
 refine⟨rfl,?_⟩
 refine Qi (q:=(iR (28:Int) (32:Int))/\28<32/\(32=32/\(0:Int)<=f 0/\f 0<=(6:Int))/\32=32/\(17=17/\ObjForm (f 0) (toN 17 (fL (toN 17 fun (i:Nat)=>f (1+i)))))/\bif bif Qat (f 0) (toN 17 (fL (toN 17 fun (i:Nat)=>f (1+i))))then false else true then dP Tryz.f127 2 1 [xE 20,xE 19,xE 18,xE 17,xE 16,xE 15,xE 14,xE 13,xE 12,xE 11,xE 10,xE 9,xE 8,xE 7,xE 6,xE 5,xE 4,xE 3,xR 2 0,xE 1,xR 0 0]/\endP QR [SA.a [nU 32 f]] (SV.o (aB false)) []else (iR (26:Int) (32:Int))/\26<32/\(0:Int)<=(4:Int)/\bif Int.fdiv (f 26) (16:Int) != (0:Int)then dP Tryz.f127 2 1 [xE 20,xE 19,xE 18,xE 17,xE 16,xE 15,xE 14,xE 13,xE 12,xE 11,xE 10,xE 9,xR 8 0,xF 7 0,xE 6,xE 5,xE 4,xE 3,xR 2 0,xE 1,xR 0 0]/\endP QR [SA.a [nU 32 f]] (SV.o (aB false)) []else bif decide (f 28>(1099511627776:Int))then dP Tryz.f127 2 1 [xE 20,xE 19,xE 18,xE 17,xE 16,xE 15,xE 14,xE 13,xE 12,xE 11,xE 10,xE 9,xR 8 0,xF 7 0,xE 6,xE 5,xE 4,xE 3,xR 2 0,xE 1,xR 0 0]/\endP QR [SA.a [nU 32 f]] (SV.o (aB false)) []else (iR (27:Int) (32:Int))/\27<32/\dP Tryz.f127 2 1 [xE 20,xE 19,xR 18 0,xF 17 0,xE 16,xE 15,xE 14,xE 13,xE 12,xE 11,xE 10,xE 9,xR 8 0,xF 7 0,xE 6,xE 5,xE 4,xE 3,xR 2 0,xE 1,xR 0 0]/\bif decide (f 27>(1099511627776:Int))then endP QR [SA.a [nU 32 f]] (SV.o (aB false)) []else (∃(s0:Ann.σ (annO f)),(eS (aP 0 0) (aP 0 0)/\eS (aU (f 28)) (aU (f 28))/\eS (aI 0) (aI ↑s0.1)/\True)/\[SB.cells [nU 32 f] 35]=[SB.cells [nU 32 f] 35])/\∀(s:RoG),bif decide ((↑s.1:Int)<(4:Int))then ((0:Int)<=IntKind.wrap .i64 ((18:Int)+(↑s.1:Int))/\IntKind.wrap .i64 ((18:Int)+(↑s.1:Int))<(32:Int))/\Int.toNat (IntKind.wrap .i64 ((18:Int)+(↑s.1:Int)))<32/\((0:Int)<=IntKind.wrap .i64 ((22:Int)+(↑s.1:Int))/\IntKind.wrap .i64 ((22:Int)+(↑s.1:Int))<(32:Int))/\Int.toNat (IntKind.wrap .i64 ((22:Int)+(↑s.1:Int)))<32/\dP Tryz.f127 7 1 [xE 9,xE 8,xR 7 0,xF 6 0,xE 5,xE 4,xR 3 0,xF 2 0,xE 1,xE 0]/\U64 (f (Int.toNat (IntKind.wrap .i64 ((18:Int)+(↑s.1:Int)))))/\bif ansOkB (f (Int.toNat (IntKind.wrap .i64 ((18:Int)+(↑s.1:Int))))/(4294967296:Int)%(4294967296:Int)) (f (Int.toNat (IntKind.wrap .i64 ((18:Int)+(↑s.1:Int))))%(4294967296:Int))then bif decide (f (Int.toNat (IntKind.wrap .i64 ((22:Int)+(↑s.1:Int))))>f 28)then endP QR [SA.a [nU 32 f]] (SV.o (aB false)) []else bif bif (f (Int.toNat (IntKind.wrap .i64 ((18:Int)+(↑s.1:Int))))==(0:Int))==(f (Int.toNat (IntKind.wrap .i64 ((22:Int)+(↑s.1:Int))))==(0:Int))then false else true then endP QR [SA.a [nU 32 f]] (SV.o (aB false)) []else ∃(s0:RiG),((eS (aP 0 0) (aP 0 0)/\eS (aU (f 28)) (aU (f 28))/\eS (aU (f (Int.toNat (IntKind.wrap .i64 ((22:Int)+(↑s.1:Int)))))) (aU (f (22+s0.1)))/\eS (aI ↑s.1) (aI ↑s0.1)/\eS (aI ↑s.1) (aI ↑s0.1)/\eS (aI 0) (aI ↑s0.2)/\True)/\[SB.cells [nU 32 f] 35]=[SB.cells [nU 32 f] 35])/\s0.1=s0.1/\∀(s_1:RiG),s_1.1=s0.1->bif decide ((↑s_1.2:Int)<(↑s_1.1:Int))then bif f (22+s_1.1) != (0:Int)then ((0:Int)<=IntKind.wrap .i64 ((22:Int)+(↑s_1.2:Int))/\IntKind.wrap .i64 ((22:Int)+(↑s_1.2:Int))<(32:Int))/\Int.toNat (IntKind.wrap .i64 ((22:Int)+(↑s_1.2:Int)))<32/\bif f (Int.toNat (IntKind.wrap .i64 ((22:Int)+(↑s_1.2:Int))))==f (22+s_1.1)then endP QR [SA.a [nU 32 f]] (SV.o (aB false)) []else ∃(s':RiG),((eS (aP 0 0) (aP 0 0)/\eS (aU (f 28)) (aU (f 28))/\eS (aU (f (22+s_1.1))) (aU (f (22+s'.1)))/\eS (aI ↑s_1.1) (aI ↑s'.1)/\eS (aI ↑s_1.1) (aI ↑s'.1)/\eS (aI (IntKind.wrap .i64 ((↑s_1.2:Int)+(1:Int)))) (aI ↑s'.2)/\True)/\[SB.cells [nU 32 f] 35]=[SB.cells [nU 32 f] 35])/\s'.1=s0.1/\s'.1-s'.2<s_1.1-s_1.2 else ∃(s':RiG),((eS (aP 0 0) (aP 0 0)/\eS (aU (f 28)) (aU (f 28))/\eS (aU (f (22+s_1.1))) (aU (f (22+s'.1)))/\eS (aI ↑s_1.1) (aI ↑s'.1)/\eS (aI ↑s_1.1) (aI ↑s'.1)/\eS (aI (IntKind.wrap .i64 ((↑s_1.2:Int)+(1:Int)))) (aI ↑s'.2)/\True)/\[SB.cells [nU 32 f] 35]=[SB.cells [nU 32 f] 35])/\s'.1=s0.1/\s'.1-s'.2<s_1.1-s_1.2 else ∃(s':RoG),((eS (aP 0 0) (aP 0 0)/\eS (aU (f 28)) (aU (f 28))/\eS (aI (IntKind.wrap .i64 ((↑s_1.1:Int)+(1:Int)))) (aI ↑s'.1)/\True)/\[SB.cells [nU 32 f] 35]=[SB.cells [nU 32 f] 35])/\4-s'.1<4-s.1 else bif f (Int.toNat (IntKind.wrap .i64 ((18:Int)+(↑s.1:Int)))) != (0:Int)then endP QR [SA.a [nU 32 f]] (SV.o (aB false)) []else bif decide (f (Int.toNat (IntKind.wrap .i64 ((22:Int)+(↑s.1:Int))))>f 28)then endP QR [SA.a [nU 32 f]] (SV.o (aB false)) []else bif bif (f (Int.toNat (IntKind.wrap .i64 ((18:Int)+(↑s.1:Int))))==(0:Int))==(f (Int.toNat (IntKind.wrap .i64 ((22:Int)+(↑s.1:Int))))==(0:Int))then false else true then endP QR [SA.a [nU 32 f]] (SV.o (aB false)) []else ∃(s0:RiG),((eS (aP 0 0) (aP 0 0)/\eS (aU (f 28)) (aU (f 28))/\eS (aU (f (Int.toNat (IntKind.wrap .i64 ((22:Int)+(↑s.1:Int)))))) (aU (f (22+s0.1)))/\eS (aI ↑s.1) (aI ↑s0.1)/\eS (aI ↑s.1) (aI ↑s0.1)/\eS (aI 0) (aI ↑s0.2)/\True)/\[SB.cells [nU 32 f] 35]=[SB.cells [nU 32 f] 35])/\s0.1=s0.1/\∀(s_1:RiG),s_1.1=s0.1->bif decide ((↑s_1.2:Int)<(↑s_1.1:Int))then bif f (22+s_1.1) != (0:Int)then ((0:Int)<=IntKind.wrap .i64 ((22:Int)+(↑s_1.2:Int))/\IntKind.wrap .i64 ((22:Int)+(↑s_1.2:Int))<(32:Int))/\Int.toNat (IntKind.wrap .i64 ((22:Int)+(↑s_1.2:Int)))<32/\bif f (Int.toNat (IntKind.wrap .i64 ((22:Int)+(↑s_1.2:Int))))==f (22+s_1.1)then endP QR [SA.a [nU 32 f]] (SV.o (aB false)) []else ∃(s':RiG),((eS (aP 0 0) (aP 0 0)/\eS (aU (f 28)) (aU (f 28))/\eS (aU (f (22+s_1.1))) (aU (f (22+s'.1)))/\eS (aI ↑s_1.1) (aI ↑s'.1)/\eS (aI ↑s_1.1) (aI ↑s'.1)/\eS (aI (IntKind.wrap .i64 ((↑s_1.2:Int)+(1:Int)))) (aI ↑s'.2)/\True)/\[SB.cells [nU 32 f] 35]=[SB.cells [nU 32 f] 35])/\s'.1=s0.1/\s'.1-s'.2<s_1.1-s_1.2 else ∃(s':RiG),((eS (aP 0 0) (aP 0 0)/\eS (aU (f 28)) (aU (f 28))/\eS (aU (f (22+s_1.1))) (aU (f (22+s'.1)))/\eS (aI ↑s_1.1) (aI ↑s'.1)/\eS (aI ↑s_1.1) (aI ↑s'.1)/\eS (aI (IntKind.wrap .i64 ((↑s_1.2:Int)+(1:Int)))) (aI ↑s'.2)/\True)/\[SB.cells [nU 32 f] 35]=[SB.cells [nU 32 f] 35])/\s'.1=s0.1/\s'.1-s'.2<s_1.1-s_1.2 else ∃(s':RoG),((eS (aP 0 0) (aP 0 0)/\eS (aU (f 28)) (aU (f 28))/\eS (aI (IntKind.wrap .i64 ((↑s_1.1:Int)+(1:Int)))) (aI ↑s'.1)/\True)/\[SB.cells [nU 32 f] 35]=[SB.cells [nU 32 f] 35])/\4-s'.1<4-s.1 else ((0:Int)<=(29:Int)/\(29:Int)<=(32:Int)/\(32:Int)<=(32:Int))/\(iR (0:Int) (3:Int))/\29<32/\bif f 29 != (0:Int)then endP QR [SA.a [nU 32 f]] (SV.o (aB false)) []else (iR (1:Int) (3:Int))/\30<32/\bif f 30 != (0:Int)then endP QR [SA.a [nU 32 f]] (SV.o (aB false)) []else (iR (2:Int) (3:Int))/\31<32/\bif f 31 != (0:Int)then endP QR [SA.a [nU 32 f]] (SV.o (aB false)) []else endP QR [SA.a [nU 32 f]] (SV.o (aB true)) []) (by kernel_rfl) ?_
 obtain⟨t29,t30,t31⟩:=h.tail
 have hR:=h.1
 have k1:=hR.k1
 have k6:=hR.k6
 have c1:=hR.c1
 have v1:=hR.v1
 have g0:=hR.g0
 have g1:=hR.g1
 rw[QgQ]at k1 k6
 rw[QfB]at c1
 rw[QmB]at v1
 rw[QiP]at g0 g1
 have hok:Qc8 (f 0) (toN 17 fun i=>f (1+i)):=hR.ok
 have hrv:Qat (f 0) (toN 17 fun i=>f (1+i))=true:=by
  unfold Qat
  cases h4:(f 0==4)
  · rfl
  · have h4:=eq_of_beq h4
    obtain⟨l,e,l6,-,hh⟩:=ObjForm.list (.inl hok) (by omega) (by omega)
    simp only[cond_true]
    rw[e,QfF];exact (Qh0 l).2 ⟨hh h4 hok,l6⟩
 have each (t:Nat) (ht:t<4):U64 (f (18+t))/\((f (18+t)=0/\f (22+t)=0)\/(ansOkB (f (18+t)/4294967296%4294967296) (f (18+t)%4294967296)=true/\f (18+t)≠0/\1<=f (22+t)/\f (22+t)<=f 28)):=by
  have:=hR.each t ht
  rw[QqQ f t ht,QiO f t ht,QfB]at this
  rcases this with⟨a,b⟩|⟨⟨c,v,hA,e⟩,b,d⟩
  · exact⟨⟨by omega,by omega⟩,.inl ⟨a,b⟩⟩
  · have hw:=Qd7 hA
    rw[<- e]at hw
    exact⟨⟨by omega,by omega⟩,.inr ⟨by rw[hw.1,hw.2.1];exact (Qb3 c v).2 hA,by omega,b,d⟩⟩
 have once (t u:Nat) (ht:t<4) (hu:u<t) (hn:f (22+t)≠0):f (22+u)≠f (22+t):=by
  have:=hR.once t u ht hu
  rw[QiO f t ht,QiO f u (by omega)]at this
  exact this hn
 have wa (t:Nat) (ht:t<4):IntKind.wrap .i64 ((18:Int)+(t:Int))=((18+t:Nat):Int):=by rw[QH (by omega) (by omega)];omega
 have ww (t:Nat) (ht:t<4):IntKind.wrap .i64 ((22:Int)+(t:Int))=((22+t:Nat):Int):=by rw[QH (by omega) (by omega)];omega
 rw[Qbu (Qbd 17 _),hrv,t29,t30,t31,show Int.fdiv (f 26) 16=0 by rw[Int.fdiv_eq_ediv_of_nonneg _ (by decide)];omega]
 have hlast:∀(t:Nat),t<4->∀M,M=[recB f]->∃s':RoG,((some (SV.o (SA.c (.p 0 0)))=some (SV.o (SA.c (.p 0 0)))/\some (sv (.int .u64 (f 28)))=some (sv (.int .u64 (f 28)))/\some (sv (.int .i64 (IntKind.wrap .i64 ((t:Int)+1))))=some (sv (.int .i64 s'.t))/\True)/\M=[recB f])/\4-s'.t<4-t:=
  fun t ht M hM=>⟨⟨t+1,by omega⟩,⟨⟨rfl,rfl,svI (sucI (by omega)),trivial⟩,hM⟩,by dsimp only;omega⟩
 refine⟨⟨by decide,by decide⟩,by decide,⟨rfl,by omega,by omega⟩,rfl,⟨rfl,.inl hok⟩,XA (fun h=>by cases h) (fun _=>⟨⟨by decide,by decide⟩,by decide,by decide,QG (fun h=>absurd rfl h) (fun _=>Qp (fun h=>absurd h (by omega)) (fun _=>⟨⟨by decide,by decide⟩,by decide,Qf (by kernel_rfl),Qp (fun h=>absurd h (by omega)) (fun _=>⟨⟨⟨0,by omega⟩,⟨rfl,rfl,rfl,trivial⟩,rfl⟩,?_⟩)⟩))⟩)⟩
 rintro⟨t,ht⟩
 dsimp only
 refine Qp (fun hlt=>?_) (fun _=>⟨⟨by decide,by decide,by decide⟩,⟨by decide,by decide⟩,by decide,QG (fun h=>absurd rfl h) (fun _=>⟨⟨by decide,by decide⟩,by decide,QG (fun h=>absurd rfl h) (fun _=>⟨⟨by decide,by decide⟩,by decide,QG (fun h=>absurd rfl h) (fun _=>⟨rfl,fun ρ=>rfl⟩)⟩)⟩)⟩)
 have ht4:t<4:=by omega
 obtain⟨hu,he⟩:=each t ht4
 rw[wa t ht4,ww t ht4,Int.toNat_natCast,Int.toNat_natCast]
 refine⟨⟨by omega,by omega⟩,by omega,⟨by omega,by omega⟩,by omega,Qf (by kernel_rfl),hu,?_⟩
 rcases he with⟨a0,b0⟩|⟨ha,a0,b0,b1⟩
 · rw[a0,b0]
   refine Q1 (fun h=>absurd h (by decide)) (fun _=>QG (fun h=>absurd rfl h) (fun _=>Qp (fun h=>absurd h (by have:=hR.c0;rw[QfB]at this;omega)) (fun _=>XA (fun h=>by cases h) (fun _=>?_))))
   refine⟨⟨t,0,ht4,by omega⟩,⟨⟨rfl,rfl,by rw[b0],rfl,rfl,rfl,trivial⟩,rfl⟩,rfl,?_⟩
   rintro⟨t',u,ht',hu'⟩ (rfl:t'=t)
   dsimp only
   rw[b0]
   refine Qp (fun hlt2=>QG (fun h=>absurd rfl h) (fun _=>?_)) (fun _=>hlast _ ht4 _ rfl)
   exact⟨⟨t',u+1,ht',by omega⟩,⟨⟨rfl,rfl,by rw[b0],rfl,rfl,svI (sucI (by omega)),trivial⟩,rfl⟩,rfl,by dsimp only;omega⟩
 · refine Q1 (fun _=>?_) (fun h=>absurd (ha.symm.trans h) (by decide))
   refine Qp (fun h=>absurd h (by omega)) (fun _=>XA (fun h=>?_) (fun _=>?_))
   · rw[show (f (18+t)==0)=false from beq_eq_false_iff_ne.2 a0,show (f (22+t)==0)=false from beq_eq_false_iff_ne.2 (by omega)]at h
     cases h
   refine⟨⟨t,0,ht4,by omega⟩,⟨⟨rfl,rfl,rfl,rfl,rfl,rfl,trivial⟩,rfl⟩,rfl,?_⟩
   rintro⟨t',u,ht',hu'⟩ (rfl:t'=t)
   dsimp only
   refine Qp (fun hlt2=>QG (fun _=>?_) (fun h=>absurd h (by omega))) (fun _=>hlast _ ht4 _ rfl)
   rw[ww u (by omega),Int.toNat_natCast]
   refine⟨⟨by omega,by omega⟩,by omega,QY (fun h=>absurd h (once t' u ht' (by omega) (by omega))) (fun _=>?_)⟩
   exact⟨⟨t',u+1,ht',by omega⟩,⟨⟨rfl,rfl,rfl,rfl,rfl,svI (sucI (by omega)),trivial⟩,rfl⟩,rfl,by dsimp only;omega⟩
def Xf:PCon:=⟨fun args=>match args with
 |[.a [.ints (.int .u64) n f],.c (.v (.int .i64 t)),.a [.one (.v (.int .i64 k)),.one (.v (.int .i64 key)),.one (.v (.int .i64 x))]]=>n=32/\RecW f/\0<=t/\t<4
 |_=>False,fun args=>match args with
 |[.a [.ints (.int .u64) n f],.c (.v (.int .i64 t)),.a [.one (.v (.int .i64 k)),.one (.v (.int .i64 key)),.one (.v (.int .i64 x))]]=>.t [recA (fL ((Rec.ofW (toN 32 f)).done t.toNat k key x).words),nilE]
 |_=>sv undef,fun args=>match args with
 |[.a [.ints (.int .u64) n f],.c (.v (.int .i64 t)),.a [.one (.v (.int .i64 k)),.one (.v (.int .i64 key)),.one (.v (.int .i64 x))]]=>some (opOk k key x,.t [recA (fun _=>0),errA 1])
 |_=>none⟩
theorem QdG (f g:Nat->Int) (T:Nat) (t k key x:Int) (ht:t.toNat=T) (ho:opOk k key x=true) (M:List SB) (hg:∀i,i<32->g i=fL ((Rec.ofW (toN 32 f)).done T k key x).words i):
 endP Xf [recA f,.c (.v (.int .i64 t)),opA k key x] (.t [recA g,.c (.v .nilIface)]) M:=by
 refine⟨rfl,fun ρ=>?_⟩
 subst ht
 simp only[PCon.out,Xf,ho,cond_true,SV.den,List.map_cons,List.map_nil]
 rw[QaC hg];rfl
theorem Qmo:(Con.pure Xf).holds Tryz.prog 129:=by
 refine QF (Γ:=[(127,.pure QR),(147,.pure Qc2),(148,.pure Qbb),(47,.pure QaQ),(149,.pure Qd1),(150,.pure Qhl)]) Tryz.func129 rfl (by kernel_rfl) Qg Qc
  (fun W=>.cons (Qgh W _) (.cons (QhL W _) (.cons (Qft W _) (.cons (do_con W _) (.cons (QlE W _) (.cons (Qpi W _) (.nil _ _ _))))))) Xf (fun _=>[]) 600 ?_
 intro W args hp
 unfold Xf at hp;dsimp only at hp;split at hp
 case h_2=>exact hp.elim
 rename_i n f t k key x
 obtain⟨rfl,h,h0,h4⟩:=hp
 refine⟨rfl,?_⟩
 have hR:=h.1
 have k1:=hR.k1
 have k6:=hR.k6
 have c0:=hR.c0
 have c1:=hR.c1
 have g0:=hR.g0
 have g1:=hR.g1
 rw[QgQ]at k1 k6
 rw[QfB]at c0 c1
 rw[QiP]at g0 g1
 have hok:Qc8 (f 0) (toN 17 fun i=>f (1+i)):=hR.ok
 have ht:t=0\/t=1\/t=2\/t=3:=by omega
 rcases ht with rfl|rfl|rfl|rfl
 ·
  refine Qi (q:=(32=32/\RecW f)/\(32=32/\(0:Int)<=f 0/\f 0<=(6:Int))/\32=32/\(17=17/\Qc8 (f 0) (toN 17 (fL (toN 17 fun (i:Nat)=>f (1+i)))))/\bif opOk k key x then dP Tryz.f129 5 3 [xE 14,⟨13,[],[4],[],false⟩,⟨12,[],[3],[],false⟩,⟨11,[],[4],[4],false⟩,⟨10,[],[3],[3],false⟩,xE 9,xE 8,xE 7,xE 6,xE 5,xR 4 1,xE 3,xR 2 0,xE 1,xR 0 0]/\((0:Int)<=(1:Int)/\(1:Int)<=(32:Int)/\(32:Int)<=(32:Int))/\((0:Int)<=(0:Int)/\(0:Int)<=(17:Int)/\(17:Int)<=(17:Int))/\dP Tryz.f129 8 5 [⟨2,[3],[0],[],false⟩,xF 1 3,xF 0 0]/\QV (Prod.snd (objR (f 0) (toN 17 (fL (toN 17 fun (i:Nat)=>f (1+i)))) k key x)).1 (Prod.snd (objR (f 0) (toN 17 (fL (toN 17 fun (i:Nat)=>f (1+i)))) k key x)).2/\(iR (18:Int) (32:Int))/\18<32/\(iR (28:Int) (32:Int))/\28<32/\(iR (28:Int) (32:Int))/\28<32/\(iR (28:Int) (32:Int))/\28<32/\(iR (22:Int) (32:Int))/\22<32/\(iR (26:Int) (32:Int))/\26<32/\U64 (f 26)/\(iR (26:Int) (32:Int))/\26<32/\endP Xf [SA.a [nU 32 f],aI 0,SA.a [sI k,sI key,sI x]] (SV.t [SA.a [nU 32 fun (i:Nat)=>bif Nat.beq i 26 then Qc7 (f 26) (0:Int)else bif Nat.beq i 22 then IntKind.wrap .u64 (f 28+(1:Int))else bif Nat.beq i 28 then IntKind.wrap .u64 (f 28+(1:Int))else bif Nat.beq i 18 then ansW (Prod.snd (objR (f 0) (toN 17 (fL (toN 17 fun (i:Nat)=>f (1+i)))) k key x)).1 (Prod.snd (objR (f 0) (toN 17 (fL (toN 17 fun (i:Nat)=>f (1+i)))) k key x)).2 else bif match Nat.ble 1 i with|false=>false|true=>Nat.ble i 17 then fL (objR (f 0) (toN 17 (fL (toN 17 fun (i:Nat)=>f (1+i)))) k key x).1 (match i with|0=>0|Nat.succ a=>a)else f i],SA.c (.v Value.nilIface)]) []else dP Tryz.f129 5 3 [xE 14,⟨13,[],[4],[],false⟩,⟨12,[],[3],[],false⟩,⟨11,[],[4],[4],false⟩,⟨10,[],[3],[3],false⟩,xE 9,xE 8,xE 7,xE 6,xE 5,xR 4 1,xE 3,xR 2 0,xE 1,xR 0 0]/\endP Xf [SA.a [nU 32 f],aI 0,SA.a [sI k,sI key,sI x]] (SV.t [SA.a [nU 32 zF],SA.c (.v (.iface 91 (Value.int .i64 (1:Int))))]) []) (by kernel_rfl) ?_
  refine⟨⟨rfl,h⟩,⟨rfl,by omega,by omega⟩,rfl,⟨rfl,by rw[Qbu (Qbd 17 _)];exact hok⟩,?_⟩
  rw[Qbu (Qbd 17 _)]
  refine Q1 (fun ho=>?_) (fun ho=>⟨Qf (by kernel_rfl),rfl,fun ρ=>?_⟩)
  · have hA:=(Qdo hok k key x ho).1
    rw[QaI (x:=f 28+1) (by omega) (by omega)]
    refine⟨Qf (by kernel_rfl),⟨by decide,by decide,by decide⟩,⟨by decide,by decide,by decide⟩,Qf (by kernel_rfl),hA,?_⟩
    repeat (first|refine⟨by decide,?_⟩|refine⟨⟨g0,by omega⟩,?_⟩)
    exact QdG f _ 0 0 k key x rfl ho _ (fun i hi=>Qe9 h 0 (by decide) k key x ho i hi)
  · simp only[PCon.out,Xf,ho,cond_false]
 ·
  refine Qi (q:=(32=32/\RecW f)/\(32=32/\(0:Int)<=f 0/\f 0<=(6:Int))/\32=32/\(17=17/\Qc8 (f 0) (toN 17 (fL (toN 17 fun (i:Nat)=>f (1+i)))))/\bif opOk k key x then dP Tryz.f129 5 3 [xE 14,⟨13,[],[4],[],false⟩,⟨12,[],[3],[],false⟩,⟨11,[],[4],[4],false⟩,⟨10,[],[3],[3],false⟩,xE 9,xE 8,xE 7,xE 6,xE 5,xR 4 1,xE 3,xR 2 0,xE 1,xR 0 0]/\((0:Int)<=(1:Int)/\(1:Int)<=(32:Int)/\(32:Int)<=(32:Int))/\((0:Int)<=(0:Int)/\(0:Int)<=(17:Int)/\(17:Int)<=(17:Int))/\dP Tryz.f129 8 5 [⟨2,[3],[0],[],false⟩,xF 1 3,xF 0 0]/\QV (Prod.snd (objR (f 0) (toN 17 (fL (toN 17 fun (i:Nat)=>f (1+i)))) k key x)).1 (Prod.snd (objR (f 0) (toN 17 (fL (toN 17 fun (i:Nat)=>f (1+i)))) k key x)).2/\(iR (19:Int) (32:Int))/\19<32/\(iR (28:Int) (32:Int))/\28<32/\(iR (28:Int) (32:Int))/\28<32/\(iR (28:Int) (32:Int))/\28<32/\(iR (23:Int) (32:Int))/\23<32/\(iR (26:Int) (32:Int))/\26<32/\U64 (f 26)/\(iR (26:Int) (32:Int))/\26<32/\endP Xf [SA.a [nU 32 f],aI 1,SA.a [sI k,sI key,sI x]] (SV.t [SA.a [nU 32 fun (i:Nat)=>bif Nat.beq i 26 then Qc7 (f 26) (1:Int)else bif Nat.beq i 23 then IntKind.wrap .u64 (f 28+(1:Int))else bif Nat.beq i 28 then IntKind.wrap .u64 (f 28+(1:Int))else bif Nat.beq i 19 then ansW (Prod.snd (objR (f 0) (toN 17 (fL (toN 17 fun (i:Nat)=>f (1+i)))) k key x)).1 (Prod.snd (objR (f 0) (toN 17 (fL (toN 17 fun (i:Nat)=>f (1+i)))) k key x)).2 else bif match Nat.ble 1 i with|false=>false|true=>Nat.ble i 17 then fL (objR (f 0) (toN 17 (fL (toN 17 fun (i:Nat)=>f (1+i)))) k key x).1 (match i with|0=>0|Nat.succ a=>a)else f i],SA.c (.v Value.nilIface)]) []else dP Tryz.f129 5 3 [xE 14,⟨13,[],[4],[],false⟩,⟨12,[],[3],[],false⟩,⟨11,[],[4],[4],false⟩,⟨10,[],[3],[3],false⟩,xE 9,xE 8,xE 7,xE 6,xE 5,xR 4 1,xE 3,xR 2 0,xE 1,xR 0 0]/\endP Xf [SA.a [nU 32 f],aI 1,SA.a [sI k,sI key,sI x]] (SV.t [SA.a [nU 32 zF],SA.c (.v (.iface 91 (Value.int .i64 (1:Int))))]) []) (by kernel_rfl) ?_
  refine⟨⟨rfl,h⟩,⟨rfl,by omega,by omega⟩,rfl,⟨rfl,by rw[Qbu (Qbd 17 _)];exact hok⟩,?_⟩
  rw[Qbu (Qbd 17 _)]
  refine Q1 (fun ho=>?_) (fun ho=>⟨Qf (by kernel_rfl),rfl,fun ρ=>?_⟩)
  · have hA:=(Qdo hok k key x ho).1
    rw[QaI (x:=f 28+1) (by omega) (by omega)]
    refine⟨Qf (by kernel_rfl),⟨by decide,by decide,by decide⟩,⟨by decide,by decide,by decide⟩,Qf (by kernel_rfl),hA,?_⟩
    repeat (first|refine⟨by decide,?_⟩|refine⟨⟨g0,by omega⟩,?_⟩)
    exact QdG f _ 1 1 k key x rfl ho _ (fun i hi=>Qe9 h 1 (by decide) k key x ho i hi)
  · simp only[PCon.out,Xf,ho,cond_false]
 ·
  refine Qi (q:=(32=32/\RecW f)/\(32=32/\(0:Int)<=f 0/\f 0<=(6:Int))/\32=32/\(17=17/\Qc8 (f 0) (toN 17 (fL (toN 17 fun (i:Nat)=>f (1+i)))))/\bif opOk k key x then dP Tryz.f129 5 3 [xE 14,⟨13,[],[4],[],false⟩,⟨12,[],[3],[],false⟩,⟨11,[],[4],[4],false⟩,⟨10,[],[3],[3],false⟩,xE 9,xE 8,xE 7,xE 6,xE 5,xR 4 1,xE 3,xR 2 0,xE 1,xR 0 0]/\((0:Int)<=(1:Int)/\(1:Int)<=(32:Int)/\(32:Int)<=(32:Int))/\((0:Int)<=(0:Int)/\(0:Int)<=(17:Int)/\(17:Int)<=(17:Int))/\dP Tryz.f129 8 5 [⟨2,[3],[0],[],false⟩,xF 1 3,xF 0 0]/\QV (Prod.snd (objR (f 0) (toN 17 (fL (toN 17 fun (i:Nat)=>f (1+i)))) k key x)).1 (Prod.snd (objR (f 0) (toN 17 (fL (toN 17 fun (i:Nat)=>f (1+i)))) k key x)).2/\(iR (20:Int) (32:Int))/\20<32/\(iR (28:Int) (32:Int))/\28<32/\(iR (28:Int) (32:Int))/\28<32/\(iR (28:Int) (32:Int))/\28<32/\(iR (24:Int) (32:Int))/\24<32/\(iR (26:Int) (32:Int))/\26<32/\U64 (f 26)/\(iR (26:Int) (32:Int))/\26<32/\endP Xf [SA.a [nU 32 f],aI 2,SA.a [sI k,sI key,sI x]] (SV.t [SA.a [nU 32 fun (i:Nat)=>bif Nat.beq i 26 then Qc7 (f 26) (2:Int)else bif Nat.beq i 24 then IntKind.wrap .u64 (f 28+(1:Int))else bif Nat.beq i 28 then IntKind.wrap .u64 (f 28+(1:Int))else bif Nat.beq i 20 then ansW (Prod.snd (objR (f 0) (toN 17 (fL (toN 17 fun (i:Nat)=>f (1+i)))) k key x)).1 (Prod.snd (objR (f 0) (toN 17 (fL (toN 17 fun (i:Nat)=>f (1+i)))) k key x)).2 else bif match Nat.ble 1 i with|false=>false|true=>Nat.ble i 17 then fL (objR (f 0) (toN 17 (fL (toN 17 fun (i:Nat)=>f (1+i)))) k key x).1 (match i with|0=>0|Nat.succ a=>a)else f i],SA.c (.v Value.nilIface)]) []else dP Tryz.f129 5 3 [xE 14,⟨13,[],[4],[],false⟩,⟨12,[],[3],[],false⟩,⟨11,[],[4],[4],false⟩,⟨10,[],[3],[3],false⟩,xE 9,xE 8,xE 7,xE 6,xE 5,xR 4 1,xE 3,xR 2 0,xE 1,xR 0 0]/\endP Xf [SA.a [nU 32 f],aI 2,SA.a [sI k,sI key,sI x]] (SV.t [SA.a [nU 32 zF],SA.c (.v (.iface 91 (Value.int .i64 (1:Int))))]) []) (by kernel_rfl) ?_
  refine⟨⟨rfl,h⟩,⟨rfl,by omega,by omega⟩,rfl,⟨rfl,by rw[Qbu (Qbd 17 _)];exact hok⟩,?_⟩
  rw[Qbu (Qbd 17 _)]
  refine Q1 (fun ho=>?_) (fun ho=>⟨Qf (by kernel_rfl),rfl,fun ρ=>?_⟩)
  · have hA:=(Qdo hok k key x ho).1
    rw[QaI (x:=f 28+1) (by omega) (by omega)]
    refine⟨Qf (by kernel_rfl),⟨by decide,by decide,by decide⟩,⟨by decide,by decide,by decide⟩,Qf (by kernel_rfl),hA,?_⟩
    repeat (first|refine⟨by decide,?_⟩|refine⟨⟨g0,by omega⟩,?_⟩)
    exact QdG f _ 2 2 k key x rfl ho _ (fun i hi=>Qe9 h 2 (by decide) k key x ho i hi)
  · simp only[PCon.out,Xf,ho,cond_false]
 ·
  refine Qi (q:=(32=32/\RecW f)/\(32=32/\(0:Int)<=f 0/\f 0<=(6:Int))/\32=32/\(17=17/\Qc8 (f 0) (toN 17 (fL (toN 17 fun (i:Nat)=>f (1+i)))))/\bif opOk k key x then dP Tryz.f129 5 3 [xE 14,⟨13,[],[4],[],false⟩,⟨12,[],[3],[],false⟩,⟨11,[],[4],[4],false⟩,⟨10,[],[3],[3],false⟩,xE 9,xE 8,xE 7,xE 6,xE 5,xR 4 1,xE 3,xR 2 0,xE 1,xR 0 0]/\((0:Int)<=(1:Int)/\(1:Int)<=(32:Int)/\(32:Int)<=(32:Int))/\((0:Int)<=(0:Int)/\(0:Int)<=(17:Int)/\(17:Int)<=(17:Int))/\dP Tryz.f129 8 5 [⟨2,[3],[0],[],false⟩,xF 1 3,xF 0 0]/\QV (Prod.snd (objR (f 0) (toN 17 (fL (toN 17 fun (i:Nat)=>f (1+i)))) k key x)).1 (Prod.snd (objR (f 0) (toN 17 (fL (toN 17 fun (i:Nat)=>f (1+i)))) k key x)).2/\(iR (21:Int) (32:Int))/\21<32/\(iR (28:Int) (32:Int))/\28<32/\(iR (28:Int) (32:Int))/\28<32/\(iR (28:Int) (32:Int))/\28<32/\(iR (25:Int) (32:Int))/\25<32/\(iR (26:Int) (32:Int))/\26<32/\U64 (f 26)/\(iR (26:Int) (32:Int))/\26<32/\endP Xf [SA.a [nU 32 f],aI 3,SA.a [sI k,sI key,sI x]] (SV.t [SA.a [nU 32 fun (i:Nat)=>bif Nat.beq i 26 then Qc7 (f 26) (3:Int)else bif Nat.beq i 25 then IntKind.wrap .u64 (f 28+(1:Int))else bif Nat.beq i 28 then IntKind.wrap .u64 (f 28+(1:Int))else bif Nat.beq i 21 then ansW (Prod.snd (objR (f 0) (toN 17 (fL (toN 17 fun (i:Nat)=>f (1+i)))) k key x)).1 (Prod.snd (objR (f 0) (toN 17 (fL (toN 17 fun (i:Nat)=>f (1+i)))) k key x)).2 else bif match Nat.ble 1 i with|false=>false|true=>Nat.ble i 17 then fL (objR (f 0) (toN 17 (fL (toN 17 fun (i:Nat)=>f (1+i)))) k key x).1 (match i with|0=>0|Nat.succ a=>a)else f i],SA.c (.v Value.nilIface)]) []else dP Tryz.f129 5 3 [xE 14,⟨13,[],[4],[],false⟩,⟨12,[],[3],[],false⟩,⟨11,[],[4],[4],false⟩,⟨10,[],[3],[3],false⟩,xE 9,xE 8,xE 7,xE 6,xE 5,xR 4 1,xE 3,xR 2 0,xE 1,xR 0 0]/\endP Xf [SA.a [nU 32 f],aI 3,SA.a [sI k,sI key,sI x]] (SV.t [SA.a [nU 32 zF],SA.c (.v (.iface 91 (Value.int .i64 (1:Int))))]) []) (by kernel_rfl) ?_
  refine⟨⟨rfl,h⟩,⟨rfl,by omega,by omega⟩,rfl,⟨rfl,by rw[Qbu (Qbd 17 _)];exact hok⟩,?_⟩
  rw[Qbu (Qbd 17 _)]
  refine Q1 (fun ho=>?_) (fun ho=>⟨Qf (by kernel_rfl),rfl,fun ρ=>?_⟩)
  · have hA:=(Qdo hok k key x ho).1
    rw[QaI (x:=f 28+1) (by omega) (by omega)]
    refine⟨Qf (by kernel_rfl),⟨by decide,by decide,by decide⟩,⟨by decide,by decide,by decide⟩,Qf (by kernel_rfl),hA,?_⟩
    repeat (first|refine⟨by decide,?_⟩|refine⟨⟨g0,by omega⟩,?_⟩)
    exact QdG f _ 3 3 k key x rfl ho _ (fun i hi=>Qe9 h 3 (by decide) k key x ho i hi)
  · simp only[PCon.out,Xf,ho,cond_false]
def Qhf:PCon:=⟨fun args=>match args with
 |[.c (.v (.int .i64 a)),.c (.v (.int .i64 n))]=>0<n/\n<=9223372036854775807
 |_=>False,fun args=>match args with
 |[.c (.v (.int .i64 a)),.c (.v (.int .i64 n))]=>sv (.int .i64 (QgO a n))
 |_=>sv undef,fun _=>none⟩
theorem QoE:(Con.pure Qhf).holds Tryz.prog 9:=by
 refine Qv (AG:=[]) (Γ:=[]) Tryz.func9 rfl (by kernel_rfl) Qg Qc (fun _=>GamOk.nil _ _ _) Qhf 400 ?_
 intro W args hp
 unfold Qhf at hp;dsimp only at hp;split at hp
 case h_2=>exact hp.elim
 rename_i a n
 refine⟨rfl,?_⟩
 refine Qi (q:=IntKind.wrap .u64 n≠(0:Int)/\SV.o (aI (IntKind.wrap .i64 (Int.tmod (IntKind.wrap .u64 a) (IntKind.wrap .u64 n))))=SV.o (aI (QgO a n))/\true=true) (by kernel_rfl) ?_
 have:=QoD a n hp
 exact⟨this.1,by rw[this.2],rfl⟩
def QfS:PCon:=⟨fun args=>match args with
 |[.c (.v (.int .i64 a))]=>True
 |_=>False,fun args=>match args with
 |[.c (.v (.int .i64 a))]=>sv (.int .i64 (1+QgO a 6))
 |_=>sv undef,fun _=>none⟩
theorem Qrw:(Con.pure QfS).holds Tryz.prog 8:=by
 refine Qv (AG:=[]) (Γ:=[(9,.pure Qhf)]) Tryz.func8 rfl (by kernel_rfl) Qg Qc (fun W=>.cons (QoE W _) (.nil _ _ _)) QfS 400 ?_
 intro W args hp
 unfold QfS at hp;dsimp only at hp;split at hp
 case h_2=>exact hp.elim
 rename_i a
 refine⟨rfl,?_⟩
 refine Qi (q:=((0:Int)<(6:Int)/\(6:Int)<=(9223372036854775807:Int))/\SV.o (aI (IntKind.wrap .i64 ((1:Int)+QgO a (6:Int))))=SV.o (aI ((1:Int)+QgO a (6:Int)))/\true=true) (by kernel_rfl) ?_
 have h1:=QeH a 6 (by decide)
 have h2:=Qjy a 6 (by decide)
 exact⟨⟨by decide,by decide⟩,by rw[QH (by omega) (by omega)],rfl⟩
def Qj2:PCon:=⟨fun args=>match args with
 |[.c (.v (.int .i64 a))]=>True
 |_=>False,fun args=>match args with
 |[.c (.v (.int .i64 a))]=>.o (opA 1 0 a)
 |_=>sv undef,fun _=>none⟩
theorem QqJ:(Con.pure Qj2).holds Tryz.prog 16:=by
 refine Qv (AG:=[]) (Γ:=[]) Tryz.func16 rfl (by kernel_rfl) Qg Qc (fun _=>GamOk.nil _ _ _) Qj2 400 ?_
 intro W args hp
 unfold Qj2 at hp;dsimp only at hp;split at hp
 case h_2=>exact hp.elim
 rename_i a
 refine⟨rfl,?_⟩
 refine Qi (q:=SV.o (SA.a [sI 1,sI 0,sI a])=SV.o (SA.a [sI 1,sI 0,sI a])/\true=true) (by kernel_rfl) ?_
 exact⟨rfl,rfl⟩
abbrev QqF (m c:Nat) (z:Nat->Nat->Int):SB:=.rows 139 [.int .i64,.int .i64,.int .i64,.int .i64,.int .i64] 5 m c z
abbrev rowsD (m c:Nat) (z:Nat->Nat->Int):SB:=.rows 60 [.int .i64,.int .i64,.int .i64,.int .i64,.int .i64,.int .i64] 6 m c z
abbrev nzD (t:Nat):NZ:=.tmp t 60 6 [.int .i64,.int .i64,.int .i64,.int .i64,.int .i64,.int .i64]
def Qcl:PCon:=⟨fun args=>match args with
 |[.a [.ints (.int .u64) n f],.a [.one (.v (.int .i64 t)),.one (.v (.int .i64 g)),.one (.v (.int .i64 a)),.one (.v (.int .i64 b)),.one (.v (.int .i64 c))]]=>n=32/\0<=t/\t<4/\(g=0\/g=1)/\0<=f 26/\f 26<16
 |_=>False,fun args=>match args with
 |[.a [.ints (.int .u64) n f],.a [.one (.v (.int .i64 t)),.one (.v (.int .i64 g)),.one (.v (.int .i64 a)),.one (.v (.int .i64 b)),.one (.v (.int .i64 c))]]=>.t [.c (.v (.bool (Qm (f 26) t.toNat != g))),nilE]
 |_=>sv undef,fun _=>none⟩
theorem QoH:(Con.pure Qcl).holds Tryz.prog 128:=by
 refine QF (Γ:=[(67,.pure Xk)]) Tryz.func128 rfl (by kernel_rfl) Qg Qc (fun W=>.cons (Qbk W _) (.nil _ _ _)) Qcl (fun _=>[]) 400 ?_
 intro W args hp
 unfold Qcl at hp;dsimp only at hp;split at hp
 case h_2=>exact hp.elim
 rename_i n f t g a b c
 obtain⟨rfl,h0,h4,hg,f0,f1⟩:=hp
 refine⟨rfl,?_⟩
 refine Qi (q:=bif decide (t<(0:Int))then endP Qcl [SA.a [nU 32 f],SA.a [sI t,sI g,sI a,sI b,sI c]] (SV.t [aB false,SA.c (.v (.iface 91 (Value.int .i64 (2:Int))))]) []else bif decide (t>=(4:Int))then endP Qcl [SA.a [nU 32 f],SA.a [sI t,sI g,sI a,sI b,sI c]] (SV.t [aB false,SA.c (.v (.iface 91 (Value.int .i64 (2:Int))))]) []else bif g != (0:Int)then bif g != (1:Int)then endP Qcl [SA.a [nU 32 f],SA.a [sI t,sI g,sI a,sI b,sI c]] (SV.t [aB false,SA.c (.v (.iface 91 (Value.int .i64 (1:Int))))]) []else (32=32/\(0:Int)<=t/\t<(4:Int)/\(0:Int)<=f 26/\f 26<(16:Int))/\dP Tryz.f128 5 2 [xE 8,xE 7,xE 6,xR 5 1,xF 4 1,xE 3,xR 2 1,xF 1 1,xR 0 0]/\endP Qcl [SA.a [nU 32 f],SA.a [sI t,sI g,sI a,sI b,sI c]] (SV.t [aB (Qm (f 26) (Int.toNat t) != g),SA.c (.v Value.nilIface)]) []else (32=32/\(0:Int)<=t/\t<(4:Int)/\(0:Int)<=f 26/\f 26<(16:Int))/\dP Tryz.f128 5 2 [xE 8,xE 7,xE 6,xR 5 1,xF 4 1,xE 3,xR 2 1,xF 1 1,xR 0 0]/\endP Qcl [SA.a [nU 32 f],SA.a [sI t,sI g,sI a,sI b,sI c]] (SV.t [aB (Qm (f 26) (Int.toNat t) != g),SA.c (.v Value.nilIface)]) []) (by kernel_rfl) ?_
 have hd:(32=32/\0<=t/\t<4/\0<=f 26/\f 26<16):=⟨rfl,h0,h4,f0,f1⟩
 refine Qp (fun h=>absurd h (by omega)) (fun _=>Qp (fun h=>absurd h (by omega)) (fun _=>QG (fun h=>QG (fun h=>absurd hg (by omega)) (fun _=>?_)) (fun _=>?_)))
 · exact⟨hd,Qf (by kernel_rfl),rfl,fun ρ=>rfl⟩
 · exact⟨hd,Qf (by kernel_rfl),rfl,fun ρ=>rfl⟩
theorem OldOk.none (w:World) {ρ:Nat->Nat}{k:Nat}:OldOk w w (feet (denM ρ k [])):=fun w' k=>⟨fun sz ks a m c z h=>h.below (k.below (Nat.le_refl _) (fun g ⟨e,he,_⟩=>absurd he List.not_mem_nil)),fun b o v h=>(k.cell (Qi9 h) (fun ⟨e,he,_⟩=>absurd he List.not_mem_nil)).trans h⟩
structure BdS where
 r:Rec
 f:Nat->Int
 l:List Ask
 lo:Nat
 m:Nat
 c:Nat
 nn:Bool
 z:Nat->Nat->Int
structure BdR where
 f:Nat->Int
 m:Nat
 c:Nat
 nn:Bool
 z:Nat->Nat->Int
abbrev BdS.pre (s:BdS):Prop:=(RecOK 1099511000000 s.r/\toN 32 s.f=s.r.words)/\AsksOK s.l/\s.l.length<=100/\(s.lo+s.l.length<=s.m/\s.m<=s.c)/\IsA (fun i=>s.z (s.lo+i)) s.l
def Qj4:MCon where
 σ:=BdS
 χ:=BdR
 pre s:=s.pre
 args s:=[recA s.f,.c (.so 0 s.lo 5 s.l.length s.c s.nn)]
 mem s:=[QqF s.m s.c s.z]
 ok s x:=((bD s.r s.l).length<=x.m/\x.m<=x.c)/\IsD x.z (bD s.r s.l)/\toN 32 x.f=(bDo s.r s.l).words
 val s x:=.t [recA x.f,.c (.so 1 0 6 (bD s.r s.l).length x.c x.nn),nilE]
 mem' s x:=[QqF s.m s.c s.z,rowsD x.m x.c x.z]
 k:=1
 len:=2
 det:=none
 find args M:=some (blkA args)
structure BdG (s:BdS) where
 i:Nat
 f:Nat->Int
 m:Nat
 c:Nat
 nn:Bool
 z:Nat->Nat->Int
 hi:i<=s.l.length
 hf:toN 32 f=(bR s.r (s.l.take i)).words
 hm:(bD s.r (s.l.take i)).length<=m/\m<=c
 hz:IsD z (bD s.r (s.l.take i))
def Qqm (s:BdS):Ann where
 σ:=BdG s
 I g:=([(2,.o (.c (.p 1 0))),(4,.o (.c (.p 2 0))),(7,.o (.c (.so 3 0 6 (bD s.r (s.l.take g.i)).length g.c g.nn))),(20,.o (.c (.so 0 s.lo 5 s.l.length s.c s.nn))),(21,sv (.int .i64 s.l.length)),(22,sv (.int .i64 g.i))],[QqF s.m s.c s.z,recB g.f,recB (fun _=>0),rowsD g.m g.c g.z])
 dec g:=s.l.length-g.i
 pi env _:=[0,blkE env 2,blkE env 4,blkE env 7]
 nz:=[nzD 7]
def rpB:SV->List SB->List Nat:=fun x M=>match x with
 |.t [_,.c (.so b _ _ _ _ _),_]=>[0,b]
 |_=>[]
theorem Qro:(Con.mem Qj4).holds Tryz.prog 103:=by
 intro w0 S
 refine Qb (Γ:=[(127,.pure QR),(128,.pure Qcl),(129,.pure Xf),(104,.pure Xr)]) (fun _=>noW) Tryz.func103 rfl (by kernel_rfl) Qg Qc
  (fun w S' _ _=>.cons (Qgh w _) (.cons (QoH w _) (.cons (Qmo w _) (.cons (Qfu w _) (.nil _ _ _))))) Qj4 (fun s=>[(103,[(0,Qqm s)])]) (fun x0 h=>by cases h) (fun s ρ w _ _ _=>Qh w _) [nzD 1] rpB 400 ?_
 rintro⟨r,f,l,lo,m,c,nn,z⟩ w ⟨⟨hr,hf⟩,ha,h3,⟨hm,hc⟩,hz⟩ -
 refine⟨rfl,?_⟩
 dsimp only at hr hf ha h3 hm hc hz
 refine Qi (q:=(32=32/\RecW f)/\List.length l<=c/\(∃(s0:Ann.σ (Qqm (BdS.mk r f l lo m c nn z))),(eS (aP 1 0) (aP 1 0)/\eS (aP 2 0) (aP 2 0)/\eS (SA.c (.so 3 0 6 0 0 false)) (SA.c (.so 3 0 6 (List.length (bD r (List.take s0.1 l))) s0.4 s0.5))/\eS (SA.c (.so 0 lo 5 (List.length l) c nn)) (SA.c (.so 0 lo 5 (List.length l) c nn))/\eS (aI (↑(List.length l):Int)) (aI (↑(List.length l):Int))/\eS (aI 0) (aI ↑s0.1)/\True)/\[SB.rows 139 kI5 5 m c z,SB.cells [nU 32 f] 35,SB.cells [nU 32 zF] 35,SB.rows 60 kI6 6 0 0 fun (x x_1:Nat)=>(0:Int)]=[SB.rows 139 kI5 5 m c z,SB.cells [nU 32 s0.2] 35,SB.cells [nU 32 zF] 35,SB.rows 60 kI6 6 s0.3 s0.4 s0.6])/\∀(s:BdG (BdS.mk r f l lo m c nn z)),bif decide ((↑s.1:Int)<(↑(List.length l):Int))then ((0:Int)<=(↑s.1:Int)/\(↑s.1:Int)<(↑(List.length l):Int)/\lo+List.length l<=c)/\lo+Int.toNat (↑s.1:Int)<m/\(32=32/\(0:Int)<=z (lo+Int.toNat (↑s.1:Int)) 0/\z (lo+Int.toNat (↑s.1:Int)) 0<(4:Int)/\(z (lo+Int.toNat (↑s.1:Int)) 1=(0:Int)\/z (lo+Int.toNat (↑s.1:Int)) 1=(1:Int))/\(0:Int)<=s.2 26/\s.2 26<(16:Int))/\bif bif Qm (s.2 26) (Int.toNat (z (lo+Int.toNat (↑s.1:Int)) 0)) != z (lo+Int.toNat (↑s.1:Int)) 1 then false else true then ∃(s':BdG (BdS.mk r f l lo m c nn z)),((eS (aP 1 0) (aP 1 0)/\eS (aP 2 0) (aP 2 0)/\eS (SA.c (.so 3 0 6 (List.length (bD r (List.take s.1 l))) s.4 s.5)) (SA.c (.so 3 0 6 (List.length (bD r (List.take s'.1 l))) s'.4 s'.5))/\eS (SA.c (.so 0 lo 5 (List.length l) c nn)) (SA.c (.so 0 lo 5 (List.length l) c nn))/\eS (aI (↑(List.length l):Int)) (aI (↑(List.length l):Int))/\eS (aI (IntKind.wrap .i64 ((↑s.1:Int)+(1:Int)))) (aI ↑s'.1)/\True)/\[SB.rows 139 kI5 5 m c z,SB.cells [nU 32 s.2] 35,SB.cells [nU 32 zF] 35,SB.rows 60 kI6 6 s.3 s.4 s.6]=[SB.rows 139 kI5 5 m c z,SB.cells [nU 32 s'.2] 35,SB.cells [nU 32 zF] 35,SB.rows 60 kI6 6 s'.3 s'.4 s'.6])/\List.length l-s'.1<List.length l-s.1 else (32=32/\RecW s.2/\(0:Int)<=z (lo+Int.toNat (↑s.1:Int)) 0/\z (lo+Int.toNat (↑s.1:Int)) 0<(4:Int))/\bif opOk (z (lo+Int.toNat (↑s.1:Int)) 2) (z (lo+Int.toNat (↑s.1:Int)) 3) (z (lo+Int.toNat (↑s.1:Int)) 4)then (32=32/\(0:Int)<=z (lo+Int.toNat (↑s.1:Int)) 0/\z (lo+Int.toNat (↑s.1:Int)) 0<(4:Int)/\U64 (fL (Rec.words (Rec.done (Rec.ofW (toN 32 s.2)) (Int.toNat (z (lo+Int.toNat (↑s.1:Int)) 0)) (z (lo+Int.toNat (↑s.1:Int)) 2) (z (lo+Int.toNat (↑s.1:Int)) 3) (z (lo+Int.toNat (↑s.1:Int)) 4))) (18+Int.toNat (z (lo+Int.toNat (↑s.1:Int)) 0)))/\(0:Int)<=fL (Rec.words (Rec.done (Rec.ofW (toN 32 s.2)) (Int.toNat (z (lo+Int.toNat (↑s.1:Int)) 0)) (z (lo+Int.toNat (↑s.1:Int)) 2) (z (lo+Int.toNat (↑s.1:Int)) 3) (z (lo+Int.toNat (↑s.1:Int)) 4))) (22+Int.toNat (z (lo+Int.toNat (↑s.1:Int)) 0))/\fL (Rec.words (Rec.done (Rec.ofW (toN 32 s.2)) (Int.toNat (z (lo+Int.toNat (↑s.1:Int)) 0)) (z (lo+Int.toNat (↑s.1:Int)) 2) (z (lo+Int.toNat (↑s.1:Int)) 3) (z (lo+Int.toNat (↑s.1:Int)) 4))) (22+Int.toNat (z (lo+Int.toNat (↑s.1:Int)) 0))<=(9223372036854775807:Int))/\bif ansOkB (fL (Rec.words (Rec.done (Rec.ofW (toN 32 s.2)) (Int.toNat (z (lo+Int.toNat (↑s.1:Int)) 0)) (z (lo+Int.toNat (↑s.1:Int)) 2) (z (lo+Int.toNat (↑s.1:Int)) 3) (z (lo+Int.toNat (↑s.1:Int)) 4))) (18+Int.toNat (z (lo+Int.toNat (↑s.1:Int)) 0))/(4294967296:Int)%(4294967296:Int)) (fL (Rec.words (Rec.done (Rec.ofW (toN 32 s.2)) (Int.toNat (z (lo+Int.toNat (↑s.1:Int)) 0)) (z (lo+Int.toNat (↑s.1:Int)) 2) (z (lo+Int.toNat (↑s.1:Int)) 3) (z (lo+Int.toNat (↑s.1:Int)) 4))) (18+Int.toNat (z (lo+Int.toNat (↑s.1:Int)) 0))%(4294967296:Int))then ((List.length (bD r (List.take s.1 l))<=s.3/\s.4=s.4)/\(1<=1/\1=1)/\List.length (bD r (List.take s.1 l))+1<=68719476736)/\∀(c_1:Nat),List.length (bD r (List.take s.1 l))+1<=c_1->∃(s':BdG (BdS.mk r f l lo m c nn z)),((eS (aP 1 0) (aP 1 0)/\eS (aP 2 0) (aP 2 0)/\eS (SA.c (.so 7 0 6 (List.length (bD r (List.take s.1 l))+1) c_1 s.5)) (SA.c (.so 7 0 6 (List.length (bD r (List.take s'.1 l))) s'.4 s'.5))/\eS (SA.c (.so 0 lo 5 (List.length l) c nn)) (SA.c (.so 0 lo 5 (List.length l) c nn))/\eS (aI (↑(List.length l):Int)) (aI (↑(List.length l):Int))/\eS (aI (IntKind.wrap .i64 ((↑s.1:Int)+(1:Int)))) (aI ↑s'.1)/\True)/\[SB.rows 139 kI5 5 m c z,SB.cells [nU 32 (fL (Rec.words (Rec.done (Rec.ofW (toN 32 s.2)) (Int.toNat (z (lo+Int.toNat (↑s.1:Int)) 0)) (z (lo+Int.toNat (↑s.1:Int)) 2) (z (lo+Int.toNat (↑s.1:Int)) 3) (z (lo+Int.toNat (↑s.1:Int)) 4))))] 35,SB.cells [nU 32 zF] 35,SB.rows 60 kI6 6 (List.length (bD r (List.take s.1 l))+1) c_1 fun (i j:Nat)=>bif Nat.ble (i+1) (List.length (bD r (List.take s.1 l)))then s.6 i j else match List.get?Internal (match List.get?Internal [[z (lo+Int.toNat (↑s.1:Int)) 0,z (lo+Int.toNat (↑s.1:Int)) 2,z (lo+Int.toNat (↑s.1:Int)) 3,z (lo+Int.toNat (↑s.1:Int)) 4,fL (Rec.words (Rec.done (Rec.ofW (toN 32 s.2)) (Int.toNat (z (lo+Int.toNat (↑s.1:Int)) 0)) (z (lo+Int.toNat (↑s.1:Int)) 2) (z (lo+Int.toNat (↑s.1:Int)) 3) (z (lo+Int.toNat (↑s.1:Int)) 4))) (18+Int.toNat (z (lo+Int.toNat (↑s.1:Int)) 0))/(4294967296:Int)%(4294967296:Int),fL (Rec.words (Rec.done (Rec.ofW (toN 32 s.2)) (Int.toNat (z (lo+Int.toNat (↑s.1:Int)) 0)) (z (lo+Int.toNat (↑s.1:Int)) 2) (z (lo+Int.toNat (↑s.1:Int)) 3) (z (lo+Int.toNat (↑s.1:Int)) 4))) (18+Int.toNat (z (lo+Int.toNat (↑s.1:Int)) 0))%(4294967296:Int)]] (0+(i-List.length (bD r (List.take s.1 l))))with|some x=>x|none=>[]) j with|some x=>x|none=>(0:Int)]=[SB.rows 139 kI5 5 m c z,SB.cells [nU 32 s'.2] 35,SB.cells [nU 32 zF] 35,SB.rows 60 kI6 6 s'.3 s'.4 s'.6])/\List.length l-s'.1<List.length l-s.1 else ((List.length (bD r (List.take s.1 l))<=s.3/\s.4=s.4)/\(1<=1/\1=1)/\List.length (bD r (List.take s.1 l))+1<=68719476736)/\∀(c_1:Nat),List.length (bD r (List.take s.1 l))+1<=c_1->∃(s':BdG (BdS.mk r f l lo m c nn z)),((eS (aP 1 0) (aP 1 0)/\eS (aP 2 0) (aP 2 0)/\eS (SA.c (.so 7 0 6 (List.length (bD r (List.take s.1 l))+1) c_1 s.5)) (SA.c (.so 7 0 6 (List.length (bD r (List.take s'.1 l))) s'.4 s'.5))/\eS (SA.c (.so 0 lo 5 (List.length l) c nn)) (SA.c (.so 0 lo 5 (List.length l) c nn))/\eS (aI (↑(List.length l):Int)) (aI (↑(List.length l):Int))/\eS (aI (IntKind.wrap .i64 ((↑s.1:Int)+(1:Int)))) (aI ↑s'.1)/\True)/\[SB.rows 139 kI5 5 m c z,SB.cells [nU 32 (fL (Rec.words (Rec.done (Rec.ofW (toN 32 s.2)) (Int.toNat (z (lo+Int.toNat (↑s.1:Int)) 0)) (z (lo+Int.toNat (↑s.1:Int)) 2) (z (lo+Int.toNat (↑s.1:Int)) 3) (z (lo+Int.toNat (↑s.1:Int)) 4))))] 35,SB.cells [nU 32 zF] 35,SB.rows 60 kI6 6 (List.length (bD r (List.take s.1 l))+1) c_1 fun (i j:Nat)=>bif Nat.ble (i+1) (List.length (bD r (List.take s.1 l)))then s.6 i j else match List.get?Internal (match List.get?Internal [[z (lo+Int.toNat (↑s.1:Int)) 0,z (lo+Int.toNat (↑s.1:Int)) 2,z (lo+Int.toNat (↑s.1:Int)) 3,z (lo+Int.toNat (↑s.1:Int)) 4,(0:Int),(0:Int)]] (0+(i-List.length (bD r (List.take s.1 l))))with|some x=>x|none=>[]) j with|some x=>x|none=>(0:Int)]=[SB.rows 139 kI5 5 m c z,SB.cells [nU 32 s'.2] 35,SB.cells [nU 32 zF] 35,SB.rows 60 kI6 6 s'.3 s'.4 s'.6])/\List.length l-s'.1<List.length l-s.1 else Qed (Oper.mk (some 57) (Op.call (Call.mk (Callee.value (Operand.func 44)) #[Operand.tmp 56] #[49])) 91 "batch.go:42" #[Edge.mk 1 Ground.data] none)else (iR (27:Int) (32:Int))/\27<32/\(iR (27:Int) (32:Int))/\27<32/\endN Qj4 [nzD 1] rpB (BdS.mk r f l lo m c nn z) (SV.t [SA.a [nU 32 fun (i:Nat)=>bif Nat.beq i 27 then IntKind.wrap .u64 (s.2 27+(1:Int))else s.2 i],SA.c (.so 3 0 6 (List.length (bD r (List.take s.1 l))) s.4 s.5),SA.c (.v Value.nilIface)]) [SB.rows 139 kI5 5 m c z,SB.cells [nU 32 fun (i:Nat)=>bif Nat.beq i 27 then IntKind.wrap .u64 (s.2 27+(1:Int))else s.2 i] 35,SB.cells [nU 32 fun (i:Nat)=>bif Nat.beq i 27 then IntKind.wrap .u64 (s.2 27+(1:Int))else s.2 i] 35,SB.rows 60 kI6 6 s.3 s.4 s.6]) (by kernel_rfl) ?_
 have hW0:=RecW.of hr (by decide) hf
 refine⟨⟨rfl,hW0.1⟩,by omega,⟨⟨0,f,0,0,false,_,Nat.zero_le _,hf,⟨Nat.le_refl _,Nat.le_refl _⟩,fun i hi=>absurd hi (Nat.not_lt_zero _)⟩,⟨rfl,rfl,rfl,rfl,rfl,rfl,trivial⟩,rfl⟩,?_⟩
 rintro⟨i,f1,m1,c1,n1,z1,hi,hf1,hm1,hz1⟩
 dsimp only at hi hf1 hm1 hz1 ⊢
 have hle:=QpV (l.take i) r
 have hlt2:(l.take i).length<=100:=by rw[List.length_take];omega
 have hq:RecOK 1099511000100 (bR r (l.take i)):=(Qrq (l:=l.take i) hr (fun a h=>ha a (List.mem_of_mem_take h))).mono (by omega)
 have hv:(bR r (l.take i)).ver=r.ver:=Qio _ _
 have hW:=RecW.of hq (by decide) hf1
 obtain⟨e26,e27,-⟩:=Qqp hq hf1
 have g0:=hq.g0
 have g1:=hq.g1
 have v0:=hq.v0
 have v1:=hq.v1
 refine Qp (fun hlt=>?_) (fun hge=>?_)
 · have hi':i<l.length:=by omega
   have eR:bR r (l.take (i+1))=Xt (bR r (l.take i)) (l.getD i Ask.nil):=by rw[Qhy hi',Qrp]
   have eD:bD r (l.take (i+1))=bD r (l.take i)++bDs (bR r (l.take i)) (l.getD i Ask.nil):=by rw[Qhy hi',Qrr]
   obtain⟨a0,a1,a2,a3,a4⟩:=hz i hi'
   have hak:=ha.get hi'
   dsimp only at a0 a1 a2 a3 a4
   generalize l.getD i Ask.nil=a at *
   have ht:=hak.1
   rw[Int.toNat_natCast,a0,a1,a2,a3,a4,Int.toNat_natCast,hW.2,e26]
   refine⟨⟨by omega,by omega,by omega⟩,by omega,⟨rfl,by omega,by omega,hak.2.1,by omega,by omega⟩,XA (fun ho=>?_) (fun ho=>?_)⟩
   · have hs:=QgB (r:=bR r (l.take i)) (a:=a) ho
     rw[hs.1]at eR
     rw[hs.2,List.append_nil]at eD
     exact⟨⟨i+1,f1,m1,c1,n1,z1,hi',eR ▸ hf1,eD ▸ hm1,eD ▸ hz1⟩,⟨⟨rfl,rfl,congrArg (fun k=>some (SV.o (SA.c (SC.so 3 0 6 k c1 n1)))) (congrArg List.length eD).symm,rfl,rfl,svI (sucI (by omega)),trivial⟩,rfl⟩,by dsimp only;omega⟩
   · have ho':bOpen (bR r (l.take i)) a=true:=ho
     have hd:=hq.done a.t ht a.k a.key a.x hak.2.2
     have bT:=Qgj hd (by decide) a.t ht
     have hT:=Qnw hq (by decide) a.t ht a.k a.key a.x hak.2.2
     have hs:Xt (bR r (l.take i)) a=(bR r (l.take i)).done a.t a.k a.key a.x:=by unfold Xt;rw[ho'];rfl
     have hds:bDs (bR r (l.take i)) a=[Qdz (bR r (l.take i)) a]:=by unfold bDs;rw[ho'];rfl
     rw[hs]at eR
     rw[hds]at eD
     have el:(bD r (l.take (i+1))).length=(bD r (l.take i)).length+1:=by rw[eD,List.length_append];rfl
     refine⟨⟨rfl,hW.1,by omega,by omega⟩,Q1 (fun _=>?_) (fun h=>absurd (hak.2.2.symm.trans h) (by decide))⟩
     refine⟨⟨rfl,by omega,by omega,bT⟩,Q1 (fun _=>?_) (fun h=>absurd (hT.2.2.symm.trans h) (by decide))⟩
     refine⟨⟨⟨hm1.1,rfl⟩,⟨Nat.le_refl _,rfl⟩,by omega⟩,fun c' hc'=>⟨⟨i+1,_,(bD r (l.take i)).length+1,c',n1,_,hi',(Qbu (Rec.words_len hd)).trans (by rw[eR]),⟨by show (bD r (l.take (i+1))).length<=_;omega,hc'⟩,?_⟩,⟨⟨rfl,rfl,congrArg (fun k=>some (SV.o (SA.c (SC.so 7 0 6 k c' n1)))) el.symm,rfl,rfl,svI (sucI (by omega)),trivial⟩,rfl⟩,by dsimp only;omega⟩⟩
     show IsD _ (bD r (l.take (i+1)))
     rw[eD]
     refine hz1.snoc (fun j hj k=>catT hj) ⟨?_,?_,?_,?_,?_,?_⟩
     · exact catF.trans (by rw[Nat.sub_self];rfl)
     · exact catF.trans (by rw[Nat.sub_self];rfl)
     · exact catF.trans (by rw[Nat.sub_self];rfl)
     · exact catF.trans (by rw[Nat.sub_self];rfl)
     · exact catF.trans (by rw[Nat.sub_self];exact hT.1)
     · exact catF.trans (by rw[Nat.sub_self];exact hT.2.1)
 · obtain rfl:i=l.length:=by omega
   rw[List.take_length]at hf1 hm1 hz1 hq e27 v0 v1 ⊢
   rw[e27,QaI (x:=(bR r l).ver+1) (by omega) (by omega)]
   refine⟨⟨by decide,by decide⟩,by decide,⟨by decide,by decide⟩,by decide,?_⟩
   exact Qj (x':=.t [recA (fun i=>bif Nat.beq i 27 then (bR r l).ver+1 else f1 i),.c (.so 3 0 6 (bD r l).length c1 n1),nilE]) rfl ⟨_,m1,c1,n1,z1⟩ ⟨hm1,hz1,toN_at hq hf1 _⟩ rfl rfl rfl
def WkS.good (s:WkS):Prop:=(s.w.asks.length<=s.ma/\s.ma<=s.ca)/\IsA s.za s.w.asks/\(s.w.deeds.length<=s.md/\s.md<=s.cd)/\IsD s.zd s.w.deeds
def rpW (n:Nat):SV->List SB->List Nat:=fun _ M=>match getB M 0 with
 |.cells l _=>match segGet l 41,segGet l 42 with
  |some (.so x _ _ _ _ _),some (.so y _ _ _ _ _)=>upN 0 n++[x,y]
  |_,_=>[]
 |_=>[]
def Qd2:MCon where
 σ:=WkS
 χ:=WkS
 pre s:=s.w.th<4/\s.good/\(s.w.does=8->s.w.allOK)
 args s:=[.c (.p 0 0)]
 mem s:=[wkC 1 2 s.w s.ca s.na s.cd s.nd,wkA s.ma s.ca s.za,wkD s.md s.cd s.zd]
 ok s x:=x.w.sim s.w.all/\x.good
 val _ _:=.t []
 mem' s x:=[wkC 1 2 x.w x.ca x.na x.cd x.nd,wkA x.ma x.ca x.za,wkD x.md x.cd x.zd]
 k:=1
 len:=3
 det:=none
 find:=Qct
theorem Qht:(Con.mem Qd2).holds Tryz.prog 68:=by
 intro w0 S
 refine Qb (Γ:=[(103,.mem Qj4),(104,.pure Xr)]) (fun _=>noW) Tryz.func68 rfl (by kernel_rfl) Qg Qc (fun w S' _ _=>.cons (Qro w S') (.cons (Qfu w S') (.nil _ _ _))) Qd2 (fun _=>[]) (fun x0 h=>by cases h) (fun s ρ w _ _ _=>Qh w _) [] (rpW 1) 400 ?_
 rintro⟨⟨th,does,k,key,x,tog,said,i,v,r,asks,deeds,seen,oc,ov,whn⟩,ma,ca,na,za,md,cd,nd,zd⟩ W ⟨h0,h1,h2⟩ -
 refine⟨rfl,?_⟩
 dsimp only at h0 h1 h2
 refine Qi (q:=bif does==(8:Int)then dP Tryz.f68 1 3 [⟨10,[],[1,3],[],true⟩,⟨9,[0],[],[1],false⟩,xF 8 0,xF 7 0,xF 6 0,xR 5 0,xF 4 0,xF 3 0,xF 2 0,xF 1 0,xF 0 0]/\∃(s:BdS),[SA.a [nU 32 r],SA.c (.so 1 0 5 (List.length asks) ca na)]=[SA.a [nU 32 s.2],SA.c (.so 1 s.4 5 (List.length s.3) s.6 s.7)]/\[wkA ma ca za]=[wkA s.5 s.6 s.8]/\((RecOK (1099511000000:Int) s.1/\toN 32 s.2=Rec.words s.1)/\AsksOK s.3/\List.length s.3<=100/\(s.4+List.length s.3<=s.5/\s.5<=s.6)/\IsA (fun (i:Nat)=>s.8 (s.4+i)) s.3)/\∀(x_1:BdR),(List.length (bD s.1 s.3)<=x_1.2/\x_1.2<=x_1.3)/\IsD x_1.5 (bD s.1 s.3)/\toN 32 x_1.1=Rec.words (bDo s.1 s.3)->dP Tryz.f68 1 3 [⟨20,[],[0],[1,3],false⟩,xF 19 0,xF 18 0,⟨17,[],[0],[1,2],false⟩,xF 16 0,xF 15 0,xE 14,xF 13 3,xE 12,xF 11 3,⟨10,[],[1,3],[3],true⟩,⟨9,[0],[],[1],false⟩,xF 8 0,xF 7 0,xF 6 0,xR 5 0,xF 4 0,xF 3 0,xF 2 0,xF 1 0,xF 0 0]/\(32=32/\(0:Int)<=(↑th:Int)/\(↑th:Int)<(4:Int)/\U64 (x_1.1 (18+Int.toNat (↑th:Int)))/\(0:Int)<=x_1.1 (22+Int.toNat (↑th:Int))/\x_1.1 (22+Int.toNat (↑th:Int))<=(9223372036854775807:Int))/\bif ansOkB (x_1.1 (18+Int.toNat (↑th:Int))/(4294967296:Int)%(4294967296:Int)) (x_1.1 (18+Int.toNat (↑th:Int))%(4294967296:Int))then dP Tryz.f68 2 4 [⟨20,[],[0],[1,3],false⟩,xF 19 0,xF 18 0,⟨17,[],[0],[1,3],false⟩,xF 16 0,xF 15 0,xE 14,xE 13,xE 12,xE 11,xE 10,xR 9 0,xF 8 0,xF 7 0,xF 6 0,xR 5 0,xF 4 0,xF 3 0,xF 2 0,xF 1 0,xF 0 0]/\endN Qd2 [] (rpW 1) (WkS.mk (Wk.mk th does k key x tog said i v r asks deeds seen oc ov whn) ma ca na za md cd nd zd) (SV.t []) [SB.cells [sI ↑th,sI does,sI k,sI key,sI x,sI tog,sB said,sI i,sU v,nU 32 x_1.1,sS 1 0 5 (List.length asks) ca na,sS 3 0 6 (List.length (bD s.1 s.3)) x_1.3 x_1.4,nU 3 seen,sI (x_1.1 (18+Int.toNat (↑th:Int))/(4294967296:Int)%(4294967296:Int)),sI (x_1.1 (18+Int.toNat (↑th:Int))%(4294967296:Int)),sI (x_1.1 (22+Int.toNat (↑th:Int)))] 42,wkA s.5 s.6 s.8,wkD md cd zd,wkD x_1.2 x_1.3 x_1.5]else dP Tryz.f68 2 4 [⟨20,[],[0],[1,3],false⟩,xF 19 0,xF 18 0,⟨17,[],[0],[1,3],false⟩,xF 16 0,xF 15 0,xE 14,xE 13,xE 12,xE 11,xE 10,xR 9 0,xF 8 0,xF 7 0,xF 6 0,xR 5 0,xF 4 0,xF 3 0,xF 2 0,xF 1 0,xF 0 0]/\endN Qd2 [] (rpW 1) (WkS.mk (Wk.mk th does k key x tog said i v r asks deeds seen oc ov whn) ma ca na za md cd nd zd) (SV.t []) [SB.cells [sI ↑th,sI does,sI k,sI key,sI x,sI tog,sB said,sI i,sU v,nU 32 x_1.1,sS 1 0 5 (List.length asks) ca na,sS 3 0 6 (List.length (bD s.1 s.3)) x_1.3 x_1.4,nU 3 seen,sI 0,sI 0,sI 0] 42,wkA s.5 s.6 s.8,wkD md cd zd,wkD x_1.2 x_1.3 x_1.5]else endN Qd2 [] (rpW 1) (WkS.mk (Wk.mk th does k key x tog said i v r asks deeds seen oc ov whn) ma ca na za md cd nd zd) (SV.t []) [SB.cells [sI ↑th,sI does,sI k,sI key,sI x,sI tog,sB said,sI i,sU v,nU 32 r,sS 1 0 5 (List.length asks) ca na,sS 2 0 6 (List.length deeds) cd nd,nU 3 seen,sI oc,sI ov,sI whn] 42,wkA ma ca za,wkD md cd zd]) (by kernel_rfl) ?_
 refine QY (fun h8=>?_) (fun hn=>?_)
 · subst h8
   obtain⟨ha,hl,q,hq,hv,hr⟩:=h2 rfl
   obtain⟨⟨ga,gb⟩,gc,⟨gd,ge⟩,gf⟩:=h1
   dsimp only at ha hl hr ga gb gc gd ge gf
   have z0:IsA (fun i=>za (0+i)) asks:=by simp only[Nat.zero_add];exact gc
   have hb:=Qrq hq ha
   have v0:=hq.v0
   have hd:RecOK 1099511000100 (bDo q asks):=(hb.mono (by omega)).at (by rw[Qio];omega) (by rw[Qio];omega)
   refine⟨Qf (by kernel_rfl),⟨q,r,asks,0,ma,ca,na,za⟩,rfl,rfl,⟨⟨hq,hr⟩,ha,(by omega:asks.length<=100),⟨(by omega:0+asks.length<=ma),gb⟩,z0⟩,?_⟩
   rintro⟨f,m1,c1,n1,z1⟩ ⟨hm,hz,hf⟩
   dsimp only at hm hz hf ⊢
   obtain⟨t0,t1,t2,t3⟩:=Qow hd (by decide) hf th h0
   have e (i:Nat) (hi:i<32):fL (bDo q asks).words i=f i:=by rw[<- hf,QeM hi]
   have eq:Qml r=q:=Qjw hq (by decide) hr
   have hall (b:Int) (c:Int) (d:Int) (hb:b=f (18+th)/4294967296%4294967296) (hc:c=f (18+th)%4294967296) (hdd:d=f (22+th)):
    (⟨th,8,k,key,x,tog,said,i,v,f,asks,bD q asks,seen,b,c,d⟩:Wk).sim (Wk.all ⟨th,8,k,key,x,tog,said,i,v,r,asks,deeds,seen,oc,ov,whn⟩):=by
    unfold Wk.all
    rw[if_pos rfl]
    dsimp only
    rw[eq,e (18+th) (by omega),e (22+th) (by omega),<- hb,<- hc,<- hdd]
    exact⟨rfl,hf.trans (Qbu (Rec.words_len hd)).symm⟩
   have t0':U64 (f (18+Int.toNat (th:Int))):=t0
   refine⟨Qf (by kernel_rfl),⟨rfl,by omega,by omega,t0,t1,t2⟩,Q1 (fun ho=>?_) (fun ho=>?_)⟩
   · exact⟨Qf (by kernel_rfl),Qj rfl ⟨⟨th,8,k,key,x,tog,said,i,v,f,asks,bD q asks,seen,f (18+th)/4294967296%4294967296,f (18+th)%4294967296,f (22+th)⟩,ma,ca,na,za,m1,c1,n1,z1⟩ ⟨hall _ _ _ rfl rfl rfl,⟨ga,gb⟩,gc,hm,hz⟩ rfl rfl rfl⟩
   · have t4:=t3 ho
     exact⟨Qf (by kernel_rfl),Qj rfl ⟨⟨th,8,k,key,x,tog,said,i,v,f,asks,bD q asks,seen,0,0,0⟩,ma,ca,na,za,m1,c1,n1,z1⟩ ⟨hall _ _ _ (by rw[t4.1];rfl) (by rw[t4.1];rfl) t4.2.symm,⟨ga,gb⟩,gc,hm,hz⟩ rfl rfl rfl⟩
 · exact Qj rfl ⟨⟨th,does,k,key,x,tog,said,i,v,r,asks,deeds,seen,oc,ov,whn⟩,ma,ca,na,za,md,cd,nd,zd⟩ ⟨by rw[Wk.all_not hn];exact Wk.sim_rfl _,h1⟩ rfl rfl rfl
theorem QoI {k key x:Int}(h:opOk k key x=true):bits BinOp.or .u64 (bits BinOp.or .u64 (IntKind.wrap .u64 (IntKind.wrap .u64 k*281474976710656)) (IntKind.wrap .u64 (IntKind.wrap .u64 key*4294967296))) (IntKind.wrap .u64 x)=opW k key x:=by
 simp only[opOk,decide_eq_true_eq]at h
 rw[QaI (x:=k) (by omega) (by omega),QaI (x:=key) (by omega) (by omega),QaI (x:=x) (by omega) (by omega),QaI (x:=k*281474976710656) (by omega) (by omega),QaI (x:=key*4294967296) (by omega) (by omega)]
 obtain⟨a,rfl⟩:=Int.eq_ofNat_of_zero_le (show 0<=k by omega)
 obtain⟨b,rfl⟩:=Int.eq_ofNat_of_zero_le (show 0<=key by omega)
 obtain⟨c,rfl⟩:=Int.eq_ofNat_of_zero_le (show 0<=x by omega)
 have e1:(a:Int)*281474976710656=((a*281474976710656:Nat):Int):=by omega
 have e2:(b:Int)*4294967296=((b*4294967296:Nat):Int):=by omega
 have h1:=Nat.two_pow_add_eq_or_of_lt (i:=48) (b:=b*4294967296) (by omega) a
 have h2:=Nat.two_pow_add_eq_or_of_lt (i:=32) (b:=c) (by omega) (65536*a+b)
 have h3:a*281474976710656 ||| b*4294967296=4294967296*(65536*a+b):=by
  rw[show a*281474976710656=2^48*a by omega,<- h1];omega
 rw[e1,e2,Qja (by omega) (by omega),h3,Qja (by omega) (by omega),show 4294967296*(65536*a+b)=2^32*(65536*a+b) by omega,<- h2]
 unfold opW
 omega
theorem Qna {w:Int}(h:U64 w):getZ w 48 16=w/281474976710656%65536:=by
 obtain⟨x,rfl,hx⟩:=h.nat
 show ((x/281474976710656%65536:Nat):Int)=_
 omega
theorem Qpg {w:Int}(h:U64 w):getZ w 32 16=w/4294967296%65536:=by
 obtain⟨x,rfl,hx⟩:=h.nat
 show ((x/4294967296%65536:Nat):Int)=_
 omega
def QcD:PCon:=⟨fun args=>match args with
 |[.a [.one (.v (.int .i64 k)),.one (.v (.int .i64 key)),.one (.v (.int .i64 x))]]=>opOk k key x=true
 |_=>False,fun args=>match args with
 |[.a [.one (.v (.int .i64 k)),.one (.v (.int .i64 key)),.one (.v (.int .i64 x))]]=>.t [uA (opW k key x),nilE]
 |_=>sv undef,fun _=>none⟩
theorem QgF:(Con.pure QcD).holds Tryz.prog 62:=by
 refine QF (Γ:=[(11,.pure XO)]) Tryz.func62 rfl (by kernel_rfl) Qg Qc (fun W=>.cons (QaA W _) (.nil _ _ _)) QcD (fun _=>[]) 400 ?_
 intro W args hp
 unfold QcD at hp;dsimp only at hp;split at hp
 case h_2=>exact hp.elim
 rename_i k key x
 refine⟨rfl,?_⟩
 refine Qi (q:=True/\bif bif opOk k key x then false else true then endP QcD [SA.a [sI k,sI key,sI x]] (SV.t [aU 0,SA.c (.v (.iface 91 (Value.int .i64 (1:Int))))]) []else (0:Int)<=(48:Int)/\(0:Int)<=(32:Int)/\endP QcD [SA.a [sI k,sI key,sI x]] (SV.t [aU (bits BinOp.or .u64 (bits BinOp.or .u64 (IntKind.wrap .u64 (IntKind.wrap .u64 k*(281474976710656:Int))) (IntKind.wrap .u64 (IntKind.wrap .u64 key*(4294967296:Int)))) (IntKind.wrap .u64 x)),SA.c (.v Value.nilIface)]) []) (by kernel_rfl) ?_
 rw[QoI hp]
 exact⟨trivial,XA (fun h=>absurd (hp.symm.trans h) (by decide)) (fun _=>⟨by decide,by decide,rfl,fun ρ=>rfl⟩)⟩
def Qhi:PCon:=⟨fun args=>match args with
 |[.c (.v (.int .u64 w))]=>0<=w/\w<18446744073709551616/\opOk (w/281474976710656%65536) (w/4294967296%65536) (w%4294967296)=true
 |_=>False,fun args=>match args with
 |[.c (.v (.int .u64 w))]=>.t [opA (w/281474976710656%65536) (w/4294967296%65536) (w%4294967296),nilE]
 |_=>sv undef,fun _=>none⟩
theorem QjD:(Con.pure Qhi).holds Tryz.prog 69:=by
 refine QF (Γ:=[(11,.pure XO),(105,.pure Qif)]) Tryz.func69 rfl (by kernel_rfl) Qg Qc (fun W=>.cons (QaA W _) (.cons (Qm9 W _) (.nil _ _ _))) Qhi (fun _=>[]) 400 ?_
 intro W args hp
 unfold Qhi at hp;dsimp only at hp;split at hp
 case h_2=>exact hp.elim
 rename_i w
 obtain⟨h0,h1,h2⟩:=hp
 refine⟨rfl,?_⟩
 refine Qi (q:=(U64 w/\true=true)/\(U64 w/\true=true)/\(U64 w/\true=true)/\True/\bif bif opOk (IntKind.wrap .i64 (getZ w (48:Int) (16:Int))) (IntKind.wrap .i64 (getZ w (32:Int) (16:Int))) (IntKind.wrap .i64 (getZ w (0:Int) (32:Int)))then false else true then endP Qhi [aU w] (SV.t [SA.a [sI 0,sI 0,sI 0],SA.c (.v (.iface 91 (Value.int .i64 (3:Int))))]) []else endP Qhi [aU w] (SV.t [SA.a [sI (IntKind.wrap .i64 (getZ w (48:Int) (16:Int))),sI (IntKind.wrap .i64 (getZ w (32:Int) (16:Int))),sI (IntKind.wrap .i64 (getZ w (0:Int) (32:Int)))],SA.c (.v Value.nilIface)]) []) (by kernel_rfl) ?_
 have hU:U64 w:=⟨h0,by omega⟩
 rw[Qna hU,Qpg hU,Qnb hU,QH (x:=w/281474976710656%65536) (by omega) (by omega),QH (x:=w/4294967296%65536) (by omega) (by omega),QH (x:=w%4294967296) (by omega) (by omega)]
 exact⟨⟨hU,rfl⟩,⟨hU,rfl⟩,⟨hU,rfl⟩,trivial,XA (fun h=>absurd (h2.symm.trans h) (by decide)) (fun _=>⟨rfl,fun ρ=>rfl⟩)⟩
end
end Go.Proofs.YtflgoaogcenmpaaGreatDoor
