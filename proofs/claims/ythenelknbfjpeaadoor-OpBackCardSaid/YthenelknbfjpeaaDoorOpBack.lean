/- OpBack: the walk of the law. -/
import Derived.Test.YthenelknbfjpeaaDoorZK2
namespace Go.Proofs.YthenelknbfjpeaaDoor
open Go.RowKit
set_option linter.unusedVariables false
set_option maxRecDepth 100000
set_option maxHeartbeats 4000000
theorem walk_OpBack (a0_0 a0_1 a0_2:Int) (W:World) (hL:OpLaid W):
 Calls Tryd.prog 4 #[.agg #[.int .i64 a0_0,.int .i64 a0_1,.int .i64 a0_2]] W fun e w'=>e=.returned (.bool true)/\Below W.heap.size W w':=by
 refine QgH (AG:=[]) (Γ:=[(7,.pure Qbp),(8,.pure Qa4),(9,.pure Qcj),(10,.pure QcI),(11,.pure Qdl),(12,.pure Qn)]) Tryd.func4 rfl Q2 QI
  (.cons (spell_con W hL) (.cons (Qbi W _) (.cons (Qgv W _) (.cons (QeV W hL) (.cons (ofO_con W _) (.cons (QeY W hL) (.nil _ _ _)))))))
  [.a [.one (.v (.int .i64 a0_0)),.one (.v (.int .i64 a0_1)),.one (.v (.int .i64 a0_2))]] (.bool true) 400 rfl ?_ rfl
 refine QbQ (q:=True/\True/\bif opOk a0_0 a0_1 a0_2 then True/\bif opOk a0_0 a0_1 a0_2 then True/\bif bif opOk a0_0 a0_1 a0_2 then false else true then SV.o (aB false)=SV.o (aB true)else U64 (opW a0_0 a0_1 a0_2)/\bif opOk (opW a0_0 a0_1 a0_2/(281474976710656:Int)%(65536:Int)) (opW a0_0 a0_1 a0_2/(4294967296:Int)%(65536:Int)) (opW a0_0 a0_1 a0_2%(4294967296:Int))then ByteArray.size (bsV (QF a0_0 a0_1 a0_2))<=100000/\bif Rd.good (XM (List.toArray (QF a0_0 a0_1 a0_2)).1)then bif bif opW a0_0 a0_1 a0_2/(281474976710656:Int)%(65536:Int)==a0_0 then bif opW a0_0 a0_1 a0_2/(4294967296:Int)%(65536:Int)==a0_1 then bif opW a0_0 a0_1 a0_2%(4294967296:Int)==a0_2 then true else false else false else false then SV.o (aB (bif (XM (QF a0_0 a0_1 a0_2)).2==a0_0 then bif (XM (QF a0_0 a0_1 a0_2)).3==a0_1 then bif (XM (QF a0_0 a0_1 a0_2)).4==a0_2 then true else false else false else false))=SV.o (aB true)else SV.o (aB false)=SV.o (aB true)else SV.o (aB false)=SV.o (aB true)else ByteArray.size (bsV (QF a0_0 a0_1 a0_2))<=100000/\bif Rd.good (XM (List.toArray (QF a0_0 a0_1 a0_2)).1)then SV.o (aB false)=SV.o (aB true)else SV.o (aB false)=SV.o (aB true)else True/\bif bif opOk a0_0 a0_1 a0_2 then false else true then SV.o (aB false)=SV.o (aB true)else U64 (opW a0_0 a0_1 a0_2)/\bif opOk (opW a0_0 a0_1 a0_2/(281474976710656:Int)%(65536:Int)) (opW a0_0 a0_1 a0_2/(4294967296:Int)%(65536:Int)) (opW a0_0 a0_1 a0_2%(4294967296:Int))then 0<=100000/\SV.o (aB false)=SV.o (aB true)else 0<=100000/\SV.o (aB false)=SV.o (aB true)else True/\bif opOk a0_0 a0_1 a0_2 then True/\bif bif opOk a0_0 a0_1 a0_2 then false else true then SV.o (aB false)=SV.o (aB true)else U64 (0:Int)/\ByteArray.size (bsV (QF a0_0 a0_1 a0_2))<=100000/\bif Rd.good (XM (List.toArray (QF a0_0 a0_1 a0_2)).1)then SV.o (aB false)=SV.o (aB true)else SV.o (aB false)=SV.o (aB true)else True/\bif bif opOk a0_0 a0_1 a0_2 then false else true then SV.o (aB true)=SV.o (aB true)else U64 (0:Int)/\0<=100000/\SV.o (aB false)=SV.o (aB true)) (by kernel_rfl) ?_
 refine⟨trivial,trivial,?_⟩
 cases h0:opOk a0_0 a0_1 a0_2
 · simp only[cond_false,cond_true,true_and]
 · obtain⟨hU,e1,e2,e3⟩:=Qc3 h0
   have hr:=Qb8 h0
   have hg:Rd.good ⟨true,a0_0,a0_1,a0_2⟩=true:=h0
   have hl:=print_len h0
   rw[e1,e2,e3]
   simp only[cond_true,cond_false,true_and,h0,hg,hr,eq3_t]
   exact⟨hU,(by rw[QcO];omega),trivial⟩
end Go.Proofs.YthenelknbfjpeaaDoor
