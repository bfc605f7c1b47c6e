/- OpApart: the walk of the law. -/
import Derived.Test.YthenelknbfjpeaaDoorZK2
namespace Go.Proofs.YthenelknbfjpeaaDoor
open Go.RowKit
set_option linter.unusedVariables false
set_option maxRecDepth 100000
set_option maxHeartbeats 4000000
theorem walk_OpApart (a0_0 a0_1 a0_2:Int) (a1_0 a1_1 a1_2:Int) (W:World) (hL:OpLaid W):
 Calls Tryd.prog 3 #[.agg #[.int .i64 a0_0,.int .i64 a0_1,.int .i64 a0_2],.agg #[.int .i64 a1_0,.int .i64 a1_1,.int .i64 a1_2]] W fun e w'=>e=.returned (.bool true)/\Below W.heap.size W w':=by
 refine QgH (AG:=[]) (Γ:=[(7,.pure Qbp),(8,.pure Qa4),(9,.pure Qcj),(10,.pure QcI)]) Tryd.func3 rfl Q2 QI
  (.cons (spell_con W hL) (.cons (Qbi W _) (.cons (Qgv W _) (.cons (QeV W hL) (.nil _ _ _)))))
  [.a [.one (.v (.int .i64 a0_0)),.one (.v (.int .i64 a0_1)),.one (.v (.int .i64 a0_2))],.a [.one (.v (.int .i64 a1_0)),.one (.v (.int .i64 a1_1)),.one (.v (.int .i64 a1_2))]] (.bool true) 400 rfl ?_ rfl
 refine QbQ (q:=True/\True/\bif bif opOk a0_0 a0_1 a0_2 then false else true then SV.o (aB true)=SV.o (aB true)else True/\bif bif opOk a1_0 a1_1 a1_2 then false else true then SV.o (aB true)=SV.o (aB true)else True/\bif opOk a0_0 a0_1 a0_2 then True/\bif opOk a1_0 a1_1 a1_2 then True/\bif opOk a0_0 a0_1 a0_2 then True/\bif opOk a1_0 a1_1 a1_2 then bif (opW a0_0 a0_1 a0_2==opW a1_0 a1_1 a1_2)==bif a0_0==a1_0 then bif a0_1==a1_1 then bif a0_2==a1_2 then true else false else false else false then SV.o (aB ((ByteArray.toList (bsV (QF a0_0 a0_1 a0_2))==ByteArray.toList (bsV (QF a1_0 a1_1 a1_2)))==bif a0_0==a1_0 then bif a0_1==a1_1 then bif a0_2==a1_2 then true else false else false else false))=SV.o (aB true)else SV.o (aB false)=SV.o (aB true)else SV.o (aB false)=SV.o (aB true)else True/\bif opOk a1_0 a1_1 a1_2 then SV.o (aB false)=SV.o (aB true)else SV.o (aB false)=SV.o (aB true)else True/\bif opOk a0_0 a0_1 a0_2 then True/\bif opOk a1_0 a1_1 a1_2 then SV.o (aB false)=SV.o (aB true)else SV.o (aB false)=SV.o (aB true)else True/\bif opOk a1_0 a1_1 a1_2 then SV.o (aB false)=SV.o (aB true)else SV.o (aB false)=SV.o (aB true)else True/\bif opOk a1_0 a1_1 a1_2 then True/\bif opOk a0_0 a0_1 a0_2 then True/\bif opOk a1_0 a1_1 a1_2 then SV.o (aB false)=SV.o (aB true)else SV.o (aB false)=SV.o (aB true)else True/\bif opOk a1_0 a1_1 a1_2 then SV.o (aB false)=SV.o (aB true)else SV.o (aB false)=SV.o (aB true)else True/\bif opOk a0_0 a0_1 a0_2 then True/\bif opOk a1_0 a1_1 a1_2 then SV.o (aB false)=SV.o (aB true)else SV.o (aB false)=SV.o (aB true)else True/\bif opOk a1_0 a1_1 a1_2 then SV.o (aB false)=SV.o (aB true)else SV.o (aB false)=SV.o (aB true)) (by kernel_rfl) ?_
 refine⟨trivial,trivial,Qex (fun _=>rfl) (fun h0=>⟨trivial,Qex (fun _=>rfl) (fun h1=>?_)⟩)⟩
 simp only[h0,h1,cond_true,true_and]
 rw[Qgg,Qgg]
 by_cases he:a0_0=a1_0/\a0_1=a1_1/\a0_2=a1_2
 · obtain⟨rfl,rfl,rfl⟩:=he
   rw[eq3_t,beq_iff_eq.2 (rfl:opW a0_0 a0_1 a0_2=_),beq_iff_eq.2 (rfl:QF a0_0 a0_1 a0_2=_)];rfl
 · rw[eq3_f he,beq_eq_false_iff_ne.2 (fun e=>he (opW_inj h0 h1 e)),beq_eq_false_iff_ne.2 (fun e=>he (print_inj h0 h1 e))];rfl
end Go.Proofs.YthenelknbfjpeaaDoor
