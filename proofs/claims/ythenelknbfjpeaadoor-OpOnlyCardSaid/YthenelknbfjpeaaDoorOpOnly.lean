/- OpOnly: the walk of the law. -/
import Derived.Test.YthenelknbfjpeaaDoorZK2
namespace Go.Proofs.YthenelknbfjpeaaDoor
open Go.RowKit
set_option linter.unusedVariables false
set_option maxRecDepth 100000
set_option maxHeartbeats 4000000
theorem walk_OpOnly (a0:Int) (a1:ByteArray) (w0:(Lit.int .u64 a0).wf=true) (w1:a1.size<=maxLen) (W:World) (hL:OpLaid W):
 Calls Tryd.prog 5 #[.int .u64 a0,.string a1] W fun e w'=>e=.returned (.bool true)/\Below W.heap.size W w':=by
 refine QgH (AG:=[]) (Γ:=[(7,.pure Qbp),(9,.pure Qcj),(10,.pure QcI),(11,.pure Qdl),(12,.pure Qn)]) Tryd.func5 rfl Q2 QI
  (.cons (spell_con W hL) (.cons (Qgv W _) (.cons (QeV W hL) (.cons (ofO_con W _) (.cons (QeY W hL) (.nil _ _ _))))))
  [.c (.v (.int .u64 a0)),.c (.v (.string a1))] (.bool true) 400 rfl ?_ rfl
 refine QbQ (q:=True/\bif decide ((↑(ByteArray.size a1):Int)>(100:Int))then SV.o (aB true)=SV.o (aB true)else U64 a0/\bif opOk (a0/(281474976710656:Int)%(65536:Int)) (a0/(4294967296:Int)%(65536:Int)) (a0%(4294967296:Int))then True/\bif opOk (a0/(281474976710656:Int)%(65536:Int)) (a0/(4294967296:Int)%(65536:Int)) (a0%(4294967296:Int))then bif opW (a0/(281474976710656:Int)%(65536:Int)) (a0/(4294967296:Int)%(65536:Int)) (a0%(4294967296:Int)) != a0 then SV.o (aB false)=SV.o (aB true)else ByteArray.size a1<=100000/\bif Rd.good (XM (ByteArray.data a1).1)then True/\bif opOk (XM (Array.toList (ByteArray.data a1))).2 (XM (Array.toList (ByteArray.data a1))).3 (XM (Array.toList (ByteArray.data a1))).4 then bif bif ByteArray.toList (bsV (QF (XM (Array.toList (ByteArray.data a1))).2 (XM (Array.toList (ByteArray.data a1))).3 (XM (Array.toList (ByteArray.data a1))).4))==ByteArray.toList a1 then false else true then SV.o (aB false)=SV.o (aB true)else SV.o (aB true)=SV.o (aB true)else SV.o (aB false)=SV.o (aB true)else SV.o (aB true)=SV.o (aB true)else SV.o (aB false)=SV.o (aB true)else ByteArray.size a1<=100000/\bif Rd.good (XM (ByteArray.data a1).1)then True/\bif opOk (XM (Array.toList (ByteArray.data a1))).2 (XM (Array.toList (ByteArray.data a1))).3 (XM (Array.toList (ByteArray.data a1))).4 then bif bif ByteArray.toList (bsV (QF (XM (Array.toList (ByteArray.data a1))).2 (XM (Array.toList (ByteArray.data a1))).3 (XM (Array.toList (ByteArray.data a1))).4))==ByteArray.toList a1 then false else true then SV.o (aB false)=SV.o (aB true)else SV.o (aB true)=SV.o (aB true)else SV.o (aB false)=SV.o (aB true)else SV.o (aB true)=SV.o (aB true)) (by kernel_rfl) ?_
 refine⟨trivial,Qfx (fun _=>rfl) (fun hl=>?_)⟩
 have hU:=wfW w0
 refine⟨hU,?_⟩
 rw[opW_of hU]
 cases h0:opOk (a0/281474976710656%65536) (a0/4294967296%65536) (a0%4294967296)
 all_goals simp only[cond_true,cond_false,true_and,bne_self_eq_false]
 all_goals
  refine⟨by omega,XJ (fun hg=>?_) (fun _=>trivial)⟩
  have ho:opOk (XM a1.data.toList).k (XM a1.data.toList).key (XM a1.data.toList).x=true:=by
   have:=hg
   unfold Rd.good at this
   rw[Bool.and_eq_true]at this
   exact this.2
  have hp:=Qg1 hg
  rw[ho,Qgg,hp,ByteArray.toList_eq,beq_iff_eq.2 (rfl:a1.data.toList=_)]
  simp only[cond_true,cond_false]
end Go.Proofs.YthenelknbfjpeaaDoor
