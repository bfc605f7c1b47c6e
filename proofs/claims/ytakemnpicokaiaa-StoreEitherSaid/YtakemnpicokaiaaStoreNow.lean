/- The walk of the law StoreNow. -/
import Derived.Test.YtakemnpicokaiaaDone
namespace Go.Proofs.Ytakemnpicokaiaa
open Go.RowKit
set_option linter.unusedVariables false
theorem getD_set (l : List Int) (i j : Nat) (x : Int) (h : i < l.length) : (l.set i x).getD j 0 = if i = j then x else l.getD j 0 := by
  rw [List.getD_eq_getElem?_getD, List.getD_eq_getElem?_getD, List.getElem?_set]
  by_cases h' : i = j
  · subst h'; simp [h]
  · simp [h']
set_option maxHeartbeats 2000000 in
theorem walk_StoreNow (a0 : Option Addr) (len0 cap0 : Nat) (f0 : Nat → Nat → Int) (a1 a2 a3 a4 a5 : Int) (w : World) (h0 : Deeds w a0 len0 cap0 f0) (w1 : (Lit.int .i64 a1).wf = true) (w2 : (Lit.int .i64 a2).wf = true) (w3 : (Lit.int .i64 a3).wf = true) (w4 : (Lit.int .i64 a4).wf = true) (w5 : (Lit.int .u64 a5).wf = true) :
    Calls Try.prog 10 #[.slice a0 len0 cap0, .int .i64 a1, .int .i64 a2, .int .i64 a3, .int .i64 a4, .int .u64 a5] w fun e w' => e = .returned (.bool true) ∧ Below w.heap.size w w' := by
  have hcap := h0.1
  have hmax := h0.2.1
  have HD := Lib.hid h0
  clear h0
  by_cases hl : 60 < len0
  · go_enter Try.func10, Try.ntmps10
    go_wp2_with fail
    refine (kept_any _).mono ?_
    rintro e w1 ⟨rfl, hb1⟩
    go_wp2_with fail
    refine (done_many _ _ _ _ hl (by omega)).mono ?_
    rintro e w2 ⟨rfl, hb2⟩
    go_wp2_with fail
    go_ret
    exact ⟨by simp; omega, bcall hb1 hb2⟩
  go_enter Try.func10, Try.ntmps10
  go_wp2_with fail
  refine (kept_any _).mono ?_
  rintro e w1 ⟨rfl, hb1⟩
  go_wp2_with fail
  refine (done_any _ _ _ _ f0 (HD.out.below hb1) (by omega)).mono ?_
  rintro e w2 ⟨rfl, ⟨S, hs2⟩, hb2⟩
  have hB := Lib.hid (bcall hb1 hb2)
  have hge := hb1.size
  generalize w1.heap.size = b at *
  clear hb1 hb2 HD
  go_wp2_with (go_at_call 21; refine (pick_any _ _ _ (by decide) (by decide)).mono ?_; rintro e w' ⟨rfl, rfl⟩)
  have p0 := pickZ_nonneg a1 72 (by decide)
  have p1 := pickZ_lt a1 72 (by decide)
  have q0 := pickZ_nonneg a2 72 (by decide)
  have q1 := pickZ_lt a2 72 (by decide)
  generalize pickZ a1 72 = p at *
  generalize pickZ a2 72 = q at *
  refine (store_load _ _ S q hs2 q0 q1).mono ?_
  rintro e w' ⟨rfl, rfl⟩
  go_wp2_with fail
  refine (store_save _ _ S p a5 hs2 p0 p1).mono ?_
  rintro e w3 ⟨rfl, hs3, hk3⟩
  go_wp2_with (go_at_call 21; refine (pick_any _ _ _ (by decide) (by decide)).mono ?_; rintro e w' ⟨rfl, rfl⟩)
  refine (store_evict _ _ _ _ hs3 (pickZ_nonneg _ _ (by decide)) (pickZ_lt _ _ (by decide))).mono ?_
  rintro e w4 ⟨rfl, hs4, hk4⟩
  go_wp2_with (go_at_call 21; refine (pick_any _ _ _ (by decide) (by decide)).mono ?_; rintro e w' ⟨rfl, rfl⟩)
  refine (store_flush _ _ _ _ _ hs4 (pickZ_nonneg _ _ (by decide)) (pickZ_lt _ _ (by decide)) (pickZ_nonneg _ _ (by decide)) (pickZ_lt _ _ (by decide))).mono ?_
  rintro e w5 ⟨rfl, hs5, hk5⟩
  go_wp2_with (go_at_call 21; refine (pick_any _ _ _ (by decide) (by decide)).mono ?_; rintro e w' ⟨rfl, rfl⟩)
  refine (store_fence _ _ _ _ hs5 (pickZ_nonneg _ _ (by decide)) (pickZ_lt _ _ (by decide))).mono ?_
  rintro e w6 ⟨rfl, hs6, hk6⟩
  have hlen := hs2.1.1
  have e1 : (S.now.set p.toNat a5).getD p.toNat 0 = a5 := by rw [getD_set _ _ _ _ (by omega), if_pos rfl]
  have e2 : q ≠ p → (S.now.set p.toNat a5).getD q.toNat 0 = S.now.getD q.toNat 0 := by
    intro hne
    rw [getD_set _ _ _ _ (by omega), if_neg (by omega)]
  have hS : ∀ n, n = b → w.heap.size ≤ n := by rintro n rfl; exact hge
  have HB := Lib.hid (bkept (bkept (bkept (bkept hB.out hk3 hS) hk4 hS) hk5 hS) hk6 hS)
  have H6 := Lib.hid hs6
  have E1 := Lib.hid e1
  have E2 := Lib.hid e2
  clear e1 e2 hs2 hs3 hs4 hs5 hs6 hk3 hk4 hk5 hk6 hlen
  go_wp2_with fail
  refine (store_load _ _ _ p H6.out p0 p1).mono ?_
  rw [show ∀ g wa fl, (fenceSt { now := S.now.set p.toNat a5, good := g, wanted := wa, flushes := fl, fences := S.fences } (pickZ a4 4).toNat).now = S.now.set p.toNat a5 from fun _ _ _ => rfl, E1.out]
  rintro e w' ⟨rfl, rfl⟩
  go_wp2_with fail
  refine (store_load _ _ _ q H6.out q0 q1).mono ?_
  rw [show ∀ g wa fl, (fenceSt { now := S.now.set p.toNat a5, good := g, wanted := wa, flushes := fl, fences := S.fences } (pickZ a4 4).toNat).now = S.now.set p.toNat a5 from fun _ _ _ => rfl]
  rintro e w' ⟨rfl, rfl⟩
  by_cases hne : q = p
  · have f1 : (q == p) = true := beq_iff_eq.2 hne
    go_wp2_with fail
    go_ret
    exact ⟨by first | rfl | simp [*], HB.out⟩
  · have f1 : (q == p) = false := beq_eq_false_iff_ne.2 hne
    rw [E2.out hne]
    go_wp2_with fail
    go_ret
    exact ⟨by first | rfl | simp [*], HB.out⟩
end Go.Proofs.Ytakemnpicokaiaa
