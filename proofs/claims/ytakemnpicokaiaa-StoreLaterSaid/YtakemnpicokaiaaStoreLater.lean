/- The walk of the law StoreLater. -/
import Derived.Test.YtakemnpicokaiaaStorePlain
namespace Go.Proofs.Ytakemnpicokaiaa
open Go.RowKit
set_option linter.unusedVariables false
theorem later_plain (S : St) (t l p : Nat) (x fl : Int) (h : S.ok) (ht : t < 4) (hl : l < 9) (hp : p < 8) :
    (crashSt (fenceSt { now := S.now.set (l * 8 + p) x, good := S.good, wanted := S.wanted.set (t * 9 + l) true, flushes := fl, fences := S.fences } t) 0).now.getD (l * 8 + p) 0 = x := by
  obtain ⟨h1, h2, h3⟩ := h
  unfold crashSt
  dsimp only
  rw [(crashTo_get _ 0 9 (l * 8 + p) (by omega) (by simp [fenceSt, h1]) (by simp only [fenceSt]; exact fenceTo_len _ _ _ h2) (by omega)).1, if_pos ⟨by omega, bitZ_zero _⟩]
  unfold fenceSt
  dsimp only
  have hg := fenceTo_get ⟨S.now.set (l * 8 + p) x, S.good, S.wanted.set (t * 9 + l) true, fl, S.fences⟩ t 9 (l * 8 + p) (by omega) h2 (by omega)
  have hw : (S.wanted.set (t * 9 + l) true).getD (t * 9 + (l * 8 + p) / 8) false = true := by
    rw [show (l * 8 + p) / 8 = l by omega, List.getD_eq_getElem?_getD, List.getElem?_set]
    simp [show t * 9 + l < S.wanted.length by omega]
  rw [hg, if_pos ⟨by omega, hw⟩]
  exact (getD_set S.now (l * 8 + p) (l * 8 + p) x (by omega)).trans (if_pos rfl)
set_option maxHeartbeats 2000000 in
theorem walk_StoreLater (a0 : Option Addr) (len0 cap0 : Nat) (f0 : Nat → Nat → Int) (a1 a2 a3 a4 : Int) (w : World) (h0 : Deeds w a0 len0 cap0 f0) (w1 : (Lit.int .i64 a1).wf = true) (w2 : (Lit.int .i64 a2).wf = true) (w3 : (Lit.int .i64 a3).wf = true) (w4 : (Lit.int .u64 a4).wf = true) :
    Calls Try.prog 11 #[.slice a0 len0 cap0, .int .i64 a1, .int .i64 a2, .int .i64 a3, .int .u64 a4] w fun e w' => e = .returned (.bool true) ∧ Below w.heap.size w w' := by
  have hcap := h0.1
  have hmax := h0.2.1
  have HD := Lib.hid h0
  clear h0
  by_cases hl : 60 < len0
  · go_enter Try.func11, Try.ntmps11
    go_wp2_with fail
    refine (kept_any _).mono ?_
    rintro e w1 ⟨rfl, hb1⟩
    go_wp2_with fail
    refine (done_many _ _ _ _ hl (by omega)).mono ?_
    rintro e w2 ⟨rfl, hb2⟩
    go_wp2_with fail
    go_ret
    exact ⟨by simp; omega, bcall hb1 hb2⟩
  go_enter Try.func11, Try.ntmps11
  go_wp2_with fail
  refine (kept_any _).mono ?_
  rintro e w1 ⟨rfl, hb1⟩
  go_wp2_with fail
  refine (done_any _ _ _ _ f0 (HD.out.below hb1) (by omega)).mono ?_
  rintro e w2 ⟨rfl, ⟨S, hs2⟩, hb2⟩
  have hB := Lib.hid (bcall hb1 hb2)
  have hge := hb1.size
  generalize w1.heap.size = b at *
  clear hb1 hb2 HD
  go_wp2_with (go_at_call 21; refine (pick_any _ _ _ (by decide) (by decide)).mono ?_; rintro e w' ⟨rfl, rfl⟩)
  have t0 := pickZ_nonneg a1 4 (by decide)
  have t1 := pickZ_lt a1 4 (by decide)
  have l0 := pickZ_nonneg a2 9 (by decide)
  have l1 := pickZ_lt a2 9 (by decide)
  have p0 := pickZ_nonneg a3 8 (by decide)
  have p1 := pickZ_lt a3 8 (by decide)
  generalize pickZ a1 4 = t at *
  generalize pickZ a2 9 = l at *
  generalize pickZ a3 8 = p at *
  refine (store_flush _ _ S t l hs2 t0 t1 l0 l1).mono ?_
  rintro e w3 ⟨rfl, hs3, hk3⟩
  have hq1 : wrap64 (l * 8) = l * 8 := by unfold wrap64; omega
  have hq2 : wrap64 (l * 8 + p) = l * 8 + p := by unfold wrap64; omega
  go_wp2_with fail
  refine (store_save _ _ _ (l * 8 + p) a4 hs3 (by omega) (by omega)).mono ?_
  rintro e w4 ⟨rfl, hs4, hk4⟩
  go_wp2_with fail
  refine (store_fence _ _ _ t hs4 t0 t1).mono ?_
  rintro e w5 ⟨rfl, hs5, hk5⟩
  go_wp2_with fail
  refine (store_crash _ _ _ 0 hs5 (by decide) (by decide)).mono ?_
  rintro e w6 ⟨rfl, hs6, hk6⟩
  have hn : (l * 8 + p).toNat = l.toNat * 8 + p.toNat := by omega
  have e1 : (crashSt (fenceSt { now := S.now.set (l * 8 + p).toNat a4, good := S.good, wanted := S.wanted.set (t.toNat * 9 + l.toNat) true, flushes := wrap64 (S.flushes + 1), fences := S.fences } t.toNat) 0).now.getD (l * 8 + p).toNat 0 = a4 := by
    rw [hn]; exact later_plain S _ _ _ a4 _ hs2.1 (by omega) (by omega) (by omega)
  have hS : ∀ n, n = b → w.heap.size ≤ n := by rintro n rfl; exact hge
  have HB := Lib.hid (bkept (bkept (bkept (bkept hB.out hk3 hS) hk4 hS) hk5 hS) hk6 hS)
  have H6 := Lib.hid hs6
  have E1 := Lib.hid e1
  clear e1 hs2 hs3 hs4 hs5 hs6 hk3 hk4 hk5 hk6 hn
  go_wp2_with fail
  refine (store_load _ _ _ (l * 8 + p) H6.out (by omega) (by omega)).mono ?_
  rw [E1.out]
  rintro e w' ⟨rfl, rfl⟩
  go_wp2_with fail
  go_ret
  exact ⟨by first | rfl | simp [*], HB.out⟩
end Go.Proofs.Ytakemnpicokaiaa
