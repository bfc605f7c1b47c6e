/- The walks of the laws StoreIdle and StoreEvicts. -/
import Derived.Test.YtakemnpicokaiaaAlike
namespace Go.Proofs.Ytakemnpicokaiaa
open Go.RowKit
set_option linter.unusedVariables false
theorem clear_get (W : List Bool) (t j : Nat) (ht : t < 4) (hj : j < 9) (hl : W.length = 36) : (clearRow W t).getD (t * 9 + j) false = false := by
  have e : ∀ (L : List Bool) (i k : Nat), (L.set i false).getD k false = if i = k then false else L.getD k false := by
    intro L i k
    rw [List.getD_eq_getElem?_getD, List.getD_eq_getElem?_getD, List.getElem?_set]
    by_cases h : i = k
    · rw [if_pos h, if_pos h]; split <;> rfl
    · rw [if_neg h, if_neg h]
  unfold clearRow
  simp only [e]
  match j, hj with
  | 0, _ => simp
  | 1, _ => simp
  | 2, _ => simp
  | 3, _ => simp
  | 4, _ => simp
  | 5, _ => simp
  | 6, _ => simp
  | 7, _ => simp
  | 8, _ => simp
theorem fence_idle (S : St) (h : S.ok) (t : Nat) (ht : t < 4) (h1 : (fenceSt S t).ok) (i : Nat) (hi : i < 72) : (fenceSt (fenceSt S t) t).good.getD i 0 = (fenceSt S t).good.getD i 0 := by
  rw [fence_good _ h1 t i hi, if_neg]
  rw [show (fenceSt S t).wanted = clearRow S.wanted t from rfl, clear_get _ _ _ ht (by omega) h.2.2]
  simp
theorem fence_evicts (S : St) (h : S.ok) (t l : Nat) (ht : t < 4) (hl : l < 9) (h1 : (fenceSt S t).ok) (fl : Int) (i : Nat) (hi : i < 72)
    (h2 : ({ fenceSt S t with wanted := (fenceSt S t).wanted.set (t * 9 + l) true, flushes := fl } : St).ok) :
    (fenceSt { fenceSt S t with wanted := (fenceSt S t).wanted.set (t * 9 + l) true, flushes := fl } t).good.getD i 0 = (cpLine (fenceSt S t).good (fenceSt S t).now l).getD i 0 := by
  rw [fence_good _ h2 t i hi, cpLine_get _ _ _ _ hi h1.2.1 hl]
  by_cases e : i / 8 = l
  · subst e
    rw [if_pos rfl, if_pos (flush_wanted _ _ (by have := h1.2.2; omega))]
  · rw [if_neg e, if_neg]
    rw [List.getD_eq_getElem?_getD, List.getElem?_set, if_neg (by omega), ← List.getD_eq_getElem?_getD, show (fenceSt S t).wanted = clearRow S.wanted t from rfl, clear_get _ _ _ ht (by omega) h.2.2]
    simp
set_option maxHeartbeats 2000000 in
theorem walk_StoreIdle (a0 : Option Addr) (len0 cap0 : Nat) (f0 : Nat → Nat → Int) (a1 : Int) (w : World) (h0 : Deeds w a0 len0 cap0 f0) (w1 : (Lit.int .i64 a1).wf = true) :
    Calls Try.prog 18 #[.slice a0 len0 cap0, .int .i64 a1] w fun e w' => e = .returned (.bool true) ∧ Below w.heap.size w w' := by
  have hcap0 := h0.1
  have hmax0 := h0.2.1
  have HD0 := Lib.hid h0
  clear h0
  by_cases hl : 60 < len0
  · go_enter Try.func18, Try.ntmps18
    go_wp2_with fail
    refine (kept_any _).mono ?_
    rintro e w1 ⟨rfl, hb1⟩
    go_wp2_with fail
    refine (done_many _ _ _ _ hl (by omega)).mono ?_
    rintro e w2 ⟨rfl, hb2⟩
    go_wp2_with fail
    go_ret
    exact ⟨by simp; omega, bcall hb1 hb2⟩
  go_enter Try.func18, Try.ntmps18
  go_wp2_with fail
  refine (kept_any _).mono ?_
  rintro e w1 ⟨rfl, hb1⟩
  go_wp2_with fail
  refine (done_any _ _ _ _ f0 (HD0.out.below hb1) (by omega)).mono ?_
  rintro e w2 ⟨rfl, ⟨S, hs2⟩, hb2⟩
  have HB := Lib.hid (bcall hb1 hb2)
  have hge := hb1.size
  generalize w1.heap.size = b at *
  clear hb1 hb2 HD0
  have HS := Lib.hid hs2
  clear hs2
  go_wp2_with (go_at_call 21; refine (pick_any _ _ _ (by decide) (by decide)).mono ?_; rintro e w' ⟨rfl, rfl⟩)
  have t0 := pickZ_nonneg a1 4 (by decide)
  have t1 := pickZ_lt a1 4 (by decide)
  generalize pickZ a1 4 = t at *
  have ht4 : t.toNat < 4 := by omega
  have hok := Lib.hid HS.out.1
  refine (store_fence _ _ S t HS.out t0 t1).mono ?_
  rintro e w3 ⟨rfl, HS1, hb3⟩
  replace HB := Lib.hid (bkept HB.out hb3 (by rintro n rfl; omega))
  clear HS
  replace HS1 := Lib.hid HS1
  clear hb3
  go_wp2_with fail
  have hlt := HS1.out.2.lt
  refine (store_copy _ _ _ HS1.out).mono ?_
  rintro e w4 ⟨rfl, HT, hb4⟩
  replace HB := Lib.hid (bcall HB.out hb4)
  replace HS1 := Lib.hid (HS1.out.below hb4)
  replace HT := Lib.hid HT
  clear hb4
  generalize hc : w3.heap.size = c at *
  clear hc
  go_wp2_with fail
  refine (store_fence _ _ _ t HT.out t0 t1).mono ?_
  rintro e w5 ⟨rfl, HT2, hb5⟩
  replace HB := Lib.hid (bkept HB.out hb5 (by rintro n rfl; omega))
  replace HS1 := Lib.hid (HS1.out.kept hb5 (by intro hh; omega))
  clear HT
  replace HT2 := Lib.hid HT2
  clear hb5
  go_wp2_with fail
  refine (alike_yes _ _ _ _ _ HS1.out HT2.out (fun i hi => rfl) (fun i hi => fence_idle S hok.out _ ht4 HS1.out.1 i hi)).mono ?_
  rintro e w6 ⟨rfl, hb6⟩
  replace HB := Lib.hid (bcall HB.out hb6)
  replace HS1 := Lib.hid (HS1.out.below hb6)
  replace HT2 := Lib.hid (HT2.out.below hb6)
  clear hb6
  go_wp2_with fail
  go_ret
  exact ⟨rfl, HB.out⟩
set_option maxHeartbeats 2000000 in
theorem walk_StoreEvicts (a0 : Option Addr) (len0 cap0 : Nat) (f0 : Nat → Nat → Int) (a1 a2 : Int) (w : World) (h0 : Deeds w a0 len0 cap0 f0) (w1 : (Lit.int .i64 a1).wf = true) (w2 : (Lit.int .i64 a2).wf = true) :
    Calls Try.prog 17 #[.slice a0 len0 cap0, .int .i64 a1, .int .i64 a2] w fun e w' => e = .returned (.bool true) ∧ Below w.heap.size w w' := by
  have hcap0 := h0.1
  have hmax0 := h0.2.1
  have HD0 := Lib.hid h0
  clear h0
  by_cases hl : 60 < len0
  · go_enter Try.func17, Try.ntmps17
    go_wp2_with fail
    refine (kept_any _).mono ?_
    rintro e w1 ⟨rfl, hb1⟩
    go_wp2_with fail
    refine (done_many _ _ _ _ hl (by omega)).mono ?_
    rintro e w2 ⟨rfl, hb2⟩
    go_wp2_with fail
    go_ret
    exact ⟨by simp; omega, bcall hb1 hb2⟩
  go_enter Try.func17, Try.ntmps17
  go_wp2_with fail
  refine (kept_any _).mono ?_
  rintro e w1 ⟨rfl, hb1⟩
  go_wp2_with fail
  refine (done_any _ _ _ _ f0 (HD0.out.below hb1) (by omega)).mono ?_
  rintro e w2 ⟨rfl, ⟨S, hs2⟩, hb2⟩
  have HB := Lib.hid (bcall hb1 hb2)
  have hge := hb1.size
  generalize w1.heap.size = b at *
  clear hb1 hb2 HD0
  have HS := Lib.hid hs2
  clear hs2
  go_wp2_with (go_at_call 21; refine (pick_any _ _ _ (by decide) (by decide)).mono ?_; rintro e w' ⟨rfl, rfl⟩)
  have t0 := pickZ_nonneg a1 4 (by decide)
  have t1 := pickZ_lt a1 4 (by decide)
  generalize pickZ a1 4 = t at *
  have l0 := pickZ_nonneg a2 9 (by decide)
  have l1 := pickZ_lt a2 9 (by decide)
  generalize pickZ a2 9 = l at *
  have ht4 : t.toNat < 4 := by omega
  have hl9 : l.toNat < 9 := by omega
  have hok := Lib.hid HS.out.1
  refine (store_fence _ _ S t HS.out t0 t1).mono ?_
  rintro e w3 ⟨rfl, HS1, hb3⟩
  replace HB := Lib.hid (bkept HB.out hb3 (by rintro n rfl; omega))
  clear HS
  replace HS1 := Lib.hid HS1
  clear hb3
  go_wp2_with fail
  have hlt := HS1.out.2.lt
  have hok1 := Lib.hid HS1.out.1
  refine (store_copy _ _ _ HS1.out).mono ?_
  rintro e w4 ⟨rfl, HT, hb4⟩
  replace HB := Lib.hid (bcall HB.out hb4)
  replace HS1 := Lib.hid (HS1.out.below hb4)
  replace HT := Lib.hid HT
  clear hb4
  generalize hc : w3.heap.size = c at *
  clear hc
  go_wp2_with fail
  refine (store_evict _ _ _ l HS1.out l0 l1).mono ?_
  rintro e w5 ⟨rfl, HS2, hb5⟩
  replace HB := Lib.hid (bkept HB.out hb5 (by rintro n rfl; omega))
  replace HT := Lib.hid (HT.out.kept hb5 (by intro hh; omega))
  clear HS1
  replace HS2 := Lib.hid HS2
  clear hb5
  go_wp2_with fail
  refine (store_flush _ _ _ t l HT.out t0 t1 l0 l1).mono ?_
  rintro e w6 ⟨rfl, HT2, hb6⟩
  replace HB := Lib.hid (bkept HB.out hb6 (by rintro n rfl; omega))
  replace HS2 := Lib.hid (HS2.out.kept hb6 (by intro hh; omega))
  clear HT
  replace HT2 := Lib.hid HT2
  clear hb6
  go_wp2_with fail
  have hok2 := Lib.hid HT2.out.1
  refine (store_fence _ _ _ t HT2.out t0 t1).mono ?_
  rintro e w7 ⟨rfl, HT3, hb7⟩
  replace HB := Lib.hid (bkept HB.out hb7 (by rintro n rfl; omega))
  replace HS2 := Lib.hid (HS2.out.kept hb7 (by intro hh; omega))
  clear HT2
  replace HT3 := Lib.hid HT3
  clear hb7
  go_wp2_with fail
  refine (alike_yes _ _ _ _ _ HS2.out HT3.out (fun i hi => rfl) (fun i hi => fence_evicts S hok.out _ _ ht4 hl9 hok1.out _ i hi hok2.out)).mono ?_
  rintro e w8 ⟨rfl, hb8⟩
  replace HB := Lib.hid (bcall HB.out hb8)
  replace HS2 := Lib.hid (HS2.out.below hb8)
  replace HT3 := Lib.hid (HT3.out.below hb8)
  clear hb8
  go_wp2_with fail
  go_ret
  exact ⟨rfl, HB.out⟩
end Go.Proofs.Ytakemnpicokaiaa
