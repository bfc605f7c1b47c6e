/- HeapRises: the walk of the law. -/
import Derived.Test.YtpedkcpkdacnlaaHeaped
import Derived.Test.YtpedkcpkdacnlaaHeapMore
namespace Go.Proofs.Ytpedkcpkdacnlaa
open Go.RowKit
set_option linter.unusedVariables false
set_option maxRecDepth 20000 in
set_option maxHeartbeats 4000000 in
theorem walk_HeapRises (a0 : Option Addr) (len0 cap0 : Nat) (z0 : List Int) (W : World) (w0 : IsRow .i64 W a0 len0 cap0 z0) :
    Calls Try.prog 3 #[.slice a0 len0 cap0] W fun e w' => e = .returned (.bool true) ∧ Below W.heap.size W w' := by
  obtain ⟨xs, hl, hs⟩ := row_sl w0
  have HS := Lib.hid hs
  have hcaps := hs.caps
  clear w0 hs
  subst hl
  have HM := Mem.start W
  go_enter Try.func3, Try.ntmps3
  go_wp2_with (first | (refine wpM_storeAll HM rfl rfl rfl rfl (by repeat (first | exact Sel.head | apply Sel.tail)) (by rfl) (by kernel_rfl) (by rfl) ?_; clear HM; intro w HM) | (refine wpM_loadAll (ty := 26) HM rfl rfl rfl (by repeat (first | exact Sel.head | apply Sel.tail)) (by kernel_rfl) ?_) | (refine wpM_box HM rfl rfl rfl rfl ?_; clear HM; intro b w HB HM; clear HB) | (refine wpM_alloc HM rfl rfl zt_Answer rfl ?_; clear HM; intro b w HB HM; clear HB) | (refine wpM_load (ty := 3) HM rfl rfl rfl (by repeat (first | exact Sel.head | apply Sel.tail)) (by first | rfl | assumption) (by kernel_rfl) ?_) | (refine wpM_loadR (ty := 3) HM rfl rfl rfl (by repeat (first | exact Sel.head | apply Sel.tail)) (by first | rfl | assumption) (by kernel_rfl) ?_) | (refine wpM_store HM rfl rfl rfl (by (conv => lhs; whnf); try rfl) (by repeat (first | exact Sel.head | apply Sel.tail)) (by simp) (by kernel_rfl) (by rfl) ?_; clear HM; intro w HM; simp only [List.set_cons_zero, List.set_cons_succ] at HM))
  refine (heaped_any _).mono ?_
  rintro e w ⟨rfl, hb⟩
  replace HM := HM.call hb
  clear hb
  go_wp2_with (first | (refine wpM_storeAll HM rfl rfl rfl rfl (by repeat (first | exact Sel.head | apply Sel.tail)) (by rfl) (by kernel_rfl) (by rfl) ?_; clear HM; intro w HM) | (refine wpM_loadAll (ty := 26) HM rfl rfl rfl (by repeat (first | exact Sel.head | apply Sel.tail)) (by kernel_rfl) ?_) | (refine wpM_box HM rfl rfl rfl rfl ?_; clear HM; intro b w HB HM; clear HB) | (refine wpM_alloc HM rfl rfl zt_Answer rfl ?_; clear HM; intro b w HB HM; clear HB) | (refine wpM_load (ty := 3) HM rfl rfl rfl (by repeat (first | exact Sel.head | apply Sel.tail)) (by first | rfl | assumption) (by kernel_rfl) ?_) | (refine wpM_loadR (ty := 3) HM rfl rfl rfl (by repeat (first | exact Sel.head | apply Sel.tail)) (by first | rfl | assumption) (by kernel_rfl) ?_) | (refine wpM_store HM rfl rfl rfl (by (conv => lhs; whnf); try rfl) (by repeat (first | exact Sel.head | apply Sel.tail)) (by simp) (by kernel_rfl) (by rfl) ?_; clear HM; intro w HM; simp only [List.set_cons_zero, List.set_cons_succ] at HM))
  refine ((heap_right _ _ xs (HS.out.below HM.below))).mono ?_
  rintro e w ⟨rfl, hb⟩
  replace HM := HM.call hb
  clear hb
  have HHB := Lib.hid (heapB_iff xs)
  cases hB : heapB xs with
  | false =>
    go_wp2_with (first | (refine wpM_storeAll HM rfl rfl rfl rfl (by repeat (first | exact Sel.head | apply Sel.tail)) (by rfl) (by kernel_rfl) (by rfl) ?_; clear HM; intro w HM) | (refine wpM_loadAll (ty := 26) HM rfl rfl rfl (by repeat (first | exact Sel.head | apply Sel.tail)) (by kernel_rfl) ?_) | (refine wpM_box HM rfl rfl rfl rfl ?_; clear HM; intro b w HB HM; clear HB) | (refine wpM_alloc HM rfl rfl zt_Answer rfl ?_; clear HM; intro b w HB HM; clear HB) | (refine wpM_load (ty := 3) HM rfl rfl rfl (by repeat (first | exact Sel.head | apply Sel.tail)) (by first | rfl | assumption) (by kernel_rfl) ?_) | (refine wpM_loadR (ty := 3) HM rfl rfl rfl (by repeat (first | exact Sel.head | apply Sel.tail)) (by first | rfl | assumption) (by kernel_rfl) ?_) | (refine wpM_store HM rfl rfl rfl (by (conv => lhs; whnf); try rfl) (by repeat (first | exact Sel.head | apply Sel.tail)) (by simp) (by kernel_rfl) (by rfl) ?_; clear HM; intro w HM; simp only [List.set_cons_zero, List.set_cons_succ] at HM))
    go_ret
    exact ⟨rfl, HM.below⟩
  | true =>
    obtain ⟨hh, h6⟩ := HHB.out.1 hB
    clear hB HHB
    have HH := Lib.hid hh
    clear hh
    by_cases h2 : xs.length < 2
    · have t1 : decide ((xs.length : Int) < 2) = true := by simp; omega
      go_wp2_with (first | (refine wpM_storeAll HM rfl rfl rfl rfl (by repeat (first | exact Sel.head | apply Sel.tail)) (by rfl) (by kernel_rfl) (by rfl) ?_; clear HM; intro w HM) | (refine wpM_loadAll (ty := 26) HM rfl rfl rfl (by repeat (first | exact Sel.head | apply Sel.tail)) (by kernel_rfl) ?_) | (refine wpM_box HM rfl rfl rfl rfl ?_; clear HM; intro b w HB HM; clear HB) | (refine wpM_alloc HM rfl rfl zt_Answer rfl ?_; clear HM; intro b w HB HM; clear HB) | (refine wpM_load (ty := 3) HM rfl rfl rfl (by repeat (first | exact Sel.head | apply Sel.tail)) (by first | rfl | assumption) (by kernel_rfl) ?_) | (refine wpM_loadR (ty := 3) HM rfl rfl rfl (by repeat (first | exact Sel.head | apply Sel.tail)) (by first | rfl | assumption) (by kernel_rfl) ?_) | (refine wpM_store HM rfl rfl rfl (by (conv => lhs; whnf); try rfl) (by repeat (first | exact Sel.head | apply Sel.tail)) (by simp) (by kernel_rfl) (by rfl) ?_; clear HM; intro w HM; simp only [List.set_cons_zero, List.set_cons_succ] at HM))
      go_ret
      exact ⟨rfl, HM.below⟩
    · have t1 : decide ((xs.length : Int) < 2) = false := by simp; omega
      obtain ⟨ys, zs, e1, hyl, e2, hle⟩ := heap_rises HH.out (by omega)
      have E1 := Lib.hid e1
      have E2 := Lib.hid e2
      have HYL := Lib.hid hyl
      have t2 : decide (hp xs 0 ≤ hp ys 0) = true := by simp [hle]
      clear e1 e2 hyl
      go_wp2_with (first | (refine wpM_storeAll HM rfl rfl rfl rfl (by repeat (first | exact Sel.head | apply Sel.tail)) (by rfl) (by kernel_rfl) (by rfl) ?_; clear HM; intro w HM) | (refine wpM_loadAll (ty := 26) HM rfl rfl rfl (by repeat (first | exact Sel.head | apply Sel.tail)) (by kernel_rfl) ?_) | (refine wpM_box HM rfl rfl rfl rfl ?_; clear HM; intro b w HB HM; clear HB) | (refine wpM_alloc HM rfl rfl zt_Answer rfl ?_; clear HM; intro b w HB HM; clear HB) | (refine wpM_load (ty := 3) HM rfl rfl rfl (by repeat (first | exact Sel.head | apply Sel.tail)) (by first | rfl | assumption) (by kernel_rfl) ?_) | (refine wpM_loadR (ty := 3) HM rfl rfl rfl (by repeat (first | exact Sel.head | apply Sel.tail)) (by first | rfl | assumption) (by kernel_rfl) ?_) | (refine wpM_store HM rfl rfl rfl (by (conv => lhs; whnf); try rfl) (by repeat (first | exact Sel.head | apply Sel.tail)) (by simp) (by kernel_rfl) (by rfl) ?_; clear HM; intro w HM; simp only [List.set_cons_zero, List.set_cons_succ] at HM))
      refine (heap_eq _ _ xs 2 0 0 (HS.out.below HM.below) (by omega) E1.out).mono ?_
      rintro e w ⟨p1, c1, rfl, ho, hb⟩
      replace HM := HM.got hb ho
      change Mem W _ (.row _ 3 1 (ys).length (vals (ys)) :: _) w at HM
      clear ho hb
      go_wp2_with (first | (refine wpM_storeAll HM rfl rfl rfl rfl (by repeat (first | exact Sel.head | apply Sel.tail)) (by rfl) (by kernel_rfl) (by rfl) ?_; clear HM; intro w HM) | (refine wpM_loadAll (ty := 26) HM rfl rfl rfl (by repeat (first | exact Sel.head | apply Sel.tail)) (by kernel_rfl) ?_) | (refine wpM_box HM rfl rfl rfl rfl ?_; clear HM; intro b w HB HM; clear HB) | (refine wpM_alloc HM rfl rfl zt_Answer rfl ?_; clear HM; intro b w HB HM; clear HB) | (refine wpM_load (ty := 3) HM rfl rfl rfl (by repeat (first | exact Sel.head | apply Sel.tail)) (by first | rfl | assumption) (by kernel_rfl) ?_) | (refine wpM_loadR (ty := 3) HM rfl rfl rfl (by repeat (first | exact Sel.head | apply Sel.tail)) (by first | rfl | assumption) (by kernel_rfl) ?_) | (refine wpM_store HM rfl rfl rfl (by (conv => lhs; whnf); try rfl) (by repeat (first | exact Sel.head | apply Sel.tail)) (by simp) (by kernel_rfl) (by rfl) ?_; clear HM; intro w HM; simp only [List.set_cons_zero, List.set_cons_succ] at HM))
      refine (heap_eq _ _ ys 2 0 0 (HM.sl (xs := ys) (.tail .head)) (by rw [HYL.out]; omega) E2.out).mono ?_
      rintro e w ⟨p2, c2, rfl, ho, hb⟩
      replace HM := HM.got hb ho
      change Mem W _ (.row _ 3 1 (zs).length (vals (zs)) :: _) w at HM
      clear ho hb
      go_wp2_with (first | (refine wpM_storeAll HM rfl rfl rfl rfl (by repeat (first | exact Sel.head | apply Sel.tail)) (by rfl) (by kernel_rfl) (by rfl) ?_; clear HM; intro w HM) | (refine wpM_loadAll (ty := 26) HM rfl rfl rfl (by repeat (first | exact Sel.head | apply Sel.tail)) (by kernel_rfl) ?_) | (refine wpM_box HM rfl rfl rfl rfl ?_; clear HM; intro b w HB HM; clear HB) | (refine wpM_alloc HM rfl rfl zt_Answer rfl ?_; clear HM; intro b w HB HM; clear HB) | (refine wpM_load (ty := 3) HM rfl rfl rfl (by repeat (first | exact Sel.head | apply Sel.tail)) (by first | rfl | assumption) (by kernel_rfl) ?_) | (refine wpM_loadR (ty := 3) HM rfl rfl rfl (by repeat (first | exact Sel.head | apply Sel.tail)) (by first | rfl | assumption) (by kernel_rfl) ?_) | (refine wpM_store HM rfl rfl rfl (by (conv => lhs; whnf); try rfl) (by repeat (first | exact Sel.head | apply Sel.tail)) (by simp) (by kernel_rfl) (by rfl) ?_; clear HM; intro w HM; simp only [List.set_cons_zero, List.set_cons_succ] at HM))
      go_ret
      exact ⟨rfl, HM.below⟩
end Go.Proofs.Ytpedkcpkdacnlaa
