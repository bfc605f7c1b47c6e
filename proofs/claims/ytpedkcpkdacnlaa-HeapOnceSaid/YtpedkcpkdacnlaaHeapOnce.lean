/- HeapOnce: the walk of the law. -/
import Derived.Test.YtpedkcpkdacnlaaHeaped
import Derived.Test.YtpedkcpkdacnlaaHeapMore
import Derived.Test.YtpedkcpkdacnlaaConFunc
namespace Go.Proofs.Ytpedkcpkdacnlaa
open Go.RowKit
set_option linter.unusedVariables false
theorem heap_once {xs : List Int} (h : IsHeap xs) (h6 : xs.length < 6) (hl : lowB xs = false) : ∃ ys zs, heapR xs 1 0 = (ys, 1, 0) ∧ ys.length = xs.length + 1 ∧ heapR ys 2 0 = (zs, 1, 0) ∧ zs.length = xs.length ∧ sortI xs = sortI zs := by
  have hlow : ∀ v ∈ xs, 1 ≤ v := by
    intro v hv
    obtain ⟨j, hj, rfl⟩ := List.mem_iff_getElem.1 hv
    unfold lowB at hl
    simp only [decide_eq_false_iff_not, not_exists] at hl
    have := hl j
    simp [hp, hj] at this; omega
  obtain ⟨ys, e, p, l⟩ := heapR_put xs 0 h6
  have hh := heapR_heap h 1 0
  rw [e] at hh
  obtain ⟨zs, e2, p2, l2⟩ := heapR_take ys 0 (by omega)
  have h0 : hp ys 0 = 0 := by
    have a : hp ys 0 ≤ 0 := heap_le_mem hh 0 (p.symm.subset List.mem_cons_self)
    have b := p.subset (hp_mem (xs := ys) (by omega))
    rcases List.mem_cons.1 b with b | b
    · exact b
    · have := hlow _ b; omega
  rw [h0] at e2 p2
  exact ⟨ys, zs, e, l, e2, by omega, sortI_eq (List.Perm.cons_inv (p.symm.trans p2.symm))⟩
set_option maxRecDepth 20000 in
set_option maxHeartbeats 4000000 in
theorem walk_HeapOnce (a0 : Option Addr) (len0 cap0 : Nat) (z0 : List Int) (a1 : Int) (W : World) (w0 : IsRow .i64 W a0 len0 cap0 z0) (w1 : (Lit.int .i64 a1).wf = true) :
    Calls Try.prog 15 #[.slice a0 len0 cap0, .int .i64 a1] W fun e w' => e = .returned (.bool true) ∧ Below W.heap.size W w' := by
  obtain ⟨xs, hl, hs⟩ := row_sl w0
  have HS := Lib.hid hs
  have hcaps := hs.caps
  clear w0 hs
  subst hl
  have HM := Mem.start W
  go_enter Try.func15, Try.ntmps15
  go_wp2_with (first | (refine wpM_storeAll HM rfl rfl rfl rfl (by repeat (first | exact Sel.head | apply Sel.tail)) (by rfl) (by kernel_rfl) (by rfl) ?_; clear HM; intro w HM) | (refine wpM_loadAll (ty := 26) HM rfl rfl rfl (by repeat (first | exact Sel.head | apply Sel.tail)) (by kernel_rfl) ?_) | (refine wpM_box HM rfl rfl rfl rfl ?_; clear HM; intro b w HB HM; clear HB) | (refine wpM_alloc HM rfl rfl zt_Answer rfl ?_; clear HM; intro b w HB HM; clear HB) | (refine wpM_load (ty := 3) HM rfl rfl rfl (by repeat (first | exact Sel.head | apply Sel.tail)) (by first | rfl | assumption) (by kernel_rfl) ?_) | (refine wpM_loadR (ty := 3) HM rfl rfl rfl (by repeat (first | exact Sel.head | apply Sel.tail)) (by first | rfl | assumption) (by kernel_rfl) ?_) | (refine wpM_store HM rfl rfl rfl (by (conv => lhs; whnf); try rfl) (by repeat (first | exact Sel.head | apply Sel.tail)) (by simp) (by kernel_rfl) (by rfl) ?_; clear HM; intro w HM; simp only [List.set_cons_zero, List.set_cons_succ] at HM))
  refine (heaped_any _).mono ?_
  rintro e w ⟨rfl, hb⟩
  replace HM := HM.call hb
  clear hb
  go_wp2_with (first | (refine wpM_storeAll HM rfl rfl rfl rfl (by repeat (first | exact Sel.head | apply Sel.tail)) (by rfl) (by kernel_rfl) (by rfl) ?_; clear HM; intro w HM) | (refine wpM_loadAll (ty := 26) HM rfl rfl rfl (by repeat (first | exact Sel.head | apply Sel.tail)) (by kernel_rfl) ?_) | (refine wpM_box HM rfl rfl rfl rfl ?_; clear HM; intro b w HB HM; clear HB) | (refine wpM_alloc HM rfl rfl zt_Answer rfl ?_; clear HM; intro b w HB HM; clear HB) | (refine wpM_load (ty := 3) HM rfl rfl rfl (by repeat (first | exact Sel.head | apply Sel.tail)) (by first | rfl | assumption) (by kernel_rfl) ?_) | (refine wpM_loadR (ty := 3) HM rfl rfl rfl (by repeat (first | exact Sel.head | apply Sel.tail)) (by first | rfl | assumption) (by kernel_rfl) ?_) | (refine wpM_store HM rfl rfl rfl (by (conv => lhs; whnf); try rfl) (by repeat (first | exact Sel.head | apply Sel.tail)) (by simp) (by kernel_rfl) (by rfl) ?_; clear HM; intro w HM; simp only [List.set_cons_zero, List.set_cons_succ] at HM))
  refine ((heap_right _ _ xs (HS.out.below HM.below))).mono ?_
  rintro e w ⟨rfl, hb⟩
  replace HM := HM.call hb
  clear hb
  have HHB := Lib.hid (heapB_iff xs)
  cases hB : heapB xs with
  | false =>
    go_wp2_with (first | (refine wpM_storeAll HM rfl rfl rfl rfl (by repeat (first | exact Sel.head | apply Sel.tail)) (by rfl) (by kernel_rfl) (by rfl) ?_; clear HM; intro w HM) | (refine wpM_loadAll (ty := 26) HM rfl rfl rfl (by repeat (first | exact Sel.head | apply Sel.tail)) (by kernel_rfl) ?_) | (refine wpM_box HM rfl rfl rfl rfl ?_; clear HM; intro b w HB HM; clear HB) | (refine wpM_alloc HM rfl rfl zt_Answer rfl ?_; clear HM; intro b w HB HM; clear HB) | (refine wpM_load (ty := 3) HM rfl rfl rfl (by repeat (first | exact Sel.head | apply Sel.tail)) (by first | rfl | assumption) (by kernel_rfl) ?_) | (refine wpM_loadR (ty := 3) HM rfl rfl rfl (by repeat (first | exact Sel.head | apply Sel.tail)) (by first | rfl | assumption) (by kernel_rfl) ?_) | (refine wpM_store HM rfl rfl rfl (by (conv => lhs; whnf); try rfl) (by repeat (first | exact Sel.head | apply Sel.tail)) (by simp) (by kernel_rfl) (by rfl) ?_; clear HM; intro w HM; simp only [List.set_cons_zero, List.set_cons_succ] at HM))
    go_ret
    exact ⟨rfl, HM.below⟩
  | true =>
    obtain ⟨hh, h6⟩ := HHB.out.1 hB
    clear hB HHB
    have HH := Lib.hid hh
    clear hh
    by_cases h5 : 6 ≤ xs.length
    · have t1 : decide ((6 : Int) ≤ (xs.length : Int)) = true := by simp; omega
      go_wp2_with (first | (refine wpM_storeAll HM rfl rfl rfl rfl (by repeat (first | exact Sel.head | apply Sel.tail)) (by rfl) (by kernel_rfl) (by rfl) ?_; clear HM; intro w HM) | (refine wpM_loadAll (ty := 26) HM rfl rfl rfl (by repeat (first | exact Sel.head | apply Sel.tail)) (by kernel_rfl) ?_) | (refine wpM_box HM rfl rfl rfl rfl ?_; clear HM; intro b w HB HM; clear HB) | (refine wpM_alloc HM rfl rfl zt_Answer rfl ?_; clear HM; intro b w HB HM; clear HB) | (refine wpM_load (ty := 3) HM rfl rfl rfl (by repeat (first | exact Sel.head | apply Sel.tail)) (by first | rfl | assumption) (by kernel_rfl) ?_) | (refine wpM_loadR (ty := 3) HM rfl rfl rfl (by repeat (first | exact Sel.head | apply Sel.tail)) (by first | rfl | assumption) (by kernel_rfl) ?_) | (refine wpM_store HM rfl rfl rfl (by (conv => lhs; whnf); try rfl) (by repeat (first | exact Sel.head | apply Sel.tail)) (by simp) (by kernel_rfl) (by rfl) ?_; clear HM; intro w HM; simp only [List.set_cons_zero, List.set_cons_succ] at HM))
      go_ret
      exact ⟨rfl, HM.below⟩
    · have t1 : decide ((6 : Int) ≤ (xs.length : Int)) = false := by simp; omega
      go_wp2_with (first | (refine wpM_storeAll HM rfl rfl rfl rfl (by repeat (first | exact Sel.head | apply Sel.tail)) (by rfl) (by kernel_rfl) (by rfl) ?_; clear HM; intro w HM) | (refine wpM_loadAll (ty := 26) HM rfl rfl rfl (by repeat (first | exact Sel.head | apply Sel.tail)) (by kernel_rfl) ?_) | (refine wpM_box HM rfl rfl rfl rfl ?_; clear HM; intro b w HB HM; clear HB) | (refine wpM_alloc HM rfl rfl zt_Answer rfl ?_; clear HM; intro b w HB HM; clear HB) | (refine wpM_load (ty := 3) HM rfl rfl rfl (by repeat (first | exact Sel.head | apply Sel.tail)) (by first | rfl | assumption) (by kernel_rfl) ?_) | (refine wpM_loadR (ty := 3) HM rfl rfl rfl (by repeat (first | exact Sel.head | apply Sel.tail)) (by first | rfl | assumption) (by kernel_rfl) ?_) | (refine wpM_store HM rfl rfl rfl (by (conv => lhs; whnf); try rfl) (by repeat (first | exact Sel.head | apply Sel.tail)) (by simp) (by kernel_rfl) (by rfl) ?_; clear HM; intro w HM; simp only [List.set_cons_zero, List.set_cons_succ] at HM))
      refine (contFunc_any _ _ xs (HS.out.below HM.below)).mono ?_
      rintro e w ⟨rfl, hb⟩
      replace HM := HM.call hb
      clear hb
      cases hL : lowB xs with
      | true =>
        go_wp2_with (first | (refine wpM_storeAll HM rfl rfl rfl rfl (by repeat (first | exact Sel.head | apply Sel.tail)) (by rfl) (by kernel_rfl) (by rfl) ?_; clear HM; intro w HM) | (refine wpM_loadAll (ty := 26) HM rfl rfl rfl (by repeat (first | exact Sel.head | apply Sel.tail)) (by kernel_rfl) ?_) | (refine wpM_box HM rfl rfl rfl rfl ?_; clear HM; intro b w HB HM; clear HB) | (refine wpM_alloc HM rfl rfl zt_Answer rfl ?_; clear HM; intro b w HB HM; clear HB) | (refine wpM_load (ty := 3) HM rfl rfl rfl (by repeat (first | exact Sel.head | apply Sel.tail)) (by first | rfl | assumption) (by kernel_rfl) ?_) | (refine wpM_loadR (ty := 3) HM rfl rfl rfl (by repeat (first | exact Sel.head | apply Sel.tail)) (by first | rfl | assumption) (by kernel_rfl) ?_) | (refine wpM_store HM rfl rfl rfl (by (conv => lhs; whnf); try rfl) (by repeat (first | exact Sel.head | apply Sel.tail)) (by simp) (by kernel_rfl) (by rfl) ?_; clear HM; intro w HM; simp only [List.set_cons_zero, List.set_cons_succ] at HM))
        go_ret
        exact ⟨rfl, HM.below⟩
      | false =>
        obtain ⟨ys, zs, e1, hyl, e2, hzl, hso⟩ := heap_once HH.out (by omega) hL
        have E1 := Lib.hid e1
        have E2 := Lib.hid e2
        have HYL := Lib.hid hyl
        have HZL := Lib.hid hzl
        have HSO := Lib.hid hso
        clear e1 e2 hyl hzl hso hL
        go_wp2_with (first | (refine wpM_storeAll HM rfl rfl rfl rfl (by repeat (first | exact Sel.head | apply Sel.tail)) (by rfl) (by kernel_rfl) (by rfl) ?_; clear HM; intro w HM) | (refine wpM_loadAll (ty := 26) HM rfl rfl rfl (by repeat (first | exact Sel.head | apply Sel.tail)) (by kernel_rfl) ?_) | (refine wpM_box HM rfl rfl rfl rfl ?_; clear HM; intro b w HB HM; clear HB) | (refine wpM_alloc HM rfl rfl zt_Answer rfl ?_; clear HM; intro b w HB HM; clear HB) | (refine wpM_load (ty := 3) HM rfl rfl rfl (by repeat (first | exact Sel.head | apply Sel.tail)) (by first | rfl | assumption) (by kernel_rfl) ?_) | (refine wpM_loadR (ty := 3) HM rfl rfl rfl (by repeat (first | exact Sel.head | apply Sel.tail)) (by first | rfl | assumption) (by kernel_rfl) ?_) | (refine wpM_store HM rfl rfl rfl (by (conv => lhs; whnf); try rfl) (by repeat (first | exact Sel.head | apply Sel.tail)) (by simp) (by kernel_rfl) (by rfl) ?_; clear HM; intro w HM; simp only [List.set_cons_zero, List.set_cons_succ] at HM))
        refine (put_any 0 _).mono ?_
        rintro e w ⟨rfl, hb⟩
        replace HM := HM.call hb
        clear hb
        go_wp2_with (first | (refine wpM_storeAll HM rfl rfl rfl rfl (by repeat (first | exact Sel.head | apply Sel.tail)) (by rfl) (by kernel_rfl) (by rfl) ?_; clear HM; intro w HM) | (refine wpM_loadAll (ty := 26) HM rfl rfl rfl (by repeat (first | exact Sel.head | apply Sel.tail)) (by kernel_rfl) ?_) | (refine wpM_box HM rfl rfl rfl rfl ?_; clear HM; intro b w HB HM; clear HB) | (refine wpM_alloc HM rfl rfl zt_Answer rfl ?_; clear HM; intro b w HB HM; clear HB) | (refine wpM_load (ty := 3) HM rfl rfl rfl (by repeat (first | exact Sel.head | apply Sel.tail)) (by first | rfl | assumption) (by kernel_rfl) ?_) | (refine wpM_loadR (ty := 3) HM rfl rfl rfl (by repeat (first | exact Sel.head | apply Sel.tail)) (by first | rfl | assumption) (by kernel_rfl) ?_) | (refine wpM_store HM rfl rfl rfl (by (conv => lhs; whnf); try rfl) (by repeat (first | exact Sel.head | apply Sel.tail)) (by simp) (by kernel_rfl) (by rfl) ?_; clear HM; intro w HM; simp only [List.set_cons_zero, List.set_cons_succ] at HM))
        refine (heap_eq _ _ xs 1 0 0 (HS.out.below HM.below) (by omega) E1.out).mono ?_
        rintro e w ⟨p1, c1, rfl, ho, hb⟩
        replace HM := HM.got hb ho
        change Mem W _ (.row _ 3 1 (ys).length (vals (ys)) :: _) w at HM
        clear ho hb
        go_wp2_with (first | (refine wpM_storeAll HM rfl rfl rfl rfl (by repeat (first | exact Sel.head | apply Sel.tail)) (by rfl) (by kernel_rfl) (by rfl) ?_; clear HM; intro w HM) | (refine wpM_loadAll (ty := 26) HM rfl rfl rfl (by repeat (first | exact Sel.head | apply Sel.tail)) (by kernel_rfl) ?_) | (refine wpM_box HM rfl rfl rfl rfl ?_; clear HM; intro b w HB HM; clear HB) | (refine wpM_alloc HM rfl rfl zt_Answer rfl ?_; clear HM; intro b w HB HM; clear HB) | (refine wpM_load (ty := 3) HM rfl rfl rfl (by repeat (first | exact Sel.head | apply Sel.tail)) (by first | rfl | assumption) (by kernel_rfl) ?_) | (refine wpM_loadR (ty := 3) HM rfl rfl rfl (by repeat (first | exact Sel.head | apply Sel.tail)) (by first | rfl | assumption) (by kernel_rfl) ?_) | (refine wpM_store HM rfl rfl rfl (by (conv => lhs; whnf); try rfl) (by repeat (first | exact Sel.head | apply Sel.tail)) (by simp) (by kernel_rfl) (by rfl) ?_; clear HM; intro w HM; simp only [List.set_cons_zero, List.set_cons_succ] at HM))
        refine (heap_eq _ _ ys 2 0 0 (HM.sl (xs := ys) (.tail .head)) (by rw [HYL.out]; omega) E2.out).mono ?_
        rintro e w ⟨p2, c2, rfl, ho, hb⟩
        replace HM := HM.got hb ho
        change Mem W _ (.row _ 3 1 (zs).length (vals (zs)) :: _) w at HM
        clear ho hb
        go_wp2_with (first | (refine wpM_storeAll HM rfl rfl rfl rfl (by repeat (first | exact Sel.head | apply Sel.tail)) (by rfl) (by kernel_rfl) (by rfl) ?_; clear HM; intro w HM) | (refine wpM_loadAll (ty := 26) HM rfl rfl rfl (by repeat (first | exact Sel.head | apply Sel.tail)) (by kernel_rfl) ?_) | (refine wpM_box HM rfl rfl rfl rfl ?_; clear HM; intro b w HB HM; clear HB) | (refine wpM_alloc HM rfl rfl zt_Answer rfl ?_; clear HM; intro b w HB HM; clear HB) | (refine wpM_load (ty := 3) HM rfl rfl rfl (by repeat (first | exact Sel.head | apply Sel.tail)) (by first | rfl | assumption) (by kernel_rfl) ?_) | (refine wpM_loadR (ty := 3) HM rfl rfl rfl (by repeat (first | exact Sel.head | apply Sel.tail)) (by first | rfl | assumption) (by kernel_rfl) ?_) | (refine wpM_store HM rfl rfl rfl (by (conv => lhs; whnf); try rfl) (by repeat (first | exact Sel.head | apply Sel.tail)) (by simp) (by kernel_rfl) (by rfl) ?_; clear HM; intro w HM; simp only [List.set_cons_zero, List.set_cons_succ] at HM))
        refine (clone_any _ _ xs (HS.out.below HM.below) (by omega)).mono ?_
        rintro e w ⟨v3, rfl, ho, hb⟩
        replace HM := HM.got hb ho
        change Mem W _ (.row _ 3 1 (xs).length (vals (xs)) :: _) w at HM
        clear ho hb
        obtain ⟨q3, d3, rfl, -⟩ := ownsRow.form (HM.row .head)
        go_wp2_with (first | (refine wpM_storeAll HM rfl rfl rfl rfl (by repeat (first | exact Sel.head | apply Sel.tail)) (by rfl) (by kernel_rfl) (by rfl) ?_; clear HM; intro w HM) | (refine wpM_loadAll (ty := 26) HM rfl rfl rfl (by repeat (first | exact Sel.head | apply Sel.tail)) (by kernel_rfl) ?_) | (refine wpM_box HM rfl rfl rfl rfl ?_; clear HM; intro b w HB HM; clear HB) | (refine wpM_alloc HM rfl rfl zt_Answer rfl ?_; clear HM; intro b w HB HM; clear HB) | (refine wpM_load (ty := 3) HM rfl rfl rfl (by repeat (first | exact Sel.head | apply Sel.tail)) (by first | rfl | assumption) (by kernel_rfl) ?_) | (refine wpM_loadR (ty := 3) HM rfl rfl rfl (by repeat (first | exact Sel.head | apply Sel.tail)) (by first | rfl | assumption) (by kernel_rfl) ?_) | (refine wpM_store HM rfl rfl rfl (by (conv => lhs; whnf); try rfl) (by repeat (first | exact Sel.head | apply Sel.tail)) (by simp) (by kernel_rfl) (by rfl) ?_; clear HM; intro w HM; simp only [List.set_cons_zero, List.set_cons_succ] at HM))
        refine (clone_any _ _ zs (HM.sl (xs := zs) (by repeat (first | exact Sel.head | apply Sel.tail))) (by rw [HZL.out]; omega)).mono ?_
        rintro e w ⟨v4, rfl, ho, hb⟩
        replace HM := HM.got hb ho
        change Mem W _ (.row _ 3 1 (zs).length (vals (zs)) :: _) w at HM
        clear ho hb
        obtain ⟨q4, d4, rfl, -⟩ := ownsRow.form (HM.row .head)
        go_wp2_with (first | (refine wpM_storeAll HM rfl rfl rfl rfl (by repeat (first | exact Sel.head | apply Sel.tail)) (by rfl) (by kernel_rfl) (by rfl) ?_; clear HM; intro w HM) | (refine wpM_loadAll (ty := 26) HM rfl rfl rfl (by repeat (first | exact Sel.head | apply Sel.tail)) (by kernel_rfl) ?_) | (refine wpM_box HM rfl rfl rfl rfl ?_; clear HM; intro b w HB HM; clear HB) | (refine wpM_alloc HM rfl rfl zt_Answer rfl ?_; clear HM; intro b w HB HM; clear HB) | (refine wpM_load (ty := 3) HM rfl rfl rfl (by repeat (first | exact Sel.head | apply Sel.tail)) (by first | rfl | assumption) (by kernel_rfl) ?_) | (refine wpM_loadR (ty := 3) HM rfl rfl rfl (by repeat (first | exact Sel.head | apply Sel.tail)) (by first | rfl | assumption) (by kernel_rfl) ?_) | (refine wpM_store HM rfl rfl rfl (by (conv => lhs; whnf); try rfl) (by repeat (first | exact Sel.head | apply Sel.tail)) (by simp) (by kernel_rfl) (by rfl) ?_; clear HM; intro w HM; simp only [List.set_cons_zero, List.set_cons_succ] at HM))
        refine (sort_row _ _ xs.length xs rfl (HM.row (.tail .head)) (by omega)).mono ?_
        rintro e w ⟨rfl, ho, hk⟩
        replace HM := HM.turn (.tail .head) hk (.row _ _ _ _ _) ho (fun g h => .inl h)
        clear ho hk
        go_wp2_with (first | (refine wpM_storeAll HM rfl rfl rfl rfl (by repeat (first | exact Sel.head | apply Sel.tail)) (by rfl) (by kernel_rfl) (by rfl) ?_; clear HM; intro w HM) | (refine wpM_loadAll (ty := 26) HM rfl rfl rfl (by repeat (first | exact Sel.head | apply Sel.tail)) (by kernel_rfl) ?_) | (refine wpM_box HM rfl rfl rfl rfl ?_; clear HM; intro b w HB HM; clear HB) | (refine wpM_alloc HM rfl rfl zt_Answer rfl ?_; clear HM; intro b w HB HM; clear HB) | (refine wpM_load (ty := 3) HM rfl rfl rfl (by repeat (first | exact Sel.head | apply Sel.tail)) (by first | rfl | assumption) (by kernel_rfl) ?_) | (refine wpM_loadR (ty := 3) HM rfl rfl rfl (by repeat (first | exact Sel.head | apply Sel.tail)) (by first | rfl | assumption) (by kernel_rfl) ?_) | (refine wpM_store HM rfl rfl rfl (by (conv => lhs; whnf); try rfl) (by repeat (first | exact Sel.head | apply Sel.tail)) (by simp) (by kernel_rfl) (by rfl) ?_; clear HM; intro w HM; simp only [List.set_cons_zero, List.set_cons_succ] at HM))
        refine (sort_row _ _ zs.length zs rfl (HM.row .head) (by rw [HZL.out]; omega)).mono ?_
        rintro e w ⟨rfl, ho, hk⟩
        replace HM := HM.turn .head hk (.row _ _ _ _ _) ho (fun g h => .inl h)
        clear ho hk
        go_wp2_with (first | (refine wpM_storeAll HM rfl rfl rfl rfl (by repeat (first | exact Sel.head | apply Sel.tail)) (by rfl) (by kernel_rfl) (by rfl) ?_; clear HM; intro w HM) | (refine wpM_loadAll (ty := 26) HM rfl rfl rfl (by repeat (first | exact Sel.head | apply Sel.tail)) (by kernel_rfl) ?_) | (refine wpM_box HM rfl rfl rfl rfl ?_; clear HM; intro b w HB HM; clear HB) | (refine wpM_alloc HM rfl rfl zt_Answer rfl ?_; clear HM; intro b w HB HM; clear HB) | (refine wpM_load (ty := 3) HM rfl rfl rfl (by repeat (first | exact Sel.head | apply Sel.tail)) (by first | rfl | assumption) (by kernel_rfl) ?_) | (refine wpM_loadR (ty := 3) HM rfl rfl rfl (by repeat (first | exact Sel.head | apply Sel.tail)) (by first | rfl | assumption) (by kernel_rfl) ?_) | (refine wpM_store HM rfl rfl rfl (by (conv => lhs; whnf); try rfl) (by repeat (first | exact Sel.head | apply Sel.tail)) (by simp) (by kernel_rfl) (by rfl) ?_; clear HM; intro w HM; simp only [List.set_cons_zero, List.set_cons_succ] at HM))
        have HLX := Lib.hid (sortI_len xs)
        have HLZ := Lib.hid (sortI_len zs)
        refine (equal_yes _ (.slice q3 xs.length d3) (.slice q4 zs.length d4) (sortI xs) (sortI zs) (Own.sl (base := 0) (by unfold Own; rw [HLX.out]; exact HM.row (.tail .head))) (Own.sl (base := 0) (by unfold Own; rw [HLZ.out]; exact HM.row .head)) HSO.out (by rw [HLX.out]; omega)).mono ?_
        rintro e w ⟨rfl, hb⟩
        replace HM := HM.call hb
        clear hb
        go_wp2_with (first | (refine wpM_storeAll HM rfl rfl rfl rfl (by repeat (first | exact Sel.head | apply Sel.tail)) (by rfl) (by kernel_rfl) (by rfl) ?_; clear HM; intro w HM) | (refine wpM_loadAll (ty := 26) HM rfl rfl rfl (by repeat (first | exact Sel.head | apply Sel.tail)) (by kernel_rfl) ?_) | (refine wpM_box HM rfl rfl rfl rfl ?_; clear HM; intro b w HB HM; clear HB) | (refine wpM_alloc HM rfl rfl zt_Answer rfl ?_; clear HM; intro b w HB HM; clear HB) | (refine wpM_load (ty := 3) HM rfl rfl rfl (by repeat (first | exact Sel.head | apply Sel.tail)) (by first | rfl | assumption) (by kernel_rfl) ?_) | (refine wpM_loadR (ty := 3) HM rfl rfl rfl (by repeat (first | exact Sel.head | apply Sel.tail)) (by first | rfl | assumption) (by kernel_rfl) ?_) | (refine wpM_store HM rfl rfl rfl (by (conv => lhs; whnf); try rfl) (by repeat (first | exact Sel.head | apply Sel.tail)) (by simp) (by kernel_rfl) (by rfl) ?_; clear HM; intro w HM; simp only [List.set_cons_zero, List.set_cons_succ] at HM))
        go_ret
        exact ⟨rfl, HM.below⟩
end Go.Proofs.Ytpedkcpkdacnlaa
