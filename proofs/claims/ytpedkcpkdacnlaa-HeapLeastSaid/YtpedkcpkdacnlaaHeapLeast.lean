/- HeapLeast: the walk of the law. -/
import Derived.Test.YtpedkcpkdacnlaaHeaped
import Derived.Test.YtpedkcpkdacnlaaHeapMore
namespace Go.Proofs.Ytpedkcpkdacnlaa
open Go.RowKit
set_option linter.unusedVariables false
theorem minOf_heap {xs : List Int} (h : IsHeap xs) (hx : 0 < xs.length) : Lib.minOf xs = hp xs 0 := by
  cases xs with
  | nil => simp at hx
  | cons a t =>
    have hl := heap_le_mem h
    have key : ∀ (l : List Int) (m : Int), (∀ v ∈ l, m ≤ v) → l.foldl min m = m := by
      intro l
      induction l with
      | nil => intro m _; rfl
      | cons v l ih =>
        intro m hm
        rw [List.foldl_cons, Int.min_eq_left (hm v List.mem_cons_self)]
        exact ih m (fun u hu => hm u (List.mem_cons_of_mem _ hu))
    exact key (a :: t) a hl
theorem min_any (w : World) (v : Value) (xs : List Int) (h : Sl w v xs) (hx : 0 < xs.length) :
    Calls Try.prog 20 #[v] w fun e w' => e = .returned (.int .i64 (Lib.minOf xs)) ∧ Below w.heap.size w w' := by
  obtain ⟨a, cap, rfl, h1, h2, h3⟩ := h
  rcases h3 with h3 | ⟨b, off, rfl, hb, hc⟩
  · omega
  · refine (Try.slices_Min_int b off xs.length cap xs w hx (Nat.le_refl _) (by omega) hc).mono fun e w' ⟨he, hw⟩ => ⟨?_, hw ▸ Below.refl _ _⟩
    rw [List.take_length] at he; exact he
theorem min_eq (w : World) (v : Value) (xs : List Int) (m : Int) (h : Sl w v xs) (hx : 0 < xs.length) (hm : Lib.minOf xs = m) :
    Calls Try.prog 20 #[v] w fun e w' => e = .returned (.int .i64 m) ∧ Below w.heap.size w w' := by
  subst hm; exact min_any w v xs h hx
set_option maxRecDepth 20000 in
set_option maxHeartbeats 4000000 in
theorem walk_HeapLeast (a0 : Option Addr) (len0 cap0 : Nat) (z0 : List Int) (W : World) (w0 : IsRow .i64 W a0 len0 cap0 z0) :
    Calls Try.prog 4 #[.slice a0 len0 cap0] W fun e w' => e = .returned (.bool true) ∧ Below W.heap.size W w' := by
  obtain ⟨xs, hl, hs⟩ := row_sl w0
  have HS := Lib.hid hs
  have hcaps := hs.caps
  clear w0 hs
  subst hl
  have HM := Mem.start W
  go_enter Try.func4, Try.ntmps4
  go_wp2_with (first | (refine wpM_storeAll HM rfl rfl rfl rfl (by repeat (first | exact Sel.head | apply Sel.tail)) (by rfl) (by kernel_rfl) (by rfl) ?_; clear HM; intro w HM) | (refine wpM_loadAll (ty := 26) HM rfl rfl rfl (by repeat (first | exact Sel.head | apply Sel.tail)) (by kernel_rfl) ?_) | (refine wpM_box HM rfl rfl rfl rfl ?_; clear HM; intro b w HB HM; clear HB) | (refine wpM_alloc HM rfl rfl zt_Answer rfl ?_; clear HM; intro b w HB HM; clear HB) | (refine wpM_load (ty := 3) HM rfl rfl rfl (by repeat (first | exact Sel.head | apply Sel.tail)) (by first | rfl | assumption) (by kernel_rfl) ?_) | (refine wpM_loadR (ty := 3) HM rfl rfl rfl (by repeat (first | exact Sel.head | apply Sel.tail)) (by first | rfl | assumption) (by kernel_rfl) ?_) | (refine wpM_store HM rfl rfl rfl (by (conv => lhs; whnf); try rfl) (by repeat (first | exact Sel.head | apply Sel.tail)) (by simp) (by kernel_rfl) (by rfl) ?_; clear HM; intro w HM; simp only [List.set_cons_zero, List.set_cons_succ] at HM))
  refine (heaped_any _).mono ?_
  rintro e w ⟨rfl, hb⟩
  replace HM := HM.call hb
  clear hb
  go_wp2_with (first | (refine wpM_storeAll HM rfl rfl rfl rfl (by repeat (first | exact Sel.head | apply Sel.tail)) (by rfl) (by kernel_rfl) (by rfl) ?_; clear HM; intro w HM) | (refine wpM_loadAll (ty := 26) HM rfl rfl rfl (by repeat (first | exact Sel.head | apply Sel.tail)) (by kernel_rfl) ?_) | (refine wpM_box HM rfl rfl rfl rfl ?_; clear HM; intro b w HB HM; clear HB) | (refine wpM_alloc HM rfl rfl zt_Answer rfl ?_; clear HM; intro b w HB HM; clear HB) | (refine wpM_load (ty := 3) HM rfl rfl rfl (by repeat (first | exact Sel.head | apply Sel.tail)) (by first | rfl | assumption) (by kernel_rfl) ?_) | (refine wpM_loadR (ty := 3) HM rfl rfl rfl (by repeat (first | exact Sel.head | apply Sel.tail)) (by first | rfl | assumption) (by kernel_rfl) ?_) | (refine wpM_store HM rfl rfl rfl (by (conv => lhs; whnf); try rfl) (by repeat (first | exact Sel.head | apply Sel.tail)) (by simp) (by kernel_rfl) (by rfl) ?_; clear HM; intro w HM; simp only [List.set_cons_zero, List.set_cons_succ] at HM))
  refine ((heap_right _ _ xs (HS.out.below HM.below))).mono ?_
  rintro e w ⟨rfl, hb⟩
  replace HM := HM.call hb
  clear hb
  have HHB := Lib.hid (heapB_iff xs)
  cases hB : heapB xs with
  | false =>
    go_wp2_with (first | (refine wpM_storeAll HM rfl rfl rfl rfl (by repeat (first | exact Sel.head | apply Sel.tail)) (by rfl) (by kernel_rfl) (by rfl) ?_; clear HM; intro w HM) | (refine wpM_loadAll (ty := 26) HM rfl rfl rfl (by repeat (first | exact Sel.head | apply Sel.tail)) (by kernel_rfl) ?_) | (refine wpM_box HM rfl rfl rfl rfl ?_; clear HM; intro b w HB HM; clear HB) | (refine wpM_alloc HM rfl rfl zt_Answer rfl ?_; clear HM; intro b w HB HM; clear HB) | (refine wpM_load (ty := 3) HM rfl rfl rfl (by repeat (first | exact Sel.head | apply Sel.tail)) (by first | rfl | assumption) (by kernel_rfl) ?_) | (refine wpM_loadR (ty := 3) HM rfl rfl rfl (by repeat (first | exact Sel.head | apply Sel.tail)) (by first | rfl | assumption) (by kernel_rfl) ?_) | (refine wpM_store HM rfl rfl rfl (by (conv => lhs; whnf); try rfl) (by repeat (first | exact Sel.head | apply Sel.tail)) (by simp) (by kernel_rfl) (by rfl) ?_; clear HM; intro w HM; simp only [List.set_cons_zero, List.set_cons_succ] at HM))
    go_ret
    exact ⟨rfl, HM.below⟩
  | true =>
    obtain ⟨hh, h6⟩ := HHB.out.1 hB
    clear hB HHB
    have HH := Lib.hid hh
    clear hh
    by_cases h0 : xs.length = 0
    · have t1 : ((xs.length : Int) == 0) = true := by rw [h0]; rfl
      have E1 : Hid (heapR xs 2 0 = (xs, 2, 0)) := Lib.hid (by unfold heapR; rw [if_neg (by decide), if_pos (by decide), if_pos h0])
      have E2 : Hid (heapR xs 5 0 = (xs, 2, 0)) := Lib.hid (by unfold heapR; rw [if_neg (by decide), if_pos (by decide), if_pos h0])
      have H0 := Lib.hid h0
      clear h0
      go_wp2_with (first | (refine wpM_storeAll HM rfl rfl rfl rfl (by repeat (first | exact Sel.head | apply Sel.tail)) (by rfl) (by kernel_rfl) (by rfl) ?_; clear HM; intro w HM) | (refine wpM_loadAll (ty := 26) HM rfl rfl rfl (by repeat (first | exact Sel.head | apply Sel.tail)) (by kernel_rfl) ?_) | (refine wpM_box HM rfl rfl rfl rfl ?_; clear HM; intro b w HB HM; clear HB) | (refine wpM_alloc HM rfl rfl zt_Answer rfl ?_; clear HM; intro b w HB HM; clear HB) | (refine wpM_load (ty := 3) HM rfl rfl rfl (by repeat (first | exact Sel.head | apply Sel.tail)) (by first | rfl | assumption) (by kernel_rfl) ?_) | (refine wpM_loadR (ty := 3) HM rfl rfl rfl (by repeat (first | exact Sel.head | apply Sel.tail)) (by first | rfl | assumption) (by kernel_rfl) ?_) | (refine wpM_store HM rfl rfl rfl (by (conv => lhs; whnf); try rfl) (by repeat (first | exact Sel.head | apply Sel.tail)) (by simp) (by kernel_rfl) (by rfl) ?_; clear HM; intro w HM; simp only [List.set_cons_zero, List.set_cons_succ] at HM))
      refine (heap_eq _ _ xs 2 0 0 (HS.out.below HM.below) (by omega) E1.out).mono ?_
      rintro e w ⟨p1, c1, rfl, ho, hb⟩
      replace HM := HM.got hb ho
      change Mem W _ (.row _ 3 1 (xs).length (vals (xs)) :: _) w at HM
      clear ho hb
      go_wp2_with (first | (refine wpM_storeAll HM rfl rfl rfl rfl (by repeat (first | exact Sel.head | apply Sel.tail)) (by rfl) (by kernel_rfl) (by rfl) ?_; clear HM; intro w HM) | (refine wpM_loadAll (ty := 26) HM rfl rfl rfl (by repeat (first | exact Sel.head | apply Sel.tail)) (by kernel_rfl) ?_) | (refine wpM_box HM rfl rfl rfl rfl ?_; clear HM; intro b w HB HM; clear HB) | (refine wpM_alloc HM rfl rfl zt_Answer rfl ?_; clear HM; intro b w HB HM; clear HB) | (refine wpM_load (ty := 3) HM rfl rfl rfl (by repeat (first | exact Sel.head | apply Sel.tail)) (by first | rfl | assumption) (by kernel_rfl) ?_) | (refine wpM_loadR (ty := 3) HM rfl rfl rfl (by repeat (first | exact Sel.head | apply Sel.tail)) (by first | rfl | assumption) (by kernel_rfl) ?_) | (refine wpM_store HM rfl rfl rfl (by (conv => lhs; whnf); try rfl) (by repeat (first | exact Sel.head | apply Sel.tail)) (by simp) (by kernel_rfl) (by rfl) ?_; clear HM; intro w HM; simp only [List.set_cons_zero, List.set_cons_succ] at HM))
      refine (heap_eq _ _ xs 5 0 0 (HS.out.below HM.below) (by omega) E2.out).mono ?_
      rintro e w ⟨p2, c2, rfl, ho, hb⟩
      replace HM := HM.got hb ho
      change Mem W _ (.row _ 3 1 (xs).length (vals (xs)) :: _) w at HM
      clear ho hb
      go_wp2_with (first | (refine wpM_storeAll HM rfl rfl rfl rfl (by repeat (first | exact Sel.head | apply Sel.tail)) (by rfl) (by kernel_rfl) (by rfl) ?_; clear HM; intro w HM) | (refine wpM_loadAll (ty := 26) HM rfl rfl rfl (by repeat (first | exact Sel.head | apply Sel.tail)) (by kernel_rfl) ?_) | (refine wpM_box HM rfl rfl rfl rfl ?_; clear HM; intro b w HB HM; clear HB) | (refine wpM_alloc HM rfl rfl zt_Answer rfl ?_; clear HM; intro b w HB HM; clear HB) | (refine wpM_load (ty := 3) HM rfl rfl rfl (by repeat (first | exact Sel.head | apply Sel.tail)) (by first | rfl | assumption) (by kernel_rfl) ?_) | (refine wpM_loadR (ty := 3) HM rfl rfl rfl (by repeat (first | exact Sel.head | apply Sel.tail)) (by first | rfl | assumption) (by kernel_rfl) ?_) | (refine wpM_store HM rfl rfl rfl (by (conv => lhs; whnf); try rfl) (by repeat (first | exact Sel.head | apply Sel.tail)) (by simp) (by kernel_rfl) (by rfl) ?_; clear HM; intro w HM; simp only [List.set_cons_zero, List.set_cons_succ] at HM))
      go_ret
      exact ⟨rfl, HM.below⟩
    · have t1 : ((xs.length : Int) == 0) = false := beq_eq_false_iff_ne.2 (by omega)
      obtain ⟨ys, e1, -⟩ := heapR_take xs 0 (by omega)
      have E1 := Lib.hid e1
      have E2 : Hid (heapR xs 5 0 = (xs, 1, hp xs 0)) := Lib.hid (by unfold heapR; rw [if_neg (by decide), if_pos (by decide), if_neg h0, if_pos rfl])
      have HMI := Lib.hid (minOf_heap HH.out (by omega))
      have HX : Hid (0 < xs.length) := Lib.hid (by omega)
      clear e1
      go_wp2_with (first | (refine wpM_storeAll HM rfl rfl rfl rfl (by repeat (first | exact Sel.head | apply Sel.tail)) (by rfl) (by kernel_rfl) (by rfl) ?_; clear HM; intro w HM) | (refine wpM_loadAll (ty := 26) HM rfl rfl rfl (by repeat (first | exact Sel.head | apply Sel.tail)) (by kernel_rfl) ?_) | (refine wpM_box HM rfl rfl rfl rfl ?_; clear HM; intro b w HB HM; clear HB) | (refine wpM_alloc HM rfl rfl zt_Answer rfl ?_; clear HM; intro b w HB HM; clear HB) | (refine wpM_load (ty := 3) HM rfl rfl rfl (by repeat (first | exact Sel.head | apply Sel.tail)) (by first | rfl | assumption) (by kernel_rfl) ?_) | (refine wpM_loadR (ty := 3) HM rfl rfl rfl (by repeat (first | exact Sel.head | apply Sel.tail)) (by first | rfl | assumption) (by kernel_rfl) ?_) | (refine wpM_store HM rfl rfl rfl (by (conv => lhs; whnf); try rfl) (by repeat (first | exact Sel.head | apply Sel.tail)) (by simp) (by kernel_rfl) (by rfl) ?_; clear HM; intro w HM; simp only [List.set_cons_zero, List.set_cons_succ] at HM))
      refine (heap_eq _ _ xs 2 0 0 (HS.out.below HM.below) (by omega) E1.out).mono ?_
      rintro e w ⟨p1, c1, rfl, ho, hb⟩
      replace HM := HM.got hb ho
      change Mem W _ (.row _ 3 1 (ys).length (vals (ys)) :: _) w at HM
      clear ho hb
      go_wp2_with (first | (refine wpM_storeAll HM rfl rfl rfl rfl (by repeat (first | exact Sel.head | apply Sel.tail)) (by rfl) (by kernel_rfl) (by rfl) ?_; clear HM; intro w HM) | (refine wpM_loadAll (ty := 26) HM rfl rfl rfl (by repeat (first | exact Sel.head | apply Sel.tail)) (by kernel_rfl) ?_) | (refine wpM_box HM rfl rfl rfl rfl ?_; clear HM; intro b w HB HM; clear HB) | (refine wpM_alloc HM rfl rfl zt_Answer rfl ?_; clear HM; intro b w HB HM; clear HB) | (refine wpM_load (ty := 3) HM rfl rfl rfl (by repeat (first | exact Sel.head | apply Sel.tail)) (by first | rfl | assumption) (by kernel_rfl) ?_) | (refine wpM_loadR (ty := 3) HM rfl rfl rfl (by repeat (first | exact Sel.head | apply Sel.tail)) (by first | rfl | assumption) (by kernel_rfl) ?_) | (refine wpM_store HM rfl rfl rfl (by (conv => lhs; whnf); try rfl) (by repeat (first | exact Sel.head | apply Sel.tail)) (by simp) (by kernel_rfl) (by rfl) ?_; clear HM; intro w HM; simp only [List.set_cons_zero, List.set_cons_succ] at HM))
      refine (heap_eq _ _ xs 5 0 0 (HS.out.below HM.below) (by omega) E2.out).mono ?_
      rintro e w ⟨p2, c2, rfl, ho, hb⟩
      replace HM := HM.got hb ho
      change Mem W _ (.row _ 3 1 (xs).length (vals (xs)) :: _) w at HM
      clear ho hb
      go_upto_region 9 with (first | (refine wpM_storeAll HM rfl rfl rfl rfl (by repeat (first | exact Sel.head | apply Sel.tail)) (by rfl) (by kernel_rfl) (by rfl) ?_; clear HM; intro w HM) | (refine wpM_loadAll (ty := 26) HM rfl rfl rfl (by repeat (first | exact Sel.head | apply Sel.tail)) (by kernel_rfl) ?_) | (refine wpM_box HM rfl rfl rfl rfl ?_; clear HM; intro b w HB HM; clear HB) | (refine wpM_alloc HM rfl rfl zt_Answer rfl ?_; clear HM; intro b w HB HM; clear HB) | (refine wpM_load (ty := 3) HM rfl rfl rfl (by repeat (first | exact Sel.head | apply Sel.tail)) (by first | rfl | assumption) (by kernel_rfl) ?_) | (refine wpM_loadR (ty := 3) HM rfl rfl rfl (by repeat (first | exact Sel.head | apply Sel.tail)) (by first | rfl | assumption) (by kernel_rfl) ?_) | (refine wpM_store HM rfl rfl rfl (by (conv => lhs; whnf); try rfl) (by repeat (first | exact Sel.head | apply Sel.tail)) (by simp) (by kernel_rfl) (by rfl) ?_; clear HM; intro w HM; simp only [List.set_cons_zero, List.set_cons_succ] at HM))
      refine wp_region_M HM (fun _ => _) rfl (by kernel_rfl) (by kernel_rfl) ?_
      (refine wpB_loadMA (n := 2) (by kernel_rfl) (by kernel_rfl) (by kernel_rfl) rfl rfl (by repeat (first | exact Sel.head | apply Sel.tail)) (by kernel_rfl) (by exact Nat.le_refl _) (fun K hK => ?_))
      go_simp
      refine hK _ ?_
      clear hK K
      refine wpB_pure (v := ?v1) (by kernel_rfl) (by kernel_rfl) (fun w' => ?h1) (fun K hK => ?k1)
      case h1 =>
        go_simp
        try rfl
      go_simp
      refine hK _ ?_
      clear hK K
      (refine wpB_callM _ _ (by kernel_rfl) (by kernel_rfl) (fun w' => by kernel_rfl) (fun j w hj HM => (min_eq _ _ xs (hp xs 0) (HS.out.below HM.below) HX.out HMI.out)) (fun K hK => ?_))
      go_simp
      refine hK _ ?_
      clear hK K
      refine wpB_pure (v := ?v2) (by kernel_rfl) (by kernel_rfl) (fun w' => ?h2) (fun K hK => ?k2)
      case h2 =>
        go_simp
        try rfl
      go_simp
      refine hK _ ?_
      clear hK K
      refine wpB_pure (v := ?v3) (by kernel_rfl) (by kernel_rfl) (fun w' => ?h3) (fun K hK => ?k3)
      case h3 =>
        go_simp
        try rfl
      go_simp
      refine hK _ ?_
      clear hK K
      refine wpB_pure (v := ?v4) (by kernel_rfl) (by kernel_rfl) (fun w' => ?h4) (fun K hK => ?k4)
      case h4 =>
        go_simp
        try rfl
      go_simp
      refine hK _ ?_
      clear hK K
      (refine wpB_loadMA (n := 2) (by kernel_rfl) (by kernel_rfl) (by kernel_rfl) rfl rfl (by repeat (first | exact Sel.head | apply Sel.tail)) (by kernel_rfl) (by exact Nat.le_refl _) (fun K hK => ?_))
      go_simp
      refine hK _ ?_
      clear hK K
      (refine wpB_loadMA (n := 2) (by kernel_rfl) (by kernel_rfl) (by kernel_rfl) rfl rfl (by repeat (first | exact Sel.head | apply Sel.tail)) (by kernel_rfl) (by exact Nat.le_refl _) (fun K hK => ?_))
      go_simp
      refine hK _ ?_
      clear hK K
      refine wpB_pure (v := ?v5) (by kernel_rfl) (by kernel_rfl) (fun w' => ?h5) (fun K hK => ?k5)
      case h5 =>
        go_simp
        try rfl
      go_simp
      refine hK _ ?_
      clear hK K
      refine wpB_pure (v := ?v6) (by kernel_rfl) (by kernel_rfl) (fun w' => ?h6) (fun K hK => ?k6)
      case h6 =>
        go_simp
        try rfl
      go_simp
      refine hK _ ?_
      clear hK K
      refine wpB_pure (v := ?v7) (by kernel_rfl) (by kernel_rfl) (fun w' => ?h7) (fun K hK => ?k7)
      case h7 =>
        go_simp
        try rfl
      go_simp
      refine hK _ ?_
      clear hK K
      refine wpB_pure (v := ?v8) (by kernel_rfl) (by kernel_rfl) (fun w' => ?h8) (fun K hK => ?k8)
      case h8 =>
        go_simp
        try rfl
      go_simp
      refine hK _ ?_
      clear hK K
      refine wpB_pure (v := ?v9) (by kernel_rfl) (by kernel_rfl) (fun w' => ?h9) (fun K hK => ?k9)
      case h9 =>
        go_simp
        try rfl
      go_simp
      refine hK _ ?_
      clear hK K
      (refine wpB_callM _ _ (by kernel_rfl) (by kernel_rfl) (fun w' => by kernel_rfl) (fun j w hj HM => (equal_yes _ _ _ xs xs (HM.sl (xs := xs) (by repeat (first | exact Sel.head | apply Sel.tail))) (HS.out.below HM.below) rfl (by omega))) (fun K hK => ?_))
      go_simp
      refine hK _ ?_
      clear hK K
      refine wpB_pure (v := ?v10) (by kernel_rfl) (by kernel_rfl) (fun w' => ?h10) (fun K hK => ?k10)
      case h10 =>
        go_simp
        try rfl
      go_simp
      refine hK _ ?_
      clear hK K
      refine wpB_pure (v := ?v11) (by kernel_rfl) (by kernel_rfl) (fun w' => ?h11) (fun K hK => ?k11)
      case h11 =>
        go_simp
        try rfl
      go_simp
      refine hK _ ?_
      clear hK K
      refine wpB_nil (fun w HM => ?_)
      go_wp2_with (first | (refine wpM_storeAll HM rfl rfl rfl rfl (by repeat (first | exact Sel.head | apply Sel.tail)) (by rfl) (by kernel_rfl) (by rfl) ?_; clear HM; intro w HM) | (refine wpM_loadAll (ty := 26) HM rfl rfl rfl (by repeat (first | exact Sel.head | apply Sel.tail)) (by kernel_rfl) ?_) | (refine wpM_box HM rfl rfl rfl rfl ?_; clear HM; intro b w HB HM; clear HB) | (refine wpM_alloc HM rfl rfl zt_Answer rfl ?_; clear HM; intro b w HB HM; clear HB) | (refine wpM_load (ty := 3) HM rfl rfl rfl (by repeat (first | exact Sel.head | apply Sel.tail)) (by first | rfl | assumption) (by kernel_rfl) ?_) | (refine wpM_loadR (ty := 3) HM rfl rfl rfl (by repeat (first | exact Sel.head | apply Sel.tail)) (by first | rfl | assumption) (by kernel_rfl) ?_) | (refine wpM_store HM rfl rfl rfl (by (conv => lhs; whnf); try rfl) (by repeat (first | exact Sel.head | apply Sel.tail)) (by simp) (by kernel_rfl) (by rfl) ?_; clear HM; intro w HM; simp only [List.set_cons_zero, List.set_cons_succ] at HM))
      go_ret
      exact ⟨rfl, HM.below⟩
end Go.Proofs.Ytpedkcpkdacnlaa
