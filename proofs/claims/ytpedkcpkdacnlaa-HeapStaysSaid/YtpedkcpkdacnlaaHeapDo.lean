/- The contract of heap.Do. -/
import Derived.Test.YtpedkcpkdacnlaaHeapDown
import Derived.Test.YtpedkcpkdacnlaaHeapMore
import Derived.Test.YtpedkcpkdacnlaaMemRes
import Derived.Test.YtpedkcpkdacnlaaClone
namespace Go.Proofs.Ytpedkcpkdacnlaa
open Go.RowKit
set_option linter.unusedVariables false
theorem zt_Answer : (Try.prog.info? 26).bind (·.zero) = some (.agg #[.int .i64 0, .int .i64 0]) := by kernel_rfl
theorem vals_snoc (xs : List Int) (x : Int) : vals xs ++ [.int .i64 x] = vals (xs ++ [x]) := by simp [vals]
theorem vals_set (xs : List Int) (i : Nat) (x : Int) : (vals xs).set i (.int .i64 x) = vals (xs.set i x) := by simp [vals, List.map_set]
theorem vals_take (xs : List Int) (n : Nat) : (vals xs).take n = vals (xs.take n) := by simp [vals]
set_option maxRecDepth 20000 in
set_option maxHeartbeats 4000000 in
theorem heap_full (W : World) (v : Value) (xs : List Int) (k key x : Int) (h : Sl W v xs) (hx2 : xs.length ≤ 1000) (hk : k = 1) (hf : 6 ≤ xs.length) :
    Calls Try.prog 19 #[v, .agg #[.int .i64 k, .int .i64 key, .int .i64 x]] W fun e w' =>
      ∃ v', e = .returned (.tuple #[v', .agg #[.int .i64 (heapR xs k x).2.1, .int .i64 (heapR xs k x).2.2]]) ∧ Own w' W.heap.size v' (heapR xs k x).1 ∧ Below W.heap.size W w' := by
  subst hk
  have HR : Hid (heapR xs 1 x = (xs, 3, 0)) := Lib.hid (by unfold heapR; rw [if_pos rfl, if_pos hf])
  have t1 : decide ((6 : Int) ≤ (xs.length : Int)) = true := by simp; omega
  obtain ⟨a, cap, rfl⟩ := h.slice
  have HS := Lib.hid h
  clear h
  have HM := Mem.start W
  go_enter Try.func19, Try.ntmps19
  go_wp2_with (first | (refine wpM_buildSlice1 (e := 3) (size := 1) (z := .int .i64 0) HM rfl rfl (by (conv => lhs; whnf); try rfl) (by rfl) Try.underlying22 (by kernel_rfl) (by kernel_rfl) (by rfl) (by rfl) (by decide) (by decide) ?_; clear HM; intro b w HB HM; clear HB) | (refine wpM_append (e := 3) (sz := 1) (bytes := 8) (z := .int .i64 0) HM rfl rfl rfl Try.underlying22 (by kernel_rfl) (by kernel_rfl) (by rfl) (by decide) rfl rfl (by repeat (first | exact Sel.head | apply Sel.tail)) (by simp) (by simp [Value.oneCell']) (by omega) (by omega) ?_; clear HM; intro p1 c1 w HC1 HC2 HM) | (refine wpM_storeAll HM rfl rfl rfl rfl (by repeat (first | exact Sel.head | apply Sel.tail)) (by rfl) (by kernel_rfl) (by rfl) ?_; clear HM; intro w HM) | (refine wpM_storeR HM rfl rfl rfl (by (conv => lhs; whnf); try rfl) (by repeat (first | exact Sel.head | apply Sel.tail)) (by exact L0.out) (by kernel_rfl) (by rfl) ?_; clear HM; intro w HM) | (refine wpM_box HM rfl rfl rfl rfl ?_; clear HM; intro b w HB HM; clear HB) | (refine wpM_alloc HM rfl rfl zt_Answer rfl ?_; clear HM; intro b w HB HM; clear HB) | (refine wpM_load (ty := 3) HM rfl rfl rfl (by repeat (first | exact Sel.head | apply Sel.tail)) (by first | rfl | exact HV0.out | exact HVm.out) (by kernel_rfl) ?_) | (refine wpM_loadR (ty := 3) HM rfl rfl rfl (by repeat (first | exact Sel.head | apply Sel.tail)) (by first | rfl | exact HV0.out | exact HVm.out) (by kernel_rfl) ?_) | (refine wpM_store HM rfl rfl rfl (by (conv => lhs; whnf); try rfl) (by repeat (first | exact Sel.head | apply Sel.tail)) (by simp) (by kernel_rfl) (by rfl) ?_; clear HM; intro w HM; simp only [List.set_cons_zero, List.set_cons_succ] at HM))
  refine (clone_any _ _ xs (HS.out.below HM.below) hx2).mono ?_
  rintro e w ⟨v3, rfl, ho, hb3⟩
  replace HM := HM.got hb3 ho
  change Mem W _ (.row v3 3 1 xs.length (vals xs) :: _) w at HM
  clear ho hb3
  obtain ⟨p3, c3, rfl, hc3, hc4, -⟩ := ownsRow.form (HM.row .head)
  go_wp2_with (first | (refine wpM_buildSlice1 (e := 3) (size := 1) (z := .int .i64 0) HM rfl rfl (by (conv => lhs; whnf); try rfl) (by rfl) Try.underlying22 (by kernel_rfl) (by kernel_rfl) (by rfl) (by rfl) (by decide) (by decide) ?_; clear HM; intro b w HB HM; clear HB) | (refine wpM_append (e := 3) (sz := 1) (bytes := 8) (z := .int .i64 0) HM rfl rfl rfl Try.underlying22 (by kernel_rfl) (by kernel_rfl) (by rfl) (by decide) rfl rfl (by repeat (first | exact Sel.head | apply Sel.tail)) (by simp) (by simp [Value.oneCell']) (by omega) (by omega) ?_; clear HM; intro p1 c1 w HC1 HC2 HM) | (refine wpM_storeAll HM rfl rfl rfl rfl (by repeat (first | exact Sel.head | apply Sel.tail)) (by rfl) (by kernel_rfl) (by rfl) ?_; clear HM; intro w HM) | (refine wpM_storeR HM rfl rfl rfl (by (conv => lhs; whnf); try rfl) (by repeat (first | exact Sel.head | apply Sel.tail)) (by exact L0.out) (by kernel_rfl) (by rfl) ?_; clear HM; intro w HM) | (refine wpM_box HM rfl rfl rfl rfl ?_; clear HM; intro b w HB HM; clear HB) | (refine wpM_alloc HM rfl rfl zt_Answer rfl ?_; clear HM; intro b w HB HM; clear HB) | (refine wpM_load (ty := 3) HM rfl rfl rfl (by repeat (first | exact Sel.head | apply Sel.tail)) (by first | rfl | exact HV0.out | exact HVm.out) (by kernel_rfl) ?_) | (refine wpM_loadR (ty := 3) HM rfl rfl rfl (by repeat (first | exact Sel.head | apply Sel.tail)) (by first | rfl | exact HV0.out | exact HVm.out) (by kernel_rfl) ?_) | (refine wpM_store HM rfl rfl rfl (by (conv => lhs; whnf); try rfl) (by repeat (first | exact Sel.head | apply Sel.tail)) (by simp) (by kernel_rfl) (by rfl) ?_; clear HM; intro w HM; simp only [List.set_cons_zero, List.set_cons_succ] at HM))
  exact bodyPost_ret (v := .tuple #[.slice p3 xs.length c3, .agg #[.int .i64 3, .int .i64 0]]) (resM_tc HM rfl (by rfl) (by rfl) (by repeat (first | exact Sel.head | apply Sel.tail)) (by kernel_rfl)) rfl ⟨_, by rw [HR.out], by rw [HR.out]; exact (HM.gives .head (fun _ _ h => h)), HM.below⟩
set_option maxRecDepth 20000 in
set_option maxHeartbeats 4000000 in
theorem heap_put (W : World) (v : Value) (xs : List Int) (k key x : Int) (h : Sl W v xs) (hx2 : xs.length ≤ 1000) (hk : k = 1) (hf : xs.length < 6) :
    Calls Try.prog 19 #[v, .agg #[.int .i64 k, .int .i64 key, .int .i64 x]] W fun e w' =>
      ∃ v', e = .returned (.tuple #[v', .agg #[.int .i64 (heapR xs k x).2.1, .int .i64 (heapR xs k x).2.2]]) ∧ Own w' W.heap.size v' (heapR xs k x).1 ∧ Below W.heap.size W w' := by
  subst hk
  have HR : Hid (heapR xs 1 x = (upF xs.length (xs ++ [x]) xs.length, 1, 0)) := Lib.hid (by unfold heapR; rw [if_pos rfl, if_neg (by omega)])
  have t1 : decide ((6 : Int) ≤ (xs.length : Int)) = false := by simp; omega
  obtain ⟨a, cap, rfl⟩ := h.slice
  have HS := Lib.hid h
  clear h
  have HM := Mem.start W
  go_enter Try.func19, Try.ntmps19
  go_wp2_with (first | (refine wpM_buildSlice1 (e := 3) (size := 1) (z := .int .i64 0) HM rfl rfl (by (conv => lhs; whnf); try rfl) (by rfl) Try.underlying22 (by kernel_rfl) (by kernel_rfl) (by rfl) (by rfl) (by decide) (by decide) ?_; clear HM; intro b w HB HM; clear HB) | (refine wpM_append (e := 3) (sz := 1) (bytes := 8) (z := .int .i64 0) HM rfl rfl rfl Try.underlying22 (by kernel_rfl) (by kernel_rfl) (by rfl) (by decide) rfl rfl (by repeat (first | exact Sel.head | apply Sel.tail)) (by simp) (by simp [Value.oneCell']) (by omega) (by omega) ?_; clear HM; intro p1 c1 w HC1 HC2 HM) | (refine wpM_storeAll HM rfl rfl rfl rfl (by repeat (first | exact Sel.head | apply Sel.tail)) (by rfl) (by kernel_rfl) (by rfl) ?_; clear HM; intro w HM) | (refine wpM_storeR HM rfl rfl rfl (by (conv => lhs; whnf); try rfl) (by repeat (first | exact Sel.head | apply Sel.tail)) (by exact L0.out) (by kernel_rfl) (by rfl) ?_; clear HM; intro w HM) | (refine wpM_box HM rfl rfl rfl rfl ?_; clear HM; intro b w HB HM; clear HB) | (refine wpM_alloc HM rfl rfl zt_Answer rfl ?_; clear HM; intro b w HB HM; clear HB) | (refine wpM_load (ty := 3) HM rfl rfl rfl (by repeat (first | exact Sel.head | apply Sel.tail)) (by first | rfl | exact HV0.out | exact HVm.out) (by kernel_rfl) ?_) | (refine wpM_loadR (ty := 3) HM rfl rfl rfl (by repeat (first | exact Sel.head | apply Sel.tail)) (by first | rfl | exact HV0.out | exact HVm.out) (by kernel_rfl) ?_) | (refine wpM_store HM rfl rfl rfl (by (conv => lhs; whnf); try rfl) (by repeat (first | exact Sel.head | apply Sel.tail)) (by simp) (by kernel_rfl) (by rfl) ?_; clear HM; intro w HM; simp only [List.set_cons_zero, List.set_cons_succ] at HM))
  refine (clone_any _ _ xs (HS.out.below HM.below) hx2).mono ?_
  rintro e w ⟨v3, rfl, ho, hb3⟩
  replace HM := HM.got hb3 ho
  change Mem W _ (.row v3 3 1 xs.length (vals xs) :: _) w at HM
  clear ho hb3
  obtain ⟨p3, c3, rfl, hc3, hc4, -⟩ := ownsRow.form (HM.row .head)
  go_wp2_with (first | (refine wpM_buildSlice1 (e := 3) (size := 1) (z := .int .i64 0) HM rfl rfl (by (conv => lhs; whnf); try rfl) (by rfl) Try.underlying22 (by kernel_rfl) (by kernel_rfl) (by rfl) (by rfl) (by decide) (by decide) ?_; clear HM; intro b w HB HM; clear HB) | (refine wpM_append (e := 3) (sz := 1) (bytes := 8) (z := .int .i64 0) HM rfl rfl rfl Try.underlying22 (by kernel_rfl) (by kernel_rfl) (by rfl) (by decide) rfl rfl (by repeat (first | exact Sel.head | apply Sel.tail)) (by simp) (by simp [Value.oneCell']) (by omega) (by omega) ?_; clear HM; intro p1 c1 w HC1 HC2 HM) | (refine wpM_storeAll HM rfl rfl rfl rfl (by repeat (first | exact Sel.head | apply Sel.tail)) (by rfl) (by kernel_rfl) (by rfl) ?_; clear HM; intro w HM) | (refine wpM_storeR HM rfl rfl rfl (by (conv => lhs; whnf); try rfl) (by repeat (first | exact Sel.head | apply Sel.tail)) (by exact L0.out) (by kernel_rfl) (by rfl) ?_; clear HM; intro w HM) | (refine wpM_box HM rfl rfl rfl rfl ?_; clear HM; intro b w HB HM; clear HB) | (refine wpM_alloc HM rfl rfl zt_Answer rfl ?_; clear HM; intro b w HB HM; clear HB) | (refine wpM_load (ty := 3) HM rfl rfl rfl (by repeat (first | exact Sel.head | apply Sel.tail)) (by first | rfl | exact HV0.out | exact HVm.out) (by kernel_rfl) ?_) | (refine wpM_loadR (ty := 3) HM rfl rfl rfl (by repeat (first | exact Sel.head | apply Sel.tail)) (by first | rfl | exact HV0.out | exact HVm.out) (by kernel_rfl) ?_) | (refine wpM_store HM rfl rfl rfl (by (conv => lhs; whnf); try rfl) (by repeat (first | exact Sel.head | apply Sel.tail)) (by simp) (by kernel_rfl) (by rfl) ?_; clear HM; intro w HM; simp only [List.set_cons_zero, List.set_cons_succ] at HM))
  rw [vals_snoc] at HM
  have HLN : Hid ((xs ++ [x]).length = xs.length + 1) := Lib.hid (by simp)
  have hup := heap_up w (.slice p1 (xs.length + 1) c1) (xs ++ [x]) (by rw [HLN.out]; exact HM.row .head) (by rw [HLN.out]; omega) (by rw [HLN.out]; omega)
  rw [HLN.out] at hup
  refine hup.mono ?_
  rintro e w1 ⟨rfl, ho, hk⟩
  replace HM := HM.turn .head hk (.row _ _ _ _ _) ho (fun g h => .inl h)
  clear ho hk hup
  go_wp2_with (first | (refine wpM_buildSlice1 (e := 3) (size := 1) (z := .int .i64 0) HM rfl rfl (by (conv => lhs; whnf); try rfl) (by rfl) Try.underlying22 (by kernel_rfl) (by kernel_rfl) (by rfl) (by rfl) (by decide) (by decide) ?_; clear HM; intro b w HB HM; clear HB) | (refine wpM_append (e := 3) (sz := 1) (bytes := 8) (z := .int .i64 0) HM rfl rfl rfl Try.underlying22 (by kernel_rfl) (by kernel_rfl) (by rfl) (by decide) rfl rfl (by repeat (first | exact Sel.head | apply Sel.tail)) (by simp) (by simp [Value.oneCell']) (by omega) (by omega) ?_; clear HM; intro p1 c1 w HC1 HC2 HM) | (refine wpM_storeAll HM rfl rfl rfl rfl (by repeat (first | exact Sel.head | apply Sel.tail)) (by rfl) (by kernel_rfl) (by rfl) ?_; clear HM; intro w HM) | (refine wpM_storeR HM rfl rfl rfl (by (conv => lhs; whnf); try rfl) (by repeat (first | exact Sel.head | apply Sel.tail)) (by exact L0.out) (by kernel_rfl) (by rfl) ?_; clear HM; intro w HM) | (refine wpM_box HM rfl rfl rfl rfl ?_; clear HM; intro b w HB HM; clear HB) | (refine wpM_alloc HM rfl rfl zt_Answer rfl ?_; clear HM; intro b w HB HM; clear HB) | (refine wpM_load (ty := 3) HM rfl rfl rfl (by repeat (first | exact Sel.head | apply Sel.tail)) (by first | rfl | exact HV0.out | exact HVm.out) (by kernel_rfl) ?_) | (refine wpM_loadR (ty := 3) HM rfl rfl rfl (by repeat (first | exact Sel.head | apply Sel.tail)) (by first | rfl | exact HV0.out | exact HVm.out) (by kernel_rfl) ?_) | (refine wpM_store HM rfl rfl rfl (by (conv => lhs; whnf); try rfl) (by repeat (first | exact Sel.head | apply Sel.tail)) (by simp) (by kernel_rfl) (by rfl) ?_; clear HM; intro w HM; simp only [List.set_cons_zero, List.set_cons_succ] at HM))
  refine bodyPost_ret (v := .tuple #[.slice p1 (xs.length + 1) c1, .agg #[.int .i64 1, .int .i64 0]]) (resM_tc HM rfl (by rfl) (by rfl) (by repeat (first | exact Sel.head | apply Sel.tail)) (by kernel_rfl)) rfl ⟨_, by rw [HR.out], ?_, HM.below⟩
  have hg := HM.gives .head (fun _ _ h => h)
  rw [HR.out]
  show World.ownsRow _ _ _ _ _ (upF xs.length (xs ++ [x]) xs.length).length (vals _)
  rw [upF_length, HLN.out]
  exact hg
set_option maxRecDepth 20000 in
set_option maxHeartbeats 4000000 in
theorem heap_empty2 (W : World) (v : Value) (xs : List Int) (k key x : Int) (h : Sl W v xs) (hx2 : xs.length ≤ 1000) (hk : k = 2) (hf : xs.length = 0) :
    Calls Try.prog 19 #[v, .agg #[.int .i64 k, .int .i64 key, .int .i64 x]] W fun e w' =>
      ∃ v', e = .returned (.tuple #[v', .agg #[.int .i64 (heapR xs k x).2.1, .int .i64 (heapR xs k x).2.2]]) ∧ Own w' W.heap.size v' (heapR xs k x).1 ∧ Below W.heap.size W w' := by
  subst hk
  have HR : Hid (heapR xs 2 x = (xs, 2, 0)) := Lib.hid (by unfold heapR; rw [if_neg (by decide), if_pos (by decide), if_pos hf])
  have t1 : ((xs.length : Int) == 0) = true := by rw [hf]; rfl
  have HF := Lib.hid hf
  clear hf
  obtain ⟨a, cap, rfl⟩ := h.slice
  have HS := Lib.hid h
  clear h
  have HM := Mem.start W
  go_enter Try.func19, Try.ntmps19
  go_wp2_with (first | (refine wpM_buildSlice1 (e := 3) (size := 1) (z := .int .i64 0) HM rfl rfl (by (conv => lhs; whnf); try rfl) (by rfl) Try.underlying22 (by kernel_rfl) (by kernel_rfl) (by rfl) (by rfl) (by decide) (by decide) ?_; clear HM; intro b w HB HM; clear HB) | (refine wpM_append (e := 3) (sz := 1) (bytes := 8) (z := .int .i64 0) HM rfl rfl rfl Try.underlying22 (by kernel_rfl) (by kernel_rfl) (by rfl) (by decide) rfl rfl (by repeat (first | exact Sel.head | apply Sel.tail)) (by simp) (by simp [Value.oneCell']) (by omega) (by omega) ?_; clear HM; intro p1 c1 w HC1 HC2 HM) | (refine wpM_storeAll HM rfl rfl rfl rfl (by repeat (first | exact Sel.head | apply Sel.tail)) (by rfl) (by kernel_rfl) (by rfl) ?_; clear HM; intro w HM) | (refine wpM_storeR HM rfl rfl rfl (by (conv => lhs; whnf); try rfl) (by repeat (first | exact Sel.head | apply Sel.tail)) (by exact L0.out) (by kernel_rfl) (by rfl) ?_; clear HM; intro w HM) | (refine wpM_box HM rfl rfl rfl rfl ?_; clear HM; intro b w HB HM; clear HB) | (refine wpM_alloc HM rfl rfl zt_Answer rfl ?_; clear HM; intro b w HB HM; clear HB) | (refine wpM_load (ty := 3) HM rfl rfl rfl (by repeat (first | exact Sel.head | apply Sel.tail)) (by first | rfl | exact HV0.out | exact HVm.out) (by kernel_rfl) ?_) | (refine wpM_loadR (ty := 3) HM rfl rfl rfl (by repeat (first | exact Sel.head | apply Sel.tail)) (by first | rfl | exact HV0.out | exact HVm.out) (by kernel_rfl) ?_) | (refine wpM_store HM rfl rfl rfl (by (conv => lhs; whnf); try rfl) (by repeat (first | exact Sel.head | apply Sel.tail)) (by simp) (by kernel_rfl) (by rfl) ?_; clear HM; intro w HM; simp only [List.set_cons_zero, List.set_cons_succ] at HM))
  refine (clone_any _ _ xs (HS.out.below HM.below) hx2).mono ?_
  rintro e w ⟨v3, rfl, ho, hb3⟩
  replace HM := HM.got hb3 ho
  change Mem W _ (.row v3 3 1 xs.length (vals xs) :: _) w at HM
  clear ho hb3
  obtain ⟨p3, c3, rfl, hc3, hc4, -⟩ := ownsRow.form (HM.row .head)
  go_wp2_with (first | (refine wpM_buildSlice1 (e := 3) (size := 1) (z := .int .i64 0) HM rfl rfl (by (conv => lhs; whnf); try rfl) (by rfl) Try.underlying22 (by kernel_rfl) (by kernel_rfl) (by rfl) (by rfl) (by decide) (by decide) ?_; clear HM; intro b w HB HM; clear HB) | (refine wpM_append (e := 3) (sz := 1) (bytes := 8) (z := .int .i64 0) HM rfl rfl rfl Try.underlying22 (by kernel_rfl) (by kernel_rfl) (by rfl) (by decide) rfl rfl (by repeat (first | exact Sel.head | apply Sel.tail)) (by simp) (by simp [Value.oneCell']) (by omega) (by omega) ?_; clear HM; intro p1 c1 w HC1 HC2 HM) | (refine wpM_storeAll HM rfl rfl rfl rfl (by repeat (first | exact Sel.head | apply Sel.tail)) (by rfl) (by kernel_rfl) (by rfl) ?_; clear HM; intro w HM) | (refine wpM_storeR HM rfl rfl rfl (by (conv => lhs; whnf); try rfl) (by repeat (first | exact Sel.head | apply Sel.tail)) (by exact L0.out) (by kernel_rfl) (by rfl) ?_; clear HM; intro w HM) | (refine wpM_box HM rfl rfl rfl rfl ?_; clear HM; intro b w HB HM; clear HB) | (refine wpM_alloc HM rfl rfl zt_Answer rfl ?_; clear HM; intro b w HB HM; clear HB) | (refine wpM_load (ty := 3) HM rfl rfl rfl (by repeat (first | exact Sel.head | apply Sel.tail)) (by first | rfl | exact HV0.out | exact HVm.out) (by kernel_rfl) ?_) | (refine wpM_loadR (ty := 3) HM rfl rfl rfl (by repeat (first | exact Sel.head | apply Sel.tail)) (by first | rfl | exact HV0.out | exact HVm.out) (by kernel_rfl) ?_) | (refine wpM_store HM rfl rfl rfl (by (conv => lhs; whnf); try rfl) (by repeat (first | exact Sel.head | apply Sel.tail)) (by simp) (by kernel_rfl) (by rfl) ?_; clear HM; intro w HM; simp only [List.set_cons_zero, List.set_cons_succ] at HM))
  exact bodyPost_ret (v := .tuple #[.slice p3 xs.length c3, .agg #[.int .i64 2, .int .i64 0]]) (resM_tc HM rfl (by rfl) (by rfl) (by repeat (first | exact Sel.head | apply Sel.tail)) (by kernel_rfl)) rfl ⟨_, by rw [HR.out], by rw [HR.out]; exact (HM.gives .head (fun _ _ h => h)), HM.below⟩
set_option maxRecDepth 20000 in
set_option maxHeartbeats 4000000 in
theorem heap_empty5 (W : World) (v : Value) (xs : List Int) (k key x : Int) (h : Sl W v xs) (hx2 : xs.length ≤ 1000) (hk : k = 5) (hf : xs.length = 0) :
    Calls Try.prog 19 #[v, .agg #[.int .i64 k, .int .i64 key, .int .i64 x]] W fun e w' =>
      ∃ v', e = .returned (.tuple #[v', .agg #[.int .i64 (heapR xs k x).2.1, .int .i64 (heapR xs k x).2.2]]) ∧ Own w' W.heap.size v' (heapR xs k x).1 ∧ Below W.heap.size W w' := by
  subst hk
  have HR : Hid (heapR xs 5 x = (xs, 2, 0)) := Lib.hid (by unfold heapR; rw [if_neg (by decide), if_pos (by decide), if_pos hf])
  have t1 : ((xs.length : Int) == 0) = true := by rw [hf]; rfl
  have HF := Lib.hid hf
  clear hf
  obtain ⟨a, cap, rfl⟩ := h.slice
  have HS := Lib.hid h
  clear h
  have HM := Mem.start W
  go_enter Try.func19, Try.ntmps19
  go_wp2_with (first | (refine wpM_buildSlice1 (e := 3) (size := 1) (z := .int .i64 0) HM rfl rfl (by (conv => lhs; whnf); try rfl) (by rfl) Try.underlying22 (by kernel_rfl) (by kernel_rfl) (by rfl) (by rfl) (by decide) (by decide) ?_; clear HM; intro b w HB HM; clear HB) | (refine wpM_append (e := 3) (sz := 1) (bytes := 8) (z := .int .i64 0) HM rfl rfl rfl Try.underlying22 (by kernel_rfl) (by kernel_rfl) (by rfl) (by decide) rfl rfl (by repeat (first | exact Sel.head | apply Sel.tail)) (by simp) (by simp [Value.oneCell']) (by omega) (by omega) ?_; clear HM; intro p1 c1 w HC1 HC2 HM) | (refine wpM_storeAll HM rfl rfl rfl rfl (by repeat (first | exact Sel.head | apply Sel.tail)) (by rfl) (by kernel_rfl) (by rfl) ?_; clear HM; intro w HM) | (refine wpM_storeR HM rfl rfl rfl (by (conv => lhs; whnf); try rfl) (by repeat (first | exact Sel.head | apply Sel.tail)) (by exact L0.out) (by kernel_rfl) (by rfl) ?_; clear HM; intro w HM) | (refine wpM_box HM rfl rfl rfl rfl ?_; clear HM; intro b w HB HM; clear HB) | (refine wpM_alloc HM rfl rfl zt_Answer rfl ?_; clear HM; intro b w HB HM; clear HB) | (refine wpM_load (ty := 3) HM rfl rfl rfl (by repeat (first | exact Sel.head | apply Sel.tail)) (by first | rfl | exact HV0.out | exact HVm.out) (by kernel_rfl) ?_) | (refine wpM_loadR (ty := 3) HM rfl rfl rfl (by repeat (first | exact Sel.head | apply Sel.tail)) (by first | rfl | exact HV0.out | exact HVm.out) (by kernel_rfl) ?_) | (refine wpM_store HM rfl rfl rfl (by (conv => lhs; whnf); try rfl) (by repeat (first | exact Sel.head | apply Sel.tail)) (by simp) (by kernel_rfl) (by rfl) ?_; clear HM; intro w HM; simp only [List.set_cons_zero, List.set_cons_succ] at HM))
  refine (clone_any _ _ xs (HS.out.below HM.below) hx2).mono ?_
  rintro e w ⟨v3, rfl, ho, hb3⟩
  replace HM := HM.got hb3 ho
  change Mem W _ (.row v3 3 1 xs.length (vals xs) :: _) w at HM
  clear ho hb3
  obtain ⟨p3, c3, rfl, hc3, hc4, -⟩ := ownsRow.form (HM.row .head)
  go_wp2_with (first | (refine wpM_buildSlice1 (e := 3) (size := 1) (z := .int .i64 0) HM rfl rfl (by (conv => lhs; whnf); try rfl) (by rfl) Try.underlying22 (by kernel_rfl) (by kernel_rfl) (by rfl) (by rfl) (by decide) (by decide) ?_; clear HM; intro b w HB HM; clear HB) | (refine wpM_append (e := 3) (sz := 1) (bytes := 8) (z := .int .i64 0) HM rfl rfl rfl Try.underlying22 (by kernel_rfl) (by kernel_rfl) (by rfl) (by decide) rfl rfl (by repeat (first | exact Sel.head | apply Sel.tail)) (by simp) (by simp [Value.oneCell']) (by omega) (by omega) ?_; clear HM; intro p1 c1 w HC1 HC2 HM) | (refine wpM_storeAll HM rfl rfl rfl rfl (by repeat (first | exact Sel.head | apply Sel.tail)) (by rfl) (by kernel_rfl) (by rfl) ?_; clear HM; intro w HM) | (refine wpM_storeR HM rfl rfl rfl (by (conv => lhs; whnf); try rfl) (by repeat (first | exact Sel.head | apply Sel.tail)) (by exact L0.out) (by kernel_rfl) (by rfl) ?_; clear HM; intro w HM) | (refine wpM_box HM rfl rfl rfl rfl ?_; clear HM; intro b w HB HM; clear HB) | (refine wpM_alloc HM rfl rfl zt_Answer rfl ?_; clear HM; intro b w HB HM; clear HB) | (refine wpM_load (ty := 3) HM rfl rfl rfl (by repeat (first | exact Sel.head | apply Sel.tail)) (by first | rfl | exact HV0.out | exact HVm.out) (by kernel_rfl) ?_) | (refine wpM_loadR (ty := 3) HM rfl rfl rfl (by repeat (first | exact Sel.head | apply Sel.tail)) (by first | rfl | exact HV0.out | exact HVm.out) (by kernel_rfl) ?_) | (refine wpM_store HM rfl rfl rfl (by (conv => lhs; whnf); try rfl) (by repeat (first | exact Sel.head | apply Sel.tail)) (by simp) (by kernel_rfl) (by rfl) ?_; clear HM; intro w HM; simp only [List.set_cons_zero, List.set_cons_succ] at HM))
  exact bodyPost_ret (v := .tuple #[.slice p3 xs.length c3, .agg #[.int .i64 2, .int .i64 0]]) (resM_tc HM rfl (by rfl) (by rfl) (by repeat (first | exact Sel.head | apply Sel.tail)) (by kernel_rfl)) rfl ⟨_, by rw [HR.out], by rw [HR.out]; exact (HM.gives .head (fun _ _ h => h)), HM.below⟩
set_option maxRecDepth 20000 in
set_option maxHeartbeats 4000000 in
theorem heap_peek (W : World) (v : Value) (xs : List Int) (k key x : Int) (h : Sl W v xs) (hx2 : xs.length ≤ 1000) (hk : k = 5) (hf : 0 < xs.length) :
    Calls Try.prog 19 #[v, .agg #[.int .i64 k, .int .i64 key, .int .i64 x]] W fun e w' =>
      ∃ v', e = .returned (.tuple #[v', .agg #[.int .i64 (heapR xs k x).2.1, .int .i64 (heapR xs k x).2.2]]) ∧ Own w' W.heap.size v' (heapR xs k x).1 ∧ Below W.heap.size W w' := by
  subst hk
  have HR : Hid (heapR xs 5 x = (xs, 1, hp xs 0)) := Lib.hid (by unfold heapR; rw [if_neg (by decide), if_pos (by decide), if_neg (by omega), if_pos rfl])
  have t1 : ((xs.length : Int) == 0) = false := beq_eq_false_iff_ne.2 (by omega)
  have t2 : (0 : Int) < (xs.length : Int) := by omega
  have HV0 := Lib.hid (vals_get xs 0 (by omega))
  obtain ⟨a, cap, rfl⟩ := h.slice
  have HS := Lib.hid h
  clear h
  have HM := Mem.start W
  go_enter Try.func19, Try.ntmps19
  go_wp2_with (first | (refine wpM_buildSlice1 (e := 3) (size := 1) (z := .int .i64 0) HM rfl rfl (by (conv => lhs; whnf); try rfl) (by rfl) Try.underlying22 (by kernel_rfl) (by kernel_rfl) (by rfl) (by rfl) (by decide) (by decide) ?_; clear HM; intro b w HB HM; clear HB) | (refine wpM_append (e := 3) (sz := 1) (bytes := 8) (z := .int .i64 0) HM rfl rfl rfl Try.underlying22 (by kernel_rfl) (by kernel_rfl) (by rfl) (by decide) rfl rfl (by repeat (first | exact Sel.head | apply Sel.tail)) (by simp) (by simp [Value.oneCell']) (by omega) (by omega) ?_; clear HM; intro p1 c1 w HC1 HC2 HM) | (refine wpM_storeAll HM rfl rfl rfl rfl (by repeat (first | exact Sel.head | apply Sel.tail)) (by rfl) (by kernel_rfl) (by rfl) ?_; clear HM; intro w HM) | (refine wpM_storeR HM rfl rfl rfl (by (conv => lhs; whnf); try rfl) (by repeat (first | exact Sel.head | apply Sel.tail)) (by exact L0.out) (by kernel_rfl) (by rfl) ?_; clear HM; intro w HM) | (refine wpM_box HM rfl rfl rfl rfl ?_; clear HM; intro b w HB HM; clear HB) | (refine wpM_alloc HM rfl rfl zt_Answer rfl ?_; clear HM; intro b w HB HM; clear HB) | (refine wpM_load (ty := 3) HM rfl rfl rfl (by repeat (first | exact Sel.head | apply Sel.tail)) (by first | rfl | exact HV0.out | exact HVm.out) (by kernel_rfl) ?_) | (refine wpM_loadR (ty := 3) HM rfl rfl rfl (by repeat (first | exact Sel.head | apply Sel.tail)) (by first | rfl | exact HV0.out | exact HVm.out) (by kernel_rfl) ?_) | (refine wpM_store HM rfl rfl rfl (by (conv => lhs; whnf); try rfl) (by repeat (first | exact Sel.head | apply Sel.tail)) (by simp) (by kernel_rfl) (by rfl) ?_; clear HM; intro w HM; simp only [List.set_cons_zero, List.set_cons_succ] at HM))
  refine (clone_any _ _ xs (HS.out.below HM.below) hx2).mono ?_
  rintro e w ⟨v3, rfl, ho, hb3⟩
  replace HM := HM.got hb3 ho
  change Mem W _ (.row v3 3 1 xs.length (vals xs) :: _) w at HM
  clear ho hb3
  obtain ⟨g, c3, rfl, hc3, hc4, hc5, -⟩ := ownsRow.head (HM.row .head) (by omega)
  go_wp2_with (first | (refine wpM_buildSlice1 (e := 3) (size := 1) (z := .int .i64 0) HM rfl rfl (by (conv => lhs; whnf); try rfl) (by rfl) Try.underlying22 (by kernel_rfl) (by kernel_rfl) (by rfl) (by rfl) (by decide) (by decide) ?_; clear HM; intro b w HB HM; clear HB) | (refine wpM_append (e := 3) (sz := 1) (bytes := 8) (z := .int .i64 0) HM rfl rfl rfl Try.underlying22 (by kernel_rfl) (by kernel_rfl) (by rfl) (by decide) rfl rfl (by repeat (first | exact Sel.head | apply Sel.tail)) (by simp) (by simp [Value.oneCell']) (by omega) (by omega) ?_; clear HM; intro p1 c1 w HC1 HC2 HM) | (refine wpM_storeAll HM rfl rfl rfl rfl (by repeat (first | exact Sel.head | apply Sel.tail)) (by rfl) (by kernel_rfl) (by rfl) ?_; clear HM; intro w HM) | (refine wpM_storeR HM rfl rfl rfl (by (conv => lhs; whnf); try rfl) (by repeat (first | exact Sel.head | apply Sel.tail)) (by exact L0.out) (by kernel_rfl) (by rfl) ?_; clear HM; intro w HM) | (refine wpM_box HM rfl rfl rfl rfl ?_; clear HM; intro b w HB HM; clear HB) | (refine wpM_alloc HM rfl rfl zt_Answer rfl ?_; clear HM; intro b w HB HM; clear HB) | (refine wpM_load (ty := 3) HM rfl rfl rfl (by repeat (first | exact Sel.head | apply Sel.tail)) (by first | rfl | exact HV0.out | exact HVm.out) (by kernel_rfl) ?_) | (refine wpM_loadR (ty := 3) HM rfl rfl rfl (by repeat (first | exact Sel.head | apply Sel.tail)) (by first | rfl | exact HV0.out | exact HVm.out) (by kernel_rfl) ?_) | (refine wpM_store HM rfl rfl rfl (by (conv => lhs; whnf); try rfl) (by repeat (first | exact Sel.head | apply Sel.tail)) (by simp) (by kernel_rfl) (by rfl) ?_; clear HM; intro w HM; simp only [List.set_cons_zero, List.set_cons_succ] at HM))
  exact bodyPost_ret (v := .tuple #[.slice (some ⟨g, 0, none⟩) xs.length c3, .agg #[.int .i64 1, .int .i64 (hp xs 0)]]) (resM_tc HM rfl (by rfl) (by rfl) (by repeat (first | exact Sel.head | apply Sel.tail)) (by kernel_rfl)) rfl ⟨_, by rw [HR.out], by rw [HR.out]; exact (HM.gives .head (fun _ _ h => h)), HM.below⟩
set_option maxRecDepth 20000 in
set_option maxHeartbeats 4000000 in
theorem heap_take (W : World) (v : Value) (xs : List Int) (k key x : Int) (h : Sl W v xs) (hx2 : xs.length ≤ 1000) (hk : k = 2) (hf : 0 < xs.length) :
    Calls Try.prog 19 #[v, .agg #[.int .i64 k, .int .i64 key, .int .i64 x]] W fun e w' =>
      ∃ v', e = .returned (.tuple #[v', .agg #[.int .i64 (heapR xs k x).2.1, .int .i64 (heapR xs k x).2.2]]) ∧ Own w' W.heap.size v' (heapR xs k x).1 ∧ Below W.heap.size W w' := by
  subst hk
  obtain ⟨m, hm⟩ : ∃ m, m = xs.length - 1 := ⟨_, rfl⟩
  have HR : Hid (heapR xs 2 x = (downF m ((xs.set 0 (hp xs m)).take m) 0, 1, hp xs 0)) := Lib.hid (by unfold heapR; rw [if_neg (by decide), if_pos (by decide), if_neg (by omega), if_neg (by decide), hm])
  have t1 : ((xs.length : Int) == 0) = false := beq_eq_false_iff_ne.2 (by omega)
  have t2 : (0 : Int) < (xs.length : Int) := by omega
  have HV0 := Lib.hid (vals_get xs 0 (by omega))
  have HVm := Lib.hid (vals_get xs m (by omega))
  have L0 : Hid (0 < (vals xs).length) := Lib.hid (by rw [vals_len]; omega)
  have e1 : (xs.length : Int) - 1 = (m : Int) := by omega
  have e2 : IntKind.i64.wrap (m : Int) = (m : Int) := IntWalk.i64_in _ (by omega)
  have e3 : wrap64 (m : Int) = (m : Int) := IntWalk.wrap64_in _ ⟨by omega, by omega⟩
  have hml : m < xs.length := by omega
  have hml2 : (m : Int) < (xs.length : Int) := by omega
  clear hm
  obtain ⟨a, cap, rfl⟩ := h.slice
  have HS := Lib.hid h
  clear h
  have HM := Mem.start W
  go_enter Try.func19, Try.ntmps19
  go_wp2_with (first | (refine wpM_buildSlice1 (e := 3) (size := 1) (z := .int .i64 0) HM rfl rfl (by (conv => lhs; whnf); try rfl) (by rfl) Try.underlying22 (by kernel_rfl) (by kernel_rfl) (by rfl) (by rfl) (by decide) (by decide) ?_; clear HM; intro b w HB HM; clear HB) | (refine wpM_append (e := 3) (sz := 1) (bytes := 8) (z := .int .i64 0) HM rfl rfl rfl Try.underlying22 (by kernel_rfl) (by kernel_rfl) (by rfl) (by decide) rfl rfl (by repeat (first | exact Sel.head | apply Sel.tail)) (by simp) (by simp [Value.oneCell']) (by omega) (by omega) ?_; clear HM; intro p1 c1 w HC1 HC2 HM) | (refine wpM_storeAll HM rfl rfl rfl rfl (by repeat (first | exact Sel.head | apply Sel.tail)) (by rfl) (by kernel_rfl) (by rfl) ?_; clear HM; intro w HM) | (refine wpM_storeR HM rfl rfl rfl (by (conv => lhs; whnf); try rfl) (by repeat (first | exact Sel.head | apply Sel.tail)) (by exact L0.out) (by kernel_rfl) (by rfl) ?_; clear HM; intro w HM) | (refine wpM_box HM rfl rfl rfl rfl ?_; clear HM; intro b w HB HM; clear HB) | (refine wpM_alloc HM rfl rfl zt_Answer rfl ?_; clear HM; intro b w HB HM; clear HB) | (refine wpM_load (ty := 3) HM rfl rfl rfl (by repeat (first | exact Sel.head | apply Sel.tail)) (by first | rfl | exact HV0.out | exact HVm.out) (by kernel_rfl) ?_) | (refine wpM_loadR (ty := 3) HM rfl rfl rfl (by repeat (first | exact Sel.head | apply Sel.tail)) (by first | rfl | exact HV0.out | exact HVm.out) (by kernel_rfl) ?_) | (refine wpM_store HM rfl rfl rfl (by (conv => lhs; whnf); try rfl) (by repeat (first | exact Sel.head | apply Sel.tail)) (by simp) (by kernel_rfl) (by rfl) ?_; clear HM; intro w HM; simp only [List.set_cons_zero, List.set_cons_succ] at HM))
  refine (clone_any _ _ xs (HS.out.below HM.below) hx2).mono ?_
  rintro e w ⟨v3, rfl, ho, hb3⟩
  replace HM := HM.got hb3 ho
  change Mem W _ (.row v3 3 1 xs.length (vals xs) :: _) w at HM
  clear ho hb3
  obtain ⟨g, c3, rfl, hc3, hc4, hc5, -⟩ := ownsRow.head (HM.row .head) (by omega)
  go_wp2_with (first | (refine wpM_buildSlice1 (e := 3) (size := 1) (z := .int .i64 0) HM rfl rfl (by (conv => lhs; whnf); try rfl) (by rfl) Try.underlying22 (by kernel_rfl) (by kernel_rfl) (by rfl) (by rfl) (by decide) (by decide) ?_; clear HM; intro b w HB HM; clear HB) | (refine wpM_append (e := 3) (sz := 1) (bytes := 8) (z := .int .i64 0) HM rfl rfl rfl Try.underlying22 (by kernel_rfl) (by kernel_rfl) (by rfl) (by decide) rfl rfl (by repeat (first | exact Sel.head | apply Sel.tail)) (by simp) (by simp [Value.oneCell']) (by omega) (by omega) ?_; clear HM; intro p1 c1 w HC1 HC2 HM) | (refine wpM_storeAll HM rfl rfl rfl rfl (by repeat (first | exact Sel.head | apply Sel.tail)) (by rfl) (by kernel_rfl) (by rfl) ?_; clear HM; intro w HM) | (refine wpM_storeR HM rfl rfl rfl (by (conv => lhs; whnf); try rfl) (by repeat (first | exact Sel.head | apply Sel.tail)) (by exact L0.out) (by kernel_rfl) (by rfl) ?_; clear HM; intro w HM) | (refine wpM_box HM rfl rfl rfl rfl ?_; clear HM; intro b w HB HM; clear HB) | (refine wpM_alloc HM rfl rfl zt_Answer rfl ?_; clear HM; intro b w HB HM; clear HB) | (refine wpM_load (ty := 3) HM rfl rfl rfl (by repeat (first | exact Sel.head | apply Sel.tail)) (by first | rfl | exact HV0.out | exact HVm.out) (by kernel_rfl) ?_) | (refine wpM_loadR (ty := 3) HM rfl rfl rfl (by repeat (first | exact Sel.head | apply Sel.tail)) (by first | rfl | exact HV0.out | exact HVm.out) (by kernel_rfl) ?_) | (refine wpM_store HM rfl rfl rfl (by (conv => lhs; whnf); try rfl) (by repeat (first | exact Sel.head | apply Sel.tail)) (by simp) (by kernel_rfl) (by rfl) ?_; clear HM; intro w HM; simp only [List.set_cons_zero, List.set_cons_succ] at HM))
  rw [vals_set] at HM
  replace HM := HM.takeRow .head m (by omega)
  rw [vals_take, Nat.mul_one] at HM
  have HLN : Hid (((xs.set 0 (hp xs m)).take m).length = m) := Lib.hid (by simp; omega)
  have hdn := heap_down w g c3 ((xs.set 0 (hp xs m)).take m) (by rw [HLN.out]; exact HM.row .head) (by rw [HLN.out]; omega)
  rw [HLN.out] at hdn
  refine hdn.mono ?_
  rintro e w1 ⟨rfl, ho, hk⟩
  replace HM := HM.turn .head (hk.mono (fun k hk => by subst hk; rfl)) (.row _ _ _ _ _) ho (fun g h => .inl h)
  clear ho hk hdn
  go_wp2_with (first | (refine wpM_buildSlice1 (e := 3) (size := 1) (z := .int .i64 0) HM rfl rfl (by (conv => lhs; whnf); try rfl) (by rfl) Try.underlying22 (by kernel_rfl) (by kernel_rfl) (by rfl) (by rfl) (by decide) (by decide) ?_; clear HM; intro b w HB HM; clear HB) | (refine wpM_append (e := 3) (sz := 1) (bytes := 8) (z := .int .i64 0) HM rfl rfl rfl Try.underlying22 (by kernel_rfl) (by kernel_rfl) (by rfl) (by decide) rfl rfl (by repeat (first | exact Sel.head | apply Sel.tail)) (by simp) (by simp [Value.oneCell']) (by omega) (by omega) ?_; clear HM; intro p1 c1 w HC1 HC2 HM) | (refine wpM_storeAll HM rfl rfl rfl rfl (by repeat (first | exact Sel.head | apply Sel.tail)) (by rfl) (by kernel_rfl) (by rfl) ?_; clear HM; intro w HM) | (refine wpM_storeR HM rfl rfl rfl (by (conv => lhs; whnf); try rfl) (by repeat (first | exact Sel.head | apply Sel.tail)) (by exact L0.out) (by kernel_rfl) (by rfl) ?_; clear HM; intro w HM) | (refine wpM_box HM rfl rfl rfl rfl ?_; clear HM; intro b w HB HM; clear HB) | (refine wpM_alloc HM rfl rfl zt_Answer rfl ?_; clear HM; intro b w HB HM; clear HB) | (refine wpM_load (ty := 3) HM rfl rfl rfl (by repeat (first | exact Sel.head | apply Sel.tail)) (by first | rfl | exact HV0.out | exact HVm.out) (by kernel_rfl) ?_) | (refine wpM_loadR (ty := 3) HM rfl rfl rfl (by repeat (first | exact Sel.head | apply Sel.tail)) (by first | rfl | exact HV0.out | exact HVm.out) (by kernel_rfl) ?_) | (refine wpM_store HM rfl rfl rfl (by (conv => lhs; whnf); try rfl) (by repeat (first | exact Sel.head | apply Sel.tail)) (by simp) (by kernel_rfl) (by rfl) ?_; clear HM; intro w HM; simp only [List.set_cons_zero, List.set_cons_succ] at HM))
  refine bodyPost_ret (v := .tuple #[.slice (some ⟨g, 0, none⟩) m c3, .agg #[.int .i64 1, .int .i64 (hp xs 0)]]) (resM_tc HM rfl (by rfl) (by rfl) (by repeat (first | exact Sel.head | apply Sel.tail)) (by kernel_rfl)) rfl ⟨_, by rw [HR.out], ?_, HM.below⟩
  have hg := HM.gives .head (fun _ _ h => h)
  rw [HR.out]
  show World.ownsRow _ _ _ _ _ (downF m ((xs.set 0 (hp xs m)).take m) 0).length (vals _)
  rw [downF_length, HLN.out]
  exact hg
set_option maxRecDepth 20000 in
set_option maxHeartbeats 4000000 in
theorem heap_count (W : World) (v : Value) (xs : List Int) (k key x : Int) (h : Sl W v xs) (hx2 : xs.length ≤ 1000) (hk : k = 6) :
    Calls Try.prog 19 #[v, .agg #[.int .i64 k, .int .i64 key, .int .i64 x]] W fun e w' =>
      ∃ v', e = .returned (.tuple #[v', .agg #[.int .i64 (heapR xs k x).2.1, .int .i64 (heapR xs k x).2.2]]) ∧ Own w' W.heap.size v' (heapR xs k x).1 ∧ Below W.heap.size W w' := by
  subst hk
  have HR : Hid (heapR xs 6 x = (xs, 1, (xs.length : Int))) := Lib.hid (by unfold heapR; rw [if_neg (by decide), if_neg (by decide), if_pos rfl])
  obtain ⟨a, cap, rfl⟩ := h.slice
  have HS := Lib.hid h
  clear h
  have HM := Mem.start W
  go_enter Try.func19, Try.ntmps19
  go_wp2_with (first | (refine wpM_buildSlice1 (e := 3) (size := 1) (z := .int .i64 0) HM rfl rfl (by (conv => lhs; whnf); try rfl) (by rfl) Try.underlying22 (by kernel_rfl) (by kernel_rfl) (by rfl) (by rfl) (by decide) (by decide) ?_; clear HM; intro b w HB HM; clear HB) | (refine wpM_append (e := 3) (sz := 1) (bytes := 8) (z := .int .i64 0) HM rfl rfl rfl Try.underlying22 (by kernel_rfl) (by kernel_rfl) (by rfl) (by decide) rfl rfl (by repeat (first | exact Sel.head | apply Sel.tail)) (by simp) (by simp [Value.oneCell']) (by omega) (by omega) ?_; clear HM; intro p1 c1 w HC1 HC2 HM) | (refine wpM_storeAll HM rfl rfl rfl rfl (by repeat (first | exact Sel.head | apply Sel.tail)) (by rfl) (by kernel_rfl) (by rfl) ?_; clear HM; intro w HM) | (refine wpM_storeR HM rfl rfl rfl (by (conv => lhs; whnf); try rfl) (by repeat (first | exact Sel.head | apply Sel.tail)) (by exact L0.out) (by kernel_rfl) (by rfl) ?_; clear HM; intro w HM) | (refine wpM_box HM rfl rfl rfl rfl ?_; clear HM; intro b w HB HM; clear HB) | (refine wpM_alloc HM rfl rfl zt_Answer rfl ?_; clear HM; intro b w HB HM; clear HB) | (refine wpM_load (ty := 3) HM rfl rfl rfl (by repeat (first | exact Sel.head | apply Sel.tail)) (by first | rfl | exact HV0.out | exact HVm.out) (by kernel_rfl) ?_) | (refine wpM_loadR (ty := 3) HM rfl rfl rfl (by repeat (first | exact Sel.head | apply Sel.tail)) (by first | rfl | exact HV0.out | exact HVm.out) (by kernel_rfl) ?_) | (refine wpM_store HM rfl rfl rfl (by (conv => lhs; whnf); try rfl) (by repeat (first | exact Sel.head | apply Sel.tail)) (by simp) (by kernel_rfl) (by rfl) ?_; clear HM; intro w HM; simp only [List.set_cons_zero, List.set_cons_succ] at HM))
  refine (clone_any _ _ xs (HS.out.below HM.below) hx2).mono ?_
  rintro e w ⟨v3, rfl, ho, hb3⟩
  replace HM := HM.got hb3 ho
  change Mem W _ (.row v3 3 1 xs.length (vals xs) :: _) w at HM
  clear ho hb3
  obtain ⟨p3, c3, rfl, hc3, hc4, -⟩ := ownsRow.form (HM.row .head)
  go_wp2_with (first | (refine wpM_buildSlice1 (e := 3) (size := 1) (z := .int .i64 0) HM rfl rfl (by (conv => lhs; whnf); try rfl) (by rfl) Try.underlying22 (by kernel_rfl) (by kernel_rfl) (by rfl) (by rfl) (by decide) (by decide) ?_; clear HM; intro b w HB HM; clear HB) | (refine wpM_append (e := 3) (sz := 1) (bytes := 8) (z := .int .i64 0) HM rfl rfl rfl Try.underlying22 (by kernel_rfl) (by kernel_rfl) (by rfl) (by decide) rfl rfl (by repeat (first | exact Sel.head | apply Sel.tail)) (by simp) (by simp [Value.oneCell']) (by omega) (by omega) ?_; clear HM; intro p1 c1 w HC1 HC2 HM) | (refine wpM_storeAll HM rfl rfl rfl rfl (by repeat (first | exact Sel.head | apply Sel.tail)) (by rfl) (by kernel_rfl) (by rfl) ?_; clear HM; intro w HM) | (refine wpM_storeR HM rfl rfl rfl (by (conv => lhs; whnf); try rfl) (by repeat (first | exact Sel.head | apply Sel.tail)) (by exact L0.out) (by kernel_rfl) (by rfl) ?_; clear HM; intro w HM) | (refine wpM_box HM rfl rfl rfl rfl ?_; clear HM; intro b w HB HM; clear HB) | (refine wpM_alloc HM rfl rfl zt_Answer rfl ?_; clear HM; intro b w HB HM; clear HB) | (refine wpM_load (ty := 3) HM rfl rfl rfl (by repeat (first | exact Sel.head | apply Sel.tail)) (by first | rfl | exact HV0.out | exact HVm.out) (by kernel_rfl) ?_) | (refine wpM_loadR (ty := 3) HM rfl rfl rfl (by repeat (first | exact Sel.head | apply Sel.tail)) (by first | rfl | exact HV0.out | exact HVm.out) (by kernel_rfl) ?_) | (refine wpM_store HM rfl rfl rfl (by (conv => lhs; whnf); try rfl) (by repeat (first | exact Sel.head | apply Sel.tail)) (by simp) (by kernel_rfl) (by rfl) ?_; clear HM; intro w HM; simp only [List.set_cons_zero, List.set_cons_succ] at HM))
  exact bodyPost_ret (v := .tuple #[.slice p3 xs.length c3, .agg #[.int .i64 1, .int .i64 xs.length]]) (resM_tc HM rfl (by rfl) (by rfl) (by repeat (first | exact Sel.head | apply Sel.tail)) (by kernel_rfl)) rfl ⟨_, by rw [HR.out], by rw [HR.out]; exact (HM.gives .head (fun _ _ h => h)), HM.below⟩
set_option maxRecDepth 20000 in
set_option maxHeartbeats 4000000 in
theorem heap_wrong (W : World) (v : Value) (xs : List Int) (k key x : Int) (h : Sl W v xs) (hx2 : xs.length ≤ 1000) (k1 : k ≠ 1) (k2 : k ≠ 2) (k5 : k ≠ 5) (k6 : k ≠ 6) :
    Calls Try.prog 19 #[v, .agg #[.int .i64 k, .int .i64 key, .int .i64 x]] W fun e w' =>
      ∃ v', e = .returned (.tuple #[v', .agg #[.int .i64 (heapR xs k x).2.1, .int .i64 (heapR xs k x).2.2]]) ∧ Own w' W.heap.size v' (heapR xs k x).1 ∧ Below W.heap.size W w' := by
  have HR : Hid (heapR xs k x = (xs, 5, 0)) := Lib.hid (by unfold heapR; rw [if_neg k1, if_neg (by omega), if_neg k6])
  have q1 : (k == 1) = false := by simpa using k1
  have q2 : (k == 2) = false := by simpa using k2
  have q5 : (k == 5) = false := by simpa using k5
  have q6 : (k == 6) = false := by simpa using k6
  clear k1 k2 k5 k6
  obtain ⟨a, cap, rfl⟩ := h.slice
  have HS := Lib.hid h
  clear h
  have HM := Mem.start W
  go_enter Try.func19, Try.ntmps19
  go_wp2_with (first | (refine wpM_buildSlice1 (e := 3) (size := 1) (z := .int .i64 0) HM rfl rfl (by (conv => lhs; whnf); try rfl) (by rfl) Try.underlying22 (by kernel_rfl) (by kernel_rfl) (by rfl) (by rfl) (by decide) (by decide) ?_; clear HM; intro b w HB HM; clear HB) | (refine wpM_append (e := 3) (sz := 1) (bytes := 8) (z := .int .i64 0) HM rfl rfl rfl Try.underlying22 (by kernel_rfl) (by kernel_rfl) (by rfl) (by decide) rfl rfl (by repeat (first | exact Sel.head | apply Sel.tail)) (by simp) (by simp [Value.oneCell']) (by omega) (by omega) ?_; clear HM; intro p1 c1 w HC1 HC2 HM) | (refine wpM_storeAll HM rfl rfl rfl rfl (by repeat (first | exact Sel.head | apply Sel.tail)) (by rfl) (by kernel_rfl) (by rfl) ?_; clear HM; intro w HM) | (refine wpM_storeR HM rfl rfl rfl (by (conv => lhs; whnf); try rfl) (by repeat (first | exact Sel.head | apply Sel.tail)) (by exact L0.out) (by kernel_rfl) (by rfl) ?_; clear HM; intro w HM) | (refine wpM_box HM rfl rfl rfl rfl ?_; clear HM; intro b w HB HM; clear HB) | (refine wpM_alloc HM rfl rfl zt_Answer rfl ?_; clear HM; intro b w HB HM; clear HB) | (refine wpM_load (ty := 3) HM rfl rfl rfl (by repeat (first | exact Sel.head | apply Sel.tail)) (by first | rfl | exact HV0.out | exact HVm.out) (by kernel_rfl) ?_) | (refine wpM_loadR (ty := 3) HM rfl rfl rfl (by repeat (first | exact Sel.head | apply Sel.tail)) (by first | rfl | exact HV0.out | exact HVm.out) (by kernel_rfl) ?_) | (refine wpM_store HM rfl rfl rfl (by (conv => lhs; whnf); try rfl) (by repeat (first | exact Sel.head | apply Sel.tail)) (by simp) (by kernel_rfl) (by rfl) ?_; clear HM; intro w HM; simp only [List.set_cons_zero, List.set_cons_succ] at HM))
  refine (clone_any _ _ xs (HS.out.below HM.below) hx2).mono ?_
  rintro e w ⟨v3, rfl, ho, hb3⟩
  replace HM := HM.got hb3 ho
  change Mem W _ (.row v3 3 1 xs.length (vals xs) :: _) w at HM
  clear ho hb3
  obtain ⟨p3, c3, rfl, hc3, hc4, -⟩ := ownsRow.form (HM.row .head)
  go_wp2_with (first | (refine wpM_buildSlice1 (e := 3) (size := 1) (z := .int .i64 0) HM rfl rfl (by (conv => lhs; whnf); try rfl) (by rfl) Try.underlying22 (by kernel_rfl) (by kernel_rfl) (by rfl) (by rfl) (by decide) (by decide) ?_; clear HM; intro b w HB HM; clear HB) | (refine wpM_append (e := 3) (sz := 1) (bytes := 8) (z := .int .i64 0) HM rfl rfl rfl Try.underlying22 (by kernel_rfl) (by kernel_rfl) (by rfl) (by decide) rfl rfl (by repeat (first | exact Sel.head | apply Sel.tail)) (by simp) (by simp [Value.oneCell']) (by omega) (by omega) ?_; clear HM; intro p1 c1 w HC1 HC2 HM) | (refine wpM_storeAll HM rfl rfl rfl rfl (by repeat (first | exact Sel.head | apply Sel.tail)) (by rfl) (by kernel_rfl) (by rfl) ?_; clear HM; intro w HM) | (refine wpM_storeR HM rfl rfl rfl (by (conv => lhs; whnf); try rfl) (by repeat (first | exact Sel.head | apply Sel.tail)) (by exact L0.out) (by kernel_rfl) (by rfl) ?_; clear HM; intro w HM) | (refine wpM_box HM rfl rfl rfl rfl ?_; clear HM; intro b w HB HM; clear HB) | (refine wpM_alloc HM rfl rfl zt_Answer rfl ?_; clear HM; intro b w HB HM; clear HB) | (refine wpM_load (ty := 3) HM rfl rfl rfl (by repeat (first | exact Sel.head | apply Sel.tail)) (by first | rfl | exact HV0.out | exact HVm.out) (by kernel_rfl) ?_) | (refine wpM_loadR (ty := 3) HM rfl rfl rfl (by repeat (first | exact Sel.head | apply Sel.tail)) (by first | rfl | exact HV0.out | exact HVm.out) (by kernel_rfl) ?_) | (refine wpM_store HM rfl rfl rfl (by (conv => lhs; whnf); try rfl) (by repeat (first | exact Sel.head | apply Sel.tail)) (by simp) (by kernel_rfl) (by rfl) ?_; clear HM; intro w HM; simp only [List.set_cons_zero, List.set_cons_succ] at HM))
  exact bodyPost_ret (v := .tuple #[.slice p3 xs.length c3, .agg #[.int .i64 5, .int .i64 0]]) (resM_tc HM rfl (by rfl) (by rfl) (by repeat (first | exact Sel.head | apply Sel.tail)) (by kernel_rfl)) rfl ⟨_, by rw [HR.out], by rw [HR.out]; exact (HM.gives .head (fun _ _ h => h)), HM.below⟩
theorem heap_do (W : World) (v : Value) (xs : List Int) (k key x : Int) (h : Sl W v xs) (hx2 : xs.length ≤ 1000) :
    Calls Try.prog 19 #[v, .agg #[.int .i64 k, .int .i64 key, .int .i64 x]] W fun e w' =>
      ∃ v', e = .returned (.tuple #[v', .agg #[.int .i64 (heapR xs k x).2.1, .int .i64 (heapR xs k x).2.2]]) ∧ Own w' W.heap.size v' (heapR xs k x).1 ∧ Below W.heap.size W w' := by
  by_cases k1 : k = 1
  · by_cases hf : 6 ≤ xs.length
    · exact heap_full W v xs k key x h hx2 k1 hf
    · exact heap_put W v xs k key x h hx2 k1 (by omega)
  · by_cases k2 : k = 2
    · by_cases hf : xs.length = 0
      · exact heap_empty2 W v xs k key x h hx2 k2 hf
      · exact heap_take W v xs k key x h hx2 k2 (by omega)
    · by_cases k5 : k = 5
      · by_cases hf : xs.length = 0
        · exact heap_empty5 W v xs k key x h hx2 k5 hf
        · exact heap_peek W v xs k key x h hx2 k5 (by omega)
      · by_cases k6 : k = 6
        · exact heap_count W v xs k key x h hx2 k6
        · exact heap_wrong W v xs k key x h hx2 k1 k2 k5 k6
end Go.Proofs.Ytpedkcpkdacnlaa
