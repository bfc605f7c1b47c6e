/- HeapSorts: the walk of the law. -/
import Derived.Test.YtpedkcpkdacnlaaHeaped
import Derived.Test.YtpedkcpkdacnlaaHeapMore
import Derived.Test.YtpedkcpkdacnlaaSortRow
namespace Go.Proofs.Ytpedkcpkdacnlaa
open Go.RowKit
set_option linter.unusedVariables false
set_option maxRecDepth 20000 in
set_option maxHeartbeats 4000000 in
theorem walk_HeapSorts (a0 : Option Addr) (len0 cap0 : Nat) (z0 : List Int) (W : World) (w0 : IsRow .i64 W a0 len0 cap0 z0) :
    Calls Try.prog 11 #[.slice a0 len0 cap0] W fun e w' => e = .returned (.bool true) ∧ Below W.heap.size W w' := by
  obtain ⟨xs, hl, hs⟩ := row_sl w0
  have HS := Lib.hid hs
  have hcaps := hs.caps
  clear w0 hs
  subst hl
  have HM := Mem.start W
  go_enter Try.func11, Try.ntmps11
  go_wp2_with (first | (refine wpM_storeAll HM rfl rfl rfl rfl (by repeat (first | exact Sel.head | apply Sel.tail)) (by rfl) (by kernel_rfl) (by rfl) ?_; clear HM; intro w HM) | (refine wpM_loadAll (ty := 26) HM rfl rfl rfl (by repeat (first | exact Sel.head | apply Sel.tail)) (by kernel_rfl) ?_) | (refine wpM_box HM rfl rfl rfl rfl ?_; clear HM; intro b w HB HM; clear HB) | (refine wpM_alloc HM rfl rfl zt_Answer rfl ?_; clear HM; intro b w HB HM; clear HB) | (refine wpM_load (ty := 3) HM rfl rfl rfl (by repeat (first | exact Sel.head | apply Sel.tail)) (by first | rfl | assumption) (by kernel_rfl) ?_) | (refine wpM_loadR (ty := 3) HM rfl rfl rfl (by repeat (first | exact Sel.head | apply Sel.tail)) (by first | rfl | assumption) (by kernel_rfl) ?_) | (refine wpM_store HM rfl rfl rfl (by (conv => lhs; whnf); try rfl) (by repeat (first | exact Sel.head | apply Sel.tail)) (by simp) (by kernel_rfl) (by rfl) ?_; clear HM; intro w HM; simp only [List.set_cons_zero, List.set_cons_succ] at HM))
  refine (heaped_any _).mono ?_
  rintro e w ⟨rfl, hb⟩
  replace HM := HM.call hb
  clear hb
  go_wp2_with (first | (refine wpM_storeAll HM rfl rfl rfl rfl (by repeat (first | exact Sel.head | apply Sel.tail)) (by rfl) (by kernel_rfl) (by rfl) ?_; clear HM; intro w HM) | (refine wpM_loadAll (ty := 26) HM rfl rfl rfl (by repeat (first | exact Sel.head | apply Sel.tail)) (by kernel_rfl) ?_) | (refine wpM_box HM rfl rfl rfl rfl ?_; clear HM; intro b w HB HM; clear HB) | (refine wpM_alloc HM rfl rfl zt_Answer rfl ?_; clear HM; intro b w HB HM; clear HB) | (refine wpM_load (ty := 3) HM rfl rfl rfl (by repeat (first | exact Sel.head | apply Sel.tail)) (by first | rfl | assumption) (by kernel_rfl) ?_) | (refine wpM_loadR (ty := 3) HM rfl rfl rfl (by repeat (first | exact Sel.head | apply Sel.tail)) (by first | rfl | assumption) (by kernel_rfl) ?_) | (refine wpM_store HM rfl rfl rfl (by (conv => lhs; whnf); try rfl) (by repeat (first | exact Sel.head | apply Sel.tail)) (by simp) (by kernel_rfl) (by rfl) ?_; clear HM; intro w HM; simp only [List.set_cons_zero, List.set_cons_succ] at HM))
  refine (few_any _ _ _ xs _ rfl (HS.out.below HM.below)).mono ?_
  rintro e w ⟨v1, rfl, ho, hb⟩
  replace HM := HM.got hb ho
  clear ho hb hcaps
  have hl6 : (fewL xs).length ≤ 6 := by unfold fewL; simp; omega
  generalize fewL xs = zs at *
  change Mem W _ [.row v1 3 1 zs.length (vals zs)] w at HM
  obtain ⟨p1, c1, rfl, -, -, -⟩ := ownsRow.form (HM.row .head)
  clear HS
  replace HM := HM.nil 3 1
  change Mem W _ [.row (.slice none ([] : List Int).length 0) 3 1 ([] : List Int).length (vals []), .row (.slice p1 zs.length c1) 3 1 zs.length (vals zs)] w at HM
  go_wp2_with (first | (refine wpM_storeAll HM rfl rfl rfl rfl (by repeat (first | exact Sel.head | apply Sel.tail)) (by rfl) (by kernel_rfl) (by rfl) ?_; clear HM; intro w HM) | (refine wpM_loadAll (ty := 26) HM rfl rfl rfl (by repeat (first | exact Sel.head | apply Sel.tail)) (by kernel_rfl) ?_) | (refine wpM_box HM rfl rfl rfl rfl ?_; clear HM; intro b w HB HM; clear HB) | (refine wpM_alloc HM rfl rfl zt_Answer rfl ?_; clear HM; intro b w HB HM; clear HB) | (refine wpM_load (ty := 3) HM rfl rfl rfl (by repeat (first | exact Sel.head | apply Sel.tail)) (by first | rfl | assumption) (by kernel_rfl) ?_) | (refine wpM_loadR (ty := 3) HM rfl rfl rfl (by repeat (first | exact Sel.head | apply Sel.tail)) (by first | rfl | assumption) (by kernel_rfl) ?_) | (refine wpM_store HM rfl rfl rfl (by (conv => lhs; whnf); try rfl) (by repeat (first | exact Sel.head | apply Sel.tail)) (by simp) (by kernel_rfl) (by rfl) ?_; clear HM; intro w HM; simp only [List.set_cons_zero, List.set_cons_succ] at HM))
  go_loopw [3, 15] (fun hv i wr => ∃ (k : Nat) (hs : List Int) (p : Option Addr) (c : Nat), k ≤ zs.length ∧ i = .int .i64 k ∧ hv = .slice p hs.length c ∧ IsHeap hs ∧ hs.Perm (zs.take k) ∧ Mem W (fun _ => False) [.row (.slice p hs.length c) 3 1 hs.length (vals hs), .row (.slice p1 zs.length c1) 3 1 zs.length (vals zs)] wr) (fun _ i _ => zs.length - (intOf i).toNat)
  case atStart => exact ⟨0, [], none, 0, by omega, rfl, rfl, by intro j h0 hj; simp at hj, by simp, HM⟩
  case round =>
    clear HM
    obtain ⟨k, hs, p, c, hk, rfl, rfl, hh, hperm, HM⟩ := hrel
    have HH := Lib.hid hh
    have HP := Lib.hid hperm
    have hhl : hs.length = k := by rw [hperm.length_eq]; simp; omega
    have HHL := Lib.hid hhl
    clear hh hperm hhl
    by_cases hlt : k < zs.length
    · obtain ⟨g, c', he, -, -, -, -⟩ := ownsRow.head (HM.row (.tail .head)) (by omega)
      simp only [Value.slice.injEq, true_and] at he
      obtain ⟨rfl, rfl⟩ := he
      have GK := Lib.hid (vals_get zs k hlt)
      obtain ⟨ys, e1, hyp, hyl⟩ := heapR_put hs (hp zs k) (by rw [HHL.out]; omega)
      have E1 := Lib.hid e1
      have HYP := Lib.hid hyp
      clear e1 hyp hyl
      generalize hx : hp zs k = x at *
      have HX := Lib.hid hx
      clear hx
      go_wp2_with (first | (refine wpM_storeAll HM rfl rfl rfl rfl (by repeat (first | exact Sel.head | apply Sel.tail)) (by rfl) (by kernel_rfl) (by rfl) ?_; clear HM; intro w HM) | (refine wpM_loadAll (ty := 26) HM rfl rfl rfl (by repeat (first | exact Sel.head | apply Sel.tail)) (by kernel_rfl) ?_) | (refine wpM_box HM rfl rfl rfl rfl ?_; clear HM; intro b w HB HM; clear HB) | (refine wpM_alloc HM rfl rfl zt_Answer rfl ?_; clear HM; intro b w HB HM; clear HB) | (refine wpM_load (ty := 3) HM rfl rfl rfl (by repeat (first | exact Sel.head | apply Sel.tail)) (by exact GK.out) (by kernel_rfl) ?_) | (refine wpM_loadR (ty := 3) HM rfl rfl rfl (by repeat (first | exact Sel.head | apply Sel.tail)) (by exact GK.out) (by kernel_rfl) ?_) | (refine wpM_store HM rfl rfl rfl (by (conv => lhs; whnf); try rfl) (by repeat (first | exact Sel.head | apply Sel.tail)) (by simp) (by kernel_rfl) (by rfl) ?_; clear HM; intro w HM; simp only [List.set_cons_zero, List.set_cons_succ] at HM))
      refine (put_any x _).mono ?_
      rintro e w ⟨rfl, hb⟩
      replace HM := HM.call hb
      clear hb
      go_wp2_with (first | (refine wpM_storeAll HM rfl rfl rfl rfl (by repeat (first | exact Sel.head | apply Sel.tail)) (by rfl) (by kernel_rfl) (by rfl) ?_; clear HM; intro w HM) | (refine wpM_loadAll (ty := 26) HM rfl rfl rfl (by repeat (first | exact Sel.head | apply Sel.tail)) (by kernel_rfl) ?_) | (refine wpM_box HM rfl rfl rfl rfl ?_; clear HM; intro b w HB HM; clear HB) | (refine wpM_alloc HM rfl rfl zt_Answer rfl ?_; clear HM; intro b w HB HM; clear HB) | (refine wpM_load (ty := 3) HM rfl rfl rfl (by repeat (first | exact Sel.head | apply Sel.tail)) (by first | rfl | assumption) (by kernel_rfl) ?_) | (refine wpM_loadR (ty := 3) HM rfl rfl rfl (by repeat (first | exact Sel.head | apply Sel.tail)) (by first | rfl | assumption) (by kernel_rfl) ?_) | (refine wpM_store HM rfl rfl rfl (by (conv => lhs; whnf); try rfl) (by repeat (first | exact Sel.head | apply Sel.tail)) (by simp) (by kernel_rfl) (by rfl) ?_; clear HM; intro w HM; simp only [List.set_cons_zero, List.set_cons_succ] at HM))
      refine (heap_eq _ _ hs 1 0 x (HM.sl (xs := hs) .head) (by rw [HHL.out]; omega) E1.out).mono ?_
      rintro e w ⟨p2, c2, rfl, ho, hb⟩
      replace HM := HM.got hb ho
      change Mem W _ (.row _ 3 1 (ys).length (vals (ys)) :: _) w at HM
      clear ho hb
      replace HM := HM.sub (M' := [.row (.slice p2 ys.length c2) 3 1 ys.length (vals ys), .row (.slice (some ⟨g, 0, none⟩) zs.length c1) 3 1 zs.length (vals zs)]) (.cons_cons _ (.cons _ (List.Sublist.refl _)))
      go_wp2_with (first | (refine wpM_storeAll HM rfl rfl rfl rfl (by repeat (first | exact Sel.head | apply Sel.tail)) (by rfl) (by kernel_rfl) (by rfl) ?_; clear HM; intro w HM) | (refine wpM_loadAll (ty := 26) HM rfl rfl rfl (by repeat (first | exact Sel.head | apply Sel.tail)) (by kernel_rfl) ?_) | (refine wpM_box HM rfl rfl rfl rfl ?_; clear HM; intro b w HB HM; clear HB) | (refine wpM_alloc HM rfl rfl zt_Answer rfl ?_; clear HM; intro b w HB HM; clear HB) | (refine wpM_load (ty := 3) HM rfl rfl rfl (by repeat (first | exact Sel.head | apply Sel.tail)) (by first | rfl | assumption) (by kernel_rfl) ?_) | (refine wpM_loadR (ty := 3) HM rfl rfl rfl (by repeat (first | exact Sel.head | apply Sel.tail)) (by first | rfl | assumption) (by kernel_rfl) ?_) | (refine wpM_store HM rfl rfl rfl (by (conv => lhs; whnf); try rfl) (by repeat (first | exact Sel.head | apply Sel.tail)) (by simp) (by kernel_rfl) (by rfl) ?_; clear HM; intro w HM; simp only [List.set_cons_zero, List.set_cons_succ] at HM))
      go_roundw
      case rel =>
        refine ⟨k + 1, ys, p2, c2, by omega, by go_num, rfl, ?_, ?_, HM⟩
        · have := heapR_heap HH.out 1 x
          rw [E1.out] at this; exact this
        · have h1 : zs.take (k + 1) = zs.take k ++ [x] := by
            rw [List.take_succ_eq_append_getElem hlt, ← HX.out]; simp [hp, hlt]
          rw [h1]
          exact HYP.out.trans ((List.Perm.cons x HP.out).trans (List.perm_append_singleton x _).symm)
      case measure => simp [intOf]; omega
    · obtain rfl : k = zs.length := by omega
      have hp2 := HP.out
      rw [List.take_length] at hp2
      have HP2 : Hid (hs.Perm (sortI zs)) := Lib.hid (hp2.trans (sortI_perm zs).symm)
      have HSO := Lib.hid (sortI_sorted zs)
      have HSL := Lib.hid (sortI_len zs)
      clear HP hp2 HHL
      go_wp2_with (first | (refine wpM_storeAll HM rfl rfl rfl rfl (by repeat (first | exact Sel.head | apply Sel.tail)) (by rfl) (by kernel_rfl) (by rfl) ?_; clear HM; intro w HM) | (refine wpM_loadAll (ty := 26) HM rfl rfl rfl (by repeat (first | exact Sel.head | apply Sel.tail)) (by kernel_rfl) ?_) | (refine wpM_box HM rfl rfl rfl rfl ?_; clear HM; intro b w HB HM; clear HB) | (refine wpM_alloc HM rfl rfl zt_Answer rfl ?_; clear HM; intro b w HB HM; clear HB) | (refine wpM_load (ty := 3) HM rfl rfl rfl (by repeat (first | exact Sel.head | apply Sel.tail)) (by first | rfl | assumption) (by kernel_rfl) ?_) | (refine wpM_loadR (ty := 3) HM rfl rfl rfl (by repeat (first | exact Sel.head | apply Sel.tail)) (by first | rfl | assumption) (by kernel_rfl) ?_) | (refine wpM_store HM rfl rfl rfl (by (conv => lhs; whnf); try rfl) (by repeat (first | exact Sel.head | apply Sel.tail)) (by simp) (by kernel_rfl) (by rfl) ?_; clear HM; intro w HM; simp only [List.set_cons_zero, List.set_cons_succ] at HM))
      refine (sort_row _ _ zs.length zs rfl (HM.row (.tail .head)) (by omega)).mono ?_
      rintro e w ⟨rfl, ho, hk⟩
      replace HM := HM.turn (.tail .head) hk (.row _ _ _ _ _) ho (fun g h => .inl h)
      clear ho hk
      generalize sortI zs = ss at *
      go_wp2_with (first | (refine wpM_storeAll HM rfl rfl rfl rfl (by repeat (first | exact Sel.head | apply Sel.tail)) (by rfl) (by kernel_rfl) (by rfl) ?_; clear HM; intro w HM) | (refine wpM_loadAll (ty := 26) HM rfl rfl rfl (by repeat (first | exact Sel.head | apply Sel.tail)) (by kernel_rfl) ?_) | (refine wpM_box HM rfl rfl rfl rfl ?_; clear HM; intro b w HB HM; clear HB) | (refine wpM_alloc HM rfl rfl zt_Answer rfl ?_; clear HM; intro b w HB HM; clear HB) | (refine wpM_load (ty := 3) HM rfl rfl rfl (by repeat (first | exact Sel.head | apply Sel.tail)) (by first | rfl | assumption) (by kernel_rfl) ?_) | (refine wpM_loadR (ty := 3) HM rfl rfl rfl (by repeat (first | exact Sel.head | apply Sel.tail)) (by first | rfl | assumption) (by kernel_rfl) ?_) | (refine wpM_store HM rfl rfl rfl (by (conv => lhs; whnf); try rfl) (by repeat (first | exact Sel.head | apply Sel.tail)) (by simp) (by kernel_rfl) (by rfl) ?_; clear HM; intro w HM; simp only [List.set_cons_zero, List.set_cons_succ] at HM))
      go_loopw [3, 31] (fun hv i wr => ∃ (k : Nat) (hs : List Int) (p : Option Addr) (c : Nat), k ≤ zs.length ∧ i = .int .i64 k ∧ hv = .slice p hs.length c ∧ IsHeap hs ∧ hs.Perm (ss.drop k) ∧ Mem W (fun _ => False) [.row (.slice p hs.length c) 3 1 hs.length (vals hs), .row (.slice p1 zs.length c1) 3 1 zs.length (vals ss)] wr) (fun _ i _ => zs.length - (intOf i).toNat)
      case atStart => exact ⟨0, hs, p, c, by omega, rfl, rfl, HH.out, by simpa using HP2.out, HM⟩
      case round =>
        clear HM HH HP2
        obtain ⟨k, hs, p, c, hk, rfl, rfl, hh, hperm, HM⟩ := hrel
        have HH := Lib.hid hh
        have HP := Lib.hid hperm
        clear hh hperm
        by_cases hlt : k < zs.length
        · obtain ⟨g, c', he, -, -, -, -⟩ := ownsRow.head (HM.row (.tail .head)) (by omega)
          simp only [Value.slice.injEq, true_and] at he
          obtain ⟨rfl, rfl⟩ := he
          have GK := Lib.hid (vals_get ss k (by rw [HSL.out]; exact hlt))
          have hdr : ss.drop k = hp ss k :: ss.drop (k + 1) := by
            rw [List.drop_eq_getElem_cons (by rw [HSL.out]; exact hlt)]; simp [hp, HSL.out, hlt]
          have hsd : (hp ss k :: ss.drop (k + 1)).Pairwise (· ≤ ·) := by rw [← hdr]; exact HSO.out.drop
          have hpd := HP.out
          rw [hdr] at hpd
          obtain ⟨ys, e1, hyh, hyp⟩ := heap_pops HH.out hpd hsd
          have hhl : hs.length ≤ 1000 := by have := HP.out.length_eq; rw [List.length_drop, HSL.out] at this; omega
          have E1 := Lib.hid e1
          have HYP := Lib.hid hyp
          have HYH := Lib.hid hyh
          clear e1 hyp hyh hpd hsd hdr HP HH
          generalize hp ss k = x at *
          go_wp2_with (first | (refine wpM_storeAll HM rfl rfl rfl rfl (by repeat (first | exact Sel.head | apply Sel.tail)) (by rfl) (by kernel_rfl) (by rfl) ?_; clear HM; intro w HM) | (refine wpM_loadAll (ty := 26) HM rfl rfl rfl (by repeat (first | exact Sel.head | apply Sel.tail)) (by kernel_rfl) ?_) | (refine wpM_box HM rfl rfl rfl rfl ?_; clear HM; intro b w HB HM; clear HB) | (refine wpM_alloc HM rfl rfl zt_Answer rfl ?_; clear HM; intro b w HB HM; clear HB) | (refine wpM_load (ty := 3) HM rfl rfl rfl (by repeat (first | exact Sel.head | apply Sel.tail)) (by exact GK.out) (by kernel_rfl) ?_) | (refine wpM_loadR (ty := 3) HM rfl rfl rfl (by repeat (first | exact Sel.head | apply Sel.tail)) (by exact GK.out) (by kernel_rfl) ?_) | (refine wpM_store HM rfl rfl rfl (by (conv => lhs; whnf); try rfl) (by repeat (first | exact Sel.head | apply Sel.tail)) (by simp) (by kernel_rfl) (by rfl) ?_; clear HM; intro w HM; simp only [List.set_cons_zero, List.set_cons_succ] at HM))
          refine (heap_eq _ _ hs 2 0 0 (HM.sl (xs := hs) (.tail .head)) hhl E1.out).mono ?_
          rintro e w ⟨p2, c2, rfl, ho, hb⟩
          replace HM := HM.got hb ho
          change Mem W _ (.row _ 3 1 (ys).length (vals (ys)) :: _) w at HM
          clear ho hb
          go_wp2_with (first | (refine wpM_storeAll HM rfl rfl rfl rfl (by repeat (first | exact Sel.head | apply Sel.tail)) (by rfl) (by kernel_rfl) (by rfl) ?_; clear HM; intro w HM) | (refine wpM_loadAll (ty := 26) HM rfl rfl rfl (by repeat (first | exact Sel.head | apply Sel.tail)) (by kernel_rfl) ?_) | (refine wpM_box HM rfl rfl rfl rfl ?_; clear HM; intro b w HB HM; clear HB) | (refine wpM_alloc HM rfl rfl zt_Answer rfl ?_; clear HM; intro b w HB HM; clear HB) | (refine wpM_load (ty := 3) HM rfl rfl rfl (by repeat (first | exact Sel.head | apply Sel.tail)) (by first | rfl | assumption) (by kernel_rfl) ?_) | (refine wpM_loadR (ty := 3) HM rfl rfl rfl (by repeat (first | exact Sel.head | apply Sel.tail)) (by first | rfl | assumption) (by kernel_rfl) ?_) | (refine wpM_store HM rfl rfl rfl (by (conv => lhs; whnf); try rfl) (by repeat (first | exact Sel.head | apply Sel.tail)) (by simp) (by kernel_rfl) (by rfl) ?_; clear HM; intro w HM; simp only [List.set_cons_zero, List.set_cons_succ] at HM))
          replace HM := HM.sub (M' := [.row (.slice p2 ys.length c2) 3 1 ys.length (vals ys), .row (.slice (some ⟨g, 0, none⟩) zs.length c1) 3 1 zs.length (vals ss)]) (.cons_cons _ (.cons _ (.cons _ (List.Sublist.refl _))))
          go_roundw
          case rel => exact ⟨k + 1, ys, p2, c2, by omega, by go_num, rfl, HYH.out, HYP.out, HM⟩
          case measure => simp [intOf]; omega
        · obtain rfl : k = zs.length := by omega
          have h0 : hs.length = 0 := by have := HP.out.length_eq; rw [List.length_drop, HSL.out] at this; omega
          obtain rfl : hs = [] := List.length_eq_zero_iff.1 h0
          go_wp2_with (first | (refine wpM_storeAll HM rfl rfl rfl rfl (by repeat (first | exact Sel.head | apply Sel.tail)) (by rfl) (by kernel_rfl) (by rfl) ?_; clear HM; intro w HM) | (refine wpM_loadAll (ty := 26) HM rfl rfl rfl (by repeat (first | exact Sel.head | apply Sel.tail)) (by kernel_rfl) ?_) | (refine wpM_box HM rfl rfl rfl rfl ?_; clear HM; intro b w HB HM; clear HB) | (refine wpM_alloc HM rfl rfl zt_Answer rfl ?_; clear HM; intro b w HB HM; clear HB) | (refine wpM_load (ty := 3) HM rfl rfl rfl (by repeat (first | exact Sel.head | apply Sel.tail)) (by first | rfl | assumption) (by kernel_rfl) ?_) | (refine wpM_loadR (ty := 3) HM rfl rfl rfl (by repeat (first | exact Sel.head | apply Sel.tail)) (by first | rfl | assumption) (by kernel_rfl) ?_) | (refine wpM_store HM rfl rfl rfl (by (conv => lhs; whnf); try rfl) (by repeat (first | exact Sel.head | apply Sel.tail)) (by simp) (by kernel_rfl) (by rfl) ?_; clear HM; intro w HM; simp only [List.set_cons_zero, List.set_cons_succ] at HM))
          go_ret
          exact ⟨rfl, HM.below⟩
end Go.Proofs.Ytpedkcpkdacnlaa
