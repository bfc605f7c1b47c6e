/- Laws and walks that the proof leans on, gathered: Heaped, ObjList, ObjSlots, ArrEq, Cmp, ObjRight, ORight, MemMap, ObjDo, ObjDo2, ObjAll, Rws. -/
import Derived.Deep.Cut
import Derived.Test.YtpedkcpkdacnlaaRows
import Derived.StillTailTactics
import Derived.Test.YtpedkcpkdacnlaaObj3
section
namespace Go.Proofs.Ytpedkcpkdacnlaa
open Go.RowKit
set_option linter.unusedVariables false
theorem heap_eq (W : World) (v : Value) (xs : List Int) (k key x : Int) (h : Sl W v xs) (hx2 : xs.length ≤ 1000) {ys : List Int} {c r : Int} (e : heapR xs k x = (ys, c, r)) :
    Calls Try.prog 19 #[v, .agg #[.int .i64 k, .int .i64 key, .int .i64 x]] W fun e w' =>
      ∃ p cap, e = .returned (.tuple #[.slice p ys.length cap, .agg #[.int .i64 c, .int .i64 r]]) ∧ Own w' W.heap.size (.slice p ys.length cap) ys ∧ Below W.heap.size W w' := by
  refine (heap_do W v xs k key x h hx2).mono ?_
  rintro e w ⟨v', rfl, ho, hb⟩
  rw [e] at ho ⊢
  obtain ⟨p, cap, rfl, -⟩ := ownsRow.form ho
  exact ⟨p, cap, rfl, ho, hb⟩
theorem Mem.sl {w0 w : World} {S : Nat → Prop} {M : List En} (h : Mem w0 S M w) {v : Value} {xs : List Int} {f : En → List En} (hs : Sel (.row v 3 1 xs.length (vals xs)) M f) : Sl w v xs := Own.sl (base := 0) (h.row hs)
theorem Mem.blkSl {w0 w : World} {S : Nat → Prop} {M : List En} (h : Mem w0 S M w) (xs : List Int) {b : Nat} {t : TypeId} {f : En → List En} (hs : Sel (.blk b (xs.map (Value.int .i64)) t) M f) (hx : xs.length ≤ 1000) : Sl w (.slice (some ⟨b, 0, none⟩) xs.length xs.length) xs := Blk.sl (h.blk hs) hx
set_option maxRecDepth 20000 in
set_option maxHeartbeats 4000000 in
theorem heaped_any (W : World) :
    Calls Try.prog 17 #[] W fun e w' => e = .returned (.bool true) ∧ Below W.heap.size W w' := by
  have HM := Mem.start W
  go_enter Try.func17, Try.ntmps17
  go_wp2_with (first | (refine wpM_buildSliceK (e := 3) HM [.int .i64 2, .int .i64 5, .int .i64 3] rfl rfl (fun w' => by kernel_rfl) ?_; clear HM; intro b w HB HM; clear HB) | (refine wpM_storeAll HM rfl rfl rfl rfl (by repeat (first | exact Sel.head | apply Sel.tail)) (by rfl) (by kernel_rfl) (by rfl) ?_; clear HM; intro w HM) | (refine wpM_loadAll (ty := 26) HM rfl rfl rfl (by repeat (first | exact Sel.head | apply Sel.tail)) (by kernel_rfl) ?_) | (refine wpM_box HM rfl rfl rfl rfl ?_; clear HM; intro b w HB HM; clear HB) | (refine wpM_alloc HM rfl rfl zt_Answer rfl ?_; clear HM; intro b w HB HM; clear HB) | (refine wpM_load (ty := 3) HM rfl rfl rfl (by repeat (first | exact Sel.head | apply Sel.tail)) (by first | rfl | assumption) (by kernel_rfl) ?_) | (refine wpM_loadR (ty := 3) HM rfl rfl rfl (by repeat (first | exact Sel.head | apply Sel.tail)) (by first | rfl | assumption) (by kernel_rfl) ?_) | (refine wpM_store HM rfl rfl rfl (by (conv => lhs; whnf); try rfl) (by repeat (first | exact Sel.head | apply Sel.tail)) (by simp) (by kernel_rfl) (by rfl) ?_; clear HM; intro w HM; simp only [List.set_cons_zero, List.set_cons_succ] at HM))
  refine (put_any 1 _).mono ?_
  rintro e w ⟨rfl, hb⟩
  replace HM := HM.call hb
  clear hb
  go_wp2_with (first | (refine wpM_storeAll HM rfl rfl rfl rfl (by repeat (first | exact Sel.head | apply Sel.tail)) (by rfl) (by kernel_rfl) (by rfl) ?_; clear HM; intro w HM) | (refine wpM_loadAll (ty := 26) HM rfl rfl rfl (by repeat (first | exact Sel.head | apply Sel.tail)) (by kernel_rfl) ?_) | (refine wpM_box HM rfl rfl rfl rfl ?_; clear HM; intro b w HB HM; clear HB) | (refine wpM_alloc HM rfl rfl zt_Answer rfl ?_; clear HM; intro b w HB HM; clear HB) | (refine wpM_load (ty := 3) HM rfl rfl rfl (by repeat (first | exact Sel.head | apply Sel.tail)) (by first | rfl | assumption) (by kernel_rfl) ?_) | (refine wpM_loadR (ty := 3) HM rfl rfl rfl (by repeat (first | exact Sel.head | apply Sel.tail)) (by first | rfl | assumption) (by kernel_rfl) ?_) | (refine wpM_store HM rfl rfl rfl (by (conv => lhs; whnf); try rfl) (by repeat (first | exact Sel.head | apply Sel.tail)) (by simp) (by kernel_rfl) (by rfl) ?_; clear HM; intro w HM; simp only [List.set_cons_zero, List.set_cons_succ] at HM))
  refine (heap_eq _ _ [2, 5, 3] 1 0 1 (HM.blkSl [2, 5, 3] .head (by decide)) (by decide) (ys := [1, 2, 3, 5]) (c := 1) (r := 0) rfl).mono ?_
  rintro e w ⟨p1, c1, rfl, ho, hb⟩
  replace HM := HM.got hb ho
  change Mem W _ (.row _ 3 1 4 (vals ([1, 2, 3, 5])) :: _) w at HM
  clear ho hb
  go_wp2_with (first | (refine wpM_storeAll HM rfl rfl rfl rfl (by repeat (first | exact Sel.head | apply Sel.tail)) (by rfl) (by kernel_rfl) (by rfl) ?_; clear HM; intro w HM) | (refine wpM_loadAll (ty := 26) HM rfl rfl rfl (by repeat (first | exact Sel.head | apply Sel.tail)) (by kernel_rfl) ?_) | (refine wpM_box HM rfl rfl rfl rfl ?_; clear HM; intro b w HB HM; clear HB) | (refine wpM_alloc HM rfl rfl zt_Answer rfl ?_; clear HM; intro b w HB HM; clear HB) | (refine wpM_load (ty := 3) HM rfl rfl rfl (by repeat (first | exact Sel.head | apply Sel.tail)) (by first | rfl | assumption) (by kernel_rfl) ?_) | (refine wpM_loadR (ty := 3) HM rfl rfl rfl (by repeat (first | exact Sel.head | apply Sel.tail)) (by first | rfl | assumption) (by kernel_rfl) ?_) | (refine wpM_store HM rfl rfl rfl (by (conv => lhs; whnf); try rfl) (by repeat (first | exact Sel.head | apply Sel.tail)) (by simp) (by kernel_rfl) (by rfl) ?_; clear HM; intro w HM; simp only [List.set_cons_zero, List.set_cons_succ] at HM))
  refine (heap_eq _ (.slice p1 4 c1) [1, 2, 3, 5] 2 0 0 (HM.sl (xs := [1, 2, 3, 5]) (.tail .head)) (by decide) (ys := [2, 5, 3]) (c := 1) (r := 1) rfl).mono ?_
  rintro e w ⟨p2, c2, rfl, ho, hb⟩
  replace HM := HM.got hb ho
  change Mem W _ (.row _ 3 1 3 (vals ([2, 5, 3])) :: _) w at HM
  clear ho hb
  go_wp2_with (first | (refine wpM_buildSliceK (e := 3) HM [.int .i64 1, .int .i64 2, .int .i64 3, .int .i64 5] rfl rfl (fun w' => by kernel_rfl) ?_; clear HM; intro b w HB HM; clear HB) | (refine wpM_storeAll HM rfl rfl rfl rfl (by repeat (first | exact Sel.head | apply Sel.tail)) (by rfl) (by kernel_rfl) (by rfl) ?_; clear HM; intro w HM) | (refine wpM_loadAll (ty := 26) HM rfl rfl rfl (by repeat (first | exact Sel.head | apply Sel.tail)) (by kernel_rfl) ?_) | (refine wpM_box HM rfl rfl rfl rfl ?_; clear HM; intro b w HB HM; clear HB) | (refine wpM_alloc HM rfl rfl zt_Answer rfl ?_; clear HM; intro b w HB HM; clear HB) | (refine wpM_load (ty := 3) HM rfl rfl rfl (by repeat (first | exact Sel.head | apply Sel.tail)) (by first | rfl | assumption) (by kernel_rfl) ?_) | (refine wpM_loadR (ty := 3) HM rfl rfl rfl (by repeat (first | exact Sel.head | apply Sel.tail)) (by first | rfl | assumption) (by kernel_rfl) ?_) | (refine wpM_store HM rfl rfl rfl (by (conv => lhs; whnf); try rfl) (by repeat (first | exact Sel.head | apply Sel.tail)) (by simp) (by kernel_rfl) (by rfl) ?_; clear HM; intro w HM; simp only [List.set_cons_zero, List.set_cons_succ] at HM))
  refine (equal_yes _ _ _ [1, 2, 3, 5] [1, 2, 3, 5] (HM.sl (xs := [1, 2, 3, 5]) (by repeat (first | exact Sel.head | apply Sel.tail))) (HM.blkSl [1, 2, 3, 5] .head (by decide)) rfl (by decide)).mono ?_
  rintro e w ⟨rfl, hb⟩
  replace HM := HM.call hb
  clear hb
  go_wp2_with (first | (refine wpM_buildSliceK (e := 3) HM [.int .i64 2, .int .i64 5, .int .i64 3] rfl rfl (fun w' => by kernel_rfl) ?_; clear HM; intro b w HB HM; clear HB) | (refine wpM_storeAll HM rfl rfl rfl rfl (by repeat (first | exact Sel.head | apply Sel.tail)) (by rfl) (by kernel_rfl) (by rfl) ?_; clear HM; intro w HM) | (refine wpM_loadAll (ty := 26) HM rfl rfl rfl (by repeat (first | exact Sel.head | apply Sel.tail)) (by kernel_rfl) ?_) | (refine wpM_box HM rfl rfl rfl rfl ?_; clear HM; intro b w HB HM; clear HB) | (refine wpM_alloc HM rfl rfl zt_Answer rfl ?_; clear HM; intro b w HB HM; clear HB) | (refine wpM_load (ty := 3) HM rfl rfl rfl (by repeat (first | exact Sel.head | apply Sel.tail)) (by first | rfl | assumption) (by kernel_rfl) ?_) | (refine wpM_loadR (ty := 3) HM rfl rfl rfl (by repeat (first | exact Sel.head | apply Sel.tail)) (by first | rfl | assumption) (by kernel_rfl) ?_) | (refine wpM_store HM rfl rfl rfl (by (conv => lhs; whnf); try rfl) (by repeat (first | exact Sel.head | apply Sel.tail)) (by simp) (by kernel_rfl) (by rfl) ?_; clear HM; intro w HM; simp only [List.set_cons_zero, List.set_cons_succ] at HM))
  refine (equal_yes _ _ _ [2, 5, 3] [2, 5, 3] (HM.sl (xs := [2, 5, 3]) (by repeat (first | exact Sel.head | apply Sel.tail))) (HM.blkSl [2, 5, 3] .head (by decide)) rfl (by decide)).mono ?_
  rintro e w ⟨rfl, hb⟩
  replace HM := HM.call hb
  clear hb
  go_wp2_with (first | (refine wpM_buildSliceK (e := 3) HM [.int .i64 1, .int .i64 1] rfl rfl (fun w' => by kernel_rfl) ?_; clear HM; intro b w HB HM; clear HB) | (refine wpM_storeAll HM rfl rfl rfl rfl (by repeat (first | exact Sel.head | apply Sel.tail)) (by rfl) (by kernel_rfl) (by rfl) ?_; clear HM; intro w HM) | (refine wpM_loadAll (ty := 26) HM rfl rfl rfl (by repeat (first | exact Sel.head | apply Sel.tail)) (by kernel_rfl) ?_) | (refine wpM_box HM rfl rfl rfl rfl ?_; clear HM; intro b w HB HM; clear HB) | (refine wpM_alloc HM rfl rfl zt_Answer rfl ?_; clear HM; intro b w HB HM; clear HB) | (refine wpM_load (ty := 3) HM rfl rfl rfl (by repeat (first | exact Sel.head | apply Sel.tail)) (by first | rfl | assumption) (by kernel_rfl) ?_) | (refine wpM_loadR (ty := 3) HM rfl rfl rfl (by repeat (first | exact Sel.head | apply Sel.tail)) (by first | rfl | assumption) (by kernel_rfl) ?_) | (refine wpM_store HM rfl rfl rfl (by (conv => lhs; whnf); try rfl) (by repeat (first | exact Sel.head | apply Sel.tail)) (by simp) (by kernel_rfl) (by rfl) ?_; clear HM; intro w HM; simp only [List.set_cons_zero, List.set_cons_succ] at HM))
  refine ((heap_right _ _ [1, 1] (HM.blkSl [1, 1] .head (by decide)))).mono ?_
  rintro e w ⟨rfl, hb⟩
  replace HM := HM.call hb
  clear hb
  go_wp2_with (first | (refine wpM_buildSliceK (e := 3) HM [.int .i64 2, .int .i64 1] rfl rfl (fun w' => by kernel_rfl) ?_; clear HM; intro b w HB HM; clear HB) | (refine wpM_storeAll HM rfl rfl rfl rfl (by repeat (first | exact Sel.head | apply Sel.tail)) (by rfl) (by kernel_rfl) (by rfl) ?_; clear HM; intro w HM) | (refine wpM_loadAll (ty := 26) HM rfl rfl rfl (by repeat (first | exact Sel.head | apply Sel.tail)) (by kernel_rfl) ?_) | (refine wpM_box HM rfl rfl rfl rfl ?_; clear HM; intro b w HB HM; clear HB) | (refine wpM_alloc HM rfl rfl zt_Answer rfl ?_; clear HM; intro b w HB HM; clear HB) | (refine wpM_load (ty := 3) HM rfl rfl rfl (by repeat (first | exact Sel.head | apply Sel.tail)) (by first | rfl | assumption) (by kernel_rfl) ?_) | (refine wpM_loadR (ty := 3) HM rfl rfl rfl (by repeat (first | exact Sel.head | apply Sel.tail)) (by first | rfl | assumption) (by kernel_rfl) ?_) | (refine wpM_store HM rfl rfl rfl (by (conv => lhs; whnf); try rfl) (by repeat (first | exact Sel.head | apply Sel.tail)) (by simp) (by kernel_rfl) (by rfl) ?_; clear HM; intro w HM; simp only [List.set_cons_zero, List.set_cons_succ] at HM))
  refine ((heap_right _ _ [2, 1] (HM.blkSl [2, 1] .head (by decide)))).mono ?_
  rintro e w ⟨rfl, hb⟩
  replace HM := HM.call hb
  clear hb
  go_wp2_with (first | (refine wpM_storeAll HM rfl rfl rfl rfl (by repeat (first | exact Sel.head | apply Sel.tail)) (by rfl) (by kernel_rfl) (by rfl) ?_; clear HM; intro w HM) | (refine wpM_loadAll (ty := 26) HM rfl rfl rfl (by repeat (first | exact Sel.head | apply Sel.tail)) (by kernel_rfl) ?_) | (refine wpM_box HM rfl rfl rfl rfl ?_; clear HM; intro b w HB HM; clear HB) | (refine wpM_alloc HM rfl rfl zt_Answer rfl ?_; clear HM; intro b w HB HM; clear HB) | (refine wpM_load (ty := 3) HM rfl rfl rfl (by repeat (first | exact Sel.head | apply Sel.tail)) (by first | rfl | assumption) (by kernel_rfl) ?_) | (refine wpM_loadR (ty := 3) HM rfl rfl rfl (by repeat (first | exact Sel.head | apply Sel.tail)) (by first | rfl | assumption) (by kernel_rfl) ?_) | (refine wpM_store HM rfl rfl rfl (by (conv => lhs; whnf); try rfl) (by repeat (first | exact Sel.head | apply Sel.tail)) (by simp) (by kernel_rfl) (by rfl) ?_; clear HM; intro w HM; simp only [List.set_cons_zero, List.set_cons_succ] at HM))
  go_ret
  exact ⟨rfl, HM.below⟩
end Go.Proofs.Ytpedkcpkdacnlaa
end
section
namespace Go.Proofs.Ytpedkcpkdacnlaa
open Go.RowKit
set_option linter.unusedVariables false
def u64s (c : List Int) : List Value := c.map (Value.int .u64)
theorem u64s_len (c : List Int) : (u64s c).length = c.length := by simp [u64s]
theorem u64s_get (c : List Int) (i : Nat) (x : Int) (h : c[i]? = some x) : (u64s c)[i]? = some (.int .u64 x) := by simp [u64s, h]
theorem u64s_set (c : List Int) (i : Nat) (x : Int) : (u64s c).set i (.int .u64 x) = u64s (c.set i x) := by simp [u64s, List.map_set]
theorem u64_in (x : Int) (h0 : 0 ≤ x) (h1 : x ≤ 18446744073709551615) : IntKind.u64.wrap x = x := by
  simp [IntKind.wrap, IntKind.signed, IntKind.bits]; omega
theorem zt_Cells : (Try.prog.info? 44).bind (·.zero) = some (.agg (u64s (List.replicate 17 0)).toArray) := by kernel_rfl
/-- The words of a list, the first i of its elements told. -/
def lstTo (l : List Int) (i : Nat) : List Int := (l.length : Int) :: (l.take i ++ List.replicate (16 - i) 0)
theorem lstTo_zero (l : List Int) : lstTo l 0 = (l.length : Int) :: List.replicate 16 0 := by simp [lstTo]
theorem lstTo_all (l : List Int) : lstTo l l.length = lstC l := by simp [lstTo, lstC]
theorem lstTo_len (l : List Int) (i : Nat) (h : i ≤ l.length) (hl : l.length ≤ 16) : (lstTo l i).length = 17 := by simp [lstTo]; omega
theorem lstTo_set (l : List Int) (i : Nat) (h : i < l.length) (hl : l.length ≤ 16) : (lstTo l i).set (i + 1) (l.getD i 0) = lstTo l (i + 1) := by
  unfold lstTo
  rw [List.set_cons_succ]
  congr 1
  have hi : (l.take i).length = i := by simp; omega
  rw [List.set_append_right _ _ (by omega), hi, Nat.sub_self]
  obtain ⟨m, hm⟩ : ∃ m, 16 - i = m + 1 := ⟨15 - i, by omega⟩
  rw [hm, List.replicate_succ, List.set_cons_zero, show 16 - (i + 1) = m by omega, List.take_succ_eq_append_getElem h, List.getD_eq_getElem?_getD, List.getElem?_eq_getElem h, List.append_assoc]
  rfl
set_option maxRecDepth 20000 in
set_option maxHeartbeats 4000000 in
theorem list_any (W : World) (l : List Int) (hl : l.length ≤ 6) (hr : InR l) :
    Calls Try.prog 53 #[.agg (u64s (lstC l)).toArray] W fun e w' => ∃ p c, e = .returned (.tuple #[.slice p l.length c, .bool true]) ∧ Own w' W.heap.size (.slice p l.length c) l ∧ Below W.heap.size W w' := by
  have HL : Hid ((u64s (lstC l))[0]? = some (.int .u64 l.length)) := Lib.hid (u64s_get _ _ _ rfl)
  have HM := Mem.start W
  have t0 : decide ((6 : Int) < (l.length : Int)) = false := by simp; omega
  have HC := Lib.hid (fun i (hi : i < 16) => u64s_get (lstC l) (i + 1) (l.getD i 0) (lstC_get l i hi (by omega)))
  have HR := Lib.hid hr
  have w0 : IntKind.i64.wrap (l.length : Int) = (l.length : Int) := IntWalk.i64_in _ (by omega)
  clear hr
  go_enter Try.func53, Try.ntmps53
  go_upto_region 3 with (first | (refine wpM_storeAll HM rfl rfl rfl rfl (by repeat (first | exact Sel.head | apply Sel.tail)) (by rfl) (by kernel_rfl) (by rfl) ?_; clear HM; intro w HM) | (refine wpM_box HM rfl rfl rfl rfl ?_; clear HM; intro b w HB HM; clear HB) | (refine wpM_alloc HM rfl rfl zt_Cells rfl ?_; clear HM; intro b w HB HM; clear HB) | (refine wpM_alloc HM rfl rfl zt_Answer rfl ?_; clear HM; intro b w HB HM; clear HB) | (refine wpM_load (ty := 3) HM rfl rfl rfl (by repeat (first | exact Sel.head | apply Sel.tail)) (by first | rfl | exact HL.out) (by kernel_rfl) ?_) | (refine wpM_loadR (ty := 3) HM rfl rfl rfl (by repeat (first | exact Sel.head | apply Sel.tail)) (by first | rfl | exact HL.out) (by kernel_rfl) ?_) | (refine wpM_load (ty := 42) HM rfl rfl rfl (by repeat (first | exact Sel.head | apply Sel.tail)) (by first | rfl | exact HL.out) (by kernel_rfl) ?_) | (refine wpM_loadR (ty := 42) HM rfl rfl rfl (by repeat (first | exact Sel.head | apply Sel.tail)) (by first | rfl | exact HL.out) (by kernel_rfl) ?_) | (refine wpM_store HM rfl rfl rfl (by (conv => lhs; whnf); try rfl) (by repeat (first | exact Sel.head | apply Sel.tail)) (by simp) (by kernel_rfl) (by rfl) ?_; clear HM; intro w HM; try simp only [List.set_cons_zero, List.set_cons_succ] at HM))
  replace HM := HM.nil 3 1
  go_wp2_with (first | (refine wpM_storeAll HM rfl rfl rfl rfl (by repeat (first | exact Sel.head | apply Sel.tail)) (by rfl) (by kernel_rfl) (by rfl) ?_; clear HM; intro w HM) | (refine wpM_box HM rfl rfl rfl rfl ?_; clear HM; intro b w HB HM; clear HB) | (refine wpM_alloc HM rfl rfl zt_Cells rfl ?_; clear HM; intro b w HB HM; clear HB) | (refine wpM_alloc HM rfl rfl zt_Answer rfl ?_; clear HM; intro b w HB HM; clear HB) | (refine wpM_load (ty := 3) HM rfl rfl rfl (by repeat (first | exact Sel.head | apply Sel.tail)) (by first | rfl | exact HL.out) (by kernel_rfl) ?_) | (refine wpM_loadR (ty := 3) HM rfl rfl rfl (by repeat (first | exact Sel.head | apply Sel.tail)) (by first | rfl | exact HL.out) (by kernel_rfl) ?_) | (refine wpM_load (ty := 42) HM rfl rfl rfl (by repeat (first | exact Sel.head | apply Sel.tail)) (by first | rfl | exact HL.out) (by kernel_rfl) ?_) | (refine wpM_loadR (ty := 42) HM rfl rfl rfl (by repeat (first | exact Sel.head | apply Sel.tail)) (by first | rfl | exact HL.out) (by kernel_rfl) ?_) | (refine wpM_store HM rfl rfl rfl (by (conv => lhs; whnf); try rfl) (by repeat (first | exact Sel.head | apply Sel.tail)) (by simp) (by kernel_rfl) (by rfl) ?_; clear HM; intro w HM; try simp only [List.set_cons_zero, List.set_cons_succ] at HM))
  go_loopw [4, 13] (fun sv iv wr => ∃ (i n c : Nat) (p : Option Addr), i ≤ 16 ∧ iv = .int .i64 i ∧ sv = .slice p n c ∧ n = (l.take i).length ∧ Mem W (fun _ => False) [.row (.slice p n c) 3 1 n (vals (l.take i)), .blk b (u64s (lstC l)) 44] wr) (fun _ iv _ => 16 - (intOf iv).toNat)
  case atStart => exact ⟨0, 0, 0, none, by omega, rfl, rfl, by simp, HM⟩
  case round =>
    clear HM
    obtain ⟨i, n, c, p, hi, rfl, rfl, hn, HM⟩ := hrel
    have HN := Lib.hid hn
    have hnl : n ≤ 6 := by rw [hn]; simp; omega
    clear hn
    by_cases hlt : i < 16
    · have HCI := Lib.hid (HC.out i hlt)
      have a1 : 1 + i = i + 1 := Nat.add_comm 1 i
      by_cases hin : i < l.length
      · obtain ⟨z, hz⟩ : ∃ z, l.getD i 0 = z := ⟨_, rfl⟩
        have hzr := HR.out.get i hin
        rw [hz] at hzr
        replace HCI : Hid ((u64s (lstC l))[i + 1]? = some (.int .u64 z)) := Lib.hid (by rw [← hz]; exact HCI.out)
        have HZ := Lib.hid hz
        clear hz
        obtain ⟨z0, z1⟩ := hzr
        have t1 : decide ((i : Int) < (l.length : Int)) = true := by simp; omega
        have t2 : decide ((4294967295 : Int) < z) = false := by simp; omega
        have w1 : IntKind.i64.wrap z = z := IntWalk.i64_in _ (by omega)
        go_wp2_with (first | (refine wpM_buildSlice1 (e := 3) (size := 1) (z := .int .i64 0) HM rfl rfl (by (conv => lhs; whnf); try rfl) (by rfl) Try.underlying22 (by kernel_rfl) (by kernel_rfl) (by rfl) (by rfl) (by decide) (by decide) ?_; clear HM; intro b w HB HM; clear HB) | (refine wpM_append (e := 3) (sz := 1) (bytes := 8) (z := .int .i64 0) HM rfl rfl rfl Try.underlying22 (by kernel_rfl) (by kernel_rfl) (by rfl) (by decide) rfl rfl (by repeat (first | exact Sel.head | apply Sel.tail)) (by simp) (by simp [Value.oneCell']) (by omega) (by omega) ?_; clear HM; intro p1 c1 w HC1 HC2 HM) | (refine wpM_storeAll HM rfl rfl rfl rfl (by repeat (first | exact Sel.head | apply Sel.tail)) (by rfl) (by kernel_rfl) (by rfl) ?_; clear HM; intro w HM) | (refine wpM_box HM rfl rfl rfl rfl ?_; clear HM; intro b w HB HM; clear HB) | (refine wpM_alloc HM rfl rfl zt_Cells rfl ?_; clear HM; intro b w HB HM; clear HB) | (refine wpM_alloc HM rfl rfl zt_Answer rfl ?_; clear HM; intro b w HB HM; clear HB) | (refine wpM_load (ty := 3) HM rfl rfl rfl (by repeat (first | exact Sel.head | apply Sel.tail)) (by first | rfl | exact HL.out | exact HCI.out) (by kernel_rfl) ?_) | (refine wpM_loadR (ty := 3) HM rfl rfl rfl (by repeat (first | exact Sel.head | apply Sel.tail)) (by first | rfl | exact HL.out | exact HCI.out) (by kernel_rfl) ?_) | (refine wpM_load (ty := 42) HM rfl rfl rfl (by repeat (first | exact Sel.head | apply Sel.tail)) (by first | rfl | exact HL.out | exact HCI.out) (by kernel_rfl) ?_) | (refine wpM_loadR (ty := 42) HM rfl rfl rfl (by repeat (first | exact Sel.head | apply Sel.tail)) (by first | rfl | exact HL.out | exact HCI.out) (by kernel_rfl) ?_) | (refine wpM_store HM rfl rfl rfl (by (conv => lhs; whnf); try rfl) (by repeat (first | exact Sel.head | apply Sel.tail)) (by simp) (by kernel_rfl) (by rfl) ?_; clear HM; intro w HM; try simp only [List.set_cons_zero, List.set_cons_succ] at HM))
        go_roundw
        case rel => exact ⟨i + 1, n + 1, c1, p1, by omega, by go_num, rfl, by rw [HN.out]; simp; omega, by
          have e : vals (l.take i) ++ [.int .i64 z] = vals (l.take (i + 1)) := by
            rw [vals_snoc, List.take_succ_eq_append_getElem hin, ← HZ.out, List.getD_eq_getElem?_getD, List.getElem?_eq_getElem hin]; rfl
          rw [e] at HM; exact HM⟩
        case measure => simp [intOf]; omega
      · have hz : l.getD i 0 = 0 := by rw [List.getD_eq_getElem?_getD, List.getElem?_eq_none (by omega)]; rfl
        replace HCI : Hid ((u64s (lstC l))[i + 1]? = some (.int .u64 0)) := Lib.hid (by rw [← hz]; exact HCI.out)
        clear hz
        have t1 : decide ((i : Int) < (l.length : Int)) = false := by simp; omega
        go_wp2_with (first | (refine wpM_storeAll HM rfl rfl rfl rfl (by repeat (first | exact Sel.head | apply Sel.tail)) (by rfl) (by kernel_rfl) (by rfl) ?_; clear HM; intro w HM) | (refine wpM_box HM rfl rfl rfl rfl ?_; clear HM; intro b w HB HM; clear HB) | (refine wpM_alloc HM rfl rfl zt_Cells rfl ?_; clear HM; intro b w HB HM; clear HB) | (refine wpM_alloc HM rfl rfl zt_Answer rfl ?_; clear HM; intro b w HB HM; clear HB) | (refine wpM_load (ty := 3) HM rfl rfl rfl (by repeat (first | exact Sel.head | apply Sel.tail)) (by first | rfl | exact HL.out | exact HCI.out) (by kernel_rfl) ?_) | (refine wpM_loadR (ty := 3) HM rfl rfl rfl (by repeat (first | exact Sel.head | apply Sel.tail)) (by first | rfl | exact HL.out | exact HCI.out) (by kernel_rfl) ?_) | (refine wpM_load (ty := 42) HM rfl rfl rfl (by repeat (first | exact Sel.head | apply Sel.tail)) (by first | rfl | exact HL.out | exact HCI.out) (by kernel_rfl) ?_) | (refine wpM_loadR (ty := 42) HM rfl rfl rfl (by repeat (first | exact Sel.head | apply Sel.tail)) (by first | rfl | exact HL.out | exact HCI.out) (by kernel_rfl) ?_) | (refine wpM_store HM rfl rfl rfl (by (conv => lhs; whnf); try rfl) (by repeat (first | exact Sel.head | apply Sel.tail)) (by simp) (by kernel_rfl) (by rfl) ?_; clear HM; intro w HM; try simp only [List.set_cons_zero, List.set_cons_succ] at HM))
        go_roundw
        case rel => exact ⟨i + 1, n, c, p, by omega, by go_num, rfl, by rw [HN.out, List.take_of_length_le (by omega), List.take_of_length_le (by omega)], by
          have e : l.take i = l.take (i + 1) := by rw [List.take_of_length_le (by omega), List.take_of_length_le (by omega)]
          rw [e] at HM; exact HM⟩
        case measure => simp [intOf]; omega
    · obtain rfl : i = 16 := by omega
      go_wp2_with (first | (refine wpM_storeAll HM rfl rfl rfl rfl (by repeat (first | exact Sel.head | apply Sel.tail)) (by rfl) (by kernel_rfl) (by rfl) ?_; clear HM; intro w HM) | (refine wpM_box HM rfl rfl rfl rfl ?_; clear HM; intro b w HB HM; clear HB) | (refine wpM_alloc HM rfl rfl zt_Cells rfl ?_; clear HM; intro b w HB HM; clear HB) | (refine wpM_alloc HM rfl rfl zt_Answer rfl ?_; clear HM; intro b w HB HM; clear HB) | (refine wpM_load (ty := 3) HM rfl rfl rfl (by repeat (first | exact Sel.head | apply Sel.tail)) (by first | rfl | assumption) (by kernel_rfl) ?_) | (refine wpM_loadR (ty := 3) HM rfl rfl rfl (by repeat (first | exact Sel.head | apply Sel.tail)) (by first | rfl | assumption) (by kernel_rfl) ?_) | (refine wpM_load (ty := 42) HM rfl rfl rfl (by repeat (first | exact Sel.head | apply Sel.tail)) (by first | rfl | assumption) (by kernel_rfl) ?_) | (refine wpM_loadR (ty := 42) HM rfl rfl rfl (by repeat (first | exact Sel.head | apply Sel.tail)) (by first | rfl | assumption) (by kernel_rfl) ?_) | (refine wpM_store HM rfl rfl rfl (by (conv => lhs; whnf); try rfl) (by repeat (first | exact Sel.head | apply Sel.tail)) (by simp) (by kernel_rfl) (by rfl) ?_; clear HM; intro w HM; try simp only [List.set_cons_zero, List.set_cons_succ] at HM))
      go_ret2
      have hn2 : n = l.length := by rw [HN.out, List.take_of_length_le (by omega)]
      subst hn2
      refine ⟨p, c, rfl, ?_, HM.below⟩
      have := HM.gives .head (fun _ _ h => h)
      rw [List.take_of_length_le (by omega)] at this
      exact this
set_option maxRecDepth 20000 in
set_option maxHeartbeats 4000000 in
theorem listed_any (W : World) (v : Value) (l : List Int) (h : Sl W v l) (hl : l.length ≤ 6) (hr : InR l) :
    Calls Try.prog 54 #[v] W fun e w' => e = .returned (.agg (u64s (lstC l)).toArray) ∧ Below W.heap.size W w' := by
  obtain ⟨a, cap, rfl, h1, h2, h3⟩ := h
  have H3 := Lib.hid h3
  have HR := Lib.hid hr
  clear h3 hr
  have HM := Mem.start W
  have hu0 : IntKind.u64.wrap (l.length : Int) = (l.length : Int) := u64_in _ (by omega) (by omega)
  go_enter Try.func54, Try.ntmps54
  go_wp2_with (first | (refine wpM_storeAll HM rfl rfl rfl rfl (by repeat (first | exact Sel.head | apply Sel.tail)) (by rfl) (by kernel_rfl) (by rfl) ?_; clear HM; intro w HM) | (refine wpM_box HM rfl rfl rfl rfl ?_; clear HM; intro b w HB HM; clear HB) | (refine wpM_alloc HM rfl rfl zt_Cells rfl ?_; clear HM; intro b w HB HM; clear HB) | (refine wpM_alloc HM rfl rfl zt_Answer rfl ?_; clear HM; intro b w HB HM; clear HB) | (refine wpM_load (ty := 3) HM rfl rfl rfl (by repeat (first | exact Sel.head | apply Sel.tail)) (by first | rfl | assumption) (by kernel_rfl) ?_) | (refine wpM_loadR (ty := 3) HM rfl rfl rfl (by repeat (first | exact Sel.head | apply Sel.tail)) (by first | rfl | assumption) (by kernel_rfl) ?_) | (refine wpM_load (ty := 42) HM rfl rfl rfl (by repeat (first | exact Sel.head | apply Sel.tail)) (by first | rfl | assumption) (by kernel_rfl) ?_) | (refine wpM_loadR (ty := 42) HM rfl rfl rfl (by repeat (first | exact Sel.head | apply Sel.tail)) (by first | rfl | assumption) (by kernel_rfl) ?_) | (refine wpM_store HM rfl rfl rfl (by (conv => lhs; whnf); try rfl) (by repeat (first | exact Sel.head | apply Sel.tail)) (by simp) (by kernel_rfl) (by rfl) ?_; clear HM; intro w HM; try simp only [List.set_cons_zero, List.set_cons_succ] at HM))
  change Mem W _ [.blk b (u64s ((l.length : Int) :: List.replicate 16 0)) 44, .blk _ (u64s (List.replicate 17 0)) 44] w at HM
  rw [← lstTo_zero] at HM
  go_loopw [12] (fun iv wr => ∃ i : Nat, i ≤ l.length ∧ iv = .int .i64 i ∧ Mem W (fun _ => False) [.blk b (u64s (lstTo l i)) 44, .blk _ (u64s (List.replicate 17 0)) 44] wr) (fun iv _ => l.length - (intOf iv).toNat)
  case atStart => exact ⟨0, by omega, rfl, HM⟩
  case round =>
    clear HM
    obtain ⟨i, hi, rfl, HM⟩ := hrel
    by_cases hlt : i < l.length
    · obtain ⟨b1, off, rfl, hbl, hc⟩ : ∃ b off, a = some ⟨b, off, none⟩ ∧ b < W.heap.size ∧ ∀ j, j < l.length → W.cell? ⟨b, off + j, none⟩ = some (.int .i64 (l.getD j 0)) := by
        rcases H3.out with h | h
        · omega
        · exact h
      have cj := hc i hlt
      have hzr := HR.out.get i hlt
      have hset := lstTo_set l i hlt (by omega)
      have HLEN : Hid (i + 1 < (u64s (lstTo l i)).length) := Lib.hid (by rw [u64s_len, lstTo_len l i hi (by omega)]; omega)
      generalize l.getD i 0 = z at *
      have CJ := Lib.hid cj
      have HSET := Lib.hid hset
      obtain ⟨z0, z1⟩ := hzr
      have hu1 : IntKind.u64.wrap z = z := u64_in _ z0 (by omega)
      have hw1 : IntKind.i64.wrap ((i : Int) + 1) = (i : Int) + 1 := IntWalk.i64_in _ (by omega)
      have hn1 : ((i : Int) + 1).toNat = i + 1 := by omega
      clear cj hc hset
      go_wp2_with (first | (refine wpM_loadOld (ty := 3) HM rfl rfl rfl (by exact CJ.out) (fun h => h.elim) (by kernel_rfl) ?_) | (refine wpM_storeAll HM rfl rfl rfl rfl (by repeat (first | exact Sel.head | apply Sel.tail)) (by rfl) (by kernel_rfl) (by rfl) ?_; clear HM; intro w HM) | (refine wpM_box HM rfl rfl rfl rfl ?_; clear HM; intro b w HB HM; clear HB) | (refine wpM_alloc HM rfl rfl zt_Cells rfl ?_; clear HM; intro b w HB HM; clear HB) | (refine wpM_alloc HM rfl rfl zt_Answer rfl ?_; clear HM; intro b w HB HM; clear HB) | (refine wpM_load (ty := 3) HM rfl rfl rfl (by repeat (first | exact Sel.head | apply Sel.tail)) (by first | rfl | assumption) (by kernel_rfl) ?_) | (refine wpM_loadR (ty := 3) HM rfl rfl rfl (by repeat (first | exact Sel.head | apply Sel.tail)) (by first | rfl | assumption) (by kernel_rfl) ?_) | (refine wpM_load (ty := 42) HM rfl rfl rfl (by repeat (first | exact Sel.head | apply Sel.tail)) (by first | rfl | assumption) (by kernel_rfl) ?_) | (refine wpM_loadR (ty := 42) HM rfl rfl rfl (by repeat (first | exact Sel.head | apply Sel.tail)) (by first | rfl | assumption) (by kernel_rfl) ?_) | (refine wpM_store HM rfl rfl rfl (by (conv => lhs; whnf); try rfl) (by repeat (first | exact Sel.head | apply Sel.tail)) (by exact HLEN.out) (by kernel_rfl) (by rfl) ?_; clear HM; intro w HM; try simp only [List.set_cons_zero, List.set_cons_succ] at HM))
      rw [u64s_set, HSET.out] at HM
      go_roundw
      case rel => exact ⟨i + 1, by omega, by go_num, HM⟩
      case measure => simp [intOf]; omega
    · obtain rfl : i = l.length := by omega
      rw [lstTo_all] at HM
      have HL17 : Hid ((u64s (lstC l)).length = 17) := Lib.hid (by rw [u64s_len, lstC_len l (by omega)])
      have HAB : Hid (aggB Try.prog 44 17 = true) := Lib.hid (by kernel_rfl)
      have HALL : Hid ((u64s (lstC l)).all Value.oneCell' = true) := Lib.hid (by simp [u64s, Value.oneCell'])
      go_wp2_with (first | (refine wpM_loadAll (ty := 44) HM rfl rfl rfl (by repeat (first | exact Sel.head | apply Sel.tail)) (by rw [HL17.out]; exact HAB.out) ?_) | (refine wpM_storeAll HM rfl rfl rfl rfl (by repeat (first | exact Sel.head | apply Sel.tail)) (by rw [HL17.out]; rfl) (by rw [HL17.out]; exact HAB.out) (by exact HALL.out) ?_; clear HM; intro w HM) | (refine wpM_storeAll HM rfl rfl rfl rfl (by repeat (first | exact Sel.head | apply Sel.tail)) (by rfl) (by kernel_rfl) (by rfl) ?_; clear HM; intro w HM) | (refine wpM_box HM rfl rfl rfl rfl ?_; clear HM; intro b w HB HM; clear HB) | (refine wpM_alloc HM rfl rfl zt_Cells rfl ?_; clear HM; intro b w HB HM; clear HB) | (refine wpM_alloc HM rfl rfl zt_Answer rfl ?_; clear HM; intro b w HB HM; clear HB) | (refine wpM_load (ty := 3) HM rfl rfl rfl (by repeat (first | exact Sel.head | apply Sel.tail)) (by first | rfl | assumption) (by kernel_rfl) ?_) | (refine wpM_loadR (ty := 3) HM rfl rfl rfl (by repeat (first | exact Sel.head | apply Sel.tail)) (by first | rfl | assumption) (by kernel_rfl) ?_) | (refine wpM_load (ty := 42) HM rfl rfl rfl (by repeat (first | exact Sel.head | apply Sel.tail)) (by first | rfl | assumption) (by kernel_rfl) ?_) | (refine wpM_loadR (ty := 42) HM rfl rfl rfl (by repeat (first | exact Sel.head | apply Sel.tail)) (by first | rfl | assumption) (by kernel_rfl) ?_) | (refine wpM_store HM rfl rfl rfl (by (conv => lhs; whnf); try rfl) (by repeat (first | exact Sel.head | apply Sel.tail)) (by simp) (by kernel_rfl) (by rfl) ?_; clear HM; intro w HM; try simp only [List.set_cons_zero, List.set_cons_succ] at HM))
      exact bodyPost_ret (v := .agg (u64s (lstC l)).toArray) (resM_c HM rfl (by rfl) (by repeat (first | exact Sel.head | apply Sel.tail)) (by rw [HL17.out]; exact HAB.out)) rfl ⟨rfl, HM.below⟩
end Go.Proofs.Ytpedkcpkdacnlaa
end
section
namespace Go.Proofs.Ytpedkcpkdacnlaa
open Go.RowKit
set_option linter.unusedVariables false
theorem zt_Slots : (Try.prog.info? 69).bind (·.zero) = some (.agg (tcells (List.replicate 16 0)).toArray) := by kernel_rfl
def slTo (t : List Int) (i : Nat) : List Int := t.take (i * 2) ++ List.replicate (16 - i * 2) 0
theorem slTo_len (t : List Int) (i : Nat) (ht : t.length = 16) (hi : i ≤ 8) : (slTo t i).length = 16 := by simp [slTo]; omega
theorem slTo_step (t : List Int) (i : Nat) (ht : t.length = 16) (hi : i < 8) : spl (tcells (slTo t i)) (i * 2) [.int .i64 (tk t i), .int .i64 (tv t i)] = tcells (slTo t (i + 1)) := by
  unfold spl tcells
  rw [← List.map_take, ← List.map_drop]
  have e : ([.int .i64 (tk t i), .int .i64 (tv t i)] : List Value) = [tk t i, tv t i].map (Value.int .i64) := rfl
  rw [e, ← List.map_append, ← List.map_append]
  congr 1
  unfold slTo
  have h1 : (t.take (i * 2)).length = i * 2 := by simp; omega
  rw [List.take_append_of_le_length (by omega), List.take_of_length_le (by omega)]
  rw [List.drop_append]
  rw [List.drop_of_length_le (by simp; omega), List.nil_append, List.drop_replicate, h1]
  rw [show (i + 1) * 2 = i * 2 + 1 + 1 by omega, List.take_succ_eq_append_getElem (by omega), List.take_succ_eq_append_getElem (by omega)]
  simp only [List.append_assoc, List.cons_append, List.nil_append]
  have a1 : tk t i = t[i * 2]'(by omega) := by unfold tk; rw [List.getD_eq_getElem?_getD, List.getElem?_eq_getElem (by omega)]; rfl
  have a2 : tv t i = t[i * 2 + 1]'(by omega) := by unfold tv; rw [List.getD_eq_getElem?_getD, List.getElem?_eq_getElem (by omega)]; rfl
  rw [a1, a2]
  congr 3
  have h2 : (List.map (Value.int .i64) [t[i * 2]'(by omega), t[i * 2 + 1]'(by omega)]).length = 2 := rfl
  rw [h2]
  congr 1
  omega
theorem tcells_all (t : List Int) : ∀ v ∈ tcells t, v.oneCell' = true := by
  intro v hv; simp only [tcells, List.mem_map] at hv; obtain ⟨x, -, rfl⟩ := hv; rfl
set_option maxRecDepth 20000 in
set_option maxHeartbeats 4000000 in
theorem slots_any (W : World) (t : List Int) (g : Good t) :
    Calls Try.prog 50 #[.agg (u64s (t ++ [0])).toArray] W fun e w' => e = .returned (.tuple #[.agg (tcells t).toArray, .bool true]) ∧ Below W.heap.size W w' := by
  have HG := Lib.hid g
  have HM := Mem.start W
  have HCK : Hid (∀ i, i < 8 → (u64s (t ++ [0]))[i * 2]? = some (.int .u64 (tk t i)) ∧ (u64s (t ++ [0]))[i * 2 + 1]? = some (.int .u64 (tv t i))) := Lib.hid (fun i hi => by
    have hl := g.len
    refine ⟨u64s_get _ _ _ ?_, u64s_get _ _ _ ?_⟩
    · rw [List.getElem?_append_left (by omega), List.getElem?_eq_getElem (by omega)]; unfold tk; rw [List.getD_eq_getElem?_getD, List.getElem?_eq_getElem (by omega)]; rfl
    · rw [List.getElem?_append_left (by omega), List.getElem?_eq_getElem (by omega)]; unfold tv; rw [List.getD_eq_getElem?_getD, List.getElem?_eq_getElem (by omega)]; rfl)
  have HC16 : Hid ((u64s (t ++ [0]))[16]? = some (.int .u64 0)) := Lib.hid (u64s_get _ _ _ (by rw [List.getElem?_append_right (by have := g.len; omega), g.len]; rfl))
  have HRB : Hid (rightB t = true) := Lib.hid ((rightB_iff t g.len (fun j hj => ⟨g.key0 j hj, g.key1 j hj⟩)).2 g)
  clear g
  go_enter Try.func50, Try.ntmps50
  go_wp2_with (first | (refine wpM_storeAll HM rfl rfl rfl rfl (by repeat (first | exact Sel.head | apply Sel.tail)) (by rfl) (by kernel_rfl) (by rfl) ?_; clear HM; intro w HM) | (refine wpM_box (o := ⟨some 1, _, _, _, _, _⟩) HM rfl rfl rfl rfl ?_; clear HM; intro bC w HB HM; clear HB) | (refine wpM_alloc (o := ⟨some 2, _, _, _, _, _⟩) HM rfl rfl zt_Slots rfl ?_; clear HM; intro bR w HB HM; clear HB) | (refine wpM_alloc (o := ⟨some 4, _, _, _, _, _⟩) HM rfl rfl zt_Slots rfl ?_; clear HM; intro bT w HB HM; clear HB) | (refine wpM_box HM rfl rfl rfl rfl ?_; clear HM; intro b w HB HM; clear HB) | (refine wpM_alloc HM rfl rfl zt_Cells rfl ?_; clear HM; intro b w HB HM; clear HB) | (refine wpM_alloc HM rfl rfl zt_Answer rfl ?_; clear HM; intro b w HB HM; clear HB) | (refine wpM_alloc HM rfl rfl zt_Slots rfl ?_; clear HM; intro b w HB HM; clear HB) | (refine wpM_load (ty := 3) HM rfl rfl rfl (by repeat (first | exact Sel.head | apply Sel.tail)) (by first | rfl | assumption) (by kernel_rfl) ?_) | (refine wpM_loadR (ty := 3) HM rfl rfl rfl (by repeat (first | exact Sel.head | apply Sel.tail)) (by first | rfl | assumption) (by kernel_rfl) ?_) | (refine wpM_load (ty := 42) HM rfl rfl rfl (by repeat (first | exact Sel.head | apply Sel.tail)) (by first | rfl | assumption) (by kernel_rfl) ?_) | (refine wpM_loadR (ty := 42) HM rfl rfl rfl (by repeat (first | exact Sel.head | apply Sel.tail)) (by first | rfl | assumption) (by kernel_rfl) ?_) | (refine wpM_store HM rfl rfl rfl (by (conv => lhs; whnf); try rfl) (by repeat (first | exact Sel.head | apply Sel.tail)) (by simp) (by kernel_rfl) (by rfl) ?_; clear HM; intro w HM; try simp only [List.set_cons_zero, List.set_cons_succ] at HM))
  go_loopw [6] (fun iv wr => ∃ i : Nat, i ≤ 8 ∧ iv = .int .i64 i ∧ Mem W (fun _ => False) [.blk bT (tcells (slTo t i)) 69, .blk bR (tcells (List.replicate 16 0)) 69, .blk bC (u64s (t ++ [0])) 44] wr) (fun iv _ => 8 - (intOf iv).toNat)
  case atStart => exact ⟨0, by omega, rfl, HM⟩
  case round =>
    clear HM
    obtain ⟨i, hi, rfl, HM⟩ := hrel
    by_cases hlt : i < 8
    · have k0 := HG.out.key0 i hlt
      have k1 := HG.out.key1 i hlt
      have v0 := HG.out.val0 i hlt
      have v1 := HG.out.val1 i hlt
      have hst := slTo_step t i HG.out.len hlt
      obtain ⟨c1, c2⟩ := HCK.out i hlt
      have HC1 := Lib.hid c1
      have HC2 := Lib.hid c2
      have HST := Lib.hid hst
      have HLN : Hid (i * 2 + 2 ≤ (tcells (slTo t i)).length) := Lib.hid (by rw [tcells_len, slTo_len t i HG.out.len hi]; omega)
      generalize tk t i = x at *
      generalize tv t i = y at *
      have t1 : decide ((1000 : Int) < x) = false := by simp; omega
      have t2 : decide ((4294967295 : Int) < y) = false := by simp; omega
      have w1 : IntKind.i64.wrap x = x := IntWalk.i64_in _ (by omega)
      have w2 : IntKind.i64.wrap y = y := IntWalk.i64_in _ (by omega)
      have w3 : IntKind.i64.wrap (2 * (i : Int)) = 2 * (i : Int) := IntWalk.i64_in _ (by omega)
      have w4 : IntKind.i64.wrap (2 * (i : Int) + 1) = 2 * (i : Int) + 1 := IntWalk.i64_in _ (by omega)
      have n1 : (2 * (i : Int)).toNat = i * 2 := by omega
      have n2 : (2 * (i : Int) + 1).toNat = i * 2 + 1 := by omega
      have q1 : 0 ≤ 2 * (i : Int) ∧ 2 * (i : Int) < 17 := by omega
      have q2 : 0 ≤ 2 * (i : Int) + 1 ∧ 2 * (i : Int) + 1 < 17 := by omega
      have q3 : 0 ≤ (i : Int) ∧ (i : Int) < 8 := by omega
      have w5 : IntKind.i64.wrap (i : Int) = (i : Int) := IntWalk.i64_in _ (by omega)
      clear c1 c2 hst
      go_upto_region 7 with (first | (refine wpM_storeAll HM rfl rfl rfl rfl (by repeat (first | exact Sel.head | apply Sel.tail)) (by rfl) (by kernel_rfl) (by rfl) ?_; clear HM; intro w HM) | (refine wpM_box HM rfl rfl rfl rfl ?_; clear HM; intro b w HB HM; clear HB) | (refine wpM_alloc HM rfl rfl zt_Cells rfl ?_; clear HM; intro b w HB HM; clear HB) | (refine wpM_alloc HM rfl rfl zt_Answer rfl ?_; clear HM; intro b w HB HM; clear HB) | (refine wpM_alloc HM rfl rfl zt_Slots rfl ?_; clear HM; intro b w HB HM; clear HB) | (refine wpM_load (ty := 3) HM rfl rfl rfl (by repeat (first | exact Sel.head | apply Sel.tail)) (by first | rfl | exact HC1.out | exact HC2.out) (by kernel_rfl) ?_) | (refine wpM_loadR (ty := 3) HM rfl rfl rfl (by repeat (first | exact Sel.head | apply Sel.tail)) (by first | rfl | exact HC1.out | exact HC2.out) (by kernel_rfl) ?_) | (refine wpM_load (ty := 42) HM rfl rfl rfl (by repeat (first | exact Sel.head | apply Sel.tail)) (by first | rfl | exact HC1.out | exact HC2.out) (by kernel_rfl) ?_) | (refine wpM_loadR (ty := 42) HM rfl rfl rfl (by repeat (first | exact Sel.head | apply Sel.tail)) (by first | rfl | exact HC1.out | exact HC2.out) (by kernel_rfl) ?_) | (refine wpM_store HM rfl rfl rfl (by (conv => lhs; whnf); try rfl) (by repeat (first | exact Sel.head | apply Sel.tail)) (by simp) (by kernel_rfl) (by rfl) ?_; clear HM; intro w HM; try simp only [List.set_cons_zero, List.set_cons_succ] at HM))
      refine wp_region_M HM (fun ix => match ix with | 0 => [.blk bT (tcells (slTo t i)) 69, .blk bR (tcells (List.replicate 16 0)) 69, .blk bC (u64s (t ++ [0])) 44] | _ => [.blk bT (spl (tcells (slTo t i)) (i * 2) [.int .i64 x, .int .i64 y]) 69, .blk bR (tcells (List.replicate 16 0)) 69, .blk bC (u64s (t ++ [0])) 44]) rfl (by kernel_rfl) (by kernel_rfl) ?_
      refine wpB_pure (v := ?v1) (by kernel_rfl) (by kernel_rfl) (fun w' => ?h1) (fun K hK => ?k1)
      case h1 =>
        go_simp
        try rfl
      go_simp
      refine hK _ ?_
      clear hK K
      refine wpB_pure (v := ?v2) (by kernel_rfl) (by kernel_rfl) (fun w' => ?h2) (fun K hK => ?k2)
      case h2 =>
        go_simp
        try rfl
      go_simp
      refine hK _ ?_
      clear hK K
      refine wpB_pure (v := ?v3) (by kernel_rfl) (by kernel_rfl) (fun w' => ?h3) (fun K hK => ?k3)
      case h3 =>
        go_simp
        try rfl
      go_simp
      refine hK _ ?_
      clear hK K
      refine wpB_pure (v := ?v4) (by kernel_rfl) (by kernel_rfl) (fun w' => ?h4) (fun K hK => ?k4)
      case h4 =>
        go_simp
        try rfl
      go_simp
      refine hK _ ?_
      clear hK K
      (refine wpB_loadM (by kernel_rfl) (by kernel_rfl) (by kernel_rfl) rfl rfl (by repeat (first | exact Sel.head | apply Sel.tail)) (HC1.out) (by kernel_rfl) (fun K hK => ?_))
      go_simp
      refine hK _ ?_
      clear hK K
      refine wpB_pure (v := ?v5) (by kernel_rfl) (by kernel_rfl) (fun w' => ?h5) (fun K hK => ?k5)
      case h5 =>
        go_simp
        try rfl
      go_simp
      refine hK _ ?_
      clear hK K
      refine wpB_pure (v := ?v6) (by kernel_rfl) (by kernel_rfl) (fun w' => ?h6) (fun K hK => ?k6)
      case h6 =>
        go_simp
        try rfl
      go_simp
      refine hK _ ?_
      clear hK K
      refine wpB_pure (v := ?v7) (by kernel_rfl) (by kernel_rfl) (fun w' => ?h7) (fun K hK => ?k7)
      case h7 =>
        go_simp
        try rfl
      go_simp
      refine hK _ ?_
      clear hK K
      refine wpB_pure (v := ?v8) (by kernel_rfl) (by kernel_rfl) (fun w' => ?h8) (fun K hK => ?k8)
      case h8 =>
        go_simp
        try rfl
      go_simp
      refine hK _ ?_
      clear hK K
      refine wpB_pure (v := ?v9) (by kernel_rfl) (by kernel_rfl) (fun w' => ?h9) (fun K hK => ?k9)
      case h9 =>
        go_simp
        try rfl
      go_simp
      refine hK _ ?_
      clear hK K
      (refine wpB_loadM (by kernel_rfl) (by kernel_rfl) (by kernel_rfl) rfl rfl (by repeat (first | exact Sel.head | apply Sel.tail)) (HC2.out) (by kernel_rfl) (fun K hK => ?_))
      go_simp
      refine hK _ ?_
      clear hK K
      refine wpB_pure (v := ?v10) (by kernel_rfl) (by kernel_rfl) (fun w' => ?h10) (fun K hK => ?k10)
      case h10 =>
        go_simp
        try rfl
      go_simp
      refine hK _ ?_
      clear hK K
      refine wpB_pure (v := ?v11) (by kernel_rfl) (by kernel_rfl) (fun w' => ?h11) (fun K hK => ?k11)
      case h11 =>
        go_simp
        try rfl
      go_simp
      refine hK _ ?_
      clear hK K
      refine wpB_pure (v := ?v12) (by kernel_rfl) (by kernel_rfl) (fun w' => ?h12) (fun K hK => ?k12)
      case h12 =>
        go_simp
        try rfl
      go_simp
      refine hK _ ?_
      clear hK K
      (refine wpB_storeMA (by kernel_rfl) (by kernel_rfl) rfl rfl rfl (by repeat (first | exact Sel.head | apply Sel.tail)) (by rfl) (HLN.out) (by kernel_rfl) (two_ints _ _) rfl (fun K hK => ?_))
      go_simp
      refine hK _ ?_
      clear hK K
      refine wpB_nil (fun w HM => ?_)
      go_wp2_with (first | (refine wpM_storeAll HM rfl rfl rfl rfl (by repeat (first | exact Sel.head | apply Sel.tail)) (by rfl) (by kernel_rfl) (by rfl) ?_; clear HM; intro w HM) | (refine wpM_box HM rfl rfl rfl rfl ?_; clear HM; intro b w HB HM; clear HB) | (refine wpM_alloc HM rfl rfl zt_Cells rfl ?_; clear HM; intro b w HB HM; clear HB) | (refine wpM_alloc HM rfl rfl zt_Answer rfl ?_; clear HM; intro b w HB HM; clear HB) | (refine wpM_alloc HM rfl rfl zt_Slots rfl ?_; clear HM; intro b w HB HM; clear HB) | (refine wpM_load (ty := 3) HM rfl rfl rfl (by repeat (first | exact Sel.head | apply Sel.tail)) (by first | rfl | assumption) (by kernel_rfl) ?_) | (refine wpM_loadR (ty := 3) HM rfl rfl rfl (by repeat (first | exact Sel.head | apply Sel.tail)) (by first | rfl | assumption) (by kernel_rfl) ?_) | (refine wpM_load (ty := 42) HM rfl rfl rfl (by repeat (first | exact Sel.head | apply Sel.tail)) (by first | rfl | assumption) (by kernel_rfl) ?_) | (refine wpM_loadR (ty := 42) HM rfl rfl rfl (by repeat (first | exact Sel.head | apply Sel.tail)) (by first | rfl | assumption) (by kernel_rfl) ?_) | (refine wpM_store HM rfl rfl rfl (by (conv => lhs; whnf); try rfl) (by repeat (first | exact Sel.head | apply Sel.tail)) (by simp) (by kernel_rfl) (by rfl) ?_; clear HM; intro w HM; try simp only [List.set_cons_zero, List.set_cons_succ] at HM))
      go_roundw
      case rel => exact ⟨i + 1, by omega, by go_num, by rw [← HST.out]; exact HM⟩
      case measure => simp [intOf]; omega
    · obtain rfl : i = 8 := by omega
      have e8 : slTo t 8 = t := by
        unfold slTo; rw [List.take_of_length_le (by have := HG.out.len; omega)]; simp
      rw [e8] at HM
      have HL16 : Hid ((tcells t).length = 16) := Lib.hid (by rw [tcells_len]; exact HG.out.len)
      have HLZ : Hid (0 + 16 ≤ (tcells (List.replicate 16 (0 : Int))).length) := Lib.hid (by rw [tcells_len]; simp)
      have HL0 : Hid (0 + 16 ≤ (tcells t).length) := Lib.hid (by rw [HL16.out]; omega)
      have HAB : Hid (aggB Try.prog 69 16 = true) := Lib.hid (by kernel_rfl)
      have HONE : Hid (((tcells t).drop 0).take 16 = tcells t) := Lib.hid (by rw [List.drop_zero, List.take_of_length_le (by rw [HL16.out]; omega)])
      clear e8
      go_upto_region 9 with (first | (refine wpM_storeAll HM rfl rfl rfl rfl (by repeat (first | exact Sel.head | apply Sel.tail)) (by rfl) (by kernel_rfl) (by rfl) ?_; clear HM; intro w HM) | (refine wpM_box HM rfl rfl rfl rfl ?_; clear HM; intro b w HB HM; clear HB) | (refine wpM_alloc HM rfl rfl zt_Cells rfl ?_; clear HM; intro b w HB HM; clear HB) | (refine wpM_alloc HM rfl rfl zt_Answer rfl ?_; clear HM; intro b w HB HM; clear HB) | (refine wpM_alloc HM rfl rfl zt_Slots rfl ?_; clear HM; intro b w HB HM; clear HB) | (refine wpM_load (ty := 3) HM rfl rfl rfl (by repeat (first | exact Sel.head | apply Sel.tail)) (by first | rfl | assumption) (by kernel_rfl) ?_) | (refine wpM_loadR (ty := 3) HM rfl rfl rfl (by repeat (first | exact Sel.head | apply Sel.tail)) (by first | rfl | assumption) (by kernel_rfl) ?_) | (refine wpM_load (ty := 42) HM rfl rfl rfl (by repeat (first | exact Sel.head | apply Sel.tail)) (by first | rfl | assumption) (by kernel_rfl) ?_) | (refine wpM_loadR (ty := 42) HM rfl rfl rfl (by repeat (first | exact Sel.head | apply Sel.tail)) (by first | rfl | assumption) (by kernel_rfl) ?_) | (refine wpM_store HM rfl rfl rfl (by (conv => lhs; whnf); try rfl) (by repeat (first | exact Sel.head | apply Sel.tail)) (by simp) (by kernel_rfl) (by rfl) ?_; clear HM; intro w HM; try simp only [List.set_cons_zero, List.set_cons_succ] at HM))
      refine wp_region_M HM (fun ix => match ix with | 0 => [.blk bT (tcells t) 69, .blk bR (tcells (List.replicate 16 0)) 69, .blk bC (u64s (t ++ [0])) 44] | _ => [.blk bT (tcells t) 69, .blk bR (spl (tcells (List.replicate 16 0)) 0 (tcells t)) 69, .blk bC (u64s (t ++ [0])) 44]) rfl (by kernel_rfl) (by kernel_rfl) ?_
      (refine wpB_loadMA (n := 16) (by kernel_rfl) (by kernel_rfl) (by kernel_rfl) rfl rfl (by repeat (first | exact Sel.head | apply Sel.tail)) (by kernel_rfl) (HL0.out) (fun K hK => ?_)); rw [HONE.out]
      go_simp
      refine hK _ ?_
      clear hK K
      refine wpB_pure (v := ?v13) (by kernel_rfl) (by kernel_rfl) (fun w' => ?h13) (fun K hK => ?k13)
      case h13 =>
        go_simp
        try rfl
      go_simp
      refine hK _ ?_
      clear hK K
      (refine wpB_loadM1 (by kernel_rfl) (by kernel_rfl) (by kernel_rfl) rfl rfl (by repeat (first | exact Sel.head | apply Sel.tail)) (by repeat (first | exact Sel.head | apply Sel.tail)) (HC16.out) (by kernel_rfl) (fun K hK => ?_))
      go_simp
      refine hK _ ?_
      clear hK K
      refine wpB_pure (v := ?v14) (by kernel_rfl) (by kernel_rfl) (fun w' => ?h14) (fun K hK => ?k14)
      case h14 =>
        go_simp
        try rfl
      go_simp
      refine hK _ ?_
      clear hK K
      refine wpB_pure (v := ?v15) (by kernel_rfl) (by kernel_rfl) (fun w' => ?h15) (fun K hK => ?k15)
      case h15 =>
        go_simp
        try rfl
      go_simp
      refine hK _ ?_
      clear hK K
      (refine wpB_loadMA1 (n := 16) (by kernel_rfl) (by kernel_rfl) (by kernel_rfl) rfl rfl (by repeat (first | exact Sel.head | apply Sel.tail)) (by repeat (first | exact Sel.head | apply Sel.tail)) (by kernel_rfl) (HL0.out) (fun K hK => ?_)); rw [HONE.out]
      go_simp
      refine hK _ ?_
      clear hK K
      (refine wpB_callM _ _ (by kernel_rfl) (by kernel_rfl) (fun w' => by kernel_rfl) (fun j w hj HM => ((right_any _ t HG.out.len (fun j hj => ⟨HG.out.key0 j hj, HG.out.key1 j hj⟩)).mono (fun e w2 h => ⟨by rw [h.1, HRB.out], h.2⟩))) (fun K hK => ?_))
      go_simp
      refine hK _ ?_
      clear hK K
      refine wpB_pure (v := ?v16) (by kernel_rfl) (by kernel_rfl) (fun w' => ?h16) (fun K hK => ?k16)
      case h16 =>
        go_simp
        try rfl
      go_simp
      refine hK _ ?_
      clear hK K
      (refine wpB_storeMA (by kernel_rfl) (by kernel_rfl) rfl rfl rfl (by repeat (first | exact Sel.head | apply Sel.tail)) (HL16.out) (HLZ.out) (by kernel_rfl) (tcells_all t) rfl (fun K hK => ?_))
      go_simp
      refine hK _ ?_
      clear hK K
      refine wpB_pure (v := ?v17) (by kernel_rfl) (by kernel_rfl) (fun w' => ?h17) (fun K hK => ?k17)
      case h17 =>
        go_simp
        try rfl
      go_simp
      refine hK _ ?_
      clear hK K
      refine wpB_nil (fun w HM => ?_)
      have HSP : Hid (spl (tcells (List.replicate 16 0)) 0 (tcells t) = tcells t) := Lib.hid (spl_whole _ _ (by rw [tcells_len, HL16.out]; rfl))
      change Mem W _ [_, .blk _ (spl (tcells (List.replicate 16 0)) 0 (tcells t)) 69, _] w at HM
      rw [HSP.out] at HM
      go_wp2_with (first | (refine wpM_storeAll HM rfl rfl rfl rfl (by repeat (first | exact Sel.head | apply Sel.tail)) (by rfl) (by kernel_rfl) (by rfl) ?_; clear HM; intro w HM) | (refine wpM_box HM rfl rfl rfl rfl ?_; clear HM; intro b w HB HM; clear HB) | (refine wpM_alloc HM rfl rfl zt_Cells rfl ?_; clear HM; intro b w HB HM; clear HB) | (refine wpM_alloc HM rfl rfl zt_Answer rfl ?_; clear HM; intro b w HB HM; clear HB) | (refine wpM_alloc HM rfl rfl zt_Slots rfl ?_; clear HM; intro b w HB HM; clear HB) | (refine wpM_load (ty := 3) HM rfl rfl rfl (by repeat (first | exact Sel.head | apply Sel.tail)) (by first | rfl | assumption) (by kernel_rfl) ?_) | (refine wpM_loadR (ty := 3) HM rfl rfl rfl (by repeat (first | exact Sel.head | apply Sel.tail)) (by first | rfl | assumption) (by kernel_rfl) ?_) | (refine wpM_load (ty := 42) HM rfl rfl rfl (by repeat (first | exact Sel.head | apply Sel.tail)) (by first | rfl | assumption) (by kernel_rfl) ?_) | (refine wpM_loadR (ty := 42) HM rfl rfl rfl (by repeat (first | exact Sel.head | apply Sel.tail)) (by first | rfl | assumption) (by kernel_rfl) ?_) | (refine wpM_store HM rfl rfl rfl (by (conv => lhs; whnf); try rfl) (by repeat (first | exact Sel.head | apply Sel.tail)) (by simp) (by kernel_rfl) (by rfl) ?_; clear HM; intro w HM; try simp only [List.set_cons_zero, List.set_cons_succ] at HM))
      exact bodyPost_ret (v := .tuple #[.agg (tcells t).toArray, .bool true]) (resM_ct HM rfl (by rfl) (by rfl) (by repeat (first | exact Sel.head | apply Sel.tail)) (by rw [HL16.out]; exact HAB.out)) rfl ⟨rfl, HM.below⟩
end Go.Proofs.Ytpedkcpkdacnlaa
end
section
namespace Go.Proofs.Ytpedkcpkdacnlaa
open Go.RowKit
section
variable {P : Program}
theorem run_forIn_list {w : World} (f : Nat → Bool) (g : Nat → Option Bool × Unit → Sem (ForInStep (Option Bool × Unit))) : ∀ (l : List Nat),
    (∀ i ∈ l, (g i (none, ())).run P w = .ok (if f i then .yield (none, ()) else .done (some false, ())) w) →
    (forIn (m := Sem) l (none, ()) g).run P w = .ok (if l.all f then (none, ()) else (some false, ())) w := by
  intro l
  induction l with
  | nil => intro _; rfl
  | cons i l ih =>
    intro h
    have h1 := h i (by simp)
    have h2 := ih (fun j hj => h j (by simp [hj]))
    rw [List.forIn_cons]
    simp only [Sem.run_bind, h1, Result.andThen_ok]
    cases hf : f i
    · simp [hf, Sem.run_pure]
    · simp only [if_true]
      rw [h2]
      simp [hf]
/-- Two arrays of n elements, each of 'sz' cells: equal if they are so element by element. -/
theorem run_equalIn_array (w : World) (d : Nat) (t elem : TypeId) (n sz : Nat) (xs ys : Array Value) (f : Nat → Bool)
    (ht : P.underlying t = some (.array n elem)) (hs : (P.info? elem).map (·.size) = some sz)
    (hf : ∀ i, i < n → ∃ a b, (part elem xs (i * sz)).run P w = .ok a w ∧ (part elem ys (i * sz)).run P w = .ok b w ∧ (Op.equalIn d elem a b).run P w = .ok (f i) w) :
    (Op.equalIn (d + 1) t (.agg xs) (.agg ys)).run P w = .ok ((List.range n).all f) w := by
  have hz : (sizeOf elem).run P w = .ok sz w := by
    cases hq : P.info? elem with
    | none => simp [hq] at hs
    | some i => simp [hq] at hs; simp [sizeOf, typeInfo, hq, hs]
  simp only [Op.equalIn, Sem.run_bind, run_underlying ht, Result.andThen_ok, hz]
  rw [Std.Legacy.Range.forIn_eq_forIn_range', run_forIn_list f]
  · simp only [Std.Legacy.Range.size, Nat.sub_zero, Nat.add_sub_cancel, Nat.div_one]
    rw [← List.range_eq_range']
    by_cases h : (List.range n).all f = true
    · simp [h, Sem.run_pure]
    · simp [h, Sem.run_pure]
  · intro i hi
    have hin : i < n := by
      simp [Std.Legacy.Range.size] at hi
      omega
    obtain ⟨a, b, ha, hb, he⟩ := hf i hin
    simp only [Sem.run_bind, ha, hb, he, Result.andThen_ok]
    cases f i <;> simp [Sem.run_pure]
theorem range_all (xs ys : List Int) (h : xs.length = ys.length) : (List.range xs.length).all (fun i => xs.getD i 0 == ys.getD i 0) = decide (xs = ys) := by
  rw [Bool.eq_iff_iff, List.all_eq_true, decide_eq_true_iff]
  constructor
  · intro hh
    apply List.ext_getElem h
    intro i h1 h2
    have := hh i (by simpa using h1)
    simpa [List.getD_eq_getElem?_getD, h1, h2] using this
  · rintro rfl
    simp
theorem run_equalIn_words (w : World) (d : Nat) (t elem : TypeId) (n : Nat) (k k' : IntKind) (xs ys : List Int) (hx : xs.length = n) (hy : ys.length = n)
    (ht : P.underlying t = some (.array n elem)) (hs : (P.info? elem).map (·.size) = some 1) (he : P.underlying elem = some (.int k')) :
    (Op.equalIn (d + 2) t (.agg (xs.map (Value.int k)).toArray) (.agg (ys.map (Value.int k)).toArray)).run P w = .ok (decide (xs = ys)) w := by
  have hp : ∀ (zs : List Int) (i : Nat), i < zs.length → (part elem (zs.map (Value.int k)).toArray (i * 1)).run P w = .ok (.int k (zs.getD i 0)) w := by
    intro zs i hi
    rw [Nat.mul_one]
    have hg : (zs.map (Value.int k)).toArray[i]? = some (.int k (zs.getD i 0)) := by
      rw [List.getElem?_toArray, List.getElem?_map, List.getElem?_eq_getElem hi, List.getD_eq_getElem?_getD, List.getElem?_eq_getElem hi]; rfl
    have hagg : (isAgg elem).run P w = .ok false w := by
      unfold isAgg
      rw [Sem.run_bind, run_underlying he w]
      rfl
    unfold part
    rw [Sem.run_bind, hagg]
    simp only [Result.andThen_ok, Bool.false_eq_true, if_false, hg, Sem.run_pure]
  rw [run_equalIn_array (P := P) w (d + 1) t elem n 1 _ _ (fun i => xs.getD i 0 == ys.getD i 0) ht hs]
  · rw [← hx, range_all xs ys (by omega)]
  · intro i hi
    exact ⟨_, _, hp xs i (by omega), hp ys i (by omega), run_equalIn_int w d elem k k' _ _ he⟩
theorem run_neq_words (w : World) (t elem : TypeId) (n : Nat) (k k' : IntKind) (xs ys : List Int) (hx : xs.length = n) (hy : ys.length = n)
    (ht : P.underlying t = some (.array n elem)) (hs : (P.info? elem).map (·.size) = some 1) (he : P.underlying elem = some (.int k')) :
    (binOp .neq t (.agg (xs.map (Value.int k)).toArray) (.agg (ys.map (Value.int k)).toArray)).run P w = .ok (.bool (!decide (xs = ys))) w := by
  rw [run_neq_struct, run_equalIn_words (P := P) w 9998 t elem n k k' xs ys hx hy ht hs he]
  rfl
theorem run_eql_words (w : World) (t elem : TypeId) (n : Nat) (k k' : IntKind) (xs ys : List Int) (hx : xs.length = n) (hy : ys.length = n)
    (ht : P.underlying t = some (.array n elem)) (hs : (P.info? elem).map (·.size) = some 1) (he : P.underlying elem = some (.int k')) :
    (binOp .eql t (.agg (xs.map (Value.int k)).toArray) (.agg (ys.map (Value.int k)).toArray)).run P w = .ok (.bool (decide (xs = ys))) w := by
  rw [run_eql_struct, run_equalIn_words (P := P) w 9998 t elem n k k' xs ys hx hy ht hs he]
  rfl
end
end Go.Proofs.Ytpedkcpkdacnlaa
end
section
namespace Go.Proofs.Ytpedkcpkdacnlaa
open Go.RowKit
set_option linter.unusedVariables false
section
variable {P : Program} {o : Oper} {a : Act} {t t' elem : TypeId} {x y : Operand} {n : Nat} {xs ys : List Int} {k : IntKind}
theorem run_eqGuard_arr (w : World) (op : BinOp) (va vb : Array Value) (h : P.eqGuardType P.depth t = false) : (eqGuard op t x y (.agg va) (.agg vb)).run P w = .ok () w := by
  unfold eqGuard
  cases op <;> simp [Sem.run_bind, program, Sem.run, h]
theorem exec_eqlW (ho : o.op = .binOp .eql t x y t') (hx : a.eval x = .agg (xs.map (Value.int k)).toArray) (hy : a.eval y = .agg (ys.map (Value.int k)).toArray) (hxl : xs.length = n) (hyl : ys.length = n)
    (ht : P.underlying t = some (.array n elem)) (hs : (P.info? elem).map (·.size) = some 1) (he : P.underlying elem = some (.int k)) (hg : P.eqGuardType P.depth t = false) (w : World) :
    (execOp a.eval o).run P w = .ok (.value (.bool (decide (xs = ys)))) w := by
  unfold execOp
  simp only [ho, hx, hy, Sem.run_bind, run_eqGuard_arr w .eql _ _ hg, Result.andThen_ok, run_eql_words (P := P) w t elem n k k xs ys hxl hyl ht hs he, Sem.run_pure]
theorem exec_neqW (ho : o.op = .binOp .neq t x y t') (hx : a.eval x = .agg (xs.map (Value.int k)).toArray) (hy : a.eval y = .agg (ys.map (Value.int k)).toArray) (hxl : xs.length = n) (hyl : ys.length = n)
    (ht : P.underlying t = some (.array n elem)) (hs : (P.info? elem).map (·.size) = some 1) (he : P.underlying elem = some (.int k)) (hg : P.eqGuardType P.depth t = false) (w : World) :
    (execOp a.eval o).run P w = .ok (.value (.bool (!decide (xs = ys)))) w := by
  unfold execOp
  simp only [ho, hx, hy, Sem.run_bind, run_eqGuard_arr w .neq _ _ hg, Result.andThen_ok, run_neq_words (P := P) w t elem n k k xs ys hxl hyl ht hs he, Sem.run_pure]
theorem wpM_eqlW {ops : Array Oper} {rest : List Oper} {Q : Exit → Act → World → Prop} {w : World} (hw : Region.wanted o (yielded ops a.tmps) = true) (ho : o.op = .binOp .eql t x y t') (hx : a.eval x = .agg (xs.map (Value.int k)).toArray) (hy : a.eval y = .agg (ys.map (Value.int k)).toArray) (hxl : xs.length = n) (hyl : ys.length = n)
    (ht : P.underlying t = some (.array n elem)) (hs : (P.info? elem).map (·.size) = some 1) (he : P.underlying elem = some (.int k)) (hg : P.eqGuardType P.depth t = false) {r : Bool} (hr : decide (xs = ys) = r)
    (h : wpList P ops Q rest (a.put o.dst (.bool r)) w) : wpList P ops Q (o :: rest) a w :=
  wpList_step fun _ hK => by
    rw [if_pos hw]
    unfold Oper.wp
    rw [exec_eqlW ho hx hy hxl hyl ht hs he hg w, hr]
    exact hK _ _ h
theorem wpM_neqW {ops : Array Oper} {rest : List Oper} {Q : Exit → Act → World → Prop} {w : World} (hw : Region.wanted o (yielded ops a.tmps) = true) (ho : o.op = .binOp .neq t x y t') (hx : a.eval x = .agg (xs.map (Value.int k)).toArray) (hy : a.eval y = .agg (ys.map (Value.int k)).toArray) (hxl : xs.length = n) (hyl : ys.length = n)
    (ht : P.underlying t = some (.array n elem)) (hs : (P.info? elem).map (·.size) = some 1) (he : P.underlying elem = some (.int k)) (hg : P.eqGuardType P.depth t = false) {r : Bool} (hr : (!decide (xs = ys)) = r)
    (h : wpList P ops Q rest (a.put o.dst (.bool r)) w) : wpList P ops Q (o :: rest) a w :=
  wpList_step fun _ hK => by
    rw [if_pos hw]
    unfold Oper.wp
    rw [exec_neqW ho hx hy hxl hyl ht hs he hg w, hr]
    exact hK _ _ h
end
end Go.Proofs.Ytpedkcpkdacnlaa
end
section
namespace Go.Proofs.Ytpedkcpkdacnlaa
open Go.RowKit
set_option linter.unusedVariables false
theorem u64s_whole (c : List Int) (n : Nat) (h : c.length = n) : ((u64s c).drop 0).take n = u64s c := by rw [List.drop_zero, List.take_of_length_le (by rw [u64s_len]; omega)]
theorem cells_agg (c : List Int) (h : c.length = 17) : aggB Try.prog 44 (u64s c).length = true := by
  rw [u64s_len, h]; kernel_rfl
theorem cells_all (c : List Int) : (u64s c).all Value.oneCell' = true := by simp [u64s, Value.oneCell']
set_option maxRecDepth 20000 in
set_option maxHeartbeats 4000000 in
theorem right_list1 (W : World) (l : List Int) (hl : l.length ≤ 6) (hr : InR l) :
    Calls Try.prog 40 #[.int .i64 1, .agg (u64s (lstC l)).toArray] W fun e w' => e = .returned (.bool true) ∧ Below W.heap.size W w' := by
  have HAC := Lib.hid (cells_agg (lstC l) (lstC_len l (by omega)))
  have HM := Mem.start W
  go_enter Try.func40, Try.ntmps40
  go_wp2_with (first | (refine wpM_loadAll (ty := 44) HM rfl rfl rfl (by repeat (first | exact Sel.head | apply Sel.tail)) (by exact HAC.out) ?_) | (refine wpM_storeAll HM rfl rfl rfl rfl (by repeat (first | exact Sel.head | apply Sel.tail)) (by rfl) (by kernel_rfl) (by rfl) ?_; clear HM; intro w HM) | (refine wpM_box HM rfl rfl rfl rfl ?_; clear HM; intro b w HB HM; clear HB) | (refine wpM_alloc HM rfl rfl zt_Cells rfl ?_; clear HM; intro b w HB HM; clear HB) | (refine wpM_alloc HM rfl rfl zt_Answer rfl ?_; clear HM; intro b w HB HM; clear HB) | (refine wpM_alloc HM rfl rfl zt_Slots rfl ?_; clear HM; intro b w HB HM; clear HB) | (refine wpM_load (ty := 3) HM rfl rfl rfl (by repeat (first | exact Sel.head | apply Sel.tail)) (by first | rfl | assumption) (by kernel_rfl) ?_) | (refine wpM_loadR (ty := 3) HM rfl rfl rfl (by repeat (first | exact Sel.head | apply Sel.tail)) (by first | rfl | assumption) (by kernel_rfl) ?_) | (refine wpM_load (ty := 42) HM rfl rfl rfl (by repeat (first | exact Sel.head | apply Sel.tail)) (by first | rfl | assumption) (by kernel_rfl) ?_) | (refine wpM_loadR (ty := 42) HM rfl rfl rfl (by repeat (first | exact Sel.head | apply Sel.tail)) (by first | rfl | assumption) (by kernel_rfl) ?_) | (refine wpM_store HM rfl rfl rfl (by (conv => lhs; whnf); try rfl) (by repeat (first | exact Sel.head | apply Sel.tail)) (by simp) (by kernel_rfl) (by rfl) ?_; clear HM; intro w HM; try simp only [List.set_cons_zero, List.set_cons_succ] at HM))
  refine (list_any _ l hl hr).mono ?_
  rintro e w ⟨p, c, rfl, ho, hb⟩
  replace HM := HM.got hb ho
  change Mem W _ (.row _ 3 1 (l).length (vals (l)) :: _) w at HM
  clear ho hb
  go_wp2_with (first | (refine wpM_loadAll (ty := 44) HM rfl rfl rfl (by repeat (first | exact Sel.head | apply Sel.tail)) (by exact HAC.out) ?_) | (refine wpM_storeAll HM rfl rfl rfl rfl (by repeat (first | exact Sel.head | apply Sel.tail)) (by rfl) (by kernel_rfl) (by rfl) ?_; clear HM; intro w HM) | (refine wpM_box HM rfl rfl rfl rfl ?_; clear HM; intro b w HB HM; clear HB) | (refine wpM_alloc HM rfl rfl zt_Cells rfl ?_; clear HM; intro b w HB HM; clear HB) | (refine wpM_alloc HM rfl rfl zt_Answer rfl ?_; clear HM; intro b w HB HM; clear HB) | (refine wpM_alloc HM rfl rfl zt_Slots rfl ?_; clear HM; intro b w HB HM; clear HB) | (refine wpM_load (ty := 3) HM rfl rfl rfl (by repeat (first | exact Sel.head | apply Sel.tail)) (by first | rfl | assumption) (by kernel_rfl) ?_) | (refine wpM_loadR (ty := 3) HM rfl rfl rfl (by repeat (first | exact Sel.head | apply Sel.tail)) (by first | rfl | assumption) (by kernel_rfl) ?_) | (refine wpM_load (ty := 42) HM rfl rfl rfl (by repeat (first | exact Sel.head | apply Sel.tail)) (by first | rfl | assumption) (by kernel_rfl) ?_) | (refine wpM_loadR (ty := 42) HM rfl rfl rfl (by repeat (first | exact Sel.head | apply Sel.tail)) (by first | rfl | assumption) (by kernel_rfl) ?_) | (refine wpM_store HM rfl rfl rfl (by (conv => lhs; whnf); try rfl) (by repeat (first | exact Sel.head | apply Sel.tail)) (by simp) (by kernel_rfl) (by rfl) ?_; clear HM; intro w HM; try simp only [List.set_cons_zero, List.set_cons_succ] at HM))
  go_ret
  exact ⟨by first | rfl | simp, HM.below⟩
set_option maxRecDepth 20000 in
set_option maxHeartbeats 4000000 in
theorem right_list2 (W : World) (l : List Int) (hl : l.length ≤ 6) (hr : InR l) :
    Calls Try.prog 40 #[.int .i64 2, .agg (u64s (lstC l)).toArray] W fun e w' => e = .returned (.bool true) ∧ Below W.heap.size W w' := by
  have HAC := Lib.hid (cells_agg (lstC l) (lstC_len l (by omega)))
  have HM := Mem.start W
  go_enter Try.func40, Try.ntmps40
  go_wp2_with (first | (refine wpM_loadAll (ty := 44) HM rfl rfl rfl (by repeat (first | exact Sel.head | apply Sel.tail)) (by exact HAC.out) ?_) | (refine wpM_storeAll HM rfl rfl rfl rfl (by repeat (first | exact Sel.head | apply Sel.tail)) (by rfl) (by kernel_rfl) (by rfl) ?_; clear HM; intro w HM) | (refine wpM_box HM rfl rfl rfl rfl ?_; clear HM; intro b w HB HM; clear HB) | (refine wpM_alloc HM rfl rfl zt_Cells rfl ?_; clear HM; intro b w HB HM; clear HB) | (refine wpM_alloc HM rfl rfl zt_Answer rfl ?_; clear HM; intro b w HB HM; clear HB) | (refine wpM_alloc HM rfl rfl zt_Slots rfl ?_; clear HM; intro b w HB HM; clear HB) | (refine wpM_load (ty := 3) HM rfl rfl rfl (by repeat (first | exact Sel.head | apply Sel.tail)) (by first | rfl | assumption) (by kernel_rfl) ?_) | (refine wpM_loadR (ty := 3) HM rfl rfl rfl (by repeat (first | exact Sel.head | apply Sel.tail)) (by first | rfl | assumption) (by kernel_rfl) ?_) | (refine wpM_load (ty := 42) HM rfl rfl rfl (by repeat (first | exact Sel.head | apply Sel.tail)) (by first | rfl | assumption) (by kernel_rfl) ?_) | (refine wpM_loadR (ty := 42) HM rfl rfl rfl (by repeat (first | exact Sel.head | apply Sel.tail)) (by first | rfl | assumption) (by kernel_rfl) ?_) | (refine wpM_store HM rfl rfl rfl (by (conv => lhs; whnf); try rfl) (by repeat (first | exact Sel.head | apply Sel.tail)) (by simp) (by kernel_rfl) (by rfl) ?_; clear HM; intro w HM; try simp only [List.set_cons_zero, List.set_cons_succ] at HM))
  refine (list_any _ l hl hr).mono ?_
  rintro e w ⟨p, c, rfl, ho, hb⟩
  replace HM := HM.got hb ho
  change Mem W _ (.row _ 3 1 (l).length (vals (l)) :: _) w at HM
  clear ho hb
  go_wp2_with (first | (refine wpM_loadAll (ty := 44) HM rfl rfl rfl (by repeat (first | exact Sel.head | apply Sel.tail)) (by exact HAC.out) ?_) | (refine wpM_storeAll HM rfl rfl rfl rfl (by repeat (first | exact Sel.head | apply Sel.tail)) (by rfl) (by kernel_rfl) (by rfl) ?_; clear HM; intro w HM) | (refine wpM_box HM rfl rfl rfl rfl ?_; clear HM; intro b w HB HM; clear HB) | (refine wpM_alloc HM rfl rfl zt_Cells rfl ?_; clear HM; intro b w HB HM; clear HB) | (refine wpM_alloc HM rfl rfl zt_Answer rfl ?_; clear HM; intro b w HB HM; clear HB) | (refine wpM_alloc HM rfl rfl zt_Slots rfl ?_; clear HM; intro b w HB HM; clear HB) | (refine wpM_load (ty := 3) HM rfl rfl rfl (by repeat (first | exact Sel.head | apply Sel.tail)) (by first | rfl | assumption) (by kernel_rfl) ?_) | (refine wpM_loadR (ty := 3) HM rfl rfl rfl (by repeat (first | exact Sel.head | apply Sel.tail)) (by first | rfl | assumption) (by kernel_rfl) ?_) | (refine wpM_load (ty := 42) HM rfl rfl rfl (by repeat (first | exact Sel.head | apply Sel.tail)) (by first | rfl | assumption) (by kernel_rfl) ?_) | (refine wpM_loadR (ty := 42) HM rfl rfl rfl (by repeat (first | exact Sel.head | apply Sel.tail)) (by first | rfl | assumption) (by kernel_rfl) ?_) | (refine wpM_store HM rfl rfl rfl (by (conv => lhs; whnf); try rfl) (by repeat (first | exact Sel.head | apply Sel.tail)) (by simp) (by kernel_rfl) (by rfl) ?_; clear HM; intro w HM; try simp only [List.set_cons_zero, List.set_cons_succ] at HM))
  go_ret
  exact ⟨by first | rfl | simp, HM.below⟩
set_option maxRecDepth 20000 in
set_option maxHeartbeats 4000000 in
theorem right_list3 (W : World) (l : List Int) (hl : l.length ≤ 6) (hr : InR l) :
    Calls Try.prog 40 #[.int .i64 3, .agg (u64s (lstC l)).toArray] W fun e w' => e = .returned (.bool true) ∧ Below W.heap.size W w' := by
  have HAC := Lib.hid (cells_agg (lstC l) (lstC_len l (by omega)))
  have HM := Mem.start W
  go_enter Try.func40, Try.ntmps40
  go_wp2_with (first | (refine wpM_loadAll (ty := 44) HM rfl rfl rfl (by repeat (first | exact Sel.head | apply Sel.tail)) (by exact HAC.out) ?_) | (refine wpM_storeAll HM rfl rfl rfl rfl (by repeat (first | exact Sel.head | apply Sel.tail)) (by rfl) (by kernel_rfl) (by rfl) ?_; clear HM; intro w HM) | (refine wpM_box HM rfl rfl rfl rfl ?_; clear HM; intro b w HB HM; clear HB) | (refine wpM_alloc HM rfl rfl zt_Cells rfl ?_; clear HM; intro b w HB HM; clear HB) | (refine wpM_alloc HM rfl rfl zt_Answer rfl ?_; clear HM; intro b w HB HM; clear HB) | (refine wpM_alloc HM rfl rfl zt_Slots rfl ?_; clear HM; intro b w HB HM; clear HB) | (refine wpM_load (ty := 3) HM rfl rfl rfl (by repeat (first | exact Sel.head | apply Sel.tail)) (by first | rfl | assumption) (by kernel_rfl) ?_) | (refine wpM_loadR (ty := 3) HM rfl rfl rfl (by repeat (first | exact Sel.head | apply Sel.tail)) (by first | rfl | assumption) (by kernel_rfl) ?_) | (refine wpM_load (ty := 42) HM rfl rfl rfl (by repeat (first | exact Sel.head | apply Sel.tail)) (by first | rfl | assumption) (by kernel_rfl) ?_) | (refine wpM_loadR (ty := 42) HM rfl rfl rfl (by repeat (first | exact Sel.head | apply Sel.tail)) (by first | rfl | assumption) (by kernel_rfl) ?_) | (refine wpM_store HM rfl rfl rfl (by (conv => lhs; whnf); try rfl) (by repeat (first | exact Sel.head | apply Sel.tail)) (by simp) (by kernel_rfl) (by rfl) ?_; clear HM; intro w HM; try simp only [List.set_cons_zero, List.set_cons_succ] at HM))
  refine (list_any _ l hl hr).mono ?_
  rintro e w ⟨p, c, rfl, ho, hb⟩
  replace HM := HM.got hb ho
  change Mem W _ (.row _ 3 1 (l).length (vals (l)) :: _) w at HM
  clear ho hb
  go_wp2_with (first | (refine wpM_loadAll (ty := 44) HM rfl rfl rfl (by repeat (first | exact Sel.head | apply Sel.tail)) (by exact HAC.out) ?_) | (refine wpM_storeAll HM rfl rfl rfl rfl (by repeat (first | exact Sel.head | apply Sel.tail)) (by rfl) (by kernel_rfl) (by rfl) ?_; clear HM; intro w HM) | (refine wpM_box HM rfl rfl rfl rfl ?_; clear HM; intro b w HB HM; clear HB) | (refine wpM_alloc HM rfl rfl zt_Cells rfl ?_; clear HM; intro b w HB HM; clear HB) | (refine wpM_alloc HM rfl rfl zt_Answer rfl ?_; clear HM; intro b w HB HM; clear HB) | (refine wpM_alloc HM rfl rfl zt_Slots rfl ?_; clear HM; intro b w HB HM; clear HB) | (refine wpM_load (ty := 3) HM rfl rfl rfl (by repeat (first | exact Sel.head | apply Sel.tail)) (by first | rfl | assumption) (by kernel_rfl) ?_) | (refine wpM_loadR (ty := 3) HM rfl rfl rfl (by repeat (first | exact Sel.head | apply Sel.tail)) (by first | rfl | assumption) (by kernel_rfl) ?_) | (refine wpM_load (ty := 42) HM rfl rfl rfl (by repeat (first | exact Sel.head | apply Sel.tail)) (by first | rfl | assumption) (by kernel_rfl) ?_) | (refine wpM_loadR (ty := 42) HM rfl rfl rfl (by repeat (first | exact Sel.head | apply Sel.tail)) (by first | rfl | assumption) (by kernel_rfl) ?_) | (refine wpM_store HM rfl rfl rfl (by (conv => lhs; whnf); try rfl) (by repeat (first | exact Sel.head | apply Sel.tail)) (by simp) (by kernel_rfl) (by rfl) ?_; clear HM; intro w HM; try simp only [List.set_cons_zero, List.set_cons_succ] at HM))
  go_ret
  exact ⟨by first | rfl | simp, HM.below⟩
set_option maxRecDepth 20000 in
set_option maxHeartbeats 4000000 in
theorem right_list4 (W : World) (l : List Int) (hl : l.length ≤ 6) (hr : InR l) :
    Calls Try.prog 40 #[.int .i64 4, .agg (u64s (lstC l)).toArray] W fun e w' => e = .returned (.bool (heapB l)) ∧ Below W.heap.size W w' := by
  have HAC := Lib.hid (cells_agg (lstC l) (lstC_len l (by omega)))
  have HM := Mem.start W
  go_enter Try.func40, Try.ntmps40
  go_wp2_with (first | (refine wpM_loadAll (ty := 44) HM rfl rfl rfl (by repeat (first | exact Sel.head | apply Sel.tail)) (by exact HAC.out) ?_) | (refine wpM_storeAll HM rfl rfl rfl rfl (by repeat (first | exact Sel.head | apply Sel.tail)) (by rfl) (by kernel_rfl) (by rfl) ?_; clear HM; intro w HM) | (refine wpM_box HM rfl rfl rfl rfl ?_; clear HM; intro b w HB HM; clear HB) | (refine wpM_alloc HM rfl rfl zt_Cells rfl ?_; clear HM; intro b w HB HM; clear HB) | (refine wpM_alloc HM rfl rfl zt_Answer rfl ?_; clear HM; intro b w HB HM; clear HB) | (refine wpM_alloc HM rfl rfl zt_Slots rfl ?_; clear HM; intro b w HB HM; clear HB) | (refine wpM_load (ty := 3) HM rfl rfl rfl (by repeat (first | exact Sel.head | apply Sel.tail)) (by first | rfl | assumption) (by kernel_rfl) ?_) | (refine wpM_loadR (ty := 3) HM rfl rfl rfl (by repeat (first | exact Sel.head | apply Sel.tail)) (by first | rfl | assumption) (by kernel_rfl) ?_) | (refine wpM_load (ty := 42) HM rfl rfl rfl (by repeat (first | exact Sel.head | apply Sel.tail)) (by first | rfl | assumption) (by kernel_rfl) ?_) | (refine wpM_loadR (ty := 42) HM rfl rfl rfl (by repeat (first | exact Sel.head | apply Sel.tail)) (by first | rfl | assumption) (by kernel_rfl) ?_) | (refine wpM_store HM rfl rfl rfl (by (conv => lhs; whnf); try rfl) (by repeat (first | exact Sel.head | apply Sel.tail)) (by simp) (by kernel_rfl) (by rfl) ?_; clear HM; intro w HM; try simp only [List.set_cons_zero, List.set_cons_succ] at HM))
  refine (list_any _ l hl hr).mono ?_
  rintro e w ⟨p, c, rfl, ho, hb⟩
  replace HM := HM.got hb ho
  change Mem W _ (.row _ 3 1 (l).length (vals (l)) :: _) w at HM
  clear ho hb
  go_wp2_with (first | (refine wpM_loadAll (ty := 44) HM rfl rfl rfl (by repeat (first | exact Sel.head | apply Sel.tail)) (by exact HAC.out) ?_) | (refine wpM_storeAll HM rfl rfl rfl rfl (by repeat (first | exact Sel.head | apply Sel.tail)) (by rfl) (by kernel_rfl) (by rfl) ?_; clear HM; intro w HM) | (refine wpM_box HM rfl rfl rfl rfl ?_; clear HM; intro b w HB HM; clear HB) | (refine wpM_alloc HM rfl rfl zt_Cells rfl ?_; clear HM; intro b w HB HM; clear HB) | (refine wpM_alloc HM rfl rfl zt_Answer rfl ?_; clear HM; intro b w HB HM; clear HB) | (refine wpM_alloc HM rfl rfl zt_Slots rfl ?_; clear HM; intro b w HB HM; clear HB) | (refine wpM_load (ty := 3) HM rfl rfl rfl (by repeat (first | exact Sel.head | apply Sel.tail)) (by first | rfl | assumption) (by kernel_rfl) ?_) | (refine wpM_loadR (ty := 3) HM rfl rfl rfl (by repeat (first | exact Sel.head | apply Sel.tail)) (by first | rfl | assumption) (by kernel_rfl) ?_) | (refine wpM_load (ty := 42) HM rfl rfl rfl (by repeat (first | exact Sel.head | apply Sel.tail)) (by first | rfl | assumption) (by kernel_rfl) ?_) | (refine wpM_loadR (ty := 42) HM rfl rfl rfl (by repeat (first | exact Sel.head | apply Sel.tail)) (by first | rfl | assumption) (by kernel_rfl) ?_) | (refine wpM_store HM rfl rfl rfl (by (conv => lhs; whnf); try rfl) (by repeat (first | exact Sel.head | apply Sel.tail)) (by simp) (by kernel_rfl) (by rfl) ?_; clear HM; intro w HM; try simp only [List.set_cons_zero, List.set_cons_succ] at HM))
  refine (heap_right _ _ l (HM.sl (xs := l) .head)).mono ?_
  rintro e w ⟨rfl, hb⟩
  replace HM := HM.call hb
  clear hb
  go_wp2_with (first | (refine wpM_loadAll (ty := 44) HM rfl rfl rfl (by repeat (first | exact Sel.head | apply Sel.tail)) (by exact HAC.out) ?_) | (refine wpM_storeAll HM rfl rfl rfl rfl (by repeat (first | exact Sel.head | apply Sel.tail)) (by rfl) (by kernel_rfl) (by rfl) ?_; clear HM; intro w HM) | (refine wpM_box HM rfl rfl rfl rfl ?_; clear HM; intro b w HB HM; clear HB) | (refine wpM_alloc HM rfl rfl zt_Cells rfl ?_; clear HM; intro b w HB HM; clear HB) | (refine wpM_alloc HM rfl rfl zt_Answer rfl ?_; clear HM; intro b w HB HM; clear HB) | (refine wpM_alloc HM rfl rfl zt_Slots rfl ?_; clear HM; intro b w HB HM; clear HB) | (refine wpM_load (ty := 3) HM rfl rfl rfl (by repeat (first | exact Sel.head | apply Sel.tail)) (by first | rfl | assumption) (by kernel_rfl) ?_) | (refine wpM_loadR (ty := 3) HM rfl rfl rfl (by repeat (first | exact Sel.head | apply Sel.tail)) (by first | rfl | assumption) (by kernel_rfl) ?_) | (refine wpM_load (ty := 42) HM rfl rfl rfl (by repeat (first | exact Sel.head | apply Sel.tail)) (by first | rfl | assumption) (by kernel_rfl) ?_) | (refine wpM_loadR (ty := 42) HM rfl rfl rfl (by repeat (first | exact Sel.head | apply Sel.tail)) (by first | rfl | assumption) (by kernel_rfl) ?_) | (refine wpM_store HM rfl rfl rfl (by (conv => lhs; whnf); try rfl) (by repeat (first | exact Sel.head | apply Sel.tail)) (by simp) (by kernel_rfl) (by rfl) ?_; clear HM; intro w HM; try simp only [List.set_cons_zero, List.set_cons_succ] at HM))
  go_ret
  exact ⟨by first | rfl | simp, HM.below⟩
set_option maxRecDepth 20000 in
set_option maxHeartbeats 4000000 in
theorem right_table (W : World) (t : List Int) (g : Good t) :
    Calls Try.prog 40 #[.int .i64 5, .agg (u64s (t ++ [0])).toArray] W fun e w' => e = .returned (.bool true) ∧ Below W.heap.size W w' := by
  have HAC := Lib.hid (cells_agg (t ++ [0]) (by simp [g.len]))
  have HTS : Hid (aggB Try.prog 69 (tcells t).length = true) := Lib.hid (by rw [tcells_len, g.len]; kernel_rfl)
  have HTL : Hid ((tcells t).length = (tcells (List.replicate 16 (0 : Int))).length) := Lib.hid (by rw [tcells_len, g.len, tcells_len]; rfl)
  have HTA : Hid ((tcells t).all Value.oneCell' = true) := Lib.hid (by simp [tcells, Value.oneCell'])
  have HG := Lib.hid g
  have HM := Mem.start W
  clear g
  go_enter Try.func40, Try.ntmps40
  go_wp2_with (first | (refine wpM_loadAll (ty := 44) HM rfl rfl rfl (by repeat (first | exact Sel.head | apply Sel.tail)) (by exact HAC.out) ?_) | (refine wpM_storeAll HM rfl rfl rfl rfl (by repeat (first | exact Sel.head | apply Sel.tail)) (by rfl) (by kernel_rfl) (by rfl) ?_; clear HM; intro w HM) | (refine wpM_box HM rfl rfl rfl rfl ?_; clear HM; intro b w HB HM; clear HB) | (refine wpM_alloc HM rfl rfl zt_Cells rfl ?_; clear HM; intro b w HB HM; clear HB) | (refine wpM_alloc HM rfl rfl zt_Answer rfl ?_; clear HM; intro b w HB HM; clear HB) | (refine wpM_alloc HM rfl rfl zt_Slots rfl ?_; clear HM; intro b w HB HM; clear HB) | (refine wpM_load (ty := 3) HM rfl rfl rfl (by repeat (first | exact Sel.head | apply Sel.tail)) (by first | rfl | assumption) (by kernel_rfl) ?_) | (refine wpM_loadR (ty := 3) HM rfl rfl rfl (by repeat (first | exact Sel.head | apply Sel.tail)) (by first | rfl | assumption) (by kernel_rfl) ?_) | (refine wpM_load (ty := 42) HM rfl rfl rfl (by repeat (first | exact Sel.head | apply Sel.tail)) (by first | rfl | assumption) (by kernel_rfl) ?_) | (refine wpM_loadR (ty := 42) HM rfl rfl rfl (by repeat (first | exact Sel.head | apply Sel.tail)) (by first | rfl | assumption) (by kernel_rfl) ?_) | (refine wpM_store HM rfl rfl rfl (by (conv => lhs; whnf); try rfl) (by repeat (first | exact Sel.head | apply Sel.tail)) (by simp) (by kernel_rfl) (by rfl) ?_; clear HM; intro w HM; try simp only [List.set_cons_zero, List.set_cons_succ] at HM))
  refine (slots_any _ t HG.out).mono ?_
  rintro e w ⟨rfl, hb⟩
  replace HM := HM.call hb
  clear hb
  go_wp2_with (first | (refine wpM_storeAll HM rfl rfl rfl rfl (by repeat (first | exact Sel.head | apply Sel.tail)) (by exact HTL.out) (by exact HTS.out) (by exact HTA.out) ?_; clear HM; intro w HM) | (refine wpM_loadAll (ty := 44) HM rfl rfl rfl (by repeat (first | exact Sel.head | apply Sel.tail)) (by exact HAC.out) ?_) | (refine wpM_storeAll HM rfl rfl rfl rfl (by repeat (first | exact Sel.head | apply Sel.tail)) (by rfl) (by kernel_rfl) (by rfl) ?_; clear HM; intro w HM) | (refine wpM_box HM rfl rfl rfl rfl ?_; clear HM; intro b w HB HM; clear HB) | (refine wpM_alloc HM rfl rfl zt_Cells rfl ?_; clear HM; intro b w HB HM; clear HB) | (refine wpM_alloc HM rfl rfl zt_Answer rfl ?_; clear HM; intro b w HB HM; clear HB) | (refine wpM_alloc HM rfl rfl zt_Slots rfl ?_; clear HM; intro b w HB HM; clear HB) | (refine wpM_load (ty := 3) HM rfl rfl rfl (by repeat (first | exact Sel.head | apply Sel.tail)) (by first | rfl | assumption) (by kernel_rfl) ?_) | (refine wpM_loadR (ty := 3) HM rfl rfl rfl (by repeat (first | exact Sel.head | apply Sel.tail)) (by first | rfl | assumption) (by kernel_rfl) ?_) | (refine wpM_load (ty := 42) HM rfl rfl rfl (by repeat (first | exact Sel.head | apply Sel.tail)) (by first | rfl | assumption) (by kernel_rfl) ?_) | (refine wpM_loadR (ty := 42) HM rfl rfl rfl (by repeat (first | exact Sel.head | apply Sel.tail)) (by first | rfl | assumption) (by kernel_rfl) ?_) | (refine wpM_store HM rfl rfl rfl (by (conv => lhs; whnf); try rfl) (by repeat (first | exact Sel.head | apply Sel.tail)) (by simp) (by kernel_rfl) (by rfl) ?_; clear HM; intro w HM; try simp only [List.set_cons_zero, List.set_cons_succ] at HM))
  go_ret
  exact ⟨rfl, HM.below⟩
set_option maxRecDepth 20000 in
set_option maxHeartbeats 4000000 in
theorem right_tally (W : World) (n : Int) (h0 : 0 ≤ n) (h1 : n ≤ 4294967295) :
    Calls Try.prog 40 #[.int .i64 6, .agg (u64s (n :: List.replicate 16 0)).toArray] W fun e w' => e = .returned (.bool true) ∧ Below W.heap.size W w' := by
  have HAC := Lib.hid (cells_agg (n :: List.replicate 16 0) (by simp))
  have HC0 : Hid ((u64s (n :: List.replicate 16 0))[0]? = some (.int .u64 n)) := Lib.hid rfl
  have t0 : decide (n ≤ 4294967295) = true := by simp [h1]
  have HM := Mem.start W
  go_enter Try.func40, Try.ntmps40
  go_wp2_with (first | (refine wpM_eqlW (t := 44) (xs := n :: List.replicate 16 0) (ys := n :: List.replicate 16 0) (k := .u64) (r := true) rfl rfl rfl rfl (by simp) (by simp) Try.underlying44 (by kernel_rfl) Try.underlying42 (by kernel_rfl) (by simp) ?_) | (refine wpM_loadAll (ty := 44) HM rfl rfl rfl (by repeat (first | exact Sel.head | apply Sel.tail)) (by exact HAC.out) ?_) | (refine wpM_storeAll HM rfl rfl rfl rfl (by repeat (first | exact Sel.head | apply Sel.tail)) (by rfl) (by kernel_rfl) (by rfl) ?_; clear HM; intro w HM) | (refine wpM_box HM rfl rfl rfl rfl ?_; clear HM; intro b w HB HM; clear HB) | (refine wpM_alloc HM rfl rfl zt_Cells rfl ?_; clear HM; intro b w HB HM; clear HB) | (refine wpM_alloc HM rfl rfl zt_Answer rfl ?_; clear HM; intro b w HB HM; clear HB) | (refine wpM_alloc HM rfl rfl zt_Slots rfl ?_; clear HM; intro b w HB HM; clear HB) | (refine wpM_load (ty := 3) HM rfl rfl rfl (by repeat (first | exact Sel.head | apply Sel.tail)) (by first | rfl | exact HC0.out) (by kernel_rfl) ?_) | (refine wpM_loadR (ty := 3) HM rfl rfl rfl (by repeat (first | exact Sel.head | apply Sel.tail)) (by first | rfl | exact HC0.out) (by kernel_rfl) ?_) | (refine wpM_load (ty := 42) HM rfl rfl rfl (by repeat (first | exact Sel.head | apply Sel.tail)) (by first | rfl | exact HC0.out) (by kernel_rfl) ?_) | (refine wpM_loadR (ty := 42) HM rfl rfl rfl (by repeat (first | exact Sel.head | apply Sel.tail)) (by first | rfl | exact HC0.out) (by kernel_rfl) ?_) | (refine wpM_store HM rfl rfl rfl (by (conv => lhs; whnf); try rfl) (by repeat (first | exact Sel.head | apply Sel.tail)) (by simp) (by kernel_rfl) (by rfl) ?_; clear HM; intro w HM; try simp only [List.set_cons_zero, List.set_cons_succ] at HM))
  go_ret
  exact ⟨rfl, HM.below⟩
end Go.Proofs.Ytpedkcpkdacnlaa
end
section
namespace Go.Proofs.Ytpedkcpkdacnlaa
open Go.RowKit
set_option maxRecDepth 20000
set_option linter.unusedVariables false
set_option maxHeartbeats 4000000 in
theorem oright_any (a b c : Int) (w : World) :
    Calls Try.prog 49 #[.agg #[.int .i64 a, .int .i64 b, .int .i64 c]] w fun e w' => e = .returned (.bool (opOk a b c)) ∧ Below w.heap.size w w' := by
  have HB := Lib.hid (Below.refl w.heap.size w)
  go_enter Try.func49, Try.ntmps49
  go_upto_region 1 with fail
  have hb1 := balloc (Below.refl _ w) (Obj.cells #[.int .i64 a, .int .i64 b, .int .i64 c] 30)
  have O := Lib.hid (Blk.new w [.int .i64 a, .int .i64 b, .int .i64 c] 30)
  change Hid (Blk (w.alloc (Obj.cells #[.int .i64 a, .int .i64 b, .int .i64 c] 30)) _ _ _) at O
  have ZO : Hid ((w.alloc (Obj.cells #[.int .i64 a, .int .i64 b, .int .i64 c] 30)).heap.size = w.heap.size + 1) := World.size_alloc _ _
  replace HB := Lib.hid (bcall HB.out hb1)
  clear hb1
  generalize w.alloc (Obj.cells #[.int .i64 a, .int .i64 b, .int .i64 c] 30) = w1 at *
  have O_c0 : w1.cell? ⟨w.heap.size, 0, none⟩ = some (.int .i64 a) := O.out.cell 0
  have O_c1 : w1.cell? ⟨w.heap.size, 1, none⟩ = some (.int .i64 b) := O.out.cell 1
  have O_c2 : w1.cell? ⟨w.heap.size, 2, none⟩ = some (.int .i64 c) := O.out.cell 2
  have O_z : w.heap.size < w1.heap.size := O.out.lt
  by_cases q0 : 1 ≤ a
  · have e0 : decide (1 ≤ a) = true := decide_eq_true q0
    by_cases q1 : a ≤ 6
    · have e1 : decide (a ≤ 6) = true := decide_eq_true q1
      by_cases q2 : 0 ≤ b
      · have e2 : decide (0 ≤ b) = true := decide_eq_true q2
        by_cases q3 : b ≤ 1000
        · have e3 : decide (b ≤ 1000) = true := decide_eq_true q3
          by_cases q4 : 0 ≤ c
          · have e4 : decide (0 ≤ c) = true := decide_eq_true q4
            by_cases q5 : c ≤ 4294967295
            · have e5 : decide (c ≤ 4294967295) = true := decide_eq_true q5
              have hr : opOk a b c = true := by simp [opOk]; omega
              have HR := Lib.hid hr
              clear hr
              clear q0 q1 q2 q3 q4 q5
              go_wp2_with fail
              go_ret
              exact ⟨by rw [HR.out]; rfl, HB.out⟩
            · have e5 : decide (c ≤ 4294967295) = false := decide_eq_false q5
              have hr : opOk a b c = false := by simp [opOk]; omega
              have HR := Lib.hid hr
              clear hr
              clear q0 q1 q2 q3 q4 q5
              go_wp2_with fail
              go_ret
              exact ⟨by rw [HR.out]; rfl, HB.out⟩
          · have e4 : decide (0 ≤ c) = false := decide_eq_false q4
            have hr : opOk a b c = false := by simp [opOk]; omega
            have HR := Lib.hid hr
            clear hr
            clear q0 q1 q2 q3 q4
            go_wp2_with fail
            go_ret
            exact ⟨by rw [HR.out]; rfl, HB.out⟩
        · have e3 : decide (b ≤ 1000) = false := decide_eq_false q3
          have hr : opOk a b c = false := by simp [opOk]; omega
          have HR := Lib.hid hr
          clear hr
          clear q0 q1 q2 q3
          go_wp2_with fail
          go_ret
          exact ⟨by rw [HR.out]; rfl, HB.out⟩
      · have e2 : decide (0 ≤ b) = false := decide_eq_false q2
        have hr : opOk a b c = false := by simp [opOk]; omega
        have HR := Lib.hid hr
        clear hr
        clear q0 q1 q2
        go_wp2_with fail
        go_ret
        exact ⟨by rw [HR.out]; rfl, HB.out⟩
    · have e1 : decide (a ≤ 6) = false := decide_eq_false q1
      have hr : opOk a b c = false := by simp [opOk]; omega
      have HR := Lib.hid hr
      clear hr
      clear q0 q1
      go_wp2_with fail
      go_ret
      exact ⟨by rw [HR.out]; rfl, HB.out⟩
  · have e0 : decide (1 ≤ a) = false := decide_eq_false q0
    have hr : opOk a b c = false := by simp [opOk]; omega
    have HR := Lib.hid hr
    clear hr
    clear q0
    go_wp2_with fail
    go_ret
    exact ⟨by rw [HR.out]; rfl, HB.out⟩
end Go.Proofs.Ytpedkcpkdacnlaa
end
section
namespace Go.Proofs.Ytpedkcpkdacnlaa
open Go.RowKit
set_option linter.unusedVariables false
section
variable {P : Program} {ops : Array Oper} {rest : List Oper} {o : Oper} {a : Act} {w : World} {Q : Exit → Act → World → Prop} {w0 : World} {S : Nat → Prop} {M : List En}
theorem Mem.allocObj (h : Mem w0 S M w) (ob : Obj) : Mem w0 S (.obj w.heap.size ob :: M) (w.alloc ob) :=
  h.add ((Below.refl _ _).alloc (Nat.le_refl _) _) _ (by show (w.heap.push ob)[w.heap.size]? = some ob; simp) (fun g hg => by simp [En.foot] at hg; omega)
theorem Mem.setObj (h : Mem w0 S M w) {r : Nat} {ob : Obj} {f : En → List En} (hs : Sel (.obj r ob) M f) (ob' : Obj) : Mem w0 S (f (.obj r ob')) { w with heap := w.heap.setIfInBounds r ob' } :=
  h.turn (w' := { w with heap := w.heap.setIfInBounds r ob' }) hs ⟨rfl, rfl, rfl, by simp, fun k hk hn => by
    have : r ≠ k := fun hh => hn (by simp [En.foot, hh])
    simp [this]⟩ (.obj r ob') (by
      have hr : w.heap[r]? = some ob := h.get hs
      have hlt := (Array.getElem?_eq_some_iff.1 hr).1
      show (w.heap.setIfInBounds r ob')[r]? = some ob'
      simp [hlt]) (fun g hg => .inl hg)
theorem runGet {r clock : Nat} {es : Array MapEntry} (hr : w.heap[r]? = some (.map es clock)) : (getObj r).run P w = .ok (.map es clock) w := by
  simp [getObj, Sem.run, hr]
theorem runSet {r clock : Nat} {es : Array MapEntry} (ob : Obj) (hr : w.heap[r]? = some (.map es clock)) : (Go.setObj r ob).run P w = .ok () { w with heap := w.heap.setIfInBounds r ob } := by
  simp [Go.setObj, Sem.run, hr]
theorem wpM_makeMap (HM : Mem w0 S M w) {t : TypeId} (hg : o.guard = none) (ho : o.op = .makeMap t none)
    (h : ∀ r w', Mem w0 S (.obj r (.map #[] 0) :: M) w' → wpList P ops Q rest (a.put o.dst (.map (some r))) w') : wpList P ops Q (o :: rest) a w :=
  wpList_plain hg fun _ hK => by
    unfold Oper.wp execOp
    have e : (Instr.makeMap t none).run P w = .ok (.map (some w.heap.size)) (w.alloc (.map #[] 0)) := by
      simp [Instr.makeMap]
    simp only [ho, Option.map_none, Sem.run_bind, e]
    exact hK _ _ (h _ _ (HM.allocObj _))
theorem wpM_insert (HM : Mem w0 S M w) {t kt et : TypeId} {m k x : Operand} {r clock : Nat} {es : Array MapEntry} {kv xv : Value} {f : En → List En} (hg : o.guard = none) (ho : o.op = .insert t m k x)
    (hm : a.eval m = .map (some r)) (hk : a.eval k = kv) (hx : a.eval x = xv) (hs : Sel (.obj r (.map es clock)) M f) (ht : P.underlying t = some (.map kt et))
    (hc : ∀ w : World, (Instr.checkKey false 10000 kt kv).run P w = .ok () w) (hf : ∀ w : World, (Instr.findKey kt kv es.toList).run P w = .ok none w)
    (h : ∀ w', Mem w0 S (f (.obj r (.map (es.push { key := kv, val := xv, born := clock }) (clock + 1)))) w' → wpList P ops Q rest (a.put o.dst undef) w') : wpList P ops Q (o :: rest) a w :=
  wpList_plain hg fun _ hK => by
    unfold Oper.wp execOp
    have hr : w.heap[r]? = some (.map es clock) := HM.get hs
    have e : (Instr.mapUpdate t (.map (some r)) kv xv).run P w = .ok () { w with heap := w.heap.setIfInBounds r (.map (es.push { key := kv, val := xv, born := clock }) (clock + 1)) } := by
      simp [Instr.mapUpdate, Sem.run_bind, run_underlying ht, runGet hr, hc, hf, runSet _ hr]
    simp only [ho, hm, hk, hx, Sem.run_bind, e]
    exact hK _ _ (h _ (HM.setObj hs _))
theorem wpM_lookup (HM : Mem w0 S M w) {t kt et : TypeId} {m k : Operand} {r clock i : Nat} {es : Array MapEntry} {kv xv : Value} {f : En → List En} (hg : o.guard = none) (ho : o.op = .lookup t m k false)
    (hm : a.eval m = .map (some r)) (hk : a.eval k = kv) (hs : Sel (.obj r (.map es clock)) M f) (ht : P.underlying t = some (.map kt et))
    (hc : ∀ w : World, (Instr.checkKey es.isEmpty 10000 kt kv).run P w = .ok () w) (hf : ∀ w : World, (Instr.findKey kt kv es.toList).run P w = .ok (some (i, xv)) w)
    (h : wpList P ops Q rest (a.put o.dst xv) w) : wpList P ops Q (o :: rest) a w :=
  wpList_plain hg fun _ hK => by
    unfold Oper.wp execOp
    have hr : w.heap[r]? = some (.map es clock) := HM.get hs
    have e : (Instr.lookup t (.map (some r)) kv false).run P w = .ok xv w := by
      simp [Instr.lookup, Sem.run_bind, run_underlying ht, runGet hr, hc, hf]
    simp only [ho, hm, hk, Sem.run_bind, e]
    exact hK _ _ h
/-- A call in a region that draws its order, ahead of what is written there. -/
theorem wpB_callM0 {St : Nat → List En} {Q : Act → World → Prop} {i k : Nat} {v : Value} (f : FuncId) (args : Array Value) (hw : Region.wanted o (yielded ops a.tmps) = true) (he : eff o = false) (hn : hiN ops i = 0) (hr : ∀ w, (execOp a.eval o).run P w = .ok (.enter f args) w)
    (hc : ∀ w, Mem w0 S (St 0) w → Calls P f args w (fun e w' => e = .returned v ∧ Below w.heap.size w w'))
    (h : ∀ K : Act → Prop, (∀ b, wpB P ops (fun k w => Mem w0 S (St k) w) Q (i + 1) k rest b → K b) → K (a.put o.dst v)) : wpB P ops (fun k w => Mem w0 S (St k) w) Q i k (o :: rest) a :=
  wpB_call f args hw he hr 0 hn (fun j w hj HM => by
    obtain rfl : j = 0 := by omega
    exact (hc w HM).mono fun e w' h => ⟨h.1, Mem.call HM h.2⟩) h
end
end Go.Proofs.Ytpedkcpkdacnlaa
end
section
namespace Go.Proofs.Ytpedkcpkdacnlaa
open Go.RowKit
set_option linter.unusedVariables false
set_option maxRecDepth 20000 in
set_option maxHeartbeats 4000000 in
theorem do_bad (W : World) (kind : Int) (c : List Int) (k key x : Int) (hop : opOk k key x = false) :
    Calls Try.prog 36 #[.int .i64 kind, .agg (u64s c).toArray, .agg #[.int .i64 k, .int .i64 key, .int .i64 x]] W fun e w' =>
      e = .returned (.tuple #[.agg (u64s (List.replicate 17 0)).toArray, .agg #[.int .i64 0, .int .i64 0], .iface 65 (.int .i64 1)]) ∧ Below W.heap.size W w' := by
  have HOP := Lib.hid hop
  clear hop
  have HM := Mem.start W
  go_enter Try.func36, Try.ntmps36
  go_wp2_with (first | (refine wpM_loadAll (ty := 44) HM rfl rfl rfl (by repeat (first | exact Sel.head | apply Sel.tail)) (by exact HAC.out) ?_) | (refine wpM_storeAll HM rfl rfl rfl rfl (by repeat (first | exact Sel.head | apply Sel.tail)) (by rfl) (by kernel_rfl) (by rfl) ?_; clear HM; intro w HM) | (refine wpM_loadAll (ty := 30) HM rfl rfl rfl (by repeat (first | exact Sel.head | apply Sel.tail)) (by kernel_rfl) ?_) | (refine wpM_loadAll (ty := 26) HM rfl rfl rfl (by repeat (first | exact Sel.head | apply Sel.tail)) (by kernel_rfl) ?_) | (refine wpM_box (o := ⟨some 4, _, _, _, _, _⟩) HM rfl rfl rfl rfl ?_; clear HM; intro bC w HB HM; clear HB) | (refine wpM_box (o := ⟨some 5, _, _, _, _, _⟩) HM rfl rfl rfl rfl ?_; clear HM; intro bO w HB HM; clear HB) | (refine wpM_alloc (o := ⟨some 6, _, _, _, _, _⟩) HM rfl rfl zt_Cells rfl ?_; clear HM; intro bR w HB HM; clear HB) | (refine wpM_alloc (o := ⟨some 7, _, _, _, _, _⟩) HM rfl rfl zt_Answer rfl ?_; clear HM; intro bA w HB HM; clear HB) | (refine wpM_alloc (o := ⟨some 9, _, _, _, _, _⟩) HM rfl rfl zt_Slots rfl ?_; clear HM; intro bT w HB HM; clear HB) | (refine wpM_alloc (o := ⟨some 11, _, _, _, _, _⟩) HM rfl rfl zt_Answer rfl ?_; clear HM; intro bX w HB HM; clear HB) | (refine wpM_alloc (o := ⟨some 12, _, _, _, _, _⟩) HM rfl rfl zt_Cells rfl ?_; clear HM; intro bU w HB HM; clear HB) | (refine wpM_alloc (o := ⟨some 16, _, _, _, _, _⟩) HM rfl rfl zt_Answer rfl ?_; clear HM; intro bX w HB HM; clear HB) | (refine wpM_alloc (o := ⟨some 20, _, _, _, _, _⟩) HM rfl rfl zt_Answer rfl ?_; clear HM; intro bX w HB HM; clear HB) | (refine wpM_box HM rfl rfl rfl rfl ?_; clear HM; intro b w HB HM; clear HB) | (refine wpM_alloc HM rfl rfl zt_Cells rfl ?_; clear HM; intro b w HB HM; clear HB) | (refine wpM_alloc HM rfl rfl zt_Answer rfl ?_; clear HM; intro b w HB HM; clear HB) | (refine wpM_alloc HM rfl rfl zt_Slots rfl ?_; clear HM; intro b w HB HM; clear HB) | (refine wpM_load (ty := 3) HM rfl rfl rfl (by repeat (first | exact Sel.head | apply Sel.tail)) (by first | rfl | assumption) (by kernel_rfl) ?_) | (refine wpM_loadR (ty := 3) HM rfl rfl rfl (by repeat (first | exact Sel.head | apply Sel.tail)) (by first | rfl | assumption) (by kernel_rfl) ?_) | (refine wpM_load (ty := 42) HM rfl rfl rfl (by repeat (first | exact Sel.head | apply Sel.tail)) (by first | rfl | assumption) (by kernel_rfl) ?_) | (refine wpM_loadR (ty := 42) HM rfl rfl rfl (by repeat (first | exact Sel.head | apply Sel.tail)) (by first | rfl | assumption) (by kernel_rfl) ?_) | (refine wpM_store HM rfl rfl rfl (by (conv => lhs; whnf); try rfl) (by repeat (first | exact Sel.head | apply Sel.tail)) (by simp) (by kernel_rfl) (by rfl) ?_; clear HM; intro w HM; try simp only [List.set_cons_zero, List.set_cons_succ] at HM))
  refine (oright_any k key x _).mono ?_
  rintro e w ⟨rfl, hb⟩
  replace HM := HM.call hb
  clear hb
  rw [HOP.out]
  go_wp2_with (first | (refine wpM_loadAll (ty := 44) HM rfl rfl rfl (by repeat (first | exact Sel.head | apply Sel.tail)) (by exact HAC.out) ?_) | (refine wpM_storeAll HM rfl rfl rfl rfl (by repeat (first | exact Sel.head | apply Sel.tail)) (by rfl) (by kernel_rfl) (by rfl) ?_; clear HM; intro w HM) | (refine wpM_loadAll (ty := 30) HM rfl rfl rfl (by repeat (first | exact Sel.head | apply Sel.tail)) (by kernel_rfl) ?_) | (refine wpM_loadAll (ty := 26) HM rfl rfl rfl (by repeat (first | exact Sel.head | apply Sel.tail)) (by kernel_rfl) ?_) | (refine wpM_box (o := ⟨some 4, _, _, _, _, _⟩) HM rfl rfl rfl rfl ?_; clear HM; intro bC w HB HM; clear HB) | (refine wpM_box (o := ⟨some 5, _, _, _, _, _⟩) HM rfl rfl rfl rfl ?_; clear HM; intro bO w HB HM; clear HB) | (refine wpM_alloc (o := ⟨some 6, _, _, _, _, _⟩) HM rfl rfl zt_Cells rfl ?_; clear HM; intro bR w HB HM; clear HB) | (refine wpM_alloc (o := ⟨some 7, _, _, _, _, _⟩) HM rfl rfl zt_Answer rfl ?_; clear HM; intro bA w HB HM; clear HB) | (refine wpM_alloc (o := ⟨some 9, _, _, _, _, _⟩) HM rfl rfl zt_Slots rfl ?_; clear HM; intro bT w HB HM; clear HB) | (refine wpM_alloc (o := ⟨some 11, _, _, _, _, _⟩) HM rfl rfl zt_Answer rfl ?_; clear HM; intro bX w HB HM; clear HB) | (refine wpM_alloc (o := ⟨some 12, _, _, _, _, _⟩) HM rfl rfl zt_Cells rfl ?_; clear HM; intro bU w HB HM; clear HB) | (refine wpM_alloc (o := ⟨some 16, _, _, _, _, _⟩) HM rfl rfl zt_Answer rfl ?_; clear HM; intro bX w HB HM; clear HB) | (refine wpM_alloc (o := ⟨some 20, _, _, _, _, _⟩) HM rfl rfl zt_Answer rfl ?_; clear HM; intro bX w HB HM; clear HB) | (refine wpM_box HM rfl rfl rfl rfl ?_; clear HM; intro b w HB HM; clear HB) | (refine wpM_alloc HM rfl rfl zt_Cells rfl ?_; clear HM; intro b w HB HM; clear HB) | (refine wpM_alloc HM rfl rfl zt_Answer rfl ?_; clear HM; intro b w HB HM; clear HB) | (refine wpM_alloc HM rfl rfl zt_Slots rfl ?_; clear HM; intro b w HB HM; clear HB) | (refine wpM_load (ty := 3) HM rfl rfl rfl (by repeat (first | exact Sel.head | apply Sel.tail)) (by first | rfl | assumption) (by kernel_rfl) ?_) | (refine wpM_loadR (ty := 3) HM rfl rfl rfl (by repeat (first | exact Sel.head | apply Sel.tail)) (by first | rfl | assumption) (by kernel_rfl) ?_) | (refine wpM_load (ty := 42) HM rfl rfl rfl (by repeat (first | exact Sel.head | apply Sel.tail)) (by first | rfl | assumption) (by kernel_rfl) ?_) | (refine wpM_loadR (ty := 42) HM rfl rfl rfl (by repeat (first | exact Sel.head | apply Sel.tail)) (by first | rfl | assumption) (by kernel_rfl) ?_) | (refine wpM_store HM rfl rfl rfl (by (conv => lhs; whnf); try rfl) (by repeat (first | exact Sel.head | apply Sel.tail)) (by simp) (by kernel_rfl) (by rfl) ?_; clear HM; intro w HM; try simp only [List.set_cons_zero, List.set_cons_succ] at HM))
  exact bodyPost_ret (v := .tuple #[.agg (u64s (List.replicate 17 0)).toArray, .agg #[.int .i64 0, .int .i64 0], .iface 65 (.int .i64 1)]) (resM_cct HM rfl (by rfl) (by rfl) (by repeat (first | exact Sel.head | apply Sel.tail)) (by kernel_rfl) (by rfl) (by repeat (first | exact Sel.head | apply Sel.tail)) (by kernel_rfl)) rfl ⟨rfl, HM.below⟩
set_option maxRecDepth 20000 in
set_option maxHeartbeats 4000000 in
theorem do_list1 (W : World) (l : List Int) (hl : l.length ≤ 6) (hr : InR l) (k key x : Int) (hop : opOk k key x = true) {ys : List Int} {c r : Int} (e0 : lstR 1 l k x = (ys, c, r)) :
    Calls Try.prog 36 #[.int .i64 1, .agg (u64s (lstC l)).toArray, .agg #[.int .i64 k, .int .i64 key, .int .i64 x]] W fun e w' =>
      e = .returned (.tuple #[.agg (u64s (lstC ys)).toArray, .agg #[.int .i64 c, .int .i64 r], .nilIface]) ∧ Below W.heap.size W w' := by
  have HOP := Lib.hid hop
  clear hop
  obtain ⟨o1, o2, o3, o4, o5, o6⟩ := of_decide_eq_true (show decide _ = true from HOP.out)
  have hlw := (lst_law 1 l k x hl hr o5 o6 ⟨o1, o2⟩ (by decide) (by decide)).1
  rw [e0] at hlw
  have HLW := Lib.hid hlw
  have HAC := Lib.hid (cells_agg (lstC l) (lstC_len l (by omega)))
  have HYL : Hid ((u64s (lstC ys)).length = 17) := Lib.hid (by rw [u64s_len, lstC_len ys (by have := hlw.len; simp at this; omega)])
  have HAB : Hid (aggB Try.prog 44 17 = true) := Lib.hid (by kernel_rfl)
  have HRR := Lib.hid hr
  have E0 : Hid (queR l k x = (ys, c, r)) := Lib.hid (by simpa [lstR] using e0)
  have HM := Mem.start W
  clear hlw e0 o1 o2 o3 o4 o5 o6 hr
  go_enter Try.func36, Try.ntmps36
  go_wp2_with (first | (refine wpM_loadAll (ty := 44) HM rfl rfl rfl (by repeat (first | exact Sel.head | apply Sel.tail)) (by exact HAC.out) ?_) | (refine wpM_storeAll HM rfl rfl rfl rfl (by repeat (first | exact Sel.head | apply Sel.tail)) (by rfl) (by kernel_rfl) (by rfl) ?_; clear HM; intro w HM) | (refine wpM_loadAll (ty := 30) HM rfl rfl rfl (by repeat (first | exact Sel.head | apply Sel.tail)) (by kernel_rfl) ?_) | (refine wpM_loadAll (ty := 26) HM rfl rfl rfl (by repeat (first | exact Sel.head | apply Sel.tail)) (by kernel_rfl) ?_) | (refine wpM_box (o := ⟨some 4, _, _, _, _, _⟩) HM rfl rfl rfl rfl ?_; clear HM; intro bC w HB HM; clear HB) | (refine wpM_box (o := ⟨some 5, _, _, _, _, _⟩) HM rfl rfl rfl rfl ?_; clear HM; intro bO w HB HM; clear HB) | (refine wpM_alloc (o := ⟨some 6, _, _, _, _, _⟩) HM rfl rfl zt_Cells rfl ?_; clear HM; intro bR w HB HM; clear HB) | (refine wpM_alloc (o := ⟨some 7, _, _, _, _, _⟩) HM rfl rfl zt_Answer rfl ?_; clear HM; intro bA w HB HM; clear HB) | (refine wpM_alloc (o := ⟨some 9, _, _, _, _, _⟩) HM rfl rfl zt_Slots rfl ?_; clear HM; intro bT w HB HM; clear HB) | (refine wpM_alloc (o := ⟨some 11, _, _, _, _, _⟩) HM rfl rfl zt_Answer rfl ?_; clear HM; intro bX w HB HM; clear HB) | (refine wpM_alloc (o := ⟨some 12, _, _, _, _, _⟩) HM rfl rfl zt_Cells rfl ?_; clear HM; intro bU w HB HM; clear HB) | (refine wpM_alloc (o := ⟨some 16, _, _, _, _, _⟩) HM rfl rfl zt_Answer rfl ?_; clear HM; intro bX w HB HM; clear HB) | (refine wpM_alloc (o := ⟨some 20, _, _, _, _, _⟩) HM rfl rfl zt_Answer rfl ?_; clear HM; intro bX w HB HM; clear HB) | (refine wpM_box HM rfl rfl rfl rfl ?_; clear HM; intro b w HB HM; clear HB) | (refine wpM_alloc HM rfl rfl zt_Cells rfl ?_; clear HM; intro b w HB HM; clear HB) | (refine wpM_alloc HM rfl rfl zt_Answer rfl ?_; clear HM; intro b w HB HM; clear HB) | (refine wpM_alloc HM rfl rfl zt_Slots rfl ?_; clear HM; intro b w HB HM; clear HB) | (refine wpM_load (ty := 3) HM rfl rfl rfl (by repeat (first | exact Sel.head | apply Sel.tail)) (by first | rfl | assumption) (by kernel_rfl) ?_) | (refine wpM_loadR (ty := 3) HM rfl rfl rfl (by repeat (first | exact Sel.head | apply Sel.tail)) (by first | rfl | assumption) (by kernel_rfl) ?_) | (refine wpM_load (ty := 42) HM rfl rfl rfl (by repeat (first | exact Sel.head | apply Sel.tail)) (by first | rfl | assumption) (by kernel_rfl) ?_) | (refine wpM_loadR (ty := 42) HM rfl rfl rfl (by repeat (first | exact Sel.head | apply Sel.tail)) (by first | rfl | assumption) (by kernel_rfl) ?_) | (refine wpM_store HM rfl rfl rfl (by (conv => lhs; whnf); try rfl) (by repeat (first | exact Sel.head | apply Sel.tail)) (by simp) (by kernel_rfl) (by rfl) ?_; clear HM; intro w HM; try simp only [List.set_cons_zero, List.set_cons_succ] at HM))
  refine (oright_any k key x _).mono ?_
  rintro e w ⟨rfl, hb⟩
  replace HM := HM.call hb
  clear hb
  rw [HOP.out]
  go_wp2_with (first | (refine wpM_loadAll (ty := 44) HM rfl rfl rfl (by repeat (first | exact Sel.head | apply Sel.tail)) (by exact HAC.out) ?_) | (refine wpM_storeAll HM rfl rfl rfl rfl (by repeat (first | exact Sel.head | apply Sel.tail)) (by rfl) (by kernel_rfl) (by rfl) ?_; clear HM; intro w HM) | (refine wpM_loadAll (ty := 30) HM rfl rfl rfl (by repeat (first | exact Sel.head | apply Sel.tail)) (by kernel_rfl) ?_) | (refine wpM_loadAll (ty := 26) HM rfl rfl rfl (by repeat (first | exact Sel.head | apply Sel.tail)) (by kernel_rfl) ?_) | (refine wpM_box (o := ⟨some 4, _, _, _, _, _⟩) HM rfl rfl rfl rfl ?_; clear HM; intro bC w HB HM; clear HB) | (refine wpM_box (o := ⟨some 5, _, _, _, _, _⟩) HM rfl rfl rfl rfl ?_; clear HM; intro bO w HB HM; clear HB) | (refine wpM_alloc (o := ⟨some 6, _, _, _, _, _⟩) HM rfl rfl zt_Cells rfl ?_; clear HM; intro bR w HB HM; clear HB) | (refine wpM_alloc (o := ⟨some 7, _, _, _, _, _⟩) HM rfl rfl zt_Answer rfl ?_; clear HM; intro bA w HB HM; clear HB) | (refine wpM_alloc (o := ⟨some 9, _, _, _, _, _⟩) HM rfl rfl zt_Slots rfl ?_; clear HM; intro bT w HB HM; clear HB) | (refine wpM_alloc (o := ⟨some 11, _, _, _, _, _⟩) HM rfl rfl zt_Answer rfl ?_; clear HM; intro bX w HB HM; clear HB) | (refine wpM_alloc (o := ⟨some 12, _, _, _, _, _⟩) HM rfl rfl zt_Cells rfl ?_; clear HM; intro bU w HB HM; clear HB) | (refine wpM_alloc (o := ⟨some 16, _, _, _, _, _⟩) HM rfl rfl zt_Answer rfl ?_; clear HM; intro bX w HB HM; clear HB) | (refine wpM_alloc (o := ⟨some 20, _, _, _, _, _⟩) HM rfl rfl zt_Answer rfl ?_; clear HM; intro bX w HB HM; clear HB) | (refine wpM_box HM rfl rfl rfl rfl ?_; clear HM; intro b w HB HM; clear HB) | (refine wpM_alloc HM rfl rfl zt_Cells rfl ?_; clear HM; intro b w HB HM; clear HB) | (refine wpM_alloc HM rfl rfl zt_Answer rfl ?_; clear HM; intro b w HB HM; clear HB) | (refine wpM_alloc HM rfl rfl zt_Slots rfl ?_; clear HM; intro b w HB HM; clear HB) | (refine wpM_load (ty := 3) HM rfl rfl rfl (by repeat (first | exact Sel.head | apply Sel.tail)) (by first | rfl | assumption) (by kernel_rfl) ?_) | (refine wpM_loadR (ty := 3) HM rfl rfl rfl (by repeat (first | exact Sel.head | apply Sel.tail)) (by first | rfl | assumption) (by kernel_rfl) ?_) | (refine wpM_load (ty := 42) HM rfl rfl rfl (by repeat (first | exact Sel.head | apply Sel.tail)) (by first | rfl | assumption) (by kernel_rfl) ?_) | (refine wpM_loadR (ty := 42) HM rfl rfl rfl (by repeat (first | exact Sel.head | apply Sel.tail)) (by first | rfl | assumption) (by kernel_rfl) ?_) | (refine wpM_store HM rfl rfl rfl (by (conv => lhs; whnf); try rfl) (by repeat (first | exact Sel.head | apply Sel.tail)) (by simp) (by kernel_rfl) (by rfl) ?_; clear HM; intro w HM; try simp only [List.set_cons_zero, List.set_cons_succ] at HM))
  refine (right_list1 _ l hl HRR.out).mono ?_
  rintro e w ⟨rfl, hb⟩
  replace HM := HM.call hb
  clear hb
  go_wp2_with (first | (refine wpM_loadAll (ty := 44) HM rfl rfl rfl (by repeat (first | exact Sel.head | apply Sel.tail)) (by exact HAC.out) ?_) | (refine wpM_storeAll HM rfl rfl rfl rfl (by repeat (first | exact Sel.head | apply Sel.tail)) (by rfl) (by kernel_rfl) (by rfl) ?_; clear HM; intro w HM) | (refine wpM_loadAll (ty := 30) HM rfl rfl rfl (by repeat (first | exact Sel.head | apply Sel.tail)) (by kernel_rfl) ?_) | (refine wpM_loadAll (ty := 26) HM rfl rfl rfl (by repeat (first | exact Sel.head | apply Sel.tail)) (by kernel_rfl) ?_) | (refine wpM_box (o := ⟨some 4, _, _, _, _, _⟩) HM rfl rfl rfl rfl ?_; clear HM; intro bC w HB HM; clear HB) | (refine wpM_box (o := ⟨some 5, _, _, _, _, _⟩) HM rfl rfl rfl rfl ?_; clear HM; intro bO w HB HM; clear HB) | (refine wpM_alloc (o := ⟨some 6, _, _, _, _, _⟩) HM rfl rfl zt_Cells rfl ?_; clear HM; intro bR w HB HM; clear HB) | (refine wpM_alloc (o := ⟨some 7, _, _, _, _, _⟩) HM rfl rfl zt_Answer rfl ?_; clear HM; intro bA w HB HM; clear HB) | (refine wpM_alloc (o := ⟨some 9, _, _, _, _, _⟩) HM rfl rfl zt_Slots rfl ?_; clear HM; intro bT w HB HM; clear HB) | (refine wpM_alloc (o := ⟨some 11, _, _, _, _, _⟩) HM rfl rfl zt_Answer rfl ?_; clear HM; intro bX w HB HM; clear HB) | (refine wpM_alloc (o := ⟨some 12, _, _, _, _, _⟩) HM rfl rfl zt_Cells rfl ?_; clear HM; intro bU w HB HM; clear HB) | (refine wpM_alloc (o := ⟨some 16, _, _, _, _, _⟩) HM rfl rfl zt_Answer rfl ?_; clear HM; intro bX w HB HM; clear HB) | (refine wpM_alloc (o := ⟨some 20, _, _, _, _, _⟩) HM rfl rfl zt_Answer rfl ?_; clear HM; intro bX w HB HM; clear HB) | (refine wpM_box HM rfl rfl rfl rfl ?_; clear HM; intro b w HB HM; clear HB) | (refine wpM_alloc HM rfl rfl zt_Cells rfl ?_; clear HM; intro b w HB HM; clear HB) | (refine wpM_alloc HM rfl rfl zt_Answer rfl ?_; clear HM; intro b w HB HM; clear HB) | (refine wpM_alloc HM rfl rfl zt_Slots rfl ?_; clear HM; intro b w HB HM; clear HB) | (refine wpM_load (ty := 3) HM rfl rfl rfl (by repeat (first | exact Sel.head | apply Sel.tail)) (by first | rfl | assumption) (by kernel_rfl) ?_) | (refine wpM_loadR (ty := 3) HM rfl rfl rfl (by repeat (first | exact Sel.head | apply Sel.tail)) (by first | rfl | assumption) (by kernel_rfl) ?_) | (refine wpM_load (ty := 42) HM rfl rfl rfl (by repeat (first | exact Sel.head | apply Sel.tail)) (by first | rfl | assumption) (by kernel_rfl) ?_) | (refine wpM_loadR (ty := 42) HM rfl rfl rfl (by repeat (first | exact Sel.head | apply Sel.tail)) (by first | rfl | assumption) (by kernel_rfl) ?_) | (refine wpM_store HM rfl rfl rfl (by (conv => lhs; whnf); try rfl) (by repeat (first | exact Sel.head | apply Sel.tail)) (by simp) (by kernel_rfl) (by rfl) ?_; clear HM; intro w HM; try simp only [List.set_cons_zero, List.set_cons_succ] at HM))
  refine (list_any _ l hl HRR.out).mono ?_
  rintro e w ⟨p, c9, rfl, ho, hb⟩
  replace HM := HM.got hb ho
  change Mem W _ (.row _ 3 1 (l).length (vals (l)) :: _) w at HM
  clear ho hb
  go_wp2_with (first | (refine wpM_loadAll (ty := 44) HM rfl rfl rfl (by repeat (first | exact Sel.head | apply Sel.tail)) (by exact HAC.out) ?_) | (refine wpM_makeMap HM rfl rfl ?_; clear HM; intro r1 w HM) | (refine wpM_insert (kv := .int .i64 1) HM rfl rfl rfl rfl rfl (by repeat (first | exact Sel.head | apply Sel.tail)) Try.underlying78 (fun w' => by kernel_rfl) (fun w' => by kernel_rfl) ?_; clear HM; intro w HM) | (refine wpM_insert (kv := .int .i64 2) HM rfl rfl rfl rfl rfl (by repeat (first | exact Sel.head | apply Sel.tail)) Try.underlying78 (fun w' => by kernel_rfl) (fun w' => by kernel_rfl) ?_; clear HM; intro w HM) | (refine wpM_insert (kv := .int .i64 3) HM rfl rfl rfl rfl rfl (by repeat (first | exact Sel.head | apply Sel.tail)) Try.underlying78 (fun w' => by kernel_rfl) (fun w' => by kernel_rfl) ?_; clear HM; intro w HM) | (refine wpM_insert (kv := .int .i64 4) HM rfl rfl rfl rfl rfl (by repeat (first | exact Sel.head | apply Sel.tail)) Try.underlying78 (fun w' => by kernel_rfl) (fun w' => by kernel_rfl) ?_; clear HM; intro w HM) | (refine wpM_lookup (i := 0) (xv := .func (.func 32) #[] #[]) HM rfl rfl rfl rfl (by repeat (first | exact Sel.head | apply Sel.tail)) Try.underlying78 (fun w' => by kernel_rfl) (fun w' => by kernel_rfl) ?_) | (refine wpM_storeAll HM rfl rfl rfl rfl (by repeat (first | exact Sel.head | apply Sel.tail)) (by rfl) (by kernel_rfl) (by rfl) ?_; clear HM; intro w HM) | (refine wpM_loadAll (ty := 30) HM rfl rfl rfl (by repeat (first | exact Sel.head | apply Sel.tail)) (by kernel_rfl) ?_) | (refine wpM_loadAll (ty := 26) HM rfl rfl rfl (by repeat (first | exact Sel.head | apply Sel.tail)) (by kernel_rfl) ?_) | (refine wpM_box (o := ⟨some 4, _, _, _, _, _⟩) HM rfl rfl rfl rfl ?_; clear HM; intro bC w HB HM; clear HB) | (refine wpM_box (o := ⟨some 5, _, _, _, _, _⟩) HM rfl rfl rfl rfl ?_; clear HM; intro bO w HB HM; clear HB) | (refine wpM_alloc (o := ⟨some 6, _, _, _, _, _⟩) HM rfl rfl zt_Cells rfl ?_; clear HM; intro bR w HB HM; clear HB) | (refine wpM_alloc (o := ⟨some 7, _, _, _, _, _⟩) HM rfl rfl zt_Answer rfl ?_; clear HM; intro bA w HB HM; clear HB) | (refine wpM_alloc (o := ⟨some 9, _, _, _, _, _⟩) HM rfl rfl zt_Slots rfl ?_; clear HM; intro bT w HB HM; clear HB) | (refine wpM_alloc (o := ⟨some 11, _, _, _, _, _⟩) HM rfl rfl zt_Answer rfl ?_; clear HM; intro bX w HB HM; clear HB) | (refine wpM_alloc (o := ⟨some 12, _, _, _, _, _⟩) HM rfl rfl zt_Cells rfl ?_; clear HM; intro bU w HB HM; clear HB) | (refine wpM_alloc (o := ⟨some 16, _, _, _, _, _⟩) HM rfl rfl zt_Answer rfl ?_; clear HM; intro bX w HB HM; clear HB) | (refine wpM_alloc (o := ⟨some 20, _, _, _, _, _⟩) HM rfl rfl zt_Answer rfl ?_; clear HM; intro bX w HB HM; clear HB) | (refine wpM_box HM rfl rfl rfl rfl ?_; clear HM; intro b w HB HM; clear HB) | (refine wpM_alloc HM rfl rfl zt_Cells rfl ?_; clear HM; intro b w HB HM; clear HB) | (refine wpM_alloc HM rfl rfl zt_Answer rfl ?_; clear HM; intro b w HB HM; clear HB) | (refine wpM_alloc HM rfl rfl zt_Slots rfl ?_; clear HM; intro b w HB HM; clear HB) | (refine wpM_load (ty := 3) HM rfl rfl rfl (by repeat (first | exact Sel.head | apply Sel.tail)) (by first | rfl | assumption) (by kernel_rfl) ?_) | (refine wpM_loadR (ty := 3) HM rfl rfl rfl (by repeat (first | exact Sel.head | apply Sel.tail)) (by first | rfl | assumption) (by kernel_rfl) ?_) | (refine wpM_load (ty := 42) HM rfl rfl rfl (by repeat (first | exact Sel.head | apply Sel.tail)) (by first | rfl | assumption) (by kernel_rfl) ?_) | (refine wpM_loadR (ty := 42) HM rfl rfl rfl (by repeat (first | exact Sel.head | apply Sel.tail)) (by first | rfl | assumption) (by kernel_rfl) ?_) | (refine wpM_store HM rfl rfl rfl (by (conv => lhs; whnf); try rfl) (by repeat (first | exact Sel.head | apply Sel.tail)) (by simp) (by kernel_rfl) (by rfl) ?_; clear HM; intro w HM; try simp only [List.set_cons_zero, List.set_cons_succ] at HM))
  refine (queue_eq _ _ l k key x (HM.sl (xs := l) (.tail .head)) (by omega) E0.out).mono ?_
  rintro e w ⟨v2, rfl, ho, hb⟩
  replace HM := HM.got hb ho
  change Mem W _ (.row _ 3 1 (ys).length (vals (ys)) :: _) w at HM
  clear ho hb
  obtain ⟨p2, c2, rfl, -⟩ := ownsRow.form (HM.row .head)
  go_upto_region 20 with (first | (refine wpM_loadAll (ty := 44) HM rfl rfl rfl (by repeat (first | exact Sel.head | apply Sel.tail)) (by exact HAC.out) ?_) | (refine wpM_storeAll HM rfl rfl rfl rfl (by repeat (first | exact Sel.head | apply Sel.tail)) (by rfl) (by kernel_rfl) (by rfl) ?_; clear HM; intro w HM) | (refine wpM_loadAll (ty := 30) HM rfl rfl rfl (by repeat (first | exact Sel.head | apply Sel.tail)) (by kernel_rfl) ?_) | (refine wpM_loadAll (ty := 26) HM rfl rfl rfl (by repeat (first | exact Sel.head | apply Sel.tail)) (by kernel_rfl) ?_) | (refine wpM_box (o := ⟨some 4, _, _, _, _, _⟩) HM rfl rfl rfl rfl ?_; clear HM; intro bC w HB HM; clear HB) | (refine wpM_box (o := ⟨some 5, _, _, _, _, _⟩) HM rfl rfl rfl rfl ?_; clear HM; intro bO w HB HM; clear HB) | (refine wpM_alloc (o := ⟨some 6, _, _, _, _, _⟩) HM rfl rfl zt_Cells rfl ?_; clear HM; intro bR w HB HM; clear HB) | (refine wpM_alloc (o := ⟨some 7, _, _, _, _, _⟩) HM rfl rfl zt_Answer rfl ?_; clear HM; intro bA w HB HM; clear HB) | (refine wpM_alloc (o := ⟨some 9, _, _, _, _, _⟩) HM rfl rfl zt_Slots rfl ?_; clear HM; intro bT w HB HM; clear HB) | (refine wpM_alloc (o := ⟨some 11, _, _, _, _, _⟩) HM rfl rfl zt_Answer rfl ?_; clear HM; intro bX w HB HM; clear HB) | (refine wpM_alloc (o := ⟨some 12, _, _, _, _, _⟩) HM rfl rfl zt_Cells rfl ?_; clear HM; intro bU w HB HM; clear HB) | (refine wpM_alloc (o := ⟨some 16, _, _, _, _, _⟩) HM rfl rfl zt_Answer rfl ?_; clear HM; intro bX w HB HM; clear HB) | (refine wpM_alloc (o := ⟨some 20, _, _, _, _, _⟩) HM rfl rfl zt_Answer rfl ?_; clear HM; intro bX w HB HM; clear HB) | (refine wpM_box HM rfl rfl rfl rfl ?_; clear HM; intro b w HB HM; clear HB) | (refine wpM_alloc HM rfl rfl zt_Cells rfl ?_; clear HM; intro b w HB HM; clear HB) | (refine wpM_alloc HM rfl rfl zt_Answer rfl ?_; clear HM; intro b w HB HM; clear HB) | (refine wpM_alloc HM rfl rfl zt_Slots rfl ?_; clear HM; intro b w HB HM; clear HB) | (refine wpM_load (ty := 3) HM rfl rfl rfl (by repeat (first | exact Sel.head | apply Sel.tail)) (by first | rfl | assumption) (by kernel_rfl) ?_) | (refine wpM_loadR (ty := 3) HM rfl rfl rfl (by repeat (first | exact Sel.head | apply Sel.tail)) (by first | rfl | assumption) (by kernel_rfl) ?_) | (refine wpM_load (ty := 42) HM rfl rfl rfl (by repeat (first | exact Sel.head | apply Sel.tail)) (by first | rfl | assumption) (by kernel_rfl) ?_) | (refine wpM_loadR (ty := 42) HM rfl rfl rfl (by repeat (first | exact Sel.head | apply Sel.tail)) (by first | rfl | assumption) (by kernel_rfl) ?_) | (refine wpM_store HM rfl rfl rfl (by (conv => lhs; whnf); try rfl) (by repeat (first | exact Sel.head | apply Sel.tail)) (by simp) (by kernel_rfl) (by rfl) ?_; clear HM; intro w HM; try simp only [List.set_cons_zero, List.set_cons_succ] at HM))
  replace HM := HM.sub (M' := [.blk bX [.int .i64 c, .int .i64 r] 26, .row (.slice p2 ys.length c2) 3 1 ys.length (vals ys), .blk bA [.int .i64 0, .int .i64 0] 26, .blk bR (u64s (List.replicate 17 0)) 44]) (by repeat (first | exact List.Sublist.refl _ | apply List.Sublist.cons_cons | apply List.Sublist.cons))
  refine wp_region_M HM (fun ix => match ix with | 0 => [.blk bX [.int .i64 c, .int .i64 r] 26, .row (.slice p2 ys.length c2) 3 1 ys.length (vals ys), .blk bA [.int .i64 0, .int .i64 0] 26, .blk bR (u64s (List.replicate 17 0)) 44] | 1 => [.blk bX [.int .i64 c, .int .i64 r] 26, .row (.slice p2 ys.length c2) 3 1 ys.length (vals ys), .blk bA [.int .i64 0, .int .i64 0] 26, .blk bR (spl (u64s (List.replicate 17 0)) 0 (u64s (lstC ys))) 44] | _ => [.blk bX [.int .i64 c, .int .i64 r] 26, .row (.slice p2 ys.length c2) 3 1 ys.length (vals ys), .blk bA (spl [.int .i64 0, .int .i64 0] 0 [.int .i64 c, .int .i64 r]) 26, .blk bR (spl (u64s (List.replicate 17 0)) 0 (u64s (lstC ys))) 44]) rfl (by kernel_rfl) (by kernel_rfl) ?_
  refine wpB_pure (v := ?v1) (by kernel_rfl) (by kernel_rfl) (fun w' => ?h1) (fun K hK => ?k1)
  case h1 =>
    go_simp
    try rfl
  go_simp
  refine hK _ ?_
  clear hK K
  (refine wpB_callM0 _ _ (by kernel_rfl) (by kernel_rfl) (by kernel_rfl) (fun w' => by kernel_rfl) (fun w HM => (listed_any _ _ ys (HM.sl (xs := ys) (by repeat (first | exact Sel.head | apply Sel.tail))) (by have := HLW.out.len; simpa using this) (by have := HLW.out.inr; simpa using this))) (fun K hK => ?_))
  go_simp
  refine hK _ ?_
  clear hK K
  (refine wpB_loadMA1 (n := 2) (by kernel_rfl) (by kernel_rfl) (by kernel_rfl) rfl rfl (by repeat (first | exact Sel.head | apply Sel.tail)) (by repeat (first | exact Sel.head | apply Sel.tail)) (by kernel_rfl) (by exact Nat.le_refl _) (fun K hK => ?_))
  go_simp
  refine hK _ ?_
  clear hK K
  (refine wpB_storeMA (by kernel_rfl) (by kernel_rfl) rfl rfl rfl (by repeat (first | exact Sel.head | apply Sel.tail)) (HYL.out) (by exact Nat.le_refl _) (by kernel_rfl) (fun v hv => List.all_eq_true.1 (cells_all (lstC ys)) v hv) rfl (fun K hK => ?_))
  go_simp
  refine hK _ ?_
  clear hK K
  (refine wpB_storeMA (by kernel_rfl) (by kernel_rfl) rfl rfl rfl (by repeat (first | exact Sel.head | apply Sel.tail)) (by rfl) (by exact Nat.le_refl _) (by kernel_rfl) (two_ints _ _) rfl (fun K hK => ?_))
  go_simp
  refine hK _ ?_
  clear hK K
  refine wpB_pure (v := ?v2) (by kernel_rfl) (by kernel_rfl) (fun w' => ?h2) (fun K hK => ?k2)
  case h2 =>
    go_simp
    try rfl
  go_simp
  refine hK _ ?_
  clear hK K
  refine wpB_nil (fun w HM => ?_)
  have HSP : Hid (spl (u64s (List.replicate 17 0)) 0 (u64s (lstC ys)) = u64s (lstC ys)) := Lib.hid (spl_whole _ _ (by rw [HYL.out]; rfl))
  change Mem W _ [.blk bX [.int .i64 c, .int .i64 r] 26, .row (.slice p2 ys.length c2) 3 1 ys.length (vals ys), .blk bA [.int .i64 c, .int .i64 r] 26, .blk bR (spl (u64s (List.replicate 17 0)) 0 (u64s (lstC ys))) 44] w at HM
  rw [HSP.out] at HM
  go_wp2_with (first | (refine wpM_storeAll HM rfl rfl rfl rfl (by repeat (first | exact Sel.head | apply Sel.tail)) (by rfl) (by kernel_rfl) (by rfl) ?_; clear HM; intro w HM) | (refine wpM_loadAll (ty := 30) HM rfl rfl rfl (by repeat (first | exact Sel.head | apply Sel.tail)) (by kernel_rfl) ?_) | (refine wpM_loadAll (ty := 26) HM rfl rfl rfl (by repeat (first | exact Sel.head | apply Sel.tail)) (by kernel_rfl) ?_) | (refine wpM_box (o := ⟨some 4, _, _, _, _, _⟩) HM rfl rfl rfl rfl ?_; clear HM; intro bC w HB HM; clear HB) | (refine wpM_box (o := ⟨some 5, _, _, _, _, _⟩) HM rfl rfl rfl rfl ?_; clear HM; intro bO w HB HM; clear HB) | (refine wpM_alloc (o := ⟨some 6, _, _, _, _, _⟩) HM rfl rfl zt_Cells rfl ?_; clear HM; intro bR w HB HM; clear HB) | (refine wpM_alloc (o := ⟨some 7, _, _, _, _, _⟩) HM rfl rfl zt_Answer rfl ?_; clear HM; intro bA w HB HM; clear HB) | (refine wpM_alloc (o := ⟨some 9, _, _, _, _, _⟩) HM rfl rfl zt_Slots rfl ?_; clear HM; intro bT w HB HM; clear HB) | (refine wpM_alloc (o := ⟨some 11, _, _, _, _, _⟩) HM rfl rfl zt_Answer rfl ?_; clear HM; intro bX w HB HM; clear HB) | (refine wpM_alloc (o := ⟨some 12, _, _, _, _, _⟩) HM rfl rfl zt_Cells rfl ?_; clear HM; intro bU w HB HM; clear HB) | (refine wpM_alloc (o := ⟨some 16, _, _, _, _, _⟩) HM rfl rfl zt_Answer rfl ?_; clear HM; intro bX w HB HM; clear HB) | (refine wpM_alloc (o := ⟨some 20, _, _, _, _, _⟩) HM rfl rfl zt_Answer rfl ?_; clear HM; intro bX w HB HM; clear HB) | (refine wpM_box HM rfl rfl rfl rfl ?_; clear HM; intro b w HB HM; clear HB) | (refine wpM_alloc HM rfl rfl zt_Cells rfl ?_; clear HM; intro b w HB HM; clear HB) | (refine wpM_alloc HM rfl rfl zt_Answer rfl ?_; clear HM; intro b w HB HM; clear HB) | (refine wpM_alloc HM rfl rfl zt_Slots rfl ?_; clear HM; intro b w HB HM; clear HB) | (refine wpM_load (ty := 3) HM rfl rfl rfl (by repeat (first | exact Sel.head | apply Sel.tail)) (by first | rfl | assumption) (by kernel_rfl) ?_) | (refine wpM_loadR (ty := 3) HM rfl rfl rfl (by repeat (first | exact Sel.head | apply Sel.tail)) (by first | rfl | assumption) (by kernel_rfl) ?_) | (refine wpM_load (ty := 42) HM rfl rfl rfl (by repeat (first | exact Sel.head | apply Sel.tail)) (by first | rfl | assumption) (by kernel_rfl) ?_) | (refine wpM_loadR (ty := 42) HM rfl rfl rfl (by repeat (first | exact Sel.head | apply Sel.tail)) (by first | rfl | assumption) (by kernel_rfl) ?_) | (refine wpM_store HM rfl rfl rfl (by (conv => lhs; whnf); try rfl) (by repeat (first | exact Sel.head | apply Sel.tail)) (by simp) (by kernel_rfl) (by rfl) ?_; clear HM; intro w HM; try simp only [List.set_cons_zero, List.set_cons_succ] at HM))
  exact bodyPost_ret (v := .tuple #[.agg (u64s (lstC ys)).toArray, .agg #[.int .i64 c, .int .i64 r], .nilIface]) (resM_cct HM rfl (by rfl) (by rfl) (by repeat (first | exact Sel.head | apply Sel.tail)) (by rw [HYL.out]; exact HAB.out) (by rfl) (by repeat (first | exact Sel.head | apply Sel.tail)) (by kernel_rfl)) rfl ⟨rfl, HM.below⟩
set_option maxRecDepth 20000 in
set_option maxHeartbeats 4000000 in
theorem do_list2 (W : World) (l : List Int) (hl : l.length ≤ 6) (hr : InR l) (k key x : Int) (hop : opOk k key x = true) {ys : List Int} {c r : Int} (e0 : lstR 2 l k x = (ys, c, r)) :
    Calls Try.prog 36 #[.int .i64 2, .agg (u64s (lstC l)).toArray, .agg #[.int .i64 k, .int .i64 key, .int .i64 x]] W fun e w' =>
      e = .returned (.tuple #[.agg (u64s (lstC ys)).toArray, .agg #[.int .i64 c, .int .i64 r], .nilIface]) ∧ Below W.heap.size W w' := by
  have HOP := Lib.hid hop
  clear hop
  obtain ⟨o1, o2, o3, o4, o5, o6⟩ := of_decide_eq_true (show decide _ = true from HOP.out)
  have hlw := (lst_law 2 l k x hl hr o5 o6 ⟨o1, o2⟩ (by decide) (by decide)).1
  rw [e0] at hlw
  have HLW := Lib.hid hlw
  have HAC := Lib.hid (cells_agg (lstC l) (lstC_len l (by omega)))
  have HYL : Hid ((u64s (lstC ys)).length = 17) := Lib.hid (by rw [u64s_len, lstC_len ys (by have := hlw.len; simp at this; omega)])
  have HAB : Hid (aggB Try.prog 44 17 = true) := Lib.hid (by kernel_rfl)
  have HRR := Lib.hid hr
  have E0 : Hid (stkR l k x = (ys, c, r)) := Lib.hid (by simpa [lstR] using e0)
  have HM := Mem.start W
  clear hlw e0 o1 o2 o3 o4 o5 o6 hr
  go_enter Try.func36, Try.ntmps36
  go_wp2_with (first | (refine wpM_loadAll (ty := 44) HM rfl rfl rfl (by repeat (first | exact Sel.head | apply Sel.tail)) (by exact HAC.out) ?_) | (refine wpM_storeAll HM rfl rfl rfl rfl (by repeat (first | exact Sel.head | apply Sel.tail)) (by rfl) (by kernel_rfl) (by rfl) ?_; clear HM; intro w HM) | (refine wpM_loadAll (ty := 30) HM rfl rfl rfl (by repeat (first | exact Sel.head | apply Sel.tail)) (by kernel_rfl) ?_) | (refine wpM_loadAll (ty := 26) HM rfl rfl rfl (by repeat (first | exact Sel.head | apply Sel.tail)) (by kernel_rfl) ?_) | (refine wpM_box (o := ⟨some 4, _, _, _, _, _⟩) HM rfl rfl rfl rfl ?_; clear HM; intro bC w HB HM; clear HB) | (refine wpM_box (o := ⟨some 5, _, _, _, _, _⟩) HM rfl rfl rfl rfl ?_; clear HM; intro bO w HB HM; clear HB) | (refine wpM_alloc (o := ⟨some 6, _, _, _, _, _⟩) HM rfl rfl zt_Cells rfl ?_; clear HM; intro bR w HB HM; clear HB) | (refine wpM_alloc (o := ⟨some 7, _, _, _, _, _⟩) HM rfl rfl zt_Answer rfl ?_; clear HM; intro bA w HB HM; clear HB) | (refine wpM_alloc (o := ⟨some 9, _, _, _, _, _⟩) HM rfl rfl zt_Slots rfl ?_; clear HM; intro bT w HB HM; clear HB) | (refine wpM_alloc (o := ⟨some 11, _, _, _, _, _⟩) HM rfl rfl zt_Answer rfl ?_; clear HM; intro bX w HB HM; clear HB) | (refine wpM_alloc (o := ⟨some 12, _, _, _, _, _⟩) HM rfl rfl zt_Cells rfl ?_; clear HM; intro bU w HB HM; clear HB) | (refine wpM_alloc (o := ⟨some 16, _, _, _, _, _⟩) HM rfl rfl zt_Answer rfl ?_; clear HM; intro bX w HB HM; clear HB) | (refine wpM_alloc (o := ⟨some 20, _, _, _, _, _⟩) HM rfl rfl zt_Answer rfl ?_; clear HM; intro bX w HB HM; clear HB) | (refine wpM_box HM rfl rfl rfl rfl ?_; clear HM; intro b w HB HM; clear HB) | (refine wpM_alloc HM rfl rfl zt_Cells rfl ?_; clear HM; intro b w HB HM; clear HB) | (refine wpM_alloc HM rfl rfl zt_Answer rfl ?_; clear HM; intro b w HB HM; clear HB) | (refine wpM_alloc HM rfl rfl zt_Slots rfl ?_; clear HM; intro b w HB HM; clear HB) | (refine wpM_load (ty := 3) HM rfl rfl rfl (by repeat (first | exact Sel.head | apply Sel.tail)) (by first | rfl | assumption) (by kernel_rfl) ?_) | (refine wpM_loadR (ty := 3) HM rfl rfl rfl (by repeat (first | exact Sel.head | apply Sel.tail)) (by first | rfl | assumption) (by kernel_rfl) ?_) | (refine wpM_load (ty := 42) HM rfl rfl rfl (by repeat (first | exact Sel.head | apply Sel.tail)) (by first | rfl | assumption) (by kernel_rfl) ?_) | (refine wpM_loadR (ty := 42) HM rfl rfl rfl (by repeat (first | exact Sel.head | apply Sel.tail)) (by first | rfl | assumption) (by kernel_rfl) ?_) | (refine wpM_store HM rfl rfl rfl (by (conv => lhs; whnf); try rfl) (by repeat (first | exact Sel.head | apply Sel.tail)) (by simp) (by kernel_rfl) (by rfl) ?_; clear HM; intro w HM; try simp only [List.set_cons_zero, List.set_cons_succ] at HM))
  refine (oright_any k key x _).mono ?_
  rintro e w ⟨rfl, hb⟩
  replace HM := HM.call hb
  clear hb
  rw [HOP.out]
  go_wp2_with (first | (refine wpM_loadAll (ty := 44) HM rfl rfl rfl (by repeat (first | exact Sel.head | apply Sel.tail)) (by exact HAC.out) ?_) | (refine wpM_storeAll HM rfl rfl rfl rfl (by repeat (first | exact Sel.head | apply Sel.tail)) (by rfl) (by kernel_rfl) (by rfl) ?_; clear HM; intro w HM) | (refine wpM_loadAll (ty := 30) HM rfl rfl rfl (by repeat (first | exact Sel.head | apply Sel.tail)) (by kernel_rfl) ?_) | (refine wpM_loadAll (ty := 26) HM rfl rfl rfl (by repeat (first | exact Sel.head | apply Sel.tail)) (by kernel_rfl) ?_) | (refine wpM_box (o := ⟨some 4, _, _, _, _, _⟩) HM rfl rfl rfl rfl ?_; clear HM; intro bC w HB HM; clear HB) | (refine wpM_box (o := ⟨some 5, _, _, _, _, _⟩) HM rfl rfl rfl rfl ?_; clear HM; intro bO w HB HM; clear HB) | (refine wpM_alloc (o := ⟨some 6, _, _, _, _, _⟩) HM rfl rfl zt_Cells rfl ?_; clear HM; intro bR w HB HM; clear HB) | (refine wpM_alloc (o := ⟨some 7, _, _, _, _, _⟩) HM rfl rfl zt_Answer rfl ?_; clear HM; intro bA w HB HM; clear HB) | (refine wpM_alloc (o := ⟨some 9, _, _, _, _, _⟩) HM rfl rfl zt_Slots rfl ?_; clear HM; intro bT w HB HM; clear HB) | (refine wpM_alloc (o := ⟨some 11, _, _, _, _, _⟩) HM rfl rfl zt_Answer rfl ?_; clear HM; intro bX w HB HM; clear HB) | (refine wpM_alloc (o := ⟨some 12, _, _, _, _, _⟩) HM rfl rfl zt_Cells rfl ?_; clear HM; intro bU w HB HM; clear HB) | (refine wpM_alloc (o := ⟨some 16, _, _, _, _, _⟩) HM rfl rfl zt_Answer rfl ?_; clear HM; intro bX w HB HM; clear HB) | (refine wpM_alloc (o := ⟨some 20, _, _, _, _, _⟩) HM rfl rfl zt_Answer rfl ?_; clear HM; intro bX w HB HM; clear HB) | (refine wpM_box HM rfl rfl rfl rfl ?_; clear HM; intro b w HB HM; clear HB) | (refine wpM_alloc HM rfl rfl zt_Cells rfl ?_; clear HM; intro b w HB HM; clear HB) | (refine wpM_alloc HM rfl rfl zt_Answer rfl ?_; clear HM; intro b w HB HM; clear HB) | (refine wpM_alloc HM rfl rfl zt_Slots rfl ?_; clear HM; intro b w HB HM; clear HB) | (refine wpM_load (ty := 3) HM rfl rfl rfl (by repeat (first | exact Sel.head | apply Sel.tail)) (by first | rfl | assumption) (by kernel_rfl) ?_) | (refine wpM_loadR (ty := 3) HM rfl rfl rfl (by repeat (first | exact Sel.head | apply Sel.tail)) (by first | rfl | assumption) (by kernel_rfl) ?_) | (refine wpM_load (ty := 42) HM rfl rfl rfl (by repeat (first | exact Sel.head | apply Sel.tail)) (by first | rfl | assumption) (by kernel_rfl) ?_) | (refine wpM_loadR (ty := 42) HM rfl rfl rfl (by repeat (first | exact Sel.head | apply Sel.tail)) (by first | rfl | assumption) (by kernel_rfl) ?_) | (refine wpM_store HM rfl rfl rfl (by (conv => lhs; whnf); try rfl) (by repeat (first | exact Sel.head | apply Sel.tail)) (by simp) (by kernel_rfl) (by rfl) ?_; clear HM; intro w HM; try simp only [List.set_cons_zero, List.set_cons_succ] at HM))
  refine (right_list2 _ l hl HRR.out).mono ?_
  rintro e w ⟨rfl, hb⟩
  replace HM := HM.call hb
  clear hb
  go_wp2_with (first | (refine wpM_loadAll (ty := 44) HM rfl rfl rfl (by repeat (first | exact Sel.head | apply Sel.tail)) (by exact HAC.out) ?_) | (refine wpM_storeAll HM rfl rfl rfl rfl (by repeat (first | exact Sel.head | apply Sel.tail)) (by rfl) (by kernel_rfl) (by rfl) ?_; clear HM; intro w HM) | (refine wpM_loadAll (ty := 30) HM rfl rfl rfl (by repeat (first | exact Sel.head | apply Sel.tail)) (by kernel_rfl) ?_) | (refine wpM_loadAll (ty := 26) HM rfl rfl rfl (by repeat (first | exact Sel.head | apply Sel.tail)) (by kernel_rfl) ?_) | (refine wpM_box (o := ⟨some 4, _, _, _, _, _⟩) HM rfl rfl rfl rfl ?_; clear HM; intro bC w HB HM; clear HB) | (refine wpM_box (o := ⟨some 5, _, _, _, _, _⟩) HM rfl rfl rfl rfl ?_; clear HM; intro bO w HB HM; clear HB) | (refine wpM_alloc (o := ⟨some 6, _, _, _, _, _⟩) HM rfl rfl zt_Cells rfl ?_; clear HM; intro bR w HB HM; clear HB) | (refine wpM_alloc (o := ⟨some 7, _, _, _, _, _⟩) HM rfl rfl zt_Answer rfl ?_; clear HM; intro bA w HB HM; clear HB) | (refine wpM_alloc (o := ⟨some 9, _, _, _, _, _⟩) HM rfl rfl zt_Slots rfl ?_; clear HM; intro bT w HB HM; clear HB) | (refine wpM_alloc (o := ⟨some 11, _, _, _, _, _⟩) HM rfl rfl zt_Answer rfl ?_; clear HM; intro bX w HB HM; clear HB) | (refine wpM_alloc (o := ⟨some 12, _, _, _, _, _⟩) HM rfl rfl zt_Cells rfl ?_; clear HM; intro bU w HB HM; clear HB) | (refine wpM_alloc (o := ⟨some 16, _, _, _, _, _⟩) HM rfl rfl zt_Answer rfl ?_; clear HM; intro bX w HB HM; clear HB) | (refine wpM_alloc (o := ⟨some 20, _, _, _, _, _⟩) HM rfl rfl zt_Answer rfl ?_; clear HM; intro bX w HB HM; clear HB) | (refine wpM_box HM rfl rfl rfl rfl ?_; clear HM; intro b w HB HM; clear HB) | (refine wpM_alloc HM rfl rfl zt_Cells rfl ?_; clear HM; intro b w HB HM; clear HB) | (refine wpM_alloc HM rfl rfl zt_Answer rfl ?_; clear HM; intro b w HB HM; clear HB) | (refine wpM_alloc HM rfl rfl zt_Slots rfl ?_; clear HM; intro b w HB HM; clear HB) | (refine wpM_load (ty := 3) HM rfl rfl rfl (by repeat (first | exact Sel.head | apply Sel.tail)) (by first | rfl | assumption) (by kernel_rfl) ?_) | (refine wpM_loadR (ty := 3) HM rfl rfl rfl (by repeat (first | exact Sel.head | apply Sel.tail)) (by first | rfl | assumption) (by kernel_rfl) ?_) | (refine wpM_load (ty := 42) HM rfl rfl rfl (by repeat (first | exact Sel.head | apply Sel.tail)) (by first | rfl | assumption) (by kernel_rfl) ?_) | (refine wpM_loadR (ty := 42) HM rfl rfl rfl (by repeat (first | exact Sel.head | apply Sel.tail)) (by first | rfl | assumption) (by kernel_rfl) ?_) | (refine wpM_store HM rfl rfl rfl (by (conv => lhs; whnf); try rfl) (by repeat (first | exact Sel.head | apply Sel.tail)) (by simp) (by kernel_rfl) (by rfl) ?_; clear HM; intro w HM; try simp only [List.set_cons_zero, List.set_cons_succ] at HM))
  refine (list_any _ l hl HRR.out).mono ?_
  rintro e w ⟨p, c9, rfl, ho, hb⟩
  replace HM := HM.got hb ho
  change Mem W _ (.row _ 3 1 (l).length (vals (l)) :: _) w at HM
  clear ho hb
  go_wp2_with (first | (refine wpM_loadAll (ty := 44) HM rfl rfl rfl (by repeat (first | exact Sel.head | apply Sel.tail)) (by exact HAC.out) ?_) | (refine wpM_makeMap HM rfl rfl ?_; clear HM; intro r1 w HM) | (refine wpM_insert (kv := .int .i64 1) HM rfl rfl rfl rfl rfl (by repeat (first | exact Sel.head | apply Sel.tail)) Try.underlying78 (fun w' => by kernel_rfl) (fun w' => by kernel_rfl) ?_; clear HM; intro w HM) | (refine wpM_insert (kv := .int .i64 2) HM rfl rfl rfl rfl rfl (by repeat (first | exact Sel.head | apply Sel.tail)) Try.underlying78 (fun w' => by kernel_rfl) (fun w' => by kernel_rfl) ?_; clear HM; intro w HM) | (refine wpM_insert (kv := .int .i64 3) HM rfl rfl rfl rfl rfl (by repeat (first | exact Sel.head | apply Sel.tail)) Try.underlying78 (fun w' => by kernel_rfl) (fun w' => by kernel_rfl) ?_; clear HM; intro w HM) | (refine wpM_insert (kv := .int .i64 4) HM rfl rfl rfl rfl rfl (by repeat (first | exact Sel.head | apply Sel.tail)) Try.underlying78 (fun w' => by kernel_rfl) (fun w' => by kernel_rfl) ?_; clear HM; intro w HM) | (refine wpM_lookup (i := 1) (xv := .func (.func 30) #[] #[]) HM rfl rfl rfl rfl (by repeat (first | exact Sel.head | apply Sel.tail)) Try.underlying78 (fun w' => by kernel_rfl) (fun w' => by kernel_rfl) ?_) | (refine wpM_storeAll HM rfl rfl rfl rfl (by repeat (first | exact Sel.head | apply Sel.tail)) (by rfl) (by kernel_rfl) (by rfl) ?_; clear HM; intro w HM) | (refine wpM_loadAll (ty := 30) HM rfl rfl rfl (by repeat (first | exact Sel.head | apply Sel.tail)) (by kernel_rfl) ?_) | (refine wpM_loadAll (ty := 26) HM rfl rfl rfl (by repeat (first | exact Sel.head | apply Sel.tail)) (by kernel_rfl) ?_) | (refine wpM_box (o := ⟨some 4, _, _, _, _, _⟩) HM rfl rfl rfl rfl ?_; clear HM; intro bC w HB HM; clear HB) | (refine wpM_box (o := ⟨some 5, _, _, _, _, _⟩) HM rfl rfl rfl rfl ?_; clear HM; intro bO w HB HM; clear HB) | (refine wpM_alloc (o := ⟨some 6, _, _, _, _, _⟩) HM rfl rfl zt_Cells rfl ?_; clear HM; intro bR w HB HM; clear HB) | (refine wpM_alloc (o := ⟨some 7, _, _, _, _, _⟩) HM rfl rfl zt_Answer rfl ?_; clear HM; intro bA w HB HM; clear HB) | (refine wpM_alloc (o := ⟨some 9, _, _, _, _, _⟩) HM rfl rfl zt_Slots rfl ?_; clear HM; intro bT w HB HM; clear HB) | (refine wpM_alloc (o := ⟨some 11, _, _, _, _, _⟩) HM rfl rfl zt_Answer rfl ?_; clear HM; intro bX w HB HM; clear HB) | (refine wpM_alloc (o := ⟨some 12, _, _, _, _, _⟩) HM rfl rfl zt_Cells rfl ?_; clear HM; intro bU w HB HM; clear HB) | (refine wpM_alloc (o := ⟨some 16, _, _, _, _, _⟩) HM rfl rfl zt_Answer rfl ?_; clear HM; intro bX w HB HM; clear HB) | (refine wpM_alloc (o := ⟨some 20, _, _, _, _, _⟩) HM rfl rfl zt_Answer rfl ?_; clear HM; intro bX w HB HM; clear HB) | (refine wpM_box HM rfl rfl rfl rfl ?_; clear HM; intro b w HB HM; clear HB) | (refine wpM_alloc HM rfl rfl zt_Cells rfl ?_; clear HM; intro b w HB HM; clear HB) | (refine wpM_alloc HM rfl rfl zt_Answer rfl ?_; clear HM; intro b w HB HM; clear HB) | (refine wpM_alloc HM rfl rfl zt_Slots rfl ?_; clear HM; intro b w HB HM; clear HB) | (refine wpM_load (ty := 3) HM rfl rfl rfl (by repeat (first | exact Sel.head | apply Sel.tail)) (by first | rfl | assumption) (by kernel_rfl) ?_) | (refine wpM_loadR (ty := 3) HM rfl rfl rfl (by repeat (first | exact Sel.head | apply Sel.tail)) (by first | rfl | assumption) (by kernel_rfl) ?_) | (refine wpM_load (ty := 42) HM rfl rfl rfl (by repeat (first | exact Sel.head | apply Sel.tail)) (by first | rfl | assumption) (by kernel_rfl) ?_) | (refine wpM_loadR (ty := 42) HM rfl rfl rfl (by repeat (first | exact Sel.head | apply Sel.tail)) (by first | rfl | assumption) (by kernel_rfl) ?_) | (refine wpM_store HM rfl rfl rfl (by (conv => lhs; whnf); try rfl) (by repeat (first | exact Sel.head | apply Sel.tail)) (by simp) (by kernel_rfl) (by rfl) ?_; clear HM; intro w HM; try simp only [List.set_cons_zero, List.set_cons_succ] at HM))
  refine (stack_eq _ _ l k key x (HM.sl (xs := l) (.tail .head)) (by omega) E0.out).mono ?_
  rintro e w ⟨v2, rfl, ho, hb⟩
  replace HM := HM.got hb ho
  change Mem W _ (.row _ 3 1 (ys).length (vals (ys)) :: _) w at HM
  clear ho hb
  obtain ⟨p2, c2, rfl, -⟩ := ownsRow.form (HM.row .head)
  go_upto_region 20 with (first | (refine wpM_loadAll (ty := 44) HM rfl rfl rfl (by repeat (first | exact Sel.head | apply Sel.tail)) (by exact HAC.out) ?_) | (refine wpM_storeAll HM rfl rfl rfl rfl (by repeat (first | exact Sel.head | apply Sel.tail)) (by rfl) (by kernel_rfl) (by rfl) ?_; clear HM; intro w HM) | (refine wpM_loadAll (ty := 30) HM rfl rfl rfl (by repeat (first | exact Sel.head | apply Sel.tail)) (by kernel_rfl) ?_) | (refine wpM_loadAll (ty := 26) HM rfl rfl rfl (by repeat (first | exact Sel.head | apply Sel.tail)) (by kernel_rfl) ?_) | (refine wpM_box (o := ⟨some 4, _, _, _, _, _⟩) HM rfl rfl rfl rfl ?_; clear HM; intro bC w HB HM; clear HB) | (refine wpM_box (o := ⟨some 5, _, _, _, _, _⟩) HM rfl rfl rfl rfl ?_; clear HM; intro bO w HB HM; clear HB) | (refine wpM_alloc (o := ⟨some 6, _, _, _, _, _⟩) HM rfl rfl zt_Cells rfl ?_; clear HM; intro bR w HB HM; clear HB) | (refine wpM_alloc (o := ⟨some 7, _, _, _, _, _⟩) HM rfl rfl zt_Answer rfl ?_; clear HM; intro bA w HB HM; clear HB) | (refine wpM_alloc (o := ⟨some 9, _, _, _, _, _⟩) HM rfl rfl zt_Slots rfl ?_; clear HM; intro bT w HB HM; clear HB) | (refine wpM_alloc (o := ⟨some 11, _, _, _, _, _⟩) HM rfl rfl zt_Answer rfl ?_; clear HM; intro bX w HB HM; clear HB) | (refine wpM_alloc (o := ⟨some 12, _, _, _, _, _⟩) HM rfl rfl zt_Cells rfl ?_; clear HM; intro bU w HB HM; clear HB) | (refine wpM_alloc (o := ⟨some 16, _, _, _, _, _⟩) HM rfl rfl zt_Answer rfl ?_; clear HM; intro bX w HB HM; clear HB) | (refine wpM_alloc (o := ⟨some 20, _, _, _, _, _⟩) HM rfl rfl zt_Answer rfl ?_; clear HM; intro bX w HB HM; clear HB) | (refine wpM_box HM rfl rfl rfl rfl ?_; clear HM; intro b w HB HM; clear HB) | (refine wpM_alloc HM rfl rfl zt_Cells rfl ?_; clear HM; intro b w HB HM; clear HB) | (refine wpM_alloc HM rfl rfl zt_Answer rfl ?_; clear HM; intro b w HB HM; clear HB) | (refine wpM_alloc HM rfl rfl zt_Slots rfl ?_; clear HM; intro b w HB HM; clear HB) | (refine wpM_load (ty := 3) HM rfl rfl rfl (by repeat (first | exact Sel.head | apply Sel.tail)) (by first | rfl | assumption) (by kernel_rfl) ?_) | (refine wpM_loadR (ty := 3) HM rfl rfl rfl (by repeat (first | exact Sel.head | apply Sel.tail)) (by first | rfl | assumption) (by kernel_rfl) ?_) | (refine wpM_load (ty := 42) HM rfl rfl rfl (by repeat (first | exact Sel.head | apply Sel.tail)) (by first | rfl | assumption) (by kernel_rfl) ?_) | (refine wpM_loadR (ty := 42) HM rfl rfl rfl (by repeat (first | exact Sel.head | apply Sel.tail)) (by first | rfl | assumption) (by kernel_rfl) ?_) | (refine wpM_store HM rfl rfl rfl (by (conv => lhs; whnf); try rfl) (by repeat (first | exact Sel.head | apply Sel.tail)) (by simp) (by kernel_rfl) (by rfl) ?_; clear HM; intro w HM; try simp only [List.set_cons_zero, List.set_cons_succ] at HM))
  replace HM := HM.sub (M' := [.blk bX [.int .i64 c, .int .i64 r] 26, .row (.slice p2 ys.length c2) 3 1 ys.length (vals ys), .blk bA [.int .i64 0, .int .i64 0] 26, .blk bR (u64s (List.replicate 17 0)) 44]) (by repeat (first | exact List.Sublist.refl _ | apply List.Sublist.cons_cons | apply List.Sublist.cons))
  refine wp_region_M HM (fun ix => match ix with | 0 => [.blk bX [.int .i64 c, .int .i64 r] 26, .row (.slice p2 ys.length c2) 3 1 ys.length (vals ys), .blk bA [.int .i64 0, .int .i64 0] 26, .blk bR (u64s (List.replicate 17 0)) 44] | 1 => [.blk bX [.int .i64 c, .int .i64 r] 26, .row (.slice p2 ys.length c2) 3 1 ys.length (vals ys), .blk bA [.int .i64 0, .int .i64 0] 26, .blk bR (spl (u64s (List.replicate 17 0)) 0 (u64s (lstC ys))) 44] | _ => [.blk bX [.int .i64 c, .int .i64 r] 26, .row (.slice p2 ys.length c2) 3 1 ys.length (vals ys), .blk bA (spl [.int .i64 0, .int .i64 0] 0 [.int .i64 c, .int .i64 r]) 26, .blk bR (spl (u64s (List.replicate 17 0)) 0 (u64s (lstC ys))) 44]) rfl (by kernel_rfl) (by kernel_rfl) ?_
  refine wpB_pure (v := ?v3) (by kernel_rfl) (by kernel_rfl) (fun w' => ?h3) (fun K hK => ?k3)
  case h3 =>
    go_simp
    try rfl
  go_simp
  refine hK _ ?_
  clear hK K
  (refine wpB_callM0 _ _ (by kernel_rfl) (by kernel_rfl) (by kernel_rfl) (fun w' => by kernel_rfl) (fun w HM => (listed_any _ _ ys (HM.sl (xs := ys) (by repeat (first | exact Sel.head | apply Sel.tail))) (by have := HLW.out.len; simpa using this) (by have := HLW.out.inr; simpa using this))) (fun K hK => ?_))
  go_simp
  refine hK _ ?_
  clear hK K
  (refine wpB_loadMA1 (n := 2) (by kernel_rfl) (by kernel_rfl) (by kernel_rfl) rfl rfl (by repeat (first | exact Sel.head | apply Sel.tail)) (by repeat (first | exact Sel.head | apply Sel.tail)) (by kernel_rfl) (by exact Nat.le_refl _) (fun K hK => ?_))
  go_simp
  refine hK _ ?_
  clear hK K
  (refine wpB_storeMA (by kernel_rfl) (by kernel_rfl) rfl rfl rfl (by repeat (first | exact Sel.head | apply Sel.tail)) (HYL.out) (by exact Nat.le_refl _) (by kernel_rfl) (fun v hv => List.all_eq_true.1 (cells_all (lstC ys)) v hv) rfl (fun K hK => ?_))
  go_simp
  refine hK _ ?_
  clear hK K
  (refine wpB_storeMA (by kernel_rfl) (by kernel_rfl) rfl rfl rfl (by repeat (first | exact Sel.head | apply Sel.tail)) (by rfl) (by exact Nat.le_refl _) (by kernel_rfl) (two_ints _ _) rfl (fun K hK => ?_))
  go_simp
  refine hK _ ?_
  clear hK K
  refine wpB_pure (v := ?v4) (by kernel_rfl) (by kernel_rfl) (fun w' => ?h4) (fun K hK => ?k4)
  case h4 =>
    go_simp
    try rfl
  go_simp
  refine hK _ ?_
  clear hK K
  refine wpB_nil (fun w HM => ?_)
  have HSP : Hid (spl (u64s (List.replicate 17 0)) 0 (u64s (lstC ys)) = u64s (lstC ys)) := Lib.hid (spl_whole _ _ (by rw [HYL.out]; rfl))
  change Mem W _ [.blk bX [.int .i64 c, .int .i64 r] 26, .row (.slice p2 ys.length c2) 3 1 ys.length (vals ys), .blk bA [.int .i64 c, .int .i64 r] 26, .blk bR (spl (u64s (List.replicate 17 0)) 0 (u64s (lstC ys))) 44] w at HM
  rw [HSP.out] at HM
  go_wp2_with (first | (refine wpM_storeAll HM rfl rfl rfl rfl (by repeat (first | exact Sel.head | apply Sel.tail)) (by rfl) (by kernel_rfl) (by rfl) ?_; clear HM; intro w HM) | (refine wpM_loadAll (ty := 30) HM rfl rfl rfl (by repeat (first | exact Sel.head | apply Sel.tail)) (by kernel_rfl) ?_) | (refine wpM_loadAll (ty := 26) HM rfl rfl rfl (by repeat (first | exact Sel.head | apply Sel.tail)) (by kernel_rfl) ?_) | (refine wpM_box (o := ⟨some 4, _, _, _, _, _⟩) HM rfl rfl rfl rfl ?_; clear HM; intro bC w HB HM; clear HB) | (refine wpM_box (o := ⟨some 5, _, _, _, _, _⟩) HM rfl rfl rfl rfl ?_; clear HM; intro bO w HB HM; clear HB) | (refine wpM_alloc (o := ⟨some 6, _, _, _, _, _⟩) HM rfl rfl zt_Cells rfl ?_; clear HM; intro bR w HB HM; clear HB) | (refine wpM_alloc (o := ⟨some 7, _, _, _, _, _⟩) HM rfl rfl zt_Answer rfl ?_; clear HM; intro bA w HB HM; clear HB) | (refine wpM_alloc (o := ⟨some 9, _, _, _, _, _⟩) HM rfl rfl zt_Slots rfl ?_; clear HM; intro bT w HB HM; clear HB) | (refine wpM_alloc (o := ⟨some 11, _, _, _, _, _⟩) HM rfl rfl zt_Answer rfl ?_; clear HM; intro bX w HB HM; clear HB) | (refine wpM_alloc (o := ⟨some 12, _, _, _, _, _⟩) HM rfl rfl zt_Cells rfl ?_; clear HM; intro bU w HB HM; clear HB) | (refine wpM_alloc (o := ⟨some 16, _, _, _, _, _⟩) HM rfl rfl zt_Answer rfl ?_; clear HM; intro bX w HB HM; clear HB) | (refine wpM_alloc (o := ⟨some 20, _, _, _, _, _⟩) HM rfl rfl zt_Answer rfl ?_; clear HM; intro bX w HB HM; clear HB) | (refine wpM_box HM rfl rfl rfl rfl ?_; clear HM; intro b w HB HM; clear HB) | (refine wpM_alloc HM rfl rfl zt_Cells rfl ?_; clear HM; intro b w HB HM; clear HB) | (refine wpM_alloc HM rfl rfl zt_Answer rfl ?_; clear HM; intro b w HB HM; clear HB) | (refine wpM_alloc HM rfl rfl zt_Slots rfl ?_; clear HM; intro b w HB HM; clear HB) | (refine wpM_load (ty := 3) HM rfl rfl rfl (by repeat (first | exact Sel.head | apply Sel.tail)) (by first | rfl | assumption) (by kernel_rfl) ?_) | (refine wpM_loadR (ty := 3) HM rfl rfl rfl (by repeat (first | exact Sel.head | apply Sel.tail)) (by first | rfl | assumption) (by kernel_rfl) ?_) | (refine wpM_load (ty := 42) HM rfl rfl rfl (by repeat (first | exact Sel.head | apply Sel.tail)) (by first | rfl | assumption) (by kernel_rfl) ?_) | (refine wpM_loadR (ty := 42) HM rfl rfl rfl (by repeat (first | exact Sel.head | apply Sel.tail)) (by first | rfl | assumption) (by kernel_rfl) ?_) | (refine wpM_store HM rfl rfl rfl (by (conv => lhs; whnf); try rfl) (by repeat (first | exact Sel.head | apply Sel.tail)) (by simp) (by kernel_rfl) (by rfl) ?_; clear HM; intro w HM; try simp only [List.set_cons_zero, List.set_cons_succ] at HM))
  exact bodyPost_ret (v := .tuple #[.agg (u64s (lstC ys)).toArray, .agg #[.int .i64 c, .int .i64 r], .nilIface]) (resM_cct HM rfl (by rfl) (by rfl) (by repeat (first | exact Sel.head | apply Sel.tail)) (by rw [HYL.out]; exact HAB.out) (by rfl) (by repeat (first | exact Sel.head | apply Sel.tail)) (by kernel_rfl)) rfl ⟨rfl, HM.below⟩
set_option maxRecDepth 20000 in
set_option maxHeartbeats 4000000 in
theorem do_list3 (W : World) (l : List Int) (hl : l.length ≤ 6) (hr : InR l) (k key x : Int) (hop : opOk k key x = true) {ys : List Int} {c r : Int} (e0 : lstR 3 l k x = (ys, c, r)) :
    Calls Try.prog 36 #[.int .i64 3, .agg (u64s (lstC l)).toArray, .agg #[.int .i64 k, .int .i64 key, .int .i64 x]] W fun e w' =>
      e = .returned (.tuple #[.agg (u64s (lstC ys)).toArray, .agg #[.int .i64 c, .int .i64 r], .nilIface]) ∧ Below W.heap.size W w' := by
  have HOP := Lib.hid hop
  clear hop
  obtain ⟨o1, o2, o3, o4, o5, o6⟩ := of_decide_eq_true (show decide _ = true from HOP.out)
  have hlw := (lst_law 3 l k x hl hr o5 o6 ⟨o1, o2⟩ (by decide) (by decide)).1
  rw [e0] at hlw
  have HLW := Lib.hid hlw
  have HAC := Lib.hid (cells_agg (lstC l) (lstC_len l (by omega)))
  have HYL : Hid ((u64s (lstC ys)).length = 17) := Lib.hid (by rw [u64s_len, lstC_len ys (by have := hlw.len; simp at this; omega)])
  have HAB : Hid (aggB Try.prog 44 17 = true) := Lib.hid (by kernel_rfl)
  have HRR := Lib.hid hr
  have E0 : Hid (deqR l k x = (ys, c, r)) := Lib.hid (by simpa [lstR] using e0)
  have HM := Mem.start W
  clear hlw e0 o1 o2 o3 o4 o5 o6 hr
  go_enter Try.func36, Try.ntmps36
  go_wp2_with (first | (refine wpM_loadAll (ty := 44) HM rfl rfl rfl (by repeat (first | exact Sel.head | apply Sel.tail)) (by exact HAC.out) ?_) | (refine wpM_storeAll HM rfl rfl rfl rfl (by repeat (first | exact Sel.head | apply Sel.tail)) (by rfl) (by kernel_rfl) (by rfl) ?_; clear HM; intro w HM) | (refine wpM_loadAll (ty := 30) HM rfl rfl rfl (by repeat (first | exact Sel.head | apply Sel.tail)) (by kernel_rfl) ?_) | (refine wpM_loadAll (ty := 26) HM rfl rfl rfl (by repeat (first | exact Sel.head | apply Sel.tail)) (by kernel_rfl) ?_) | (refine wpM_box (o := ⟨some 4, _, _, _, _, _⟩) HM rfl rfl rfl rfl ?_; clear HM; intro bC w HB HM; clear HB) | (refine wpM_box (o := ⟨some 5, _, _, _, _, _⟩) HM rfl rfl rfl rfl ?_; clear HM; intro bO w HB HM; clear HB) | (refine wpM_alloc (o := ⟨some 6, _, _, _, _, _⟩) HM rfl rfl zt_Cells rfl ?_; clear HM; intro bR w HB HM; clear HB) | (refine wpM_alloc (o := ⟨some 7, _, _, _, _, _⟩) HM rfl rfl zt_Answer rfl ?_; clear HM; intro bA w HB HM; clear HB) | (refine wpM_alloc (o := ⟨some 9, _, _, _, _, _⟩) HM rfl rfl zt_Slots rfl ?_; clear HM; intro bT w HB HM; clear HB) | (refine wpM_alloc (o := ⟨some 11, _, _, _, _, _⟩) HM rfl rfl zt_Answer rfl ?_; clear HM; intro bX w HB HM; clear HB) | (refine wpM_alloc (o := ⟨some 12, _, _, _, _, _⟩) HM rfl rfl zt_Cells rfl ?_; clear HM; intro bU w HB HM; clear HB) | (refine wpM_alloc (o := ⟨some 16, _, _, _, _, _⟩) HM rfl rfl zt_Answer rfl ?_; clear HM; intro bX w HB HM; clear HB) | (refine wpM_alloc (o := ⟨some 20, _, _, _, _, _⟩) HM rfl rfl zt_Answer rfl ?_; clear HM; intro bX w HB HM; clear HB) | (refine wpM_box HM rfl rfl rfl rfl ?_; clear HM; intro b w HB HM; clear HB) | (refine wpM_alloc HM rfl rfl zt_Cells rfl ?_; clear HM; intro b w HB HM; clear HB) | (refine wpM_alloc HM rfl rfl zt_Answer rfl ?_; clear HM; intro b w HB HM; clear HB) | (refine wpM_alloc HM rfl rfl zt_Slots rfl ?_; clear HM; intro b w HB HM; clear HB) | (refine wpM_load (ty := 3) HM rfl rfl rfl (by repeat (first | exact Sel.head | apply Sel.tail)) (by first | rfl | assumption) (by kernel_rfl) ?_) | (refine wpM_loadR (ty := 3) HM rfl rfl rfl (by repeat (first | exact Sel.head | apply Sel.tail)) (by first | rfl | assumption) (by kernel_rfl) ?_) | (refine wpM_load (ty := 42) HM rfl rfl rfl (by repeat (first | exact Sel.head | apply Sel.tail)) (by first | rfl | assumption) (by kernel_rfl) ?_) | (refine wpM_loadR (ty := 42) HM rfl rfl rfl (by repeat (first | exact Sel.head | apply Sel.tail)) (by first | rfl | assumption) (by kernel_rfl) ?_) | (refine wpM_store HM rfl rfl rfl (by (conv => lhs; whnf); try rfl) (by repeat (first | exact Sel.head | apply Sel.tail)) (by simp) (by kernel_rfl) (by rfl) ?_; clear HM; intro w HM; try simp only [List.set_cons_zero, List.set_cons_succ] at HM))
  refine (oright_any k key x _).mono ?_
  rintro e w ⟨rfl, hb⟩
  replace HM := HM.call hb
  clear hb
  rw [HOP.out]
  go_wp2_with (first | (refine wpM_loadAll (ty := 44) HM rfl rfl rfl (by repeat (first | exact Sel.head | apply Sel.tail)) (by exact HAC.out) ?_) | (refine wpM_storeAll HM rfl rfl rfl rfl (by repeat (first | exact Sel.head | apply Sel.tail)) (by rfl) (by kernel_rfl) (by rfl) ?_; clear HM; intro w HM) | (refine wpM_loadAll (ty := 30) HM rfl rfl rfl (by repeat (first | exact Sel.head | apply Sel.tail)) (by kernel_rfl) ?_) | (refine wpM_loadAll (ty := 26) HM rfl rfl rfl (by repeat (first | exact Sel.head | apply Sel.tail)) (by kernel_rfl) ?_) | (refine wpM_box (o := ⟨some 4, _, _, _, _, _⟩) HM rfl rfl rfl rfl ?_; clear HM; intro bC w HB HM; clear HB) | (refine wpM_box (o := ⟨some 5, _, _, _, _, _⟩) HM rfl rfl rfl rfl ?_; clear HM; intro bO w HB HM; clear HB) | (refine wpM_alloc (o := ⟨some 6, _, _, _, _, _⟩) HM rfl rfl zt_Cells rfl ?_; clear HM; intro bR w HB HM; clear HB) | (refine wpM_alloc (o := ⟨some 7, _, _, _, _, _⟩) HM rfl rfl zt_Answer rfl ?_; clear HM; intro bA w HB HM; clear HB) | (refine wpM_alloc (o := ⟨some 9, _, _, _, _, _⟩) HM rfl rfl zt_Slots rfl ?_; clear HM; intro bT w HB HM; clear HB) | (refine wpM_alloc (o := ⟨some 11, _, _, _, _, _⟩) HM rfl rfl zt_Answer rfl ?_; clear HM; intro bX w HB HM; clear HB) | (refine wpM_alloc (o := ⟨some 12, _, _, _, _, _⟩) HM rfl rfl zt_Cells rfl ?_; clear HM; intro bU w HB HM; clear HB) | (refine wpM_alloc (o := ⟨some 16, _, _, _, _, _⟩) HM rfl rfl zt_Answer rfl ?_; clear HM; intro bX w HB HM; clear HB) | (refine wpM_alloc (o := ⟨some 20, _, _, _, _, _⟩) HM rfl rfl zt_Answer rfl ?_; clear HM; intro bX w HB HM; clear HB) | (refine wpM_box HM rfl rfl rfl rfl ?_; clear HM; intro b w HB HM; clear HB) | (refine wpM_alloc HM rfl rfl zt_Cells rfl ?_; clear HM; intro b w HB HM; clear HB) | (refine wpM_alloc HM rfl rfl zt_Answer rfl ?_; clear HM; intro b w HB HM; clear HB) | (refine wpM_alloc HM rfl rfl zt_Slots rfl ?_; clear HM; intro b w HB HM; clear HB) | (refine wpM_load (ty := 3) HM rfl rfl rfl (by repeat (first | exact Sel.head | apply Sel.tail)) (by first | rfl | assumption) (by kernel_rfl) ?_) | (refine wpM_loadR (ty := 3) HM rfl rfl rfl (by repeat (first | exact Sel.head | apply Sel.tail)) (by first | rfl | assumption) (by kernel_rfl) ?_) | (refine wpM_load (ty := 42) HM rfl rfl rfl (by repeat (first | exact Sel.head | apply Sel.tail)) (by first | rfl | assumption) (by kernel_rfl) ?_) | (refine wpM_loadR (ty := 42) HM rfl rfl rfl (by repeat (first | exact Sel.head | apply Sel.tail)) (by first | rfl | assumption) (by kernel_rfl) ?_) | (refine wpM_store HM rfl rfl rfl (by (conv => lhs; whnf); try rfl) (by repeat (first | exact Sel.head | apply Sel.tail)) (by simp) (by kernel_rfl) (by rfl) ?_; clear HM; intro w HM; try simp only [List.set_cons_zero, List.set_cons_succ] at HM))
  refine (right_list3 _ l hl HRR.out).mono ?_
  rintro e w ⟨rfl, hb⟩
  replace HM := HM.call hb
  clear hb
  go_wp2_with (first | (refine wpM_loadAll (ty := 44) HM rfl rfl rfl (by repeat (first | exact Sel.head | apply Sel.tail)) (by exact HAC.out) ?_) | (refine wpM_storeAll HM rfl rfl rfl rfl (by repeat (first | exact Sel.head | apply Sel.tail)) (by rfl) (by kernel_rfl) (by rfl) ?_; clear HM; intro w HM) | (refine wpM_loadAll (ty := 30) HM rfl rfl rfl (by repeat (first | exact Sel.head | apply Sel.tail)) (by kernel_rfl) ?_) | (refine wpM_loadAll (ty := 26) HM rfl rfl rfl (by repeat (first | exact Sel.head | apply Sel.tail)) (by kernel_rfl) ?_) | (refine wpM_box (o := ⟨some 4, _, _, _, _, _⟩) HM rfl rfl rfl rfl ?_; clear HM; intro bC w HB HM; clear HB) | (refine wpM_box (o := ⟨some 5, _, _, _, _, _⟩) HM rfl rfl rfl rfl ?_; clear HM; intro bO w HB HM; clear HB) | (refine wpM_alloc (o := ⟨some 6, _, _, _, _, _⟩) HM rfl rfl zt_Cells rfl ?_; clear HM; intro bR w HB HM; clear HB) | (refine wpM_alloc (o := ⟨some 7, _, _, _, _, _⟩) HM rfl rfl zt_Answer rfl ?_; clear HM; intro bA w HB HM; clear HB) | (refine wpM_alloc (o := ⟨some 9, _, _, _, _, _⟩) HM rfl rfl zt_Slots rfl ?_; clear HM; intro bT w HB HM; clear HB) | (refine wpM_alloc (o := ⟨some 11, _, _, _, _, _⟩) HM rfl rfl zt_Answer rfl ?_; clear HM; intro bX w HB HM; clear HB) | (refine wpM_alloc (o := ⟨some 12, _, _, _, _, _⟩) HM rfl rfl zt_Cells rfl ?_; clear HM; intro bU w HB HM; clear HB) | (refine wpM_alloc (o := ⟨some 16, _, _, _, _, _⟩) HM rfl rfl zt_Answer rfl ?_; clear HM; intro bX w HB HM; clear HB) | (refine wpM_alloc (o := ⟨some 20, _, _, _, _, _⟩) HM rfl rfl zt_Answer rfl ?_; clear HM; intro bX w HB HM; clear HB) | (refine wpM_box HM rfl rfl rfl rfl ?_; clear HM; intro b w HB HM; clear HB) | (refine wpM_alloc HM rfl rfl zt_Cells rfl ?_; clear HM; intro b w HB HM; clear HB) | (refine wpM_alloc HM rfl rfl zt_Answer rfl ?_; clear HM; intro b w HB HM; clear HB) | (refine wpM_alloc HM rfl rfl zt_Slots rfl ?_; clear HM; intro b w HB HM; clear HB) | (refine wpM_load (ty := 3) HM rfl rfl rfl (by repeat (first | exact Sel.head | apply Sel.tail)) (by first | rfl | assumption) (by kernel_rfl) ?_) | (refine wpM_loadR (ty := 3) HM rfl rfl rfl (by repeat (first | exact Sel.head | apply Sel.tail)) (by first | rfl | assumption) (by kernel_rfl) ?_) | (refine wpM_load (ty := 42) HM rfl rfl rfl (by repeat (first | exact Sel.head | apply Sel.tail)) (by first | rfl | assumption) (by kernel_rfl) ?_) | (refine wpM_loadR (ty := 42) HM rfl rfl rfl (by repeat (first | exact Sel.head | apply Sel.tail)) (by first | rfl | assumption) (by kernel_rfl) ?_) | (refine wpM_store HM rfl rfl rfl (by (conv => lhs; whnf); try rfl) (by repeat (first | exact Sel.head | apply Sel.tail)) (by simp) (by kernel_rfl) (by rfl) ?_; clear HM; intro w HM; try simp only [List.set_cons_zero, List.set_cons_succ] at HM))
  refine (list_any _ l hl HRR.out).mono ?_
  rintro e w ⟨p, c9, rfl, ho, hb⟩
  replace HM := HM.got hb ho
  change Mem W _ (.row _ 3 1 (l).length (vals (l)) :: _) w at HM
  clear ho hb
  go_wp2_with (first | (refine wpM_loadAll (ty := 44) HM rfl rfl rfl (by repeat (first | exact Sel.head | apply Sel.tail)) (by exact HAC.out) ?_) | (refine wpM_makeMap HM rfl rfl ?_; clear HM; intro r1 w HM) | (refine wpM_insert (kv := .int .i64 1) HM rfl rfl rfl rfl rfl (by repeat (first | exact Sel.head | apply Sel.tail)) Try.underlying78 (fun w' => by kernel_rfl) (fun w' => by kernel_rfl) ?_; clear HM; intro w HM) | (refine wpM_insert (kv := .int .i64 2) HM rfl rfl rfl rfl rfl (by repeat (first | exact Sel.head | apply Sel.tail)) Try.underlying78 (fun w' => by kernel_rfl) (fun w' => by kernel_rfl) ?_; clear HM; intro w HM) | (refine wpM_insert (kv := .int .i64 3) HM rfl rfl rfl rfl rfl (by repeat (first | exact Sel.head | apply Sel.tail)) Try.underlying78 (fun w' => by kernel_rfl) (fun w' => by kernel_rfl) ?_; clear HM; intro w HM) | (refine wpM_insert (kv := .int .i64 4) HM rfl rfl rfl rfl rfl (by repeat (first | exact Sel.head | apply Sel.tail)) Try.underlying78 (fun w' => by kernel_rfl) (fun w' => by kernel_rfl) ?_; clear HM; intro w HM) | (refine wpM_lookup (i := 2) (xv := .func (.func 27) #[] #[]) HM rfl rfl rfl rfl (by repeat (first | exact Sel.head | apply Sel.tail)) Try.underlying78 (fun w' => by kernel_rfl) (fun w' => by kernel_rfl) ?_) | (refine wpM_storeAll HM rfl rfl rfl rfl (by repeat (first | exact Sel.head | apply Sel.tail)) (by rfl) (by kernel_rfl) (by rfl) ?_; clear HM; intro w HM) | (refine wpM_loadAll (ty := 30) HM rfl rfl rfl (by repeat (first | exact Sel.head | apply Sel.tail)) (by kernel_rfl) ?_) | (refine wpM_loadAll (ty := 26) HM rfl rfl rfl (by repeat (first | exact Sel.head | apply Sel.tail)) (by kernel_rfl) ?_) | (refine wpM_box (o := ⟨some 4, _, _, _, _, _⟩) HM rfl rfl rfl rfl ?_; clear HM; intro bC w HB HM; clear HB) | (refine wpM_box (o := ⟨some 5, _, _, _, _, _⟩) HM rfl rfl rfl rfl ?_; clear HM; intro bO w HB HM; clear HB) | (refine wpM_alloc (o := ⟨some 6, _, _, _, _, _⟩) HM rfl rfl zt_Cells rfl ?_; clear HM; intro bR w HB HM; clear HB) | (refine wpM_alloc (o := ⟨some 7, _, _, _, _, _⟩) HM rfl rfl zt_Answer rfl ?_; clear HM; intro bA w HB HM; clear HB) | (refine wpM_alloc (o := ⟨some 9, _, _, _, _, _⟩) HM rfl rfl zt_Slots rfl ?_; clear HM; intro bT w HB HM; clear HB) | (refine wpM_alloc (o := ⟨some 11, _, _, _, _, _⟩) HM rfl rfl zt_Answer rfl ?_; clear HM; intro bX w HB HM; clear HB) | (refine wpM_alloc (o := ⟨some 12, _, _, _, _, _⟩) HM rfl rfl zt_Cells rfl ?_; clear HM; intro bU w HB HM; clear HB) | (refine wpM_alloc (o := ⟨some 16, _, _, _, _, _⟩) HM rfl rfl zt_Answer rfl ?_; clear HM; intro bX w HB HM; clear HB) | (refine wpM_alloc (o := ⟨some 20, _, _, _, _, _⟩) HM rfl rfl zt_Answer rfl ?_; clear HM; intro bX w HB HM; clear HB) | (refine wpM_box HM rfl rfl rfl rfl ?_; clear HM; intro b w HB HM; clear HB) | (refine wpM_alloc HM rfl rfl zt_Cells rfl ?_; clear HM; intro b w HB HM; clear HB) | (refine wpM_alloc HM rfl rfl zt_Answer rfl ?_; clear HM; intro b w HB HM; clear HB) | (refine wpM_alloc HM rfl rfl zt_Slots rfl ?_; clear HM; intro b w HB HM; clear HB) | (refine wpM_load (ty := 3) HM rfl rfl rfl (by repeat (first | exact Sel.head | apply Sel.tail)) (by first | rfl | assumption) (by kernel_rfl) ?_) | (refine wpM_loadR (ty := 3) HM rfl rfl rfl (by repeat (first | exact Sel.head | apply Sel.tail)) (by first | rfl | assumption) (by kernel_rfl) ?_) | (refine wpM_load (ty := 42) HM rfl rfl rfl (by repeat (first | exact Sel.head | apply Sel.tail)) (by first | rfl | assumption) (by kernel_rfl) ?_) | (refine wpM_loadR (ty := 42) HM rfl rfl rfl (by repeat (first | exact Sel.head | apply Sel.tail)) (by first | rfl | assumption) (by kernel_rfl) ?_) | (refine wpM_store HM rfl rfl rfl (by (conv => lhs; whnf); try rfl) (by repeat (first | exact Sel.head | apply Sel.tail)) (by simp) (by kernel_rfl) (by rfl) ?_; clear HM; intro w HM; try simp only [List.set_cons_zero, List.set_cons_succ] at HM))
  refine (deque_eq _ _ l k key x (HM.sl (xs := l) (.tail .head)) (by omega) E0.out).mono ?_
  rintro e w ⟨v2, rfl, ho, hb⟩
  replace HM := HM.got hb ho
  change Mem W _ (.row _ 3 1 (ys).length (vals (ys)) :: _) w at HM
  clear ho hb
  obtain ⟨p2, c2, rfl, -⟩ := ownsRow.form (HM.row .head)
  go_upto_region 20 with (first | (refine wpM_loadAll (ty := 44) HM rfl rfl rfl (by repeat (first | exact Sel.head | apply Sel.tail)) (by exact HAC.out) ?_) | (refine wpM_storeAll HM rfl rfl rfl rfl (by repeat (first | exact Sel.head | apply Sel.tail)) (by rfl) (by kernel_rfl) (by rfl) ?_; clear HM; intro w HM) | (refine wpM_loadAll (ty := 30) HM rfl rfl rfl (by repeat (first | exact Sel.head | apply Sel.tail)) (by kernel_rfl) ?_) | (refine wpM_loadAll (ty := 26) HM rfl rfl rfl (by repeat (first | exact Sel.head | apply Sel.tail)) (by kernel_rfl) ?_) | (refine wpM_box (o := ⟨some 4, _, _, _, _, _⟩) HM rfl rfl rfl rfl ?_; clear HM; intro bC w HB HM; clear HB) | (refine wpM_box (o := ⟨some 5, _, _, _, _, _⟩) HM rfl rfl rfl rfl ?_; clear HM; intro bO w HB HM; clear HB) | (refine wpM_alloc (o := ⟨some 6, _, _, _, _, _⟩) HM rfl rfl zt_Cells rfl ?_; clear HM; intro bR w HB HM; clear HB) | (refine wpM_alloc (o := ⟨some 7, _, _, _, _, _⟩) HM rfl rfl zt_Answer rfl ?_; clear HM; intro bA w HB HM; clear HB) | (refine wpM_alloc (o := ⟨some 9, _, _, _, _, _⟩) HM rfl rfl zt_Slots rfl ?_; clear HM; intro bT w HB HM; clear HB) | (refine wpM_alloc (o := ⟨some 11, _, _, _, _, _⟩) HM rfl rfl zt_Answer rfl ?_; clear HM; intro bX w HB HM; clear HB) | (refine wpM_alloc (o := ⟨some 12, _, _, _, _, _⟩) HM rfl rfl zt_Cells rfl ?_; clear HM; intro bU w HB HM; clear HB) | (refine wpM_alloc (o := ⟨some 16, _, _, _, _, _⟩) HM rfl rfl zt_Answer rfl ?_; clear HM; intro bX w HB HM; clear HB) | (refine wpM_alloc (o := ⟨some 20, _, _, _, _, _⟩) HM rfl rfl zt_Answer rfl ?_; clear HM; intro bX w HB HM; clear HB) | (refine wpM_box HM rfl rfl rfl rfl ?_; clear HM; intro b w HB HM; clear HB) | (refine wpM_alloc HM rfl rfl zt_Cells rfl ?_; clear HM; intro b w HB HM; clear HB) | (refine wpM_alloc HM rfl rfl zt_Answer rfl ?_; clear HM; intro b w HB HM; clear HB) | (refine wpM_alloc HM rfl rfl zt_Slots rfl ?_; clear HM; intro b w HB HM; clear HB) | (refine wpM_load (ty := 3) HM rfl rfl rfl (by repeat (first | exact Sel.head | apply Sel.tail)) (by first | rfl | assumption) (by kernel_rfl) ?_) | (refine wpM_loadR (ty := 3) HM rfl rfl rfl (by repeat (first | exact Sel.head | apply Sel.tail)) (by first | rfl | assumption) (by kernel_rfl) ?_) | (refine wpM_load (ty := 42) HM rfl rfl rfl (by repeat (first | exact Sel.head | apply Sel.tail)) (by first | rfl | assumption) (by kernel_rfl) ?_) | (refine wpM_loadR (ty := 42) HM rfl rfl rfl (by repeat (first | exact Sel.head | apply Sel.tail)) (by first | rfl | assumption) (by kernel_rfl) ?_) | (refine wpM_store HM rfl rfl rfl (by (conv => lhs; whnf); try rfl) (by repeat (first | exact Sel.head | apply Sel.tail)) (by simp) (by kernel_rfl) (by rfl) ?_; clear HM; intro w HM; try simp only [List.set_cons_zero, List.set_cons_succ] at HM))
  replace HM := HM.sub (M' := [.blk bX [.int .i64 c, .int .i64 r] 26, .row (.slice p2 ys.length c2) 3 1 ys.length (vals ys), .blk bA [.int .i64 0, .int .i64 0] 26, .blk bR (u64s (List.replicate 17 0)) 44]) (by repeat (first | exact List.Sublist.refl _ | apply List.Sublist.cons_cons | apply List.Sublist.cons))
  refine wp_region_M HM (fun ix => match ix with | 0 => [.blk bX [.int .i64 c, .int .i64 r] 26, .row (.slice p2 ys.length c2) 3 1 ys.length (vals ys), .blk bA [.int .i64 0, .int .i64 0] 26, .blk bR (u64s (List.replicate 17 0)) 44] | 1 => [.blk bX [.int .i64 c, .int .i64 r] 26, .row (.slice p2 ys.length c2) 3 1 ys.length (vals ys), .blk bA [.int .i64 0, .int .i64 0] 26, .blk bR (spl (u64s (List.replicate 17 0)) 0 (u64s (lstC ys))) 44] | _ => [.blk bX [.int .i64 c, .int .i64 r] 26, .row (.slice p2 ys.length c2) 3 1 ys.length (vals ys), .blk bA (spl [.int .i64 0, .int .i64 0] 0 [.int .i64 c, .int .i64 r]) 26, .blk bR (spl (u64s (List.replicate 17 0)) 0 (u64s (lstC ys))) 44]) rfl (by kernel_rfl) (by kernel_rfl) ?_
  refine wpB_pure (v := ?v5) (by kernel_rfl) (by kernel_rfl) (fun w' => ?h5) (fun K hK => ?k5)
  case h5 =>
    go_simp
    try rfl
  go_simp
  refine hK _ ?_
  clear hK K
  (refine wpB_callM0 _ _ (by kernel_rfl) (by kernel_rfl) (by kernel_rfl) (fun w' => by kernel_rfl) (fun w HM => (listed_any _ _ ys (HM.sl (xs := ys) (by repeat (first | exact Sel.head | apply Sel.tail))) (by have := HLW.out.len; simpa using this) (by have := HLW.out.inr; simpa using this))) (fun K hK => ?_))
  go_simp
  refine hK _ ?_
  clear hK K
  (refine wpB_loadMA1 (n := 2) (by kernel_rfl) (by kernel_rfl) (by kernel_rfl) rfl rfl (by repeat (first | exact Sel.head | apply Sel.tail)) (by repeat (first | exact Sel.head | apply Sel.tail)) (by kernel_rfl) (by exact Nat.le_refl _) (fun K hK => ?_))
  go_simp
  refine hK _ ?_
  clear hK K
  (refine wpB_storeMA (by kernel_rfl) (by kernel_rfl) rfl rfl rfl (by repeat (first | exact Sel.head | apply Sel.tail)) (HYL.out) (by exact Nat.le_refl _) (by kernel_rfl) (fun v hv => List.all_eq_true.1 (cells_all (lstC ys)) v hv) rfl (fun K hK => ?_))
  go_simp
  refine hK _ ?_
  clear hK K
  (refine wpB_storeMA (by kernel_rfl) (by kernel_rfl) rfl rfl rfl (by repeat (first | exact Sel.head | apply Sel.tail)) (by rfl) (by exact Nat.le_refl _) (by kernel_rfl) (two_ints _ _) rfl (fun K hK => ?_))
  go_simp
  refine hK _ ?_
  clear hK K
  refine wpB_pure (v := ?v6) (by kernel_rfl) (by kernel_rfl) (fun w' => ?h6) (fun K hK => ?k6)
  case h6 =>
    go_simp
    try rfl
  go_simp
  refine hK _ ?_
  clear hK K
  refine wpB_nil (fun w HM => ?_)
  have HSP : Hid (spl (u64s (List.replicate 17 0)) 0 (u64s (lstC ys)) = u64s (lstC ys)) := Lib.hid (spl_whole _ _ (by rw [HYL.out]; rfl))
  change Mem W _ [.blk bX [.int .i64 c, .int .i64 r] 26, .row (.slice p2 ys.length c2) 3 1 ys.length (vals ys), .blk bA [.int .i64 c, .int .i64 r] 26, .blk bR (spl (u64s (List.replicate 17 0)) 0 (u64s (lstC ys))) 44] w at HM
  rw [HSP.out] at HM
  go_wp2_with (first | (refine wpM_storeAll HM rfl rfl rfl rfl (by repeat (first | exact Sel.head | apply Sel.tail)) (by rfl) (by kernel_rfl) (by rfl) ?_; clear HM; intro w HM) | (refine wpM_loadAll (ty := 30) HM rfl rfl rfl (by repeat (first | exact Sel.head | apply Sel.tail)) (by kernel_rfl) ?_) | (refine wpM_loadAll (ty := 26) HM rfl rfl rfl (by repeat (first | exact Sel.head | apply Sel.tail)) (by kernel_rfl) ?_) | (refine wpM_box (o := ⟨some 4, _, _, _, _, _⟩) HM rfl rfl rfl rfl ?_; clear HM; intro bC w HB HM; clear HB) | (refine wpM_box (o := ⟨some 5, _, _, _, _, _⟩) HM rfl rfl rfl rfl ?_; clear HM; intro bO w HB HM; clear HB) | (refine wpM_alloc (o := ⟨some 6, _, _, _, _, _⟩) HM rfl rfl zt_Cells rfl ?_; clear HM; intro bR w HB HM; clear HB) | (refine wpM_alloc (o := ⟨some 7, _, _, _, _, _⟩) HM rfl rfl zt_Answer rfl ?_; clear HM; intro bA w HB HM; clear HB) | (refine wpM_alloc (o := ⟨some 9, _, _, _, _, _⟩) HM rfl rfl zt_Slots rfl ?_; clear HM; intro bT w HB HM; clear HB) | (refine wpM_alloc (o := ⟨some 11, _, _, _, _, _⟩) HM rfl rfl zt_Answer rfl ?_; clear HM; intro bX w HB HM; clear HB) | (refine wpM_alloc (o := ⟨some 12, _, _, _, _, _⟩) HM rfl rfl zt_Cells rfl ?_; clear HM; intro bU w HB HM; clear HB) | (refine wpM_alloc (o := ⟨some 16, _, _, _, _, _⟩) HM rfl rfl zt_Answer rfl ?_; clear HM; intro bX w HB HM; clear HB) | (refine wpM_alloc (o := ⟨some 20, _, _, _, _, _⟩) HM rfl rfl zt_Answer rfl ?_; clear HM; intro bX w HB HM; clear HB) | (refine wpM_box HM rfl rfl rfl rfl ?_; clear HM; intro b w HB HM; clear HB) | (refine wpM_alloc HM rfl rfl zt_Cells rfl ?_; clear HM; intro b w HB HM; clear HB) | (refine wpM_alloc HM rfl rfl zt_Answer rfl ?_; clear HM; intro b w HB HM; clear HB) | (refine wpM_alloc HM rfl rfl zt_Slots rfl ?_; clear HM; intro b w HB HM; clear HB) | (refine wpM_load (ty := 3) HM rfl rfl rfl (by repeat (first | exact Sel.head | apply Sel.tail)) (by first | rfl | assumption) (by kernel_rfl) ?_) | (refine wpM_loadR (ty := 3) HM rfl rfl rfl (by repeat (first | exact Sel.head | apply Sel.tail)) (by first | rfl | assumption) (by kernel_rfl) ?_) | (refine wpM_load (ty := 42) HM rfl rfl rfl (by repeat (first | exact Sel.head | apply Sel.tail)) (by first | rfl | assumption) (by kernel_rfl) ?_) | (refine wpM_loadR (ty := 42) HM rfl rfl rfl (by repeat (first | exact Sel.head | apply Sel.tail)) (by first | rfl | assumption) (by kernel_rfl) ?_) | (refine wpM_store HM rfl rfl rfl (by (conv => lhs; whnf); try rfl) (by repeat (first | exact Sel.head | apply Sel.tail)) (by simp) (by kernel_rfl) (by rfl) ?_; clear HM; intro w HM; try simp only [List.set_cons_zero, List.set_cons_succ] at HM))
  exact bodyPost_ret (v := .tuple #[.agg (u64s (lstC ys)).toArray, .agg #[.int .i64 c, .int .i64 r], .nilIface]) (resM_cct HM rfl (by rfl) (by rfl) (by repeat (first | exact Sel.head | apply Sel.tail)) (by rw [HYL.out]; exact HAB.out) (by rfl) (by repeat (first | exact Sel.head | apply Sel.tail)) (by kernel_rfl)) rfl ⟨rfl, HM.below⟩
set_option maxRecDepth 20000 in
set_option maxHeartbeats 4000000 in
theorem do_list4 (W : World) (l : List Int) (hl : l.length ≤ 6) (hr : InR l) (hh : IsHeap l) (k key x : Int) (hop : opOk k key x = true) {ys : List Int} {c r : Int} (e0 : lstR 4 l k x = (ys, c, r)) :
    Calls Try.prog 36 #[.int .i64 4, .agg (u64s (lstC l)).toArray, .agg #[.int .i64 k, .int .i64 key, .int .i64 x]] W fun e w' =>
      e = .returned (.tuple #[.agg (u64s (lstC ys)).toArray, .agg #[.int .i64 c, .int .i64 r], .nilIface]) ∧ Below W.heap.size W w' := by
  have HOP := Lib.hid hop
  clear hop
  obtain ⟨o1, o2, o3, o4, o5, o6⟩ := of_decide_eq_true (show decide _ = true from HOP.out)
  have hlw := (lst_law 4 l k x hl hr o5 o6 ⟨o1, o2⟩ (by decide) (by decide)).1
  rw [e0] at hlw
  have HLW := Lib.hid hlw
  have HHB : Hid (heapB l = true) := Lib.hid ((heapB_iff l).2 ⟨hh, hl⟩)
  clear hh
  have HAC := Lib.hid (cells_agg (lstC l) (lstC_len l (by omega)))
  have HYL : Hid ((u64s (lstC ys)).length = 17) := Lib.hid (by rw [u64s_len, lstC_len ys (by have := hlw.len; simp at this; omega)])
  have HAB : Hid (aggB Try.prog 44 17 = true) := Lib.hid (by kernel_rfl)
  have HRR := Lib.hid hr
  have E0 : Hid (heapR l k x = (ys, c, r)) := Lib.hid (by simpa [lstR] using e0)
  have HM := Mem.start W
  clear hlw e0 o1 o2 o3 o4 o5 o6 hr
  go_enter Try.func36, Try.ntmps36
  go_wp2_with (first | (refine wpM_loadAll (ty := 44) HM rfl rfl rfl (by repeat (first | exact Sel.head | apply Sel.tail)) (by exact HAC.out) ?_) | (refine wpM_storeAll HM rfl rfl rfl rfl (by repeat (first | exact Sel.head | apply Sel.tail)) (by rfl) (by kernel_rfl) (by rfl) ?_; clear HM; intro w HM) | (refine wpM_loadAll (ty := 30) HM rfl rfl rfl (by repeat (first | exact Sel.head | apply Sel.tail)) (by kernel_rfl) ?_) | (refine wpM_loadAll (ty := 26) HM rfl rfl rfl (by repeat (first | exact Sel.head | apply Sel.tail)) (by kernel_rfl) ?_) | (refine wpM_box (o := ⟨some 4, _, _, _, _, _⟩) HM rfl rfl rfl rfl ?_; clear HM; intro bC w HB HM; clear HB) | (refine wpM_box (o := ⟨some 5, _, _, _, _, _⟩) HM rfl rfl rfl rfl ?_; clear HM; intro bO w HB HM; clear HB) | (refine wpM_alloc (o := ⟨some 6, _, _, _, _, _⟩) HM rfl rfl zt_Cells rfl ?_; clear HM; intro bR w HB HM; clear HB) | (refine wpM_alloc (o := ⟨some 7, _, _, _, _, _⟩) HM rfl rfl zt_Answer rfl ?_; clear HM; intro bA w HB HM; clear HB) | (refine wpM_alloc (o := ⟨some 9, _, _, _, _, _⟩) HM rfl rfl zt_Slots rfl ?_; clear HM; intro bT w HB HM; clear HB) | (refine wpM_alloc (o := ⟨some 11, _, _, _, _, _⟩) HM rfl rfl zt_Answer rfl ?_; clear HM; intro bX w HB HM; clear HB) | (refine wpM_alloc (o := ⟨some 12, _, _, _, _, _⟩) HM rfl rfl zt_Cells rfl ?_; clear HM; intro bU w HB HM; clear HB) | (refine wpM_alloc (o := ⟨some 16, _, _, _, _, _⟩) HM rfl rfl zt_Answer rfl ?_; clear HM; intro bX w HB HM; clear HB) | (refine wpM_alloc (o := ⟨some 20, _, _, _, _, _⟩) HM rfl rfl zt_Answer rfl ?_; clear HM; intro bX w HB HM; clear HB) | (refine wpM_box HM rfl rfl rfl rfl ?_; clear HM; intro b w HB HM; clear HB) | (refine wpM_alloc HM rfl rfl zt_Cells rfl ?_; clear HM; intro b w HB HM; clear HB) | (refine wpM_alloc HM rfl rfl zt_Answer rfl ?_; clear HM; intro b w HB HM; clear HB) | (refine wpM_alloc HM rfl rfl zt_Slots rfl ?_; clear HM; intro b w HB HM; clear HB) | (refine wpM_load (ty := 3) HM rfl rfl rfl (by repeat (first | exact Sel.head | apply Sel.tail)) (by first | rfl | assumption) (by kernel_rfl) ?_) | (refine wpM_loadR (ty := 3) HM rfl rfl rfl (by repeat (first | exact Sel.head | apply Sel.tail)) (by first | rfl | assumption) (by kernel_rfl) ?_) | (refine wpM_load (ty := 42) HM rfl rfl rfl (by repeat (first | exact Sel.head | apply Sel.tail)) (by first | rfl | assumption) (by kernel_rfl) ?_) | (refine wpM_loadR (ty := 42) HM rfl rfl rfl (by repeat (first | exact Sel.head | apply Sel.tail)) (by first | rfl | assumption) (by kernel_rfl) ?_) | (refine wpM_store HM rfl rfl rfl (by (conv => lhs; whnf); try rfl) (by repeat (first | exact Sel.head | apply Sel.tail)) (by simp) (by kernel_rfl) (by rfl) ?_; clear HM; intro w HM; try simp only [List.set_cons_zero, List.set_cons_succ] at HM))
  refine (oright_any k key x _).mono ?_
  rintro e w ⟨rfl, hb⟩
  replace HM := HM.call hb
  clear hb
  rw [HOP.out]
  go_wp2_with (first | (refine wpM_loadAll (ty := 44) HM rfl rfl rfl (by repeat (first | exact Sel.head | apply Sel.tail)) (by exact HAC.out) ?_) | (refine wpM_storeAll HM rfl rfl rfl rfl (by repeat (first | exact Sel.head | apply Sel.tail)) (by rfl) (by kernel_rfl) (by rfl) ?_; clear HM; intro w HM) | (refine wpM_loadAll (ty := 30) HM rfl rfl rfl (by repeat (first | exact Sel.head | apply Sel.tail)) (by kernel_rfl) ?_) | (refine wpM_loadAll (ty := 26) HM rfl rfl rfl (by repeat (first | exact Sel.head | apply Sel.tail)) (by kernel_rfl) ?_) | (refine wpM_box (o := ⟨some 4, _, _, _, _, _⟩) HM rfl rfl rfl rfl ?_; clear HM; intro bC w HB HM; clear HB) | (refine wpM_box (o := ⟨some 5, _, _, _, _, _⟩) HM rfl rfl rfl rfl ?_; clear HM; intro bO w HB HM; clear HB) | (refine wpM_alloc (o := ⟨some 6, _, _, _, _, _⟩) HM rfl rfl zt_Cells rfl ?_; clear HM; intro bR w HB HM; clear HB) | (refine wpM_alloc (o := ⟨some 7, _, _, _, _, _⟩) HM rfl rfl zt_Answer rfl ?_; clear HM; intro bA w HB HM; clear HB) | (refine wpM_alloc (o := ⟨some 9, _, _, _, _, _⟩) HM rfl rfl zt_Slots rfl ?_; clear HM; intro bT w HB HM; clear HB) | (refine wpM_alloc (o := ⟨some 11, _, _, _, _, _⟩) HM rfl rfl zt_Answer rfl ?_; clear HM; intro bX w HB HM; clear HB) | (refine wpM_alloc (o := ⟨some 12, _, _, _, _, _⟩) HM rfl rfl zt_Cells rfl ?_; clear HM; intro bU w HB HM; clear HB) | (refine wpM_alloc (o := ⟨some 16, _, _, _, _, _⟩) HM rfl rfl zt_Answer rfl ?_; clear HM; intro bX w HB HM; clear HB) | (refine wpM_alloc (o := ⟨some 20, _, _, _, _, _⟩) HM rfl rfl zt_Answer rfl ?_; clear HM; intro bX w HB HM; clear HB) | (refine wpM_box HM rfl rfl rfl rfl ?_; clear HM; intro b w HB HM; clear HB) | (refine wpM_alloc HM rfl rfl zt_Cells rfl ?_; clear HM; intro b w HB HM; clear HB) | (refine wpM_alloc HM rfl rfl zt_Answer rfl ?_; clear HM; intro b w HB HM; clear HB) | (refine wpM_alloc HM rfl rfl zt_Slots rfl ?_; clear HM; intro b w HB HM; clear HB) | (refine wpM_load (ty := 3) HM rfl rfl rfl (by repeat (first | exact Sel.head | apply Sel.tail)) (by first | rfl | assumption) (by kernel_rfl) ?_) | (refine wpM_loadR (ty := 3) HM rfl rfl rfl (by repeat (first | exact Sel.head | apply Sel.tail)) (by first | rfl | assumption) (by kernel_rfl) ?_) | (refine wpM_load (ty := 42) HM rfl rfl rfl (by repeat (first | exact Sel.head | apply Sel.tail)) (by first | rfl | assumption) (by kernel_rfl) ?_) | (refine wpM_loadR (ty := 42) HM rfl rfl rfl (by repeat (first | exact Sel.head | apply Sel.tail)) (by first | rfl | assumption) (by kernel_rfl) ?_) | (refine wpM_store HM rfl rfl rfl (by (conv => lhs; whnf); try rfl) (by repeat (first | exact Sel.head | apply Sel.tail)) (by simp) (by kernel_rfl) (by rfl) ?_; clear HM; intro w HM; try simp only [List.set_cons_zero, List.set_cons_succ] at HM))
  refine (right_list4 _ l hl HRR.out).mono ?_
  rintro e w ⟨rfl, hb⟩
  replace HM := HM.call hb
  clear hb
  rw [HHB.out]
  go_wp2_with (first | (refine wpM_loadAll (ty := 44) HM rfl rfl rfl (by repeat (first | exact Sel.head | apply Sel.tail)) (by exact HAC.out) ?_) | (refine wpM_storeAll HM rfl rfl rfl rfl (by repeat (first | exact Sel.head | apply Sel.tail)) (by rfl) (by kernel_rfl) (by rfl) ?_; clear HM; intro w HM) | (refine wpM_loadAll (ty := 30) HM rfl rfl rfl (by repeat (first | exact Sel.head | apply Sel.tail)) (by kernel_rfl) ?_) | (refine wpM_loadAll (ty := 26) HM rfl rfl rfl (by repeat (first | exact Sel.head | apply Sel.tail)) (by kernel_rfl) ?_) | (refine wpM_box (o := ⟨some 4, _, _, _, _, _⟩) HM rfl rfl rfl rfl ?_; clear HM; intro bC w HB HM; clear HB) | (refine wpM_box (o := ⟨some 5, _, _, _, _, _⟩) HM rfl rfl rfl rfl ?_; clear HM; intro bO w HB HM; clear HB) | (refine wpM_alloc (o := ⟨some 6, _, _, _, _, _⟩) HM rfl rfl zt_Cells rfl ?_; clear HM; intro bR w HB HM; clear HB) | (refine wpM_alloc (o := ⟨some 7, _, _, _, _, _⟩) HM rfl rfl zt_Answer rfl ?_; clear HM; intro bA w HB HM; clear HB) | (refine wpM_alloc (o := ⟨some 9, _, _, _, _, _⟩) HM rfl rfl zt_Slots rfl ?_; clear HM; intro bT w HB HM; clear HB) | (refine wpM_alloc (o := ⟨some 11, _, _, _, _, _⟩) HM rfl rfl zt_Answer rfl ?_; clear HM; intro bX w HB HM; clear HB) | (refine wpM_alloc (o := ⟨some 12, _, _, _, _, _⟩) HM rfl rfl zt_Cells rfl ?_; clear HM; intro bU w HB HM; clear HB) | (refine wpM_alloc (o := ⟨some 16, _, _, _, _, _⟩) HM rfl rfl zt_Answer rfl ?_; clear HM; intro bX w HB HM; clear HB) | (refine wpM_alloc (o := ⟨some 20, _, _, _, _, _⟩) HM rfl rfl zt_Answer rfl ?_; clear HM; intro bX w HB HM; clear HB) | (refine wpM_box HM rfl rfl rfl rfl ?_; clear HM; intro b w HB HM; clear HB) | (refine wpM_alloc HM rfl rfl zt_Cells rfl ?_; clear HM; intro b w HB HM; clear HB) | (refine wpM_alloc HM rfl rfl zt_Answer rfl ?_; clear HM; intro b w HB HM; clear HB) | (refine wpM_alloc HM rfl rfl zt_Slots rfl ?_; clear HM; intro b w HB HM; clear HB) | (refine wpM_load (ty := 3) HM rfl rfl rfl (by repeat (first | exact Sel.head | apply Sel.tail)) (by first | rfl | assumption) (by kernel_rfl) ?_) | (refine wpM_loadR (ty := 3) HM rfl rfl rfl (by repeat (first | exact Sel.head | apply Sel.tail)) (by first | rfl | assumption) (by kernel_rfl) ?_) | (refine wpM_load (ty := 42) HM rfl rfl rfl (by repeat (first | exact Sel.head | apply Sel.tail)) (by first | rfl | assumption) (by kernel_rfl) ?_) | (refine wpM_loadR (ty := 42) HM rfl rfl rfl (by repeat (first | exact Sel.head | apply Sel.tail)) (by first | rfl | assumption) (by kernel_rfl) ?_) | (refine wpM_store HM rfl rfl rfl (by (conv => lhs; whnf); try rfl) (by repeat (first | exact Sel.head | apply Sel.tail)) (by simp) (by kernel_rfl) (by rfl) ?_; clear HM; intro w HM; try simp only [List.set_cons_zero, List.set_cons_succ] at HM))
  refine (list_any _ l hl HRR.out).mono ?_
  rintro e w ⟨p, c9, rfl, ho, hb⟩
  replace HM := HM.got hb ho
  change Mem W _ (.row _ 3 1 (l).length (vals (l)) :: _) w at HM
  clear ho hb
  go_wp2_with (first | (refine wpM_loadAll (ty := 44) HM rfl rfl rfl (by repeat (first | exact Sel.head | apply Sel.tail)) (by exact HAC.out) ?_) | (refine wpM_makeMap HM rfl rfl ?_; clear HM; intro r1 w HM) | (refine wpM_insert (kv := .int .i64 1) HM rfl rfl rfl rfl rfl (by repeat (first | exact Sel.head | apply Sel.tail)) Try.underlying78 (fun w' => by kernel_rfl) (fun w' => by kernel_rfl) ?_; clear HM; intro w HM) | (refine wpM_insert (kv := .int .i64 2) HM rfl rfl rfl rfl rfl (by repeat (first | exact Sel.head | apply Sel.tail)) Try.underlying78 (fun w' => by kernel_rfl) (fun w' => by kernel_rfl) ?_; clear HM; intro w HM) | (refine wpM_insert (kv := .int .i64 3) HM rfl rfl rfl rfl rfl (by repeat (first | exact Sel.head | apply Sel.tail)) Try.underlying78 (fun w' => by kernel_rfl) (fun w' => by kernel_rfl) ?_; clear HM; intro w HM) | (refine wpM_insert (kv := .int .i64 4) HM rfl rfl rfl rfl rfl (by repeat (first | exact Sel.head | apply Sel.tail)) Try.underlying78 (fun w' => by kernel_rfl) (fun w' => by kernel_rfl) ?_; clear HM; intro w HM) | (refine wpM_lookup (i := 3) (xv := .func (.func 19) #[] #[]) HM rfl rfl rfl rfl (by repeat (first | exact Sel.head | apply Sel.tail)) Try.underlying78 (fun w' => by kernel_rfl) (fun w' => by kernel_rfl) ?_) | (refine wpM_storeAll HM rfl rfl rfl rfl (by repeat (first | exact Sel.head | apply Sel.tail)) (by rfl) (by kernel_rfl) (by rfl) ?_; clear HM; intro w HM) | (refine wpM_loadAll (ty := 30) HM rfl rfl rfl (by repeat (first | exact Sel.head | apply Sel.tail)) (by kernel_rfl) ?_) | (refine wpM_loadAll (ty := 26) HM rfl rfl rfl (by repeat (first | exact Sel.head | apply Sel.tail)) (by kernel_rfl) ?_) | (refine wpM_box (o := ⟨some 4, _, _, _, _, _⟩) HM rfl rfl rfl rfl ?_; clear HM; intro bC w HB HM; clear HB) | (refine wpM_box (o := ⟨some 5, _, _, _, _, _⟩) HM rfl rfl rfl rfl ?_; clear HM; intro bO w HB HM; clear HB) | (refine wpM_alloc (o := ⟨some 6, _, _, _, _, _⟩) HM rfl rfl zt_Cells rfl ?_; clear HM; intro bR w HB HM; clear HB) | (refine wpM_alloc (o := ⟨some 7, _, _, _, _, _⟩) HM rfl rfl zt_Answer rfl ?_; clear HM; intro bA w HB HM; clear HB) | (refine wpM_alloc (o := ⟨some 9, _, _, _, _, _⟩) HM rfl rfl zt_Slots rfl ?_; clear HM; intro bT w HB HM; clear HB) | (refine wpM_alloc (o := ⟨some 11, _, _, _, _, _⟩) HM rfl rfl zt_Answer rfl ?_; clear HM; intro bX w HB HM; clear HB) | (refine wpM_alloc (o := ⟨some 12, _, _, _, _, _⟩) HM rfl rfl zt_Cells rfl ?_; clear HM; intro bU w HB HM; clear HB) | (refine wpM_alloc (o := ⟨some 16, _, _, _, _, _⟩) HM rfl rfl zt_Answer rfl ?_; clear HM; intro bX w HB HM; clear HB) | (refine wpM_alloc (o := ⟨some 20, _, _, _, _, _⟩) HM rfl rfl zt_Answer rfl ?_; clear HM; intro bX w HB HM; clear HB) | (refine wpM_box HM rfl rfl rfl rfl ?_; clear HM; intro b w HB HM; clear HB) | (refine wpM_alloc HM rfl rfl zt_Cells rfl ?_; clear HM; intro b w HB HM; clear HB) | (refine wpM_alloc HM rfl rfl zt_Answer rfl ?_; clear HM; intro b w HB HM; clear HB) | (refine wpM_alloc HM rfl rfl zt_Slots rfl ?_; clear HM; intro b w HB HM; clear HB) | (refine wpM_load (ty := 3) HM rfl rfl rfl (by repeat (first | exact Sel.head | apply Sel.tail)) (by first | rfl | assumption) (by kernel_rfl) ?_) | (refine wpM_loadR (ty := 3) HM rfl rfl rfl (by repeat (first | exact Sel.head | apply Sel.tail)) (by first | rfl | assumption) (by kernel_rfl) ?_) | (refine wpM_load (ty := 42) HM rfl rfl rfl (by repeat (first | exact Sel.head | apply Sel.tail)) (by first | rfl | assumption) (by kernel_rfl) ?_) | (refine wpM_loadR (ty := 42) HM rfl rfl rfl (by repeat (first | exact Sel.head | apply Sel.tail)) (by first | rfl | assumption) (by kernel_rfl) ?_) | (refine wpM_store HM rfl rfl rfl (by (conv => lhs; whnf); try rfl) (by repeat (first | exact Sel.head | apply Sel.tail)) (by simp) (by kernel_rfl) (by rfl) ?_; clear HM; intro w HM; try simp only [List.set_cons_zero, List.set_cons_succ] at HM))
  refine (heap_eq _ _ l k key x (HM.sl (xs := l) (.tail .head)) (by omega) E0.out).mono ?_
  rintro e w ⟨p2, c2, rfl, ho, hb⟩
  replace HM := HM.got hb ho
  change Mem W _ (.row _ 3 1 (ys).length (vals (ys)) :: _) w at HM
  clear ho hb
  go_upto_region 20 with (first | (refine wpM_loadAll (ty := 44) HM rfl rfl rfl (by repeat (first | exact Sel.head | apply Sel.tail)) (by exact HAC.out) ?_) | (refine wpM_storeAll HM rfl rfl rfl rfl (by repeat (first | exact Sel.head | apply Sel.tail)) (by rfl) (by kernel_rfl) (by rfl) ?_; clear HM; intro w HM) | (refine wpM_loadAll (ty := 30) HM rfl rfl rfl (by repeat (first | exact Sel.head | apply Sel.tail)) (by kernel_rfl) ?_) | (refine wpM_loadAll (ty := 26) HM rfl rfl rfl (by repeat (first | exact Sel.head | apply Sel.tail)) (by kernel_rfl) ?_) | (refine wpM_box (o := ⟨some 4, _, _, _, _, _⟩) HM rfl rfl rfl rfl ?_; clear HM; intro bC w HB HM; clear HB) | (refine wpM_box (o := ⟨some 5, _, _, _, _, _⟩) HM rfl rfl rfl rfl ?_; clear HM; intro bO w HB HM; clear HB) | (refine wpM_alloc (o := ⟨some 6, _, _, _, _, _⟩) HM rfl rfl zt_Cells rfl ?_; clear HM; intro bR w HB HM; clear HB) | (refine wpM_alloc (o := ⟨some 7, _, _, _, _, _⟩) HM rfl rfl zt_Answer rfl ?_; clear HM; intro bA w HB HM; clear HB) | (refine wpM_alloc (o := ⟨some 9, _, _, _, _, _⟩) HM rfl rfl zt_Slots rfl ?_; clear HM; intro bT w HB HM; clear HB) | (refine wpM_alloc (o := ⟨some 11, _, _, _, _, _⟩) HM rfl rfl zt_Answer rfl ?_; clear HM; intro bX w HB HM; clear HB) | (refine wpM_alloc (o := ⟨some 12, _, _, _, _, _⟩) HM rfl rfl zt_Cells rfl ?_; clear HM; intro bU w HB HM; clear HB) | (refine wpM_alloc (o := ⟨some 16, _, _, _, _, _⟩) HM rfl rfl zt_Answer rfl ?_; clear HM; intro bX w HB HM; clear HB) | (refine wpM_alloc (o := ⟨some 20, _, _, _, _, _⟩) HM rfl rfl zt_Answer rfl ?_; clear HM; intro bX w HB HM; clear HB) | (refine wpM_box HM rfl rfl rfl rfl ?_; clear HM; intro b w HB HM; clear HB) | (refine wpM_alloc HM rfl rfl zt_Cells rfl ?_; clear HM; intro b w HB HM; clear HB) | (refine wpM_alloc HM rfl rfl zt_Answer rfl ?_; clear HM; intro b w HB HM; clear HB) | (refine wpM_alloc HM rfl rfl zt_Slots rfl ?_; clear HM; intro b w HB HM; clear HB) | (refine wpM_load (ty := 3) HM rfl rfl rfl (by repeat (first | exact Sel.head | apply Sel.tail)) (by first | rfl | assumption) (by kernel_rfl) ?_) | (refine wpM_loadR (ty := 3) HM rfl rfl rfl (by repeat (first | exact Sel.head | apply Sel.tail)) (by first | rfl | assumption) (by kernel_rfl) ?_) | (refine wpM_load (ty := 42) HM rfl rfl rfl (by repeat (first | exact Sel.head | apply Sel.tail)) (by first | rfl | assumption) (by kernel_rfl) ?_) | (refine wpM_loadR (ty := 42) HM rfl rfl rfl (by repeat (first | exact Sel.head | apply Sel.tail)) (by first | rfl | assumption) (by kernel_rfl) ?_) | (refine wpM_store HM rfl rfl rfl (by (conv => lhs; whnf); try rfl) (by repeat (first | exact Sel.head | apply Sel.tail)) (by simp) (by kernel_rfl) (by rfl) ?_; clear HM; intro w HM; try simp only [List.set_cons_zero, List.set_cons_succ] at HM))
  replace HM := HM.sub (M' := [.blk bX [.int .i64 c, .int .i64 r] 26, .row (.slice p2 ys.length c2) 3 1 ys.length (vals ys), .blk bA [.int .i64 0, .int .i64 0] 26, .blk bR (u64s (List.replicate 17 0)) 44]) (by repeat (first | exact List.Sublist.refl _ | apply List.Sublist.cons_cons | apply List.Sublist.cons))
  refine wp_region_M HM (fun ix => match ix with | 0 => [.blk bX [.int .i64 c, .int .i64 r] 26, .row (.slice p2 ys.length c2) 3 1 ys.length (vals ys), .blk bA [.int .i64 0, .int .i64 0] 26, .blk bR (u64s (List.replicate 17 0)) 44] | 1 => [.blk bX [.int .i64 c, .int .i64 r] 26, .row (.slice p2 ys.length c2) 3 1 ys.length (vals ys), .blk bA [.int .i64 0, .int .i64 0] 26, .blk bR (spl (u64s (List.replicate 17 0)) 0 (u64s (lstC ys))) 44] | _ => [.blk bX [.int .i64 c, .int .i64 r] 26, .row (.slice p2 ys.length c2) 3 1 ys.length (vals ys), .blk bA (spl [.int .i64 0, .int .i64 0] 0 [.int .i64 c, .int .i64 r]) 26, .blk bR (spl (u64s (List.replicate 17 0)) 0 (u64s (lstC ys))) 44]) rfl (by kernel_rfl) (by kernel_rfl) ?_
  refine wpB_pure (v := ?v7) (by kernel_rfl) (by kernel_rfl) (fun w' => ?h7) (fun K hK => ?k7)
  case h7 =>
    go_simp
    try rfl
  go_simp
  refine hK _ ?_
  clear hK K
  (refine wpB_callM0 _ _ (by kernel_rfl) (by kernel_rfl) (by kernel_rfl) (fun w' => by kernel_rfl) (fun w HM => (listed_any _ _ ys (HM.sl (xs := ys) (by repeat (first | exact Sel.head | apply Sel.tail))) (by have := HLW.out.len; simpa using this) (by have := HLW.out.inr; simpa using this))) (fun K hK => ?_))
  go_simp
  refine hK _ ?_
  clear hK K
  (refine wpB_loadMA1 (n := 2) (by kernel_rfl) (by kernel_rfl) (by kernel_rfl) rfl rfl (by repeat (first | exact Sel.head | apply Sel.tail)) (by repeat (first | exact Sel.head | apply Sel.tail)) (by kernel_rfl) (by exact Nat.le_refl _) (fun K hK => ?_))
  go_simp
  refine hK _ ?_
  clear hK K
  (refine wpB_storeMA (by kernel_rfl) (by kernel_rfl) rfl rfl rfl (by repeat (first | exact Sel.head | apply Sel.tail)) (HYL.out) (by exact Nat.le_refl _) (by kernel_rfl) (fun v hv => List.all_eq_true.1 (cells_all (lstC ys)) v hv) rfl (fun K hK => ?_))
  go_simp
  refine hK _ ?_
  clear hK K
  (refine wpB_storeMA (by kernel_rfl) (by kernel_rfl) rfl rfl rfl (by repeat (first | exact Sel.head | apply Sel.tail)) (by rfl) (by exact Nat.le_refl _) (by kernel_rfl) (two_ints _ _) rfl (fun K hK => ?_))
  go_simp
  refine hK _ ?_
  clear hK K
  refine wpB_pure (v := ?v8) (by kernel_rfl) (by kernel_rfl) (fun w' => ?h8) (fun K hK => ?k8)
  case h8 =>
    go_simp
    try rfl
  go_simp
  refine hK _ ?_
  clear hK K
  refine wpB_nil (fun w HM => ?_)
  have HSP : Hid (spl (u64s (List.replicate 17 0)) 0 (u64s (lstC ys)) = u64s (lstC ys)) := Lib.hid (spl_whole _ _ (by rw [HYL.out]; rfl))
  change Mem W _ [.blk bX [.int .i64 c, .int .i64 r] 26, .row (.slice p2 ys.length c2) 3 1 ys.length (vals ys), .blk bA [.int .i64 c, .int .i64 r] 26, .blk bR (spl (u64s (List.replicate 17 0)) 0 (u64s (lstC ys))) 44] w at HM
  rw [HSP.out] at HM
  go_wp2_with (first | (refine wpM_storeAll HM rfl rfl rfl rfl (by repeat (first | exact Sel.head | apply Sel.tail)) (by rfl) (by kernel_rfl) (by rfl) ?_; clear HM; intro w HM) | (refine wpM_loadAll (ty := 30) HM rfl rfl rfl (by repeat (first | exact Sel.head | apply Sel.tail)) (by kernel_rfl) ?_) | (refine wpM_loadAll (ty := 26) HM rfl rfl rfl (by repeat (first | exact Sel.head | apply Sel.tail)) (by kernel_rfl) ?_) | (refine wpM_box (o := ⟨some 4, _, _, _, _, _⟩) HM rfl rfl rfl rfl ?_; clear HM; intro bC w HB HM; clear HB) | (refine wpM_box (o := ⟨some 5, _, _, _, _, _⟩) HM rfl rfl rfl rfl ?_; clear HM; intro bO w HB HM; clear HB) | (refine wpM_alloc (o := ⟨some 6, _, _, _, _, _⟩) HM rfl rfl zt_Cells rfl ?_; clear HM; intro bR w HB HM; clear HB) | (refine wpM_alloc (o := ⟨some 7, _, _, _, _, _⟩) HM rfl rfl zt_Answer rfl ?_; clear HM; intro bA w HB HM; clear HB) | (refine wpM_alloc (o := ⟨some 9, _, _, _, _, _⟩) HM rfl rfl zt_Slots rfl ?_; clear HM; intro bT w HB HM; clear HB) | (refine wpM_alloc (o := ⟨some 11, _, _, _, _, _⟩) HM rfl rfl zt_Answer rfl ?_; clear HM; intro bX w HB HM; clear HB) | (refine wpM_alloc (o := ⟨some 12, _, _, _, _, _⟩) HM rfl rfl zt_Cells rfl ?_; clear HM; intro bU w HB HM; clear HB) | (refine wpM_alloc (o := ⟨some 16, _, _, _, _, _⟩) HM rfl rfl zt_Answer rfl ?_; clear HM; intro bX w HB HM; clear HB) | (refine wpM_alloc (o := ⟨some 20, _, _, _, _, _⟩) HM rfl rfl zt_Answer rfl ?_; clear HM; intro bX w HB HM; clear HB) | (refine wpM_box HM rfl rfl rfl rfl ?_; clear HM; intro b w HB HM; clear HB) | (refine wpM_alloc HM rfl rfl zt_Cells rfl ?_; clear HM; intro b w HB HM; clear HB) | (refine wpM_alloc HM rfl rfl zt_Answer rfl ?_; clear HM; intro b w HB HM; clear HB) | (refine wpM_alloc HM rfl rfl zt_Slots rfl ?_; clear HM; intro b w HB HM; clear HB) | (refine wpM_load (ty := 3) HM rfl rfl rfl (by repeat (first | exact Sel.head | apply Sel.tail)) (by first | rfl | assumption) (by kernel_rfl) ?_) | (refine wpM_loadR (ty := 3) HM rfl rfl rfl (by repeat (first | exact Sel.head | apply Sel.tail)) (by first | rfl | assumption) (by kernel_rfl) ?_) | (refine wpM_load (ty := 42) HM rfl rfl rfl (by repeat (first | exact Sel.head | apply Sel.tail)) (by first | rfl | assumption) (by kernel_rfl) ?_) | (refine wpM_loadR (ty := 42) HM rfl rfl rfl (by repeat (first | exact Sel.head | apply Sel.tail)) (by first | rfl | assumption) (by kernel_rfl) ?_) | (refine wpM_store HM rfl rfl rfl (by (conv => lhs; whnf); try rfl) (by repeat (first | exact Sel.head | apply Sel.tail)) (by simp) (by kernel_rfl) (by rfl) ?_; clear HM; intro w HM; try simp only [List.set_cons_zero, List.set_cons_succ] at HM))
  exact bodyPost_ret (v := .tuple #[.agg (u64s (lstC ys)).toArray, .agg #[.int .i64 c, .int .i64 r], .nilIface]) (resM_cct HM rfl (by rfl) (by rfl) (by repeat (first | exact Sel.head | apply Sel.tail)) (by rw [HYL.out]; exact HAB.out) (by rfl) (by repeat (first | exact Sel.head | apply Sel.tail)) (by kernel_rfl)) rfl ⟨rfl, HM.below⟩
end Go.Proofs.Ytpedkcpkdacnlaa
end
section
namespace Go.Proofs.Ytpedkcpkdacnlaa
open Go.RowKit
set_option linter.unusedVariables false
theorem zt_Slot : (Try.prog.info? 67).bind (·.zero) = some (.agg #[.int .i64 0, .int .i64 0]) := by kernel_rfl
def slU (t : List Int) (i : Nat) : List Int := slTo t i ++ [0]
theorem slU_len (t : List Int) (i : Nat) (ht : t.length = 16) (hi : i ≤ 8) : (slU t i).length = 17 := by simp [slU, slTo_len t i ht hi]
theorem slU_step (t : List Int) (i : Nat) (ht : t.length = 16) (hi : i < 8) : ((slU t i).set (i * 2) (tk t i)).set (i * 2 + 1) (tv t i) = slU t (i + 1) := by
  have h := slTo_step t i ht hi
  have hl := slTo_len t i ht (by omega)
  have h2 : spl (tcells (slTo t i)) (i * 2) [.int .i64 (tk t i), .int .i64 (tv t i)] = tcells (((slTo t i).set (i * 2) (tk t i)).set (i * 2 + 1) (tv t i)) := by
    apply List.ext_getElem?
    intro j
    unfold spl tcells
    simp only [List.getElem?_append, List.length_append, List.length_take, List.length_map, hl, List.getElem?_take, List.getElem?_drop, List.getElem?_map, List.getElem?_set, List.length_cons, List.length_nil, List.length_set]
    rw [Nat.min_eq_left (by omega)]
    by_cases c1 : j < i * 2
    · rw [if_pos (by omega), if_pos c1, if_pos c1, if_neg (by omega), if_neg (by omega)]
    · by_cases c2 : j < i * 2 + 2
      · rw [if_pos (by omega), if_neg c1]
        rcases (show j = i * 2 ∨ j = i * 2 + 1 by omega) with rfl | rfl
        · rw [if_neg (by omega), if_pos rfl, if_pos (by omega)]; simp
        · rw [if_pos rfl, if_pos (by omega)]; simp
      · rw [if_neg (by omega), if_neg (by omega), if_neg (by omega)]
        congr 2; omega
  rw [h2] at h
  have h3 : ((slTo t i).set (i * 2) (tk t i)).set (i * 2 + 1) (tv t i) = slTo t (i + 1) := by
    have := congrArg (List.map (fun v : Value => match v with | .int _ n => n | _ => 0)) h
    simpa [tcells, List.map_map, Function.comp_def] using this
  unfold slU
  rw [List.set_append_left _ _ (by omega), List.set_append_left _ _ (by rw [List.length_set]; omega), h3]
set_option maxRecDepth 20000 in
set_option maxHeartbeats 4000000 in
theorem do_table (W : World) (t : List Int) (g : Good t) (k key x : Int) (hop : opOk k key x = true) {u : List Int} {c r : Int} (e0 : doT t k key x = (u, c, r)) :
    Calls Try.prog 36 #[.int .i64 5, .agg (u64s (t ++ [0])).toArray, .agg #[.int .i64 k, .int .i64 key, .int .i64 x]] W fun e w' =>
      e = .returned (.tuple #[.agg (u64s (u ++ [0])).toArray, .agg #[.int .i64 c, .int .i64 r], .nilIface]) ∧ Below W.heap.size W w' := by
  have HOP := Lib.hid hop
  clear hop
  obtain ⟨o1, o2, o3, o4, o5, o6⟩ := of_decide_eq_true (show decide _ = true from HOP.out)
  have HAC := Lib.hid (cells_agg (t ++ [0]) (by simp [g.len]))
  have HG := Lib.hid g
  have g2 := doT_good g k key x o5 o6
  rw [e0] at g2
  have HG2 := Lib.hid g2
  have E0 := Lib.hid e0
  have HT0 : Hid ((tcells t).length = 16) := Lib.hid (by rw [tcells_len]; exact g.len)
  have HT1 : Hid ((tcells u).length = 16) := Lib.hid (by rw [tcells_len]; exact g2.len)
  have HTA0 : Hid ((tcells t).all Value.oneCell' = true) := Lib.hid (by simp [tcells, Value.oneCell'])
  have HTA1 : Hid ((tcells u).all Value.oneCell' = true) := Lib.hid (by simp [tcells, Value.oneCell'])
  have HZ0 : Hid ((tcells (List.replicate 16 (0 : Int))).length = 16) := Lib.hid (by rw [tcells_len]; rfl)
  have HSB : Hid (aggB Try.prog 69 16 = true) := Lib.hid (by kernel_rfl)
  have HAB : Hid (aggB Try.prog 44 17 = true) := Lib.hid (by kernel_rfl)
  have HIX : Hid (∀ q : Nat, q < 8 → ∀ w, (Instr.index 69 (.agg (tcells u).toArray) (.int .i64 q)).run Try.prog w = .ok (.agg #[.int .i64 (tk u q), .int .i64 (tv u q)]) w) := Lib.hid (fun q hq w => idx_slot u g2.len q hq w)
  have HTD : Hid (∀ w, Calls Try.prog 51 #[.agg (tcells t).toArray, .agg #[.int .i64 k, .int .i64 key, .int .i64 x]] w fun e w' => e = .returned (.tuple #[.agg (tcells u).toArray, .agg #[.int .i64 c, .int .i64 r]]) ∧ Below w.heap.size w w') := Lib.hid (fun w => by have := table_do w t g k key x; rw [e0] at this; exact this)
  have HM := Mem.start W
  clear g g2 e0 o1 o2 o3 o4 o5 o6
  go_enter Try.func36, Try.ntmps36
  go_wp2_with (first | (refine wpM_loadAll (ty := 44) HM rfl rfl rfl (by repeat (first | exact Sel.head | apply Sel.tail)) (by exact HAC.out) ?_) | (refine wpM_storeAll HM rfl rfl rfl rfl (by repeat (first | exact Sel.head | apply Sel.tail)) (by rfl) (by kernel_rfl) (by rfl) ?_; clear HM; intro w HM) | (refine wpM_loadAll (ty := 30) HM rfl rfl rfl (by repeat (first | exact Sel.head | apply Sel.tail)) (by kernel_rfl) ?_) | (refine wpM_loadAll (ty := 26) HM rfl rfl rfl (by repeat (first | exact Sel.head | apply Sel.tail)) (by kernel_rfl) ?_) | (refine wpM_box (o := ⟨some 4, _, _, _, _, _⟩) HM rfl rfl rfl rfl ?_; clear HM; intro bC w HB HM; clear HB) | (refine wpM_box (o := ⟨some 5, _, _, _, _, _⟩) HM rfl rfl rfl rfl ?_; clear HM; intro bO w HB HM; clear HB) | (refine wpM_alloc (o := ⟨some 6, _, _, _, _, _⟩) HM rfl rfl zt_Cells rfl ?_; clear HM; intro bR w HB HM; clear HB) | (refine wpM_alloc (o := ⟨some 7, _, _, _, _, _⟩) HM rfl rfl zt_Answer rfl ?_; clear HM; intro bA w HB HM; clear HB) | (refine wpM_alloc (o := ⟨some 9, _, _, _, _, _⟩) HM rfl rfl zt_Slots rfl ?_; clear HM; intro bT w HB HM; clear HB) | (refine wpM_alloc (o := ⟨some 11, _, _, _, _, _⟩) HM rfl rfl zt_Answer rfl ?_; clear HM; intro bX w HB HM; clear HB) | (refine wpM_alloc (o := ⟨some 12, _, _, _, _, _⟩) HM rfl rfl zt_Cells rfl ?_; clear HM; intro bU w HB HM; clear HB) | (refine wpM_alloc (o := ⟨some 16, _, _, _, _, _⟩) HM rfl rfl zt_Answer rfl ?_; clear HM; intro bX w HB HM; clear HB) | (refine wpM_alloc (o := ⟨some 20, _, _, _, _, _⟩) HM rfl rfl zt_Answer rfl ?_; clear HM; intro bX w HB HM; clear HB) | (refine wpM_box HM rfl rfl rfl rfl ?_; clear HM; intro b w HB HM; clear HB) | (refine wpM_alloc HM rfl rfl zt_Cells rfl ?_; clear HM; intro b w HB HM; clear HB) | (refine wpM_alloc HM rfl rfl zt_Answer rfl ?_; clear HM; intro b w HB HM; clear HB) | (refine wpM_alloc HM rfl rfl zt_Slots rfl ?_; clear HM; intro b w HB HM; clear HB) | (refine wpM_load (ty := 3) HM rfl rfl rfl (by repeat (first | exact Sel.head | apply Sel.tail)) (by first | rfl | assumption) (by kernel_rfl) ?_) | (refine wpM_loadR (ty := 3) HM rfl rfl rfl (by repeat (first | exact Sel.head | apply Sel.tail)) (by first | rfl | assumption) (by kernel_rfl) ?_) | (refine wpM_load (ty := 42) HM rfl rfl rfl (by repeat (first | exact Sel.head | apply Sel.tail)) (by first | rfl | assumption) (by kernel_rfl) ?_) | (refine wpM_loadR (ty := 42) HM rfl rfl rfl (by repeat (first | exact Sel.head | apply Sel.tail)) (by first | rfl | assumption) (by kernel_rfl) ?_) | (refine wpM_store HM rfl rfl rfl (by (conv => lhs; whnf); try rfl) (by repeat (first | exact Sel.head | apply Sel.tail)) (by simp) (by kernel_rfl) (by rfl) ?_; clear HM; intro w HM; try simp only [List.set_cons_zero, List.set_cons_succ] at HM))
  refine (oright_any k key x _).mono ?_
  rintro e w ⟨rfl, hb⟩
  replace HM := HM.call hb
  clear hb
  rw [HOP.out]
  go_wp2_with (first | (refine wpM_loadAll (ty := 44) HM rfl rfl rfl (by repeat (first | exact Sel.head | apply Sel.tail)) (by exact HAC.out) ?_) | (refine wpM_storeAll HM rfl rfl rfl rfl (by repeat (first | exact Sel.head | apply Sel.tail)) (by rfl) (by kernel_rfl) (by rfl) ?_; clear HM; intro w HM) | (refine wpM_loadAll (ty := 30) HM rfl rfl rfl (by repeat (first | exact Sel.head | apply Sel.tail)) (by kernel_rfl) ?_) | (refine wpM_loadAll (ty := 26) HM rfl rfl rfl (by repeat (first | exact Sel.head | apply Sel.tail)) (by kernel_rfl) ?_) | (refine wpM_box (o := ⟨some 4, _, _, _, _, _⟩) HM rfl rfl rfl rfl ?_; clear HM; intro bC w HB HM; clear HB) | (refine wpM_box (o := ⟨some 5, _, _, _, _, _⟩) HM rfl rfl rfl rfl ?_; clear HM; intro bO w HB HM; clear HB) | (refine wpM_alloc (o := ⟨some 6, _, _, _, _, _⟩) HM rfl rfl zt_Cells rfl ?_; clear HM; intro bR w HB HM; clear HB) | (refine wpM_alloc (o := ⟨some 7, _, _, _, _, _⟩) HM rfl rfl zt_Answer rfl ?_; clear HM; intro bA w HB HM; clear HB) | (refine wpM_alloc (o := ⟨some 9, _, _, _, _, _⟩) HM rfl rfl zt_Slots rfl ?_; clear HM; intro bT w HB HM; clear HB) | (refine wpM_alloc (o := ⟨some 11, _, _, _, _, _⟩) HM rfl rfl zt_Answer rfl ?_; clear HM; intro bX w HB HM; clear HB) | (refine wpM_alloc (o := ⟨some 12, _, _, _, _, _⟩) HM rfl rfl zt_Cells rfl ?_; clear HM; intro bU w HB HM; clear HB) | (refine wpM_alloc (o := ⟨some 16, _, _, _, _, _⟩) HM rfl rfl zt_Answer rfl ?_; clear HM; intro bX w HB HM; clear HB) | (refine wpM_alloc (o := ⟨some 20, _, _, _, _, _⟩) HM rfl rfl zt_Answer rfl ?_; clear HM; intro bX w HB HM; clear HB) | (refine wpM_box HM rfl rfl rfl rfl ?_; clear HM; intro b w HB HM; clear HB) | (refine wpM_alloc HM rfl rfl zt_Cells rfl ?_; clear HM; intro b w HB HM; clear HB) | (refine wpM_alloc HM rfl rfl zt_Answer rfl ?_; clear HM; intro b w HB HM; clear HB) | (refine wpM_alloc HM rfl rfl zt_Slots rfl ?_; clear HM; intro b w HB HM; clear HB) | (refine wpM_load (ty := 3) HM rfl rfl rfl (by repeat (first | exact Sel.head | apply Sel.tail)) (by first | rfl | assumption) (by kernel_rfl) ?_) | (refine wpM_loadR (ty := 3) HM rfl rfl rfl (by repeat (first | exact Sel.head | apply Sel.tail)) (by first | rfl | assumption) (by kernel_rfl) ?_) | (refine wpM_load (ty := 42) HM rfl rfl rfl (by repeat (first | exact Sel.head | apply Sel.tail)) (by first | rfl | assumption) (by kernel_rfl) ?_) | (refine wpM_loadR (ty := 42) HM rfl rfl rfl (by repeat (first | exact Sel.head | apply Sel.tail)) (by first | rfl | assumption) (by kernel_rfl) ?_) | (refine wpM_store HM rfl rfl rfl (by (conv => lhs; whnf); try rfl) (by repeat (first | exact Sel.head | apply Sel.tail)) (by simp) (by kernel_rfl) (by rfl) ?_; clear HM; intro w HM; try simp only [List.set_cons_zero, List.set_cons_succ] at HM))
  refine (right_table _ t HG.out).mono ?_
  rintro e w ⟨rfl, hb⟩
  replace HM := HM.call hb
  clear hb
  go_wp2_with (first | (refine wpM_loadAll (ty := 44) HM rfl rfl rfl (by repeat (first | exact Sel.head | apply Sel.tail)) (by exact HAC.out) ?_) | (refine wpM_storeAll HM rfl rfl rfl rfl (by repeat (first | exact Sel.head | apply Sel.tail)) (by rfl) (by kernel_rfl) (by rfl) ?_; clear HM; intro w HM) | (refine wpM_loadAll (ty := 30) HM rfl rfl rfl (by repeat (first | exact Sel.head | apply Sel.tail)) (by kernel_rfl) ?_) | (refine wpM_loadAll (ty := 26) HM rfl rfl rfl (by repeat (first | exact Sel.head | apply Sel.tail)) (by kernel_rfl) ?_) | (refine wpM_box (o := ⟨some 4, _, _, _, _, _⟩) HM rfl rfl rfl rfl ?_; clear HM; intro bC w HB HM; clear HB) | (refine wpM_box (o := ⟨some 5, _, _, _, _, _⟩) HM rfl rfl rfl rfl ?_; clear HM; intro bO w HB HM; clear HB) | (refine wpM_alloc (o := ⟨some 6, _, _, _, _, _⟩) HM rfl rfl zt_Cells rfl ?_; clear HM; intro bR w HB HM; clear HB) | (refine wpM_alloc (o := ⟨some 7, _, _, _, _, _⟩) HM rfl rfl zt_Answer rfl ?_; clear HM; intro bA w HB HM; clear HB) | (refine wpM_alloc (o := ⟨some 9, _, _, _, _, _⟩) HM rfl rfl zt_Slots rfl ?_; clear HM; intro bT w HB HM; clear HB) | (refine wpM_alloc (o := ⟨some 11, _, _, _, _, _⟩) HM rfl rfl zt_Answer rfl ?_; clear HM; intro bX w HB HM; clear HB) | (refine wpM_alloc (o := ⟨some 12, _, _, _, _, _⟩) HM rfl rfl zt_Cells rfl ?_; clear HM; intro bU w HB HM; clear HB) | (refine wpM_alloc (o := ⟨some 16, _, _, _, _, _⟩) HM rfl rfl zt_Answer rfl ?_; clear HM; intro bX w HB HM; clear HB) | (refine wpM_alloc (o := ⟨some 20, _, _, _, _, _⟩) HM rfl rfl zt_Answer rfl ?_; clear HM; intro bX w HB HM; clear HB) | (refine wpM_box HM rfl rfl rfl rfl ?_; clear HM; intro b w HB HM; clear HB) | (refine wpM_alloc HM rfl rfl zt_Cells rfl ?_; clear HM; intro b w HB HM; clear HB) | (refine wpM_alloc HM rfl rfl zt_Answer rfl ?_; clear HM; intro b w HB HM; clear HB) | (refine wpM_alloc HM rfl rfl zt_Slots rfl ?_; clear HM; intro b w HB HM; clear HB) | (refine wpM_load (ty := 3) HM rfl rfl rfl (by repeat (first | exact Sel.head | apply Sel.tail)) (by first | rfl | assumption) (by kernel_rfl) ?_) | (refine wpM_loadR (ty := 3) HM rfl rfl rfl (by repeat (first | exact Sel.head | apply Sel.tail)) (by first | rfl | assumption) (by kernel_rfl) ?_) | (refine wpM_load (ty := 42) HM rfl rfl rfl (by repeat (first | exact Sel.head | apply Sel.tail)) (by first | rfl | assumption) (by kernel_rfl) ?_) | (refine wpM_loadR (ty := 42) HM rfl rfl rfl (by repeat (first | exact Sel.head | apply Sel.tail)) (by first | rfl | assumption) (by kernel_rfl) ?_) | (refine wpM_store HM rfl rfl rfl (by (conv => lhs; whnf); try rfl) (by repeat (first | exact Sel.head | apply Sel.tail)) (by simp) (by kernel_rfl) (by rfl) ?_; clear HM; intro w HM; try simp only [List.set_cons_zero, List.set_cons_succ] at HM))
  refine (slots_any _ t HG.out).mono ?_
  rintro e w ⟨rfl, hb⟩
  replace HM := HM.call hb
  clear hb
  go_wp2_with (first | (refine wpM_storeAll HM rfl rfl rfl rfl (by repeat (first | exact Sel.head | apply Sel.tail)) (by rw [HT0.out]; exact HZ0.out.symm) (by rw [HT0.out]; exact HSB.out) (by exact HTA0.out) ?_; clear HM; intro w HM) | (refine wpM_loadAll (ty := 69) HM rfl rfl rfl (by repeat (first | exact Sel.head | apply Sel.tail)) (by rw [HT0.out]; exact HSB.out) ?_) | (refine wpM_loadAll (ty := 44) HM rfl rfl rfl (by repeat (first | exact Sel.head | apply Sel.tail)) (by exact HAC.out) ?_) | (refine wpM_storeAll HM rfl rfl rfl rfl (by repeat (first | exact Sel.head | apply Sel.tail)) (by rfl) (by kernel_rfl) (by rfl) ?_; clear HM; intro w HM) | (refine wpM_loadAll (ty := 30) HM rfl rfl rfl (by repeat (first | exact Sel.head | apply Sel.tail)) (by kernel_rfl) ?_) | (refine wpM_loadAll (ty := 26) HM rfl rfl rfl (by repeat (first | exact Sel.head | apply Sel.tail)) (by kernel_rfl) ?_) | (refine wpM_box (o := ⟨some 4, _, _, _, _, _⟩) HM rfl rfl rfl rfl ?_; clear HM; intro bC w HB HM; clear HB) | (refine wpM_box (o := ⟨some 5, _, _, _, _, _⟩) HM rfl rfl rfl rfl ?_; clear HM; intro bO w HB HM; clear HB) | (refine wpM_alloc (o := ⟨some 6, _, _, _, _, _⟩) HM rfl rfl zt_Cells rfl ?_; clear HM; intro bR w HB HM; clear HB) | (refine wpM_alloc (o := ⟨some 7, _, _, _, _, _⟩) HM rfl rfl zt_Answer rfl ?_; clear HM; intro bA w HB HM; clear HB) | (refine wpM_alloc (o := ⟨some 9, _, _, _, _, _⟩) HM rfl rfl zt_Slots rfl ?_; clear HM; intro bT w HB HM; clear HB) | (refine wpM_alloc (o := ⟨some 11, _, _, _, _, _⟩) HM rfl rfl zt_Answer rfl ?_; clear HM; intro bX w HB HM; clear HB) | (refine wpM_alloc (o := ⟨some 12, _, _, _, _, _⟩) HM rfl rfl zt_Cells rfl ?_; clear HM; intro bU w HB HM; clear HB) | (refine wpM_alloc (o := ⟨some 16, _, _, _, _, _⟩) HM rfl rfl zt_Answer rfl ?_; clear HM; intro bX w HB HM; clear HB) | (refine wpM_alloc (o := ⟨some 20, _, _, _, _, _⟩) HM rfl rfl zt_Answer rfl ?_; clear HM; intro bX w HB HM; clear HB) | (refine wpM_box HM rfl rfl rfl rfl ?_; clear HM; intro b w HB HM; clear HB) | (refine wpM_alloc HM rfl rfl zt_Cells rfl ?_; clear HM; intro b w HB HM; clear HB) | (refine wpM_alloc HM rfl rfl zt_Answer rfl ?_; clear HM; intro b w HB HM; clear HB) | (refine wpM_alloc HM rfl rfl zt_Slots rfl ?_; clear HM; intro b w HB HM; clear HB) | (refine wpM_load (ty := 3) HM rfl rfl rfl (by repeat (first | exact Sel.head | apply Sel.tail)) (by first | rfl | assumption) (by kernel_rfl) ?_) | (refine wpM_loadR (ty := 3) HM rfl rfl rfl (by repeat (first | exact Sel.head | apply Sel.tail)) (by first | rfl | assumption) (by kernel_rfl) ?_) | (refine wpM_load (ty := 42) HM rfl rfl rfl (by repeat (first | exact Sel.head | apply Sel.tail)) (by first | rfl | assumption) (by kernel_rfl) ?_) | (refine wpM_loadR (ty := 42) HM rfl rfl rfl (by repeat (first | exact Sel.head | apply Sel.tail)) (by first | rfl | assumption) (by kernel_rfl) ?_) | (refine wpM_store HM rfl rfl rfl (by (conv => lhs; whnf); try rfl) (by repeat (first | exact Sel.head | apply Sel.tail)) (by simp) (by kernel_rfl) (by rfl) ?_; clear HM; intro w HM; try simp only [List.set_cons_zero, List.set_cons_succ] at HM))
  refine (HTD.out _).mono ?_
  rintro e w ⟨rfl, hb⟩
  replace HM := HM.call hb
  clear hb
  go_wp2_with (first | (refine wpM_storeAll HM rfl rfl rfl rfl (by repeat (first | exact Sel.head | apply Sel.tail)) (by rw [HT1.out]; exact HT0.out.symm) (by rw [HT1.out]; exact HSB.out) (by exact HTA1.out) ?_; clear HM; intro w HM) | (refine wpM_loadAll (ty := 69) HM rfl rfl rfl (by repeat (first | exact Sel.head | apply Sel.tail)) (by rw [HT1.out]; exact HSB.out) ?_) | (refine wpM_loadAll (ty := 44) HM rfl rfl rfl (by repeat (first | exact Sel.head | apply Sel.tail)) (by exact HAC.out) ?_) | (refine wpM_storeAll HM rfl rfl rfl rfl (by repeat (first | exact Sel.head | apply Sel.tail)) (by rfl) (by kernel_rfl) (by rfl) ?_; clear HM; intro w HM) | (refine wpM_loadAll (ty := 30) HM rfl rfl rfl (by repeat (first | exact Sel.head | apply Sel.tail)) (by kernel_rfl) ?_) | (refine wpM_loadAll (ty := 26) HM rfl rfl rfl (by repeat (first | exact Sel.head | apply Sel.tail)) (by kernel_rfl) ?_) | (refine wpM_box (o := ⟨some 4, _, _, _, _, _⟩) HM rfl rfl rfl rfl ?_; clear HM; intro bC w HB HM; clear HB) | (refine wpM_box (o := ⟨some 5, _, _, _, _, _⟩) HM rfl rfl rfl rfl ?_; clear HM; intro bO w HB HM; clear HB) | (refine wpM_alloc (o := ⟨some 6, _, _, _, _, _⟩) HM rfl rfl zt_Cells rfl ?_; clear HM; intro bR w HB HM; clear HB) | (refine wpM_alloc (o := ⟨some 7, _, _, _, _, _⟩) HM rfl rfl zt_Answer rfl ?_; clear HM; intro bA w HB HM; clear HB) | (refine wpM_alloc (o := ⟨some 9, _, _, _, _, _⟩) HM rfl rfl zt_Slots rfl ?_; clear HM; intro bT w HB HM; clear HB) | (refine wpM_alloc (o := ⟨some 11, _, _, _, _, _⟩) HM rfl rfl zt_Answer rfl ?_; clear HM; intro bX w HB HM; clear HB) | (refine wpM_alloc (o := ⟨some 12, _, _, _, _, _⟩) HM rfl rfl zt_Cells rfl ?_; clear HM; intro bU w HB HM; clear HB) | (refine wpM_alloc (o := ⟨some 16, _, _, _, _, _⟩) HM rfl rfl zt_Answer rfl ?_; clear HM; intro bX w HB HM; clear HB) | (refine wpM_alloc (o := ⟨some 20, _, _, _, _, _⟩) HM rfl rfl zt_Answer rfl ?_; clear HM; intro bX w HB HM; clear HB) | (refine wpM_box HM rfl rfl rfl rfl ?_; clear HM; intro b w HB HM; clear HB) | (refine wpM_alloc HM rfl rfl zt_Cells rfl ?_; clear HM; intro b w HB HM; clear HB) | (refine wpM_alloc HM rfl rfl zt_Answer rfl ?_; clear HM; intro b w HB HM; clear HB) | (refine wpM_alloc HM rfl rfl zt_Slots rfl ?_; clear HM; intro b w HB HM; clear HB) | (refine wpM_load (ty := 3) HM rfl rfl rfl (by repeat (first | exact Sel.head | apply Sel.tail)) (by first | rfl | assumption) (by kernel_rfl) ?_) | (refine wpM_loadR (ty := 3) HM rfl rfl rfl (by repeat (first | exact Sel.head | apply Sel.tail)) (by first | rfl | assumption) (by kernel_rfl) ?_) | (refine wpM_load (ty := 42) HM rfl rfl rfl (by repeat (first | exact Sel.head | apply Sel.tail)) (by first | rfl | assumption) (by kernel_rfl) ?_) | (refine wpM_loadR (ty := 42) HM rfl rfl rfl (by repeat (first | exact Sel.head | apply Sel.tail)) (by first | rfl | assumption) (by kernel_rfl) ?_) | (refine wpM_store HM rfl rfl rfl (by (conv => lhs; whnf); try rfl) (by repeat (first | exact Sel.head | apply Sel.tail)) (by simp) (by kernel_rfl) (by rfl) ?_; clear HM; intro w HM; try simp only [List.set_cons_zero, List.set_cons_succ] at HM))
  go_loopw [48] (fun iv wr => ∃ i : Nat, i ≤ 8 ∧ iv = .int .i64 i ∧ Mem W (fun _ => False) [.blk bU (u64s (slU u i)) 44, .blk bX [.int .i64 c, .int .i64 r] 26, .blk bT (tcells u) 69, .blk bA [.int .i64 0, .int .i64 0] 26, .blk bR (u64s (List.replicate 17 0)) 44, .blk bO [.int .i64 k, .int .i64 key, .int .i64 x] 30, .blk bC (u64s (t ++ [0])) 44] wr) (fun iv _ => 8 - (intOf iv).toNat)
  case atStart => exact ⟨0, by omega, rfl, HM⟩
  case round =>
    clear HM
    obtain ⟨i, hi, rfl, HM⟩ := hrel
    by_cases hlt : i < 8
    · have k0 := HG2.out.key0 i hlt
      have k1 := HG2.out.key1 i hlt
      have v0 := HG2.out.val0 i hlt
      have v1 := HG2.out.val1 i hlt
      have hix := HIX.out i hlt
      have hst := slU_step u i HG2.out.len hlt
      have HL1 : Hid (i * 2 < (u64s (slU u i)).length) := Lib.hid (by rw [u64s_len, slU_len u i HG2.out.len hi]; omega)
      generalize tk u i = z at *
      generalize tv u i = y at *
      have HST := Lib.hid hst
      have HL2 : Hid (i * 2 + 1 < ((u64s (slU u i)).set (i * 2) (.int .u64 z)).length) := Lib.hid (by rw [List.length_set, u64s_len, slU_len u i HG2.out.len hi]; omega)
      have w1 : IntKind.u64.wrap z = z := u64_in _ (by omega) (by omega)
      have w2 : IntKind.u64.wrap y = y := u64_in _ (by omega) (by omega)
      have w3 : IntKind.i64.wrap (2 * (i : Int)) = 2 * (i : Int) := IntWalk.i64_in _ (by omega)
      have w4 : IntKind.i64.wrap (2 * (i : Int) + 1) = 2 * (i : Int) + 1 := IntWalk.i64_in _ (by omega)
      have n1 : (2 * (i : Int)).toNat = i * 2 := by omega
      have n2 : (2 * (i : Int) + 1).toNat = i * 2 + 1 := by omega
      have q1 : 0 ≤ 2 * (i : Int) ∧ 2 * (i : Int) < 17 := by omega
      have q2 : 0 ≤ 2 * (i : Int) + 1 ∧ 2 * (i : Int) + 1 < 17 := by omega
      clear hst
      go_upto_region 11 with (first | (refine wpM_alloc (o := ⟨some 14, _, _, _, _, _⟩) HM rfl rfl zt_Slot rfl ?_; clear HM; intro bS w HB HM; clear HB) | (refine wpM_storeAll HM rfl rfl rfl rfl (by repeat (first | exact Sel.head | apply Sel.tail)) (by rfl) (by kernel_rfl) (by rfl) ?_; clear HM; intro w HM) | (refine wpM_loadAll (ty := 30) HM rfl rfl rfl (by repeat (first | exact Sel.head | apply Sel.tail)) (by kernel_rfl) ?_) | (refine wpM_loadAll (ty := 26) HM rfl rfl rfl (by repeat (first | exact Sel.head | apply Sel.tail)) (by kernel_rfl) ?_) | (refine wpM_box (o := ⟨some 4, _, _, _, _, _⟩) HM rfl rfl rfl rfl ?_; clear HM; intro bC w HB HM; clear HB) | (refine wpM_box (o := ⟨some 5, _, _, _, _, _⟩) HM rfl rfl rfl rfl ?_; clear HM; intro bO w HB HM; clear HB) | (refine wpM_alloc (o := ⟨some 6, _, _, _, _, _⟩) HM rfl rfl zt_Cells rfl ?_; clear HM; intro bR w HB HM; clear HB) | (refine wpM_alloc (o := ⟨some 7, _, _, _, _, _⟩) HM rfl rfl zt_Answer rfl ?_; clear HM; intro bA w HB HM; clear HB) | (refine wpM_alloc (o := ⟨some 9, _, _, _, _, _⟩) HM rfl rfl zt_Slots rfl ?_; clear HM; intro bT w HB HM; clear HB) | (refine wpM_alloc (o := ⟨some 11, _, _, _, _, _⟩) HM rfl rfl zt_Answer rfl ?_; clear HM; intro bX w HB HM; clear HB) | (refine wpM_alloc (o := ⟨some 12, _, _, _, _, _⟩) HM rfl rfl zt_Cells rfl ?_; clear HM; intro bU w HB HM; clear HB) | (refine wpM_alloc (o := ⟨some 16, _, _, _, _, _⟩) HM rfl rfl zt_Answer rfl ?_; clear HM; intro bX w HB HM; clear HB) | (refine wpM_alloc (o := ⟨some 20, _, _, _, _, _⟩) HM rfl rfl zt_Answer rfl ?_; clear HM; intro bX w HB HM; clear HB) | (refine wpM_box HM rfl rfl rfl rfl ?_; clear HM; intro b w HB HM; clear HB) | (refine wpM_alloc HM rfl rfl zt_Cells rfl ?_; clear HM; intro b w HB HM; clear HB) | (refine wpM_alloc HM rfl rfl zt_Answer rfl ?_; clear HM; intro b w HB HM; clear HB) | (refine wpM_alloc HM rfl rfl zt_Slots rfl ?_; clear HM; intro b w HB HM; clear HB) | (refine wpM_load (ty := 3) HM rfl rfl rfl (by repeat (first | exact Sel.head | apply Sel.tail)) (by first | rfl | assumption) (by kernel_rfl) ?_) | (refine wpM_loadR (ty := 3) HM rfl rfl rfl (by repeat (first | exact Sel.head | apply Sel.tail)) (by first | rfl | assumption) (by kernel_rfl) ?_) | (refine wpM_load (ty := 42) HM rfl rfl rfl (by repeat (first | exact Sel.head | apply Sel.tail)) (by first | rfl | assumption) (by kernel_rfl) ?_) | (refine wpM_loadR (ty := 42) HM rfl rfl rfl (by repeat (first | exact Sel.head | apply Sel.tail)) (by first | rfl | assumption) (by kernel_rfl) ?_) | (refine wpM_store HM rfl rfl rfl (by (conv => lhs; whnf); try rfl) (by repeat (first | exact Sel.head | apply Sel.tail)) (by simp) (by kernel_rfl) (by rfl) ?_; clear HM; intro w HM; try simp only [List.set_cons_zero, List.set_cons_succ] at HM))
      clear hix
      refine wp_region_M HM (fun ix => match ix with | 0 => [.blk bS [.int .i64 z, .int .i64 y] 67, .blk bU (u64s (slU u i)) 44, .blk bX [.int .i64 c, .int .i64 r] 26, .blk bT (tcells u) 69, .blk bA [.int .i64 0, .int .i64 0] 26, .blk bR (u64s (List.replicate 17 0)) 44, .blk bO [.int .i64 k, .int .i64 key, .int .i64 x] 30, .blk bC (u64s (t ++ [0])) 44] | 1 => [.blk bS [.int .i64 z, .int .i64 y] 67, .blk bU ((u64s (slU u i)).set (i * 2) (.int .u64 z)) 44, .blk bX [.int .i64 c, .int .i64 r] 26, .blk bT (tcells u) 69, .blk bA [.int .i64 0, .int .i64 0] 26, .blk bR (u64s (List.replicate 17 0)) 44, .blk bO [.int .i64 k, .int .i64 key, .int .i64 x] 30, .blk bC (u64s (t ++ [0])) 44] | _ => [.blk bS [.int .i64 z, .int .i64 y] 67, .blk bU (((u64s (slU u i)).set (i * 2) (.int .u64 z)).set (i * 2 + 1) (.int .u64 y)) 44, .blk bX [.int .i64 c, .int .i64 r] 26, .blk bT (tcells u) 69, .blk bA [.int .i64 0, .int .i64 0] 26, .blk bR (u64s (List.replicate 17 0)) 44, .blk bO [.int .i64 k, .int .i64 key, .int .i64 x] 30, .blk bC (u64s (t ++ [0])) 44]) rfl (by kernel_rfl) (by kernel_rfl) ?_
      refine wpB_pure (v := ?v9) (by kernel_rfl) (by kernel_rfl) (fun w' => ?h9) (fun K hK => ?k9)
      case h9 =>
        go_simp
        try rfl
      go_simp
      refine hK _ ?_
      clear hK K
      refine wpB_pure (v := ?v10) (by kernel_rfl) (by kernel_rfl) (fun w' => ?h10) (fun K hK => ?k10)
      case h10 =>
        go_simp
        try rfl
      go_simp
      refine hK _ ?_
      clear hK K
      refine wpB_pure (v := ?v11) (by kernel_rfl) (by kernel_rfl) (fun w' => ?h11) (fun K hK => ?k11)
      case h11 =>
        go_simp
        try rfl
      go_simp
      refine hK _ ?_
      clear hK K
      refine wpB_pure (v := ?v12) (by kernel_rfl) (by kernel_rfl) (fun w' => ?h12) (fun K hK => ?k12)
      case h12 =>
        go_simp
        try rfl
      go_simp
      refine hK _ ?_
      clear hK K
      refine wpB_pure (v := ?v13) (by kernel_rfl) (by kernel_rfl) (fun w' => ?h13) (fun K hK => ?k13)
      case h13 =>
        go_simp
        try rfl
      go_simp
      refine hK _ ?_
      clear hK K
      refine wpB_pure (v := ?v14) (by kernel_rfl) (by kernel_rfl) (fun w' => ?h14) (fun K hK => ?k14)
      case h14 =>
        go_simp
        try rfl
      go_simp
      refine hK _ ?_
      clear hK K
      (refine wpB_loadM (by kernel_rfl) (by kernel_rfl) (by kernel_rfl) rfl rfl (by repeat (first | exact Sel.head | apply Sel.tail)) (rfl) (by kernel_rfl) (fun K hK => ?_))
      go_simp
      refine hK _ ?_
      clear hK K
      refine wpB_pure (v := ?v15) (by kernel_rfl) (by kernel_rfl) (fun w' => ?h15) (fun K hK => ?k15)
      case h15 =>
        go_simp
        try rfl
      go_simp
      refine hK _ ?_
      clear hK K
      refine wpB_pure (v := ?v16) (by kernel_rfl) (by kernel_rfl) (fun w' => ?h16) (fun K hK => ?k16)
      case h16 =>
        go_simp
        try rfl
      go_simp
      refine hK _ ?_
      clear hK K
      (refine wpB_loadM1 (by kernel_rfl) (by kernel_rfl) (by kernel_rfl) rfl rfl (by repeat (first | exact Sel.head | apply Sel.tail)) (by repeat (first | exact Sel.head | apply Sel.tail)) (rfl) (by kernel_rfl) (fun K hK => ?_))
      go_simp
      refine hK _ ?_
      clear hK K
      refine wpB_pure (v := ?v17) (by kernel_rfl) (by kernel_rfl) (fun w' => ?h17) (fun K hK => ?k17)
      case h17 =>
        go_simp
        try rfl
      go_simp
      refine hK _ ?_
      clear hK K
      refine wpB_pure (v := ?v18) (by kernel_rfl) (by kernel_rfl) (fun w' => ?h18) (fun K hK => ?k18)
      case h18 =>
        go_simp
        try rfl
      go_simp
      refine hK _ ?_
      clear hK K
      (refine wpB_storeM (by kernel_rfl) (by kernel_rfl) rfl rfl rfl (by repeat (first | exact Sel.head | apply Sel.tail)) (HL1.out) (by kernel_rfl) rfl rfl (fun K hK => ?_))
      go_simp
      refine hK _ ?_
      clear hK K
      refine wpB_pure (v := ?v19) (by kernel_rfl) (by kernel_rfl) (fun w' => ?h19) (fun K hK => ?k19)
      case h19 =>
        go_simp
        try rfl
      go_simp
      refine hK _ ?_
      clear hK K
      (refine wpB_storeM (by kernel_rfl) (by kernel_rfl) rfl rfl rfl (by repeat (first | exact Sel.head | apply Sel.tail)) (HL2.out) (by kernel_rfl) rfl rfl (fun K hK => ?_))
      go_simp
      refine hK _ ?_
      clear hK K
      refine wpB_nil (fun w HM => ?_)
      change Mem W _ [.blk bS [.int .i64 z, .int .i64 y] 67, .blk bU (((u64s (slU u i)).set (i * 2) (.int .u64 z)).set (i * 2 + 1) (.int .u64 y)) 44, .blk bX [.int .i64 c, .int .i64 r] 26, .blk bT (tcells u) 69, .blk bA [.int .i64 0, .int .i64 0] 26, .blk bR (u64s (List.replicate 17 0)) 44, .blk bO [.int .i64 k, .int .i64 key, .int .i64 x] 30, .blk bC (u64s (t ++ [0])) 44] w at HM
      rw [u64s_set, u64s_set, HST.out] at HM
      replace HM := HM.tail
      go_wp2_with (first | (refine wpM_storeAll HM rfl rfl rfl rfl (by repeat (first | exact Sel.head | apply Sel.tail)) (by rfl) (by kernel_rfl) (by rfl) ?_; clear HM; intro w HM) | (refine wpM_loadAll (ty := 30) HM rfl rfl rfl (by repeat (first | exact Sel.head | apply Sel.tail)) (by kernel_rfl) ?_) | (refine wpM_loadAll (ty := 26) HM rfl rfl rfl (by repeat (first | exact Sel.head | apply Sel.tail)) (by kernel_rfl) ?_) | (refine wpM_box (o := ⟨some 4, _, _, _, _, _⟩) HM rfl rfl rfl rfl ?_; clear HM; intro bC w HB HM; clear HB) | (refine wpM_box (o := ⟨some 5, _, _, _, _, _⟩) HM rfl rfl rfl rfl ?_; clear HM; intro bO w HB HM; clear HB) | (refine wpM_alloc (o := ⟨some 6, _, _, _, _, _⟩) HM rfl rfl zt_Cells rfl ?_; clear HM; intro bR w HB HM; clear HB) | (refine wpM_alloc (o := ⟨some 7, _, _, _, _, _⟩) HM rfl rfl zt_Answer rfl ?_; clear HM; intro bA w HB HM; clear HB) | (refine wpM_alloc (o := ⟨some 9, _, _, _, _, _⟩) HM rfl rfl zt_Slots rfl ?_; clear HM; intro bT w HB HM; clear HB) | (refine wpM_alloc (o := ⟨some 11, _, _, _, _, _⟩) HM rfl rfl zt_Answer rfl ?_; clear HM; intro bX w HB HM; clear HB) | (refine wpM_alloc (o := ⟨some 12, _, _, _, _, _⟩) HM rfl rfl zt_Cells rfl ?_; clear HM; intro bU w HB HM; clear HB) | (refine wpM_alloc (o := ⟨some 16, _, _, _, _, _⟩) HM rfl rfl zt_Answer rfl ?_; clear HM; intro bX w HB HM; clear HB) | (refine wpM_alloc (o := ⟨some 20, _, _, _, _, _⟩) HM rfl rfl zt_Answer rfl ?_; clear HM; intro bX w HB HM; clear HB) | (refine wpM_box HM rfl rfl rfl rfl ?_; clear HM; intro b w HB HM; clear HB) | (refine wpM_alloc HM rfl rfl zt_Cells rfl ?_; clear HM; intro b w HB HM; clear HB) | (refine wpM_alloc HM rfl rfl zt_Answer rfl ?_; clear HM; intro b w HB HM; clear HB) | (refine wpM_alloc HM rfl rfl zt_Slots rfl ?_; clear HM; intro b w HB HM; clear HB) | (refine wpM_load (ty := 3) HM rfl rfl rfl (by repeat (first | exact Sel.head | apply Sel.tail)) (by first | rfl | assumption) (by kernel_rfl) ?_) | (refine wpM_loadR (ty := 3) HM rfl rfl rfl (by repeat (first | exact Sel.head | apply Sel.tail)) (by first | rfl | assumption) (by kernel_rfl) ?_) | (refine wpM_load (ty := 42) HM rfl rfl rfl (by repeat (first | exact Sel.head | apply Sel.tail)) (by first | rfl | assumption) (by kernel_rfl) ?_) | (refine wpM_loadR (ty := 42) HM rfl rfl rfl (by repeat (first | exact Sel.head | apply Sel.tail)) (by first | rfl | assumption) (by kernel_rfl) ?_) | (refine wpM_store HM rfl rfl rfl (by (conv => lhs; whnf); try rfl) (by repeat (first | exact Sel.head | apply Sel.tail)) (by simp) (by kernel_rfl) (by rfl) ?_; clear HM; intro w HM; try simp only [List.set_cons_zero, List.set_cons_succ] at HM))
      go_roundw
      case rel => exact ⟨i + 1, by omega, by go_num, HM⟩
      case measure => simp [intOf]; omega
    · obtain rfl : i = 8 := by omega
      have e8 : slU u 8 = u ++ [0] := by
        unfold slU slTo; rw [List.take_of_length_le (by have := HG2.out.len; omega)]; simp
      rw [e8] at HM
      clear e8
      have HYL : Hid ((u64s (u ++ [0])).length = 17) := Lib.hid (by rw [u64s_len]; simp [HG2.out.len])
      have HL0 : Hid (0 + 17 ≤ (u64s (u ++ [0])).length) := Lib.hid (by rw [HYL.out]; omega)
      have HONE : Hid (((u64s (u ++ [0])).drop 0).take 17 = u64s (u ++ [0])) := Lib.hid (by rw [List.drop_zero, List.take_of_length_le (by rw [HYL.out]; omega)])
      go_upto_region 13 with (first | (refine wpM_storeAll HM rfl rfl rfl rfl (by repeat (first | exact Sel.head | apply Sel.tail)) (by rfl) (by kernel_rfl) (by rfl) ?_; clear HM; intro w HM) | (refine wpM_loadAll (ty := 30) HM rfl rfl rfl (by repeat (first | exact Sel.head | apply Sel.tail)) (by kernel_rfl) ?_) | (refine wpM_loadAll (ty := 26) HM rfl rfl rfl (by repeat (first | exact Sel.head | apply Sel.tail)) (by kernel_rfl) ?_) | (refine wpM_box (o := ⟨some 4, _, _, _, _, _⟩) HM rfl rfl rfl rfl ?_; clear HM; intro bC w HB HM; clear HB) | (refine wpM_box (o := ⟨some 5, _, _, _, _, _⟩) HM rfl rfl rfl rfl ?_; clear HM; intro bO w HB HM; clear HB) | (refine wpM_alloc (o := ⟨some 6, _, _, _, _, _⟩) HM rfl rfl zt_Cells rfl ?_; clear HM; intro bR w HB HM; clear HB) | (refine wpM_alloc (o := ⟨some 7, _, _, _, _, _⟩) HM rfl rfl zt_Answer rfl ?_; clear HM; intro bA w HB HM; clear HB) | (refine wpM_alloc (o := ⟨some 9, _, _, _, _, _⟩) HM rfl rfl zt_Slots rfl ?_; clear HM; intro bT w HB HM; clear HB) | (refine wpM_alloc (o := ⟨some 11, _, _, _, _, _⟩) HM rfl rfl zt_Answer rfl ?_; clear HM; intro bX w HB HM; clear HB) | (refine wpM_alloc (o := ⟨some 12, _, _, _, _, _⟩) HM rfl rfl zt_Cells rfl ?_; clear HM; intro bU w HB HM; clear HB) | (refine wpM_alloc (o := ⟨some 16, _, _, _, _, _⟩) HM rfl rfl zt_Answer rfl ?_; clear HM; intro bX w HB HM; clear HB) | (refine wpM_alloc (o := ⟨some 20, _, _, _, _, _⟩) HM rfl rfl zt_Answer rfl ?_; clear HM; intro bX w HB HM; clear HB) | (refine wpM_box HM rfl rfl rfl rfl ?_; clear HM; intro b w HB HM; clear HB) | (refine wpM_alloc HM rfl rfl zt_Cells rfl ?_; clear HM; intro b w HB HM; clear HB) | (refine wpM_alloc HM rfl rfl zt_Answer rfl ?_; clear HM; intro b w HB HM; clear HB) | (refine wpM_alloc HM rfl rfl zt_Slots rfl ?_; clear HM; intro b w HB HM; clear HB) | (refine wpM_load (ty := 3) HM rfl rfl rfl (by repeat (first | exact Sel.head | apply Sel.tail)) (by first | rfl | assumption) (by kernel_rfl) ?_) | (refine wpM_loadR (ty := 3) HM rfl rfl rfl (by repeat (first | exact Sel.head | apply Sel.tail)) (by first | rfl | assumption) (by kernel_rfl) ?_) | (refine wpM_load (ty := 42) HM rfl rfl rfl (by repeat (first | exact Sel.head | apply Sel.tail)) (by first | rfl | assumption) (by kernel_rfl) ?_) | (refine wpM_loadR (ty := 42) HM rfl rfl rfl (by repeat (first | exact Sel.head | apply Sel.tail)) (by first | rfl | assumption) (by kernel_rfl) ?_) | (refine wpM_store HM rfl rfl rfl (by (conv => lhs; whnf); try rfl) (by repeat (first | exact Sel.head | apply Sel.tail)) (by simp) (by kernel_rfl) (by rfl) ?_; clear HM; intro w HM; try simp only [List.set_cons_zero, List.set_cons_succ] at HM))
      replace HM := HM.sub (M' := [.blk bU (u64s (u ++ [0])) 44, .blk bX [.int .i64 c, .int .i64 r] 26, .blk bA [.int .i64 0, .int .i64 0] 26, .blk bR (u64s (List.replicate 17 0)) 44]) (by repeat (first | exact List.Sublist.refl _ | apply List.Sublist.cons_cons | apply List.Sublist.cons))
      refine wp_region_M HM (fun ix => match ix with | 0 => [.blk bU (u64s (u ++ [0])) 44, .blk bX [.int .i64 c, .int .i64 r] 26, .blk bA [.int .i64 0, .int .i64 0] 26, .blk bR (u64s (List.replicate 17 0)) 44] | 1 => [.blk bU (u64s (u ++ [0])) 44, .blk bX [.int .i64 c, .int .i64 r] 26, .blk bA [.int .i64 0, .int .i64 0] 26, .blk bR (spl (u64s (List.replicate 17 0)) 0 (u64s (u ++ [0]))) 44] | _ => [.blk bU (u64s (u ++ [0])) 44, .blk bX [.int .i64 c, .int .i64 r] 26, .blk bA (spl [.int .i64 0, .int .i64 0] 0 [.int .i64 c, .int .i64 r]) 26, .blk bR (spl (u64s (List.replicate 17 0)) 0 (u64s (u ++ [0]))) 44]) rfl (by kernel_rfl) (by kernel_rfl) ?_
      (refine wpB_loadMA (n := 17) (by kernel_rfl) (by kernel_rfl) (by kernel_rfl) rfl rfl (by repeat (first | exact Sel.head | apply Sel.tail)) (by kernel_rfl) (HL0.out) (fun K hK => ?_)); rw [HONE.out]
      go_simp
      refine hK _ ?_
      clear hK K
      (refine wpB_loadMA1 (n := 2) (by kernel_rfl) (by kernel_rfl) (by kernel_rfl) rfl rfl (by repeat (first | exact Sel.head | apply Sel.tail)) (by repeat (first | exact Sel.head | apply Sel.tail)) (by kernel_rfl) (by exact Nat.le_refl _) (fun K hK => ?_))
      go_simp
      refine hK _ ?_
      clear hK K
      (refine wpB_storeMA (by kernel_rfl) (by kernel_rfl) rfl rfl rfl (by repeat (first | exact Sel.head | apply Sel.tail)) (HYL.out) (by exact Nat.le_refl _) (by kernel_rfl) (fun v hv => List.all_eq_true.1 (cells_all (u ++ [0])) v hv) rfl (fun K hK => ?_))
      go_simp
      refine hK _ ?_
      clear hK K
      (refine wpB_storeMA (by kernel_rfl) (by kernel_rfl) rfl rfl rfl (by repeat (first | exact Sel.head | apply Sel.tail)) (by rfl) (by exact Nat.le_refl _) (by kernel_rfl) (two_ints _ _) rfl (fun K hK => ?_))
      go_simp
      refine hK _ ?_
      clear hK K
      refine wpB_pure (v := ?v20) (by kernel_rfl) (by kernel_rfl) (fun w' => ?h20) (fun K hK => ?k20)
      case h20 =>
        go_simp
        try rfl
      go_simp
      refine hK _ ?_
      clear hK K
      refine wpB_nil (fun w HM => ?_)
      have HSP : Hid (spl (u64s (List.replicate 17 0)) 0 (u64s (u ++ [0])) = u64s (u ++ [0])) := Lib.hid (spl_whole _ _ (by rw [HYL.out]; rfl))
      change Mem W _ [.blk bU (u64s (u ++ [0])) 44, .blk bX [.int .i64 c, .int .i64 r] 26, .blk bA [.int .i64 c, .int .i64 r] 26, .blk bR (spl (u64s (List.replicate 17 0)) 0 (u64s (u ++ [0]))) 44] w at HM
      rw [HSP.out] at HM
      go_wp2_with (first | (refine wpM_storeAll HM rfl rfl rfl rfl (by repeat (first | exact Sel.head | apply Sel.tail)) (by rfl) (by kernel_rfl) (by rfl) ?_; clear HM; intro w HM) | (refine wpM_loadAll (ty := 30) HM rfl rfl rfl (by repeat (first | exact Sel.head | apply Sel.tail)) (by kernel_rfl) ?_) | (refine wpM_loadAll (ty := 26) HM rfl rfl rfl (by repeat (first | exact Sel.head | apply Sel.tail)) (by kernel_rfl) ?_) | (refine wpM_box (o := ⟨some 4, _, _, _, _, _⟩) HM rfl rfl rfl rfl ?_; clear HM; intro bC w HB HM; clear HB) | (refine wpM_box (o := ⟨some 5, _, _, _, _, _⟩) HM rfl rfl rfl rfl ?_; clear HM; intro bO w HB HM; clear HB) | (refine wpM_alloc (o := ⟨some 6, _, _, _, _, _⟩) HM rfl rfl zt_Cells rfl ?_; clear HM; intro bR w HB HM; clear HB) | (refine wpM_alloc (o := ⟨some 7, _, _, _, _, _⟩) HM rfl rfl zt_Answer rfl ?_; clear HM; intro bA w HB HM; clear HB) | (refine wpM_alloc (o := ⟨some 9, _, _, _, _, _⟩) HM rfl rfl zt_Slots rfl ?_; clear HM; intro bT w HB HM; clear HB) | (refine wpM_alloc (o := ⟨some 11, _, _, _, _, _⟩) HM rfl rfl zt_Answer rfl ?_; clear HM; intro bX w HB HM; clear HB) | (refine wpM_alloc (o := ⟨some 12, _, _, _, _, _⟩) HM rfl rfl zt_Cells rfl ?_; clear HM; intro bU w HB HM; clear HB) | (refine wpM_alloc (o := ⟨some 16, _, _, _, _, _⟩) HM rfl rfl zt_Answer rfl ?_; clear HM; intro bX w HB HM; clear HB) | (refine wpM_alloc (o := ⟨some 20, _, _, _, _, _⟩) HM rfl rfl zt_Answer rfl ?_; clear HM; intro bX w HB HM; clear HB) | (refine wpM_box HM rfl rfl rfl rfl ?_; clear HM; intro b w HB HM; clear HB) | (refine wpM_alloc HM rfl rfl zt_Cells rfl ?_; clear HM; intro b w HB HM; clear HB) | (refine wpM_alloc HM rfl rfl zt_Answer rfl ?_; clear HM; intro b w HB HM; clear HB) | (refine wpM_alloc HM rfl rfl zt_Slots rfl ?_; clear HM; intro b w HB HM; clear HB) | (refine wpM_load (ty := 3) HM rfl rfl rfl (by repeat (first | exact Sel.head | apply Sel.tail)) (by first | rfl | assumption) (by kernel_rfl) ?_) | (refine wpM_loadR (ty := 3) HM rfl rfl rfl (by repeat (first | exact Sel.head | apply Sel.tail)) (by first | rfl | assumption) (by kernel_rfl) ?_) | (refine wpM_load (ty := 42) HM rfl rfl rfl (by repeat (first | exact Sel.head | apply Sel.tail)) (by first | rfl | assumption) (by kernel_rfl) ?_) | (refine wpM_loadR (ty := 42) HM rfl rfl rfl (by repeat (first | exact Sel.head | apply Sel.tail)) (by first | rfl | assumption) (by kernel_rfl) ?_) | (refine wpM_store HM rfl rfl rfl (by (conv => lhs; whnf); try rfl) (by repeat (first | exact Sel.head | apply Sel.tail)) (by simp) (by kernel_rfl) (by rfl) ?_; clear HM; intro w HM; try simp only [List.set_cons_zero, List.set_cons_succ] at HM))
      exact bodyPost_ret (v := .tuple #[.agg (u64s (u ++ [0])).toArray, .agg #[.int .i64 c, .int .i64 r], .nilIface]) (resM_cct HM rfl (by rfl) (by rfl) (by repeat (first | exact Sel.head | apply Sel.tail)) (by rw [HYL.out]; exact HAB.out) (by rfl) (by repeat (first | exact Sel.head | apply Sel.tail)) (by kernel_rfl)) rfl ⟨rfl, HM.below⟩
set_option maxRecDepth 20000 in
set_option maxHeartbeats 4000000 in
theorem do_tally (W : World) (n : Int) (h0 : 0 ≤ n) (h1 : n ≤ 4294967295) (k key x : Int) (hop : opOk k key x = true) :
    Calls Try.prog 36 #[.int .i64 6, .agg (u64s (n :: List.replicate 16 0)).toArray, .agg #[.int .i64 k, .int .i64 key, .int .i64 x]] W fun e w' =>
      e = .returned (.tuple #[.agg (u64s (tallyR n k x :: List.replicate 16 0)).toArray, .agg #[.int .i64 (tallyC n k x), .int .i64 (tallyV n k x)], .nilIface]) ∧ Below W.heap.size W w' := by
  have HOP := Lib.hid hop
  clear hop
  obtain ⟨o1, o2, o3, o4, o5, o6⟩ := of_decide_eq_true (show decide _ = true from HOP.out)
  have HAC := Lib.hid (cells_agg (n :: List.replicate 16 0) (by simp))
  have m0 := tallyR_lo n k x h0 o5
  have m1 := tallyR_hi n k x h1 o5
  have HTD : Hid (∀ w, Calls Try.prog 52 #[.int .i64 n, .agg #[.int .i64 k, .int .i64 key, .int .i64 x]] w fun e w' => e = .returned (.tuple #[.int .i64 (tallyR n k x), .agg #[.int .i64 (tallyC n k x), .int .i64 (tallyV n k x)]]) ∧ Below w.heap.size w w') := Lib.hid (fun w => tally_any n k key x w h0 h1 o5 o6)
  have HC0 : Hid ((u64s (n :: List.replicate 16 0))[0]? = some (.int .u64 n)) := Lib.hid rfl
  generalize tallyR n k x = m at *
  generalize tallyC n k x = c at *
  generalize tallyV n k x = r at *
  have w1 : IntKind.i64.wrap n = n := IntWalk.i64_in _ (by omega)
  have w2 : IntKind.u64.wrap m = m := u64_in _ (by omega) (by omega)
  have HYL : Hid ((u64s (m :: List.replicate 16 0)).length = 17) := Lib.hid (by rw [u64s_len]; simp)
  have HAB : Hid (aggB Try.prog 44 17 = true) := Lib.hid (by kernel_rfl)
  have HM := Mem.start W
  clear o1 o2 o3 o4 o5 o6
  go_enter Try.func36, Try.ntmps36
  go_wp2_with (first | (refine wpM_loadAll (ty := 44) HM rfl rfl rfl (by repeat (first | exact Sel.head | apply Sel.tail)) (by exact HAC.out) ?_) | (refine wpM_storeAll HM rfl rfl rfl rfl (by repeat (first | exact Sel.head | apply Sel.tail)) (by rfl) (by kernel_rfl) (by rfl) ?_; clear HM; intro w HM) | (refine wpM_loadAll (ty := 30) HM rfl rfl rfl (by repeat (first | exact Sel.head | apply Sel.tail)) (by kernel_rfl) ?_) | (refine wpM_loadAll (ty := 26) HM rfl rfl rfl (by repeat (first | exact Sel.head | apply Sel.tail)) (by kernel_rfl) ?_) | (refine wpM_box (o := ⟨some 4, _, _, _, _, _⟩) HM rfl rfl rfl rfl ?_; clear HM; intro bC w HB HM; clear HB) | (refine wpM_box (o := ⟨some 5, _, _, _, _, _⟩) HM rfl rfl rfl rfl ?_; clear HM; intro bO w HB HM; clear HB) | (refine wpM_alloc (o := ⟨some 6, _, _, _, _, _⟩) HM rfl rfl zt_Cells rfl ?_; clear HM; intro bR w HB HM; clear HB) | (refine wpM_alloc (o := ⟨some 7, _, _, _, _, _⟩) HM rfl rfl zt_Answer rfl ?_; clear HM; intro bA w HB HM; clear HB) | (refine wpM_alloc (o := ⟨some 9, _, _, _, _, _⟩) HM rfl rfl zt_Slots rfl ?_; clear HM; intro bT w HB HM; clear HB) | (refine wpM_alloc (o := ⟨some 11, _, _, _, _, _⟩) HM rfl rfl zt_Answer rfl ?_; clear HM; intro bX w HB HM; clear HB) | (refine wpM_alloc (o := ⟨some 12, _, _, _, _, _⟩) HM rfl rfl zt_Cells rfl ?_; clear HM; intro bU w HB HM; clear HB) | (refine wpM_alloc (o := ⟨some 16, _, _, _, _, _⟩) HM rfl rfl zt_Answer rfl ?_; clear HM; intro bX w HB HM; clear HB) | (refine wpM_alloc (o := ⟨some 20, _, _, _, _, _⟩) HM rfl rfl zt_Answer rfl ?_; clear HM; intro bX w HB HM; clear HB) | (refine wpM_box HM rfl rfl rfl rfl ?_; clear HM; intro b w HB HM; clear HB) | (refine wpM_alloc HM rfl rfl zt_Cells rfl ?_; clear HM; intro b w HB HM; clear HB) | (refine wpM_alloc HM rfl rfl zt_Answer rfl ?_; clear HM; intro b w HB HM; clear HB) | (refine wpM_alloc HM rfl rfl zt_Slots rfl ?_; clear HM; intro b w HB HM; clear HB) | (refine wpM_load (ty := 3) HM rfl rfl rfl (by repeat (first | exact Sel.head | apply Sel.tail)) (by first | rfl | assumption) (by kernel_rfl) ?_) | (refine wpM_loadR (ty := 3) HM rfl rfl rfl (by repeat (first | exact Sel.head | apply Sel.tail)) (by first | rfl | assumption) (by kernel_rfl) ?_) | (refine wpM_load (ty := 42) HM rfl rfl rfl (by repeat (first | exact Sel.head | apply Sel.tail)) (by first | rfl | assumption) (by kernel_rfl) ?_) | (refine wpM_loadR (ty := 42) HM rfl rfl rfl (by repeat (first | exact Sel.head | apply Sel.tail)) (by first | rfl | assumption) (by kernel_rfl) ?_) | (refine wpM_store HM rfl rfl rfl (by (conv => lhs; whnf); try rfl) (by repeat (first | exact Sel.head | apply Sel.tail)) (by simp) (by kernel_rfl) (by rfl) ?_; clear HM; intro w HM; try simp only [List.set_cons_zero, List.set_cons_succ] at HM))
  refine (oright_any k key x _).mono ?_
  rintro e w ⟨rfl, hb⟩
  replace HM := HM.call hb
  clear hb
  rw [HOP.out]
  go_wp2_with (first | (refine wpM_loadAll (ty := 44) HM rfl rfl rfl (by repeat (first | exact Sel.head | apply Sel.tail)) (by exact HAC.out) ?_) | (refine wpM_storeAll HM rfl rfl rfl rfl (by repeat (first | exact Sel.head | apply Sel.tail)) (by rfl) (by kernel_rfl) (by rfl) ?_; clear HM; intro w HM) | (refine wpM_loadAll (ty := 30) HM rfl rfl rfl (by repeat (first | exact Sel.head | apply Sel.tail)) (by kernel_rfl) ?_) | (refine wpM_loadAll (ty := 26) HM rfl rfl rfl (by repeat (first | exact Sel.head | apply Sel.tail)) (by kernel_rfl) ?_) | (refine wpM_box (o := ⟨some 4, _, _, _, _, _⟩) HM rfl rfl rfl rfl ?_; clear HM; intro bC w HB HM; clear HB) | (refine wpM_box (o := ⟨some 5, _, _, _, _, _⟩) HM rfl rfl rfl rfl ?_; clear HM; intro bO w HB HM; clear HB) | (refine wpM_alloc (o := ⟨some 6, _, _, _, _, _⟩) HM rfl rfl zt_Cells rfl ?_; clear HM; intro bR w HB HM; clear HB) | (refine wpM_alloc (o := ⟨some 7, _, _, _, _, _⟩) HM rfl rfl zt_Answer rfl ?_; clear HM; intro bA w HB HM; clear HB) | (refine wpM_alloc (o := ⟨some 9, _, _, _, _, _⟩) HM rfl rfl zt_Slots rfl ?_; clear HM; intro bT w HB HM; clear HB) | (refine wpM_alloc (o := ⟨some 11, _, _, _, _, _⟩) HM rfl rfl zt_Answer rfl ?_; clear HM; intro bX w HB HM; clear HB) | (refine wpM_alloc (o := ⟨some 12, _, _, _, _, _⟩) HM rfl rfl zt_Cells rfl ?_; clear HM; intro bU w HB HM; clear HB) | (refine wpM_alloc (o := ⟨some 16, _, _, _, _, _⟩) HM rfl rfl zt_Answer rfl ?_; clear HM; intro bX w HB HM; clear HB) | (refine wpM_alloc (o := ⟨some 20, _, _, _, _, _⟩) HM rfl rfl zt_Answer rfl ?_; clear HM; intro bX w HB HM; clear HB) | (refine wpM_box HM rfl rfl rfl rfl ?_; clear HM; intro b w HB HM; clear HB) | (refine wpM_alloc HM rfl rfl zt_Cells rfl ?_; clear HM; intro b w HB HM; clear HB) | (refine wpM_alloc HM rfl rfl zt_Answer rfl ?_; clear HM; intro b w HB HM; clear HB) | (refine wpM_alloc HM rfl rfl zt_Slots rfl ?_; clear HM; intro b w HB HM; clear HB) | (refine wpM_load (ty := 3) HM rfl rfl rfl (by repeat (first | exact Sel.head | apply Sel.tail)) (by first | rfl | assumption) (by kernel_rfl) ?_) | (refine wpM_loadR (ty := 3) HM rfl rfl rfl (by repeat (first | exact Sel.head | apply Sel.tail)) (by first | rfl | assumption) (by kernel_rfl) ?_) | (refine wpM_load (ty := 42) HM rfl rfl rfl (by repeat (first | exact Sel.head | apply Sel.tail)) (by first | rfl | assumption) (by kernel_rfl) ?_) | (refine wpM_loadR (ty := 42) HM rfl rfl rfl (by repeat (first | exact Sel.head | apply Sel.tail)) (by first | rfl | assumption) (by kernel_rfl) ?_) | (refine wpM_store HM rfl rfl rfl (by (conv => lhs; whnf); try rfl) (by repeat (first | exact Sel.head | apply Sel.tail)) (by simp) (by kernel_rfl) (by rfl) ?_; clear HM; intro w HM; try simp only [List.set_cons_zero, List.set_cons_succ] at HM))
  refine (right_tally _ n h0 h1).mono ?_
  rintro e w ⟨rfl, hb⟩
  replace HM := HM.call hb
  clear hb
  go_wp2_with (first | (refine wpM_loadAll (ty := 44) HM rfl rfl rfl (by repeat (first | exact Sel.head | apply Sel.tail)) (by exact HAC.out) ?_) | (refine wpM_storeAll HM rfl rfl rfl rfl (by repeat (first | exact Sel.head | apply Sel.tail)) (by rfl) (by kernel_rfl) (by rfl) ?_; clear HM; intro w HM) | (refine wpM_loadAll (ty := 30) HM rfl rfl rfl (by repeat (first | exact Sel.head | apply Sel.tail)) (by kernel_rfl) ?_) | (refine wpM_loadAll (ty := 26) HM rfl rfl rfl (by repeat (first | exact Sel.head | apply Sel.tail)) (by kernel_rfl) ?_) | (refine wpM_box (o := ⟨some 4, _, _, _, _, _⟩) HM rfl rfl rfl rfl ?_; clear HM; intro bC w HB HM; clear HB) | (refine wpM_box (o := ⟨some 5, _, _, _, _, _⟩) HM rfl rfl rfl rfl ?_; clear HM; intro bO w HB HM; clear HB) | (refine wpM_alloc (o := ⟨some 6, _, _, _, _, _⟩) HM rfl rfl zt_Cells rfl ?_; clear HM; intro bR w HB HM; clear HB) | (refine wpM_alloc (o := ⟨some 7, _, _, _, _, _⟩) HM rfl rfl zt_Answer rfl ?_; clear HM; intro bA w HB HM; clear HB) | (refine wpM_alloc (o := ⟨some 9, _, _, _, _, _⟩) HM rfl rfl zt_Slots rfl ?_; clear HM; intro bT w HB HM; clear HB) | (refine wpM_alloc (o := ⟨some 11, _, _, _, _, _⟩) HM rfl rfl zt_Answer rfl ?_; clear HM; intro bX w HB HM; clear HB) | (refine wpM_alloc (o := ⟨some 12, _, _, _, _, _⟩) HM rfl rfl zt_Cells rfl ?_; clear HM; intro bU w HB HM; clear HB) | (refine wpM_alloc (o := ⟨some 16, _, _, _, _, _⟩) HM rfl rfl zt_Answer rfl ?_; clear HM; intro bX w HB HM; clear HB) | (refine wpM_alloc (o := ⟨some 20, _, _, _, _, _⟩) HM rfl rfl zt_Answer rfl ?_; clear HM; intro bX w HB HM; clear HB) | (refine wpM_box HM rfl rfl rfl rfl ?_; clear HM; intro b w HB HM; clear HB) | (refine wpM_alloc HM rfl rfl zt_Cells rfl ?_; clear HM; intro b w HB HM; clear HB) | (refine wpM_alloc HM rfl rfl zt_Answer rfl ?_; clear HM; intro b w HB HM; clear HB) | (refine wpM_alloc HM rfl rfl zt_Slots rfl ?_; clear HM; intro b w HB HM; clear HB) | (refine wpM_load (ty := 3) HM rfl rfl rfl (by repeat (first | exact Sel.head | apply Sel.tail)) (by first | rfl | exact HC0.out) (by kernel_rfl) ?_) | (refine wpM_loadR (ty := 3) HM rfl rfl rfl (by repeat (first | exact Sel.head | apply Sel.tail)) (by first | rfl | exact HC0.out) (by kernel_rfl) ?_) | (refine wpM_load (ty := 42) HM rfl rfl rfl (by repeat (first | exact Sel.head | apply Sel.tail)) (by first | rfl | exact HC0.out) (by kernel_rfl) ?_) | (refine wpM_loadR (ty := 42) HM rfl rfl rfl (by repeat (first | exact Sel.head | apply Sel.tail)) (by first | rfl | exact HC0.out) (by kernel_rfl) ?_) | (refine wpM_store HM rfl rfl rfl (by (conv => lhs; whnf); try rfl) (by repeat (first | exact Sel.head | apply Sel.tail)) (by simp) (by kernel_rfl) (by rfl) ?_; clear HM; intro w HM; try simp only [List.set_cons_zero, List.set_cons_succ] at HM))
  refine (HTD.out _).mono ?_
  rintro e w ⟨rfl, hb⟩
  replace HM := HM.call hb
  clear hb
  go_upto_region 16 with (first | (refine wpM_loadAll (ty := 44) HM rfl rfl rfl (by repeat (first | exact Sel.head | apply Sel.tail)) (by exact HAC.out) ?_) | (refine wpM_storeAll HM rfl rfl rfl rfl (by repeat (first | exact Sel.head | apply Sel.tail)) (by rfl) (by kernel_rfl) (by rfl) ?_; clear HM; intro w HM) | (refine wpM_loadAll (ty := 30) HM rfl rfl rfl (by repeat (first | exact Sel.head | apply Sel.tail)) (by kernel_rfl) ?_) | (refine wpM_loadAll (ty := 26) HM rfl rfl rfl (by repeat (first | exact Sel.head | apply Sel.tail)) (by kernel_rfl) ?_) | (refine wpM_box (o := ⟨some 4, _, _, _, _, _⟩) HM rfl rfl rfl rfl ?_; clear HM; intro bC w HB HM; clear HB) | (refine wpM_box (o := ⟨some 5, _, _, _, _, _⟩) HM rfl rfl rfl rfl ?_; clear HM; intro bO w HB HM; clear HB) | (refine wpM_alloc (o := ⟨some 6, _, _, _, _, _⟩) HM rfl rfl zt_Cells rfl ?_; clear HM; intro bR w HB HM; clear HB) | (refine wpM_alloc (o := ⟨some 7, _, _, _, _, _⟩) HM rfl rfl zt_Answer rfl ?_; clear HM; intro bA w HB HM; clear HB) | (refine wpM_alloc (o := ⟨some 9, _, _, _, _, _⟩) HM rfl rfl zt_Slots rfl ?_; clear HM; intro bT w HB HM; clear HB) | (refine wpM_alloc (o := ⟨some 11, _, _, _, _, _⟩) HM rfl rfl zt_Answer rfl ?_; clear HM; intro bX w HB HM; clear HB) | (refine wpM_alloc (o := ⟨some 12, _, _, _, _, _⟩) HM rfl rfl zt_Cells rfl ?_; clear HM; intro bU w HB HM; clear HB) | (refine wpM_alloc (o := ⟨some 16, _, _, _, _, _⟩) HM rfl rfl zt_Answer rfl ?_; clear HM; intro bX w HB HM; clear HB) | (refine wpM_alloc (o := ⟨some 20, _, _, _, _, _⟩) HM rfl rfl zt_Answer rfl ?_; clear HM; intro bX w HB HM; clear HB) | (refine wpM_box HM rfl rfl rfl rfl ?_; clear HM; intro b w HB HM; clear HB) | (refine wpM_alloc HM rfl rfl zt_Cells rfl ?_; clear HM; intro b w HB HM; clear HB) | (refine wpM_alloc HM rfl rfl zt_Answer rfl ?_; clear HM; intro b w HB HM; clear HB) | (refine wpM_alloc HM rfl rfl zt_Slots rfl ?_; clear HM; intro b w HB HM; clear HB) | (refine wpM_load (ty := 3) HM rfl rfl rfl (by repeat (first | exact Sel.head | apply Sel.tail)) (by first | rfl | assumption) (by kernel_rfl) ?_) | (refine wpM_loadR (ty := 3) HM rfl rfl rfl (by repeat (first | exact Sel.head | apply Sel.tail)) (by first | rfl | assumption) (by kernel_rfl) ?_) | (refine wpM_load (ty := 42) HM rfl rfl rfl (by repeat (first | exact Sel.head | apply Sel.tail)) (by first | rfl | assumption) (by kernel_rfl) ?_) | (refine wpM_loadR (ty := 42) HM rfl rfl rfl (by repeat (first | exact Sel.head | apply Sel.tail)) (by first | rfl | assumption) (by kernel_rfl) ?_) | (refine wpM_store HM rfl rfl rfl (by (conv => lhs; whnf); try rfl) (by repeat (first | exact Sel.head | apply Sel.tail)) (by simp) (by kernel_rfl) (by rfl) ?_; clear HM; intro w HM; try simp only [List.set_cons_zero, List.set_cons_succ] at HM))
  replace HM := HM.sub (M' := [.blk bX [.int .i64 c, .int .i64 r] 26, .blk bA [.int .i64 0, .int .i64 0] 26, .blk bR (u64s (List.replicate 17 0)) 44]) (by repeat (first | exact List.Sublist.refl _ | apply List.Sublist.cons_cons | apply List.Sublist.cons))
  refine wp_region_M HM (fun ix => match ix with | 0 => [.blk bX [.int .i64 c, .int .i64 r] 26, .blk bA [.int .i64 0, .int .i64 0] 26, .blk bR (u64s (List.replicate 17 0)) 44] | 1 => [.blk bX [.int .i64 c, .int .i64 r] 26, .blk bA [.int .i64 0, .int .i64 0] 26, .blk bR (spl (u64s (List.replicate 17 0)) 0 (u64s (m :: List.replicate 16 0))) 44] | _ => [.blk bX [.int .i64 c, .int .i64 r] 26, .blk bA (spl [.int .i64 0, .int .i64 0] 0 [.int .i64 c, .int .i64 r]) 26, .blk bR (spl (u64s (List.replicate 17 0)) 0 (u64s (m :: List.replicate 16 0))) 44]) rfl (by kernel_rfl) (by kernel_rfl) ?_
  refine wpB_pure (v := ?v21) (by kernel_rfl) (by kernel_rfl) (fun w' => ?h21) (fun K hK => ?k21)
  case h21 =>
    go_simp
    try rfl
  go_simp
  refine hK _ ?_
  clear hK K
  refine wpB_pure (v := ?v22) (by kernel_rfl) (by kernel_rfl) (fun w' => ?h22) (fun K hK => ?k22)
  case h22 =>
    go_simp
    try rfl
  go_simp
  refine hK _ ?_
  clear hK K
  refine wpB_pure (v := ?v23) (by kernel_rfl) (by kernel_rfl) (fun w' => ?h23) (fun K hK => ?k23)
  case h23 =>
    go_simp
    try rfl
  go_simp
  refine hK _ ?_
  clear hK K
  (refine wpB_loadMA1 (n := 2) (by kernel_rfl) (by kernel_rfl) (by kernel_rfl) rfl rfl (by repeat (first | exact Sel.head | apply Sel.tail)) (by repeat (first | exact Sel.head | apply Sel.tail)) (by kernel_rfl) (by exact Nat.le_refl _) (fun K hK => ?_))
  go_simp
  refine hK _ ?_
  clear hK K
  (refine wpB_storeMA (by kernel_rfl) (by kernel_rfl) rfl rfl rfl (by repeat (first | exact Sel.head | apply Sel.tail)) (HYL.out) (by exact Nat.le_refl _) (by kernel_rfl) (fun v hv => List.all_eq_true.1 (cells_all (m :: List.replicate 16 0)) v hv) rfl (fun K hK => ?_))
  go_simp
  refine hK _ ?_
  clear hK K
  (refine wpB_storeMA (by kernel_rfl) (by kernel_rfl) rfl rfl rfl (by repeat (first | exact Sel.head | apply Sel.tail)) (by rfl) (by exact Nat.le_refl _) (by kernel_rfl) (two_ints _ _) rfl (fun K hK => ?_))
  go_simp
  refine hK _ ?_
  clear hK K
  refine wpB_pure (v := ?v24) (by kernel_rfl) (by kernel_rfl) (fun w' => ?h24) (fun K hK => ?k24)
  case h24 =>
    go_simp
    try rfl
  go_simp
  refine hK _ ?_
  clear hK K
  refine wpB_nil (fun w HM => ?_)
  have HSP : Hid (spl (u64s (List.replicate 17 0)) 0 (u64s (m :: List.replicate 16 0)) = u64s (m :: List.replicate 16 0)) := Lib.hid (spl_whole _ _ (by rw [HYL.out]; rfl))
  change Mem W _ [.blk bX [.int .i64 c, .int .i64 r] 26, .blk bA [.int .i64 c, .int .i64 r] 26, .blk bR (spl (u64s (List.replicate 17 0)) 0 (u64s (m :: List.replicate 16 0))) 44] w at HM
  rw [HSP.out] at HM
  go_wp2_with (first | (refine wpM_storeAll HM rfl rfl rfl rfl (by repeat (first | exact Sel.head | apply Sel.tail)) (by rfl) (by kernel_rfl) (by rfl) ?_; clear HM; intro w HM) | (refine wpM_loadAll (ty := 30) HM rfl rfl rfl (by repeat (first | exact Sel.head | apply Sel.tail)) (by kernel_rfl) ?_) | (refine wpM_loadAll (ty := 26) HM rfl rfl rfl (by repeat (first | exact Sel.head | apply Sel.tail)) (by kernel_rfl) ?_) | (refine wpM_box (o := ⟨some 4, _, _, _, _, _⟩) HM rfl rfl rfl rfl ?_; clear HM; intro bC w HB HM; clear HB) | (refine wpM_box (o := ⟨some 5, _, _, _, _, _⟩) HM rfl rfl rfl rfl ?_; clear HM; intro bO w HB HM; clear HB) | (refine wpM_alloc (o := ⟨some 6, _, _, _, _, _⟩) HM rfl rfl zt_Cells rfl ?_; clear HM; intro bR w HB HM; clear HB) | (refine wpM_alloc (o := ⟨some 7, _, _, _, _, _⟩) HM rfl rfl zt_Answer rfl ?_; clear HM; intro bA w HB HM; clear HB) | (refine wpM_alloc (o := ⟨some 9, _, _, _, _, _⟩) HM rfl rfl zt_Slots rfl ?_; clear HM; intro bT w HB HM; clear HB) | (refine wpM_alloc (o := ⟨some 11, _, _, _, _, _⟩) HM rfl rfl zt_Answer rfl ?_; clear HM; intro bX w HB HM; clear HB) | (refine wpM_alloc (o := ⟨some 12, _, _, _, _, _⟩) HM rfl rfl zt_Cells rfl ?_; clear HM; intro bU w HB HM; clear HB) | (refine wpM_alloc (o := ⟨some 16, _, _, _, _, _⟩) HM rfl rfl zt_Answer rfl ?_; clear HM; intro bX w HB HM; clear HB) | (refine wpM_alloc (o := ⟨some 20, _, _, _, _, _⟩) HM rfl rfl zt_Answer rfl ?_; clear HM; intro bX w HB HM; clear HB) | (refine wpM_box HM rfl rfl rfl rfl ?_; clear HM; intro b w HB HM; clear HB) | (refine wpM_alloc HM rfl rfl zt_Cells rfl ?_; clear HM; intro b w HB HM; clear HB) | (refine wpM_alloc HM rfl rfl zt_Answer rfl ?_; clear HM; intro b w HB HM; clear HB) | (refine wpM_alloc HM rfl rfl zt_Slots rfl ?_; clear HM; intro b w HB HM; clear HB) | (refine wpM_load (ty := 3) HM rfl rfl rfl (by repeat (first | exact Sel.head | apply Sel.tail)) (by first | rfl | assumption) (by kernel_rfl) ?_) | (refine wpM_loadR (ty := 3) HM rfl rfl rfl (by repeat (first | exact Sel.head | apply Sel.tail)) (by first | rfl | assumption) (by kernel_rfl) ?_) | (refine wpM_load (ty := 42) HM rfl rfl rfl (by repeat (first | exact Sel.head | apply Sel.tail)) (by first | rfl | assumption) (by kernel_rfl) ?_) | (refine wpM_loadR (ty := 42) HM rfl rfl rfl (by repeat (first | exact Sel.head | apply Sel.tail)) (by first | rfl | assumption) (by kernel_rfl) ?_) | (refine wpM_store HM rfl rfl rfl (by (conv => lhs; whnf); try rfl) (by repeat (first | exact Sel.head | apply Sel.tail)) (by simp) (by kernel_rfl) (by rfl) ?_; clear HM; intro w HM; try simp only [List.set_cons_zero, List.set_cons_succ] at HM))
  exact bodyPost_ret (v := .tuple #[.agg (u64s (m :: List.replicate 16 0)).toArray, .agg #[.int .i64 c, .int .i64 r], .nilIface]) (resM_cct HM rfl (by rfl) (by rfl) (by repeat (first | exact Sel.head | apply Sel.tail)) (by rw [HYL.out]; exact HAB.out) (by rfl) (by repeat (first | exact Sel.head | apply Sel.tail)) (by kernel_rfl)) rfl ⟨rfl, HM.below⟩
end Go.Proofs.Ytpedkcpkdacnlaa
end
section
namespace Go.Proofs.Ytpedkcpkdacnlaa
open Go.RowKit
set_option linter.unusedVariables false
theorem InR.dummy : True := trivial
/-- object.Do, of any object, by any operation that may be. -/
theorem object_do (W : World) (kind : Int) (o : List Int) (ho : ObjOK kind o) (k key x : Int) (hop : opOk k key x = true) {o' : List Int} {c r : Int} (e : objR kind o k key x = (o', c, r)) :
    Calls Try.prog 36 #[.int .i64 kind, .agg (u64s o).toArray, .agg #[.int .i64 k, .int .i64 key, .int .i64 x]] W fun e w' =>
      e = .returned (.tuple #[.agg (u64s o').toArray, .agg #[.int .i64 c, .int .i64 r], .nilIface]) ∧ Below W.heap.size W w' := by
  rcases ho with ⟨k1, k4, l, rfl, hl, hr, hh⟩ | ⟨rfl, t, rfl, g⟩ | ⟨rfl, n, rfl, h0, h1⟩
  · rw [objR_list kind l k key x k1 k4] at e
    generalize he : lstR kind l k x = q at e
    obtain ⟨ys, c', r'⟩ := q
    simp only [Prod.mk.injEq] at e
    obtain ⟨rfl, rfl, rfl⟩ := e
    rcases (show kind = 1 ∨ kind = 2 ∨ kind = 3 ∨ kind = 4 by omega) with rfl | rfl | rfl | rfl
    · exact do_list1 W l hl hr k key x hop he
    · exact do_list2 W l hl hr k key x hop he
    · exact do_list3 W l hl hr k key x hop he
    · exact do_list4 W l hl hr (hh rfl) k key x hop he
  · rw [objR_table t g] at e
    generalize he : doT t k key x = q at e
    obtain ⟨u, c', r'⟩ := q
    simp only [Prod.mk.injEq] at e
    obtain ⟨rfl, rfl, rfl⟩ := e
    exact do_table W t g k key x hop he
  · rw [objR_tally] at e
    simp only [Prod.mk.injEq] at e
    obtain ⟨rfl, rfl, rfl⟩ := e
    exact do_tally W n h0 h1 k key x hop
theorem object_right (W : World) (kind : Int) (o : List Int) (ho : ObjOK kind o) :
    Calls Try.prog 40 #[.int .i64 kind, .agg (u64s o).toArray] W fun e w' => e = .returned (.bool true) ∧ Below W.heap.size W w' := by
  rcases ho with ⟨k1, k4, l, rfl, hl, hr, hh⟩ | ⟨rfl, t, rfl, g⟩ | ⟨rfl, n, rfl, h0, h1⟩
  · rcases (show kind = 1 ∨ kind = 2 ∨ kind = 3 ∨ kind = 4 by omega) with rfl | rfl | rfl | rfl
    · exact right_list1 W l hl hr
    · exact right_list2 W l hl hr
    · exact right_list3 W l hl hr
    · have := right_list4 W l hl hr
      rw [(heapB_iff l).2 ⟨hh rfl, hl⟩] at this
      exact this
  · exact right_table W t g
  · exact right_tally W n h0 h1
set_option maxRecDepth 20000 in
set_option maxHeartbeats 4000000 in
theorem object_size (W : World) (kind : Int) (o : List Int) (ho : ObjOK kind o) :
    Calls Try.prog 37 #[.int .i64 kind, .agg (u64s o).toArray] W fun e w' => e = .returned (.tuple #[.int .i64 (objR kind o 6 0 0).2.2, .nilIface]) ∧ Below W.heap.size W w' := by
  have HAC := Lib.hid (cells_agg o (objOK_len ho))
  have hok := objR_ok ho 6 0 0 (by decide)
  generalize he : objR kind o 6 0 0 = q at *
  obtain ⟨o', c, r⟩ := q
  have HE := Lib.hid he
  have HYC := Lib.hid (cells_agg o' (objOK_len hok))
  have HYL : Hid ((u64s o').length = (u64s (List.replicate 17 0)).length) := Lib.hid (by rw [u64s_len, objOK_len hok]; rfl)
  have HYA := Lib.hid (cells_all o')
  have HO := Lib.hid ho
  have HM := Mem.start W
  clear he hok ho
  go_enter Try.func37, Try.ntmps37
  go_wp2_with (first | (refine wpM_loadAll (ty := 44) HM rfl rfl rfl (by repeat (first | exact Sel.head | apply Sel.tail)) (by exact HAC.out) ?_) | (refine wpM_storeAll HM rfl rfl rfl rfl (by repeat (first | exact Sel.head | apply Sel.tail)) (by rfl) (by kernel_rfl) (by rfl) ?_; clear HM; intro w HM) | (refine wpM_loadAll (ty := 30) HM rfl rfl rfl (by repeat (first | exact Sel.head | apply Sel.tail)) (by kernel_rfl) ?_) | (refine wpM_loadAll (ty := 26) HM rfl rfl rfl (by repeat (first | exact Sel.head | apply Sel.tail)) (by kernel_rfl) ?_) | (refine wpM_box HM rfl rfl rfl rfl ?_; clear HM; intro b w HB HM; clear HB) | (refine wpM_alloc HM rfl rfl zt_Cells rfl ?_; clear HM; intro b w HB HM; clear HB) | (refine wpM_alloc HM rfl rfl zt_Answer rfl ?_; clear HM; intro b w HB HM; clear HB) | (refine wpM_alloc HM rfl rfl zt_Slots rfl ?_; clear HM; intro b w HB HM; clear HB) | (refine wpM_load (ty := 3) HM rfl rfl rfl (by repeat (first | exact Sel.head | apply Sel.tail)) (by first | rfl | assumption) (by kernel_rfl) ?_) | (refine wpM_loadR (ty := 3) HM rfl rfl rfl (by repeat (first | exact Sel.head | apply Sel.tail)) (by first | rfl | assumption) (by kernel_rfl) ?_) | (refine wpM_load (ty := 42) HM rfl rfl rfl (by repeat (first | exact Sel.head | apply Sel.tail)) (by first | rfl | assumption) (by kernel_rfl) ?_) | (refine wpM_loadR (ty := 42) HM rfl rfl rfl (by repeat (first | exact Sel.head | apply Sel.tail)) (by first | rfl | assumption) (by kernel_rfl) ?_) | (refine wpM_store HM rfl rfl rfl (by (conv => lhs; whnf); try rfl) (by repeat (first | exact Sel.head | apply Sel.tail)) (by simp) (by kernel_rfl) (by rfl) ?_; clear HM; intro w HM; try simp only [List.set_cons_zero, List.set_cons_succ] at HM))
  refine (object_do _ kind o HO.out 6 0 0 (by decide) HE.out).mono ?_
  rintro e w ⟨rfl, hb⟩
  replace HM := HM.call hb
  clear hb
  go_wp2_with (first | (refine wpM_storeAll HM rfl rfl rfl rfl (by repeat (first | exact Sel.head | apply Sel.tail)) (by exact HYL.out) (by exact HYC.out) (by exact HYA.out) ?_; clear HM; intro w HM) | (refine wpM_loadAll (ty := 44) HM rfl rfl rfl (by repeat (first | exact Sel.head | apply Sel.tail)) (by exact HAC.out) ?_) | (refine wpM_storeAll HM rfl rfl rfl rfl (by repeat (first | exact Sel.head | apply Sel.tail)) (by rfl) (by kernel_rfl) (by rfl) ?_; clear HM; intro w HM) | (refine wpM_loadAll (ty := 30) HM rfl rfl rfl (by repeat (first | exact Sel.head | apply Sel.tail)) (by kernel_rfl) ?_) | (refine wpM_loadAll (ty := 26) HM rfl rfl rfl (by repeat (first | exact Sel.head | apply Sel.tail)) (by kernel_rfl) ?_) | (refine wpM_box HM rfl rfl rfl rfl ?_; clear HM; intro b w HB HM; clear HB) | (refine wpM_alloc HM rfl rfl zt_Cells rfl ?_; clear HM; intro b w HB HM; clear HB) | (refine wpM_alloc HM rfl rfl zt_Answer rfl ?_; clear HM; intro b w HB HM; clear HB) | (refine wpM_alloc HM rfl rfl zt_Slots rfl ?_; clear HM; intro b w HB HM; clear HB) | (refine wpM_load (ty := 3) HM rfl rfl rfl (by repeat (first | exact Sel.head | apply Sel.tail)) (by first | rfl | assumption) (by kernel_rfl) ?_) | (refine wpM_loadR (ty := 3) HM rfl rfl rfl (by repeat (first | exact Sel.head | apply Sel.tail)) (by first | rfl | assumption) (by kernel_rfl) ?_) | (refine wpM_load (ty := 42) HM rfl rfl rfl (by repeat (first | exact Sel.head | apply Sel.tail)) (by first | rfl | assumption) (by kernel_rfl) ?_) | (refine wpM_loadR (ty := 42) HM rfl rfl rfl (by repeat (first | exact Sel.head | apply Sel.tail)) (by first | rfl | assumption) (by kernel_rfl) ?_) | (refine wpM_store HM rfl rfl rfl (by (conv => lhs; whnf); try rfl) (by repeat (first | exact Sel.head | apply Sel.tail)) (by simp) (by kernel_rfl) (by rfl) ?_; clear HM; intro w HM; try simp only [List.set_cons_zero, List.set_cons_succ] at HM))
  go_ret2
  exact ⟨rfl, HM.below⟩
theorem kindOf_any (a : Int) (w : World) :
    Calls Try.prog 34 #[.int .i64 a] w fun e w' => e = .returned (.int .i64 (1 + pickZ a 6)) ∧ w = w' := by
  have h0 := pickZ_nonneg a 6 (by decide)
  have h1 := pickZ_lt a 6 (by decide)
  go_enter Try.func34, Try.ntmps34
  go_wp2_with fail
  refine (pick_any a 6 _ (by decide) (by decide)).mono ?_
  rintro e w' ⟨rfl, rfl⟩
  go_wp2_with fail
  go_ret
  exact ⟨rfl, rfl⟩
end Go.Proofs.Ytpedkcpkdacnlaa
end
section
namespace Go.Proofs.Ytpedkcpkdacnlaa
open Go.RowKit
/-- Element j's cell i is the number f j i, of kind ks i; n cells each. -/
def Rws (n : Nat) (ks : Nat → IntKind) (w : World) (a : Option Addr) (len cap : Nat) (f : Nat → Nat → Int) : Prop :=
  len ≤ cap ∧ cap ≤ 9223372036854775807 ∧ (len = 0 ∨ ∃ b off, a = some ⟨b, off, none⟩ ∧ b < w.heap.size ∧ ∀ j, j < len → ∀ i, i < n →
    w.cell? ⟨b, off + j * n + i, none⟩ = some (.int (ks i) (f j i)) ∧ (Lit.int (ks i) (f j i)).wf = true)
theorem Rws.below {n : Nat} {ks : Nat → IntKind} {w w' : World} {a : Option Addr} {len cap : Nat} {f : Nat → Nat → Int} (h : Rws n ks w a len cap f) (k : Below w.heap.size w w') : Rws n ks w' a len cap f := by
  obtain ⟨h1, h2, h3⟩ := h
  refine ⟨h1, h2, ?_⟩
  rcases h3 with h3 | ⟨b, off, rfl, hb, hc⟩
  · exact .inl h3
  · refine .inr ⟨b, off, rfl, Nat.lt_of_lt_of_le hb k.size, fun j hj i hi => ?_⟩
    obtain ⟨c, d⟩ := hc j hj i hi
    exact ⟨by rw [k.cell (p := ⟨b, off + j * n + i, none⟩) hb]; exact c, d⟩
theorem Rws.take {n : Nat} {ks : Nat → IntKind} {w : World} {a : Option Addr} {len cap : Nat} {f : Nat → Nat → Int} (h : Rws n ks w a len cap f) (m : Nat) (hm : m ≤ len) : Rws n ks w a m cap f := by
  obtain ⟨h1, h2, h3⟩ := h
  refine ⟨by omega, h2, ?_⟩
  rcases h3 with h3 | ⟨b, off, rfl, hb, hc⟩
  · exact .inl (by omega)
  · exact .inr ⟨b, off, rfl, hb, fun j hj => hc j (by omega)⟩
theorem Rws.at {n : Nat} {ks : Nat → IntKind} {w : World} {a : Option Addr} {len cap : Nat} {f : Nat → Nat → Int} (h : Rws n ks w a len cap f) (j : Nat) (hj : j < len) :
    ∃ b off, a = some ⟨b, off, none⟩ ∧ b < w.heap.size ∧ ∀ i, i < n → w.cell? ⟨b, off + j * n + i, none⟩ = some (.int (ks i) (f j i)) ∧ (Lit.int (ks i) (f j i)).wf = true := by
  obtain ⟨-, -, h3⟩ := h
  rcases h3 with h3 | ⟨b, off, rfl, hb, hc⟩
  · omega
  · exact ⟨b, off, rfl, hb, hc j hj⟩
end Go.Proofs.Ytpedkcpkdacnlaa
end
