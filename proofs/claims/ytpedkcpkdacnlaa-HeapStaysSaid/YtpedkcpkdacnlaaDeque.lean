/- The contract of deque.Do, case by case. -/
import Derived.Test.YtpedkcpkdacnlaaStack
import Derived.Test.YtpedkcpkdacnlaaSlOps
namespace Go.Proofs.Ytpedkcpkdacnlaa
open Go.RowKit
set_option linter.unusedVariables false
theorem Own.lt {w : World} {base : Nat} {v : Value} {xs : List Int} (h : Own w base v xs) (a : Addr) (n c : Nat) (hv : v = .slice (some a) n c) : a.block < w.heap.size := by
  rcases h.opened with ⟨rfl, -⟩ | ⟨g, cap, C, rfl, hg, hB, -⟩
  · cases hv
  · simp at hv; obtain ⟨rfl, -, -⟩ := hv; exact hB.lt
theorem delete_at (w : World) (base : Nat) (v : Value) (xs : List Int) (n : Nat) (i j : Int) (ei : i = n) (ej : j = n + 1) (h : Own w base v xs) (hi : n < xs.length) (hb : base ≤ w.heap.size) :
    Calls Try.prog 45 #[v, .int .i64 i, .int .i64 j] w fun e w' => ∃ v', e = .returned v' ∧ Own w' base v' (xs.eraseIdx n) ∧ Below base w w' := by
  subst ei; subst ej
  exact delete_any w base v xs n h hi hb
set_option maxRecDepth 20000 in
set_option maxHeartbeats 1000000 in
theorem deque_put_full (w : World) (v : Value) (xs : List Int) (key x : Int) (h : Sl w v xs) (hx : 6 ≤ xs.length) (hx2 : xs.length ≤ 1000) :
    Calls Try.prog 27 #[v, .agg #[.int .i64 1, .int .i64 key, .int .i64 x]] w fun e w' =>
      ∃ v', e = .returned (.tuple #[v', .agg #[.int .i64 3, .int .i64 0]]) ∧ Own w' w.heap.size v' (xs) ∧ Below w.heap.size w w' := by
  obtain ⟨a, cap, rfl⟩ := h.slice
  have HS := Lib.hid h
  clear h
  go_enter Try.func27, Try.ntmps27
  go_wp2_with fail
  have B0 : Below w.heap.size w ((w.alloc (Obj.cells #[.int .i64 1, .int .i64 key, .int .i64 x] 30)).alloc (Obj.cells #[.int .i64 0, .int .i64 0] 26)) := balloc (balloc (Below.refl _ w) _) _
  have z0 : ((w.alloc (Obj.cells #[.int .i64 1, .int .i64 key, .int .i64 x] 30)).alloc (Obj.cells #[.int .i64 0, .int .i64 0] 26)).heap.size = w.heap.size + 2 := by simp
  have cO : Blk ((w.alloc (Obj.cells #[.int .i64 1, .int .i64 key, .int .i64 x] 30)).alloc (Obj.cells #[.int .i64 0, .int .i64 0] 26)) w.heap.size [.int .i64 1, .int .i64 key, .int .i64 x] 30 := (Blk.new w [.int .i64 1, .int .i64 key, .int .i64 x] 30).alloc _
  have cA : Blk ((w.alloc (Obj.cells #[.int .i64 1, .int .i64 key, .int .i64 x] 30)).alloc (Obj.cells #[.int .i64 0, .int .i64 0] 26)) (w.heap.size + 1) [.int .i64 0, .int .i64 0] 26 := by
    have := Blk.new (w.alloc (Obj.cells #[.int .i64 1, .int .i64 key, .int .i64 x] 30)) [.int .i64 0, .int .i64 0] 26
    simpa using this
  have hS0 := HS.out.below B0
  generalize ((w.alloc (Obj.cells #[.int .i64 1, .int .i64 key, .int .i64 x] 30)).alloc (Obj.cells #[.int .i64 0, .int .i64 0] 26)) = w0 at *
  have HZ := Lib.hid z0
  have zz : w.heap.size < w0.heap.size := by have := HZ.out; omega
  have zz1 : w.heap.size + 1 < w0.heap.size := by have := HZ.out; omega
  refine (clone_any _ _ xs hS0 (by omega)).mono ?_
  rintro e w3 ⟨v3, rfl, ho, hb3⟩
  obtain ⟨p3, c3, rfl⟩ := ho.sl.slice
  have HO := Lib.hid ho
  have HO3 := Lib.hid (cO.belowB hb3 zz)
  have HA3 := Lib.hid (cA.belowB hb3 zz1)
  have HB3 : Hid (Below w.heap.size w w3) := B0.trans (hb3.mono B0.size)
  have cO0 : w3.cell? ⟨w.heap.size, 0, none⟩ = some (.int .i64 1) := HO3.out.cell 0
  have cO2 : w3.cell? ⟨w.heap.size, 2, none⟩ = some (.int .i64 x) := HO3.out.cell 2
  have cA0 : w3.cell? ⟨w.heap.size + 1, 0, none⟩ = some (.int .i64 0) := HA3.out.cell 0
  have cA1 : w3.cell? ⟨w.heap.size + 1, 1, none⟩ = some (.int .i64 0) := HA3.out.cell 1
  have fA0 := HA3.out.frozen 0
  have fA1 := HA3.out.frozen 1
  have zw : w.heap.size < w3.heap.size := HO3.out.lt
  have zB3 : w0.heap.size ≤ w3.heap.size := hb3.size
  have zw1 : w.heap.size + 1 < w3.heap.size := HA3.out.lt
  clear hS0 HS z0 cO cA ho hb3
  go_wp2_with fail
  have ho6 := (HO.out.store (p := ⟨w.heap.size + 1, 0, none⟩) zz1 (.int .i64 3)).store (p := ⟨w.heap.size + 1, 1, none⟩) zz1 (.int .i64 0)
  have ho7 := ho6.mono (Nat.le_of_lt zz)
  have hb6 := bstore (bstore HB3.out (p := ⟨w.heap.size + 1, 0, none⟩) (Nat.le_succ _) (.int .i64 3)) (p := ⟨w.heap.size + 1, 1, none⟩) (Nat.le_succ _) (.int .i64 0)
  have HA6 := HA3.out.pair (u := .int .i64 3) (v := .int .i64 0)
  generalize (w3.setCell ⟨w.heap.size + 1, 0, none⟩ (.int .i64 3)).setCell ⟨w.heap.size + 1, 1, none⟩ (.int .i64 0) = w6 at *
  have d0 : w6.cell? ⟨w.heap.size + 1, 0, none⟩ = some (.int .i64 3) := HA6.cell 0
  have d1 : w6.cell? ⟨w.heap.size + 1, 1, none⟩ = some (.int .i64 0) := HA6.cell 1
  clear HA6
  go_wp2_with fail
  exact bodyPost_ret (v := .tuple #[.slice p3 xs.length c3, .agg #[.int .i64 3, .int .i64 0]]) (by simp [results, Try.results27, go_sem, d0, d1]) rfl ⟨_, rfl, ho7, hb6⟩
set_option maxRecDepth 20000 in
set_option maxHeartbeats 1000000 in
theorem deque_front_full (w : World) (v : Value) (xs : List Int) (key x : Int) (h : Sl w v xs) (hx : 6 ≤ xs.length) (hx2 : xs.length ≤ 1000) :
    Calls Try.prog 27 #[v, .agg #[.int .i64 3, .int .i64 key, .int .i64 x]] w fun e w' =>
      ∃ v', e = .returned (.tuple #[v', .agg #[.int .i64 3, .int .i64 0]]) ∧ Own w' w.heap.size v' (xs) ∧ Below w.heap.size w w' := by
  obtain ⟨a, cap, rfl⟩ := h.slice
  have HS := Lib.hid h
  clear h
  go_enter Try.func27, Try.ntmps27
  go_wp2_with fail
  have B0 : Below w.heap.size w ((w.alloc (Obj.cells #[.int .i64 3, .int .i64 key, .int .i64 x] 30)).alloc (Obj.cells #[.int .i64 0, .int .i64 0] 26)) := balloc (balloc (Below.refl _ w) _) _
  have z0 : ((w.alloc (Obj.cells #[.int .i64 3, .int .i64 key, .int .i64 x] 30)).alloc (Obj.cells #[.int .i64 0, .int .i64 0] 26)).heap.size = w.heap.size + 2 := by simp
  have cO : Blk ((w.alloc (Obj.cells #[.int .i64 3, .int .i64 key, .int .i64 x] 30)).alloc (Obj.cells #[.int .i64 0, .int .i64 0] 26)) w.heap.size [.int .i64 3, .int .i64 key, .int .i64 x] 30 := (Blk.new w [.int .i64 3, .int .i64 key, .int .i64 x] 30).alloc _
  have cA : Blk ((w.alloc (Obj.cells #[.int .i64 3, .int .i64 key, .int .i64 x] 30)).alloc (Obj.cells #[.int .i64 0, .int .i64 0] 26)) (w.heap.size + 1) [.int .i64 0, .int .i64 0] 26 := by
    have := Blk.new (w.alloc (Obj.cells #[.int .i64 3, .int .i64 key, .int .i64 x] 30)) [.int .i64 0, .int .i64 0] 26
    simpa using this
  have hS0 := HS.out.below B0
  generalize ((w.alloc (Obj.cells #[.int .i64 3, .int .i64 key, .int .i64 x] 30)).alloc (Obj.cells #[.int .i64 0, .int .i64 0] 26)) = w0 at *
  have HZ := Lib.hid z0
  have zz : w.heap.size < w0.heap.size := by have := HZ.out; omega
  have zz1 : w.heap.size + 1 < w0.heap.size := by have := HZ.out; omega
  refine (clone_any _ _ xs hS0 (by omega)).mono ?_
  rintro e w3 ⟨v3, rfl, ho, hb3⟩
  obtain ⟨p3, c3, rfl⟩ := ho.sl.slice
  have HO := Lib.hid ho
  have HO3 := Lib.hid (cO.belowB hb3 zz)
  have HA3 := Lib.hid (cA.belowB hb3 zz1)
  have HB3 : Hid (Below w.heap.size w w3) := B0.trans (hb3.mono B0.size)
  have cO0 : w3.cell? ⟨w.heap.size, 0, none⟩ = some (.int .i64 3) := HO3.out.cell 0
  have cO2 : w3.cell? ⟨w.heap.size, 2, none⟩ = some (.int .i64 x) := HO3.out.cell 2
  have cA0 : w3.cell? ⟨w.heap.size + 1, 0, none⟩ = some (.int .i64 0) := HA3.out.cell 0
  have cA1 : w3.cell? ⟨w.heap.size + 1, 1, none⟩ = some (.int .i64 0) := HA3.out.cell 1
  have fA0 := HA3.out.frozen 0
  have fA1 := HA3.out.frozen 1
  have zw : w.heap.size < w3.heap.size := HO3.out.lt
  have zB3 : w0.heap.size ≤ w3.heap.size := hb3.size
  have zw1 : w.heap.size + 1 < w3.heap.size := HA3.out.lt
  clear hS0 HS z0 cO cA ho hb3
  go_wp2_with fail
  have ho6 := (HO.out.store (p := ⟨w.heap.size + 1, 0, none⟩) zz1 (.int .i64 3)).store (p := ⟨w.heap.size + 1, 1, none⟩) zz1 (.int .i64 0)
  have ho7 := ho6.mono (Nat.le_of_lt zz)
  have hb6 := bstore (bstore HB3.out (p := ⟨w.heap.size + 1, 0, none⟩) (Nat.le_succ _) (.int .i64 3)) (p := ⟨w.heap.size + 1, 1, none⟩) (Nat.le_succ _) (.int .i64 0)
  have HA6 := HA3.out.pair (u := .int .i64 3) (v := .int .i64 0)
  generalize (w3.setCell ⟨w.heap.size + 1, 0, none⟩ (.int .i64 3)).setCell ⟨w.heap.size + 1, 1, none⟩ (.int .i64 0) = w6 at *
  have d0 : w6.cell? ⟨w.heap.size + 1, 0, none⟩ = some (.int .i64 3) := HA6.cell 0
  have d1 : w6.cell? ⟨w.heap.size + 1, 1, none⟩ = some (.int .i64 0) := HA6.cell 1
  clear HA6
  go_wp2_with fail
  exact bodyPost_ret (v := .tuple #[.slice p3 xs.length c3, .agg #[.int .i64 3, .int .i64 0]]) (by simp [results, Try.results27, go_sem, d0, d1]) rfl ⟨_, rfl, ho7, hb6⟩
set_option maxRecDepth 20000 in
set_option maxHeartbeats 1000000 in
theorem deque_count (w : World) (v : Value) (xs : List Int) (key x : Int) (h : Sl w v xs) (hx2 : xs.length ≤ 1000) :
    Calls Try.prog 27 #[v, .agg #[.int .i64 6, .int .i64 key, .int .i64 x]] w fun e w' =>
      ∃ v', e = .returned (.tuple #[v', .agg #[.int .i64 1, .int .i64 xs.length]]) ∧ Own w' w.heap.size v' (xs) ∧ Below w.heap.size w w' := by
  obtain ⟨a, cap, rfl⟩ := h.slice
  have HS := Lib.hid h
  clear h
  go_enter Try.func27, Try.ntmps27
  go_wp2_with fail
  have B0 : Below w.heap.size w ((w.alloc (Obj.cells #[.int .i64 6, .int .i64 key, .int .i64 x] 30)).alloc (Obj.cells #[.int .i64 0, .int .i64 0] 26)) := balloc (balloc (Below.refl _ w) _) _
  have z0 : ((w.alloc (Obj.cells #[.int .i64 6, .int .i64 key, .int .i64 x] 30)).alloc (Obj.cells #[.int .i64 0, .int .i64 0] 26)).heap.size = w.heap.size + 2 := by simp
  have cO : Blk ((w.alloc (Obj.cells #[.int .i64 6, .int .i64 key, .int .i64 x] 30)).alloc (Obj.cells #[.int .i64 0, .int .i64 0] 26)) w.heap.size [.int .i64 6, .int .i64 key, .int .i64 x] 30 := (Blk.new w [.int .i64 6, .int .i64 key, .int .i64 x] 30).alloc _
  have cA : Blk ((w.alloc (Obj.cells #[.int .i64 6, .int .i64 key, .int .i64 x] 30)).alloc (Obj.cells #[.int .i64 0, .int .i64 0] 26)) (w.heap.size + 1) [.int .i64 0, .int .i64 0] 26 := by
    have := Blk.new (w.alloc (Obj.cells #[.int .i64 6, .int .i64 key, .int .i64 x] 30)) [.int .i64 0, .int .i64 0] 26
    simpa using this
  have hS0 := HS.out.below B0
  generalize ((w.alloc (Obj.cells #[.int .i64 6, .int .i64 key, .int .i64 x] 30)).alloc (Obj.cells #[.int .i64 0, .int .i64 0] 26)) = w0 at *
  have HZ := Lib.hid z0
  have zz : w.heap.size < w0.heap.size := by have := HZ.out; omega
  have zz1 : w.heap.size + 1 < w0.heap.size := by have := HZ.out; omega
  refine (clone_any _ _ xs hS0 (by omega)).mono ?_
  rintro e w3 ⟨v3, rfl, ho, hb3⟩
  obtain ⟨p3, c3, rfl⟩ := ho.sl.slice
  have HO := Lib.hid ho
  have HO3 := Lib.hid (cO.belowB hb3 zz)
  have HA3 := Lib.hid (cA.belowB hb3 zz1)
  have HB3 : Hid (Below w.heap.size w w3) := B0.trans (hb3.mono B0.size)
  have cO0 : w3.cell? ⟨w.heap.size, 0, none⟩ = some (.int .i64 6) := HO3.out.cell 0
  have cO2 : w3.cell? ⟨w.heap.size, 2, none⟩ = some (.int .i64 x) := HO3.out.cell 2
  have cA0 : w3.cell? ⟨w.heap.size + 1, 0, none⟩ = some (.int .i64 0) := HA3.out.cell 0
  have cA1 : w3.cell? ⟨w.heap.size + 1, 1, none⟩ = some (.int .i64 0) := HA3.out.cell 1
  have fA0 := HA3.out.frozen 0
  have fA1 := HA3.out.frozen 1
  have zw : w.heap.size < w3.heap.size := HO3.out.lt
  have zB3 : w0.heap.size ≤ w3.heap.size := hb3.size
  have zw1 : w.heap.size + 1 < w3.heap.size := HA3.out.lt
  clear hS0 HS z0 cO cA ho hb3
  go_wp2_with fail
  have ho6 := (HO.out.store (p := ⟨w.heap.size + 1, 0, none⟩) zz1 (.int .i64 1)).store (p := ⟨w.heap.size + 1, 1, none⟩) zz1 (.int .i64 xs.length)
  have ho7 := ho6.mono (Nat.le_of_lt zz)
  have hb6 := bstore (bstore HB3.out (p := ⟨w.heap.size + 1, 0, none⟩) (Nat.le_succ _) (.int .i64 1)) (p := ⟨w.heap.size + 1, 1, none⟩) (Nat.le_succ _) (.int .i64 xs.length)
  have HA6 := HA3.out.pair (u := .int .i64 1) (v := .int .i64 xs.length)
  generalize (w3.setCell ⟨w.heap.size + 1, 0, none⟩ (.int .i64 1)).setCell ⟨w.heap.size + 1, 1, none⟩ (.int .i64 xs.length) = w6 at *
  have d0 : w6.cell? ⟨w.heap.size + 1, 0, none⟩ = some (.int .i64 1) := HA6.cell 0
  have d1 : w6.cell? ⟨w.heap.size + 1, 1, none⟩ = some (.int .i64 xs.length) := HA6.cell 1
  clear HA6
  go_wp2_with fail
  exact bodyPost_ret (v := .tuple #[.slice p3 xs.length c3, .agg #[.int .i64 1, .int .i64 xs.length]]) (by simp [results, Try.results27, go_sem, d0, d1]) rfl ⟨_, rfl, ho7, hb6⟩
set_option maxRecDepth 20000 in
set_option maxHeartbeats 1000000 in
theorem deque_wrong (w : World) (v : Value) (xs : List Int) (k key x : Int) (h : Sl w v xs) (k1 : k ≠ 1) (k2 : k ≠ 2) (k3 : k ≠ 3) (k4 : k ≠ 4) (k5 : k ≠ 5) (k6 : k ≠ 6) (hx2 : xs.length ≤ 1000) :
    Calls Try.prog 27 #[v, .agg #[.int .i64 k, .int .i64 key, .int .i64 x]] w fun e w' =>
      ∃ v', e = .returned (.tuple #[v', .agg #[.int .i64 5, .int .i64 0]]) ∧ Own w' w.heap.size v' (xs) ∧ Below w.heap.size w w' := by
  obtain ⟨a, cap, rfl⟩ := h.slice
  have q1 : (k == 1) = false := by simpa using k1
  have q2 : (k == 2) = false := by simpa using k2
  have q3 : (k == 3) = false := by simpa using k3
  have q4 : (k == 4) = false := by simpa using k4
  have q5 : (k == 5) = false := by simpa using k5
  have q6 : (k == 6) = false := by simpa using k6
  clear k1 k2 k3 k4 k5 k6
  have HS := Lib.hid h
  clear h
  go_enter Try.func27, Try.ntmps27
  go_wp2_with fail
  have B0 : Below w.heap.size w ((w.alloc (Obj.cells #[.int .i64 k, .int .i64 key, .int .i64 x] 30)).alloc (Obj.cells #[.int .i64 0, .int .i64 0] 26)) := balloc (balloc (Below.refl _ w) _) _
  have z0 : ((w.alloc (Obj.cells #[.int .i64 k, .int .i64 key, .int .i64 x] 30)).alloc (Obj.cells #[.int .i64 0, .int .i64 0] 26)).heap.size = w.heap.size + 2 := by simp
  have cO : Blk ((w.alloc (Obj.cells #[.int .i64 k, .int .i64 key, .int .i64 x] 30)).alloc (Obj.cells #[.int .i64 0, .int .i64 0] 26)) w.heap.size [.int .i64 k, .int .i64 key, .int .i64 x] 30 := (Blk.new w [.int .i64 k, .int .i64 key, .int .i64 x] 30).alloc _
  have cA : Blk ((w.alloc (Obj.cells #[.int .i64 k, .int .i64 key, .int .i64 x] 30)).alloc (Obj.cells #[.int .i64 0, .int .i64 0] 26)) (w.heap.size + 1) [.int .i64 0, .int .i64 0] 26 := by
    have := Blk.new (w.alloc (Obj.cells #[.int .i64 k, .int .i64 key, .int .i64 x] 30)) [.int .i64 0, .int .i64 0] 26
    simpa using this
  have hS0 := HS.out.below B0
  generalize ((w.alloc (Obj.cells #[.int .i64 k, .int .i64 key, .int .i64 x] 30)).alloc (Obj.cells #[.int .i64 0, .int .i64 0] 26)) = w0 at *
  have HZ := Lib.hid z0
  have zz : w.heap.size < w0.heap.size := by have := HZ.out; omega
  have zz1 : w.heap.size + 1 < w0.heap.size := by have := HZ.out; omega
  refine (clone_any _ _ xs hS0 (by omega)).mono ?_
  rintro e w3 ⟨v3, rfl, ho, hb3⟩
  obtain ⟨p3, c3, rfl⟩ := ho.sl.slice
  have HO := Lib.hid ho
  have HO3 := Lib.hid (cO.belowB hb3 zz)
  have HA3 := Lib.hid (cA.belowB hb3 zz1)
  have HB3 : Hid (Below w.heap.size w w3) := B0.trans (hb3.mono B0.size)
  have cO0 : w3.cell? ⟨w.heap.size, 0, none⟩ = some (.int .i64 k) := HO3.out.cell 0
  have cO2 : w3.cell? ⟨w.heap.size, 2, none⟩ = some (.int .i64 x) := HO3.out.cell 2
  have cA0 : w3.cell? ⟨w.heap.size + 1, 0, none⟩ = some (.int .i64 0) := HA3.out.cell 0
  have cA1 : w3.cell? ⟨w.heap.size + 1, 1, none⟩ = some (.int .i64 0) := HA3.out.cell 1
  have fA0 := HA3.out.frozen 0
  have fA1 := HA3.out.frozen 1
  have zw : w.heap.size < w3.heap.size := HO3.out.lt
  have zB3 : w0.heap.size ≤ w3.heap.size := hb3.size
  have zw1 : w.heap.size + 1 < w3.heap.size := HA3.out.lt
  clear hS0 HS z0 cO cA ho hb3
  go_wp2_with fail
  have ho6 := (HO.out.store (p := ⟨w.heap.size + 1, 0, none⟩) zz1 (.int .i64 5)).store (p := ⟨w.heap.size + 1, 1, none⟩) zz1 (.int .i64 0)
  have ho7 := ho6.mono (Nat.le_of_lt zz)
  have hb6 := bstore (bstore HB3.out (p := ⟨w.heap.size + 1, 0, none⟩) (Nat.le_succ _) (.int .i64 5)) (p := ⟨w.heap.size + 1, 1, none⟩) (Nat.le_succ _) (.int .i64 0)
  have HA6 := HA3.out.pair (u := .int .i64 5) (v := .int .i64 0)
  generalize (w3.setCell ⟨w.heap.size + 1, 0, none⟩ (.int .i64 5)).setCell ⟨w.heap.size + 1, 1, none⟩ (.int .i64 0) = w6 at *
  have d0 : w6.cell? ⟨w.heap.size + 1, 0, none⟩ = some (.int .i64 5) := HA6.cell 0
  have d1 : w6.cell? ⟨w.heap.size + 1, 1, none⟩ = some (.int .i64 0) := HA6.cell 1
  clear HA6
  go_wp2_with fail
  exact bodyPost_ret (v := .tuple #[.slice p3 xs.length c3, .agg #[.int .i64 5, .int .i64 0]]) (by simp [results, Try.results27, go_sem, d0, d1]) rfl ⟨_, rfl, ho7, hb6⟩
set_option maxRecDepth 20000 in
set_option maxHeartbeats 1000000 in
theorem deque_nil2 (w : World) (v : Value) (xs : List Int) (key x : Int) (h : Sl w v xs) (hx : xs.length = 0) :
    Calls Try.prog 27 #[v, .agg #[.int .i64 2, .int .i64 key, .int .i64 x]] w fun e w' =>
      ∃ v', e = .returned (.tuple #[v', .agg #[.int .i64 2, .int .i64 0]]) ∧ Own w' w.heap.size v' (xs) ∧ Below w.heap.size w w' := by
  obtain ⟨a, cap, rfl⟩ := h.slice
  obtain rfl : xs = [] := List.length_eq_zero_iff.1 hx
  clear hx
  have HS := Lib.hid h
  clear h
  go_enter Try.func27, Try.ntmps27
  go_wp2_with fail
  have B0 : Below w.heap.size w ((w.alloc (Obj.cells #[.int .i64 2, .int .i64 key, .int .i64 x] 30)).alloc (Obj.cells #[.int .i64 0, .int .i64 0] 26)) := balloc (balloc (Below.refl _ w) _) _
  have z0 : ((w.alloc (Obj.cells #[.int .i64 2, .int .i64 key, .int .i64 x] 30)).alloc (Obj.cells #[.int .i64 0, .int .i64 0] 26)).heap.size = w.heap.size + 2 := by simp
  have cO : Blk ((w.alloc (Obj.cells #[.int .i64 2, .int .i64 key, .int .i64 x] 30)).alloc (Obj.cells #[.int .i64 0, .int .i64 0] 26)) w.heap.size [.int .i64 2, .int .i64 key, .int .i64 x] 30 := (Blk.new w [.int .i64 2, .int .i64 key, .int .i64 x] 30).alloc _
  have cA : Blk ((w.alloc (Obj.cells #[.int .i64 2, .int .i64 key, .int .i64 x] 30)).alloc (Obj.cells #[.int .i64 0, .int .i64 0] 26)) (w.heap.size + 1) [.int .i64 0, .int .i64 0] 26 := by
    have := Blk.new (w.alloc (Obj.cells #[.int .i64 2, .int .i64 key, .int .i64 x] 30)) [.int .i64 0, .int .i64 0] 26
    simpa using this
  have hS0 := HS.out.below B0
  generalize ((w.alloc (Obj.cells #[.int .i64 2, .int .i64 key, .int .i64 x] 30)).alloc (Obj.cells #[.int .i64 0, .int .i64 0] 26)) = w0 at *
  have HZ := Lib.hid z0
  have zz : w.heap.size < w0.heap.size := by have := HZ.out; omega
  have zz1 : w.heap.size + 1 < w0.heap.size := by have := HZ.out; omega
  refine (clone_any _ _ [] hS0 (by simp)).mono ?_
  rintro e w3 ⟨v3, rfl, ho, hb3⟩
  obtain ⟨p3, c3, rfl⟩ := ho.sl.slice
  have HO := Lib.hid ho
  have HO3 := Lib.hid (cO.belowB hb3 zz)
  have HA3 := Lib.hid (cA.belowB hb3 zz1)
  have HB3 : Hid (Below w.heap.size w w3) := B0.trans (hb3.mono B0.size)
  have cO0 : w3.cell? ⟨w.heap.size, 0, none⟩ = some (.int .i64 2) := HO3.out.cell 0
  have cO2 : w3.cell? ⟨w.heap.size, 2, none⟩ = some (.int .i64 x) := HO3.out.cell 2
  have cA0 : w3.cell? ⟨w.heap.size + 1, 0, none⟩ = some (.int .i64 0) := HA3.out.cell 0
  have cA1 : w3.cell? ⟨w.heap.size + 1, 1, none⟩ = some (.int .i64 0) := HA3.out.cell 1
  have fA0 := HA3.out.frozen 0
  have fA1 := HA3.out.frozen 1
  have zw : w.heap.size < w3.heap.size := HO3.out.lt
  have zB3 : w0.heap.size ≤ w3.heap.size := hb3.size
  have zw1 : w.heap.size + 1 < w3.heap.size := HA3.out.lt
  clear hS0 HS z0 cO cA ho hb3
  go_wp2_with fail
  have ho6 := (HO.out.store (p := ⟨w.heap.size + 1, 0, none⟩) zz1 (.int .i64 2)).store (p := ⟨w.heap.size + 1, 1, none⟩) zz1 (.int .i64 0)
  have ho7 := ho6.mono (Nat.le_of_lt zz)
  have hb6 := bstore (bstore HB3.out (p := ⟨w.heap.size + 1, 0, none⟩) (Nat.le_succ _) (.int .i64 2)) (p := ⟨w.heap.size + 1, 1, none⟩) (Nat.le_succ _) (.int .i64 0)
  have HA6 := HA3.out.pair (u := .int .i64 2) (v := .int .i64 0)
  generalize (w3.setCell ⟨w.heap.size + 1, 0, none⟩ (.int .i64 2)).setCell ⟨w.heap.size + 1, 1, none⟩ (.int .i64 0) = w6 at *
  have d0 : w6.cell? ⟨w.heap.size + 1, 0, none⟩ = some (.int .i64 2) := HA6.cell 0
  have d1 : w6.cell? ⟨w.heap.size + 1, 1, none⟩ = some (.int .i64 0) := HA6.cell 1
  clear HA6
  go_wp2_with fail
  exact bodyPost_ret (v := .tuple #[.slice p3 0 c3, .agg #[.int .i64 2, .int .i64 0]]) (by simp [results, Try.results27, go_sem, d0, d1]) rfl ⟨_, rfl, ho7, hb6⟩
set_option maxRecDepth 20000 in
set_option maxHeartbeats 1000000 in
theorem deque_nil4 (w : World) (v : Value) (xs : List Int) (key x : Int) (h : Sl w v xs) (hx : xs.length = 0) :
    Calls Try.prog 27 #[v, .agg #[.int .i64 4, .int .i64 key, .int .i64 x]] w fun e w' =>
      ∃ v', e = .returned (.tuple #[v', .agg #[.int .i64 2, .int .i64 0]]) ∧ Own w' w.heap.size v' (xs) ∧ Below w.heap.size w w' := by
  obtain ⟨a, cap, rfl⟩ := h.slice
  obtain rfl : xs = [] := List.length_eq_zero_iff.1 hx
  clear hx
  have HS := Lib.hid h
  clear h
  go_enter Try.func27, Try.ntmps27
  go_wp2_with fail
  have B0 : Below w.heap.size w ((w.alloc (Obj.cells #[.int .i64 4, .int .i64 key, .int .i64 x] 30)).alloc (Obj.cells #[.int .i64 0, .int .i64 0] 26)) := balloc (balloc (Below.refl _ w) _) _
  have z0 : ((w.alloc (Obj.cells #[.int .i64 4, .int .i64 key, .int .i64 x] 30)).alloc (Obj.cells #[.int .i64 0, .int .i64 0] 26)).heap.size = w.heap.size + 2 := by simp
  have cO : Blk ((w.alloc (Obj.cells #[.int .i64 4, .int .i64 key, .int .i64 x] 30)).alloc (Obj.cells #[.int .i64 0, .int .i64 0] 26)) w.heap.size [.int .i64 4, .int .i64 key, .int .i64 x] 30 := (Blk.new w [.int .i64 4, .int .i64 key, .int .i64 x] 30).alloc _
  have cA : Blk ((w.alloc (Obj.cells #[.int .i64 4, .int .i64 key, .int .i64 x] 30)).alloc (Obj.cells #[.int .i64 0, .int .i64 0] 26)) (w.heap.size + 1) [.int .i64 0, .int .i64 0] 26 := by
    have := Blk.new (w.alloc (Obj.cells #[.int .i64 4, .int .i64 key, .int .i64 x] 30)) [.int .i64 0, .int .i64 0] 26
    simpa using this
  have hS0 := HS.out.below B0
  generalize ((w.alloc (Obj.cells #[.int .i64 4, .int .i64 key, .int .i64 x] 30)).alloc (Obj.cells #[.int .i64 0, .int .i64 0] 26)) = w0 at *
  have HZ := Lib.hid z0
  have zz : w.heap.size < w0.heap.size := by have := HZ.out; omega
  have zz1 : w.heap.size + 1 < w0.heap.size := by have := HZ.out; omega
  refine (clone_any _ _ [] hS0 (by simp)).mono ?_
  rintro e w3 ⟨v3, rfl, ho, hb3⟩
  obtain ⟨p3, c3, rfl⟩ := ho.sl.slice
  have HO := Lib.hid ho
  have HO3 := Lib.hid (cO.belowB hb3 zz)
  have HA3 := Lib.hid (cA.belowB hb3 zz1)
  have HB3 : Hid (Below w.heap.size w w3) := B0.trans (hb3.mono B0.size)
  have cO0 : w3.cell? ⟨w.heap.size, 0, none⟩ = some (.int .i64 4) := HO3.out.cell 0
  have cO2 : w3.cell? ⟨w.heap.size, 2, none⟩ = some (.int .i64 x) := HO3.out.cell 2
  have cA0 : w3.cell? ⟨w.heap.size + 1, 0, none⟩ = some (.int .i64 0) := HA3.out.cell 0
  have cA1 : w3.cell? ⟨w.heap.size + 1, 1, none⟩ = some (.int .i64 0) := HA3.out.cell 1
  have fA0 := HA3.out.frozen 0
  have fA1 := HA3.out.frozen 1
  have zw : w.heap.size < w3.heap.size := HO3.out.lt
  have zB3 : w0.heap.size ≤ w3.heap.size := hb3.size
  have zw1 : w.heap.size + 1 < w3.heap.size := HA3.out.lt
  clear hS0 HS z0 cO cA ho hb3
  go_wp2_with fail
  have ho6 := (HO.out.store (p := ⟨w.heap.size + 1, 0, none⟩) zz1 (.int .i64 2)).store (p := ⟨w.heap.size + 1, 1, none⟩) zz1 (.int .i64 0)
  have ho7 := ho6.mono (Nat.le_of_lt zz)
  have hb6 := bstore (bstore HB3.out (p := ⟨w.heap.size + 1, 0, none⟩) (Nat.le_succ _) (.int .i64 2)) (p := ⟨w.heap.size + 1, 1, none⟩) (Nat.le_succ _) (.int .i64 0)
  have HA6 := HA3.out.pair (u := .int .i64 2) (v := .int .i64 0)
  generalize (w3.setCell ⟨w.heap.size + 1, 0, none⟩ (.int .i64 2)).setCell ⟨w.heap.size + 1, 1, none⟩ (.int .i64 0) = w6 at *
  have d0 : w6.cell? ⟨w.heap.size + 1, 0, none⟩ = some (.int .i64 2) := HA6.cell 0
  have d1 : w6.cell? ⟨w.heap.size + 1, 1, none⟩ = some (.int .i64 0) := HA6.cell 1
  clear HA6
  go_wp2_with fail
  exact bodyPost_ret (v := .tuple #[.slice p3 0 c3, .agg #[.int .i64 2, .int .i64 0]]) (by simp [results, Try.results27, go_sem, d0, d1]) rfl ⟨_, rfl, ho7, hb6⟩
set_option maxRecDepth 20000 in
set_option maxHeartbeats 1000000 in
theorem deque_nil5 (w : World) (v : Value) (xs : List Int) (key x : Int) (h : Sl w v xs) (hx : xs.length = 0) :
    Calls Try.prog 27 #[v, .agg #[.int .i64 5, .int .i64 key, .int .i64 x]] w fun e w' =>
      ∃ v', e = .returned (.tuple #[v', .agg #[.int .i64 2, .int .i64 0]]) ∧ Own w' w.heap.size v' (xs) ∧ Below w.heap.size w w' := by
  obtain ⟨a, cap, rfl⟩ := h.slice
  obtain rfl : xs = [] := List.length_eq_zero_iff.1 hx
  clear hx
  have HS := Lib.hid h
  clear h
  go_enter Try.func27, Try.ntmps27
  go_wp2_with fail
  have B0 : Below w.heap.size w ((w.alloc (Obj.cells #[.int .i64 5, .int .i64 key, .int .i64 x] 30)).alloc (Obj.cells #[.int .i64 0, .int .i64 0] 26)) := balloc (balloc (Below.refl _ w) _) _
  have z0 : ((w.alloc (Obj.cells #[.int .i64 5, .int .i64 key, .int .i64 x] 30)).alloc (Obj.cells #[.int .i64 0, .int .i64 0] 26)).heap.size = w.heap.size + 2 := by simp
  have cO : Blk ((w.alloc (Obj.cells #[.int .i64 5, .int .i64 key, .int .i64 x] 30)).alloc (Obj.cells #[.int .i64 0, .int .i64 0] 26)) w.heap.size [.int .i64 5, .int .i64 key, .int .i64 x] 30 := (Blk.new w [.int .i64 5, .int .i64 key, .int .i64 x] 30).alloc _
  have cA : Blk ((w.alloc (Obj.cells #[.int .i64 5, .int .i64 key, .int .i64 x] 30)).alloc (Obj.cells #[.int .i64 0, .int .i64 0] 26)) (w.heap.size + 1) [.int .i64 0, .int .i64 0] 26 := by
    have := Blk.new (w.alloc (Obj.cells #[.int .i64 5, .int .i64 key, .int .i64 x] 30)) [.int .i64 0, .int .i64 0] 26
    simpa using this
  have hS0 := HS.out.below B0
  generalize ((w.alloc (Obj.cells #[.int .i64 5, .int .i64 key, .int .i64 x] 30)).alloc (Obj.cells #[.int .i64 0, .int .i64 0] 26)) = w0 at *
  have HZ := Lib.hid z0
  have zz : w.heap.size < w0.heap.size := by have := HZ.out; omega
  have zz1 : w.heap.size + 1 < w0.heap.size := by have := HZ.out; omega
  refine (clone_any _ _ [] hS0 (by simp)).mono ?_
  rintro e w3 ⟨v3, rfl, ho, hb3⟩
  obtain ⟨p3, c3, rfl⟩ := ho.sl.slice
  have HO := Lib.hid ho
  have HO3 := Lib.hid (cO.belowB hb3 zz)
  have HA3 := Lib.hid (cA.belowB hb3 zz1)
  have HB3 : Hid (Below w.heap.size w w3) := B0.trans (hb3.mono B0.size)
  have cO0 : w3.cell? ⟨w.heap.size, 0, none⟩ = some (.int .i64 5) := HO3.out.cell 0
  have cO2 : w3.cell? ⟨w.heap.size, 2, none⟩ = some (.int .i64 x) := HO3.out.cell 2
  have cA0 : w3.cell? ⟨w.heap.size + 1, 0, none⟩ = some (.int .i64 0) := HA3.out.cell 0
  have cA1 : w3.cell? ⟨w.heap.size + 1, 1, none⟩ = some (.int .i64 0) := HA3.out.cell 1
  have fA0 := HA3.out.frozen 0
  have fA1 := HA3.out.frozen 1
  have zw : w.heap.size < w3.heap.size := HO3.out.lt
  have zB3 : w0.heap.size ≤ w3.heap.size := hb3.size
  have zw1 : w.heap.size + 1 < w3.heap.size := HA3.out.lt
  clear hS0 HS z0 cO cA ho hb3
  go_wp2_with fail
  have ho6 := (HO.out.store (p := ⟨w.heap.size + 1, 0, none⟩) zz1 (.int .i64 2)).store (p := ⟨w.heap.size + 1, 1, none⟩) zz1 (.int .i64 0)
  have ho7 := ho6.mono (Nat.le_of_lt zz)
  have hb6 := bstore (bstore HB3.out (p := ⟨w.heap.size + 1, 0, none⟩) (Nat.le_succ _) (.int .i64 2)) (p := ⟨w.heap.size + 1, 1, none⟩) (Nat.le_succ _) (.int .i64 0)
  have HA6 := HA3.out.pair (u := .int .i64 2) (v := .int .i64 0)
  generalize (w3.setCell ⟨w.heap.size + 1, 0, none⟩ (.int .i64 2)).setCell ⟨w.heap.size + 1, 1, none⟩ (.int .i64 0) = w6 at *
  have d0 : w6.cell? ⟨w.heap.size + 1, 0, none⟩ = some (.int .i64 2) := HA6.cell 0
  have d1 : w6.cell? ⟨w.heap.size + 1, 1, none⟩ = some (.int .i64 0) := HA6.cell 1
  clear HA6
  go_wp2_with fail
  exact bodyPost_ret (v := .tuple #[.slice p3 0 c3, .agg #[.int .i64 2, .int .i64 0]]) (by simp [results, Try.results27, go_sem, d0, d1]) rfl ⟨_, rfl, ho7, hb6⟩
set_option maxRecDepth 20000 in
set_option maxHeartbeats 1000000 in
theorem deque_put (w : World) (v : Value) (xs : List Int) (key x : Int) (h : Sl w v xs) (hx : xs.length < 6) :
    Calls Try.prog 27 #[v, .agg #[.int .i64 1, .int .i64 key, .int .i64 x]] w fun e w' =>
      ∃ v', e = .returned (.tuple #[v', .agg #[.int .i64 1, .int .i64 0]]) ∧ Own w' w.heap.size v' (xs ++ [x]) ∧ Below w.heap.size w w' := by
  obtain ⟨a, cap, rfl⟩ := h.slice
  obtain ⟨i0, hi0, hz0, hz1, hz2⟩ := info_parts infoInt
  have HS := Lib.hid h
  clear h
  go_enter Try.func27, Try.ntmps27
  go_wp2_with fail
  have B0 : Below w.heap.size w ((w.alloc (Obj.cells #[.int .i64 1, .int .i64 key, .int .i64 x] 30)).alloc (Obj.cells #[.int .i64 0, .int .i64 0] 26)) := balloc (balloc (Below.refl _ w) _) _
  have z0 : ((w.alloc (Obj.cells #[.int .i64 1, .int .i64 key, .int .i64 x] 30)).alloc (Obj.cells #[.int .i64 0, .int .i64 0] 26)).heap.size = w.heap.size + 2 := by simp
  have cO : Blk ((w.alloc (Obj.cells #[.int .i64 1, .int .i64 key, .int .i64 x] 30)).alloc (Obj.cells #[.int .i64 0, .int .i64 0] 26)) w.heap.size [.int .i64 1, .int .i64 key, .int .i64 x] 30 := (Blk.new w [.int .i64 1, .int .i64 key, .int .i64 x] 30).alloc _
  have cA : Blk ((w.alloc (Obj.cells #[.int .i64 1, .int .i64 key, .int .i64 x] 30)).alloc (Obj.cells #[.int .i64 0, .int .i64 0] 26)) (w.heap.size + 1) [.int .i64 0, .int .i64 0] 26 := by
    have := Blk.new (w.alloc (Obj.cells #[.int .i64 1, .int .i64 key, .int .i64 x] 30)) [.int .i64 0, .int .i64 0] 26
    simpa using this
  have hS0 := HS.out.below B0
  generalize ((w.alloc (Obj.cells #[.int .i64 1, .int .i64 key, .int .i64 x] 30)).alloc (Obj.cells #[.int .i64 0, .int .i64 0] 26)) = w0 at *
  have HZ := Lib.hid z0
  have zz : w.heap.size < w0.heap.size := by have := HZ.out; omega
  have zz1 : w.heap.size + 1 < w0.heap.size := by have := HZ.out; omega
  refine (clone_any _ _ xs hS0 (by omega)).mono ?_
  rintro e w3 ⟨v3, rfl, ho, hb3⟩
  obtain ⟨p3, c3, rfl⟩ := ho.sl.slice
  have HO := Lib.hid ho
  have HO3 := Lib.hid (cO.belowB hb3 zz)
  have HA3 := Lib.hid (cA.belowB hb3 zz1)
  have HB3 : Hid (Below w.heap.size w w3) := B0.trans (hb3.mono B0.size)
  have cO0 : w3.cell? ⟨w.heap.size, 0, none⟩ = some (.int .i64 1) := HO3.out.cell 0
  have cO2 : w3.cell? ⟨w.heap.size, 2, none⟩ = some (.int .i64 x) := HO3.out.cell 2
  have cA0 : w3.cell? ⟨w.heap.size + 1, 0, none⟩ = some (.int .i64 0) := HA3.out.cell 0
  have cA1 : w3.cell? ⟨w.heap.size + 1, 1, none⟩ = some (.int .i64 0) := HA3.out.cell 1
  have fA0 := HA3.out.frozen 0
  have fA1 := HA3.out.frozen 1
  have zw : w.heap.size < w3.heap.size := HO3.out.lt
  have zB3 : w0.heap.size ≤ w3.heap.size := hb3.size
  have zw1 : w.heap.size + 1 < w3.heap.size := HA3.out.lt
  clear hS0 HS z0 cO cA ho hb3
  have hbase : w0.heap.size ≤ (w3.alloc (Obj.cells #[.int .i64 x] 3)).heap.size := by have := zB3; simp; omega
  go_wp2_with (at_builtin; (refine wpList_append_own _ rfl _ _ 22 rfl w0.heap.size 3 i0 (.int .i64 0) 1 8 Try.underlying22 hi0 hz0 hz1 hz2 rfl (by decide) _ _ _ rfl (World.ownsRow.alloc HO.out _) ⟨w3.heap.size, 0, none⟩ 1 1 [.int .i64 x] rfl rfl (World.news_of_block (cs := #[.int .i64 x]) (t := 3) (fr := (0, 0)) (heap_alloc_new w3 _)) (by simp [Value.oneCell']) (by unfold maxLen; omega) (by omega) hbase ?_); intro v4 w4 hown4 hgrow4 _; have hb4 := (Below.refl w0.heap.size _).grown hgrow4 hbase (fun k hk => HO.out.block hk); have HB4 : Hid (Below w.heap.size w w4) := (balloc HB3.out _).trans (hb4.mono B0.size); have HA4 : Hid (Blk w4 (w.heap.size + 1) [.int .i64 0, .int .i64 0] 26) := (HA3.out.alloc _).belowB hb4 zz1; have eA0 : w4.cell? ⟨w.heap.size + 1, 0, none⟩ = some (.int .i64 0) := HA4.out.cell 0; have eA1 : w4.cell? ⟨w.heap.size + 1, 1, none⟩ = some (.int .i64 0) := HA4.out.cell 1; have gA0 := HA4.out.frozen 0; have gA1 := HA4.out.frozen 1; have HO4 : Hid (Own w4 w0.heap.size v4 (xs ++ [x])) := by unfold Hid Own; rw [List.length_append, List.map_append]; exact hown4)
  have ho6 := (HO4.out.store (p := ⟨w.heap.size + 1, 0, none⟩) zz1 (.int .i64 1)).store (p := ⟨w.heap.size + 1, 1, none⟩) zz1 (.int .i64 0)
  have ho7 := ho6.mono (Nat.le_of_lt zz)
  have hb6 := bstore (bstore HB4.out (p := ⟨w.heap.size + 1, 0, none⟩) (Nat.le_succ _) (.int .i64 1)) (p := ⟨w.heap.size + 1, 1, none⟩) (Nat.le_succ _) (.int .i64 0)
  have HA6 := HA4.out.pair (u := .int .i64 1) (v := .int .i64 0)
  generalize (w4.setCell ⟨w.heap.size + 1, 0, none⟩ (.int .i64 1)).setCell ⟨w.heap.size + 1, 1, none⟩ (.int .i64 0) = w6 at *
  have d0 : w6.cell? ⟨w.heap.size + 1, 0, none⟩ = some (.int .i64 1) := HA6.cell 0
  have d1 : w6.cell? ⟨w.heap.size + 1, 1, none⟩ = some (.int .i64 0) := HA6.cell 1
  clear HA6
  go_wp2_with fail
  exact bodyPost_ret (v := .tuple #[v4, .agg #[.int .i64 1, .int .i64 0]]) (by simp [results, Try.results27, go_sem, d0, d1]) rfl ⟨_, rfl, ho7, hb6⟩
set_option maxRecDepth 20000 in
set_option maxHeartbeats 1000000 in
theorem deque_front (w : World) (v : Value) (xs : List Int) (key x : Int) (h : Sl w v xs) (hx : xs.length < 6) :
    Calls Try.prog 27 #[v, .agg #[.int .i64 3, .int .i64 key, .int .i64 x]] w fun e w' =>
      ∃ v', e = .returned (.tuple #[v', .agg #[.int .i64 1, .int .i64 0]]) ∧ Own w' w.heap.size v' (x :: xs) ∧ Below w.heap.size w w' := by
  obtain ⟨a, cap, rfl⟩ := h.slice
  have HS := Lib.hid h
  clear h
  go_enter Try.func27, Try.ntmps27
  go_wp2_with fail
  have B0 : Below w.heap.size w ((w.alloc (Obj.cells #[.int .i64 3, .int .i64 key, .int .i64 x] 30)).alloc (Obj.cells #[.int .i64 0, .int .i64 0] 26)) := balloc (balloc (Below.refl _ w) _) _
  have z0 : ((w.alloc (Obj.cells #[.int .i64 3, .int .i64 key, .int .i64 x] 30)).alloc (Obj.cells #[.int .i64 0, .int .i64 0] 26)).heap.size = w.heap.size + 2 := by simp
  have cO : Blk ((w.alloc (Obj.cells #[.int .i64 3, .int .i64 key, .int .i64 x] 30)).alloc (Obj.cells #[.int .i64 0, .int .i64 0] 26)) w.heap.size [.int .i64 3, .int .i64 key, .int .i64 x] 30 := (Blk.new w [.int .i64 3, .int .i64 key, .int .i64 x] 30).alloc _
  have cA : Blk ((w.alloc (Obj.cells #[.int .i64 3, .int .i64 key, .int .i64 x] 30)).alloc (Obj.cells #[.int .i64 0, .int .i64 0] 26)) (w.heap.size + 1) [.int .i64 0, .int .i64 0] 26 := by
    have := Blk.new (w.alloc (Obj.cells #[.int .i64 3, .int .i64 key, .int .i64 x] 30)) [.int .i64 0, .int .i64 0] 26
    simpa using this
  have hS0 := HS.out.below B0
  generalize ((w.alloc (Obj.cells #[.int .i64 3, .int .i64 key, .int .i64 x] 30)).alloc (Obj.cells #[.int .i64 0, .int .i64 0] 26)) = w0 at *
  have HZ := Lib.hid z0
  have zz : w.heap.size < w0.heap.size := by have := HZ.out; omega
  have zz1 : w.heap.size + 1 < w0.heap.size := by have := HZ.out; omega
  refine (clone_any _ _ xs hS0 (by omega)).mono ?_
  rintro e w3 ⟨v3, rfl, ho, hb3⟩
  obtain ⟨p3, c3, rfl⟩ := ho.sl.slice
  have HO := Lib.hid ho
  have HO3 := Lib.hid (cO.belowB hb3 zz)
  have HA3 := Lib.hid (cA.belowB hb3 zz1)
  have HB3 : Hid (Below w.heap.size w w3) := B0.trans (hb3.mono B0.size)
  have cO0 : w3.cell? ⟨w.heap.size, 0, none⟩ = some (.int .i64 3) := HO3.out.cell 0
  have cO2 : w3.cell? ⟨w.heap.size, 2, none⟩ = some (.int .i64 x) := HO3.out.cell 2
  have cA0 : w3.cell? ⟨w.heap.size + 1, 0, none⟩ = some (.int .i64 0) := HA3.out.cell 0
  have cA1 : w3.cell? ⟨w.heap.size + 1, 1, none⟩ = some (.int .i64 0) := HA3.out.cell 1
  have fA0 := HA3.out.frozen 0
  have fA1 := HA3.out.frozen 1
  have zw : w.heap.size < w3.heap.size := HO3.out.lt
  have zB3 : w0.heap.size ≤ w3.heap.size := hb3.size
  have zw1 : w.heap.size + 1 < w3.heap.size := HA3.out.lt
  clear hS0 HS z0 cO cA ho hb3
  go_wp2_with fail
  have hbase : w0.heap.size ≤ (w3.alloc (Obj.cells #[.int .i64 x] 3)).heap.size := by have := zB3; simp; omega
  refine (insert_any _ w0.heap.size _ xs x _ (World.ownsRow.alloc HO.out _) (by omega) hbase (Blk.new w3 [.int .i64 x] 3) (fun a n c h => by have := HO.out.lt a n c h; omega)).mono ?_
  rintro e w4 ⟨v4, rfl, ho4, hb4⟩
  clear cO0 cO2 cA0 cA1 fA0 fA1 zw1 zw
  have HB4 : Hid (Below w.heap.size w w4) := (balloc HB3.out _).trans (hb4.mono B0.size)
  have HA4 := Lib.hid ((HA3.out.alloc _).belowB hb4 zz1)
  have cA0 : w4.cell? ⟨w.heap.size + 1, 0, none⟩ = some (.int .i64 0) := HA4.out.cell 0
  have cA1 : w4.cell? ⟨w.heap.size + 1, 1, none⟩ = some (.int .i64 0) := HA4.out.cell 1
  have fA0 := HA4.out.frozen 0
  have fA1 := HA4.out.frozen 1
  have zw1 : w.heap.size + 1 < w4.heap.size := HA4.out.lt
  have HO4 := Lib.hid ho4
  clear ho4 hb4
  go_wp2_with fail
  have ho6 := (HO4.out.store (p := ⟨w.heap.size + 1, 0, none⟩) zz1 (.int .i64 1)).store (p := ⟨w.heap.size + 1, 1, none⟩) zz1 (.int .i64 0)
  have ho7 := ho6.mono (Nat.le_of_lt zz)
  have hb6 := bstore (bstore HB4.out (p := ⟨w.heap.size + 1, 0, none⟩) (Nat.le_succ _) (.int .i64 1)) (p := ⟨w.heap.size + 1, 1, none⟩) (Nat.le_succ _) (.int .i64 0)
  have HA6 := HA4.out.pair (u := .int .i64 1) (v := .int .i64 0)
  generalize (w4.setCell ⟨w.heap.size + 1, 0, none⟩ (.int .i64 1)).setCell ⟨w.heap.size + 1, 1, none⟩ (.int .i64 0) = w6 at *
  have d0 : w6.cell? ⟨w.heap.size + 1, 0, none⟩ = some (.int .i64 1) := HA6.cell 0
  have d1 : w6.cell? ⟨w.heap.size + 1, 1, none⟩ = some (.int .i64 0) := HA6.cell 1
  clear HA6
  go_wp2_with fail
  exact bodyPost_ret (v := .tuple #[v4, .agg #[.int .i64 1, .int .i64 0]]) (by simp [results, Try.results27, go_sem, d0, d1]) rfl ⟨_, rfl, ho7, hb6⟩
set_option maxRecDepth 20000 in
set_option maxHeartbeats 1000000 in
theorem deque_peek (w : World) (v : Value) (xs : List Int) (key x : Int) (h : Sl w v xs) (hx : 0 < xs.length) (hx2 : xs.length ≤ 1000) :
    Calls Try.prog 27 #[v, .agg #[.int .i64 5, .int .i64 key, .int .i64 x]] w fun e w' =>
      ∃ v', e = .returned (.tuple #[v', .agg #[.int .i64 1, .int .i64 (xs.getD 0 0)]]) ∧ Own w' w.heap.size v' (xs) ∧ Below w.heap.size w w' := by
  obtain ⟨a, cap, rfl⟩ := h.slice
  have HS := Lib.hid h
  clear h
  go_enter Try.func27, Try.ntmps27
  go_wp2_with fail
  have B0 : Below w.heap.size w ((w.alloc (Obj.cells #[.int .i64 5, .int .i64 key, .int .i64 x] 30)).alloc (Obj.cells #[.int .i64 0, .int .i64 0] 26)) := balloc (balloc (Below.refl _ w) _) _
  have z0 : ((w.alloc (Obj.cells #[.int .i64 5, .int .i64 key, .int .i64 x] 30)).alloc (Obj.cells #[.int .i64 0, .int .i64 0] 26)).heap.size = w.heap.size + 2 := by simp
  have cO : Blk ((w.alloc (Obj.cells #[.int .i64 5, .int .i64 key, .int .i64 x] 30)).alloc (Obj.cells #[.int .i64 0, .int .i64 0] 26)) w.heap.size [.int .i64 5, .int .i64 key, .int .i64 x] 30 := (Blk.new w [.int .i64 5, .int .i64 key, .int .i64 x] 30).alloc _
  have cA : Blk ((w.alloc (Obj.cells #[.int .i64 5, .int .i64 key, .int .i64 x] 30)).alloc (Obj.cells #[.int .i64 0, .int .i64 0] 26)) (w.heap.size + 1) [.int .i64 0, .int .i64 0] 26 := by
    have := Blk.new (w.alloc (Obj.cells #[.int .i64 5, .int .i64 key, .int .i64 x] 30)) [.int .i64 0, .int .i64 0] 26
    simpa using this
  have hS0 := HS.out.below B0
  generalize ((w.alloc (Obj.cells #[.int .i64 5, .int .i64 key, .int .i64 x] 30)).alloc (Obj.cells #[.int .i64 0, .int .i64 0] 26)) = w0 at *
  have HZ := Lib.hid z0
  have zz : w.heap.size < w0.heap.size := by have := HZ.out; omega
  have zz1 : w.heap.size + 1 < w0.heap.size := by have := HZ.out; omega
  refine (clone_any _ _ xs hS0 (by omega)).mono ?_
  rintro e w3 ⟨v3, rfl, ho, hb3⟩
  obtain ⟨p3, c3, rfl⟩ := ho.sl.slice
  have HO := Lib.hid ho
  have HO3 := Lib.hid (cO.belowB hb3 zz)
  have HA3 := Lib.hid (cA.belowB hb3 zz1)
  have HB3 : Hid (Below w.heap.size w w3) := B0.trans (hb3.mono B0.size)
  have cO0 : w3.cell? ⟨w.heap.size, 0, none⟩ = some (.int .i64 5) := HO3.out.cell 0
  have cO2 : w3.cell? ⟨w.heap.size, 2, none⟩ = some (.int .i64 x) := HO3.out.cell 2
  have cA0 : w3.cell? ⟨w.heap.size + 1, 0, none⟩ = some (.int .i64 0) := HA3.out.cell 0
  have cA1 : w3.cell? ⟨w.heap.size + 1, 1, none⟩ = some (.int .i64 0) := HA3.out.cell 1
  have fA0 := HA3.out.frozen 0
  have fA1 := HA3.out.frozen 1
  have zw : w.heap.size < w3.heap.size := HO3.out.lt
  have zB3 : w0.heap.size ≤ w3.heap.size := hb3.size
  have zw1 : w.heap.size + 1 < w3.heap.size := HA3.out.lt
  clear hS0 HS z0 cO cA ho hb3
  obtain ⟨g, c3', he, hg1, hg2, hg3, hg4, hc, hf⟩ := HO.out.head hx
  simp only [Value.slice.injEq] at he
  obtain ⟨rfl, -, rfl⟩ := he
  have cx := hc 0 (by omega)
  simp only [Nat.zero_add] at cx
  generalize hx0 : xs.getD 0 0 = x0 at *
  have HX := Lib.hid hx0
  have hl0 : ((xs.length : Int) == 0) = false := beq_eq_false_iff_ne.2 (by omega)
  have hl1 : (0 : Int) < (xs.length : Int) := by omega
  have hn1 : (0 : Int) ≤ (xs.length : Int) - 1 := by omega
  have hgne : g ≠ w.heap.size + 1 := by omega
  have HXL := Lib.hid hx
  clear hx0 hc hf hx
  go_wp2_with fail
  have ho6 := (HO.out.store (p := ⟨w.heap.size + 1, 0, none⟩) zz1 (.int .i64 1)).store (p := ⟨w.heap.size + 1, 1, none⟩) zz1 (.int .i64 x0)
  have ho7 := ho6.mono (Nat.le_of_lt zz)
  have hb6 := bstore (bstore HB3.out (p := ⟨w.heap.size + 1, 0, none⟩) (Nat.le_succ _) (.int .i64 1)) (p := ⟨w.heap.size + 1, 1, none⟩) (Nat.le_succ _) (.int .i64 x0)
  have HA6 := HA3.out.pair (u := .int .i64 1) (v := .int .i64 x0)
  generalize (w3.setCell ⟨w.heap.size + 1, 0, none⟩ (.int .i64 1)).setCell ⟨w.heap.size + 1, 1, none⟩ (.int .i64 x0) = w6 at *
  have d0 : w6.cell? ⟨w.heap.size + 1, 0, none⟩ = some (.int .i64 1) := HA6.cell 0
  have d1 : w6.cell? ⟨w.heap.size + 1, 1, none⟩ = some (.int .i64 x0) := HA6.cell 1
  clear HA6
  go_wp2_with fail
  exact bodyPost_ret (v := .tuple #[.slice (some ⟨g, 0, none⟩) xs.length c3, .agg #[.int .i64 1, .int .i64 x0]]) (by simp [results, Try.results27, go_sem, d0, d1]) rfl ⟨_, by rw [HX.out], ho7, hb6⟩
set_option maxRecDepth 20000 in
set_option maxHeartbeats 1000000 in
theorem deque_take (w : World) (v : Value) (xs : List Int) (key x : Int) (h : Sl w v xs) (hx : 0 < xs.length) (hx2 : xs.length ≤ 1000) :
    Calls Try.prog 27 #[v, .agg #[.int .i64 2, .int .i64 key, .int .i64 x]] w fun e w' =>
      ∃ v', e = .returned (.tuple #[v', .agg #[.int .i64 1, .int .i64 (xs.getD 0 0)]]) ∧ Own w' w.heap.size v' (xs.eraseIdx 0) ∧ Below w.heap.size w w' := by
  obtain ⟨a, cap, rfl⟩ := h.slice
  have HS := Lib.hid h
  clear h
  go_enter Try.func27, Try.ntmps27
  go_wp2_with fail
  have B0 : Below w.heap.size w ((w.alloc (Obj.cells #[.int .i64 2, .int .i64 key, .int .i64 x] 30)).alloc (Obj.cells #[.int .i64 0, .int .i64 0] 26)) := balloc (balloc (Below.refl _ w) _) _
  have z0 : ((w.alloc (Obj.cells #[.int .i64 2, .int .i64 key, .int .i64 x] 30)).alloc (Obj.cells #[.int .i64 0, .int .i64 0] 26)).heap.size = w.heap.size + 2 := by simp
  have cO : Blk ((w.alloc (Obj.cells #[.int .i64 2, .int .i64 key, .int .i64 x] 30)).alloc (Obj.cells #[.int .i64 0, .int .i64 0] 26)) w.heap.size [.int .i64 2, .int .i64 key, .int .i64 x] 30 := (Blk.new w [.int .i64 2, .int .i64 key, .int .i64 x] 30).alloc _
  have cA : Blk ((w.alloc (Obj.cells #[.int .i64 2, .int .i64 key, .int .i64 x] 30)).alloc (Obj.cells #[.int .i64 0, .int .i64 0] 26)) (w.heap.size + 1) [.int .i64 0, .int .i64 0] 26 := by
    have := Blk.new (w.alloc (Obj.cells #[.int .i64 2, .int .i64 key, .int .i64 x] 30)) [.int .i64 0, .int .i64 0] 26
    simpa using this
  have hS0 := HS.out.below B0
  generalize ((w.alloc (Obj.cells #[.int .i64 2, .int .i64 key, .int .i64 x] 30)).alloc (Obj.cells #[.int .i64 0, .int .i64 0] 26)) = w0 at *
  have HZ := Lib.hid z0
  have zz : w.heap.size < w0.heap.size := by have := HZ.out; omega
  have zz1 : w.heap.size + 1 < w0.heap.size := by have := HZ.out; omega
  refine (clone_any _ _ xs hS0 (by omega)).mono ?_
  rintro e w3 ⟨v3, rfl, ho, hb3⟩
  obtain ⟨p3, c3, rfl⟩ := ho.sl.slice
  have HO := Lib.hid ho
  have HO3 := Lib.hid (cO.belowB hb3 zz)
  have HA3 := Lib.hid (cA.belowB hb3 zz1)
  have HB3 : Hid (Below w.heap.size w w3) := B0.trans (hb3.mono B0.size)
  have cO0 : w3.cell? ⟨w.heap.size, 0, none⟩ = some (.int .i64 2) := HO3.out.cell 0
  have cO2 : w3.cell? ⟨w.heap.size, 2, none⟩ = some (.int .i64 x) := HO3.out.cell 2
  have cA0 : w3.cell? ⟨w.heap.size + 1, 0, none⟩ = some (.int .i64 0) := HA3.out.cell 0
  have cA1 : w3.cell? ⟨w.heap.size + 1, 1, none⟩ = some (.int .i64 0) := HA3.out.cell 1
  have fA0 := HA3.out.frozen 0
  have fA1 := HA3.out.frozen 1
  have zw : w.heap.size < w3.heap.size := HO3.out.lt
  have zB3 : w0.heap.size ≤ w3.heap.size := hb3.size
  have zw1 : w.heap.size + 1 < w3.heap.size := HA3.out.lt
  clear hS0 HS z0 cO cA ho hb3
  obtain ⟨g, c3', he, hg1, hg2, hg3, hg4, hc, hf⟩ := HO.out.head hx
  simp only [Value.slice.injEq] at he
  obtain ⟨rfl, -, rfl⟩ := he
  have cx := hc 0 (by omega)
  simp only [Nat.zero_add] at cx
  generalize hx0 : xs.getD 0 0 = x0 at *
  have HX := Lib.hid hx0
  have hl0 : ((xs.length : Int) == 0) = false := beq_eq_false_iff_ne.2 (by omega)
  have hl1 : (0 : Int) < (xs.length : Int) := by omega
  have hn1 : (0 : Int) ≤ (xs.length : Int) - 1 := by omega
  have hgne : g ≠ w.heap.size + 1 := by omega
  have HXL := Lib.hid hx
  clear hx0 hc hf hx
  go_wp2_with fail
  refine (delete_at _ w0.heap.size _ xs 0 _ _ (by first | rfl | omega) (by first | rfl | omega) HO.out (by have := HXL.out; omega) zB3).mono ?_
  rintro e w4 ⟨v4, rfl, ho4, hb4⟩
  clear cO0 cO2 cA0 cA1 fA0 fA1 zw1 zw cx
  have HB4 : Hid (Below w.heap.size w w4) := HB3.out.trans (hb4.mono B0.size)
  have HA4 := Lib.hid (HA3.out.belowB hb4 zz1)
  have cA0 : w4.cell? ⟨w.heap.size + 1, 0, none⟩ = some (.int .i64 0) := HA4.out.cell 0
  have cA1 : w4.cell? ⟨w.heap.size + 1, 1, none⟩ = some (.int .i64 0) := HA4.out.cell 1
  have fA0 := HA4.out.frozen 0
  have fA1 := HA4.out.frozen 1
  have zw1 : w.heap.size + 1 < w4.heap.size := HA4.out.lt
  have HO4 := Lib.hid ho4
  clear ho4 hb4
  go_wp2_with fail
  have ho6 := (HO4.out.store (p := ⟨w.heap.size + 1, 0, none⟩) zz1 (.int .i64 1)).store (p := ⟨w.heap.size + 1, 1, none⟩) zz1 (.int .i64 x0)
  have ho7 := ho6.mono (Nat.le_of_lt zz)
  have hb6 := bstore (bstore HB4.out (p := ⟨w.heap.size + 1, 0, none⟩) (Nat.le_succ _) (.int .i64 1)) (p := ⟨w.heap.size + 1, 1, none⟩) (Nat.le_succ _) (.int .i64 x0)
  have HA6 := HA4.out.pair (u := .int .i64 1) (v := .int .i64 x0)
  generalize (w4.setCell ⟨w.heap.size + 1, 0, none⟩ (.int .i64 1)).setCell ⟨w.heap.size + 1, 1, none⟩ (.int .i64 x0) = w6 at *
  have d0 : w6.cell? ⟨w.heap.size + 1, 0, none⟩ = some (.int .i64 1) := HA6.cell 0
  have d1 : w6.cell? ⟨w.heap.size + 1, 1, none⟩ = some (.int .i64 x0) := HA6.cell 1
  clear HA6
  go_wp2_with fail
  exact bodyPost_ret (v := .tuple #[v4, .agg #[.int .i64 1, .int .i64 x0]]) (by simp [results, Try.results27, go_sem, d0, d1]) rfl ⟨_, by rw [HX.out], ho7, hb6⟩
set_option maxRecDepth 20000 in
set_option maxHeartbeats 1000000 in
theorem deque_back (w : World) (v : Value) (xs : List Int) (key x : Int) (h : Sl w v xs) (hx : 0 < xs.length) (hx2 : xs.length ≤ 1000) :
    Calls Try.prog 27 #[v, .agg #[.int .i64 4, .int .i64 key, .int .i64 x]] w fun e w' =>
      ∃ v', e = .returned (.tuple #[v', .agg #[.int .i64 1, .int .i64 (xs.getD (xs.length - 1) 0)]]) ∧ Own w' w.heap.size v' (xs.eraseIdx (xs.length - 1)) ∧ Below w.heap.size w w' := by
  obtain ⟨a, cap, rfl⟩ := h.slice
  have HS := Lib.hid h
  clear h
  go_enter Try.func27, Try.ntmps27
  go_wp2_with fail
  have B0 : Below w.heap.size w ((w.alloc (Obj.cells #[.int .i64 4, .int .i64 key, .int .i64 x] 30)).alloc (Obj.cells #[.int .i64 0, .int .i64 0] 26)) := balloc (balloc (Below.refl _ w) _) _
  have z0 : ((w.alloc (Obj.cells #[.int .i64 4, .int .i64 key, .int .i64 x] 30)).alloc (Obj.cells #[.int .i64 0, .int .i64 0] 26)).heap.size = w.heap.size + 2 := by simp
  have cO : Blk ((w.alloc (Obj.cells #[.int .i64 4, .int .i64 key, .int .i64 x] 30)).alloc (Obj.cells #[.int .i64 0, .int .i64 0] 26)) w.heap.size [.int .i64 4, .int .i64 key, .int .i64 x] 30 := (Blk.new w [.int .i64 4, .int .i64 key, .int .i64 x] 30).alloc _
  have cA : Blk ((w.alloc (Obj.cells #[.int .i64 4, .int .i64 key, .int .i64 x] 30)).alloc (Obj.cells #[.int .i64 0, .int .i64 0] 26)) (w.heap.size + 1) [.int .i64 0, .int .i64 0] 26 := by
    have := Blk.new (w.alloc (Obj.cells #[.int .i64 4, .int .i64 key, .int .i64 x] 30)) [.int .i64 0, .int .i64 0] 26
    simpa using this
  have hS0 := HS.out.below B0
  generalize ((w.alloc (Obj.cells #[.int .i64 4, .int .i64 key, .int .i64 x] 30)).alloc (Obj.cells #[.int .i64 0, .int .i64 0] 26)) = w0 at *
  have HZ := Lib.hid z0
  have zz : w.heap.size < w0.heap.size := by have := HZ.out; omega
  have zz1 : w.heap.size + 1 < w0.heap.size := by have := HZ.out; omega
  refine (clone_any _ _ xs hS0 (by omega)).mono ?_
  rintro e w3 ⟨v3, rfl, ho, hb3⟩
  obtain ⟨p3, c3, rfl⟩ := ho.sl.slice
  have HO := Lib.hid ho
  have HO3 := Lib.hid (cO.belowB hb3 zz)
  have HA3 := Lib.hid (cA.belowB hb3 zz1)
  have HB3 : Hid (Below w.heap.size w w3) := B0.trans (hb3.mono B0.size)
  have cO0 : w3.cell? ⟨w.heap.size, 0, none⟩ = some (.int .i64 4) := HO3.out.cell 0
  have cO2 : w3.cell? ⟨w.heap.size, 2, none⟩ = some (.int .i64 x) := HO3.out.cell 2
  have cA0 : w3.cell? ⟨w.heap.size + 1, 0, none⟩ = some (.int .i64 0) := HA3.out.cell 0
  have cA1 : w3.cell? ⟨w.heap.size + 1, 1, none⟩ = some (.int .i64 0) := HA3.out.cell 1
  have fA0 := HA3.out.frozen 0
  have fA1 := HA3.out.frozen 1
  have zw : w.heap.size < w3.heap.size := HO3.out.lt
  have zB3 : w0.heap.size ≤ w3.heap.size := hb3.size
  have zw1 : w.heap.size + 1 < w3.heap.size := HA3.out.lt
  clear hS0 HS z0 cO cA ho hb3
  obtain ⟨g, c3', he, hg1, hg2, hg3, hg4, hc, hf⟩ := HO.out.head hx
  simp only [Value.slice.injEq] at he
  obtain ⟨rfl, -, rfl⟩ := he
  have cx := hc (xs.length - 1) (by omega)
  simp only [Nat.zero_add] at cx
  generalize hx0 : xs.getD (xs.length - 1) 0 = x0 at *
  have HX := Lib.hid hx0
  have hl0 : ((xs.length : Int) == 0) = false := beq_eq_false_iff_ne.2 (by omega)
  have hl1 : (0 : Int) < (xs.length : Int) := by omega
  have hn1 : (0 : Int) ≤ (xs.length : Int) - 1 := by omega
  have hgne : g ≠ w.heap.size + 1 := by omega
  have HXL := Lib.hid hx
  clear hx0 hc hf hx
  go_wp2_with fail
  refine (delete_at _ w0.heap.size _ xs (xs.length - 1) _ _ (by first | rfl | omega) (by first | rfl | omega) HO.out (by have := HXL.out; omega) zB3).mono ?_
  rintro e w4 ⟨v4, rfl, ho4, hb4⟩
  clear cO0 cO2 cA0 cA1 fA0 fA1 zw1 zw cx
  have HB4 : Hid (Below w.heap.size w w4) := HB3.out.trans (hb4.mono B0.size)
  have HA4 := Lib.hid (HA3.out.belowB hb4 zz1)
  have cA0 : w4.cell? ⟨w.heap.size + 1, 0, none⟩ = some (.int .i64 0) := HA4.out.cell 0
  have cA1 : w4.cell? ⟨w.heap.size + 1, 1, none⟩ = some (.int .i64 0) := HA4.out.cell 1
  have fA0 := HA4.out.frozen 0
  have fA1 := HA4.out.frozen 1
  have zw1 : w.heap.size + 1 < w4.heap.size := HA4.out.lt
  have HO4 := Lib.hid ho4
  clear ho4 hb4
  go_wp2_with fail
  have ho6 := (HO4.out.store (p := ⟨w.heap.size + 1, 0, none⟩) zz1 (.int .i64 1)).store (p := ⟨w.heap.size + 1, 1, none⟩) zz1 (.int .i64 x0)
  have ho7 := ho6.mono (Nat.le_of_lt zz)
  have hb6 := bstore (bstore HB4.out (p := ⟨w.heap.size + 1, 0, none⟩) (Nat.le_succ _) (.int .i64 1)) (p := ⟨w.heap.size + 1, 1, none⟩) (Nat.le_succ _) (.int .i64 x0)
  have HA6 := HA4.out.pair (u := .int .i64 1) (v := .int .i64 x0)
  generalize (w4.setCell ⟨w.heap.size + 1, 0, none⟩ (.int .i64 1)).setCell ⟨w.heap.size + 1, 1, none⟩ (.int .i64 x0) = w6 at *
  have d0 : w6.cell? ⟨w.heap.size + 1, 0, none⟩ = some (.int .i64 1) := HA6.cell 0
  have d1 : w6.cell? ⟨w.heap.size + 1, 1, none⟩ = some (.int .i64 x0) := HA6.cell 1
  clear HA6
  go_wp2_with fail
  exact bodyPost_ret (v := .tuple #[v4, .agg #[.int .i64 1, .int .i64 x0]]) (by simp [results, Try.results27, go_sem, d0, d1]) rfl ⟨_, by rw [HX.out], ho7, hb6⟩
end Go.Proofs.Ytpedkcpkdacnlaa
