/- The contract of queue.Do, case by case. -/
import Derived.Test.YtpedkcpkdacnlaaClone
import Derived.Deep.RegionHeld3
import Derived.Deep.RegionWith
import Derived.Deep.AppendLies
namespace Go.Proofs.Ytpedkcpkdacnlaa
open Go.RowKit
theorem infoInt : (Try.prog.info? 3).map (fun i => (i.zero, i.size, i.bytes)) = some (some (.int .i64 0), 1, 8) := by kernel_rfl

set_option maxRecDepth 20000 in
set_option maxHeartbeats 1000000 in
theorem queue_put (w : World) (v : Value) (xs : List Int) (key x : Int) (h : Sl w v xs) (hx : xs.length < 6) :
    Calls Try.prog 32 #[v, .agg #[.int .i64 1, .int .i64 key, .int .i64 x]] w fun e w' =>
      ∃ v', e = .returned (.tuple #[v', .agg #[.int .i64 1, .int .i64 0]]) ∧ Own w' w.heap.size v' (xs ++ [x]) ∧ Below w.heap.size w w' := by
  obtain ⟨i0, hi0, hz0, hz1, hz2⟩ := info_parts infoInt
  obtain ⟨a, cap, rfl⟩ := h.slice
  have HS := Lib.hid h
  clear h
  go_enter Try.func32, Try.ntmps32
  go_wp2_with fail
  have B0 : Below w.heap.size w ((w.alloc (Obj.cells #[.int .i64 1, .int .i64 key, .int .i64 x] 30)).alloc (Obj.cells #[.int .i64 0, .int .i64 0] 26)) := balloc (balloc (Below.refl _ w) _) _
  have z0 : ((w.alloc (Obj.cells #[.int .i64 1, .int .i64 key, .int .i64 x] 30)).alloc (Obj.cells #[.int .i64 0, .int .i64 0] 26)).heap.size = w.heap.size + 2 := by simp
  have c2 : ((w.alloc (Obj.cells #[.int .i64 1, .int .i64 key, .int .i64 x] 30)).alloc (Obj.cells #[.int .i64 0, .int .i64 0] 26)).cell? ⟨w.heap.size, 2, none⟩ = some (.int .i64 x) := by go_simp
  have cA : Blk ((w.alloc (Obj.cells #[.int .i64 1, .int .i64 key, .int .i64 x] 30)).alloc (Obj.cells #[.int .i64 0, .int .i64 0] 26)) (w.heap.size + 1) [.int .i64 0, .int .i64 0] 26 := by
    have := Blk.new (w.alloc (Obj.cells #[.int .i64 1, .int .i64 key, .int .i64 x] 30)) [.int .i64 0, .int .i64 0] 26
    simpa using this
  have hS0 := HS.out.below B0
  generalize ((w.alloc (Obj.cells #[.int .i64 1, .int .i64 key, .int .i64 x] 30)).alloc (Obj.cells #[.int .i64 0, .int .i64 0] 26)) = w0 at *
  have HS0 := Lib.hid hS0; have HA := Lib.hid cA; have HZ := Lib.hid z0
  clear hS0 cA HS z0
  have zz : w.heap.size < w0.heap.size := by have := HZ.out; omega
  have zz1 : w.heap.size + 1 < w0.heap.size := by have := HZ.out; omega
  go_region_held3 (fun w' => w'.cell? ⟨w.heap.size, 2, none⟩ = some (.int .i64 x))
    (first | exact k3 | exact k4 | go_keep)
    (first
      | (go_at_call 25; have bw : Below w0.heap.size w0 w0.drew := (Below.refl _ _).drew; refine (clone_any _ _ xs (HS0.out.below bw) (by omega)).mono ?_; rintro e w3 ⟨v3, rfl, ho', hb3⟩; have hb03 : Below w0.heap.size w0 w3 := bcall bw hb3; have ho : Own w3 w0.heap.size v3 xs := ho'.mono bw.size; have k3 : w3.cell? ⟨w.heap.size, 2, none⟩ = some (.int .i64 x) := (hb03.cell (p := ⟨w.heap.size, 2, none⟩) zz).trans c2)
      | (go_at_call 25; have bw : Below w0.heap.size w0 (w0.alloc (Obj.cells #[.int .i64 x] 3)).drew := ((Below.refl _ _).alloc (Nat.le_refl _) _).drew; refine (clone_any _ _ xs (HS0.out.below bw) (by omega)).mono ?_; rintro e w3 ⟨v3, rfl, ho', hb3⟩; have hb03 : Below w0.heap.size w0 w3 := bcall bw hb3; have ho : Own w3 w0.heap.size v3 xs := ho'.mono bw.size; have hN : w3.heap[w0.heap.size]? = some (.cells #[.int .i64 x] 3 (0, 0)) := (hb3.block w0.heap.size (by simp)).trans (heap_alloc_new w0 _); have k3 : w3.cell? ⟨w.heap.size, 2, none⟩ = some (.int .i64 x) := (hb03.cell (p := ⟨w.heap.size, 2, none⟩) zz).trans c2)
      | (refine step_append_lies _ (by rfl) _ _ _ (by rfl) w0.heap.size 3 i0 _ 1 8 Try.underlying22 hi0 hz0 hz1 hz2 rfl (by omega) _ _ _ (by rfl) (World.ownsRow.alloc ho _) ⟨w3.heap.size, 0, none⟩ 1 1 [.int .i64 x] (by rfl) (by rfl) (World.news_of_block (cs := #[.int .i64 x]) (t := 3) (fr := (0, 0)) (heap_alloc_new w3 _)) (by simp [Value.oneCell']) (by omega) (by unfold maxLen; omega) (by omega) (by have := hb03.size; simp; omega) (w3.heap.size + 1) (by simp) ?_; intro gg cap4 w4 hown4 hgrow4 hat4 hlt4; have hb4 := (Below.refl w0.heap.size _).grown hgrow4 (by have := hb03.size; simp; omega) (fun k hk => ho.block hk); have hb04 := (hb03.alloc hb03.size (.cells #[.int .i64 x] 3)).trans hb4; have k4 : w4.cell? ⟨w.heap.size, 2, none⟩ = some (.int .i64 x) := (hb04.cell (p := ⟨w.heap.size, 2, none⟩) zz).trans c2; have HA4 := Lib.hid (HA.out.belowB hb04 zz1); have cA0 : w4.cell? ⟨w.heap.size + 1, 0, none⟩ = some (.int .i64 0) := HA4.out.cell 0; have cA1 : w4.cell? ⟨w.heap.size + 1, 1, none⟩ = some (.int .i64 0) := HA4.out.cell 1; have fA0 := HA4.out.frozen 0; have fA1 := HA4.out.frozen 1)
      | (refine step_append_lies _ (by rfl) _ _ _ (by rfl) w0.heap.size 3 i0 _ 1 8 Try.underlying22 hi0 hz0 hz1 hz2 rfl (by omega) _ _ _ (by rfl) ho ⟨w0.heap.size, 0, none⟩ 1 1 [.int .i64 x] (by rfl) (by rfl) (World.news_of_block (cs := #[.int .i64 x]) (t := 3) (fr := (0, 0)) hN) (by simp [Value.oneCell']) (by omega) (by unfold maxLen; omega) (by omega) hb03.size w3.heap.size (by rfl) ?_; intro gg cap4 w4 hown4 hgrow4 hat4 hlt4; have hb4 := (Below.refl w0.heap.size _).grown hgrow4 hb03.size (fun k hk => ho.block hk); have hb04 := hb03.trans hb4; have k4 : w4.cell? ⟨w.heap.size, 2, none⟩ = some (.int .i64 x) := (hb04.cell (p := ⟨w.heap.size, 2, none⟩) zz).trans c2; have HA4 := Lib.hid (HA.out.belowB hb04 zz1); have cA0 : w4.cell? ⟨w.heap.size + 1, 0, none⟩ = some (.int .i64 0) := HA4.out.cell 0; have cA1 : w4.cell? ⟨w.heap.size + 1, 1, none⟩ = some (.int .i64 0) := HA4.out.cell 1; have fA0 := HA4.out.frozen 0; have fA1 := HA4.out.frozen 1))
  all_goals
    have ho5 : Own w4 w0.heap.size (.slice (some ⟨gg, 0, none⟩) (xs.length + 1) cap4) (xs ++ [x]) := by
      unfold Own; rw [List.length_append, List.map_append]; exact hown4
    have ho6 := ((ho5.store (p := ⟨w.heap.size + 1, 0, none⟩) zz1 (.int .i64 1)).store (p := ⟨w.heap.size + 1, 1, none⟩) zz1 (.int .i64 0)).mono B0.size
    have hb6 := bstore (bstore (B0.trans (hb04.mono B0.size)) (p := ⟨w.heap.size + 1, 0, none⟩) (Nat.le_succ _) (.int .i64 1)) (p := ⟨w.heap.size + 1, 1, none⟩) (Nat.le_succ _) (.int .i64 0)
    have HA6 := HA4.out.pair (u := .int .i64 1) (v := .int .i64 0)
    generalize (w4.setCell ⟨w.heap.size + 1, 0, none⟩ (.int .i64 1)).setCell ⟨w.heap.size + 1, 1, none⟩ (.int .i64 0) = w6 at *
    have d0 : w6.cell? ⟨w.heap.size + 1, 0, none⟩ = some (.int .i64 1) := HA6.cell 0
    have d1 : w6.cell? ⟨w.heap.size + 1, 1, none⟩ = some (.int .i64 0) := HA6.cell 1
    clear cA0 cA1 fA0 fA1 HA6
    go_wp2_with fail
    exact bodyPost_ret (v := .tuple #[.slice (some ⟨gg, 0, none⟩) (xs.length + 1) cap4, .agg #[.int .i64 1, .int .i64 0]]) (by simp [results, Try.results32, go_sem, d0, d1]) rfl ⟨_, rfl, ho6, hb6⟩
set_option maxRecDepth 20000 in
set_option maxHeartbeats 1000000 in
theorem queue_put_full (w : World) (v : Value) (xs : List Int) (key x : Int) (h : Sl w v xs) (hx : 6 ≤ xs.length) (hx2 : xs.length ≤ 1000) :
    Calls Try.prog 32 #[v, .agg #[.int .i64 1, .int .i64 key, .int .i64 x]] w fun e w' =>
      ∃ v', e = .returned (.tuple #[v', .agg #[.int .i64 3, .int .i64 0]]) ∧ Own w' w.heap.size v' (xs) ∧ Below w.heap.size w w' := by
  obtain ⟨a, cap, rfl⟩ := h.slice
  have HS := Lib.hid h
  clear h
  go_enter Try.func32, Try.ntmps32
  go_wp2_with fail
  have B0 : Below w.heap.size w ((w.alloc (Obj.cells #[.int .i64 1, .int .i64 key, .int .i64 x] 30)).alloc (Obj.cells #[.int .i64 0, .int .i64 0] 26)) := balloc (balloc (Below.refl _ w) _) _
  have z0 : ((w.alloc (Obj.cells #[.int .i64 1, .int .i64 key, .int .i64 x] 30)).alloc (Obj.cells #[.int .i64 0, .int .i64 0] 26)).heap.size = w.heap.size + 2 := by simp
  have c0 : ((w.alloc (Obj.cells #[.int .i64 1, .int .i64 key, .int .i64 x] 30)).alloc (Obj.cells #[.int .i64 0, .int .i64 0] 26)).cell? ⟨w.heap.size, 0, none⟩ = some (.int .i64 1) := by go_simp
  have cA : Blk ((w.alloc (Obj.cells #[.int .i64 1, .int .i64 key, .int .i64 x] 30)).alloc (Obj.cells #[.int .i64 0, .int .i64 0] 26)) (w.heap.size + 1) [.int .i64 0, .int .i64 0] 26 := by
    have := Blk.new (w.alloc (Obj.cells #[.int .i64 1, .int .i64 key, .int .i64 x] 30)) [.int .i64 0, .int .i64 0] 26
    simpa using this
  have hS0 := HS.out.below B0
  generalize ((w.alloc (Obj.cells #[.int .i64 1, .int .i64 key, .int .i64 x] 30)).alloc (Obj.cells #[.int .i64 0, .int .i64 0] 26)) = w0 at *
  have HS0 := Lib.hid hS0; have HA := Lib.hid cA; have HZ := Lib.hid z0
  clear hS0 cA HS z0
  have zz : w.heap.size < w0.heap.size := by have := HZ.out; omega
  have zz1 : w.heap.size + 1 < w0.heap.size := by have := HZ.out; omega
  refine (clone_any _ _ xs HS0.out (by omega)).mono ?_
  rintro e w3 ⟨v3, rfl, ho', hb3⟩
  have ho : Own w3 w0.heap.size v3 xs := ho'
  have hb03 : Below w0.heap.size w0 w3 := hb3
  have HA3 := HA.out.belowB hb03 zz1
  have cA0 : w3.cell? ⟨w.heap.size + 1, 0, none⟩ = some (.int .i64 0) := HA3.cell 0
  have cA1 : w3.cell? ⟨w.heap.size + 1, 1, none⟩ = some (.int .i64 0) := HA3.cell 1
  have fA0 := HA3.frozen 0
  have fA1 := HA3.frozen 1
  go_wp2_with fail
  have ho6 := ((ho.store (p := ⟨w.heap.size + 1, 0, none⟩) zz1 (.int .i64 3)).store (p := ⟨w.heap.size + 1, 1, none⟩) zz1 (.int .i64 0)).mono B0.size
  have hb6 := bstore (bstore (B0.trans (hb03.mono B0.size)) (p := ⟨w.heap.size + 1, 0, none⟩) (Nat.le_succ _) (.int .i64 3)) (p := ⟨w.heap.size + 1, 1, none⟩) (Nat.le_succ _) (.int .i64 0)
  have HA6 := HA3.pair (u := .int .i64 3) (v := .int .i64 0)
  generalize (w3.setCell ⟨w.heap.size + 1, 0, none⟩ (.int .i64 3)).setCell ⟨w.heap.size + 1, 1, none⟩ (.int .i64 0) = w6 at *
  have d0 : w6.cell? ⟨w.heap.size + 1, 0, none⟩ = some (.int .i64 3) := HA6.cell 0
  have d1 : w6.cell? ⟨w.heap.size + 1, 1, none⟩ = some (.int .i64 0) := HA6.cell 1
  clear cA0 cA1 fA0 fA1 HA6 HA3
  go_wp2_with fail
  exact bodyPost_ret (v := .tuple #[v3, .agg #[.int .i64 3, .int .i64 0]]) (by simp [results, Try.results32, go_sem, d0, d1]) rfl ⟨_, rfl, ho6, hb6⟩
set_option maxRecDepth 20000 in
set_option maxHeartbeats 1000000 in
theorem queue_count (w : World) (v : Value) (xs : List Int) (key x : Int) (h : Sl w v xs) (hx2 : xs.length ≤ 1000) :
    Calls Try.prog 32 #[v, .agg #[.int .i64 6, .int .i64 key, .int .i64 x]] w fun e w' =>
      ∃ v', e = .returned (.tuple #[v', .agg #[.int .i64 1, .int .i64 xs.length]]) ∧ Own w' w.heap.size v' (xs) ∧ Below w.heap.size w w' := by
  obtain ⟨a, cap, rfl⟩ := h.slice
  have HS := Lib.hid h
  clear h
  go_enter Try.func32, Try.ntmps32
  go_wp2_with fail
  have B0 : Below w.heap.size w ((w.alloc (Obj.cells #[.int .i64 6, .int .i64 key, .int .i64 x] 30)).alloc (Obj.cells #[.int .i64 0, .int .i64 0] 26)) := balloc (balloc (Below.refl _ w) _) _
  have z0 : ((w.alloc (Obj.cells #[.int .i64 6, .int .i64 key, .int .i64 x] 30)).alloc (Obj.cells #[.int .i64 0, .int .i64 0] 26)).heap.size = w.heap.size + 2 := by simp
  have c0 : ((w.alloc (Obj.cells #[.int .i64 6, .int .i64 key, .int .i64 x] 30)).alloc (Obj.cells #[.int .i64 0, .int .i64 0] 26)).cell? ⟨w.heap.size, 0, none⟩ = some (.int .i64 6) := by go_simp
  have cA : Blk ((w.alloc (Obj.cells #[.int .i64 6, .int .i64 key, .int .i64 x] 30)).alloc (Obj.cells #[.int .i64 0, .int .i64 0] 26)) (w.heap.size + 1) [.int .i64 0, .int .i64 0] 26 := by
    have := Blk.new (w.alloc (Obj.cells #[.int .i64 6, .int .i64 key, .int .i64 x] 30)) [.int .i64 0, .int .i64 0] 26
    simpa using this
  have hS0 := HS.out.below B0
  generalize ((w.alloc (Obj.cells #[.int .i64 6, .int .i64 key, .int .i64 x] 30)).alloc (Obj.cells #[.int .i64 0, .int .i64 0] 26)) = w0 at *
  have HS0 := Lib.hid hS0; have HA := Lib.hid cA; have HZ := Lib.hid z0
  clear hS0 cA HS z0
  have zz : w.heap.size < w0.heap.size := by have := HZ.out; omega
  have zz1 : w.heap.size + 1 < w0.heap.size := by have := HZ.out; omega
  refine (clone_any _ _ xs HS0.out (by omega)).mono ?_
  rintro e w3 ⟨v3, rfl, ho', hb3⟩
  have ho : Own w3 w0.heap.size v3 xs := ho'
  have hb03 : Below w0.heap.size w0 w3 := hb3
  have HA3 := HA.out.belowB hb03 zz1
  have cA0 : w3.cell? ⟨w.heap.size + 1, 0, none⟩ = some (.int .i64 0) := HA3.cell 0
  have cA1 : w3.cell? ⟨w.heap.size + 1, 1, none⟩ = some (.int .i64 0) := HA3.cell 1
  have fA0 := HA3.frozen 0
  have fA1 := HA3.frozen 1
  go_wp2_with fail
  have ho6 := ((ho.store (p := ⟨w.heap.size + 1, 0, none⟩) zz1 (.int .i64 1)).store (p := ⟨w.heap.size + 1, 1, none⟩) zz1 (.int .i64 xs.length)).mono B0.size
  have hb6 := bstore (bstore (B0.trans (hb03.mono B0.size)) (p := ⟨w.heap.size + 1, 0, none⟩) (Nat.le_succ _) (.int .i64 1)) (p := ⟨w.heap.size + 1, 1, none⟩) (Nat.le_succ _) (.int .i64 xs.length)
  have HA6 := HA3.pair (u := .int .i64 1) (v := .int .i64 xs.length)
  generalize (w3.setCell ⟨w.heap.size + 1, 0, none⟩ (.int .i64 1)).setCell ⟨w.heap.size + 1, 1, none⟩ (.int .i64 xs.length) = w6 at *
  have d0 : w6.cell? ⟨w.heap.size + 1, 0, none⟩ = some (.int .i64 1) := HA6.cell 0
  have d1 : w6.cell? ⟨w.heap.size + 1, 1, none⟩ = some (.int .i64 xs.length) := HA6.cell 1
  clear cA0 cA1 fA0 fA1 HA6 HA3
  go_wp2_with fail
  exact bodyPost_ret (v := .tuple #[v3, .agg #[.int .i64 1, .int .i64 xs.length]]) (by simp [results, Try.results32, go_sem, d0, d1]) rfl ⟨_, rfl, ho6, hb6⟩
set_option maxRecDepth 20000 in
set_option maxHeartbeats 1000000 in
theorem queue_wrong (w : World) (v : Value) (xs : List Int) (k key x : Int) (h : Sl w v xs) (k1 : k ≠ 1) (k2 : k ≠ 2) (k5 : k ≠ 5) (k6 : k ≠ 6) (hx2 : xs.length ≤ 1000) :
    Calls Try.prog 32 #[v, .agg #[.int .i64 k, .int .i64 key, .int .i64 x]] w fun e w' =>
      ∃ v', e = .returned (.tuple #[v', .agg #[.int .i64 5, .int .i64 0]]) ∧ Own w' w.heap.size v' (xs) ∧ Below w.heap.size w w' := by
  obtain ⟨a, cap, rfl⟩ := h.slice
  have q1 : (k == 1) = false := by simpa using k1
  have q2 : (k == 2) = false := by simpa using k2
  have q5 : (k == 5) = false := by simpa using k5
  have q6 : (k == 6) = false := by simpa using k6
  clear k1 k2 k5 k6
  have HS := Lib.hid h
  clear h
  go_enter Try.func32, Try.ntmps32
  go_wp2_with fail
  have B0 : Below w.heap.size w ((w.alloc (Obj.cells #[.int .i64 k, .int .i64 key, .int .i64 x] 30)).alloc (Obj.cells #[.int .i64 0, .int .i64 0] 26)) := balloc (balloc (Below.refl _ w) _) _
  have z0 : ((w.alloc (Obj.cells #[.int .i64 k, .int .i64 key, .int .i64 x] 30)).alloc (Obj.cells #[.int .i64 0, .int .i64 0] 26)).heap.size = w.heap.size + 2 := by simp
  have c0 : ((w.alloc (Obj.cells #[.int .i64 k, .int .i64 key, .int .i64 x] 30)).alloc (Obj.cells #[.int .i64 0, .int .i64 0] 26)).cell? ⟨w.heap.size, 0, none⟩ = some (.int .i64 k) := by go_simp
  have cA : Blk ((w.alloc (Obj.cells #[.int .i64 k, .int .i64 key, .int .i64 x] 30)).alloc (Obj.cells #[.int .i64 0, .int .i64 0] 26)) (w.heap.size + 1) [.int .i64 0, .int .i64 0] 26 := by
    have := Blk.new (w.alloc (Obj.cells #[.int .i64 k, .int .i64 key, .int .i64 x] 30)) [.int .i64 0, .int .i64 0] 26
    simpa using this
  have hS0 := HS.out.below B0
  generalize ((w.alloc (Obj.cells #[.int .i64 k, .int .i64 key, .int .i64 x] 30)).alloc (Obj.cells #[.int .i64 0, .int .i64 0] 26)) = w0 at *
  have HS0 := Lib.hid hS0; have HA := Lib.hid cA; have HZ := Lib.hid z0
  clear hS0 cA HS z0
  have zz : w.heap.size < w0.heap.size := by have := HZ.out; omega
  have zz1 : w.heap.size + 1 < w0.heap.size := by have := HZ.out; omega
  refine (clone_any _ _ xs HS0.out (by omega)).mono ?_
  rintro e w3 ⟨v3, rfl, ho', hb3⟩
  have ho : Own w3 w0.heap.size v3 xs := ho'
  have hb03 : Below w0.heap.size w0 w3 := hb3
  have HA3 := HA.out.belowB hb03 zz1
  have cA0 : w3.cell? ⟨w.heap.size + 1, 0, none⟩ = some (.int .i64 0) := HA3.cell 0
  have cA1 : w3.cell? ⟨w.heap.size + 1, 1, none⟩ = some (.int .i64 0) := HA3.cell 1
  have fA0 := HA3.frozen 0
  have fA1 := HA3.frozen 1
  go_wp2_with fail
  have ho6 := ((ho.store (p := ⟨w.heap.size + 1, 0, none⟩) zz1 (.int .i64 5)).store (p := ⟨w.heap.size + 1, 1, none⟩) zz1 (.int .i64 0)).mono B0.size
  have hb6 := bstore (bstore (B0.trans (hb03.mono B0.size)) (p := ⟨w.heap.size + 1, 0, none⟩) (Nat.le_succ _) (.int .i64 5)) (p := ⟨w.heap.size + 1, 1, none⟩) (Nat.le_succ _) (.int .i64 0)
  have HA6 := HA3.pair (u := .int .i64 5) (v := .int .i64 0)
  generalize (w3.setCell ⟨w.heap.size + 1, 0, none⟩ (.int .i64 5)).setCell ⟨w.heap.size + 1, 1, none⟩ (.int .i64 0) = w6 at *
  have d0 : w6.cell? ⟨w.heap.size + 1, 0, none⟩ = some (.int .i64 5) := HA6.cell 0
  have d1 : w6.cell? ⟨w.heap.size + 1, 1, none⟩ = some (.int .i64 0) := HA6.cell 1
  clear cA0 cA1 fA0 fA1 HA6 HA3
  go_wp2_with fail
  exact bodyPost_ret (v := .tuple #[v3, .agg #[.int .i64 5, .int .i64 0]]) (by simp [results, Try.results32, go_sem, d0, d1]) rfl ⟨_, rfl, ho6, hb6⟩
set_option maxRecDepth 20000 in
set_option maxHeartbeats 1000000 in
theorem queue_take_nil (w : World) (v : Value) (xs : List Int) (key x : Int) (h : Sl w v xs) (hx : xs = []) :
    Calls Try.prog 32 #[v, .agg #[.int .i64 2, .int .i64 key, .int .i64 x]] w fun e w' =>
      ∃ v', e = .returned (.tuple #[v', .agg #[.int .i64 2, .int .i64 0]]) ∧ Own w' w.heap.size v' ([]) ∧ Below w.heap.size w w' := by
  obtain ⟨a, cap, rfl⟩ := h.slice
  have hl : xs.length = 0 := by rw [hx]; rfl
  clear hx
  have HS := Lib.hid h
  clear h
  have hl0 : ((xs.length : Int) == 0) = true := by simp [hl]
  clear hl
  go_enter Try.func32, Try.ntmps32
  go_wp2_with fail
  exact bodyPost_ret (v := .tuple #[.slice none 0 0, .agg #[.int .i64 2, .int .i64 0]]) (by simp [results, Try.results32, go_sem]) rfl ⟨_, rfl, Own.nil _ _, balloc (balloc (Below.refl _ w) _) _⟩
set_option maxRecDepth 20000 in
set_option maxHeartbeats 1000000 in
theorem queue_peek_nil (w : World) (v : Value) (xs : List Int) (key x : Int) (h : Sl w v xs) (hx : xs = []) :
    Calls Try.prog 32 #[v, .agg #[.int .i64 5, .int .i64 key, .int .i64 x]] w fun e w' =>
      ∃ v', e = .returned (.tuple #[v', .agg #[.int .i64 2, .int .i64 0]]) ∧ Own w' w.heap.size v' ([]) ∧ Below w.heap.size w w' := by
  obtain ⟨a, cap, rfl⟩ := h.slice
  have hl : xs.length = 0 := by rw [hx]; rfl
  clear hx
  have HS := Lib.hid h
  clear h
  have hl0 : ((xs.length : Int) == 0) = true := by simp [hl]
  clear hl
  go_enter Try.func32, Try.ntmps32
  go_wp2_with fail
  exact bodyPost_ret (v := .tuple #[.slice none 0 0, .agg #[.int .i64 2, .int .i64 0]]) (by simp [results, Try.results32, go_sem]) rfl ⟨_, rfl, Own.nil _ _, balloc (balloc (Below.refl _ w) _) _⟩
set_option maxRecDepth 20000 in
set_option maxHeartbeats 1000000 in
theorem queue_peek (w : World) (v : Value) (xs : List Int) (key x : Int) (h : Sl w v xs) (hx : 0 < xs.length) (hx2 : xs.length ≤ 1000) :
    Calls Try.prog 32 #[v, .agg #[.int .i64 5, .int .i64 key, .int .i64 x]] w fun e w' =>
      ∃ v', e = .returned (.tuple #[v', .agg #[.int .i64 1, .int .i64 (xs.getD 0 0)]]) ∧ Own w' w.heap.size v' (xs) ∧ Below w.heap.size w w' := by
  obtain ⟨a, cap, rfl⟩ := h.slice
  have hcap : xs.length ≤ cap ∧ cap ≤ 9223372036854775807 := by obtain ⟨_, _, he, h1, h2, -⟩ := h; simp at he; omega
  obtain ⟨hcap1, hcap2⟩ := hcap
  obtain ⟨b, off, rfl, hb, hc⟩ : ∃ b off, a = some ⟨b, off, none⟩ ∧ b < w.heap.size ∧ w.cell? ⟨b, off, none⟩ = some (.int .i64 (xs.getD 0 0)) := by
    obtain ⟨a', cap', he, h1, h2, h3⟩ := h
    simp at he
    obtain ⟨rfl, rfl⟩ := he
    rcases h3 with h3 | ⟨b, off, rfl, hb, hc⟩
    · omega
    · exact ⟨b, off, rfl, hb, hc 0 hx⟩
  have HS := Lib.hid h
  clear h
  have hl0 : ((xs.length : Int) == 0) = false := beq_eq_false_iff_ne.2 (by omega)
  go_enter Try.func32, Try.ntmps32
  go_wp2_with fail
  have B0 : Below w.heap.size w ((w.alloc (Obj.cells #[.int .i64 5, .int .i64 key, .int .i64 x] 30)).alloc (Obj.cells #[.int .i64 0, .int .i64 0] 26)) := balloc (balloc (Below.refl _ w) _) _
  have z0 : ((w.alloc (Obj.cells #[.int .i64 5, .int .i64 key, .int .i64 x] 30)).alloc (Obj.cells #[.int .i64 0, .int .i64 0] 26)).heap.size = w.heap.size + 2 := by simp
  have c0 : ((w.alloc (Obj.cells #[.int .i64 5, .int .i64 key, .int .i64 x] 30)).alloc (Obj.cells #[.int .i64 0, .int .i64 0] 26)).cell? ⟨w.heap.size, 0, none⟩ = some (.int .i64 5) := by go_simp
  have cA : Blk ((w.alloc (Obj.cells #[.int .i64 5, .int .i64 key, .int .i64 x] 30)).alloc (Obj.cells #[.int .i64 0, .int .i64 0] 26)) (w.heap.size + 1) [.int .i64 0, .int .i64 0] 26 := by
    have := Blk.new (w.alloc (Obj.cells #[.int .i64 5, .int .i64 key, .int .i64 x] 30)) [.int .i64 0, .int .i64 0] 26
    simpa using this
  have hS0 := HS.out.below B0
  have cx := (B0.cell (p := ⟨b, off, none⟩) hb).trans hc
  generalize ((w.alloc (Obj.cells #[.int .i64 5, .int .i64 key, .int .i64 x] 30)).alloc (Obj.cells #[.int .i64 0, .int .i64 0] 26)) = w0 at *
  have HS0 := Lib.hid hS0; have HA := Lib.hid cA; have HZ := Lib.hid z0
  clear hS0 cA HS z0
  have zz : w.heap.size < w0.heap.size := by have := HZ.out; omega
  have zz1 : w.heap.size + 1 < w0.heap.size := by have := HZ.out; omega
  clear hc
  have hbn : b ≠ w.heap.size + 1 := by omega
  generalize hx0 : xs.getD 0 0 = x0 at *
  have HX := Lib.hid hx0
  clear hx0
  go_region_held3 (fun w' => w'.cell? ⟨b, off, none⟩ = some (.int .i64 x0))
    (first | exact k3 | exact k6 _ _ | go_keep)
    (first
      | (go_at_call 25; have bw : Below w0.heap.size w0 w0.drew := (Below.refl _ _).drew; refine (clone_any _ _ xs (HS0.out.below bw) hx2).mono ?_; rintro e w3 ⟨v3, rfl, ho, hb3⟩; have hb03 : Below w0.heap.size w0 w3 := bcall bw hb3; have k3 : w3.cell? ⟨b, off, none⟩ = some (.int .i64 x0) := (hb03.cell (p := ⟨b, off, none⟩) (block_lt' cx)).trans cx; have k6 : ∀ y z, ((w3.setCell ⟨w.heap.size + 1, 0, none⟩ y).setCell ⟨w.heap.size + 1, 1, none⟩ z).cell? ⟨b, off, none⟩ = some (.int .i64 x0) := (fun y z => (cell_setCell_ne _ hbn _).trans ((cell_setCell_ne _ hbn _).trans k3)); have HA3 := HA.out.belowB hb03 zz1; have cA0 : w3.cell? ⟨w.heap.size + 1, 0, none⟩ = some (.int .i64 0) := HA3.cell 0; have cA1 : w3.cell? ⟨w.heap.size + 1, 1, none⟩ = some (.int .i64 0) := HA3.cell 1; have fA0 := HA3.frozen 0; have fA1 := HA3.frozen 1))
  all_goals
    clear k6
    have ho6 := ((ho.store (p := ⟨w.heap.size + 1, 0, none⟩) zz1 (.int .i64 1)).store (p := ⟨w.heap.size + 1, 1, none⟩) zz1 (.int .i64 x0)).mono B0.size
    have hb6 := bstore (bstore (B0.trans (hb03.mono B0.size)) (p := ⟨w.heap.size + 1, 0, none⟩) (Nat.le_succ _) (.int .i64 1)) (p := ⟨w.heap.size + 1, 1, none⟩) (Nat.le_succ _) (.int .i64 x0)
    have HA6 := HA3.pair (u := .int .i64 1) (v := .int .i64 x0)
    generalize (w3.setCell ⟨w.heap.size + 1, 0, none⟩ (.int .i64 1)).setCell ⟨w.heap.size + 1, 1, none⟩ (.int .i64 x0) = w6 at *
    have d0 : w6.cell? ⟨w.heap.size + 1, 0, none⟩ = some (.int .i64 1) := HA6.cell 0
    have d1 : w6.cell? ⟨w.heap.size + 1, 1, none⟩ = some (.int .i64 x0) := HA6.cell 1
    clear cA0 cA1 fA0 fA1 HA6 HA3
    go_wp2_with fail
    exact bodyPost_ret (v := .tuple #[v3, .agg #[.int .i64 1, .int .i64 x0]]) (by simp [results, Try.results32, go_sem, d0, d1]) rfl ⟨v3, by rw [HX.out], ho6, hb6⟩
set_option maxRecDepth 20000 in
set_option maxHeartbeats 1000000 in
theorem queue_take (w : World) (v : Value) (xs : List Int) (key x : Int) (h : Sl w v xs) (hx : 0 < xs.length) (hx2 : xs.length ≤ 1000) :
    Calls Try.prog 32 #[v, .agg #[.int .i64 2, .int .i64 key, .int .i64 x]] w fun e w' =>
      ∃ v', e = .returned (.tuple #[v', .agg #[.int .i64 1, .int .i64 (xs.getD 0 0)]]) ∧ Own w' w.heap.size v' (xs.tail) ∧ Below w.heap.size w w' := by
  obtain ⟨a, cap, rfl⟩ := h.slice
  have hcap : xs.length ≤ cap ∧ cap ≤ 9223372036854775807 := by obtain ⟨_, _, he, h1, h2, -⟩ := h; simp at he; omega
  obtain ⟨hcap1, hcap2⟩ := hcap
  obtain ⟨b, off, rfl, hb, hc⟩ : ∃ b off, a = some ⟨b, off, none⟩ ∧ b < w.heap.size ∧ w.cell? ⟨b, off, none⟩ = some (.int .i64 (xs.getD 0 0)) := by
    obtain ⟨a', cap', he, h1, h2, h3⟩ := h
    simp at he
    obtain ⟨rfl, rfl⟩ := he
    rcases h3 with h3 | ⟨b, off, rfl, hb, hc⟩
    · omega
    · exact ⟨b, off, rfl, hb, hc 0 hx⟩
  have HS := Lib.hid h
  clear h
  have hl0 : ((xs.length : Int) == 0) = false := beq_eq_false_iff_ne.2 (by omega)
  have hl1 : (1 : Int) ≤ xs.length := by omega
  go_enter Try.func32, Try.ntmps32
  go_wp2_with fail
  have B0 : Below w.heap.size w ((w.alloc (Obj.cells #[.int .i64 2, .int .i64 key, .int .i64 x] 30)).alloc (Obj.cells #[.int .i64 0, .int .i64 0] 26)) := balloc (balloc (Below.refl _ w) _) _
  have z0 : ((w.alloc (Obj.cells #[.int .i64 2, .int .i64 key, .int .i64 x] 30)).alloc (Obj.cells #[.int .i64 0, .int .i64 0] 26)).heap.size = w.heap.size + 2 := by simp
  have c0 : ((w.alloc (Obj.cells #[.int .i64 2, .int .i64 key, .int .i64 x] 30)).alloc (Obj.cells #[.int .i64 0, .int .i64 0] 26)).cell? ⟨w.heap.size, 0, none⟩ = some (.int .i64 2) := by go_simp
  have cA : Blk ((w.alloc (Obj.cells #[.int .i64 2, .int .i64 key, .int .i64 x] 30)).alloc (Obj.cells #[.int .i64 0, .int .i64 0] 26)) (w.heap.size + 1) [.int .i64 0, .int .i64 0] 26 := by
    have := Blk.new (w.alloc (Obj.cells #[.int .i64 2, .int .i64 key, .int .i64 x] 30)) [.int .i64 0, .int .i64 0] 26
    simpa using this
  have hS0 := HS.out.below B0
  have cx := (B0.cell (p := ⟨b, off, none⟩) hb).trans hc
  generalize ((w.alloc (Obj.cells #[.int .i64 2, .int .i64 key, .int .i64 x] 30)).alloc (Obj.cells #[.int .i64 0, .int .i64 0] 26)) = w0 at *
  have HS0 := Lib.hid hS0; have HA := Lib.hid cA; have HZ := Lib.hid z0
  clear hS0 cA HS z0
  have zz : w.heap.size < w0.heap.size := by have := HZ.out; omega
  have zz1 : w.heap.size + 1 < w0.heap.size := by have := HZ.out; omega
  have hT := HS0.out.tail hx
  generalize hp1 : (if cap = 1 then some (⟨b, off, none⟩ : Addr) else some ⟨b, off + 1, none⟩) = p1 at *
  have HT := Lib.hid hT
  clear hT
  clear hc
  have hbn : b ≠ w.heap.size + 1 := by omega
  generalize hx0 : xs.getD 0 0 = x0 at *
  have HX := Lib.hid hx0
  clear hx0
  go_region_held3 (fun w' => w'.cell? ⟨b, off, none⟩ = some (.int .i64 x0))
    (first | exact k3 | exact k6 _ _ | go_keep)
    (first
      | (go_at_call 25; have bw : Below w0.heap.size w0 w0.drew := (Below.refl _ _).drew; refine (clone_any _ _ xs.tail (HT.out.below bw) (by simp; omega)).mono ?_; rintro e w3 ⟨v3, rfl, ho, hb3⟩; have hb03 : Below w0.heap.size w0 w3 := bcall bw hb3; have k3 : w3.cell? ⟨b, off, none⟩ = some (.int .i64 x0) := (hb03.cell (p := ⟨b, off, none⟩) (block_lt' cx)).trans cx; have k6 : ∀ y z, ((w3.setCell ⟨w.heap.size + 1, 0, none⟩ y).setCell ⟨w.heap.size + 1, 1, none⟩ z).cell? ⟨b, off, none⟩ = some (.int .i64 x0) := (fun y z => (cell_setCell_ne _ hbn _).trans ((cell_setCell_ne _ hbn _).trans k3)); have HA3 := HA.out.belowB hb03 zz1; have cA0 : w3.cell? ⟨w.heap.size + 1, 0, none⟩ = some (.int .i64 0) := HA3.cell 0; have cA1 : w3.cell? ⟨w.heap.size + 1, 1, none⟩ = some (.int .i64 0) := HA3.cell 1; have fA0 := HA3.frozen 0; have fA1 := HA3.frozen 1))
  all_goals
    clear k6
    have ho6 := ((ho.store (p := ⟨w.heap.size + 1, 0, none⟩) zz1 (.int .i64 1)).store (p := ⟨w.heap.size + 1, 1, none⟩) zz1 (.int .i64 x0)).mono B0.size
    have hb6 := bstore (bstore (B0.trans (hb03.mono B0.size)) (p := ⟨w.heap.size + 1, 0, none⟩) (Nat.le_succ _) (.int .i64 1)) (p := ⟨w.heap.size + 1, 1, none⟩) (Nat.le_succ _) (.int .i64 x0)
    have HA6 := HA3.pair (u := .int .i64 1) (v := .int .i64 x0)
    generalize (w3.setCell ⟨w.heap.size + 1, 0, none⟩ (.int .i64 1)).setCell ⟨w.heap.size + 1, 1, none⟩ (.int .i64 x0) = w6 at *
    have d0 : w6.cell? ⟨w.heap.size + 1, 0, none⟩ = some (.int .i64 1) := HA6.cell 0
    have d1 : w6.cell? ⟨w.heap.size + 1, 1, none⟩ = some (.int .i64 x0) := HA6.cell 1
    clear cA0 cA1 fA0 fA1 HA6 HA3
    go_wp2_with fail
    exact bodyPost_ret (v := .tuple #[v3, .agg #[.int .i64 1, .int .i64 x0]]) (by simp [results, Try.results32, go_sem, d0, d1]) rfl ⟨v3, by rw [HX.out], ho6, hb6⟩
end Go.Proofs.Ytpedkcpkdacnlaa
