/- The facts dealt, queued and stacked of the law package. -/
import Derived.Test.YtpedkcpkdacnlaaLists
import Derived.Test.YtpedkcpkdacnlaaFew
import Derived.Test.YtpedkcpkdacnlaaPut
import Derived.Test.YtpedkcpkdacnlaaPick
import Derived.Deep.Cut
namespace Go.Proofs.Ytpedkcpkdacnlaa
open Go.RowKit
set_option linter.unusedVariables false
/-- A block of numbers as a slice. -/
theorem Blk.sl {w : World} {b : Nat} {xs : List Int} {t : TypeId} (h : Blk w b (xs.map (Value.int .i64)) t) (hx : xs.length ≤ 1000) : Sl w (.slice (some ⟨b, 0, none⟩) xs.length xs.length) xs :=
  ⟨_, _, rfl, Nat.le_refl _, by omega, .inr ⟨b, 0, rfl, h.lt, fun j hj => by rw [Nat.zero_add, h.cell, List.getElem?_map, List.getElem?_eq_getElem hj, List.getD_eq_getElem?_getD, List.getElem?_eq_getElem hj]; rfl⟩⟩
set_option maxRecDepth 20000 in
set_option maxHeartbeats 4000000 in
theorem dealt_any (w : World) :
    Calls Try.prog 22 #[] w fun e w' => e = .returned (.bool true) ∧ Below w.heap.size w w' := by
  go_enter Try.func22, Try.ntmps22
  have HB := Lib.hid (Below.refl w.heap.size w)
  go_wp2_with fail
  have hb1 := balloc (Below.refl _ w) (Obj.cells #[.int .i64 1, .int .i64 2] 3)
  have L12 := Lib.hid (Blk.new w [.int .i64 1, .int .i64 2] 3)
  change Hid (Blk (w.alloc (Obj.cells #[.int .i64 1, .int .i64 2] 3)) _ _ _) at L12
  have ZL12 : Hid ((w.alloc (Obj.cells #[.int .i64 1, .int .i64 2] 3)).heap.size = w.heap.size + 1) := World.size_alloc _ _
  replace HB := Lib.hid (bcall HB.out hb1)
  clear hb1
  generalize w.alloc (Obj.cells #[.int .i64 1, .int .i64 2] 3) = w1 at *
  refine (deque_eq _ _ [1, 2] 3 0 3 (Blk.sl (xs := [1, 2]) L12.out (by decide)) (by decide) (ys := [3, 1, 2]) (c := 1) (r := 0) rfl).mono ?_
  rintro e w2 ⟨v1, rfl, ho1, hb2⟩
  replace HB := Lib.hid (bcall HB.out hb2)
  replace L12 := Lib.hid (L12.out.below hb2)
  replace ho1 := Lib.hid ho1
  clear hb2
  go_wp2_with fail
  have hb3 := balloc (Below.refl _ w2) (Obj.cells #[.int .i64 1, .int .i64 0] 26)
  have A1 := Lib.hid (Blk.new w2 [.int .i64 1, .int .i64 0] 26)
  change Hid (Blk (w2.alloc (Obj.cells #[.int .i64 1, .int .i64 0] 26)) _ _ _) at A1
  have ZA1 : Hid ((w2.alloc (Obj.cells #[.int .i64 1, .int .i64 0] 26)).heap.size = w2.heap.size + 1) := World.size_alloc _ _
  replace HB := Lib.hid (bcall HB.out hb3)
  replace L12 := Lib.hid (L12.out.below hb3)
  replace ho1 := Lib.hid (ho1.out.below hb3)
  clear hb3
  generalize w2.alloc (Obj.cells #[.int .i64 1, .int .i64 0] 26) = w3 at *
  generalize w2.heap.size = bA1 at *
  have A1_c0 : w3.cell? ⟨bA1, 0, none⟩ = some (.int .i64 1) := A1.out.cell 0
  have A1_c1 : w3.cell? ⟨bA1, 1, none⟩ = some (.int .i64 0) := A1.out.cell 1
  have A1_z : bA1 < w3.heap.size := A1.out.lt
  go_wp2_with fail
  refine (deque_eq _ _ [3, 1, 2] 4 0 0 ho1.out.sl (by decide) (ys := [3, 1]) (c := 1) (r := 2) rfl).mono ?_
  rintro e w4 ⟨v2, rfl, ho2, hb4⟩
  clear A1_c0 A1_c1 A1_z
  replace HB := Lib.hid (bcall HB.out hb4)
  replace L12 := Lib.hid (L12.out.below hb4)
  replace ho1 := Lib.hid (ho1.out.below hb4)
  replace A1 := Lib.hid (A1.out.below hb4)
  replace ho2 := Lib.hid ho2
  clear hb4
  have A1_c0 : w4.cell? ⟨bA1, 0, none⟩ = some (.int .i64 1) := A1.out.cell 0
  have A1_c1 : w4.cell? ⟨bA1, 1, none⟩ = some (.int .i64 0) := A1.out.cell 1
  have A1_z : bA1 < w4.heap.size := A1.out.lt
  go_wp2_with fail
  have hb5 := balloc (Below.refl _ w4) (Obj.cells #[.int .i64 1, .int .i64 2] 26)
  have A2 := Lib.hid (Blk.new w4 [.int .i64 1, .int .i64 2] 26)
  change Hid (Blk (w4.alloc (Obj.cells #[.int .i64 1, .int .i64 2] 26)) _ _ _) at A2
  have ZA2 : Hid ((w4.alloc (Obj.cells #[.int .i64 1, .int .i64 2] 26)).heap.size = w4.heap.size + 1) := World.size_alloc _ _
  clear A1_c0 A1_c1 A1_z
  replace HB := Lib.hid (bcall HB.out hb5)
  replace L12 := Lib.hid (L12.out.below hb5)
  replace ho1 := Lib.hid (ho1.out.below hb5)
  replace A1 := Lib.hid (A1.out.below hb5)
  replace ho2 := Lib.hid (ho2.out.below hb5)
  clear hb5
  generalize w4.alloc (Obj.cells #[.int .i64 1, .int .i64 2] 26) = w5 at *
  generalize w4.heap.size = bA2 at *
  have A1_c0 : w5.cell? ⟨bA1, 0, none⟩ = some (.int .i64 1) := A1.out.cell 0
  have A1_c1 : w5.cell? ⟨bA1, 1, none⟩ = some (.int .i64 0) := A1.out.cell 1
  have A1_z : bA1 < w5.heap.size := A1.out.lt
  have A2_c0 : w5.cell? ⟨bA2, 0, none⟩ = some (.int .i64 1) := A2.out.cell 0
  have A2_c1 : w5.cell? ⟨bA2, 1, none⟩ = some (.int .i64 2) := A2.out.cell 1
  have A2_z : bA2 < w5.heap.size := A2.out.lt
  go_wp2_with fail
  have hb6 := balloc (Below.refl _ w5) (Obj.cells #[.int .i64 3, .int .i64 1, .int .i64 2] 3)
  have L3 := Lib.hid (Blk.new w5 [.int .i64 3, .int .i64 1, .int .i64 2] 3)
  change Hid (Blk (w5.alloc (Obj.cells #[.int .i64 3, .int .i64 1, .int .i64 2] 3)) _ _ _) at L3
  have ZL3 : Hid ((w5.alloc (Obj.cells #[.int .i64 3, .int .i64 1, .int .i64 2] 3)).heap.size = w5.heap.size + 1) := World.size_alloc _ _
  clear A1_c0 A1_c1 A1_z
  clear A2_c0 A2_c1 A2_z
  replace HB := Lib.hid (bcall HB.out hb6)
  replace L12 := Lib.hid (L12.out.below hb6)
  replace ho1 := Lib.hid (ho1.out.below hb6)
  replace A1 := Lib.hid (A1.out.below hb6)
  replace ho2 := Lib.hid (ho2.out.below hb6)
  replace A2 := Lib.hid (A2.out.below hb6)
  clear hb6
  rw [ZA2.out] at L3 ZL3
  clear ZA2
  generalize w5.alloc (Obj.cells #[.int .i64 3, .int .i64 1, .int .i64 2] 3) = w6 at *
  have A1_c0 : w6.cell? ⟨bA1, 0, none⟩ = some (.int .i64 1) := A1.out.cell 0
  have A1_c1 : w6.cell? ⟨bA1, 1, none⟩ = some (.int .i64 0) := A1.out.cell 1
  have A1_z : bA1 < w6.heap.size := A1.out.lt
  have A2_c0 : w6.cell? ⟨bA2, 0, none⟩ = some (.int .i64 1) := A2.out.cell 0
  have A2_c1 : w6.cell? ⟨bA2, 1, none⟩ = some (.int .i64 2) := A2.out.cell 1
  have A2_z : bA2 < w6.heap.size := A2.out.lt
  refine (equal_any _ _ _ [3, 1, 2] [3, 1, 2] ho1.out.sl (Blk.sl (xs := [3, 1, 2]) L3.out (by decide)) (by decide) (by decide)).mono ?_
  rintro e w7 ⟨rfl, hb7⟩
  clear A1_c0 A1_c1 A1_z
  clear A2_c0 A2_c1 A2_z
  replace HB := Lib.hid (bcall HB.out hb7)
  replace L12 := Lib.hid (L12.out.below hb7)
  replace ho1 := Lib.hid (ho1.out.below hb7)
  replace A1 := Lib.hid (A1.out.below hb7)
  replace ho2 := Lib.hid (ho2.out.below hb7)
  replace A2 := Lib.hid (A2.out.below hb7)
  replace L3 := Lib.hid (L3.out.below hb7)
  clear hb7
  have A1_c0 : w7.cell? ⟨bA1, 0, none⟩ = some (.int .i64 1) := A1.out.cell 0
  have A1_c1 : w7.cell? ⟨bA1, 1, none⟩ = some (.int .i64 0) := A1.out.cell 1
  have A1_z : bA1 < w7.heap.size := A1.out.lt
  have A2_c0 : w7.cell? ⟨bA2, 0, none⟩ = some (.int .i64 1) := A2.out.cell 0
  have A2_c1 : w7.cell? ⟨bA2, 1, none⟩ = some (.int .i64 2) := A2.out.cell 1
  have A2_z : bA2 < w7.heap.size := A2.out.lt
  go_wp2_with fail
  have hb8 := balloc (Below.refl _ w7) (Obj.cells #[.int .i64 3, .int .i64 1] 3)
  have L4 := Lib.hid (Blk.new w7 [.int .i64 3, .int .i64 1] 3)
  change Hid (Blk (w7.alloc (Obj.cells #[.int .i64 3, .int .i64 1] 3)) _ _ _) at L4
  have ZL4 : Hid ((w7.alloc (Obj.cells #[.int .i64 3, .int .i64 1] 3)).heap.size = w7.heap.size + 1) := World.size_alloc _ _
  clear A1_c0 A1_c1 A1_z
  clear A2_c0 A2_c1 A2_z
  replace HB := Lib.hid (bcall HB.out hb8)
  replace L12 := Lib.hid (L12.out.below hb8)
  replace ho1 := Lib.hid (ho1.out.below hb8)
  replace A1 := Lib.hid (A1.out.below hb8)
  replace ho2 := Lib.hid (ho2.out.below hb8)
  replace A2 := Lib.hid (A2.out.below hb8)
  replace L3 := Lib.hid (L3.out.below hb8)
  clear hb8
  generalize w7.alloc (Obj.cells #[.int .i64 3, .int .i64 1] 3) = w8 at *
  generalize w7.heap.size = bL4 at *
  have A1_c0 : w8.cell? ⟨bA1, 0, none⟩ = some (.int .i64 1) := A1.out.cell 0
  have A1_c1 : w8.cell? ⟨bA1, 1, none⟩ = some (.int .i64 0) := A1.out.cell 1
  have A1_z : bA1 < w8.heap.size := A1.out.lt
  have A2_c0 : w8.cell? ⟨bA2, 0, none⟩ = some (.int .i64 1) := A2.out.cell 0
  have A2_c1 : w8.cell? ⟨bA2, 1, none⟩ = some (.int .i64 2) := A2.out.cell 1
  have A2_z : bA2 < w8.heap.size := A2.out.lt
  refine (equal_any _ _ _ [3, 1] [3, 1] ho2.out.sl (Blk.sl (xs := [3, 1]) L4.out (by decide)) (by decide) (by decide)).mono ?_
  rintro e w9 ⟨rfl, hb9⟩
  clear A1_c0 A1_c1 A1_z
  clear A2_c0 A2_c1 A2_z
  replace HB := Lib.hid (bcall HB.out hb9)
  replace L12 := Lib.hid (L12.out.below hb9)
  replace ho1 := Lib.hid (ho1.out.below hb9)
  replace A1 := Lib.hid (A1.out.below hb9)
  replace ho2 := Lib.hid (ho2.out.below hb9)
  replace A2 := Lib.hid (A2.out.below hb9)
  replace L3 := Lib.hid (L3.out.below hb9)
  replace L4 := Lib.hid (L4.out.below hb9)
  clear hb9
  have A1_c0 : w9.cell? ⟨bA1, 0, none⟩ = some (.int .i64 1) := A1.out.cell 0
  have A1_c1 : w9.cell? ⟨bA1, 1, none⟩ = some (.int .i64 0) := A1.out.cell 1
  have A1_z : bA1 < w9.heap.size := A1.out.lt
  have A2_c0 : w9.cell? ⟨bA2, 0, none⟩ = some (.int .i64 1) := A2.out.cell 0
  have A2_c1 : w9.cell? ⟨bA2, 1, none⟩ = some (.int .i64 2) := A2.out.cell 1
  have A2_z : bA2 < w9.heap.size := A2.out.lt
  go_wp2_with fail
  go_ret
  exact ⟨by first | rfl | simp, HB.out⟩
set_option maxRecDepth 20000 in
set_option maxHeartbeats 4000000 in
theorem queued_any (w : World) :
    Calls Try.prog 31 #[] w fun e w' => e = .returned (.bool true) ∧ Below w.heap.size w w' := by
  go_enter Try.func31, Try.ntmps31
  have HB := Lib.hid (Below.refl w.heap.size w)
  go_wp2_with fail
  have hb1 := balloc (Below.refl _ w) (Obj.cells #[.int .i64 1, .int .i64 2] 3)
  have L12 := Lib.hid (Blk.new w [.int .i64 1, .int .i64 2] 3)
  change Hid (Blk (w.alloc (Obj.cells #[.int .i64 1, .int .i64 2] 3)) _ _ _) at L12
  have ZL12 : Hid ((w.alloc (Obj.cells #[.int .i64 1, .int .i64 2] 3)).heap.size = w.heap.size + 1) := World.size_alloc _ _
  replace HB := Lib.hid (bcall HB.out hb1)
  clear hb1
  generalize w.alloc (Obj.cells #[.int .i64 1, .int .i64 2] 3) = w1 at *
  refine (put_any _ _).mono ?_
  rintro e w2 ⟨rfl, hb2⟩
  replace HB := Lib.hid (bcall HB.out hb2)
  replace L12 := Lib.hid (L12.out.below hb2)
  clear hb2
  go_wp2_with fail
  refine (queue_eq _ _ [1, 2] 1 0 3 (Blk.sl (xs := [1, 2]) L12.out (by decide)) (by decide) (ys := [1, 2, 3]) (c := 1) (r := 0) rfl).mono ?_
  rintro e w3 ⟨v1, rfl, ho1, hb3⟩
  replace HB := Lib.hid (bcall HB.out hb3)
  replace L12 := Lib.hid (L12.out.below hb3)
  replace ho1 := Lib.hid ho1
  clear hb3
  go_wp2_with fail
  have hb4 := balloc (Below.refl _ w3) (Obj.cells #[.int .i64 1, .int .i64 0] 26)
  have A1 := Lib.hid (Blk.new w3 [.int .i64 1, .int .i64 0] 26)
  change Hid (Blk (w3.alloc (Obj.cells #[.int .i64 1, .int .i64 0] 26)) _ _ _) at A1
  have ZA1 : Hid ((w3.alloc (Obj.cells #[.int .i64 1, .int .i64 0] 26)).heap.size = w3.heap.size + 1) := World.size_alloc _ _
  replace HB := Lib.hid (bcall HB.out hb4)
  replace L12 := Lib.hid (L12.out.below hb4)
  replace ho1 := Lib.hid (ho1.out.below hb4)
  clear hb4
  generalize w3.alloc (Obj.cells #[.int .i64 1, .int .i64 0] 26) = w4 at *
  generalize w3.heap.size = bA1 at *
  have A1_c0 : w4.cell? ⟨bA1, 0, none⟩ = some (.int .i64 1) := A1.out.cell 0
  have A1_c1 : w4.cell? ⟨bA1, 1, none⟩ = some (.int .i64 0) := A1.out.cell 1
  have A1_z : bA1 < w4.heap.size := A1.out.lt
  go_wp2_with fail
  refine (queue_eq _ _ [1, 2, 3] 2 0 0 ho1.out.sl (by decide) (ys := [2, 3]) (c := 1) (r := 1) rfl).mono ?_
  rintro e w5 ⟨v2, rfl, ho2, hb5⟩
  clear A1_c0 A1_c1 A1_z
  replace HB := Lib.hid (bcall HB.out hb5)
  replace L12 := Lib.hid (L12.out.below hb5)
  replace ho1 := Lib.hid (ho1.out.below hb5)
  replace A1 := Lib.hid (A1.out.below hb5)
  replace ho2 := Lib.hid ho2
  clear hb5
  have A1_c0 : w5.cell? ⟨bA1, 0, none⟩ = some (.int .i64 1) := A1.out.cell 0
  have A1_c1 : w5.cell? ⟨bA1, 1, none⟩ = some (.int .i64 0) := A1.out.cell 1
  have A1_z : bA1 < w5.heap.size := A1.out.lt
  go_wp2_with fail
  have hb6 := balloc (Below.refl _ w5) (Obj.cells #[.int .i64 1, .int .i64 1] 26)
  have A2 := Lib.hid (Blk.new w5 [.int .i64 1, .int .i64 1] 26)
  change Hid (Blk (w5.alloc (Obj.cells #[.int .i64 1, .int .i64 1] 26)) _ _ _) at A2
  have ZA2 : Hid ((w5.alloc (Obj.cells #[.int .i64 1, .int .i64 1] 26)).heap.size = w5.heap.size + 1) := World.size_alloc _ _
  clear A1_c0 A1_c1 A1_z
  replace HB := Lib.hid (bcall HB.out hb6)
  replace L12 := Lib.hid (L12.out.below hb6)
  replace ho1 := Lib.hid (ho1.out.below hb6)
  replace A1 := Lib.hid (A1.out.below hb6)
  replace ho2 := Lib.hid (ho2.out.below hb6)
  clear hb6
  generalize w5.alloc (Obj.cells #[.int .i64 1, .int .i64 1] 26) = w6 at *
  generalize w5.heap.size = bA2 at *
  have A1_c0 : w6.cell? ⟨bA1, 0, none⟩ = some (.int .i64 1) := A1.out.cell 0
  have A1_c1 : w6.cell? ⟨bA1, 1, none⟩ = some (.int .i64 0) := A1.out.cell 1
  have A1_z : bA1 < w6.heap.size := A1.out.lt
  have A2_c0 : w6.cell? ⟨bA2, 0, none⟩ = some (.int .i64 1) := A2.out.cell 0
  have A2_c1 : w6.cell? ⟨bA2, 1, none⟩ = some (.int .i64 1) := A2.out.cell 1
  have A2_z : bA2 < w6.heap.size := A2.out.lt
  go_wp2_with fail
  have hb7 := balloc (Below.refl _ w6) (Obj.cells #[.int .i64 1, .int .i64 2, .int .i64 3] 3)
  have L3 := Lib.hid (Blk.new w6 [.int .i64 1, .int .i64 2, .int .i64 3] 3)
  change Hid (Blk (w6.alloc (Obj.cells #[.int .i64 1, .int .i64 2, .int .i64 3] 3)) _ _ _) at L3
  have ZL3 : Hid ((w6.alloc (Obj.cells #[.int .i64 1, .int .i64 2, .int .i64 3] 3)).heap.size = w6.heap.size + 1) := World.size_alloc _ _
  clear A1_c0 A1_c1 A1_z
  clear A2_c0 A2_c1 A2_z
  replace HB := Lib.hid (bcall HB.out hb7)
  replace L12 := Lib.hid (L12.out.below hb7)
  replace ho1 := Lib.hid (ho1.out.below hb7)
  replace A1 := Lib.hid (A1.out.below hb7)
  replace ho2 := Lib.hid (ho2.out.below hb7)
  replace A2 := Lib.hid (A2.out.below hb7)
  clear hb7
  rw [ZA2.out] at L3 ZL3
  clear ZA2
  generalize w6.alloc (Obj.cells #[.int .i64 1, .int .i64 2, .int .i64 3] 3) = w7 at *
  have A1_c0 : w7.cell? ⟨bA1, 0, none⟩ = some (.int .i64 1) := A1.out.cell 0
  have A1_c1 : w7.cell? ⟨bA1, 1, none⟩ = some (.int .i64 0) := A1.out.cell 1
  have A1_z : bA1 < w7.heap.size := A1.out.lt
  have A2_c0 : w7.cell? ⟨bA2, 0, none⟩ = some (.int .i64 1) := A2.out.cell 0
  have A2_c1 : w7.cell? ⟨bA2, 1, none⟩ = some (.int .i64 1) := A2.out.cell 1
  have A2_z : bA2 < w7.heap.size := A2.out.lt
  refine (equal_any _ _ _ [1, 2, 3] [1, 2, 3] ho1.out.sl (Blk.sl (xs := [1, 2, 3]) L3.out (by decide)) (by decide) (by decide)).mono ?_
  rintro e w8 ⟨rfl, hb8⟩
  clear A1_c0 A1_c1 A1_z
  clear A2_c0 A2_c1 A2_z
  replace HB := Lib.hid (bcall HB.out hb8)
  replace L12 := Lib.hid (L12.out.below hb8)
  replace ho1 := Lib.hid (ho1.out.below hb8)
  replace A1 := Lib.hid (A1.out.below hb8)
  replace ho2 := Lib.hid (ho2.out.below hb8)
  replace A2 := Lib.hid (A2.out.below hb8)
  replace L3 := Lib.hid (L3.out.below hb8)
  clear hb8
  have A1_c0 : w8.cell? ⟨bA1, 0, none⟩ = some (.int .i64 1) := A1.out.cell 0
  have A1_c1 : w8.cell? ⟨bA1, 1, none⟩ = some (.int .i64 0) := A1.out.cell 1
  have A1_z : bA1 < w8.heap.size := A1.out.lt
  have A2_c0 : w8.cell? ⟨bA2, 0, none⟩ = some (.int .i64 1) := A2.out.cell 0
  have A2_c1 : w8.cell? ⟨bA2, 1, none⟩ = some (.int .i64 1) := A2.out.cell 1
  have A2_z : bA2 < w8.heap.size := A2.out.lt
  go_wp2_with fail
  have hb9 := balloc (Below.refl _ w8) (Obj.cells #[.int .i64 2, .int .i64 3] 3)
  have L4 := Lib.hid (Blk.new w8 [.int .i64 2, .int .i64 3] 3)
  change Hid (Blk (w8.alloc (Obj.cells #[.int .i64 2, .int .i64 3] 3)) _ _ _) at L4
  have ZL4 : Hid ((w8.alloc (Obj.cells #[.int .i64 2, .int .i64 3] 3)).heap.size = w8.heap.size + 1) := World.size_alloc _ _
  clear A1_c0 A1_c1 A1_z
  clear A2_c0 A2_c1 A2_z
  replace HB := Lib.hid (bcall HB.out hb9)
  replace L12 := Lib.hid (L12.out.below hb9)
  replace ho1 := Lib.hid (ho1.out.below hb9)
  replace A1 := Lib.hid (A1.out.below hb9)
  replace ho2 := Lib.hid (ho2.out.below hb9)
  replace A2 := Lib.hid (A2.out.below hb9)
  replace L3 := Lib.hid (L3.out.below hb9)
  clear hb9
  generalize w8.alloc (Obj.cells #[.int .i64 2, .int .i64 3] 3) = w9 at *
  generalize w8.heap.size = bL4 at *
  have A1_c0 : w9.cell? ⟨bA1, 0, none⟩ = some (.int .i64 1) := A1.out.cell 0
  have A1_c1 : w9.cell? ⟨bA1, 1, none⟩ = some (.int .i64 0) := A1.out.cell 1
  have A1_z : bA1 < w9.heap.size := A1.out.lt
  have A2_c0 : w9.cell? ⟨bA2, 0, none⟩ = some (.int .i64 1) := A2.out.cell 0
  have A2_c1 : w9.cell? ⟨bA2, 1, none⟩ = some (.int .i64 1) := A2.out.cell 1
  have A2_z : bA2 < w9.heap.size := A2.out.lt
  refine (equal_any _ _ _ [2, 3] [2, 3] ho2.out.sl (Blk.sl (xs := [2, 3]) L4.out (by decide)) (by decide) (by decide)).mono ?_
  rintro e w10 ⟨rfl, hb10⟩
  clear A1_c0 A1_c1 A1_z
  clear A2_c0 A2_c1 A2_z
  replace HB := Lib.hid (bcall HB.out hb10)
  replace L12 := Lib.hid (L12.out.below hb10)
  replace ho1 := Lib.hid (ho1.out.below hb10)
  replace A1 := Lib.hid (A1.out.below hb10)
  replace ho2 := Lib.hid (ho2.out.below hb10)
  replace A2 := Lib.hid (A2.out.below hb10)
  replace L3 := Lib.hid (L3.out.below hb10)
  replace L4 := Lib.hid (L4.out.below hb10)
  clear hb10
  have A1_c0 : w10.cell? ⟨bA1, 0, none⟩ = some (.int .i64 1) := A1.out.cell 0
  have A1_c1 : w10.cell? ⟨bA1, 1, none⟩ = some (.int .i64 0) := A1.out.cell 1
  have A1_z : bA1 < w10.heap.size := A1.out.lt
  have A2_c0 : w10.cell? ⟨bA2, 0, none⟩ = some (.int .i64 1) := A2.out.cell 0
  have A2_c1 : w10.cell? ⟨bA2, 1, none⟩ = some (.int .i64 1) := A2.out.cell 1
  have A2_z : bA2 < w10.heap.size := A2.out.lt
  go_wp2_with fail
  go_ret
  exact ⟨by first | rfl | simp, HB.out⟩
set_option maxRecDepth 20000 in
set_option maxHeartbeats 4000000 in
theorem stacked_any (w : World) :
    Calls Try.prog 28 #[] w fun e w' => e = .returned (.bool true) ∧ Below w.heap.size w w' := by
  go_enter Try.func28, Try.ntmps28
  have HB := Lib.hid (Below.refl w.heap.size w)
  go_wp2_with fail
  have hb1 := balloc (Below.refl _ w) (Obj.cells #[.int .i64 1, .int .i64 2] 3)
  have L12 := Lib.hid (Blk.new w [.int .i64 1, .int .i64 2] 3)
  change Hid (Blk (w.alloc (Obj.cells #[.int .i64 1, .int .i64 2] 3)) _ _ _) at L12
  have ZL12 : Hid ((w.alloc (Obj.cells #[.int .i64 1, .int .i64 2] 3)).heap.size = w.heap.size + 1) := World.size_alloc _ _
  replace HB := Lib.hid (bcall HB.out hb1)
  clear hb1
  generalize w.alloc (Obj.cells #[.int .i64 1, .int .i64 2] 3) = w1 at *
  refine (put_any _ _).mono ?_
  rintro e w2 ⟨rfl, hb2⟩
  replace HB := Lib.hid (bcall HB.out hb2)
  replace L12 := Lib.hid (L12.out.below hb2)
  clear hb2
  go_wp2_with fail
  refine (stack_eq _ _ [1, 2] 1 0 3 (Blk.sl (xs := [1, 2]) L12.out (by decide)) (by decide) (ys := [1, 2, 3]) (c := 1) (r := 0) rfl).mono ?_
  rintro e w3 ⟨v1, rfl, ho1, hb3⟩
  replace HB := Lib.hid (bcall HB.out hb3)
  replace L12 := Lib.hid (L12.out.below hb3)
  replace ho1 := Lib.hid ho1
  clear hb3
  go_wp2_with fail
  have hb4 := balloc (Below.refl _ w3) (Obj.cells #[.int .i64 1, .int .i64 0] 26)
  have A1 := Lib.hid (Blk.new w3 [.int .i64 1, .int .i64 0] 26)
  change Hid (Blk (w3.alloc (Obj.cells #[.int .i64 1, .int .i64 0] 26)) _ _ _) at A1
  have ZA1 : Hid ((w3.alloc (Obj.cells #[.int .i64 1, .int .i64 0] 26)).heap.size = w3.heap.size + 1) := World.size_alloc _ _
  replace HB := Lib.hid (bcall HB.out hb4)
  replace L12 := Lib.hid (L12.out.below hb4)
  replace ho1 := Lib.hid (ho1.out.below hb4)
  clear hb4
  generalize w3.alloc (Obj.cells #[.int .i64 1, .int .i64 0] 26) = w4 at *
  generalize w3.heap.size = bA1 at *
  have A1_c0 : w4.cell? ⟨bA1, 0, none⟩ = some (.int .i64 1) := A1.out.cell 0
  have A1_c1 : w4.cell? ⟨bA1, 1, none⟩ = some (.int .i64 0) := A1.out.cell 1
  have A1_z : bA1 < w4.heap.size := A1.out.lt
  go_wp2_with fail
  refine (stack_eq _ _ [1, 2, 3] 2 0 0 ho1.out.sl (by decide) (ys := [1, 2]) (c := 1) (r := 3) rfl).mono ?_
  rintro e w5 ⟨v2, rfl, ho2, hb5⟩
  clear A1_c0 A1_c1 A1_z
  replace HB := Lib.hid (bcall HB.out hb5)
  replace L12 := Lib.hid (L12.out.below hb5)
  replace ho1 := Lib.hid (ho1.out.below hb5)
  replace A1 := Lib.hid (A1.out.below hb5)
  replace ho2 := Lib.hid ho2
  clear hb5
  have A1_c0 : w5.cell? ⟨bA1, 0, none⟩ = some (.int .i64 1) := A1.out.cell 0
  have A1_c1 : w5.cell? ⟨bA1, 1, none⟩ = some (.int .i64 0) := A1.out.cell 1
  have A1_z : bA1 < w5.heap.size := A1.out.lt
  go_wp2_with fail
  have hb6 := balloc (Below.refl _ w5) (Obj.cells #[.int .i64 1, .int .i64 3] 26)
  have A2 := Lib.hid (Blk.new w5 [.int .i64 1, .int .i64 3] 26)
  change Hid (Blk (w5.alloc (Obj.cells #[.int .i64 1, .int .i64 3] 26)) _ _ _) at A2
  have ZA2 : Hid ((w5.alloc (Obj.cells #[.int .i64 1, .int .i64 3] 26)).heap.size = w5.heap.size + 1) := World.size_alloc _ _
  clear A1_c0 A1_c1 A1_z
  replace HB := Lib.hid (bcall HB.out hb6)
  replace L12 := Lib.hid (L12.out.below hb6)
  replace ho1 := Lib.hid (ho1.out.below hb6)
  replace A1 := Lib.hid (A1.out.below hb6)
  replace ho2 := Lib.hid (ho2.out.below hb6)
  clear hb6
  generalize w5.alloc (Obj.cells #[.int .i64 1, .int .i64 3] 26) = w6 at *
  generalize w5.heap.size = bA2 at *
  have A1_c0 : w6.cell? ⟨bA1, 0, none⟩ = some (.int .i64 1) := A1.out.cell 0
  have A1_c1 : w6.cell? ⟨bA1, 1, none⟩ = some (.int .i64 0) := A1.out.cell 1
  have A1_z : bA1 < w6.heap.size := A1.out.lt
  have A2_c0 : w6.cell? ⟨bA2, 0, none⟩ = some (.int .i64 1) := A2.out.cell 0
  have A2_c1 : w6.cell? ⟨bA2, 1, none⟩ = some (.int .i64 3) := A2.out.cell 1
  have A2_z : bA2 < w6.heap.size := A2.out.lt
  go_wp2_with fail
  have hb7 := balloc (Below.refl _ w6) (Obj.cells #[.int .i64 1, .int .i64 2, .int .i64 3] 3)
  have L3 := Lib.hid (Blk.new w6 [.int .i64 1, .int .i64 2, .int .i64 3] 3)
  change Hid (Blk (w6.alloc (Obj.cells #[.int .i64 1, .int .i64 2, .int .i64 3] 3)) _ _ _) at L3
  have ZL3 : Hid ((w6.alloc (Obj.cells #[.int .i64 1, .int .i64 2, .int .i64 3] 3)).heap.size = w6.heap.size + 1) := World.size_alloc _ _
  clear A1_c0 A1_c1 A1_z
  clear A2_c0 A2_c1 A2_z
  replace HB := Lib.hid (bcall HB.out hb7)
  replace L12 := Lib.hid (L12.out.below hb7)
  replace ho1 := Lib.hid (ho1.out.below hb7)
  replace A1 := Lib.hid (A1.out.below hb7)
  replace ho2 := Lib.hid (ho2.out.below hb7)
  replace A2 := Lib.hid (A2.out.below hb7)
  clear hb7
  rw [ZA2.out] at L3 ZL3
  clear ZA2
  generalize w6.alloc (Obj.cells #[.int .i64 1, .int .i64 2, .int .i64 3] 3) = w7 at *
  have A1_c0 : w7.cell? ⟨bA1, 0, none⟩ = some (.int .i64 1) := A1.out.cell 0
  have A1_c1 : w7.cell? ⟨bA1, 1, none⟩ = some (.int .i64 0) := A1.out.cell 1
  have A1_z : bA1 < w7.heap.size := A1.out.lt
  have A2_c0 : w7.cell? ⟨bA2, 0, none⟩ = some (.int .i64 1) := A2.out.cell 0
  have A2_c1 : w7.cell? ⟨bA2, 1, none⟩ = some (.int .i64 3) := A2.out.cell 1
  have A2_z : bA2 < w7.heap.size := A2.out.lt
  refine (equal_any _ _ _ [1, 2, 3] [1, 2, 3] ho1.out.sl (Blk.sl (xs := [1, 2, 3]) L3.out (by decide)) (by decide) (by decide)).mono ?_
  rintro e w8 ⟨rfl, hb8⟩
  clear A1_c0 A1_c1 A1_z
  clear A2_c0 A2_c1 A2_z
  replace HB := Lib.hid (bcall HB.out hb8)
  replace L12 := Lib.hid (L12.out.below hb8)
  replace ho1 := Lib.hid (ho1.out.below hb8)
  replace A1 := Lib.hid (A1.out.below hb8)
  replace ho2 := Lib.hid (ho2.out.below hb8)
  replace A2 := Lib.hid (A2.out.below hb8)
  replace L3 := Lib.hid (L3.out.below hb8)
  clear hb8
  have A1_c0 : w8.cell? ⟨bA1, 0, none⟩ = some (.int .i64 1) := A1.out.cell 0
  have A1_c1 : w8.cell? ⟨bA1, 1, none⟩ = some (.int .i64 0) := A1.out.cell 1
  have A1_z : bA1 < w8.heap.size := A1.out.lt
  have A2_c0 : w8.cell? ⟨bA2, 0, none⟩ = some (.int .i64 1) := A2.out.cell 0
  have A2_c1 : w8.cell? ⟨bA2, 1, none⟩ = some (.int .i64 3) := A2.out.cell 1
  have A2_z : bA2 < w8.heap.size := A2.out.lt
  go_wp2_with fail
  have hb9 := balloc (Below.refl _ w8) (Obj.cells #[.int .i64 1, .int .i64 2] 3)
  have L4 := Lib.hid (Blk.new w8 [.int .i64 1, .int .i64 2] 3)
  change Hid (Blk (w8.alloc (Obj.cells #[.int .i64 1, .int .i64 2] 3)) _ _ _) at L4
  have ZL4 : Hid ((w8.alloc (Obj.cells #[.int .i64 1, .int .i64 2] 3)).heap.size = w8.heap.size + 1) := World.size_alloc _ _
  clear A1_c0 A1_c1 A1_z
  clear A2_c0 A2_c1 A2_z
  replace HB := Lib.hid (bcall HB.out hb9)
  replace L12 := Lib.hid (L12.out.below hb9)
  replace ho1 := Lib.hid (ho1.out.below hb9)
  replace A1 := Lib.hid (A1.out.below hb9)
  replace ho2 := Lib.hid (ho2.out.below hb9)
  replace A2 := Lib.hid (A2.out.below hb9)
  replace L3 := Lib.hid (L3.out.below hb9)
  clear hb9
  generalize w8.alloc (Obj.cells #[.int .i64 1, .int .i64 2] 3) = w9 at *
  generalize w8.heap.size = bL4 at *
  have A1_c0 : w9.cell? ⟨bA1, 0, none⟩ = some (.int .i64 1) := A1.out.cell 0
  have A1_c1 : w9.cell? ⟨bA1, 1, none⟩ = some (.int .i64 0) := A1.out.cell 1
  have A1_z : bA1 < w9.heap.size := A1.out.lt
  have A2_c0 : w9.cell? ⟨bA2, 0, none⟩ = some (.int .i64 1) := A2.out.cell 0
  have A2_c1 : w9.cell? ⟨bA2, 1, none⟩ = some (.int .i64 3) := A2.out.cell 1
  have A2_z : bA2 < w9.heap.size := A2.out.lt
  refine (equal_any _ _ _ [1, 2] [1, 2] ho2.out.sl (Blk.sl (xs := [1, 2]) L4.out (by decide)) (by decide) (by decide)).mono ?_
  rintro e w10 ⟨rfl, hb10⟩
  clear A1_c0 A1_c1 A1_z
  clear A2_c0 A2_c1 A2_z
  replace HB := Lib.hid (bcall HB.out hb10)
  replace L12 := Lib.hid (L12.out.below hb10)
  replace ho1 := Lib.hid (ho1.out.below hb10)
  replace A1 := Lib.hid (A1.out.below hb10)
  replace ho2 := Lib.hid (ho2.out.below hb10)
  replace A2 := Lib.hid (A2.out.below hb10)
  replace L3 := Lib.hid (L3.out.below hb10)
  replace L4 := Lib.hid (L4.out.below hb10)
  clear hb10
  have A1_c0 : w10.cell? ⟨bA1, 0, none⟩ = some (.int .i64 1) := A1.out.cell 0
  have A1_c1 : w10.cell? ⟨bA1, 1, none⟩ = some (.int .i64 0) := A1.out.cell 1
  have A1_z : bA1 < w10.heap.size := A1.out.lt
  have A2_c0 : w10.cell? ⟨bA2, 0, none⟩ = some (.int .i64 1) := A2.out.cell 0
  have A2_c1 : w10.cell? ⟨bA2, 1, none⟩ = some (.int .i64 3) := A2.out.cell 1
  have A2_z : bA2 < w10.heap.size := A2.out.lt
  go_wp2_with fail
  go_ret
  exact ⟨by first | rfl | simp, HB.out⟩
end Go.Proofs.Ytpedkcpkdacnlaa
