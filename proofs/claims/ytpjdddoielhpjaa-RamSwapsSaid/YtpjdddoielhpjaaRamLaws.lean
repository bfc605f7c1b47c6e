/- The walks of the laws RamSwaps and RamGoes: they return true and write nothing that was there. -/
import Derived.Test.YtpjdddoielhpjaaRemembered
import Derived.Test.YtpjdddoielhpjaaRow
import Derived.Test.YtpjdddoielhpjaaPick
namespace Go.Proofs.Ytpjdddoielhpjaa
open Go.RowKit
set_option linter.unusedVariables false

theorem set_same (r : List Int) (a : Nat) (x : Int) (h : a < r.length) : (r.set a x)[a]?.getD 0 = x := by simp [h]
theorem set_other (r : List Int) (a b : Nat) (x : Int) (h : a ≠ b) : (r.set a x)[b]?.getD 0 = r[b]?.getD 0 := by simp [h]

set_option maxHeartbeats 1000000 in
theorem walk_RamGoes (a0 : Option Addr) (len0 cap0 : Nat) (z0 : List Int) (a1 : Int) (w : World) (w0 : IsRow .u64 w a0 len0 cap0 z0) (w1 : (Lit.int .i64 a1).wf = true) :
    Calls Try.prog 7 #[.slice a0 len0 cap0, .int .i64 a1] w fun e w' => e = .returned (.bool true) ∧ Below w.heap.size w w' := by
  obtain ⟨ys, hlen, hcap, hmax, -, hcase⟩ := row_cases w0
  clear w0 w1
  by_cases h60 : 16 < len0
  · go_enter Try.func7, Try.ntmps7
    clear hcase hlen
    go_wp2_with fail
    refine (remembered_any _).mono ?_
    rintro e w1 ⟨rfl, hb1⟩
    go_wp2_with fail
    go_ret
    exact ⟨rfl, hb1⟩
  have hcell : ∀ j, j < len0 → ∃ b off, a0 = some ⟨b, off, none⟩ ∧ b < w.heap.size ∧ ∀ j, j < len0 → w.cell? ⟨b, off + j, none⟩ = some (.int .u64 (ys[j]?.getD 0)) := by
    intro j hj
    rcases hcase with ⟨-, h, -⟩ | ⟨h, -⟩ | ⟨b, off, h1, h2, h3, h4⟩
    · omega
    · omega
    · exact ⟨b, off, h1, h3, h4⟩
  have HC := Lib.hid hcell
  clear hcell hcase
  subst hlen
  go_enter Try.func7, Try.ntmps7
  go_wp2_with fail
  refine (remembered_any _).mono ?_
  rintro e w1 ⟨rfl, hb1⟩
  go_wp2_with fail
  have hb0 := balloc hb1 (.cells (List.map (Value.int .u64) (List.replicate 16 0)).toArray 40)
  have hr0 : RamAt (w1.alloc (.cells (List.map (Value.int .u64) (List.replicate 16 0)).toArray 40)) w1.heap.size (List.replicate 16 0) := ⟨rfl, Blk.new _ _ _⟩
  have hbw : w.heap.size ≤ w1.heap.size := hb1.size
  change Code.wp _ _ _ _ (w1.alloc (.cells (List.map (Value.int .u64) (List.replicate 16 0)).toArray 40))
  generalize w1.alloc (.cells (List.map (Value.int .u64) (List.replicate 16 0)).toArray 40) = w2 at *
  generalize w1.heap.size = bR at *
  clear hb1
  go_loopw [19] (fun i wr => ∃ k : Nat, k ≤ ys.length ∧ i = .int .i64 k ∧ Below w.heap.size w wr ∧ ∃ r, RamAt wr bR r)
    (fun i _ => ys.length - (intOf i).toNat)
  case atStart => exact ⟨0, Nat.zero_le _, rfl, hb0, _, hr0⟩
  case round =>
    obtain ⟨k, hk, rfl, hbr, r, hr⟩ := hrel
    by_cases hlt : k < ys.length
    · obtain ⟨b, off, rfl, hb, hc⟩ := HC.out k hlt
      have c1 := hbr.cell (p := ⟨b, off + k, none⟩) hb
      rw [hc k hlt] at c1
      clear hc
      go_wp2_with fail
      refine (ram_save _ _ _ _ _ hr (by omega) (by omega)).mono ?_
      rintro e w3 ⟨rfl, hr3, hk3⟩
      go_wp2_with fail
      go_roundw
      case rel => exact ⟨k + 1, by omega, by go_num, bkept hbr hk3 (by rintro n rfl; exact hbw), _, hr3⟩
      case measure => simp [intOf]; omega
    · go_wp2_with fail
      refine (ram_clear _ _ _ hr).mono ?_
      rintro e w3 ⟨rfl, hr3, hk3⟩
      go_wp2_with fail
      refine (pick_any _ _ _ (by decide) (by decide)).mono ?_
      rintro e w' ⟨rfl, rfl⟩
      have q0 := pickZ_nonneg a1 16 (by decide)
      have q1 := pickZ_lt a1 16 (by decide)
      generalize pickZ a1 16 = q at *
      go_wp2_with fail
      have hq : (List.replicate 16 (0 : Int))[q.toNat]?.getD 0 = 0 := by
        have : q.toNat < 16 := by omega
        rw [List.getElem?_replicate]; simp [this]
      refine (ram_load _ _ _ _ hr3 (by omega) (by omega)).mono ?_
      rw [hq]
      rintro e w' ⟨rfl, rfl⟩
      go_wp2_with fail
      go_ret
      exact ⟨rfl, bkept hbr hk3 (by rintro n rfl; exact hbw)⟩
set_option maxHeartbeats 1000000 in
theorem walk_RamSwaps (a0 : Option Addr) (len0 cap0 : Nat) (z0 : List Int) (a1 : Int) (a2 : Int) (a3 : Int) (a4 : Int) (w : World) (w0 : IsRow .u64 w a0 len0 cap0 z0) (w1 : (Lit.int .i64 a1).wf = true) (w2 : (Lit.int .i64 a2).wf = true) (w3 : (Lit.int .u64 a3).wf = true) (w4 : (Lit.int .u64 a4).wf = true) :
    Calls Try.prog 6 #[.slice a0 len0 cap0, .int .i64 a1, .int .i64 a2, .int .u64 a3, .int .u64 a4] w fun e w' => e = .returned (.bool true) ∧ Below w.heap.size w w' := by
  obtain ⟨ys, hlen, hcap, hmax, -, hcase⟩ := row_cases w0
  clear w0 w1 w2 w3 w4
  by_cases h60 : 16 < len0
  · go_enter Try.func6, Try.ntmps6
    clear hcase hlen
    go_wp2_with fail
    refine (remembered_any _).mono ?_
    rintro e w1 ⟨rfl, hb1⟩
    go_wp2_with fail
    go_ret
    exact ⟨rfl, hb1⟩
  have hcell : ∀ j, j < len0 → ∃ b off, a0 = some ⟨b, off, none⟩ ∧ b < w.heap.size ∧ ∀ j, j < len0 → w.cell? ⟨b, off + j, none⟩ = some (.int .u64 (ys[j]?.getD 0)) := by
    intro j hj
    rcases hcase with ⟨-, h, -⟩ | ⟨h, -⟩ | ⟨b, off, h1, h2, h3, h4⟩
    · omega
    · omega
    · exact ⟨b, off, h1, h3, h4⟩
  have HC := Lib.hid hcell
  clear hcell hcase
  subst hlen
  go_enter Try.func6, Try.ntmps6
  go_wp2_with fail
  refine (remembered_any _).mono ?_
  rintro e w1 ⟨rfl, hb1⟩
  go_wp2_with fail
  have hb0 := balloc hb1 (.cells (List.map (Value.int .u64) (List.replicate 16 0)).toArray 40)
  have hr0 : RamAt (w1.alloc (.cells (List.map (Value.int .u64) (List.replicate 16 0)).toArray 40)) w1.heap.size (List.replicate 16 0) := ⟨rfl, Blk.new _ _ _⟩
  have hbw : w.heap.size ≤ w1.heap.size := hb1.size
  change Code.wp _ _ _ _ (w1.alloc (.cells (List.map (Value.int .u64) (List.replicate 16 0)).toArray 40))
  generalize w1.alloc (.cells (List.map (Value.int .u64) (List.replicate 16 0)).toArray 40) = w2 at *
  generalize w1.heap.size = bR at *
  clear hb1
  go_loopw [36] (fun i wr => ∃ k : Nat, k ≤ ys.length ∧ i = .int .i64 k ∧ Below w.heap.size w wr ∧ ∃ r, RamAt wr bR r)
    (fun i _ => ys.length - (intOf i).toNat)
  case atStart => exact ⟨0, Nat.zero_le _, rfl, hb0, _, hr0⟩
  case round =>
    obtain ⟨k, hk, rfl, hbr, r, hr⟩ := hrel
    by_cases hlt : k < ys.length
    · obtain ⟨b, off, rfl, hb, hc⟩ := HC.out k hlt
      have c1 := hbr.cell (p := ⟨b, off + k, none⟩) hb
      rw [hc k hlt] at c1
      clear hc
      go_wp2_with fail
      refine (ram_save _ _ _ _ _ hr (by omega) (by omega)).mono ?_
      rintro e w3 ⟨rfl, hr3, hk3⟩
      go_wp2_with fail
      go_roundw
      case rel => exact ⟨k + 1, by omega, by go_num, bkept hbr hk3 (by rintro n rfl; exact hbw), _, hr3⟩
      case measure => simp [intOf]; omega
    · go_wp2_with fail
      refine (pick_any _ _ _ (by decide) (by decide)).mono ?_
      rintro e w' ⟨rfl, rfl⟩
      go_wp2_with fail
      refine (pick_any _ _ _ (by decide) (by decide)).mono ?_
      rintro e w' ⟨rfl, rfl⟩
      have p0 := pickZ_nonneg a1 16 (by decide)
      have p1 := pickZ_lt a1 16 (by decide)
      have q0 := pickZ_nonneg a2 16 (by decide)
      have q1 := pickZ_lt a2 16 (by decide)
      generalize pickZ a1 16 = p at *
      generalize pickZ a2 16 = q at *
      go_wp2_with fail
      refine (ram_load _ _ _ _ hr (by omega) (by omega)).mono ?_
      rintro e w' ⟨rfl, rfl⟩
      go_wp2_with fail
      refine (ram_load _ _ _ _ hr (by omega) (by omega)).mono ?_
      rintro e w' ⟨rfl, rfl⟩
      go_wp2_with fail
      refine (ram_swap_yes _ _ _ _ _ _ hr (by omega) (by omega) rfl).mono ?_
      rintro e w3 ⟨rfl, hr3, hk3⟩
      go_wp2_with fail
      have len16 := hr.1
      have hx := set_same r p.toNat a3 (by omega)
      have E2 : Hid (q = p ∨ (∀ (x : Int), (r.set p.toNat x)[q.toNat]?.getD 0 = r[q.toNat]?.getD 0) ∧ ∀ (x y : Int), ((r.set p.toNat x).set p.toNat y)[q.toNat]?.getD 0 = r[q.toNat]?.getD 0) := by
        by_cases h : q = p
        · exact .inl h
        · have : p.toNat ≠ q.toNat := by omega
          exact .inr ⟨fun x => set_other _ _ _ _ this, fun x y => (set_other _ _ _ _ this).trans (set_other _ _ _ _ this)⟩
      have E1 : Hid (∀ y : Int, ((r.set p.toNat a3).set p.toNat y)[p.toNat]?.getD 0 = y) := fun y => set_same _ _ _ (by simp; omega)
      generalize hold : r[p.toNat]?.getD 0 = old at *
      generalize hwas : r[q.toNat]?.getD 0 = was at *
      clear hold hwas
      by_cases hao : a3 = old
      · subst hao
        refine (ram_swap_yes _ _ _ _ _ _ hr3 (by omega) (by omega) hx).mono ?_
        clear hx
        rintro e w4 ⟨rfl, hr4, hk4⟩
        go_wp2_with fail
        refine (ram_load _ _ _ _ hr4 (by omega) (by omega)).mono ?_
        rw [E1.out]
        rintro e w' ⟨rfl, rfl⟩
        go_wp2_with fail
        refine (ram_load _ _ _ _ hr4 (by omega) (by omega)).mono ?_
        rintro e w' ⟨rfl, rfl⟩
        rcases E2.out with hpq | hv
        · have f1 : (q == p) = true := by simpa using hpq
          clear hpq
          go_wp2_with fail
          all_goals go_ret
          all_goals exact ⟨by first | rfl | simp [*], bkept (bkept hbr hk3 (by rintro n rfl; exact hbw)) hk4 (by rintro n rfl; exact hbw)⟩
        · rw [hv.2]
          clear hv
          go_wp2_with fail
          all_goals go_ret
          all_goals exact ⟨by first | rfl | simp [*], bkept (bkept hbr hk3 (by rintro n rfl; exact hbw)) hk4 (by rintro n rfl; exact hbw)⟩
      · have g1 : (a3 == old) = false := by simpa using hao
        refine (ram_swap_no _ _ _ _ _ _ hr3 (by omega) (by omega) (by rw [hx]; exact hao)).mono ?_
        clear hao
        rintro e w' ⟨rfl, rfl⟩
        go_wp2_with fail
        refine (ram_load _ _ _ _ hr3 (by omega) (by omega)).mono ?_
        rw [hx]
        clear hx
        rintro e w' ⟨rfl, rfl⟩
        go_wp2_with fail
        refine (ram_load _ _ _ _ hr3 (by omega) (by omega)).mono ?_
        rintro e w' ⟨rfl, rfl⟩
        rcases E2.out with hpq | hv
        · have f1 : (q == p) = true := by simpa using hpq
          clear hpq
          go_wp2_with fail
          all_goals go_ret
          all_goals exact ⟨by first | rfl | simp [*], bkept hbr hk3 (by rintro n rfl; exact hbw)⟩
        · rw [hv.1]
          clear hv
          go_wp2_with fail
          all_goals go_ret
          all_goals exact ⟨by first | rfl | simp [*], bkept hbr hk3 (by rintro n rfl; exact hbw)⟩
end Go.Proofs.Ytpjdddoielhpjaa
