/- Laws and walks that the proof leans on, gathered: ObjMade, Things, ObjLaws, OpenOps, OpenBoth. -/
import Derived.Test.YtpedkcpkdacnlaaRows
import Derived.Deep.Slices
import Derived.Deep.Fields
import Derived.ChangeSame
import Derived.ProofKit
import Derived.WideShapes
import Derived.Test.YtpedkcpkdacnlaaObj4
section
namespace Go.Proofs.Ytpedkcpkdacnlaa
open Go.RowKit
set_option linter.unusedVariables false
theorem zt_Op : (Try.prog.info? 30).bind (·.zero) = some (.agg #[.int .i64 0, .int .i64 0, .int .i64 0]) := by kernel_rfl
def madeTo (kind : Int) (f : Nat → Nat → Int) : Nat → List Int
  | 0 => List.replicate 17 0
  | n + 1 => if opOk (f n 0) (f n 1) (f n 2) = true then (objR kind (madeTo kind f n) (f n 0) (f n 1) (f n 2)).1 else madeTo kind f n
theorem madeTo_ok (kind : Int) (f : Nat → Nat → Int) (h1 : 1 ≤ kind) (h6 : kind ≤ 6) : ∀ n, ObjOK kind (madeTo kind f n)
  | 0 => objOK_zero kind h1 h6
  | n + 1 => by
    simp only [madeTo]
    split
    · exact objR_ok (madeTo_ok kind f h1 h6 n) _ _ _ ‹_›
    · exact madeTo_ok kind f h1 h6 n
/-- Three words behind one another. -/
theorem range3 {w : World} {b off : Nat} {x y z : Value} (h0 : w.cell? ⟨b, off + 0, none⟩ = some x) (h1 : w.cell? ⟨b, off + 1, none⟩ = some y) (h2 : w.cell? ⟨b, off + 2, none⟩ = some z) : w.rangeAt b off [x, y, z] := by
  intro j v hj
  match j, hj with
  | 0, hj => simp at hj; subst hj; exact h0
  | 1, hj => simp at hj; subst hj; exact h1
  | 2, hj => simp at hj; subst hj; exact h2
  | n + 3, hj => simp at hj
set_option maxRecDepth 20000 in
set_option maxHeartbeats 4000000 in
theorem made_any (W : World) (kind : Int) (hk1 : 1 ≤ kind) (hk6 : kind ≤ 6) (a0 : Option Addr) (len0 cap0 : Nat) (f : Nat → Nat → Int) (h : Rws 3 (fun _ => .i64) W a0 len0 cap0 f) :
    Calls Try.prog 35 #[.int .i64 kind, .slice a0 len0 cap0] W fun e w' => e = .returned (.agg (u64s (madeTo kind f (min len0 30))).toArray) ∧ Below W.heap.size W w' := by
  obtain ⟨m, hm0⟩ : ∃ m : Nat, m = min len0 30 := ⟨_, rfl⟩
  rw [← hm0]
  have hle := h.1
  have hcm := h.2.1
  have hmin : min (len0 : Int) 30 = (m : Int) := by omega
  have hml : m ≤ len0 ∧ m ≤ 30 := by omega
  obtain ⟨hml, hm30⟩ := hml
  have HROW := Lib.hid (h.take m hml)
  have HOK := Lib.hid (madeTo_ok kind f hk1 hk6)
  have HM := Mem.start W
  have hmc : (m : Int) ≤ (cap0 : Int) := by omega
  clear h hm0
  go_enter Try.func35, Try.ntmps35
  go_wp2_with (first | (refine wpM_storeAll HM rfl rfl rfl rfl (by repeat (first | exact Sel.head | apply Sel.tail)) (by rfl) (by kernel_rfl) (by rfl) ?_; clear HM; intro w HM) | (refine wpM_loadAll (ty := 30) HM rfl rfl rfl (by repeat (first | exact Sel.head | apply Sel.tail)) (by kernel_rfl) ?_) | (refine wpM_loadAll (ty := 26) HM rfl rfl rfl (by repeat (first | exact Sel.head | apply Sel.tail)) (by kernel_rfl) ?_) | (refine wpM_alloc (o := ⟨some 4, _, _, _, _, _⟩) HM rfl rfl zt_Cells rfl ?_; clear HM; intro bR w HB HM; clear HB) | (refine wpM_alloc (o := ⟨some 5, _, _, _, _, _⟩) HM rfl rfl zt_Cells rfl ?_; clear HM; intro bC w HB HM; clear HB) | (refine wpM_alloc (o := ⟨some 7, _, _, _, _, _⟩) HM rfl rfl zt_Op rfl ?_; clear HM; intro bO w HB HM; clear HB) | (refine wpM_alloc (o := ⟨some 8, _, _, _, _, _⟩) HM rfl rfl zt_Cells rfl ?_; clear HM; intro bD w HB HM; clear HB) | (refine wpM_alloc (o := ⟨some 9, _, _, _, _, _⟩) HM rfl rfl zt_Answer rfl ?_; clear HM; intro bA w HB HM; clear HB) | (refine wpM_box HM rfl rfl rfl rfl ?_; clear HM; intro b w HB HM; clear HB) | (refine wpM_alloc HM rfl rfl zt_Cells rfl ?_; clear HM; intro b w HB HM; clear HB) | (refine wpM_alloc HM rfl rfl zt_Answer rfl ?_; clear HM; intro b w HB HM; clear HB) | (refine wpM_alloc HM rfl rfl zt_Slots rfl ?_; clear HM; intro b w HB HM; clear HB) | (refine wpM_load (ty := 3) HM rfl rfl rfl (by repeat (first | exact Sel.head | apply Sel.tail)) (by first | rfl | assumption) (by kernel_rfl) ?_) | (refine wpM_loadR (ty := 3) HM rfl rfl rfl (by repeat (first | exact Sel.head | apply Sel.tail)) (by first | rfl | assumption) (by kernel_rfl) ?_) | (refine wpM_load (ty := 42) HM rfl rfl rfl (by repeat (first | exact Sel.head | apply Sel.tail)) (by first | rfl | assumption) (by kernel_rfl) ?_) | (refine wpM_loadR (ty := 42) HM rfl rfl rfl (by repeat (first | exact Sel.head | apply Sel.tail)) (by first | rfl | assumption) (by kernel_rfl) ?_) | (refine wpM_store HM rfl rfl rfl (by (conv => lhs; whnf); try rfl) (by repeat (first | exact Sel.head | apply Sel.tail)) (by simp) (by kernel_rfl) (by rfl) ?_; clear HM; intro w HM; try simp only [List.set_cons_zero, List.set_cons_succ] at HM))
  go_loopw [17] (fun iv wr => ∃ i : Nat, i ≤ m ∧ iv = .int .i64 i ∧ Mem W (fun _ => False) [.blk bC (u64s (madeTo kind f i)) 44, .blk bR (u64s (List.replicate 17 0)) 44] wr) (fun iv _ => m - (intOf iv).toNat)
  case atStart => exact ⟨0, by omega, rfl, HM⟩
  case round =>
    clear HM
    obtain ⟨i, hi, rfl, HM⟩ := hrel
    have HC0C := Lib.hid (cells_agg _ (objOK_len (HOK.out i)))
    have HC0A := Lib.hid (cells_all (madeTo kind f i))
    have HC0L : Hid ((u64s (madeTo kind f i)).length = (u64s (List.replicate 17 0)).length) := Lib.hid (by rw [u64s_len, objOK_len (HOK.out i)]; rfl)
    by_cases hlt : i < m
    · obtain ⟨b1, off, rfl, hlb, hc⟩ := HROW.out.at i hlt
      have HLB := Lib.hid hlb
      have HOA : Hid (W.rangeAt b1 (off + i * 3) [.int .i64 (f i 0), .int .i64 (f i 1), .int .i64 (f i 2)]) := Lib.hid (range3 (hc 0 (by omega)).1 (hc 1 (by omega)).1 (hc 2 (by omega)).1)
      have hstep : madeTo kind f (i + 1) = if opOk (f i 0) (f i 1) (f i 2) = true then (objR kind (madeTo kind f i) (f i 0) (f i 1) (f i 2)).1 else madeTo kind f i := rfl
      have hok1 := HOK.out (i + 1)
      clear hc hlb
      obtain ⟨c1, hmt⟩ : ∃ c1, madeTo kind f (i + 1) = c1 := ⟨_, rfl⟩
      rw [hmt] at hstep hok1
      have HMT := Lib.hid hmt
      clear hmt
      generalize f i 0 = k at *
      generalize f i 1 = key at *
      generalize f i 2 = x at *
      have HST := Lib.hid hstep
      have HOKI := Lib.hid (HOK.out i)
      have HOK1 := Lib.hid hok1
      clear hstep hok1
      go_wp2_with (first | (refine wpM_loadOldA (ty := 30) HM rfl rfl rfl HOA.out HLB.out (fun h => h.elim) Try.underlying30 rfl (by kernel_rfl) ?_) | (refine wpM_loadAll (ty := 44) HM rfl rfl rfl (by repeat (first | exact Sel.head | apply Sel.tail)) (by exact HC0C.out) ?_) | (refine wpM_storeAll HM rfl rfl rfl rfl (by repeat (first | exact Sel.head | apply Sel.tail)) (by rfl) (by kernel_rfl) (by rfl) ?_; clear HM; intro w HM) | (refine wpM_loadAll (ty := 30) HM rfl rfl rfl (by repeat (first | exact Sel.head | apply Sel.tail)) (by kernel_rfl) ?_) | (refine wpM_loadAll (ty := 26) HM rfl rfl rfl (by repeat (first | exact Sel.head | apply Sel.tail)) (by kernel_rfl) ?_) | (refine wpM_alloc (o := ⟨some 4, _, _, _, _, _⟩) HM rfl rfl zt_Cells rfl ?_; clear HM; intro bR w HB HM; clear HB) | (refine wpM_alloc (o := ⟨some 5, _, _, _, _, _⟩) HM rfl rfl zt_Cells rfl ?_; clear HM; intro bC w HB HM; clear HB) | (refine wpM_alloc (o := ⟨some 7, _, _, _, _, _⟩) HM rfl rfl zt_Op rfl ?_; clear HM; intro bO w HB HM; clear HB) | (refine wpM_alloc (o := ⟨some 8, _, _, _, _, _⟩) HM rfl rfl zt_Cells rfl ?_; clear HM; intro bD w HB HM; clear HB) | (refine wpM_alloc (o := ⟨some 9, _, _, _, _, _⟩) HM rfl rfl zt_Answer rfl ?_; clear HM; intro bA w HB HM; clear HB) | (refine wpM_box HM rfl rfl rfl rfl ?_; clear HM; intro b w HB HM; clear HB) | (refine wpM_alloc HM rfl rfl zt_Cells rfl ?_; clear HM; intro b w HB HM; clear HB) | (refine wpM_alloc HM rfl rfl zt_Answer rfl ?_; clear HM; intro b w HB HM; clear HB) | (refine wpM_alloc HM rfl rfl zt_Slots rfl ?_; clear HM; intro b w HB HM; clear HB) | (refine wpM_load (ty := 3) HM rfl rfl rfl (by repeat (first | exact Sel.head | apply Sel.tail)) (by first | rfl | assumption) (by kernel_rfl) ?_) | (refine wpM_loadR (ty := 3) HM rfl rfl rfl (by repeat (first | exact Sel.head | apply Sel.tail)) (by first | rfl | assumption) (by kernel_rfl) ?_) | (refine wpM_load (ty := 42) HM rfl rfl rfl (by repeat (first | exact Sel.head | apply Sel.tail)) (by first | rfl | assumption) (by kernel_rfl) ?_) | (refine wpM_loadR (ty := 42) HM rfl rfl rfl (by repeat (first | exact Sel.head | apply Sel.tail)) (by first | rfl | assumption) (by kernel_rfl) ?_) | (refine wpM_store HM rfl rfl rfl (by (conv => lhs; whnf); try rfl) (by repeat (first | exact Sel.head | apply Sel.tail)) (by simp) (by kernel_rfl) (by rfl) ?_; clear HM; intro w HM; try simp only [List.set_cons_zero, List.set_cons_succ] at HM))
      by_cases hop : opOk k key x = true
      · generalize he : objR kind (madeTo kind f i) k key x = q at *
        obtain ⟨o', c, r⟩ := q
        have hc1 : c1 = o' := by have := HST.out; rw [if_pos hop] at this; exact this
        subst hc1
        have HE := Lib.hid he
        have HC1C := Lib.hid (cells_agg c1 (objOK_len HOK1.out))
        have HC1A := Lib.hid (cells_all c1)
        have HC1L : Hid ((u64s c1).length = (u64s (List.replicate 17 0)).length) := Lib.hid (by rw [u64s_len, objOK_len HOK1.out]; rfl)
        have HC2L : Hid ((u64s c1).length = (u64s (madeTo kind f i)).length) := Lib.hid (by rw [u64s_len, u64s_len, objOK_len HOK1.out, objOK_len HOKI.out])
        clear he HST
        refine (object_do _ kind _ HOKI.out k key x hop HE.out).mono ?_
        rintro e w ⟨rfl, hb⟩
        replace HM := HM.call hb
        clear hb
        go_wp2_with (first | (refine wpM_storeAll HM rfl rfl rfl rfl (by repeat (first | exact Sel.head | apply Sel.tail)) (by exact HC1L.out) (by exact HC1C.out) (by exact HC1A.out) ?_; clear HM; intro w HM) | (refine wpM_loadAll (ty := 44) HM rfl rfl rfl (by repeat (first | exact Sel.head | apply Sel.tail)) (by exact HC1C.out) ?_) | (refine wpM_storeAll HM rfl rfl rfl rfl (by repeat (first | exact Sel.head | apply Sel.tail)) (by exact HC2L.out) (by exact HC1C.out) (by exact HC1A.out) ?_; clear HM; intro w HM) | (refine wpM_storeAll HM rfl rfl rfl rfl (by repeat (first | exact Sel.head | apply Sel.tail)) (by rfl) (by kernel_rfl) (by rfl) ?_; clear HM; intro w HM) | (refine wpM_loadAll (ty := 30) HM rfl rfl rfl (by repeat (first | exact Sel.head | apply Sel.tail)) (by kernel_rfl) ?_) | (refine wpM_loadAll (ty := 26) HM rfl rfl rfl (by repeat (first | exact Sel.head | apply Sel.tail)) (by kernel_rfl) ?_) | (refine wpM_alloc (o := ⟨some 4, _, _, _, _, _⟩) HM rfl rfl zt_Cells rfl ?_; clear HM; intro bR w HB HM; clear HB) | (refine wpM_alloc (o := ⟨some 5, _, _, _, _, _⟩) HM rfl rfl zt_Cells rfl ?_; clear HM; intro bC w HB HM; clear HB) | (refine wpM_alloc (o := ⟨some 7, _, _, _, _, _⟩) HM rfl rfl zt_Op rfl ?_; clear HM; intro bO w HB HM; clear HB) | (refine wpM_alloc (o := ⟨some 8, _, _, _, _, _⟩) HM rfl rfl zt_Cells rfl ?_; clear HM; intro bD w HB HM; clear HB) | (refine wpM_alloc (o := ⟨some 9, _, _, _, _, _⟩) HM rfl rfl zt_Answer rfl ?_; clear HM; intro bA w HB HM; clear HB) | (refine wpM_box HM rfl rfl rfl rfl ?_; clear HM; intro b w HB HM; clear HB) | (refine wpM_alloc HM rfl rfl zt_Cells rfl ?_; clear HM; intro b w HB HM; clear HB) | (refine wpM_alloc HM rfl rfl zt_Answer rfl ?_; clear HM; intro b w HB HM; clear HB) | (refine wpM_alloc HM rfl rfl zt_Slots rfl ?_; clear HM; intro b w HB HM; clear HB) | (refine wpM_load (ty := 3) HM rfl rfl rfl (by repeat (first | exact Sel.head | apply Sel.tail)) (by first | rfl | assumption) (by kernel_rfl) ?_) | (refine wpM_loadR (ty := 3) HM rfl rfl rfl (by repeat (first | exact Sel.head | apply Sel.tail)) (by first | rfl | assumption) (by kernel_rfl) ?_) | (refine wpM_load (ty := 42) HM rfl rfl rfl (by repeat (first | exact Sel.head | apply Sel.tail)) (by first | rfl | assumption) (by kernel_rfl) ?_) | (refine wpM_loadR (ty := 42) HM rfl rfl rfl (by repeat (first | exact Sel.head | apply Sel.tail)) (by first | rfl | assumption) (by kernel_rfl) ?_) | (refine wpM_store HM rfl rfl rfl (by (conv => lhs; whnf); try rfl) (by repeat (first | exact Sel.head | apply Sel.tail)) (by simp) (by kernel_rfl) (by rfl) ?_; clear HM; intro w HM; try simp only [List.set_cons_zero, List.set_cons_succ] at HM))
        replace HM := HM.sub (M' := [.blk bC (u64s c1) 44, .blk bR (u64s (List.replicate 17 0)) 44]) (by repeat (first | exact List.Sublist.refl _ | apply List.Sublist.cons_cons | apply List.Sublist.cons))
        go_roundw
        case rel => exact ⟨i + 1, by omega, by go_num, by rw [HMT.out]; exact HM⟩
        case measure => simp [intOf]; omega
      · have hop2 : opOk k key x = false := by simpa using hop
        have hc1 : c1 = madeTo kind f i := by have := HST.out; rw [if_neg hop] at this; exact this
        subst hc1
        clear HST
        refine (do_bad _ kind _ k key x hop2).mono ?_
        rintro e w ⟨rfl, hb⟩
        replace HM := HM.call hb
        clear hb
        go_wp2_with (first | (refine wpM_storeAll HM rfl rfl rfl rfl (by repeat (first | exact Sel.head | apply Sel.tail)) (by rfl) (by kernel_rfl) (by rfl) ?_; clear HM; intro w HM) | (refine wpM_loadAll (ty := 30) HM rfl rfl rfl (by repeat (first | exact Sel.head | apply Sel.tail)) (by kernel_rfl) ?_) | (refine wpM_loadAll (ty := 26) HM rfl rfl rfl (by repeat (first | exact Sel.head | apply Sel.tail)) (by kernel_rfl) ?_) | (refine wpM_alloc (o := ⟨some 4, _, _, _, _, _⟩) HM rfl rfl zt_Cells rfl ?_; clear HM; intro bR w HB HM; clear HB) | (refine wpM_alloc (o := ⟨some 5, _, _, _, _, _⟩) HM rfl rfl zt_Cells rfl ?_; clear HM; intro bC w HB HM; clear HB) | (refine wpM_alloc (o := ⟨some 7, _, _, _, _, _⟩) HM rfl rfl zt_Op rfl ?_; clear HM; intro bO w HB HM; clear HB) | (refine wpM_alloc (o := ⟨some 8, _, _, _, _, _⟩) HM rfl rfl zt_Cells rfl ?_; clear HM; intro bD w HB HM; clear HB) | (refine wpM_alloc (o := ⟨some 9, _, _, _, _, _⟩) HM rfl rfl zt_Answer rfl ?_; clear HM; intro bA w HB HM; clear HB) | (refine wpM_box HM rfl rfl rfl rfl ?_; clear HM; intro b w HB HM; clear HB) | (refine wpM_alloc HM rfl rfl zt_Cells rfl ?_; clear HM; intro b w HB HM; clear HB) | (refine wpM_alloc HM rfl rfl zt_Answer rfl ?_; clear HM; intro b w HB HM; clear HB) | (refine wpM_alloc HM rfl rfl zt_Slots rfl ?_; clear HM; intro b w HB HM; clear HB) | (refine wpM_load (ty := 3) HM rfl rfl rfl (by repeat (first | exact Sel.head | apply Sel.tail)) (by first | rfl | assumption) (by kernel_rfl) ?_) | (refine wpM_loadR (ty := 3) HM rfl rfl rfl (by repeat (first | exact Sel.head | apply Sel.tail)) (by first | rfl | assumption) (by kernel_rfl) ?_) | (refine wpM_load (ty := 42) HM rfl rfl rfl (by repeat (first | exact Sel.head | apply Sel.tail)) (by first | rfl | assumption) (by kernel_rfl) ?_) | (refine wpM_loadR (ty := 42) HM rfl rfl rfl (by repeat (first | exact Sel.head | apply Sel.tail)) (by first | rfl | assumption) (by kernel_rfl) ?_) | (refine wpM_store HM rfl rfl rfl (by (conv => lhs; whnf); try rfl) (by repeat (first | exact Sel.head | apply Sel.tail)) (by simp) (by kernel_rfl) (by rfl) ?_; clear HM; intro w HM; try simp only [List.set_cons_zero, List.set_cons_succ] at HM))
        replace HM := HM.sub (M' := [.blk bC (u64s (madeTo kind f i)) 44, .blk bR (u64s (List.replicate 17 0)) 44]) (by repeat (first | exact List.Sublist.refl _ | apply List.Sublist.cons_cons | apply List.Sublist.cons))
        go_roundw
        case rel => exact ⟨i + 1, by omega, by go_num, by rw [HMT.out]; exact HM⟩
        case measure => simp [intOf]; omega
    · obtain rfl : i = m := by omega
      go_wp2_with (first | (refine wpM_loadAll (ty := 44) HM rfl rfl rfl (by repeat (first | exact Sel.head | apply Sel.tail)) (by exact HC0C.out) ?_) | (refine wpM_storeAll HM rfl rfl rfl rfl (by repeat (first | exact Sel.head | apply Sel.tail)) (by exact HC0L.out) (by exact HC0C.out) (by exact HC0A.out) ?_; clear HM; intro w HM) | (refine wpM_storeAll HM rfl rfl rfl rfl (by repeat (first | exact Sel.head | apply Sel.tail)) (by rfl) (by kernel_rfl) (by rfl) ?_; clear HM; intro w HM) | (refine wpM_loadAll (ty := 30) HM rfl rfl rfl (by repeat (first | exact Sel.head | apply Sel.tail)) (by kernel_rfl) ?_) | (refine wpM_loadAll (ty := 26) HM rfl rfl rfl (by repeat (first | exact Sel.head | apply Sel.tail)) (by kernel_rfl) ?_) | (refine wpM_alloc (o := ⟨some 4, _, _, _, _, _⟩) HM rfl rfl zt_Cells rfl ?_; clear HM; intro bR w HB HM; clear HB) | (refine wpM_alloc (o := ⟨some 5, _, _, _, _, _⟩) HM rfl rfl zt_Cells rfl ?_; clear HM; intro bC w HB HM; clear HB) | (refine wpM_alloc (o := ⟨some 7, _, _, _, _, _⟩) HM rfl rfl zt_Op rfl ?_; clear HM; intro bO w HB HM; clear HB) | (refine wpM_alloc (o := ⟨some 8, _, _, _, _, _⟩) HM rfl rfl zt_Cells rfl ?_; clear HM; intro bD w HB HM; clear HB) | (refine wpM_alloc (o := ⟨some 9, _, _, _, _, _⟩) HM rfl rfl zt_Answer rfl ?_; clear HM; intro bA w HB HM; clear HB) | (refine wpM_box HM rfl rfl rfl rfl ?_; clear HM; intro b w HB HM; clear HB) | (refine wpM_alloc HM rfl rfl zt_Cells rfl ?_; clear HM; intro b w HB HM; clear HB) | (refine wpM_alloc HM rfl rfl zt_Answer rfl ?_; clear HM; intro b w HB HM; clear HB) | (refine wpM_alloc HM rfl rfl zt_Slots rfl ?_; clear HM; intro b w HB HM; clear HB) | (refine wpM_load (ty := 3) HM rfl rfl rfl (by repeat (first | exact Sel.head | apply Sel.tail)) (by first | rfl | assumption) (by kernel_rfl) ?_) | (refine wpM_loadR (ty := 3) HM rfl rfl rfl (by repeat (first | exact Sel.head | apply Sel.tail)) (by first | rfl | assumption) (by kernel_rfl) ?_) | (refine wpM_load (ty := 42) HM rfl rfl rfl (by repeat (first | exact Sel.head | apply Sel.tail)) (by first | rfl | assumption) (by kernel_rfl) ?_) | (refine wpM_loadR (ty := 42) HM rfl rfl rfl (by repeat (first | exact Sel.head | apply Sel.tail)) (by first | rfl | assumption) (by kernel_rfl) ?_) | (refine wpM_store HM rfl rfl rfl (by (conv => lhs; whnf); try rfl) (by repeat (first | exact Sel.head | apply Sel.tail)) (by simp) (by kernel_rfl) (by rfl) ?_; clear HM; intro w HM; try simp only [List.set_cons_zero, List.set_cons_succ] at HM))
      exact bodyPost_ret (v := .agg (u64s (madeTo kind f i)).toArray) (resM_c HM rfl (by rfl) (by repeat (first | exact Sel.head | apply Sel.tail)) (by exact HC0C.out)) rfl ⟨rfl, HM.below⟩
end Go.Proofs.Ytpedkcpkdacnlaa
end
section
namespace Go.Proofs.Ytpedkcpkdacnlaa
open Go.RowKit
set_option linter.unusedVariables false
set_option maxRecDepth 20000 in
set_option maxHeartbeats 4000000 in
theorem things_any (W : World) : Calls Try.prog 33 #[] W fun e w' => e = .returned (.bool true) ∧ Below W.heap.size W w' := by
  have HM := Mem.start W
  have ok1 : ObjOK 2 (lstC [5]) := .inl ⟨by decide, by decide, [5], rfl, by decide, (fun v hv => by simp at hv; omega), fun h => by cases h⟩
  have ok2 : ObjOK 1 (lstC [7, 8]) := .inl ⟨by decide, by decide, [7, 8], rfl, by decide, (fun v hv => by simp at hv; omega), fun h => by cases h⟩
  have HO1 := Lib.hid ok1
  have HO2 := Lib.hid ok2
  clear ok1 ok2
  go_enter Try.func33, Try.ntmps33
  go_wp2_with (first | (refine wpM_storeAll HM rfl rfl rfl rfl (by repeat (first | exact Sel.head | apply Sel.tail)) (by rfl) (by kernel_rfl) (by rfl) ?_; clear HM; intro w HM) | (refine wpM_loadAll (ty := 30) HM rfl rfl rfl (by repeat (first | exact Sel.head | apply Sel.tail)) (by kernel_rfl) ?_) | (refine wpM_loadAll (ty := 26) HM rfl rfl rfl (by repeat (first | exact Sel.head | apply Sel.tail)) (by kernel_rfl) ?_) | (refine wpM_alloc (o := ⟨some 1, _, _, _, _, _⟩) HM rfl rfl zt_Cells rfl ?_; clear HM; intro bC w HB HM; clear HB) | (refine wpM_alloc (o := ⟨some 2, _, _, _, _, _⟩) HM rfl rfl zt_Answer rfl ?_; clear HM; intro bA w HB HM; clear HB) | (refine wpM_box HM rfl rfl rfl rfl ?_; clear HM; intro b w HB HM; clear HB) | (refine wpM_alloc HM rfl rfl zt_Cells rfl ?_; clear HM; intro b w HB HM; clear HB) | (refine wpM_alloc HM rfl rfl zt_Answer rfl ?_; clear HM; intro b w HB HM; clear HB) | (refine wpM_alloc HM rfl rfl zt_Slots rfl ?_; clear HM; intro b w HB HM; clear HB) | (refine wpM_load (ty := 3) HM rfl rfl rfl (by repeat (first | exact Sel.head | apply Sel.tail)) (by first | rfl | assumption) (by kernel_rfl) ?_) | (refine wpM_loadR (ty := 3) HM rfl rfl rfl (by repeat (first | exact Sel.head | apply Sel.tail)) (by first | rfl | assumption) (by kernel_rfl) ?_) | (refine wpM_load (ty := 42) HM rfl rfl rfl (by repeat (first | exact Sel.head | apply Sel.tail)) (by first | rfl | assumption) (by kernel_rfl) ?_) | (refine wpM_loadR (ty := 42) HM rfl rfl rfl (by repeat (first | exact Sel.head | apply Sel.tail)) (by first | rfl | assumption) (by kernel_rfl) ?_) | (refine wpM_store HM rfl rfl rfl (by (conv => lhs; whnf); try rfl) (by repeat (first | exact Sel.head | apply Sel.tail)) (by simp) (by kernel_rfl) (by rfl) ?_; clear HM; intro w HM; try simp only [List.set_cons_zero, List.set_cons_succ] at HM))
  refine (object_do _ 2 (lstC [5]) HO1.out 2 0 0 (by decide) (o' := lstC []) (c := 1) (r := 5) (by decide)).mono ?_
  rintro e w ⟨rfl, hb⟩
  replace HM := HM.call hb
  clear hb
  go_wp2_with (first | (refine wpM_storeAll (ty := 44) HM rfl rfl rfl rfl (by repeat (first | exact Sel.head | apply Sel.tail)) (by rfl) (by kernel_rfl) (by rfl) ?_; clear HM; intro w HM) | (refine wpM_loadAll (ty := 44) HM rfl rfl rfl (by repeat (first | exact Sel.head | apply Sel.tail)) (by kernel_rfl) ?_) | (refine wpM_storeAll HM rfl rfl rfl rfl (by repeat (first | exact Sel.head | apply Sel.tail)) (by rfl) (by kernel_rfl) (by rfl) ?_; clear HM; intro w HM) | (refine wpM_loadAll (ty := 30) HM rfl rfl rfl (by repeat (first | exact Sel.head | apply Sel.tail)) (by kernel_rfl) ?_) | (refine wpM_loadAll (ty := 26) HM rfl rfl rfl (by repeat (first | exact Sel.head | apply Sel.tail)) (by kernel_rfl) ?_) | (refine wpM_alloc (o := ⟨some 1, _, _, _, _, _⟩) HM rfl rfl zt_Cells rfl ?_; clear HM; intro bC w HB HM; clear HB) | (refine wpM_alloc (o := ⟨some 2, _, _, _, _, _⟩) HM rfl rfl zt_Answer rfl ?_; clear HM; intro bA w HB HM; clear HB) | (refine wpM_box HM rfl rfl rfl rfl ?_; clear HM; intro b w HB HM; clear HB) | (refine wpM_alloc HM rfl rfl zt_Cells rfl ?_; clear HM; intro b w HB HM; clear HB) | (refine wpM_alloc HM rfl rfl zt_Answer rfl ?_; clear HM; intro b w HB HM; clear HB) | (refine wpM_alloc HM rfl rfl zt_Slots rfl ?_; clear HM; intro b w HB HM; clear HB) | (refine wpM_load (ty := 3) HM rfl rfl rfl (by repeat (first | exact Sel.head | apply Sel.tail)) (by first | rfl | assumption) (by kernel_rfl) ?_) | (refine wpM_loadR (ty := 3) HM rfl rfl rfl (by repeat (first | exact Sel.head | apply Sel.tail)) (by first | rfl | assumption) (by kernel_rfl) ?_) | (refine wpM_load (ty := 42) HM rfl rfl rfl (by repeat (first | exact Sel.head | apply Sel.tail)) (by first | rfl | assumption) (by kernel_rfl) ?_) | (refine wpM_loadR (ty := 42) HM rfl rfl rfl (by repeat (first | exact Sel.head | apply Sel.tail)) (by first | rfl | assumption) (by kernel_rfl) ?_) | (refine wpM_store HM rfl rfl rfl (by (conv => lhs; whnf); try rfl) (by repeat (first | exact Sel.head | apply Sel.tail)) (by simp) (by kernel_rfl) (by rfl) ?_; clear HM; intro w HM; try simp only [List.set_cons_zero, List.set_cons_succ] at HM))
  refine (object_size _ 1 (lstC [7, 8]) HO2.out).mono ?_
  rintro e w ⟨rfl, hb⟩
  replace HM := HM.call hb
  clear hb
  rw [show (objR 1 (lstC [7, 8]) 6 0 0).2.2 = 2 from by decide]
  go_wp2_with (first | (refine wpM_eqlW (t := 44) (xs := lstC []) (ys := List.replicate 17 0) (k := .u64) (r := true) rfl rfl rfl rfl (by rfl) (by rfl) Try.underlying44 (by kernel_rfl) Try.underlying42 (by kernel_rfl) (by decide) ?_) | (refine wpM_storeAll (ty := 44) HM rfl rfl rfl rfl (by repeat (first | exact Sel.head | apply Sel.tail)) (by rfl) (by kernel_rfl) (by rfl) ?_; clear HM; intro w HM) | (refine wpM_loadAll (ty := 44) HM rfl rfl rfl (by repeat (first | exact Sel.head | apply Sel.tail)) (by kernel_rfl) ?_) | (refine wpM_storeAll HM rfl rfl rfl rfl (by repeat (first | exact Sel.head | apply Sel.tail)) (by rfl) (by kernel_rfl) (by rfl) ?_; clear HM; intro w HM) | (refine wpM_loadAll (ty := 30) HM rfl rfl rfl (by repeat (first | exact Sel.head | apply Sel.tail)) (by kernel_rfl) ?_) | (refine wpM_loadAll (ty := 26) HM rfl rfl rfl (by repeat (first | exact Sel.head | apply Sel.tail)) (by kernel_rfl) ?_) | (refine wpM_alloc (o := ⟨some 1, _, _, _, _, _⟩) HM rfl rfl zt_Cells rfl ?_; clear HM; intro bC w HB HM; clear HB) | (refine wpM_alloc (o := ⟨some 2, _, _, _, _, _⟩) HM rfl rfl zt_Answer rfl ?_; clear HM; intro bA w HB HM; clear HB) | (refine wpM_box HM rfl rfl rfl rfl ?_; clear HM; intro b w HB HM; clear HB) | (refine wpM_alloc HM rfl rfl zt_Cells rfl ?_; clear HM; intro b w HB HM; clear HB) | (refine wpM_alloc HM rfl rfl zt_Answer rfl ?_; clear HM; intro b w HB HM; clear HB) | (refine wpM_alloc HM rfl rfl zt_Slots rfl ?_; clear HM; intro b w HB HM; clear HB) | (refine wpM_load (ty := 3) HM rfl rfl rfl (by repeat (first | exact Sel.head | apply Sel.tail)) (by first | rfl | assumption) (by kernel_rfl) ?_) | (refine wpM_loadR (ty := 3) HM rfl rfl rfl (by repeat (first | exact Sel.head | apply Sel.tail)) (by first | rfl | assumption) (by kernel_rfl) ?_) | (refine wpM_load (ty := 42) HM rfl rfl rfl (by repeat (first | exact Sel.head | apply Sel.tail)) (by first | rfl | assumption) (by kernel_rfl) ?_) | (refine wpM_loadR (ty := 42) HM rfl rfl rfl (by repeat (first | exact Sel.head | apply Sel.tail)) (by first | rfl | assumption) (by kernel_rfl) ?_) | (refine wpM_store HM rfl rfl rfl (by (conv => lhs; whnf); try rfl) (by repeat (first | exact Sel.head | apply Sel.tail)) (by simp) (by kernel_rfl) (by rfl) ?_; clear HM; intro w HM; try simp only [List.set_cons_zero, List.set_cons_succ] at HM))
  refine (right_list4 _ [1, 3] (by decide) (fun v hv => by simp at hv; omega)).mono ?_
  rintro e w ⟨rfl, hb⟩
  replace HM := HM.call hb
  clear hb
  rw [show heapB [1, 3] = true from by decide]
  go_wp2_with (first | (refine wpM_storeAll HM rfl rfl rfl rfl (by repeat (first | exact Sel.head | apply Sel.tail)) (by rfl) (by kernel_rfl) (by rfl) ?_; clear HM; intro w HM) | (refine wpM_loadAll (ty := 30) HM rfl rfl rfl (by repeat (first | exact Sel.head | apply Sel.tail)) (by kernel_rfl) ?_) | (refine wpM_loadAll (ty := 26) HM rfl rfl rfl (by repeat (first | exact Sel.head | apply Sel.tail)) (by kernel_rfl) ?_) | (refine wpM_alloc (o := ⟨some 1, _, _, _, _, _⟩) HM rfl rfl zt_Cells rfl ?_; clear HM; intro bC w HB HM; clear HB) | (refine wpM_alloc (o := ⟨some 2, _, _, _, _, _⟩) HM rfl rfl zt_Answer rfl ?_; clear HM; intro bA w HB HM; clear HB) | (refine wpM_box HM rfl rfl rfl rfl ?_; clear HM; intro b w HB HM; clear HB) | (refine wpM_alloc HM rfl rfl zt_Cells rfl ?_; clear HM; intro b w HB HM; clear HB) | (refine wpM_alloc HM rfl rfl zt_Answer rfl ?_; clear HM; intro b w HB HM; clear HB) | (refine wpM_alloc HM rfl rfl zt_Slots rfl ?_; clear HM; intro b w HB HM; clear HB) | (refine wpM_load (ty := 3) HM rfl rfl rfl (by repeat (first | exact Sel.head | apply Sel.tail)) (by first | rfl | assumption) (by kernel_rfl) ?_) | (refine wpM_loadR (ty := 3) HM rfl rfl rfl (by repeat (first | exact Sel.head | apply Sel.tail)) (by first | rfl | assumption) (by kernel_rfl) ?_) | (refine wpM_load (ty := 42) HM rfl rfl rfl (by repeat (first | exact Sel.head | apply Sel.tail)) (by first | rfl | assumption) (by kernel_rfl) ?_) | (refine wpM_loadR (ty := 42) HM rfl rfl rfl (by repeat (first | exact Sel.head | apply Sel.tail)) (by first | rfl | assumption) (by kernel_rfl) ?_) | (refine wpM_store HM rfl rfl rfl (by (conv => lhs; whnf); try rfl) (by repeat (first | exact Sel.head | apply Sel.tail)) (by simp) (by kernel_rfl) (by rfl) ?_; clear HM; intro w HM; try simp only [List.set_cons_zero, List.set_cons_succ] at HM))
  refine (right_list4 _ [3, 1] (by decide) (fun v hv => by simp at hv; omega)).mono ?_
  rintro e w ⟨rfl, hb⟩
  replace HM := HM.call hb
  clear hb
  rw [show heapB [3, 1] = false from by decide]
  go_wp2_with (first | (refine wpM_storeAll HM rfl rfl rfl rfl (by repeat (first | exact Sel.head | apply Sel.tail)) (by rfl) (by kernel_rfl) (by rfl) ?_; clear HM; intro w HM) | (refine wpM_loadAll (ty := 30) HM rfl rfl rfl (by repeat (first | exact Sel.head | apply Sel.tail)) (by kernel_rfl) ?_) | (refine wpM_loadAll (ty := 26) HM rfl rfl rfl (by repeat (first | exact Sel.head | apply Sel.tail)) (by kernel_rfl) ?_) | (refine wpM_alloc (o := ⟨some 1, _, _, _, _, _⟩) HM rfl rfl zt_Cells rfl ?_; clear HM; intro bC w HB HM; clear HB) | (refine wpM_alloc (o := ⟨some 2, _, _, _, _, _⟩) HM rfl rfl zt_Answer rfl ?_; clear HM; intro bA w HB HM; clear HB) | (refine wpM_box HM rfl rfl rfl rfl ?_; clear HM; intro b w HB HM; clear HB) | (refine wpM_alloc HM rfl rfl zt_Cells rfl ?_; clear HM; intro b w HB HM; clear HB) | (refine wpM_alloc HM rfl rfl zt_Answer rfl ?_; clear HM; intro b w HB HM; clear HB) | (refine wpM_alloc HM rfl rfl zt_Slots rfl ?_; clear HM; intro b w HB HM; clear HB) | (refine wpM_load (ty := 3) HM rfl rfl rfl (by repeat (first | exact Sel.head | apply Sel.tail)) (by first | rfl | assumption) (by kernel_rfl) ?_) | (refine wpM_loadR (ty := 3) HM rfl rfl rfl (by repeat (first | exact Sel.head | apply Sel.tail)) (by first | rfl | assumption) (by kernel_rfl) ?_) | (refine wpM_load (ty := 42) HM rfl rfl rfl (by repeat (first | exact Sel.head | apply Sel.tail)) (by first | rfl | assumption) (by kernel_rfl) ?_) | (refine wpM_loadR (ty := 42) HM rfl rfl rfl (by repeat (first | exact Sel.head | apply Sel.tail)) (by first | rfl | assumption) (by kernel_rfl) ?_) | (refine wpM_store HM rfl rfl rfl (by (conv => lhs; whnf); try rfl) (by repeat (first | exact Sel.head | apply Sel.tail)) (by simp) (by kernel_rfl) (by rfl) ?_; clear HM; intro w HM; try simp only [List.set_cons_zero, List.set_cons_succ] at HM))
  go_ret
  exact ⟨rfl, HM.below⟩
end Go.Proofs.Ytpedkcpkdacnlaa
end
section
namespace Go.Proofs.Ytpedkcpkdacnlaa
set_option linter.unusedVariables false
theorem tally_law (n k x : Int) (h0 : 0 ≤ n) (h1 : n ≤ 4294967295) (x0 : 0 ≤ x) (x1 : x ≤ 4294967295) (ho : 1 ≤ k ∧ k ≤ 6) :
    AnsOK (tallyC n k x) (tallyV n k x) ∧ ((tallyC n k x ≠ 1 ∨ k = 5 ∨ k = 6) → tallyR n k x = n) ∧ (tallyC n k x = 5 ↔ (k = 3 ∨ k = 4)) := by
  unfold AnsOK tallyC tallyV tallyR
  by_cases k1 : k = 1
  · subst k1; simp only [if_true]; split <;> (refine ⟨by omega, ?_, by simp⟩; intro h; simp at h <;> omega)
  · by_cases k2 : k = 2
    · subst k2; simp only [k1, if_true, if_false]; split <;> (refine ⟨by omega, ?_, by simp⟩; intro h; simp at h <;> omega)
    · simp only [k1, k2, if_false]
      by_cases k5 : k = 5 ∨ k = 6
      · rw [if_pos k5, if_pos k5]; exact ⟨by omega, fun _ => trivial, by omega⟩
      · rw [if_neg k5, if_neg k5]; exact ⟨by omega, fun _ => trivial, by omega⟩
theorem tab_law {t : List Int} (g : Good t) (k key x : Int) (x0 : 0 ≤ x) (x1 : x ≤ 4294967295) (ho : 1 ≤ k ∧ k ≤ 6) (y0 : 0 ≤ key) (y1 : key ≤ 1000) :
    AnsOK (doT t k key x).2.1 (doT t k key x).2.2 ∧ (((doT t k key x).2.1 ≠ 1 ∨ k = 5 ∨ k = 6) → (doT t k key x).1 = t) ∧ ((doT t k key x).2.1 = 5 ↔ (k ≠ 6 ∧ (k = 3 ∨ k = 4 ∨ key = 0))) := by
  by_cases h6 : k = 6
  · unfold doT; rw [if_pos h6]
    have := g.few
    exact ⟨by unfold AnsOK; dsimp only; omega, fun _ => rfl, by dsimp only; omega⟩
  by_cases hw : (k ≠ 1 ∧ k ≠ 2 ∧ k ≠ 5) ∨ key < 1 ∨ 1000 < key
  · unfold doT; rw [if_neg h6, if_pos hw]; exact ⟨by unfold AnsOK; dsimp only; omega, fun _ => rfl, ⟨fun _ => by omega, fun _ => rfl⟩⟩
  obtain ⟨i, hi, hai, -, -⟩ := g.at key
  have hv0 := g.val0 i hi
  have hv1 := g.val1 i hi
  have htv : tv t (atI t key).toNat = tv t i := by rw [hai]; rfl
  unfold doT
  rw [if_neg h6, if_neg hw, htv]
  by_cases k1 : k = 1
  · rw [if_pos k1]
    split
    · exact ⟨by unfold AnsOK; dsimp only; omega, fun _ => rfl, by dsimp only; omega⟩
    · exact ⟨by unfold AnsOK; dsimp only; omega, fun h => by dsimp only at h; omega, by dsimp only; omega⟩
  · rw [if_neg k1]
    split
    · exact ⟨by unfold AnsOK; dsimp only; omega, fun _ => rfl, by dsimp only; omega⟩
    · split
      · exact ⟨by unfold AnsOK; dsimp only; omega, fun h => by dsimp only at h; omega, by dsimp only; omega⟩
      · exact ⟨by unfold AnsOK; dsimp only; omega, fun _ => rfl, by dsimp only; omega⟩
theorem obj_law {kind : Int} {c : List Int} (h : ObjOK kind c) (k key x : Int) (ho : opOk k key x = true) :
    AnsOK (objR kind c k key x).2.1 (objR kind c k key x).2.2 ∧ (((objR kind c k key x).2.1 ≠ 1 ∨ k = 5 ∨ k = 6) → (objR kind c k key x).1 = c) ∧
    ((objR kind c k key x).2.1 = 5 ↔ (((k = 3 ∨ k = 4) ∧ kind ≠ 3) ∨ (kind = 5 ∧ k ≠ 6 ∧ (k = 3 ∨ k = 4 ∨ key = 0)))) := by
  unfold opOk at ho
  rw [decide_eq_true_eq] at ho
  obtain ⟨o1, o2, o3, o4, o5, o6⟩ := ho
  rcases h with ⟨k1, k4, l, rfl, hl, hr, hh⟩ | ⟨rfl, t, rfl, g⟩ | ⟨rfl, n, rfl, h0, h1⟩
  · rw [objR_list kind l k key x k1 k4]
    obtain ⟨a, b⟩ := lst_law kind l k x hl hr o5 o6 ⟨o1, o2⟩ k1 k4
    exact ⟨a.ans, fun h => by rw [a.same h], by dsimp only; rw [b]; omega⟩
  · rw [objR_table t g]
    obtain ⟨a, b, c⟩ := tab_law g k key x o5 o6 ⟨o1, o2⟩ o3 o4
    exact ⟨a, fun h => by rw [b h], by dsimp only; rw [c]; omega⟩
  · rw [objR_tally]
    obtain ⟨a, b, c⟩ := tally_law n k x h0 h1 o5 o6 ⟨o1, o2⟩
    exact ⟨a, fun h => by rw [b h], by dsimp only; rw [c]; omega⟩
end Go.Proofs.Ytpedkcpkdacnlaa
end
section
namespace Go.Proofs.Ytpedkcpkdacnlaa
open Go.ChangeShapes Go.WideShapes Go.Deep Go.ChangeAt
set_option maxRecDepth 20000
set_option linter.unusedVariables false
theorem blk_lt {w : World} {b o : Nat} {v : Value} (h : w.cell? ⟨b, o, none⟩ = some v) : b < w.heap.size := by
  unfold World.cell? at h
  by_cases hb : b < w.heap.size
  · exact hb
  · simp [Array.getElem?_eq_none (Nat.le_of_not_lt hb)] at h
theorem one_int {H : Type} {enc : TypeId × Value → H} {w : World} {base : Nat} {spare : Nat → Bool} {held : Bool} {n : Nat} {t : TypeId} {k : IntKind} {v : Value} {y : Option (DataW H × List MemPlace)} (ht : Try.prog.underlying t = some (.int k))
    (h : DataW.trod enc Try.prog w base spare held n t [v] = y) (hy : y.isSome) : ∃ z, v = .int k z ∧ (Lit.int k z).wf = true := by
  obtain ⟨x, rfl⟩ := Option.isSome_iff_exists.1 hy
  obtain ⟨z, h1, -, h2⟩ := DataW.trod_int ht h
  simp at h1
  exact ⟨z, h1, h2⟩
theorem cellsOp_of {H : Type} {enc : TypeId × Value → H} {w : World} {base : Nat} {spare : Nat → Bool} {held : Bool} {n : Nat} {cs : List Value} {y : Option (DataW H × List MemPlace)}
    (h : DataW.trod enc Try.prog w base spare held n 30 cs = y) (hy : y.isSome) :
    ∃ z0 z1 z2 : Int, cs = [.int .i64 z0, .int .i64 z1, .int .i64 z2] ∧ (Lit.int .i64 z0).wf = true ∧ (Lit.int .i64 z1).wf = true ∧ (Lit.int .i64 z2).wf = true := by
  obtain ⟨x, rfl⟩ := Option.isSome_iff_exists.1 hy
  obtain ⟨ys, n', -, -, hlen, hyl, hf⟩ := DataW.trod_struct Try.underlying30 h
  have hc : Try.prog.cellsOf 30 = 3 := by kernel_rfl
  have hc_int : Try.prog.cellsOf 3 = 1 := by kernel_rfl
  rw [hc] at hlen
  match cs, hlen with
  | [v0, v1, v2], _ =>
    have hyl' : ys.length = 3 := hyl
    have g0 : DataW.trod enc Try.prog w base spare held n' 3 (([v0, v1, v2].drop 0).take (Try.prog.cellsOf 3)) = ys[0]? := hf 0 _ rfl
    rw [hc_int] at g0
    dsimp only [List.drop, List.take] at g0
    have g1 : DataW.trod enc Try.prog w base spare held n' 3 (([v0, v1, v2].drop 1).take (Try.prog.cellsOf 3)) = ys[1]? := hf 1 _ rfl
    rw [hc_int] at g1
    dsimp only [List.drop, List.take] at g1
    have g2 : DataW.trod enc Try.prog w base spare held n' 3 (([v0, v1, v2].drop 2).take (Try.prog.cellsOf 3)) = ys[2]? := hf 2 _ rfl
    rw [hc_int] at g2
    dsimp only [List.drop, List.take] at g2
    obtain ⟨z0, rfl, w0⟩ := one_int Try.underlying3 g0 (by simp [hyl'])
    obtain ⟨z1, rfl, w1⟩ := one_int Try.underlying3 g1 (by simp [hyl'])
    obtain ⟨z2, rfl, w2⟩ := one_int Try.underlying3 g2 (by simp [hyl'])
    exact ⟨z0, z1, z2, rfl, w0, w1, w2⟩
theorem rowsOp_of {H : Type} {enc : TypeId × Value → H} {w : World} {base : Nat} {spare : Nat → Bool} {held : Bool} {a0 : Option Addr} {len0 cap0 : Nat} {d0 : DataW H} {p0 : List MemPlace}
    (h : DataW.Trod enc Try.prog w base spare held 40 (.slice a0 len0 cap0) d0 p0) : ∃ f, Rws 3 (fun _ => .i64) w a0 len0 cap0 f := by
  obtain ⟨fuel, hf⟩ := h
  have hc : Try.prog.cellsOf 30 = 3 := by kernel_rfl
  rcases open_slice Try.underlying40 hf with ⟨hcs, -⟩ | ⟨a, len, cap, m, n, D, Pl, hcs, hb, hl, hm, hmm, hx, hi⟩
  · simp [Value.cells] at hcs
    obtain ⟨rfl, rfl, rfl⟩ := hcs
    exact ⟨fun _ _ => 0, Nat.le_refl _, by omega, .inl rfl⟩
  · simp [Value.cells] at hcs
    obtain ⟨rfl, rfl, rfl⟩ := hcs
    unfold maxLen at hm
    rw [hc] at hi
    have hi' : ∀ i, i < len0 → ∃ z : Nat → Int, ∀ j, j < 3 → w.cell? (a.add (i * 3 + j)) = some (.int ((fun _ => .i64) j) (z j)) ∧ (Lit.int ((fun _ => .i64) j) (z j)).wf = true := by
      intro i hil
      obtain ⟨cs, h1, h2⟩ := hi i (by rw [hmm]; split <;> omega)
      obtain ⟨z0, z1, z2, rfl, w0, w1, w2⟩ := cellsOp_of h2 (by rfl)
      obtain ⟨-, -, hat⟩ := World.cells?_some h1
      refine ⟨fun j => [z0, z1, z2].getD j 0, fun j hj => ?_⟩
      rw [← Go.Deep.add_add, hat j (by simpa using hj)]
      match j, hj with
      | 0, _ => exact ⟨rfl, w0⟩
      | 1, _ => exact ⟨rfl, w1⟩
      | 2, _ => exact ⟨rfl, w2⟩
    by_cases h0 : len0 = 0
    · subst h0; exact ⟨fun _ _ => 0, Nat.zero_le _, by omega, .inl rfl⟩
    · obtain ⟨z, hz⟩ := hi' 0 (by omega)
      obtain ⟨b, off, spot⟩ := a
      have hspot : spot = none := by simpa [Addr.add] using World.cell?_spot (hz 0 (by omega)).1
      subst hspot
      have hadd : ∀ i, (⟨b, off, none⟩ : Addr).add i = ⟨b, off + i, none⟩ := fun i => by
        unfold Addr.add; split
        · subst i; rfl
        · rfl
      classical
      let F : Nat → Nat → Int := fun i => if h : i < len0 then Classical.choose (hi' i h) else fun _ => 0
      refine ⟨F, hl, by omega, .inr ⟨b, off, rfl, ?_, fun j hj i hi0 => ?_⟩⟩
      · have := (hz 0 (by omega)).1; rw [hadd] at this; exact blk_lt this
      · have hF : F j = Classical.choose (hi' j hj) := by simp only [F, dif_pos hj]
        obtain ⟨c1, c2⟩ := Classical.choose_spec (hi' j hj) i hi0
        rw [← hF] at c1 c2
        rw [hadd, ← Nat.add_assoc] at c1
        exact ⟨c1, c2⟩
end Go.Proofs.Ytpedkcpkdacnlaa
end
section
namespace Go.Proofs.Ytpedkcpkdacnlaa
open Go.ChangeShapes Go.WideShapes Go.Deep Go.ChangeAt
set_option linter.unusedVariables false
set_option maxRecDepth 20000 in
theorem aggOp_of {H : Type} {enc : TypeId × Value → H} {w : World} {base b0 : Nat} {spare : Nat → Bool} {held : Bool} {v : Value} {d : DataW H} {p : List MemPlace}
    (hv : Value.okWide Try.prog w .any b0 30 v) (h : DataW.Trod enc Try.prog w base spare held 30 v d p) :
    ∃ z0 z1 z2 : Int, v = .agg #[.int .i64 z0, .int .i64 z1, .int .i64 z2] ∧ (Lit.int .i64 z0).wf = true ∧ (Lit.int .i64 z1).wf = true ∧ (Lit.int .i64 z2).wf = true := by
  obtain ⟨cs, rfl, hs⟩ := okWide_struct Try.underlying30 hv
  obtain ⟨fuel, hf⟩ := h
  obtain ⟨z0, z1, z2, hc, w0, w1, w2⟩ := cellsOp_of hf (by rfl)
  refine ⟨z0, z1, z2, ?_, w0, w1, w2⟩
  have : cs.toList = [.int .i64 z0, .int .i64 z1, .int .i64 z2] := hc
  rw [← Array.toArray_toList (xs := cs), this]
end Go.Proofs.Ytpedkcpkdacnlaa
end
