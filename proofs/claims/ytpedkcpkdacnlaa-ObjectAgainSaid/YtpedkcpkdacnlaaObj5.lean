/- Laws and walks that the proof leans on, gathered: ObjMade, Things, ObjLaws, OpenOps, OpenBoth, SymSeg, SymOps, SymExec, SymAddr, SymStep, SymEq, SymRun, SymBase, SymDraw, SymLate, SymMach, SymCall, CellsF, SymObj, ObjSize. -/
import Derived.Test.YtpedkcpkdacnlaaRows
import Derived.Deep.Slices
import Derived.Deep.Fields
import Derived.ChangeSame
import Derived.ProofKit
import Derived.WideShapes
import Derived.Laws.StructEq
import Derived.Test.YtpedkcpkdacnlaaObj4
section
namespace Go.Proofs.Ytpedkcpkdacnlaa
open Go.RowKit
set_option linter.unusedVariables false
theorem zt_Op : (Try.prog.info? 30).bind (·.zero) = some (.agg #[.int .i64 0, .int .i64 0, .int .i64 0]) := by kernel_rfl
def madeTo (kind : Int) (f : Nat → Nat → Int) : Nat → List Int
  | 0 => List.replicate 17 0
  | n + 1 => if opOk (f n 0) (f n 1) (f n 2) = true then (objR kind (madeTo kind f n) (f n 0) (f n 1) (f n 2)).1 else madeTo kind f n
theorem madeTo_ok (kind : Int) (f : Nat → Nat → Int) (h1 : 1 ≤ kind) (h6 : kind ≤ 6) : ∀ n, ObjOK kind (madeTo kind f n)
  | 0 => objOK_zero kind h1 h6
  | n + 1 => by
    simp only [madeTo]
    split
    · exact objR_ok (madeTo_ok kind f h1 h6 n) _ _ _ ‹_›
    · exact madeTo_ok kind f h1 h6 n
/-- Three words behind one another. -/
theorem range3 {w : World} {b off : Nat} {x y z : Value} (h0 : w.cell? ⟨b, off + 0, none⟩ = some x) (h1 : w.cell? ⟨b, off + 1, none⟩ = some y) (h2 : w.cell? ⟨b, off + 2, none⟩ = some z) : w.rangeAt b off [x, y, z] := by
  intro j v hj
  match j, hj with
  | 0, hj => simp at hj; subst hj; exact h0
  | 1, hj => simp at hj; subst hj; exact h1
  | 2, hj => simp at hj; subst hj; exact h2
  | n + 3, hj => simp at hj
set_option maxRecDepth 20000 in
set_option maxHeartbeats 4000000 in
theorem made_any (W : World) (kind : Int) (hk1 : 1 ≤ kind) (hk6 : kind ≤ 6) (a0 : Option Addr) (len0 cap0 : Nat) (f : Nat → Nat → Int) (h : Rws 3 (fun _ => .i64) W a0 len0 cap0 f) :
    Calls Try.prog 35 #[.int .i64 kind, .slice a0 len0 cap0] W fun e w' => e = .returned (.agg (u64s (madeTo kind f (min len0 30))).toArray) ∧ Below W.heap.size W w' := by
  obtain ⟨m, hm0⟩ : ∃ m : Nat, m = min len0 30 := ⟨_, rfl⟩
  rw [← hm0]
  have hle := h.1
  have hcm := h.2.1
  have hmin : min (len0 : Int) 30 = (m : Int) := by omega
  have hml : m ≤ len0 ∧ m ≤ 30 := by omega
  obtain ⟨hml, hm30⟩ := hml
  have HROW := Lib.hid (h.take m hml)
  have HOK := Lib.hid (madeTo_ok kind f hk1 hk6)
  have HM := Mem.start W
  have hmc : (m : Int) ≤ (cap0 : Int) := by omega
  clear h hm0
  go_enter Try.func35, Try.ntmps35
  go_wp2_with (first | (refine wpM_storeAll HM rfl rfl rfl rfl (by repeat (first | exact Sel.head | apply Sel.tail)) (by rfl) (by kernel_rfl) (by rfl) ?_; clear HM; intro w HM) | (refine wpM_loadAll (ty := 30) HM rfl rfl rfl (by repeat (first | exact Sel.head | apply Sel.tail)) (by kernel_rfl) ?_) | (refine wpM_loadAll (ty := 26) HM rfl rfl rfl (by repeat (first | exact Sel.head | apply Sel.tail)) (by kernel_rfl) ?_) | (refine wpM_alloc (o := ⟨some 4, _, _, _, _, _⟩) HM rfl rfl zt_Cells rfl ?_; clear HM; intro bR w HB HM; clear HB) | (refine wpM_alloc (o := ⟨some 5, _, _, _, _, _⟩) HM rfl rfl zt_Cells rfl ?_; clear HM; intro bC w HB HM; clear HB) | (refine wpM_alloc (o := ⟨some 7, _, _, _, _, _⟩) HM rfl rfl zt_Op rfl ?_; clear HM; intro bO w HB HM; clear HB) | (refine wpM_alloc (o := ⟨some 8, _, _, _, _, _⟩) HM rfl rfl zt_Cells rfl ?_; clear HM; intro bD w HB HM; clear HB) | (refine wpM_alloc (o := ⟨some 9, _, _, _, _, _⟩) HM rfl rfl zt_Answer rfl ?_; clear HM; intro bA w HB HM; clear HB) | (refine wpM_box HM rfl rfl rfl rfl ?_; clear HM; intro b w HB HM; clear HB) | (refine wpM_alloc HM rfl rfl zt_Cells rfl ?_; clear HM; intro b w HB HM; clear HB) | (refine wpM_alloc HM rfl rfl zt_Answer rfl ?_; clear HM; intro b w HB HM; clear HB) | (refine wpM_alloc HM rfl rfl zt_Slots rfl ?_; clear HM; intro b w HB HM; clear HB) | (refine wpM_load (ty := 3) HM rfl rfl rfl (by repeat (first | exact Sel.head | apply Sel.tail)) (by first | rfl | assumption) (by kernel_rfl) ?_) | (refine wpM_loadR (ty := 3) HM rfl rfl rfl (by repeat (first | exact Sel.head | apply Sel.tail)) (by first | rfl | assumption) (by kernel_rfl) ?_) | (refine wpM_load (ty := 42) HM rfl rfl rfl (by repeat (first | exact Sel.head | apply Sel.tail)) (by first | rfl | assumption) (by kernel_rfl) ?_) | (refine wpM_loadR (ty := 42) HM rfl rfl rfl (by repeat (first | exact Sel.head | apply Sel.tail)) (by first | rfl | assumption) (by kernel_rfl) ?_) | (refine wpM_store HM rfl rfl rfl (by (conv => lhs; whnf); try rfl) (by repeat (first | exact Sel.head | apply Sel.tail)) (by simp) (by kernel_rfl) (by rfl) ?_; clear HM; intro w HM; try simp only [List.set_cons_zero, List.set_cons_succ] at HM))
  go_loopw [17] (fun iv wr => ∃ i : Nat, i ≤ m ∧ iv = .int .i64 i ∧ Mem W (fun _ => False) [.blk bC (u64s (madeTo kind f i)) 44, .blk bR (u64s (List.replicate 17 0)) 44] wr) (fun iv _ => m - (intOf iv).toNat)
  case atStart => exact ⟨0, by omega, rfl, HM⟩
  case round =>
    clear HM
    obtain ⟨i, hi, rfl, HM⟩ := hrel
    have HC0C := Lib.hid (cells_agg _ (objOK_len (HOK.out i)))
    have HC0A := Lib.hid (cells_all (madeTo kind f i))
    have HC0L : Hid ((u64s (madeTo kind f i)).length = (u64s (List.replicate 17 0)).length) := Lib.hid (by rw [u64s_len, objOK_len (HOK.out i)]; rfl)
    by_cases hlt : i < m
    · obtain ⟨b1, off, rfl, hlb, hc⟩ := HROW.out.at i hlt
      have HLB := Lib.hid hlb
      have HOA : Hid (W.rangeAt b1 (off + i * 3) [.int .i64 (f i 0), .int .i64 (f i 1), .int .i64 (f i 2)]) := Lib.hid (range3 (hc 0 (by omega)).1 (hc 1 (by omega)).1 (hc 2 (by omega)).1)
      have hstep : madeTo kind f (i + 1) = if opOk (f i 0) (f i 1) (f i 2) = true then (objR kind (madeTo kind f i) (f i 0) (f i 1) (f i 2)).1 else madeTo kind f i := rfl
      have hok1 := HOK.out (i + 1)
      clear hc hlb
      obtain ⟨c1, hmt⟩ : ∃ c1, madeTo kind f (i + 1) = c1 := ⟨_, rfl⟩
      rw [hmt] at hstep hok1
      have HMT := Lib.hid hmt
      clear hmt
      generalize f i 0 = k at *
      generalize f i 1 = key at *
      generalize f i 2 = x at *
      have HST := Lib.hid hstep
      have HOKI := Lib.hid (HOK.out i)
      have HOK1 := Lib.hid hok1
      clear hstep hok1
      go_wp2_with (first | (refine wpM_loadOldA (ty := 30) HM rfl rfl rfl HOA.out HLB.out (fun h => h.elim) Try.underlying30 rfl (by kernel_rfl) ?_) | (refine wpM_loadAll (ty := 44) HM rfl rfl rfl (by repeat (first | exact Sel.head | apply Sel.tail)) (by exact HC0C.out) ?_) | (refine wpM_storeAll HM rfl rfl rfl rfl (by repeat (first | exact Sel.head | apply Sel.tail)) (by rfl) (by kernel_rfl) (by rfl) ?_; clear HM; intro w HM) | (refine wpM_loadAll (ty := 30) HM rfl rfl rfl (by repeat (first | exact Sel.head | apply Sel.tail)) (by kernel_rfl) ?_) | (refine wpM_loadAll (ty := 26) HM rfl rfl rfl (by repeat (first | exact Sel.head | apply Sel.tail)) (by kernel_rfl) ?_) | (refine wpM_alloc (o := ⟨some 4, _, _, _, _, _⟩) HM rfl rfl zt_Cells rfl ?_; clear HM; intro bR w HB HM; clear HB) | (refine wpM_alloc (o := ⟨some 5, _, _, _, _, _⟩) HM rfl rfl zt_Cells rfl ?_; clear HM; intro bC w HB HM; clear HB) | (refine wpM_alloc (o := ⟨some 7, _, _, _, _, _⟩) HM rfl rfl zt_Op rfl ?_; clear HM; intro bO w HB HM; clear HB) | (refine wpM_alloc (o := ⟨some 8, _, _, _, _, _⟩) HM rfl rfl zt_Cells rfl ?_; clear HM; intro bD w HB HM; clear HB) | (refine wpM_alloc (o := ⟨some 9, _, _, _, _, _⟩) HM rfl rfl zt_Answer rfl ?_; clear HM; intro bA w HB HM; clear HB) | (refine wpM_box HM rfl rfl rfl rfl ?_; clear HM; intro b w HB HM; clear HB) | (refine wpM_alloc HM rfl rfl zt_Cells rfl ?_; clear HM; intro b w HB HM; clear HB) | (refine wpM_alloc HM rfl rfl zt_Answer rfl ?_; clear HM; intro b w HB HM; clear HB) | (refine wpM_alloc HM rfl rfl zt_Slots rfl ?_; clear HM; intro b w HB HM; clear HB) | (refine wpM_load (ty := 3) HM rfl rfl rfl (by repeat (first | exact Sel.head | apply Sel.tail)) (by first | rfl | assumption) (by kernel_rfl) ?_) | (refine wpM_loadR (ty := 3) HM rfl rfl rfl (by repeat (first | exact Sel.head | apply Sel.tail)) (by first | rfl | assumption) (by kernel_rfl) ?_) | (refine wpM_load (ty := 42) HM rfl rfl rfl (by repeat (first | exact Sel.head | apply Sel.tail)) (by first | rfl | assumption) (by kernel_rfl) ?_) | (refine wpM_loadR (ty := 42) HM rfl rfl rfl (by repeat (first | exact Sel.head | apply Sel.tail)) (by first | rfl | assumption) (by kernel_rfl) ?_) | (refine wpM_store HM rfl rfl rfl (by (conv => lhs; whnf); try rfl) (by repeat (first | exact Sel.head | apply Sel.tail)) (by simp) (by kernel_rfl) (by rfl) ?_; clear HM; intro w HM; try simp only [List.set_cons_zero, List.set_cons_succ] at HM))
      by_cases hop : opOk k key x = true
      · generalize he : objR kind (madeTo kind f i) k key x = q at *
        obtain ⟨o', c, r⟩ := q
        have hc1 : c1 = o' := by have := HST.out; rw [if_pos hop] at this; exact this
        subst hc1
        have HE := Lib.hid he
        have HC1C := Lib.hid (cells_agg c1 (objOK_len HOK1.out))
        have HC1A := Lib.hid (cells_all c1)
        have HC1L : Hid ((u64s c1).length = (u64s (List.replicate 17 0)).length) := Lib.hid (by rw [u64s_len, objOK_len HOK1.out]; rfl)
        have HC2L : Hid ((u64s c1).length = (u64s (madeTo kind f i)).length) := Lib.hid (by rw [u64s_len, u64s_len, objOK_len HOK1.out, objOK_len HOKI.out])
        clear he HST
        refine (object_do _ kind _ HOKI.out k key x hop HE.out).mono ?_
        rintro e w ⟨rfl, hb⟩
        replace HM := HM.call hb
        clear hb
        go_wp2_with (first | (refine wpM_storeAll HM rfl rfl rfl rfl (by repeat (first | exact Sel.head | apply Sel.tail)) (by exact HC1L.out) (by exact HC1C.out) (by exact HC1A.out) ?_; clear HM; intro w HM) | (refine wpM_loadAll (ty := 44) HM rfl rfl rfl (by repeat (first | exact Sel.head | apply Sel.tail)) (by exact HC1C.out) ?_) | (refine wpM_storeAll HM rfl rfl rfl rfl (by repeat (first | exact Sel.head | apply Sel.tail)) (by exact HC2L.out) (by exact HC1C.out) (by exact HC1A.out) ?_; clear HM; intro w HM) | (refine wpM_storeAll HM rfl rfl rfl rfl (by repeat (first | exact Sel.head | apply Sel.tail)) (by rfl) (by kernel_rfl) (by rfl) ?_; clear HM; intro w HM) | (refine wpM_loadAll (ty := 30) HM rfl rfl rfl (by repeat (first | exact Sel.head | apply Sel.tail)) (by kernel_rfl) ?_) | (refine wpM_loadAll (ty := 26) HM rfl rfl rfl (by repeat (first | exact Sel.head | apply Sel.tail)) (by kernel_rfl) ?_) | (refine wpM_alloc (o := ⟨some 4, _, _, _, _, _⟩) HM rfl rfl zt_Cells rfl ?_; clear HM; intro bR w HB HM; clear HB) | (refine wpM_alloc (o := ⟨some 5, _, _, _, _, _⟩) HM rfl rfl zt_Cells rfl ?_; clear HM; intro bC w HB HM; clear HB) | (refine wpM_alloc (o := ⟨some 7, _, _, _, _, _⟩) HM rfl rfl zt_Op rfl ?_; clear HM; intro bO w HB HM; clear HB) | (refine wpM_alloc (o := ⟨some 8, _, _, _, _, _⟩) HM rfl rfl zt_Cells rfl ?_; clear HM; intro bD w HB HM; clear HB) | (refine wpM_alloc (o := ⟨some 9, _, _, _, _, _⟩) HM rfl rfl zt_Answer rfl ?_; clear HM; intro bA w HB HM; clear HB) | (refine wpM_box HM rfl rfl rfl rfl ?_; clear HM; intro b w HB HM; clear HB) | (refine wpM_alloc HM rfl rfl zt_Cells rfl ?_; clear HM; intro b w HB HM; clear HB) | (refine wpM_alloc HM rfl rfl zt_Answer rfl ?_; clear HM; intro b w HB HM; clear HB) | (refine wpM_alloc HM rfl rfl zt_Slots rfl ?_; clear HM; intro b w HB HM; clear HB) | (refine wpM_load (ty := 3) HM rfl rfl rfl (by repeat (first | exact Sel.head | apply Sel.tail)) (by first | rfl | assumption) (by kernel_rfl) ?_) | (refine wpM_loadR (ty := 3) HM rfl rfl rfl (by repeat (first | exact Sel.head | apply Sel.tail)) (by first | rfl | assumption) (by kernel_rfl) ?_) | (refine wpM_load (ty := 42) HM rfl rfl rfl (by repeat (first | exact Sel.head | apply Sel.tail)) (by first | rfl | assumption) (by kernel_rfl) ?_) | (refine wpM_loadR (ty := 42) HM rfl rfl rfl (by repeat (first | exact Sel.head | apply Sel.tail)) (by first | rfl | assumption) (by kernel_rfl) ?_) | (refine wpM_store HM rfl rfl rfl (by (conv => lhs; whnf); try rfl) (by repeat (first | exact Sel.head | apply Sel.tail)) (by simp) (by kernel_rfl) (by rfl) ?_; clear HM; intro w HM; try simp only [List.set_cons_zero, List.set_cons_succ] at HM))
        replace HM := HM.sub (M' := [.blk bC (u64s c1) 44, .blk bR (u64s (List.replicate 17 0)) 44]) (by repeat (first | exact List.Sublist.refl _ | apply List.Sublist.cons_cons | apply List.Sublist.cons))
        go_roundw
        case rel => exact ⟨i + 1, by omega, by go_num, by rw [HMT.out]; exact HM⟩
        case measure => simp [intOf]; omega
      · have hop2 : opOk k key x = false := by simpa using hop
        have hc1 : c1 = madeTo kind f i := by have := HST.out; rw [if_neg hop] at this; exact this
        subst hc1
        clear HST
        refine (do_bad _ kind _ k key x hop2).mono ?_
        rintro e w ⟨rfl, hb⟩
        replace HM := HM.call hb
        clear hb
        go_wp2_with (first | (refine wpM_storeAll HM rfl rfl rfl rfl (by repeat (first | exact Sel.head | apply Sel.tail)) (by rfl) (by kernel_rfl) (by rfl) ?_; clear HM; intro w HM) | (refine wpM_loadAll (ty := 30) HM rfl rfl rfl (by repeat (first | exact Sel.head | apply Sel.tail)) (by kernel_rfl) ?_) | (refine wpM_loadAll (ty := 26) HM rfl rfl rfl (by repeat (first | exact Sel.head | apply Sel.tail)) (by kernel_rfl) ?_) | (refine wpM_alloc (o := ⟨some 4, _, _, _, _, _⟩) HM rfl rfl zt_Cells rfl ?_; clear HM; intro bR w HB HM; clear HB) | (refine wpM_alloc (o := ⟨some 5, _, _, _, _, _⟩) HM rfl rfl zt_Cells rfl ?_; clear HM; intro bC w HB HM; clear HB) | (refine wpM_alloc (o := ⟨some 7, _, _, _, _, _⟩) HM rfl rfl zt_Op rfl ?_; clear HM; intro bO w HB HM; clear HB) | (refine wpM_alloc (o := ⟨some 8, _, _, _, _, _⟩) HM rfl rfl zt_Cells rfl ?_; clear HM; intro bD w HB HM; clear HB) | (refine wpM_alloc (o := ⟨some 9, _, _, _, _, _⟩) HM rfl rfl zt_Answer rfl ?_; clear HM; intro bA w HB HM; clear HB) | (refine wpM_box HM rfl rfl rfl rfl ?_; clear HM; intro b w HB HM; clear HB) | (refine wpM_alloc HM rfl rfl zt_Cells rfl ?_; clear HM; intro b w HB HM; clear HB) | (refine wpM_alloc HM rfl rfl zt_Answer rfl ?_; clear HM; intro b w HB HM; clear HB) | (refine wpM_alloc HM rfl rfl zt_Slots rfl ?_; clear HM; intro b w HB HM; clear HB) | (refine wpM_load (ty := 3) HM rfl rfl rfl (by repeat (first | exact Sel.head | apply Sel.tail)) (by first | rfl | assumption) (by kernel_rfl) ?_) | (refine wpM_loadR (ty := 3) HM rfl rfl rfl (by repeat (first | exact Sel.head | apply Sel.tail)) (by first | rfl | assumption) (by kernel_rfl) ?_) | (refine wpM_load (ty := 42) HM rfl rfl rfl (by repeat (first | exact Sel.head | apply Sel.tail)) (by first | rfl | assumption) (by kernel_rfl) ?_) | (refine wpM_loadR (ty := 42) HM rfl rfl rfl (by repeat (first | exact Sel.head | apply Sel.tail)) (by first | rfl | assumption) (by kernel_rfl) ?_) | (refine wpM_store HM rfl rfl rfl (by (conv => lhs; whnf); try rfl) (by repeat (first | exact Sel.head | apply Sel.tail)) (by simp) (by kernel_rfl) (by rfl) ?_; clear HM; intro w HM; try simp only [List.set_cons_zero, List.set_cons_succ] at HM))
        replace HM := HM.sub (M' := [.blk bC (u64s (madeTo kind f i)) 44, .blk bR (u64s (List.replicate 17 0)) 44]) (by repeat (first | exact List.Sublist.refl _ | apply List.Sublist.cons_cons | apply List.Sublist.cons))
        go_roundw
        case rel => exact ⟨i + 1, by omega, by go_num, by rw [HMT.out]; exact HM⟩
        case measure => simp [intOf]; omega
    · obtain rfl : i = m := by omega
      go_wp2_with (first | (refine wpM_loadAll (ty := 44) HM rfl rfl rfl (by repeat (first | exact Sel.head | apply Sel.tail)) (by exact HC0C.out) ?_) | (refine wpM_storeAll HM rfl rfl rfl rfl (by repeat (first | exact Sel.head | apply Sel.tail)) (by exact HC0L.out) (by exact HC0C.out) (by exact HC0A.out) ?_; clear HM; intro w HM) | (refine wpM_storeAll HM rfl rfl rfl rfl (by repeat (first | exact Sel.head | apply Sel.tail)) (by rfl) (by kernel_rfl) (by rfl) ?_; clear HM; intro w HM) | (refine wpM_loadAll (ty := 30) HM rfl rfl rfl (by repeat (first | exact Sel.head | apply Sel.tail)) (by kernel_rfl) ?_) | (refine wpM_loadAll (ty := 26) HM rfl rfl rfl (by repeat (first | exact Sel.head | apply Sel.tail)) (by kernel_rfl) ?_) | (refine wpM_alloc (o := ⟨some 4, _, _, _, _, _⟩) HM rfl rfl zt_Cells rfl ?_; clear HM; intro bR w HB HM; clear HB) | (refine wpM_alloc (o := ⟨some 5, _, _, _, _, _⟩) HM rfl rfl zt_Cells rfl ?_; clear HM; intro bC w HB HM; clear HB) | (refine wpM_alloc (o := ⟨some 7, _, _, _, _, _⟩) HM rfl rfl zt_Op rfl ?_; clear HM; intro bO w HB HM; clear HB) | (refine wpM_alloc (o := ⟨some 8, _, _, _, _, _⟩) HM rfl rfl zt_Cells rfl ?_; clear HM; intro bD w HB HM; clear HB) | (refine wpM_alloc (o := ⟨some 9, _, _, _, _, _⟩) HM rfl rfl zt_Answer rfl ?_; clear HM; intro bA w HB HM; clear HB) | (refine wpM_box HM rfl rfl rfl rfl ?_; clear HM; intro b w HB HM; clear HB) | (refine wpM_alloc HM rfl rfl zt_Cells rfl ?_; clear HM; intro b w HB HM; clear HB) | (refine wpM_alloc HM rfl rfl zt_Answer rfl ?_; clear HM; intro b w HB HM; clear HB) | (refine wpM_alloc HM rfl rfl zt_Slots rfl ?_; clear HM; intro b w HB HM; clear HB) | (refine wpM_load (ty := 3) HM rfl rfl rfl (by repeat (first | exact Sel.head | apply Sel.tail)) (by first | rfl | assumption) (by kernel_rfl) ?_) | (refine wpM_loadR (ty := 3) HM rfl rfl rfl (by repeat (first | exact Sel.head | apply Sel.tail)) (by first | rfl | assumption) (by kernel_rfl) ?_) | (refine wpM_load (ty := 42) HM rfl rfl rfl (by repeat (first | exact Sel.head | apply Sel.tail)) (by first | rfl | assumption) (by kernel_rfl) ?_) | (refine wpM_loadR (ty := 42) HM rfl rfl rfl (by repeat (first | exact Sel.head | apply Sel.tail)) (by first | rfl | assumption) (by kernel_rfl) ?_) | (refine wpM_store HM rfl rfl rfl (by (conv => lhs; whnf); try rfl) (by repeat (first | exact Sel.head | apply Sel.tail)) (by simp) (by kernel_rfl) (by rfl) ?_; clear HM; intro w HM; try simp only [List.set_cons_zero, List.set_cons_succ] at HM))
      exact bodyPost_ret (v := .agg (u64s (madeTo kind f i)).toArray) (resM_c HM rfl (by rfl) (by repeat (first | exact Sel.head | apply Sel.tail)) (by exact HC0C.out)) rfl ⟨rfl, HM.below⟩
end Go.Proofs.Ytpedkcpkdacnlaa
end
section
namespace Go.Proofs.Ytpedkcpkdacnlaa
open Go.RowKit
set_option linter.unusedVariables false
set_option maxRecDepth 20000 in
set_option maxHeartbeats 4000000 in
theorem things_any (W : World) : Calls Try.prog 33 #[] W fun e w' => e = .returned (.bool true) ∧ Below W.heap.size W w' := by
  have HM := Mem.start W
  have ok1 : ObjOK 2 (lstC [5]) := .inl ⟨by decide, by decide, [5], rfl, by decide, (fun v hv => by simp at hv; omega), fun h => by cases h⟩
  have ok2 : ObjOK 1 (lstC [7, 8]) := .inl ⟨by decide, by decide, [7, 8], rfl, by decide, (fun v hv => by simp at hv; omega), fun h => by cases h⟩
  have HO1 := Lib.hid ok1
  have HO2 := Lib.hid ok2
  clear ok1 ok2
  go_enter Try.func33, Try.ntmps33
  go_wp2_with (first | (refine wpM_storeAll HM rfl rfl rfl rfl (by repeat (first | exact Sel.head | apply Sel.tail)) (by rfl) (by kernel_rfl) (by rfl) ?_; clear HM; intro w HM) | (refine wpM_loadAll (ty := 30) HM rfl rfl rfl (by repeat (first | exact Sel.head | apply Sel.tail)) (by kernel_rfl) ?_) | (refine wpM_loadAll (ty := 26) HM rfl rfl rfl (by repeat (first | exact Sel.head | apply Sel.tail)) (by kernel_rfl) ?_) | (refine wpM_alloc (o := ⟨some 1, _, _, _, _, _⟩) HM rfl rfl zt_Cells rfl ?_; clear HM; intro bC w HB HM; clear HB) | (refine wpM_alloc (o := ⟨some 2, _, _, _, _, _⟩) HM rfl rfl zt_Answer rfl ?_; clear HM; intro bA w HB HM; clear HB) | (refine wpM_box HM rfl rfl rfl rfl ?_; clear HM; intro b w HB HM; clear HB) | (refine wpM_alloc HM rfl rfl zt_Cells rfl ?_; clear HM; intro b w HB HM; clear HB) | (refine wpM_alloc HM rfl rfl zt_Answer rfl ?_; clear HM; intro b w HB HM; clear HB) | (refine wpM_alloc HM rfl rfl zt_Slots rfl ?_; clear HM; intro b w HB HM; clear HB) | (refine wpM_load (ty := 3) HM rfl rfl rfl (by repeat (first | exact Sel.head | apply Sel.tail)) (by first | rfl | assumption) (by kernel_rfl) ?_) | (refine wpM_loadR (ty := 3) HM rfl rfl rfl (by repeat (first | exact Sel.head | apply Sel.tail)) (by first | rfl | assumption) (by kernel_rfl) ?_) | (refine wpM_load (ty := 42) HM rfl rfl rfl (by repeat (first | exact Sel.head | apply Sel.tail)) (by first | rfl | assumption) (by kernel_rfl) ?_) | (refine wpM_loadR (ty := 42) HM rfl rfl rfl (by repeat (first | exact Sel.head | apply Sel.tail)) (by first | rfl | assumption) (by kernel_rfl) ?_) | (refine wpM_store HM rfl rfl rfl (by (conv => lhs; whnf); try rfl) (by repeat (first | exact Sel.head | apply Sel.tail)) (by simp) (by kernel_rfl) (by rfl) ?_; clear HM; intro w HM; try simp only [List.set_cons_zero, List.set_cons_succ] at HM))
  refine (object_do _ 2 (lstC [5]) HO1.out 2 0 0 (by decide) (o' := lstC []) (c := 1) (r := 5) (by decide)).mono ?_
  rintro e w ⟨rfl, hb⟩
  replace HM := HM.call hb
  clear hb
  go_wp2_with (first | (refine wpM_storeAll (ty := 44) HM rfl rfl rfl rfl (by repeat (first | exact Sel.head | apply Sel.tail)) (by rfl) (by kernel_rfl) (by rfl) ?_; clear HM; intro w HM) | (refine wpM_loadAll (ty := 44) HM rfl rfl rfl (by repeat (first | exact Sel.head | apply Sel.tail)) (by kernel_rfl) ?_) | (refine wpM_storeAll HM rfl rfl rfl rfl (by repeat (first | exact Sel.head | apply Sel.tail)) (by rfl) (by kernel_rfl) (by rfl) ?_; clear HM; intro w HM) | (refine wpM_loadAll (ty := 30) HM rfl rfl rfl (by repeat (first | exact Sel.head | apply Sel.tail)) (by kernel_rfl) ?_) | (refine wpM_loadAll (ty := 26) HM rfl rfl rfl (by repeat (first | exact Sel.head | apply Sel.tail)) (by kernel_rfl) ?_) | (refine wpM_alloc (o := ⟨some 1, _, _, _, _, _⟩) HM rfl rfl zt_Cells rfl ?_; clear HM; intro bC w HB HM; clear HB) | (refine wpM_alloc (o := ⟨some 2, _, _, _, _, _⟩) HM rfl rfl zt_Answer rfl ?_; clear HM; intro bA w HB HM; clear HB) | (refine wpM_box HM rfl rfl rfl rfl ?_; clear HM; intro b w HB HM; clear HB) | (refine wpM_alloc HM rfl rfl zt_Cells rfl ?_; clear HM; intro b w HB HM; clear HB) | (refine wpM_alloc HM rfl rfl zt_Answer rfl ?_; clear HM; intro b w HB HM; clear HB) | (refine wpM_alloc HM rfl rfl zt_Slots rfl ?_; clear HM; intro b w HB HM; clear HB) | (refine wpM_load (ty := 3) HM rfl rfl rfl (by repeat (first | exact Sel.head | apply Sel.tail)) (by first | rfl | assumption) (by kernel_rfl) ?_) | (refine wpM_loadR (ty := 3) HM rfl rfl rfl (by repeat (first | exact Sel.head | apply Sel.tail)) (by first | rfl | assumption) (by kernel_rfl) ?_) | (refine wpM_load (ty := 42) HM rfl rfl rfl (by repeat (first | exact Sel.head | apply Sel.tail)) (by first | rfl | assumption) (by kernel_rfl) ?_) | (refine wpM_loadR (ty := 42) HM rfl rfl rfl (by repeat (first | exact Sel.head | apply Sel.tail)) (by first | rfl | assumption) (by kernel_rfl) ?_) | (refine wpM_store HM rfl rfl rfl (by (conv => lhs; whnf); try rfl) (by repeat (first | exact Sel.head | apply Sel.tail)) (by simp) (by kernel_rfl) (by rfl) ?_; clear HM; intro w HM; try simp only [List.set_cons_zero, List.set_cons_succ] at HM))
  refine (object_size _ 1 (lstC [7, 8]) HO2.out).mono ?_
  rintro e w ⟨rfl, hb⟩
  replace HM := HM.call hb
  clear hb
  rw [show (objR 1 (lstC [7, 8]) 6 0 0).2.2 = 2 from by decide]
  go_wp2_with (first | (refine wpM_eqlW (t := 44) (xs := lstC []) (ys := List.replicate 17 0) (k := .u64) (r := true) rfl rfl rfl rfl (by rfl) (by rfl) Try.underlying44 (by kernel_rfl) Try.underlying42 (by kernel_rfl) (by decide) ?_) | (refine wpM_storeAll (ty := 44) HM rfl rfl rfl rfl (by repeat (first | exact Sel.head | apply Sel.tail)) (by rfl) (by kernel_rfl) (by rfl) ?_; clear HM; intro w HM) | (refine wpM_loadAll (ty := 44) HM rfl rfl rfl (by repeat (first | exact Sel.head | apply Sel.tail)) (by kernel_rfl) ?_) | (refine wpM_storeAll HM rfl rfl rfl rfl (by repeat (first | exact Sel.head | apply Sel.tail)) (by rfl) (by kernel_rfl) (by rfl) ?_; clear HM; intro w HM) | (refine wpM_loadAll (ty := 30) HM rfl rfl rfl (by repeat (first | exact Sel.head | apply Sel.tail)) (by kernel_rfl) ?_) | (refine wpM_loadAll (ty := 26) HM rfl rfl rfl (by repeat (first | exact Sel.head | apply Sel.tail)) (by kernel_rfl) ?_) | (refine wpM_alloc (o := ⟨some 1, _, _, _, _, _⟩) HM rfl rfl zt_Cells rfl ?_; clear HM; intro bC w HB HM; clear HB) | (refine wpM_alloc (o := ⟨some 2, _, _, _, _, _⟩) HM rfl rfl zt_Answer rfl ?_; clear HM; intro bA w HB HM; clear HB) | (refine wpM_box HM rfl rfl rfl rfl ?_; clear HM; intro b w HB HM; clear HB) | (refine wpM_alloc HM rfl rfl zt_Cells rfl ?_; clear HM; intro b w HB HM; clear HB) | (refine wpM_alloc HM rfl rfl zt_Answer rfl ?_; clear HM; intro b w HB HM; clear HB) | (refine wpM_alloc HM rfl rfl zt_Slots rfl ?_; clear HM; intro b w HB HM; clear HB) | (refine wpM_load (ty := 3) HM rfl rfl rfl (by repeat (first | exact Sel.head | apply Sel.tail)) (by first | rfl | assumption) (by kernel_rfl) ?_) | (refine wpM_loadR (ty := 3) HM rfl rfl rfl (by repeat (first | exact Sel.head | apply Sel.tail)) (by first | rfl | assumption) (by kernel_rfl) ?_) | (refine wpM_load (ty := 42) HM rfl rfl rfl (by repeat (first | exact Sel.head | apply Sel.tail)) (by first | rfl | assumption) (by kernel_rfl) ?_) | (refine wpM_loadR (ty := 42) HM rfl rfl rfl (by repeat (first | exact Sel.head | apply Sel.tail)) (by first | rfl | assumption) (by kernel_rfl) ?_) | (refine wpM_store HM rfl rfl rfl (by (conv => lhs; whnf); try rfl) (by repeat (first | exact Sel.head | apply Sel.tail)) (by simp) (by kernel_rfl) (by rfl) ?_; clear HM; intro w HM; try simp only [List.set_cons_zero, List.set_cons_succ] at HM))
  refine (right_list4 _ [1, 3] (by decide) (fun v hv => by simp at hv; omega)).mono ?_
  rintro e w ⟨rfl, hb⟩
  replace HM := HM.call hb
  clear hb
  rw [show heapB [1, 3] = true from by decide]
  go_wp2_with (first | (refine wpM_storeAll HM rfl rfl rfl rfl (by repeat (first | exact Sel.head | apply Sel.tail)) (by rfl) (by kernel_rfl) (by rfl) ?_; clear HM; intro w HM) | (refine wpM_loadAll (ty := 30) HM rfl rfl rfl (by repeat (first | exact Sel.head | apply Sel.tail)) (by kernel_rfl) ?_) | (refine wpM_loadAll (ty := 26) HM rfl rfl rfl (by repeat (first | exact Sel.head | apply Sel.tail)) (by kernel_rfl) ?_) | (refine wpM_alloc (o := ⟨some 1, _, _, _, _, _⟩) HM rfl rfl zt_Cells rfl ?_; clear HM; intro bC w HB HM; clear HB) | (refine wpM_alloc (o := ⟨some 2, _, _, _, _, _⟩) HM rfl rfl zt_Answer rfl ?_; clear HM; intro bA w HB HM; clear HB) | (refine wpM_box HM rfl rfl rfl rfl ?_; clear HM; intro b w HB HM; clear HB) | (refine wpM_alloc HM rfl rfl zt_Cells rfl ?_; clear HM; intro b w HB HM; clear HB) | (refine wpM_alloc HM rfl rfl zt_Answer rfl ?_; clear HM; intro b w HB HM; clear HB) | (refine wpM_alloc HM rfl rfl zt_Slots rfl ?_; clear HM; intro b w HB HM; clear HB) | (refine wpM_load (ty := 3) HM rfl rfl rfl (by repeat (first | exact Sel.head | apply Sel.tail)) (by first | rfl | assumption) (by kernel_rfl) ?_) | (refine wpM_loadR (ty := 3) HM rfl rfl rfl (by repeat (first | exact Sel.head | apply Sel.tail)) (by first | rfl | assumption) (by kernel_rfl) ?_) | (refine wpM_load (ty := 42) HM rfl rfl rfl (by repeat (first | exact Sel.head | apply Sel.tail)) (by first | rfl | assumption) (by kernel_rfl) ?_) | (refine wpM_loadR (ty := 42) HM rfl rfl rfl (by repeat (first | exact Sel.head | apply Sel.tail)) (by first | rfl | assumption) (by kernel_rfl) ?_) | (refine wpM_store HM rfl rfl rfl (by (conv => lhs; whnf); try rfl) (by repeat (first | exact Sel.head | apply Sel.tail)) (by simp) (by kernel_rfl) (by rfl) ?_; clear HM; intro w HM; try simp only [List.set_cons_zero, List.set_cons_succ] at HM))
  refine (right_list4 _ [3, 1] (by decide) (fun v hv => by simp at hv; omega)).mono ?_
  rintro e w ⟨rfl, hb⟩
  replace HM := HM.call hb
  clear hb
  rw [show heapB [3, 1] = false from by decide]
  go_wp2_with (first | (refine wpM_storeAll HM rfl rfl rfl rfl (by repeat (first | exact Sel.head | apply Sel.tail)) (by rfl) (by kernel_rfl) (by rfl) ?_; clear HM; intro w HM) | (refine wpM_loadAll (ty := 30) HM rfl rfl rfl (by repeat (first | exact Sel.head | apply Sel.tail)) (by kernel_rfl) ?_) | (refine wpM_loadAll (ty := 26) HM rfl rfl rfl (by repeat (first | exact Sel.head | apply Sel.tail)) (by kernel_rfl) ?_) | (refine wpM_alloc (o := ⟨some 1, _, _, _, _, _⟩) HM rfl rfl zt_Cells rfl ?_; clear HM; intro bC w HB HM; clear HB) | (refine wpM_alloc (o := ⟨some 2, _, _, _, _, _⟩) HM rfl rfl zt_Answer rfl ?_; clear HM; intro bA w HB HM; clear HB) | (refine wpM_box HM rfl rfl rfl rfl ?_; clear HM; intro b w HB HM; clear HB) | (refine wpM_alloc HM rfl rfl zt_Cells rfl ?_; clear HM; intro b w HB HM; clear HB) | (refine wpM_alloc HM rfl rfl zt_Answer rfl ?_; clear HM; intro b w HB HM; clear HB) | (refine wpM_alloc HM rfl rfl zt_Slots rfl ?_; clear HM; intro b w HB HM; clear HB) | (refine wpM_load (ty := 3) HM rfl rfl rfl (by repeat (first | exact Sel.head | apply Sel.tail)) (by first | rfl | assumption) (by kernel_rfl) ?_) | (refine wpM_loadR (ty := 3) HM rfl rfl rfl (by repeat (first | exact Sel.head | apply Sel.tail)) (by first | rfl | assumption) (by kernel_rfl) ?_) | (refine wpM_load (ty := 42) HM rfl rfl rfl (by repeat (first | exact Sel.head | apply Sel.tail)) (by first | rfl | assumption) (by kernel_rfl) ?_) | (refine wpM_loadR (ty := 42) HM rfl rfl rfl (by repeat (first | exact Sel.head | apply Sel.tail)) (by first | rfl | assumption) (by kernel_rfl) ?_) | (refine wpM_store HM rfl rfl rfl (by (conv => lhs; whnf); try rfl) (by repeat (first | exact Sel.head | apply Sel.tail)) (by simp) (by kernel_rfl) (by rfl) ?_; clear HM; intro w HM; try simp only [List.set_cons_zero, List.set_cons_succ] at HM))
  go_ret
  exact ⟨rfl, HM.below⟩
end Go.Proofs.Ytpedkcpkdacnlaa
end
section
namespace Go.Proofs.Ytpedkcpkdacnlaa
set_option linter.unusedVariables false
theorem tally_law (n k x : Int) (h0 : 0 ≤ n) (h1 : n ≤ 4294967295) (x0 : 0 ≤ x) (x1 : x ≤ 4294967295) (ho : 1 ≤ k ∧ k ≤ 6) :
    AnsOK (tallyC n k x) (tallyV n k x) ∧ ((tallyC n k x ≠ 1 ∨ k = 5 ∨ k = 6) → tallyR n k x = n) ∧ (tallyC n k x = 5 ↔ (k = 3 ∨ k = 4)) := by
  unfold AnsOK tallyC tallyV tallyR
  by_cases k1 : k = 1
  · subst k1; simp only [if_true]; split <;> (refine ⟨by omega, ?_, by simp⟩; intro h; simp at h <;> omega)
  · by_cases k2 : k = 2
    · subst k2; simp only [k1, if_true, if_false]; split <;> (refine ⟨by omega, ?_, by simp⟩; intro h; simp at h <;> omega)
    · simp only [k1, k2, if_false]
      by_cases k5 : k = 5 ∨ k = 6
      · rw [if_pos k5, if_pos k5]; exact ⟨by omega, fun _ => trivial, by omega⟩
      · rw [if_neg k5, if_neg k5]; exact ⟨by omega, fun _ => trivial, by omega⟩
theorem tab_law {t : List Int} (g : Good t) (k key x : Int) (x0 : 0 ≤ x) (x1 : x ≤ 4294967295) (ho : 1 ≤ k ∧ k ≤ 6) (y0 : 0 ≤ key) (y1 : key ≤ 1000) :
    AnsOK (doT t k key x).2.1 (doT t k key x).2.2 ∧ (((doT t k key x).2.1 ≠ 1 ∨ k = 5 ∨ k = 6) → (doT t k key x).1 = t) ∧ ((doT t k key x).2.1 = 5 ↔ (k ≠ 6 ∧ (k = 3 ∨ k = 4 ∨ key = 0))) := by
  by_cases h6 : k = 6
  · unfold doT; rw [if_pos h6]
    have := g.few
    exact ⟨by unfold AnsOK; dsimp only; omega, fun _ => rfl, by dsimp only; omega⟩
  by_cases hw : (k ≠ 1 ∧ k ≠ 2 ∧ k ≠ 5) ∨ key < 1 ∨ 1000 < key
  · unfold doT; rw [if_neg h6, if_pos hw]; exact ⟨by unfold AnsOK; dsimp only; omega, fun _ => rfl, ⟨fun _ => by omega, fun _ => rfl⟩⟩
  obtain ⟨i, hi, hai, -, -⟩ := g.at key
  have hv0 := g.val0 i hi
  have hv1 := g.val1 i hi
  have htv : tv t (atI t key).toNat = tv t i := by rw [hai]; rfl
  unfold doT
  rw [if_neg h6, if_neg hw, htv]
  by_cases k1 : k = 1
  · rw [if_pos k1]
    split
    · exact ⟨by unfold AnsOK; dsimp only; omega, fun _ => rfl, by dsimp only; omega⟩
    · exact ⟨by unfold AnsOK; dsimp only; omega, fun h => by dsimp only at h; omega, by dsimp only; omega⟩
  · rw [if_neg k1]
    split
    · exact ⟨by unfold AnsOK; dsimp only; omega, fun _ => rfl, by dsimp only; omega⟩
    · split
      · exact ⟨by unfold AnsOK; dsimp only; omega, fun h => by dsimp only at h; omega, by dsimp only; omega⟩
      · exact ⟨by unfold AnsOK; dsimp only; omega, fun _ => rfl, by dsimp only; omega⟩
theorem obj_law {kind : Int} {c : List Int} (h : ObjOK kind c) (k key x : Int) (ho : opOk k key x = true) :
    AnsOK (objR kind c k key x).2.1 (objR kind c k key x).2.2 ∧ (((objR kind c k key x).2.1 ≠ 1 ∨ k = 5 ∨ k = 6) → (objR kind c k key x).1 = c) ∧
    ((objR kind c k key x).2.1 = 5 ↔ (((k = 3 ∨ k = 4) ∧ kind ≠ 3) ∨ (kind = 5 ∧ k ≠ 6 ∧ (k = 3 ∨ k = 4 ∨ key = 0)))) := by
  unfold opOk at ho
  rw [decide_eq_true_eq] at ho
  obtain ⟨o1, o2, o3, o4, o5, o6⟩ := ho
  rcases h with ⟨k1, k4, l, rfl, hl, hr, hh⟩ | ⟨rfl, t, rfl, g⟩ | ⟨rfl, n, rfl, h0, h1⟩
  · rw [objR_list kind l k key x k1 k4]
    obtain ⟨a, b⟩ := lst_law kind l k x hl hr o5 o6 ⟨o1, o2⟩ k1 k4
    exact ⟨a.ans, fun h => by rw [a.same h], by dsimp only; rw [b]; omega⟩
  · rw [objR_table t g]
    obtain ⟨a, b, c⟩ := tab_law g k key x o5 o6 ⟨o1, o2⟩ o3 o4
    exact ⟨a, fun h => by rw [b h], by dsimp only; rw [c]; omega⟩
  · rw [objR_tally]
    obtain ⟨a, b, c⟩ := tally_law n k x h0 h1 o5 o6 ⟨o1, o2⟩
    exact ⟨a, fun h => by rw [b h], by dsimp only; rw [c]; omega⟩
end Go.Proofs.Ytpedkcpkdacnlaa
end
section
namespace Go.Proofs.Ytpedkcpkdacnlaa
open Go.ChangeShapes Go.WideShapes Go.Deep Go.ChangeAt
set_option maxRecDepth 20000
set_option linter.unusedVariables false
theorem blk_lt {w : World} {b o : Nat} {v : Value} (h : w.cell? ⟨b, o, none⟩ = some v) : b < w.heap.size := by
  unfold World.cell? at h
  by_cases hb : b < w.heap.size
  · exact hb
  · simp [Array.getElem?_eq_none (Nat.le_of_not_lt hb)] at h
theorem one_int {H : Type} {enc : TypeId × Value → H} {w : World} {base : Nat} {spare : Nat → Bool} {held : Bool} {n : Nat} {t : TypeId} {k : IntKind} {v : Value} {y : Option (DataW H × List MemPlace)} (ht : Try.prog.underlying t = some (.int k))
    (h : DataW.trod enc Try.prog w base spare held n t [v] = y) (hy : y.isSome) : ∃ z, v = .int k z ∧ (Lit.int k z).wf = true := by
  obtain ⟨x, rfl⟩ := Option.isSome_iff_exists.1 hy
  obtain ⟨z, h1, -, h2⟩ := DataW.trod_int ht h
  simp at h1
  exact ⟨z, h1, h2⟩
theorem cellsOp_of {H : Type} {enc : TypeId × Value → H} {w : World} {base : Nat} {spare : Nat → Bool} {held : Bool} {n : Nat} {cs : List Value} {y : Option (DataW H × List MemPlace)}
    (h : DataW.trod enc Try.prog w base spare held n 30 cs = y) (hy : y.isSome) :
    ∃ z0 z1 z2 : Int, cs = [.int .i64 z0, .int .i64 z1, .int .i64 z2] ∧ (Lit.int .i64 z0).wf = true ∧ (Lit.int .i64 z1).wf = true ∧ (Lit.int .i64 z2).wf = true := by
  obtain ⟨x, rfl⟩ := Option.isSome_iff_exists.1 hy
  obtain ⟨ys, n', -, -, hlen, hyl, hf⟩ := DataW.trod_struct Try.underlying30 h
  have hc : Try.prog.cellsOf 30 = 3 := by kernel_rfl
  have hc_int : Try.prog.cellsOf 3 = 1 := by kernel_rfl
  rw [hc] at hlen
  match cs, hlen with
  | [v0, v1, v2], _ =>
    have hyl' : ys.length = 3 := hyl
    have g0 : DataW.trod enc Try.prog w base spare held n' 3 (([v0, v1, v2].drop 0).take (Try.prog.cellsOf 3)) = ys[0]? := hf 0 _ rfl
    rw [hc_int] at g0
    dsimp only [List.drop, List.take] at g0
    have g1 : DataW.trod enc Try.prog w base spare held n' 3 (([v0, v1, v2].drop 1).take (Try.prog.cellsOf 3)) = ys[1]? := hf 1 _ rfl
    rw [hc_int] at g1
    dsimp only [List.drop, List.take] at g1
    have g2 : DataW.trod enc Try.prog w base spare held n' 3 (([v0, v1, v2].drop 2).take (Try.prog.cellsOf 3)) = ys[2]? := hf 2 _ rfl
    rw [hc_int] at g2
    dsimp only [List.drop, List.take] at g2
    obtain ⟨z0, rfl, w0⟩ := one_int Try.underlying3 g0 (by simp [hyl'])
    obtain ⟨z1, rfl, w1⟩ := one_int Try.underlying3 g1 (by simp [hyl'])
    obtain ⟨z2, rfl, w2⟩ := one_int Try.underlying3 g2 (by simp [hyl'])
    exact ⟨z0, z1, z2, rfl, w0, w1, w2⟩
theorem rowsOp_of {H : Type} {enc : TypeId × Value → H} {w : World} {base : Nat} {spare : Nat → Bool} {held : Bool} {a0 : Option Addr} {len0 cap0 : Nat} {d0 : DataW H} {p0 : List MemPlace}
    (h : DataW.Trod enc Try.prog w base spare held 40 (.slice a0 len0 cap0) d0 p0) : ∃ f, Rws 3 (fun _ => .i64) w a0 len0 cap0 f := by
  obtain ⟨fuel, hf⟩ := h
  have hc : Try.prog.cellsOf 30 = 3 := by kernel_rfl
  rcases open_slice Try.underlying40 hf with ⟨hcs, -⟩ | ⟨a, len, cap, m, n, D, Pl, hcs, hb, hl, hm, hmm, hx, hi⟩
  · simp [Value.cells] at hcs
    obtain ⟨rfl, rfl, rfl⟩ := hcs
    exact ⟨fun _ _ => 0, Nat.le_refl _, by omega, .inl rfl⟩
  · simp [Value.cells] at hcs
    obtain ⟨rfl, rfl, rfl⟩ := hcs
    unfold maxLen at hm
    rw [hc] at hi
    have hi' : ∀ i, i < len0 → ∃ z : Nat → Int, ∀ j, j < 3 → w.cell? (a.add (i * 3 + j)) = some (.int ((fun _ => .i64) j) (z j)) ∧ (Lit.int ((fun _ => .i64) j) (z j)).wf = true := by
      intro i hil
      obtain ⟨cs, h1, h2⟩ := hi i (by rw [hmm]; split <;> omega)
      obtain ⟨z0, z1, z2, rfl, w0, w1, w2⟩ := cellsOp_of h2 (by rfl)
      obtain ⟨-, -, hat⟩ := World.cells?_some h1
      refine ⟨fun j => [z0, z1, z2].getD j 0, fun j hj => ?_⟩
      rw [← Go.Deep.add_add, hat j (by simpa using hj)]
      match j, hj with
      | 0, _ => exact ⟨rfl, w0⟩
      | 1, _ => exact ⟨rfl, w1⟩
      | 2, _ => exact ⟨rfl, w2⟩
    by_cases h0 : len0 = 0
    · subst h0; exact ⟨fun _ _ => 0, Nat.zero_le _, by omega, .inl rfl⟩
    · obtain ⟨z, hz⟩ := hi' 0 (by omega)
      obtain ⟨b, off, spot⟩ := a
      have hspot : spot = none := by simpa [Addr.add] using World.cell?_spot (hz 0 (by omega)).1
      subst hspot
      have hadd : ∀ i, (⟨b, off, none⟩ : Addr).add i = ⟨b, off + i, none⟩ := fun i => by
        unfold Addr.add; split
        · subst i; rfl
        · rfl
      classical
      let F : Nat → Nat → Int := fun i => if h : i < len0 then Classical.choose (hi' i h) else fun _ => 0
      refine ⟨F, hl, by omega, .inr ⟨b, off, rfl, ?_, fun j hj i hi0 => ?_⟩⟩
      · have := (hz 0 (by omega)).1; rw [hadd] at this; exact blk_lt this
      · have hF : F j = Classical.choose (hi' j hj) := by simp only [F, dif_pos hj]
        obtain ⟨c1, c2⟩ := Classical.choose_spec (hi' j hj) i hi0
        rw [← hF] at c1 c2
        rw [hadd, ← Nat.add_assoc] at c1
        exact ⟨c1, c2⟩
end Go.Proofs.Ytpedkcpkdacnlaa
end
section
namespace Go.Proofs.Ytpedkcpkdacnlaa
open Go.ChangeShapes Go.WideShapes Go.Deep Go.ChangeAt
set_option linter.unusedVariables false
set_option maxRecDepth 20000 in
theorem aggOp_of {H : Type} {enc : TypeId × Value → H} {w : World} {base b0 : Nat} {spare : Nat → Bool} {held : Bool} {v : Value} {d : DataW H} {p : List MemPlace}
    (hv : Value.okWide Try.prog w .any b0 30 v) (h : DataW.Trod enc Try.prog w base spare held 30 v d p) :
    ∃ z0 z1 z2 : Int, v = .agg #[.int .i64 z0, .int .i64 z1, .int .i64 z2] ∧ (Lit.int .i64 z0).wf = true ∧ (Lit.int .i64 z1).wf = true ∧ (Lit.int .i64 z2).wf = true := by
  obtain ⟨cs, rfl, hs⟩ := okWide_struct Try.underlying30 hv
  obtain ⟨fuel, hf⟩ := h
  obtain ⟨z0, z1, z2, hc, w0, w1, w2⟩ := cellsOp_of hf (by rfl)
  refine ⟨z0, z1, z2, ?_, w0, w1, w2⟩
  have : cs.toList = [.int .i64 z0, .int .i64 z1, .int .i64 z2] := hc
  rw [← Array.toArray_toList (xs := cs), this]
end Go.Proofs.Ytpedkcpkdacnlaa
end
section
namespace Go.Proofs.Ytpedkcpkdacnlaa
open Go.RowKit
set_option linter.unusedVariables false
/-- One cell: a value, or an address in a block that goes by a number of our own. -/
inductive SC where
  | v (x : Value)
  | p (b off : Nat)
  | e (b off ix : Nat)
  | s (b off n c : Nat)
  | i (t b off : Nat)
  | r (a : Option Addr) (n c m sz : Nat) (ks : Nat → IntKind) (z : Nat → Nat → Int)
  | re (a : Option Addr) (c m sz : Nat) (ks : Nat → IntKind) (z : Nat → Nat → Int) (i f : Nat)
def elemAddr (a : Option Addr) (o : Nat) : Option Addr := match a with
  | some p => some ⟨p.block, p.off + o, none⟩
  | none => none
def SC.den (ρ : Nat → Nat) : SC → Value
  | .v x => x
  | .p b off => .pointer (some ⟨ρ b, off, none⟩)
  | .e b off ix => .pointer (some ⟨ρ b, off + ix, none⟩)
  | .s b off n c => .slice (some ⟨ρ b, off, none⟩) n c
  | .i t b off => .iface t (.pointer (some ⟨ρ b, off, none⟩))
  | .r a n c _ _ _ _ => .slice a n c
  | .re a _ _ sz _ _ j g => .pointer (elemAddr a (j * sz + g))
def SC.ok : SC → Bool
  | .v x => x.oneCell'
  | _ => true
theorem SC.ok_den {x : SC} (h : x.ok = true) (ρ : Nat → Nat) : (x.den ρ).oneCell' = true := by
  cases x <;> first | exact h | rfl
inductive Seg where
  | one (x : SC)
  | ints (k : IntKind) (n : Nat) (f : Nat → Int)
def Seg.len : Seg → Nat
  | .one _ => 1
  | .ints _ n _ => n
def Seg.ok : Seg → Bool
  | .one x => x.ok
  | .ints _ _ _ => true
def Seg.den (ρ : Nat → Nat) : Seg → List Value
  | .one x => [x.den ρ]
  | .ints k n f => (List.range n).map fun i => .int k (f i)
def segsDen (ρ : Nat → Nat) : List Seg → List Value
  | [] => []
  | s :: r => s.den ρ ++ segsDen ρ r
def segsLen : List Seg → Nat
  | [] => 0
  | s :: r => s.len + segsLen r
def segsOk : List Seg → Bool
  | [] => true
  | s :: r => s.ok && segsOk r
theorem Seg.den_len (ρ : Nat → Nat) (s : Seg) : (s.den ρ).length = s.len := by cases s <;> simp [Seg.den, Seg.len]
theorem segsDen_len (ρ : Nat → Nat) (l : List Seg) : (segsDen ρ l).length = segsLen l := by
  induction l with
  | nil => rfl
  | cons s r ih => simp [segsDen, segsLen, ih, Seg.den_len]
theorem segsDen_append (ρ : Nat → Nat) (l m : List Seg) : segsDen ρ (l ++ m) = segsDen ρ l ++ segsDen ρ m := by
  induction l with
  | nil => rfl
  | cons s r ih => simp [segsDen, ih]
theorem segsLen_append (l m : List Seg) : segsLen (l ++ m) = segsLen l + segsLen m := by
  induction l with
  | nil => simp [segsLen]
  | cons s r ih => simp [segsLen, ih]; omega
theorem segsOk_append (l m : List Seg) : segsOk (l ++ m) = (segsOk l && segsOk m) := by
  induction l with
  | nil => simp [segsOk]
  | cons s r ih => simp [segsOk, ih, Bool.and_assoc]
theorem segsDen_one {ρ : Nat → Nat} : ∀ {l : List Seg}, segsOk l = true → ∀ v ∈ segsDen ρ l, v.oneCell' = true
  | [], _, v, hv => by simp [segsDen] at hv
  | s :: r, h, v, hv => by
    simp only [segsOk, Bool.and_eq_true] at h
    simp only [segsDen, List.mem_append] at hv
    rcases hv with hv | hv
    · cases s with
      | one x => simp only [Seg.den, List.mem_singleton] at hv; subst hv; exact SC.ok_den h.1 ρ
      | ints k n f =>
        simp only [Seg.den, List.mem_map] at hv
        obtain ⟨i, -, rfl⟩ := hv; rfl
    · exact segsDen_one h.2 v hv
def ikN : IntKind → Nat
  | .i8 => 0 | .i16 => 1 | .i32 => 2 | .i64 => 3 | .u8 => 4 | .u16 => 5 | .u32 => 6 | .u64 => 7
theorem ikN_inj {a b : IntKind} (h : (ikN a).beq (ikN b) = true) : a = b := by
  cases a <;> cases b <;> first | rfl | (revert h; decide)
def upd (f : Nat → Int) (o : Nat) (z : Int) : Nat → Int := fun i => bif i.beq o then z else f i
/-- The cell at a place. -/
def segGet : List Seg → Nat → Option SC
  | [], _ => none
  | .one x :: _, 0 => some x
  | .one _ :: r, o + 1 => segGet r o
  | .ints k n f :: r, o => bif o.blt n then some (.v (.int k (f o))) else segGet r (o - n)
theorem blt_t {a b : Nat} (h : a.blt b = true) : a < b := by simpa [Nat.blt_eq] using h
theorem blt_f {a b : Nat} (h : a.blt b = false) : b ≤ a := by
  rcases Nat.lt_or_ge a b with h1 | h1
  · rw [show a.blt b = true by simpa [Nat.blt_eq] using h1] at h; cases h
  · exact h1
theorem ble_t {a b : Nat} (h : a.ble b = true) : a ≤ b := Nat.le_of_ble_eq_true h
theorem ble_f {a b : Nat} (h : a.ble b = false) : b < a := by
  rcases Nat.lt_or_ge b a with h1 | h1
  · exact h1
  · rw [Nat.ble_eq_true_of_le h1] at h; cases h
theorem ints_get (k : IntKind) (n : Nat) (f : Nat → Int) (i : Nat) (h : i < n) : ((List.range n).map fun i => Value.int k (f i))[i]? = some (.int k (f i)) := by
  simp [List.getElem?_map, List.getElem?_range h]
theorem segGet_den (ρ : Nat → Nat) : ∀ (l : List Seg) (o : Nat) (x : SC), segGet l o = some x → (segsDen ρ l)[o]? = some (x.den ρ)
  | [], _, _, h => by simp [segGet] at h
  | .one y :: r, 0, x, h => by
    simp only [segGet, Option.some.injEq] at h; subst h; rfl
  | .one y :: r, o + 1, x, h => by
    simp only [segGet] at h
    simpa [segsDen, Seg.den] using segGet_den ρ r o x h
  | .ints k n f :: r, o, x, h => by
    simp only [segGet] at h
    simp only [segsDen, Seg.den]
    cases hb : o.blt n
    · rw [hb] at h
      have h1 := blt_f hb
      have := segGet_den ρ r (o - n) x h
      rw [List.getElem?_append_right (by simpa using h1)]
      simpa using this
    · rw [hb] at h
      have h1 := blt_t hb
      simp only [cond_true, Option.some.injEq] at h; subst h
      rw [List.getElem?_append_left (by simpa using h1), ints_get _ _ _ _ h1]; rfl
/-- The run of numbers that begins at a place. -/
def segInts : List Seg → Nat → Option (IntKind × Nat × (Nat → Int))
  | [], _ => none
  | .one _ :: _, 0 => none
  | .one _ :: r, o + 1 => segInts r o
  | .ints k n f :: r, o => bif o.beq 0 then some (k, n, f) else bif n.ble o then segInts r (o - n) else none
theorem segInts_den (ρ : Nat → Nat) : ∀ (l : List Seg) (o : Nat) (k : IntKind) (n : Nat) (f : Nat → Int), segInts l o = some (k, n, f) → ∀ i, i < n → (segsDen ρ l)[o + i]? = some (.int k (f i))
  | [], _, _, _, _, h => by simp [segInts] at h
  | .one y :: r, 0, _, _, _, h => by simp [segInts] at h
  | .one y :: r, o + 1, k, n, f, h => by
    intro i hi
    simp only [segInts] at h
    have := segInts_den ρ r o k n f h i hi
    rw [show o + 1 + i = (o + i) + 1 by omega]
    simpa [segsDen, Seg.den] using this
  | .ints k' n' f' :: r, o, k, n, f, h => by
    intro i hi
    simp only [segInts] at h
    simp only [segsDen, Seg.den]
    cases hb : o.beq 0
    · rw [hb] at h
      simp only [cond_false] at h
      cases hc : n'.ble o
      · rw [hc] at h; simp at h
      · rw [hc] at h
        have h1 := ble_t hc
        have := segInts_den ρ r (o - n') k n f h i hi
        rw [List.getElem?_append_right (by simp; omega)]
        rw [List.length_map, List.length_range, show o + i - n' = o - n' + i by omega]; exact this
    · rw [hb] at h
      have : o = 0 := Nat.eq_of_beq_eq_true hb
      subst this
      simp only [cond_true, Option.some.injEq, Prod.mk.injEq] at h
      obtain ⟨rfl, rfl, rfl⟩ := h
      rw [Nat.zero_add, List.getElem?_append_left (by simpa using hi), ints_get _ _ _ _ hi]
/-- A cell is written. -/
def segSet : List Seg → Nat → SC → Option (List Seg)
  | [], _, _ => none
  | .one _ :: r, 0, x => some (.one x :: r)
  | .one y :: r, o + 1, x => match segSet r o x with
    | some r' => some (.one y :: r')
    | none => none
  | .ints k n f :: r, o, x => bif o.blt n then (match x with
      | .v (.int k' z) => bif (ikN k).beq (ikN k') then some (.ints k n (upd f o z) :: r) else none
      | _ => none)
    else match segSet r (o - n) x with
      | some r' => some (.ints k n f :: r')
      | none => none
theorem upd_range (k : IntKind) (n : Nat) (f : Nat → Int) (o : Nat) (z : Int) : ((List.range n).map fun i => Value.int k (f i)).set o (.int k z) = (List.range n).map fun i => .int k (upd f o z i) := by
  apply List.ext_getElem?
  intro i
  by_cases hi : i < n
  · rw [ints_get _ _ _ _ hi]
    by_cases h : o = i
    · subst h
      rw [List.getElem?_set_self (by simpa using hi)]; simp [upd]
    · rw [List.getElem?_set_ne h, ints_get _ _ _ _ hi]
      simp only [upd]
      rw [show i.beq o = false by
        cases hb : i.beq o
        · rfl
        · exact absurd (Nat.eq_of_beq_eq_true hb).symm h]
      rfl
  · rw [List.getElem?_eq_none (by simp; omega), List.getElem?_eq_none (by simp; omega)]
theorem segSet_den (ρ : Nat → Nat) : ∀ (l : List Seg) (o : Nat) (x : SC) (l' : List Seg), segSet l o x = some l' → (segsDen ρ l).set o (x.den ρ) = segsDen ρ l' ∧ o < segsLen l
  | [], _, _, _, h => by simp [segSet] at h
  | .one y :: r, 0, x, l', h => by
    simp only [segSet, Option.some.injEq] at h; subst h
    exact ⟨rfl, by simp only [segsLen, Seg.len]; omega⟩
  | .one y :: r, o + 1, x, l', h => by
    simp only [segSet] at h
    cases h1 : segSet r o x with
    | none => rw [h1] at h; cases h
    | some r' =>
      rw [h1] at h
      simp only [Option.some.injEq] at h; subst h
      have := segSet_den ρ r o x r' h1
      exact ⟨by simpa [segsDen, Seg.den] using this.1, by simp only [segsLen, Seg.len]; omega⟩
  | .ints k n f :: r, o, x, l', h => by
    simp only [segSet] at h
    cases hb : o.blt n
    · rw [hb] at h
      have hle := blt_f hb
      simp only [cond_false] at h
      cases h1 : segSet r (o - n) x with
      | none => rw [h1] at h; cases h
      | some r' =>
        rw [h1] at h
        simp only [Option.some.injEq] at h; subst h
        have := segSet_den ρ r (o - n) x r' h1
        refine ⟨?_, by simp only [segsLen, Seg.len]; omega⟩
        simp only [segsDen, Seg.den]
        rw [List.set_append_right _ _ (by simpa using hle)]
        simp only [List.length_map, List.length_range]
        rw [this.1]
    · rw [hb] at h
      have hlt := blt_t hb
      simp only [cond_true] at h
      split at h
      · rename_i k' z
        cases hk : (ikN k).beq (ikN k')
        · rw [hk] at h; simp at h
        · rw [hk] at h
          have := ikN_inj hk
          subst this
          simp only [cond_true, Option.some.injEq] at h; subst h
          refine ⟨?_, by simp only [segsLen, Seg.len]; omega⟩
          simp only [segsDen, Seg.den, SC.den]
          rw [List.set_append_left _ _ (by simpa using hlt), upd_range]
      · cases h
/-- A number in a run of numbers is written. -/
def segSetI : List Seg → Nat → Nat → Int → Option (List Seg)
  | [], _, _, _ => none
  | .one _ :: _, 0, _, _ => none
  | .one y :: r, o + 1, i, z => match segSetI r o i z with
    | some r' => some (.one y :: r')
    | none => none
  | .ints k n f :: r, o, i, z => bif o.beq 0 then some (.ints k n (upd f i z) :: r) else bif n.ble o then (match segSetI r (o - n) i z with
      | some r' => some (.ints k n f :: r')
      | none => none) else none
theorem segSetI_den (ρ : Nat → Nat) : ∀ (l : List Seg) (o i : Nat) (z : Int) (l' : List Seg) (k : IntKind) (n : Nat) (f : Nat → Int), segInts l o = some (k, n, f) → i < n → segSetI l o i z = some l' → (segsDen ρ l).set (o + i) (.int k z) = segsDen ρ l' ∧ o + i < segsLen l
  | [], _, _, _, _, _, _, _, h, _, _ => by simp [segInts] at h
  | .one y :: r, 0, _, _, _, _, _, _, h, _, _ => by simp [segInts] at h
  | .one y :: r, o + 1, i, z, l', k, n, f, h, hi, h2 => by
    simp only [segInts] at h
    simp only [segSetI] at h2
    cases h1 : segSetI r o i z with
    | none => rw [h1] at h2; cases h2
    | some r' =>
      rw [h1] at h2
      simp only [Option.some.injEq] at h2; subst h2
      have := segSetI_den ρ r o i z r' k n f h hi h1
      rw [show o + 1 + i = (o + i) + 1 by omega]
      exact ⟨by simpa [segsDen, Seg.den] using this.1, by simp only [segsLen, Seg.len]; omega⟩
  | .ints k' n' f' :: r, o, i, z, l', k, n, f, h, hi, h2 => by
    simp only [segInts] at h
    simp only [segSetI] at h2
    simp only [segsDen, Seg.den, segsLen, Seg.len]
    cases hb : o.beq 0
    · rw [hb] at h h2
      simp only [cond_false] at h h2
      cases hc : n'.ble o
      · rw [hc] at h; simp at h
      · rw [hc] at h h2
        simp only [cond_true] at h h2
        have hle := ble_t hc
        cases h1 : segSetI r (o - n') i z with
        | none => rw [h1] at h2; cases h2
        | some r' =>
          rw [h1] at h2
          simp only [Option.some.injEq] at h2; subst h2
          have := segSetI_den ρ r (o - n') i z r' k n f h hi h1
          refine ⟨?_, by omega⟩
          rw [List.set_append_right _ _ (by simp; omega)]
          simp only [List.length_map, List.length_range, segsDen, Seg.den]
          rw [show o + i - n' = o - n' + i by omega, this.1]
    · rw [hb] at h h2
      have : o = 0 := Nat.eq_of_beq_eq_true hb
      subst this
      simp only [cond_true, Option.some.injEq, Prod.mk.injEq] at h h2
      obtain ⟨rfl, rfl, rfl⟩ := h
      subst h2
      refine ⟨?_, by omega⟩
      rw [Nat.zero_add, List.set_append_left _ _ (by simpa using hi), upd_range]
      rfl
/-- Some cells in a row. -/
def segSub : List Seg → Nat → Nat → Option (List Seg)
  | _, _, 0 => some []
  | [], _, _ + 1 => none
  | .one x :: r, 0, m + 1 => match segSub r 0 m with
    | some r' => some (.one x :: r')
    | none => none
  | .one _ :: r, o + 1, m + 1 => segSub r o (m + 1)
  | .ints k n f :: r, o, m + 1 => bif n.ble o then segSub r (o - n) (m + 1)
    else bif (o + (m + 1)).ble n then some [.ints k (m + 1) (bif o.beq 0 then f else fun i => f (o + i))]
    else bif o.beq 0 then (match segSub r 0 (m + 1 - n) with
      | some r' => some (.ints k n f :: r')
      | none => none) else none
theorem take_ints (k : IntKind) (n m o : Nat) (f : Nat → Int) (h : o + m ≤ n) : (((List.range n).map fun i => Value.int k (f i)).drop o).take m = (List.range m).map fun i => .int k (f (o + i)) := by
  apply List.ext_getElem?
  intro i
  by_cases hi : i < m
  · rw [List.getElem?_take_of_lt hi, List.getElem?_drop, ints_get _ _ _ _ (by omega), ints_get k m (fun i => f (o + i)) i hi]
  · rw [List.getElem?_eq_none (by simp; omega), List.getElem?_eq_none (by simp; omega)]
theorem segSub_den (ρ : Nat → Nat) : ∀ (l : List Seg) (o m : Nat) (l' : List Seg), segSub l o m = some l' → ((segsDen ρ l).drop o).take m = segsDen ρ l' ∧ (m ≠ 0 → o + m ≤ segsLen l) ∧ segsLen l' = m
  | l, o, 0, l', h => by
    rw [segSub.eq_1] at h
    simp only [Option.some.injEq] at h; subst h
    exact ⟨by simp [segsDen], fun h => absurd rfl h, rfl⟩
  | [], o, m + 1, l', h => by simp [segSub] at h
  | .one x :: r, 0, m + 1, l', h => by
    simp only [segSub] at h
    cases h1 : segSub r 0 m with
    | none => rw [h1] at h; cases h
    | some r' =>
      rw [h1] at h
      simp only [Option.some.injEq] at h; subst h
      have := segSub_den ρ r 0 m r' h1
      refine ⟨?_, fun _ => ?_, ?_⟩
      · simpa [segsDen, Seg.den] using this.1
      · simp only [segsLen, Seg.len]
        by_cases hm : m = 0
        · subst hm; omega
        · have := this.2.1 hm; omega
      · simp only [segsLen, Seg.len]; omega
  | .one x :: r, o + 1, m + 1, l', h => by
    simp only [segSub] at h
    have := segSub_den ρ r o (m + 1) l' h
    refine ⟨?_, fun _ => ?_, this.2.2⟩
    · simpa [segsDen, Seg.den] using this.1
    · have := this.2.1 (by omega); simp only [segsLen, Seg.len]; omega
  | .ints k n f :: r, o, m + 1, l', h => by
    simp only [segSub] at h
    simp only [segsDen, Seg.den, segsLen, Seg.len]
    cases hb : n.ble o
    · rw [hb] at h
      have hlt := ble_f hb
      simp only [cond_false] at h
      cases hc : (o + (m + 1)).ble n
      · rw [hc] at h
        have hgt := ble_f hc
        simp only [cond_false] at h
        cases hd : o.beq 0
        · rw [hd] at h; simp at h
        · rw [hd] at h
          have : o = 0 := Nat.eq_of_beq_eq_true hd
          subst this
          simp only [cond_true] at h
          cases h1 : segSub r 0 (m + 1 - n) with
          | none => rw [h1] at h; cases h
          | some r' =>
            rw [h1] at h
            simp only [Option.some.injEq] at h; subst h
            have := segSub_den ρ r 0 (m + 1 - n) r' h1
            refine ⟨?_, fun _ => ?_, ?_⟩
            · rw [List.drop_zero, List.take_append, List.take_of_length_le (by simp; omega)]
              simp only [List.length_map, List.length_range, segsDen, Seg.den]
              rw [← this.1, List.drop_zero]
            · have := this.2.1 (by omega); omega
            · simp only [segsLen, Seg.len]; omega
      · rw [hc] at h
        have hle := ble_t hc
        simp only [cond_true, Option.some.injEq] at h; subst h
        refine ⟨?_, fun _ => by omega, by simp [segsLen, Seg.len]⟩
        rw [List.drop_append_of_le_length (by simp; omega), List.take_append_of_le_length (by simp; omega), take_ints k n (m + 1) o f hle]
        simp only [segsDen, Seg.den, List.append_nil]
        cases hd : o.beq 0
        · rfl
        · have : o = 0 := Nat.eq_of_beq_eq_true hd
          subst this; simp
    · rw [hb] at h
      have hle := ble_t hb
      simp only [cond_true] at h
      have := segSub_den ρ r (o - n) (m + 1) l' h
      refine ⟨?_, fun _ => ?_, this.2.2⟩
      · rw [List.drop_append, List.drop_of_length_le (by simp; omega), List.nil_append]
        simp only [List.length_map, List.length_range]; exact this.1
      · have := this.2.1 (by omega); omega
/-- Some cells in a row are written. -/
def segPut : List Seg → Nat → List Seg → Option (List Seg)
  | l, 0, new => bif (segsLen new).ble (segsLen l) then (match l, new with
      | .ints k n f :: r, [.ints k' m g] => bif (ikN k).beq (ikN k') && m.ble n then some (.ints k n (bif m.beq n then g else fun i => bif i.blt m then g i else f i) :: r) else none
      | l, new => match segSub l (segsLen new) (segsLen l - segsLen new) with
        | some r => some (new ++ r)
        | none => none) else none
  | [], _ + 1, _ => none
  | .one y :: r, o + 1, new => match segPut r o new with
    | some r' => some (.one y :: r')
    | none => none
  | .ints k n f :: r, o + 1, new => bif n.ble (o + 1) then (match segPut r (o + 1 - n) new with
      | some r' => some (.ints k n f :: r')
      | none => none)
    else match new with
      | [.ints k' m g] => bif (ikN k).beq (ikN k') && (o + 1 + m).ble n then some (.ints k n (fun i => bif (o + 1).ble i && i.blt (o + 1 + m) then g (i - (o + 1)) else f i) :: r) else none
      | _ => none
theorem spl_append_right (A B vs : List Value) (o : Nat) (h : A.length ≤ o) : spl (A ++ B) o vs = A ++ spl B (o - A.length) vs := by
  unfold spl
  rw [List.take_append, List.take_of_length_le h, List.drop_append, List.drop_of_length_le (by omega), List.nil_append, List.append_assoc, List.append_assoc, List.append_assoc, show o + vs.length - A.length = o - A.length + vs.length by omega]
theorem spl_ints (k : IntKind) (n o m : Nat) (f g h : Nat → Int) (B : List Value) (hm : o + m ≤ n) (hh : ∀ i, i < n → h i = if o ≤ i ∧ i < o + m then g (i - o) else f i) :
    spl (((List.range n).map fun i => Value.int k (f i)) ++ B) o ((List.range m).map fun i => .int k (g i)) = ((List.range n).map fun i => .int k (h i)) ++ B := by
  unfold spl
  rw [List.take_append_of_le_length (by simp; omega), List.drop_append_of_le_length (by simp; omega), ← List.append_assoc]
  congr 1
  apply List.ext_getElem?
  intro i
  simp only [List.length_map, List.length_range]
  by_cases hi : i < n
  · rw [ints_get _ _ _ _ hi, hh i hi]
    by_cases h1 : i < o
    · rw [List.append_assoc, List.getElem?_append_left (by simp; omega), List.getElem?_take_of_lt h1, ints_get _ _ _ _ hi, if_neg (by omega)]
    · by_cases h2 : i < o + m
      · rw [List.append_assoc, List.getElem?_append_right (by simp; omega), List.getElem?_append_left (by simp; omega)]
        simp only [List.length_take, List.length_map, List.length_range]
        rw [show i - min o n = i - o by omega, ints_get _ _ _ _ (by omega), if_pos (by omega)]
      · rw [List.getElem?_append_right (by simp; omega), List.getElem?_drop]
        simp only [List.length_append, List.length_take, List.length_map, List.length_range]
        rw [show o + m + (i - (min o n + m)) = i by omega, ints_get _ _ _ _ hi, if_neg (by omega)]
  · rw [List.getElem?_eq_none (by simp; omega), List.getElem?_eq_none (by simp; omega)]
theorem segPut_den (ρ : Nat → Nat) : ∀ (l : List Seg) (o : Nat) (new l' : List Seg), segPut l o new = some l' → spl (segsDen ρ l) o (segsDen ρ new) = segsDen ρ l' ∧ o + segsLen new ≤ segsLen l
  | l, 0, new, l', h => by
    rw [segPut.eq_def] at h
    simp only at h
    cases hb : (segsLen new).ble (segsLen l)
    · rw [hb] at h; simp at h
    · rw [hb] at h
      have hle := ble_t hb
      simp only [cond_true] at h
      refine ⟨?_, by omega⟩
      split at h
      · rename_i k n f r k' m g
        cases hk : ((ikN k).beq (ikN k') && m.ble n)
        · rw [hk] at h; simp at h
        · rw [hk] at h
          simp only [cond_true, Option.some.injEq] at h; subst h
          simp only [Bool.and_eq_true] at hk
          have := ikN_inj hk.1
          subst this
          have hmn := ble_t hk.2
          simp only [segsDen, Seg.den, List.append_nil]
          refine spl_ints k n 0 m f g _ _ (by omega) (fun i hi => ?_)
          cases hd : m.beq n
          · simp only [cond_false]
            cases he : i.blt m
            · have := blt_f he; rw [if_neg (by omega)]; rfl
            · have := blt_t he; rw [if_pos (by omega)]; simp
          · have : m = n := Nat.eq_of_beq_eq_true hd
            subst this
            simp only [cond_true]; rw [if_pos (by omega)]; simp
      · cases h1 : segSub l (segsLen new) (segsLen l - segsLen new) with
        | none => rw [h1] at h; cases h
        | some r =>
          rw [h1] at h
          simp only [Option.some.injEq] at h; subst h
          have := segSub_den ρ l _ _ r h1
          unfold spl
          rw [List.take_zero, List.nil_append, Nat.zero_add, segsDen_append, ← this.1, segsDen_len]
          congr 1
          rw [List.take_of_length_le (by rw [List.length_drop, segsDen_len]; exact Nat.le_refl _)]
  | [], o + 1, new, l', h => by simp [segPut] at h
  | .one y :: r, o + 1, new, l', h => by
    simp only [segPut] at h
    cases h1 : segPut r o new with
    | none => rw [h1] at h; cases h
    | some r' =>
      rw [h1] at h
      simp only [Option.some.injEq] at h; subst h
      have := segPut_den ρ r o new r' h1
      refine ⟨?_, by simp only [segsLen, Seg.len]; omega⟩
      simp only [segsDen, Seg.den]
      rw [spl_append_right _ _ _ _ (by simp)]
      simp only [List.length_cons, List.length_nil, Nat.zero_add, Nat.add_sub_cancel]
      rw [this.1]
  | .ints k n f :: r, o + 1, new, l', h => by
    simp only [segPut] at h
    cases hb : n.ble (o + 1)
    · rw [hb] at h
      simp only [cond_false] at h
      split at h
      · rename_i k' m g
        cases hk : ((ikN k).beq (ikN k') && (o + 1 + m).ble n)
        · rw [hk] at h; simp at h
        · rw [hk] at h
          simp only [cond_true, Option.some.injEq] at h; subst h
          simp only [Bool.and_eq_true] at hk
          have := ikN_inj hk.1
          subst this
          have hmn := ble_t hk.2
          refine ⟨?_, by simp only [segsLen, Seg.len]; omega⟩
          simp only [segsDen, Seg.den, List.append_nil]
          refine spl_ints k n (o + 1) m f g _ _ (by omega) (fun i hi => ?_)
          cases he : ((o + 1).ble i && i.blt (o + 1 + m))
          · rw [if_neg]; rfl
            rintro ⟨h1, h2⟩
            rw [Nat.ble_eq_true_of_le h1, show i.blt (o + 1 + m) = true by simpa [Nat.blt_eq] using h2] at he
            cases he
          · simp only [Bool.and_eq_true] at he
            rw [if_pos ⟨ble_t he.1, blt_t he.2⟩]; rfl
      · cases h
    · rw [hb] at h
      have hle := ble_t hb
      simp only [cond_true] at h
      cases h1 : segPut r (o + 1 - n) new with
      | none => rw [h1] at h; cases h
      | some r' =>
        rw [h1] at h
        simp only [Option.some.injEq] at h; subst h
        have := segPut_den ρ r (o + 1 - n) new r' h1
        refine ⟨?_, by simp only [segsLen, Seg.len]; omega⟩
        simp only [segsDen, Seg.den]
        rw [spl_append_right _ _ _ _ (by simp; omega)]
        simp only [List.length_map, List.length_range]
        rw [this.1]
end Go.Proofs.Ytpedkcpkdacnlaa
end
section
namespace Go.Proofs.Ytpedkcpkdacnlaa
open Go.RowKit
set_option linter.unusedVariables false
inductive SA where
  | c (x : SC)
  | a (l : List Seg)
inductive SV where
  | o (x : SA)
  | t (l : List SA)
def SA.den (ρ : Nat → Nat) : SA → Value
  | .c x => x.den ρ
  | .a l => .agg (segsDen ρ l).toArray
def SV.den (ρ : Nat → Nat) : SV → Value
  | .o x => x.den ρ
  | .t l => .tuple (l.map (SA.den ρ)).toArray
abbrev sv (x : Value) : SV := .o (.c (.v x))
inductive SB where
  | cells (l : List Seg) (t : TypeId)
  | en (e : En)
  | gone
def denM (ρ : Nat → Nat) : Nat → List SB → List En
  | _, [] => []
  | i, .cells l t :: r => .blk (ρ i) (segsDen ρ l) t :: denM ρ (i + 1) r
  | i, .en e :: r => e :: denM ρ (i + 1) r
  | i, .gone :: r => denM ρ (i + 1) r
/-- A type, as far as it matters: a single cell, a struct with its fields' places and sizes, an array. -/
inductive Kd where
  | bool | int (k : IntKind) | str | ptr (e : TypeId) | slice (e : TypeId) | iface | map (k e : TypeId) | func | other
inductive TyI where
  | one (z : Value) (kd : Kd)
  | str (z : List Seg) (ps : List (Nat × Nat × Bool))
  | arr (z : List Seg) (n es : Nat) (ea : Bool)
abbrev Tab := List (Nat × TyI)
def lkT : Tab → Nat → Option TyI
  | [], _ => none
  | (t, i) :: r, u => bif t.beq u then some i else lkT r u
def aggOf (P : Program) (t : TypeId) : Bool := match P.underlying t with
  | some (.struct _) | some (.array _ _) => true
  | _ => false
def partsOf (P : Program) (t : TypeId) : Option (List (Nat × Nat × Bool)) := match P.underlying t with
  | some (.struct fs) => some (fs.toList.map fun f => (f.offset, ((P.info? f.type).map (·.size)).getD 0, aggOf P f.type))
  | _ => none
def arrOf (P : Program) (t : TypeId) : Option (Nat × Nat × Bool) := match P.underlying t with
  | some (.array n e) => some (n, ((P.info? e).map (·.size)).getD 0, aggOf P e)
  | _ => none
def kdOf (P : Program) (t : TypeId) : Kd := match P.underlying t with
  | some .bool => .bool
  | some (.int k) => .int k
  | some .string => .str
  | some (.pointer e) => .ptr e
  | some (.slice e) => .slice e
  | some (.interface _) => .iface
  | some (.map k e) => .map k e
  | some (.func _ _ _) => .func
  | _ => .other
def TyOk (P : Program) (t : TypeId) : TyI → Prop
  | .one z kd => kdOf P t = kd ∧ scalarB P t = true ∧ (P.info? t).map (·.size) = some 1 ∧ (P.info? t).bind (·.zero) = some z ∧ z.oneCell' = true
  | .str z ps => partsOf P t = some ps ∧ (P.info? t).map (·.size) = some (segsLen z) ∧ (P.info? t).bind (·.zero) = some (.agg (segsDen (fun _ => 0) z).toArray) ∧ segsOk z = true
  | .arr z n es ea => arrOf P t = some (n, es, ea) ∧ (P.info? t).map (·.size) = some (segsLen z) ∧ (P.info? t).bind (·.zero) = some (.agg (segsDen (fun _ => 0) z).toArray) ∧ segsOk z = true
def TabOk (P : Program) (T : Tab) : Prop := ∀ t i, lkT T t = some i → TyOk P t i
theorem TabOk.nil (P : Program) : TabOk P [] := fun _ _ h => by simp [lkT] at h
theorem TabOk.cons {P : Program} {t : Nat} {i : TyI} {T : Tab} (h : TyOk P t i) (hT : TabOk P T) : TabOk P ((t, i) :: T) := fun u j hj => by
  unfold lkT at hj
  cases hb : t.beq u
  · rw [hb] at hj; exact hT u j hj
  · rw [hb] at hj
    have := Nat.eq_of_beq_eq_true hb
    subst this
    simp only [cond_true, Option.some.injEq] at hj; subst hj; exact h
def TyI.zero : TyI → List Seg
  | .one z _ => [.one (.v z)]
  | .str z _ => z
  | .arr z _ _ _ => z
def TyI.size : TyI → Nat
  | .one _ _ => 1
  | .str z _ => segsLen z
  | .arr z _ _ _ => segsLen z
/-! Scope: only blocks that there are. -/
def SC.sc (n : Nat) : SC → Bool
  | .v _ => true
  | .p b _ => b.blt n
  | .e b _ _ => b.blt n
  | .s b _ _ _ => b.blt n
  | .i _ b _ => b.blt n
  | .r _ _ _ _ _ _ _ => true
  | .re _ _ _ _ _ _ _ _ => true
def segsSc (n : Nat) : List Seg → Bool
  | [] => true
  | .one x :: r => x.sc n && segsSc n r
  | .ints _ _ _ :: r => segsSc n r
def SA.sc (n : Nat) : SA → Bool
  | .c x => x.sc n
  | .a l => segsSc n l
def SV.sc (n : Nat) : SV → Bool
  | .o x => x.sc n
  | .t l => l.all (SA.sc n)
def memSc (n : Nat) : List SB → Bool
  | [] => true
  | .cells l _ :: r => segsSc n l && memSc n r
  | _ :: r => memSc n r
abbrev Env := List (Nat × SV)
def envSc (n : Nat) : Env → Bool
  | [] => true
  | (_, x) :: r => x.sc n && envSc n r
section
variable {ρ ρ' : Nat → Nat} {n : Nat} (hρ : ∀ i, i < n → ρ' i = ρ i)
include hρ
theorem SC.sc_den {x : SC} (h : x.sc n = true) : x.den ρ' = x.den ρ := by
  cases x with
  | v x => rfl
  | p b off => simp only [SC.den, hρ b (blt_t h)]
  | e b off ix => simp only [SC.den, hρ b (blt_t h)]
  | s b off m c => simp only [SC.den, hρ b (blt_t h)]
  | i t b off => simp only [SC.den, hρ b (blt_t h)]
  | r a n c m sz ks z => rfl
  | re a c m sz ks z i f => rfl
theorem segsSc_den : ∀ {l : List Seg}, segsSc n l = true → segsDen ρ' l = segsDen ρ l
  | [], _ => rfl
  | .one x :: r, h => by
    simp only [segsSc, Bool.and_eq_true] at h
    simp only [segsDen, Seg.den, SC.sc_den hρ h.1, segsSc_den h.2]
  | .ints k m f :: r, h => by
    simp only [segsSc] at h
    simp only [segsDen, Seg.den, segsSc_den h]
theorem SA.sc_den {x : SA} (h : x.sc n = true) : x.den ρ' = x.den ρ := by
  cases x with
  | c x => exact SC.sc_den hρ h
  | a l => simp only [SA.den, segsSc_den hρ (l := l) h]
theorem SV.sc_den {x : SV} (h : x.sc n = true) : x.den ρ' = x.den ρ := by
  cases x with
  | o x => exact SA.sc_den hρ h
  | t l =>
    simp only [SV.den]
    congr 2
    exact List.map_congr_left fun y hy => SA.sc_den hρ (List.all_eq_true.1 h y hy)
theorem memSc_den : ∀ {M : List SB} {i : Nat}, memSc n M = true → i + M.length ≤ n → denM ρ' i M = denM ρ i M
  | [], _, _, _ => rfl
  | .cells l t :: r, i, h, hl => by
    simp only [memSc, Bool.and_eq_true] at h
    simp only [List.length_cons] at hl
    rw [denM, denM, segsSc_den hρ h.1, memSc_den (M := r) (i := i + 1) h.2 (by omega), hρ i (by omega)]
  | .en e :: r, i, h, hl => by
    simp only [List.length_cons] at hl
    simp only [denM, memSc_den (M := r) (i := i + 1) h (by omega)]
  | .gone :: r, i, h, hl => by
    simp only [List.length_cons] at hl
    simp only [denM, memSc_den (M := r) (i := i + 1) h (by omega)]
end
/-! Blocks. -/
def nth : List SB → Nat → Option SB
  | [], _ => none
  | b :: _, 0 => some b
  | _ :: r, n + 1 => nth r n
def setNth : List SB → Nat → SB → List SB
  | [], _, _ => []
  | _ :: r, 0, x => x :: r
  | b :: r, n + 1, x => b :: setNth r n x
theorem denM_sel (ρ : Nat → Nat) {l : List Seg} {t : TypeId} : ∀ (M : List SB) (i b : Nat), nth M b = some (.cells l t) → ∃ f, Sel (.blk (ρ (i + b)) (segsDen ρ l) t) (denM ρ i M) f ∧ ∀ l' t', f (.blk (ρ (i + b)) (segsDen ρ l') t') = denM ρ i (setNth M b (.cells l' t'))
  | [], _, _, h => by simp [nth] at h
  | c :: r, i, 0, h => by
    simp only [nth, Option.some.injEq] at h; subst h
    exact ⟨_, Sel.head, fun l' t' => rfl⟩
  | c :: r, i, b + 1, h => by
    simp only [nth] at h
    obtain ⟨f, h1, h2⟩ := denM_sel ρ r (i + 1) b h
    rw [show i + 1 + b = i + (b + 1) by omega] at h1 h2
    cases c with
    | cells l2 t2 => exact ⟨_, Sel.tail h1, fun l' t' => by simp only [denM, setNth, h2]⟩
    | en e => exact ⟨_, Sel.tail h1, fun l' t' => by simp only [denM, setNth, h2]⟩
    | gone => exact ⟨_, h1, fun l' t' => by simp only [denM, setNth, h2]⟩
theorem denM_append (ρ : Nat → Nat) : ∀ (M N : List SB) (i : Nat), denM ρ i (M ++ N) = denM ρ i M ++ denM ρ (i + M.length) N
  | [], N, i => by simp [denM]
  | c :: r, N, i => by
    have := denM_append ρ r N (i + 1)
    cases c <;> simp only [List.cons_append, denM, this, List.length_cons, show i + 1 + r.length = i + (r.length + 1) by omega]
/-! Frames. -/
def lk : Env → Nat → Option SV
  | [], _ => none
  | (t, x) :: r, u => bif t.beq u then some x else lk r u
structure EnvOk (ρ : Nat → Nat) (nt : Nat) (env : Env) (a : Act) : Prop where
  defers : a.defers = []
  size : a.tmps.size = nt
  get : ∀ t x, lk env t = some x → a.tmps[t]? = some (x.den ρ)
def evalS (env : Env) : Operand → Option SV
  | .tmp t => lk env t
  | .const v => some (sv v)
  | .global g => some (sv (.pointer (some ⟨g, 0, none⟩)))
  | .func f => some (sv (.func (.func f) #[] #[]))
theorem EnvOk.eval {ρ : Nat → Nat} {nt : Nat} {env : Env} {a : Act} (h : EnvOk ρ nt env a) {x : Operand} {v : SV} (e : evalS env x = some v) : a.eval x = v.den ρ := by
  cases x with
  | tmp t =>
    have := h.get t v e
    simp only [Act.eval, Array.getD_eq_getD_getElem?, this, Option.getD_some]
  | const v => simp only [evalS, Option.some.injEq] at e; subst e; rfl
  | global g => simp only [evalS, Option.some.injEq] at e; subst e; rfl
  | func f => simp only [evalS, Option.some.injEq] at e; subst e; rfl
theorem EnvOk.put {ρ : Nat → Nat} {nt : Nat} {env : Env} {a : Act} (h : EnvOk ρ nt env a) {d : Nat} (hd : d < nt) (x : SV) : EnvOk ρ nt ((d, x) :: env) (a.put (some d) (x.den ρ)) := by
  refine ⟨h.defers, by simp only [Act.put, Array.size_setIfInBounds]; exact h.size, fun t y hy => ?_⟩
  simp only [Act.put]
  unfold lk at hy
  cases hb : d.beq t
  · rw [hb] at hy
    have hne : d ≠ t := fun e => by subst e; simp at hb
    rw [Array.getElem?_setIfInBounds_ne hne]; exact h.get t y hy
  · rw [hb] at hy
    have := Nat.eq_of_beq_eq_true hb
    subst this
    simp only [cond_true, Option.some.injEq] at hy; subst hy
    rw [Array.getElem?_setIfInBounds_self_of_lt (by rw [h.size]; exact hd)]
theorem EnvOk.over {ρ ρ' : Nat → Nat} {nt n : Nat} {env : Env} {a : Act} (h : EnvOk ρ nt env a) (hρ : ∀ i, i < n → ρ' i = ρ i) (hs : envSc n env = true) : EnvOk ρ' nt env a := by
  refine ⟨h.defers, h.size, fun t x hx => ?_⟩
  have : ∀ (e : Env), envSc n e = true → lk e t = some x → x.sc n = true := by
    intro e
    induction e with
    | nil => intro _ hh; simp [lk] at hh
    | cons p r ih =>
      obtain ⟨u, y⟩ := p
      intro h1 h2
      simp only [envSc, Bool.and_eq_true] at h1
      unfold lk at h2
      cases hb : u.beq t
      · rw [hb] at h2; exact ih h1.2 h2
      · rw [hb] at h2; simp only [cond_true, Option.some.injEq] at h2; subst h2; exact h1.1
  rw [SV.sc_den hρ (this env hs hx)]
  exact h.get t x hx
end Go.Proofs.Ytpedkcpkdacnlaa
end
section
namespace Go.Proofs.Ytpedkcpkdacnlaa
open Go.RowKit
set_option linter.unusedVariables false
/-- What comes of an operation: a value, a turn of memory, a new variable, a call; each under a condition. -/
inductive Eff where
  | val (vc : Option Prop) (x : SV)
  | mem (vc : Option Prop) (M : List SB)
  | new (B : SB)
  | call (f : FuncId) (args : List SA)
  | no
def vcP : Option Prop → Prop
  | none => True
  | some p => p
def vcAnd : Option Prop → Prop → Prop
  | none, q => q
  | some p, q => p ∧ q
theorem vcAnd_iff {o : Option Prop} {q : Prop} : vcAnd o q ↔ vcP o ∧ q := by cases o <;> simp [vcAnd, vcP]
def ikE (a b : IntKind) : Bool := (ikN a).beq (ikN b)
def ifK (a b : IntKind) (x : Option (Option Prop × Value)) : Option (Option Prop × Value) := bif ikE a b then x else none
theorem ifK_some {a b : IntKind} {x : Option (Option Prop × Value)} {y : Option Prop × Value} (h : ifK a b x = some y) : a = b ∧ x = some y := by
  unfold ifK at h
  cases hb : ikE a b
  · rw [hb] at h; cases h
  · rw [hb] at h; exact ⟨ikN_inj hb, h⟩
def binS : BinOp → Value → Value → Option (Option Prop × Value)
  | .add, .int k a, .int k' b => ifK k k' (some (none, .int k (k.wrap (a + b))))
  | .sub, .int k a, .int k' b => ifK k k' (some (none, .int k (k.wrap (a - b))))
  | .mul, .int k a, .int k' b => ifK k k' (some (none, .int k (k.wrap (a * b))))
  | .quo, .int k a, .int k' b => ifK k k' (some (some (b ≠ 0), .int k (k.wrap (a.tdiv b))))
  | .rem, .int k a, .int k' b => ifK k k' (some (some (b ≠ 0), .int k (a.tmod b)))
  | .and, .int k a, .int k' b => ifK k k' (some (none, .int k (bits .and k a b)))
  | .or, .int k a, .int k' b => ifK k k' (some (none, .int k (bits .or k a b)))
  | .xor, .int k a, .int k' b => ifK k k' (some (none, .int k (bits .xor k a b)))
  | .andNot, .int k a, .int k' b => ifK k k' (some (none, .int k (bits .andNot k a b)))
  | .shl, .int k a, .int _ b => some (some (0 ≤ b), .int k (k.wrap (a * 2 ^ (min b.toNat k.bits))))
  | .shr, .int k a, .int _ b => some (some (0 ≤ b), .int k (a.fdiv (2 ^ (min b.toNat k.bits))))
  | .eql, .int k a, .int k' b => ifK k k' (some (none, .bool (a == b)))
  | .neq, .int k a, .int k' b => ifK k k' (some (none, .bool (a != b)))
  | .lss, .int k a, .int k' b => ifK k k' (some (none, .bool (decide (a < b))))
  | .leq, .int k a, .int k' b => ifK k k' (some (none, .bool (decide (a ≤ b))))
  | .gtr, .int k a, .int k' b => ifK k k' (some (none, .bool (decide (a > b))))
  | .geq, .int k a, .int k' b => ifK k k' (some (none, .bool (decide (a ≥ b))))
  | _, _, _ => none
theorem binS_run {P : Program} {op : BinOp} {x y z : Value} {vc : Option Prop} (h : binS op x y = some (vc, z)) (hv : vcP vc) (t : TypeId) (u v : Operand) (w : World) :
    (do eqGuard op t u v x y; binOp op t x y : Sem Value).run P w = .ok z w := by
  unfold binS at h
  split at h
  all_goals (try (replace h := ifK_some h; obtain ⟨rfl, h⟩ := h))
  all_goals simp only [Option.some.injEq, Prod.mk.injEq, reduceCtorEq] at h
  all_goals (obtain ⟨rfl, rfl⟩ := h)
  all_goals (try simp only [vcP] at hv)
  all_goals simp_all [go_sem, Sem.run_bind, Op.intArith, Op.intDiv, Op.shift, binOp, Op.intCmp, Op.intBits, bits]
  all_goals (rw [if_neg (by omega)]; rfl)
theorem lkT_ok {P : Program} {T : Tab} (hT : TabOk P T) {t : Nat} {i : TyI} (h : lkT T t = some i) : TyOk P t i := hT t i h
section
variable {P : Program} {w0 w : World} {S : Nat → Prop} {ρ : Nat → Nat} {M : List SB}
def enterB (P : Program) (f : FuncId) : Bool := match P.funcs[f]? with
  | some fn => !(fn.name == "runtime.NumGoroutine") && fn.body.isSome
  | none => false
def EffOk (P : Program) (w0 : World) (S : Nat → Prop) (ρ : Nat → Nat) (M : List SB) (w : World) (r : Sem Next) : Eff → Prop
  | .val vc x => vcP vc → r.run P w = .ok (.value (x.den ρ)) w
  | .mem vc M' => vcP vc → ∃ w', r.run P w = .ok .skip w' ∧ Mem w0 S (denM ρ 0 M') w' ∧ M'.length = M.length
  | .new (.cells l t) => r.run P w = .ok (.value (.pointer (some ⟨w.heap.size, 0, none⟩))) (w.alloc (.cells (segsDen ρ l).toArray t))
  | .new _ => False
  | .call f args => enterB P f = true → r.run P w = .ok (.enter f (args.map (SA.den ρ)).toArray) w
  | .no => True
theorem setNth_len : ∀ (M : List SB) (b : Nat) (x : SB), (setNth M b x).length = M.length
  | [], _, _ => rfl
  | _ :: r, 0, _ => rfl
  | _ :: r, b + 1, x => by simp [setNth, setNth_len r b x]
theorem blk_of (HM : Mem w0 S (denM ρ 0 M) w) {b : Nat} {l : List Seg} {t : TypeId} (h : nth M b = some (.cells l t)) : Blk w (ρ b) (segsDen ρ l) t := by
  obtain ⟨f, h1, -⟩ := denM_sel ρ M 0 b h
  rw [Nat.zero_add] at h1
  exact HM.blk h1
theorem info_size {t n : Nat} (h : (P.info? t).map (·.size) = some n) : ∃ i, P.info? t = some i ∧ i.size = n := by
  cases hq : P.info? t with
  | none => rw [hq] at h; cases h
  | some i => exact ⟨i, rfl, by rw [hq] at h; simpa using h⟩
theorem aggOf_some {t : TypeId} (h : aggOf P t = true) : ∃ d, P.underlying t = some d ∧ (match d with | .struct _ | .array _ _ => true | _ => false) = true := by
  unfold aggOf at h
  cases hu : P.underlying t with
  | none => rw [hu] at h; cases h
  | some d => rw [hu] at h; exact ⟨d, rfl, by cases d <;> simp_all⟩
theorem TyOk.agg {t : TypeId} {i : TyI} (h : TyOk P t i) (hi : ∀ z k, i ≠ .one z k) : aggOf P t = true ∧ (P.info? t).map (·.size) = some i.size ∧ (P.info? t).bind (·.zero) = some (.agg (segsDen (fun _ => 0) i.zero).toArray) ∧ segsOk i.zero = true ∧ segsLen i.zero = i.size := by
  cases i with
  | one z k => exact absurd rfl (hi z k)
  | str z ps =>
    obtain ⟨h1, h2, h3, h4⟩ := h
    refine ⟨?_, h2, h3, h4, rfl⟩
    unfold partsOf at h1; unfold aggOf
    cases hu : P.underlying t with
    | none => rw [hu] at h1; cases h1
    | some d => rw [hu] at h1; cases d <;> simp_all
  | arr z n es ea =>
    obtain ⟨h1, h2, h3, h4⟩ := h
    refine ⟨?_, h2, h3, h4, rfl⟩
    unfold arrOf at h1; unfold aggOf
    cases hu : P.underlying t with
    | none => rw [hu] at h1; cases h1
    | some d => rw [hu] at h1; cases d <;> simp_all
theorem segs_noptr {ρ ρ' : Nat → Nat} : ∀ {l : List Seg}, segsSc 0 l = true → segsDen ρ l = segsDen ρ' l := fun h => segsSc_den (n := 0) (fun i hi => absurd hi (Nat.not_lt_zero i)) h
/-! New variables. -/
def allocS (T : Tab) (t : TypeId) : Eff := match lkT T t with
  | some i => bif segsSc 0 i.zero then .new (.cells i.zero t) else .no
  | none => .no
theorem allocS_ok {T : Tab} (hT : TabOk P T) (t : TypeId) : EffOk P w0 S ρ M w (do pure (Next.value (← Instr.alloc t true (.tuple #[])))) (allocS T t) := by
  unfold allocS
  cases h : lkT T t with
  | none => trivial
  | some i =>
    dsimp only
    cases hs : segsSc 0 i.zero with
    | false => trivial
    | true =>
      simp only [cond_true, EffOk]
      have ok := hT t i h
      have hz : ∃ z : Value, (P.info? t).bind (·.zero) = some z ∧ z.cells = (segsDen ρ i.zero).toArray := by
        cases i with
        | one z k =>
          obtain ⟨-, -, -, h3, h4⟩ := ok
          exact ⟨z, h3, by cases z <;> simp_all [Value.cells, Value.oneCell', TyI.zero, segsDen, Seg.den, SC.den]⟩
        | str z ps => exact ⟨_, ok.2.2.1, by simp only [TyI.zero] at hs ⊢; rw [Value.cells, segs_noptr (ρ' := ρ) hs]⟩
        | arr z n es ea => exact ⟨_, ok.2.2.1, by simp only [TyI.zero] at hs ⊢; rw [Value.cells, segs_noptr (ρ' := ρ) hs]⟩
      obtain ⟨z, h1, h2⟩ := hz
      cases hq : P.info? t with
      | none => rw [hq] at h1; cases h1
      | some j =>
        have h1' : j.zero = some z := by simpa [hq] using h1
        simp [Instr.alloc, zeroValue, typeInfo, hq, h1', newVar, newRow, h2, Sem.run_bind]
def boxS (t : TypeId) : Option SV → Eff
  | some (.o (.c x)) => bif x.ok then .new (.cells [.one x] t) else .no
  | some (.o (.a l)) => .new (.cells l t)
  | _ => .no
theorem one_cells {v : Value} (h : v.oneCell' = true) : v.cells = #[v] := by cases v <;> simp_all [Value.cells, Value.oneCell']
theorem boxS_ok (t : TypeId) {x : Option SV} {v : Value} (hx : ∀ y, x = some y → v = y.den ρ) : EffOk P w0 S ρ M w (do pure (Next.value (← Instr.box t v))) (boxS t x) := by
  unfold boxS
  split
  · rename_i x
    have := hx _ rfl
    subst this
    cases ho : x.ok
    · trivial
    · simp [EffOk, Instr.box, newVar, newRow, one_cells (SC.ok_den ho ρ), SV.den, SA.den, segsDen, Seg.den]
  · rename_i l
    have := hx _ rfl
    subst this
    simp [EffOk, Instr.box, newVar, newRow, Value.cells, SV.den, SA.den]
  · trivial
/-! Reading. -/
def rowS (ks : Nat → IntKind) (z : Nat → Nat → Int) (i : Nat) : Nat → Nat → List Seg
  | _, 0 => []
  | f, n + 1 => .one (.v (.int (ks f) (z i f))) :: rowS ks z i (f + 1) n
theorem rowS_get (ρ : Nat → Nat) (ks : Nat → IntKind) (z : Nat → Nat → Int) (i : Nat) : ∀ (n f j : Nat), j < n → (segsDen ρ (rowS ks z i f n))[j]? = some (.int (ks (f + j)) (z i (f + j)))
  | 0, f, j, h => by omega
  | n + 1, f, 0, h => rfl
  | n + 1, f, j + 1, h => by
    have := rowS_get ρ ks z i n (f + 1) j (by omega)
    rw [show f + 1 + j = f + (j + 1) by omega] at this
    simpa [rowS, segsDen, Seg.den] using this
theorem rowS_len (ρ : Nat → Nat) (ks : Nat → IntKind) (z : Nat → Nat → Int) (i : Nat) : ∀ (n f : Nat), (segsDen ρ (rowS ks z i f n)).length = n
  | 0, f => rfl
  | n + 1, f => by simp [rowS, segsDen, Seg.den, rowS_len ρ ks z i n (f + 1)]
/-- What lies in memory from the beginning can still be read. -/
def OldOk (V w0 : World) (S : Nat → Prop) : Prop := ∀ sz ks a m c z w, Rws sz ks V a m c z → Kept S w0 w → Rws sz ks w a m c z
theorem OldOk.self (w : World) : OldOk w w (fun _ => False) := fun sz ks a m c z w' h k => h.below (k.below (Nat.le_refl _) (fun _ h => h.elim))
def loadS (V : World) (T : Tab) (M : List SB) (t : TypeId) : Option SV → Eff
  | some (.o (.c (.p b off))) => match lkT T t, nth M b with
    | some (.one _ _), some (.cells l _) => match segGet l off with
      | some x => .val none (.o (.c x))
      | none => .no
    | some i, some (.cells l _) => match segSub l off i.size with
      | some l' => bif i.size.beq 0 then .no else .val none (.o (.a l'))
      | none => .no
    | _, _ => .no
  | some (.o (.c (.e b off ix))) => match lkT T t, nth M b with
    | some (.one _ _), some (.cells l _) => match segInts l off with
      | some (k, n, f) => .val (some (ix < n)) (sv (.int k (f ix)))
      | none => .no
    | _, _ => .no
  | some (.o (.c (.re a c m sz ks z i f))) => match lkT T t with
    | some (.one _ _) => .val (some (Rws sz ks V a m c z ∧ i < m ∧ f < sz)) (sv (.int (ks f) (z i f)))
    | some ti => bif f.beq 0 && ti.size.beq sz then .val (some (Rws sz ks V a m c z ∧ i < m)) (.o (.a (rowS ks z i 0 sz))) else .no
    | none => .no
  | _ => .no
theorem loadS_ok {V : World} {T : Tab} (hV : OldOk V w0 S) (hT : TabOk P T) (HM : Mem w0 S (denM ρ 0 M) w) (t : TypeId) {x : Option SV} {v : Value} (hx : ∀ y, x = some y → v = y.den ρ) : EffOk P w0 S ρ M w (do pure (Next.value (← Instr.loadAt t v))) (loadS V T M t x) := by
  unfold loadS
  split
  · rename_i b off
    have := hx _ rfl
    subst this
    split
    · rename_i z k l t' h1 h2
      cases h3 : segGet l off with
      | none => trivial
      | some y =>
        dsimp only [EffOk]
        intro _
        have hc : w.cell? ⟨ρ b, off, none⟩ = some (y.den ρ) := by rw [(blk_of HM h2).cell]; exact segGet_den ρ l off y h3
        have hs := (hT _ _ h1).2.1
        simp [Instr.loadAt, Instr.sureAddr, SV.den, SA.den, SC.den, run_loadVar_cell t hs _ _ hc]
    · rename_i i l t' hi h1 h2
      cases h3 : segSub l off i.size with
      | none => trivial
      | some l' =>
        dsimp only
        cases h00 : i.size.beq 0
        case true => trivial
        rw [cond_false]
        have h0 : i.size ≠ 0 := fun e => by rw [e] at h00; cases h00
        dsimp only [EffOk]
        intro _
        obtain ⟨ha, hz, -, -, -⟩ := (hT _ _ h1).agg (fun z k e => hi z k e)
        obtain ⟨d, hu, hd⟩ := aggOf_some ha
        obtain ⟨e1, e2, e3⟩ := segSub_den ρ l off i.size l' h3
        have := run_loadVar_part (P := P) w (ρ b) (segsDen ρ l) t' t off i.size d (blk_of HM h2) (by rw [segsDen_len]; exact e2 h0) hu (by cases d <;> simp_all) hz
        rw [e1] at this
        simp [Instr.loadAt, Instr.sureAddr, SV.den, SA.den, SC.den, this]
    · trivial
  · rename_i b off ix
    have := hx _ rfl
    subst this
    split
    · rename_i z k l t' h1 h2
      cases h3 : segInts l off with
      | none => trivial
      | some q =>
        obtain ⟨k, n, f⟩ := q
        dsimp only [EffOk, vcP]
        intro hlt
        have hc : w.cell? ⟨ρ b, off + ix, none⟩ = some (.int k (f ix)) := by rw [(blk_of HM h2).cell]; exact segInts_den ρ l off k n f h3 ix hlt
        have hs := (hT _ _ h1).2.1
        simp [Instr.loadAt, Instr.sureAddr, SV.den, SA.den, SC.den, run_loadVar_cell t hs _ _ hc]
    · trivial
  · rename_i a c m sz ks z i f
    have := hx _ rfl
    subst this
    split
    · rename_i z0 k0 h1
      dsimp only [EffOk, vcP]
      rintro ⟨hr, hi, hf⟩
      obtain ⟨b, off, rfl, -, hc⟩ := (hV _ _ _ _ _ _ _ hr HM.kept).at i hi
      have hs := (hT _ _ h1).2.1
      have hc1 := (hc f hf).1
      have e : (SV.o (.c (.re (some ⟨b, off, none⟩) c m sz ks z i f))).den ρ = .pointer (some ⟨b, off + i * sz + f, none⟩) := by
        simp only [SV.den, SA.den, SC.den, elemAddr, Nat.add_assoc]
      rw [e]
      simp [Instr.loadAt, Instr.sureAddr, run_loadVar_cell t hs _ _ hc1, SV.den, SA.den, SC.den]
    · rename_i ti hone h1
      cases hb : (f.beq 0 && ti.size.beq sz)
      · trivial
      · simp only [Bool.and_eq_true] at hb
        obtain rfl := Nat.eq_of_beq_eq_true hb.1
        have hsz := Nat.eq_of_beq_eq_true hb.2
        dsimp only [cond_true, EffOk, vcP]
        rintro ⟨hr, hi⟩
        obtain ⟨b, off, rfl, -, hc⟩ := (hV _ _ _ _ _ _ _ hr HM.kept).at i hi
        obtain ⟨ha, hz, -, -, -⟩ := (hT _ _ h1).agg (fun z k e => hone z k e)
        obtain ⟨d, hu, hd⟩ := aggOf_some ha
        have e : (SV.o (.c (.re (some ⟨b, off, none⟩) c m sz ks z i 0))).den ρ = .pointer (some ⟨b, off + i * sz, none⟩) := by
          simp only [SV.den, SA.den, SC.den, elemAddr, Nat.add_zero]
        rw [e]
        have hmid := run_loadVar_mid (P := P) w b (off + i * sz) t (segsDen ρ (rowS ks z i 0 sz)) d (fun j v hv => by
          have hj : j < sz := by
            have := (List.getElem?_eq_some_iff.1 hv).1
            rwa [rowS_len] at this
          rw [rowS_get ρ ks z i sz 0 j hj, Nat.zero_add, Option.some.injEq] at hv
          subst hv
          exact (hc j hj).1) hu (by cases d <;> simp_all [TypeDesc.isRow]) (by rw [rowS_len, ← hsz]; exact hz)
        simp [Instr.loadAt, Instr.sureAddr, hmid, SV.den, SA.den]
    · trivial
  · trivial
/-! Writing. -/
def storeS (T : Tab) (M : List SB) (t : TypeId) : Option SV → Option SV → Eff
  | some (.o (.c (.p b off))), some (.o (.c y)) => match lkT T t, nth M b with
    | some (.one _ _), some (.cells l t') => match segSet l off y with
      | some l' => bif y.ok then .mem none (setNth M b (.cells l' t')) else .no
      | none => .no
    | _, _ => .no
  | some (.o (.c (.p b off))), some (.o (.a m)) => match lkT T t, nth M b with
    | some (.one _ _), _ => .no
    | some i, some (.cells l t') => match segPut l off m with
      | some l' => bif segsOk m && (segsLen m).beq i.size then .mem none (setNth M b (.cells l' t')) else .no
      | none => .no
    | _, _ => .no
  | some (.o (.c (.e b off ix))), some (.o (.c (.v (.int k z)))) => match lkT T t, nth M b with
    | some (.one _ _), some (.cells l t') => match segInts l off, segSetI l off ix z with
      | some (k', n, f), some l' => bif ikE k k' then .mem (some (ix < n)) (setNth M b (.cells l' t')) else .no
      | _, _ => .no
    | _, _ => .no
  | _, _ => .no
theorem oneB_of {t : TypeId} (h : (P.info? t).map (·.size) = some 1) : oneB P t = true := by unfold oneB; rw [h]; rfl
theorem mem_set (HM : Mem w0 S (denM ρ 0 M) w) {b : Nat} {l l' : List Seg} {t : TypeId} (h : nth M b = some (.cells l t)) (w' : World) (hk : Kept (fun g => g = ρ b) w w') (hB : Blk w' (ρ b) (segsDen ρ l') t) : Mem w0 S (denM ρ 0 (setNth M b (.cells l' t))) w' := by
  obtain ⟨f, h1, h2⟩ := denM_sel ρ M 0 b h
  rw [Nat.zero_add] at h1 h2
  rw [← h2 l' t]
  exact HM.turn h1 (hk.mono (fun k hk => by subst hk; rfl)) _ hB (fun g hg => .inl hg)
theorem storeS_ok {T : Tab} (hT : TabOk P T) (HM : Mem w0 S (denM ρ 0 M) w) (t : TypeId) {x y : Option SV} {v u : Value} (hx : ∀ s, x = some s → v = s.den ρ) (hy : ∀ s, y = some s → u = s.den ρ) : EffOk P w0 S ρ M w (do Instr.storeAt t v u; pure Next.skip) (storeS T M t x y) := by
  unfold storeS
  split
  · rename_i b off y
    have := hx _ rfl
    subst this
    have := hy _ rfl
    subst this
    split
    · rename_i z k l t' h1 h2
      cases h3 : segSet l off y with
      | none => trivial
      | some l' =>
        dsimp only
        cases ho : y.ok
        · trivial
        · dsimp only [cond_true, EffOk]
          intro _
          obtain ⟨e1, e2⟩ := segSet_den ρ l off y l' h3
          have hB := blk_of HM h2
          have hlt : off < (segsDen ρ l).length := by rw [segsDen_len]; exact e2
          have hc : w.cell? ⟨ρ b, off, none⟩ = some (segsDen ρ l)[off] := by rw [hB.cell]; exact List.getElem?_eq_getElem hlt
          have hr := run_storeVar_cell (P := P) t (oneB_of (hT _ _ h1).2.2.1) ⟨ρ b, off, none⟩ (y.den ρ) _ (SC.ok_den ho ρ) hc (hB.frozen _)
          refine ⟨w.setCell ⟨ρ b, off, none⟩ (y.den ρ), ?_, ?_, setNth_len _ _ _⟩
          · have e : (SC.p b off).den ρ = .pointer (some ⟨ρ b, off, none⟩) := rfl
            simp only [Instr.storeAt, SV.den, SA.den, e, Instr.sureAddr, Sem.run_bind, Sem.run_pure, Result.andThen_ok, hr]
          · exact mem_set HM h2 _ ((Kept.refl (fun g => g = ρ b) w).setCell (p := ⟨ρ b, off, none⟩) (.inl rfl) _) (by rw [← e1]; exact hB.set off _)
    · trivial
  · rename_i b off m
    have := hx _ rfl
    subst this
    have := hy _ rfl
    subst this
    split
    · trivial
    · rename_i i l t' hi h1 h2
      cases h3 : segPut l off m with
      | none => trivial
      | some l' =>
        dsimp only
        cases ho : (segsOk m && (segsLen m).beq i.size)
        · trivial
        · simp only [Bool.and_eq_true] at ho
          dsimp only [cond_true, EffOk]
          intro _
          obtain ⟨e1, e2⟩ := segPut_den ρ l off m l' h3
          have hB := blk_of HM h2
          have hsz := Nat.eq_of_beq_eq_true ho.2
          obtain ⟨ha, hz, -, -, -⟩ := (hT _ _ h1).agg (fun z k e => hi z k e)
          have hr := run_storeVar_part (P := P) w (ρ b) (segsDen ρ l) t' t off i.size (segsDen ρ m) hB (by rw [segsDen_len]; exact hsz) (by rw [segsDen_len, ← hsz]; exact e2) hz (segsDen_one ho.1)
          refine ⟨_, ?_, mem_set HM h2 _ ((Kept.setBlk w (ρ b) _).mono (fun k hk => hk)) (by rw [← e1]; exact hB.setBlk _), setNth_len _ _ _⟩
          simp only [Instr.storeAt, Instr.sureAddr, SV.den, SA.den, SC.den, Sem.run_bind, Sem.run_pure, Result.andThen_ok, hr]
    · trivial
  · rename_i b off ix k z
    have := hx _ rfl
    subst this
    have := hy _ rfl
    subst this
    split
    · rename_i z0 k0 l t' h1 h2
      split
      · rename_i k' n f l' h3 h4
        cases hik : ikE k k'
        · trivial
        obtain rfl := ikN_inj hik
        dsimp only [cond_true, EffOk, vcP]
        intro hlt
        obtain ⟨e1, e2⟩ := segSetI_den ρ l off ix z l' k n f h3 hlt h4
        have hB := blk_of HM h2
        have hlt' : off + ix < (segsDen ρ l).length := by rw [segsDen_len]; exact e2
        have hc : w.cell? ⟨ρ b, off + ix, none⟩ = some (segsDen ρ l)[off + ix] := by rw [hB.cell]; exact List.getElem?_eq_getElem hlt'
        have hr := run_storeVar_cell (P := P) t (oneB_of (hT _ _ h1).2.2.1) ⟨ρ b, off + ix, none⟩ (.int k z) _ rfl hc (hB.frozen _)
        refine ⟨w.setCell ⟨ρ b, off + ix, none⟩ (.int k z), ?_, ?_, setNth_len _ _ _⟩
        · simp only [Instr.storeAt, Instr.sureAddr, SV.den, SA.den, SC.den, Sem.run_bind, Sem.run_pure, Result.andThen_ok, hr]
        · exact mem_set HM h2 _ ((Kept.refl (fun g => g = ρ b) w).setCell (p := ⟨ρ b, off + ix, none⟩) (.inl rfl) _) (by rw [← e1]; exact hB.set (off + ix) _)
      · trivial
    · trivial
  · trivial
end
end Go.Proofs.Ytpedkcpkdacnlaa
end
section
namespace Go.Proofs.Ytpedkcpkdacnlaa
open Go.RowKit
set_option linter.unusedVariables false
section
variable {P : Program} {w0 w : World} {S : Nat → Prop} {ρ : Nat → Nat} {M : List SB}
theorem partsOf_get {t : TypeId} {ps : List (Nat × Nat × Bool)} (h : partsOf P t = some ps) {f : Nat} {o n : Nat} {ag : Bool} (hf : ps[f]? = some (o, n, ag)) :
    ∃ fs fd, P.underlying t = some (.struct fs) ∧ fs[f]? = some fd ∧ fd.offset = o ∧ ((P.info? fd.type).map (·.size)).getD 0 = n ∧ aggOf P fd.type = ag := by
  unfold partsOf at h
  split at h
  · rename_i fs hu
    simp only [Option.some.injEq] at h; subst h
    rw [List.getElem?_map] at hf
    cases hg : fs.toList[f]? with
    | none => rw [hg] at hf; cases hf
    | some fd =>
      rw [hg] at hf
      simp only [Option.map_some, Option.some.injEq, Prod.mk.injEq] at hf
      exact ⟨fs, fd, hu, by rw [← Array.getElem?_toList]; exact hg, hf.1, hf.2.1, hf.2.2⟩
  · cases h
theorem arrOf_get {t n es : Nat} {ea : Bool} (h : arrOf P t = some (n, es, ea)) : ∃ e, P.underlying t = some (.array n e) ∧ ((P.info? e).map (·.size)).getD 0 = es ∧ aggOf P e = ea := by
  unfold arrOf at h
  split at h
  · rename_i m e hu
    simp only [Option.some.injEq, Prod.mk.injEq] at h
    obtain ⟨rfl, h2, h3⟩ := h
    exact ⟨e, hu, h2, h3⟩
  · cases h
theorem info_getD {t n : Nat} (h : ((P.info? t).map (·.size)).getD 0 = n) (hn : n ≠ 0) : ∃ i, P.info? t = some i ∧ i.size = n := by
  cases hq : P.info? t with
  | none => rw [hq] at h; exact absurd h.symm hn
  | some i => exact ⟨i, rfl, by rw [hq] at h; simpa using h⟩
theorem add_addr (b off n : Nat) : (⟨b, off, none⟩ : Addr).add n = ⟨b, off + n, none⟩ := by unfold Addr.add; split <;> simp_all
/-! The address of a field. -/
def fieldAddrS (T : Tab) (t f : Nat) : Option SV → Eff
  | some (.o (.c (.p b off))) => match lkT T t with
    | some (.str _ ps) => match ps[f]? with
      | some (o, n, _) => bif n.beq 0 then .no else .val none (.o (.c (.p b (off + o))))
      | none => .no
    | _ => .no
  | _ => .no
theorem fieldAddrS_ok {T : Tab} (hT : TabOk P T) (t f : Nat) {x : Option SV} {v : Value} (hx : ∀ y, x = some y → v = y.den ρ) : EffOk P w0 S ρ M w (do pure (Next.value (← Instr.fieldAt t v f))) (fieldAddrS T t f x) := by
  unfold fieldAddrS
  split
  · rename_i b off
    have := hx _ rfl
    subst this
    split
    · rename_i z ps h1
      cases h2 : ps[f]? with
      | none => trivial
      | some q =>
        obtain ⟨o, n, ag⟩ := q
        dsimp only
        cases h3 : n.beq 0
        · dsimp only [cond_false, EffOk]
          intro _
          obtain ⟨fs, fd, hu, hg, ho, hn, -⟩ := partsOf_get (hT _ _ h1).1 h2
          have hn0 : n ≠ 0 := fun e => by subst e; cases h3
          obtain ⟨i, hi, hs⟩ := info_getD hn hn0
          have e : (SV.o (.c (.p b off))).den ρ = .pointer (some ⟨ρ b, off, none⟩) := rfl
          rw [e]
          simp [Instr.fieldAt, run_underlying hu, hg, Instr.sureAddr, fieldPlace, sizeOf, typeInfo, hi, hs, hn0, Sem.run_bind, add_addr, ho]
          rfl
        · trivial
    · trivial
  · trivial
/-! A part of a struct. -/
def partS (l : List Seg) (o n : Nat) (ag : Bool) : Eff :=
  bif ag then (match segSub l o n with
    | some l' => bif n.beq 0 then .no else .val none (.o (.a l'))
    | none => .no)
  else match segGet l o with
    | some x => .val none (.o (.c x))
    | none => .no
theorem partS_ok {l : List Seg} {o n e : Nat} {ag : Bool} (hn : ((P.info? e).map (·.size)).getD 0 = n) (ha : aggOf P e = ag) (hs : (P.underlying e).isSome = true ) :
    EffOk P w0 S ρ M w (do pure (Next.value (← part e (segsDen ρ l).toArray o))) (partS l o n ag) := by
  unfold partS
  obtain ⟨d, hd⟩ := Option.isSome_iff_exists.mp hs
  cases hb : ag
  · dsimp only [cond_false]
    cases h1 : segGet l o with
    | none => trivial
    | some x =>
      dsimp only [EffOk]
      intro _
      have hc := segGet_den ρ l o x h1
      have hag : (isAgg e).run P w = .ok false w := by
        rw [hb] at ha
        unfold aggOf at ha
        unfold isAgg
        rw [Sem.run_bind, run_underlying hd w]
        rw [hd] at ha
        cases d <;> simp_all
      simp [part, hag, hc, Sem.run_bind, SV.den, SA.den]
  · dsimp only [cond_true]
    cases h1 : segSub l o n with
    | none => trivial
    | some l' =>
      dsimp only
      cases h00 : n.beq 0
      case true => trivial
      rw [cond_false]
      have h0 : n ≠ 0 := fun e => by rw [e] at h00; cases h00
      dsimp only [EffOk]
      intro _
      obtain ⟨i, hi, hsz⟩ := info_getD hn h0
      obtain ⟨e1, e2, e3⟩ := segSub_den ρ l o n l' h1
      have hag : (isAgg e).run P w = .ok true w := by
        rw [hb] at ha
        unfold aggOf at ha
        unfold isAgg
        rw [Sem.run_bind, run_underlying hd w]
        rw [hd] at ha
        cases d <;> simp_all
      have e4 : ((segsDen ρ l).toArray.extract o (o + n)) = (segsDen ρ l').toArray := by
        rw [← e1]
        simp [List.extract_toArray, List.extract_eq_take_drop]
      simp [part, hag, sizeOf, typeInfo, hi, hsz, Sem.run_bind, e1, SV.den, SA.den]
def fieldS (T : Tab) (t f : Nat) : Option SV → Eff
  | some (.o (.a l)) => match lkT T t with
    | some (.str _ ps) => match ps[f]? with
      | some (o, n, ag) => partS l o n ag
      | none => .no
    | _ => .no
  | _ => .no
def partsTy (P : Program) (t : TypeId) : Bool := match P.underlying t with
  | some (.struct fs) => fs.toList.all fun f => (P.underlying f.type).isSome
  | some (.array _ e) => (P.underlying e).isSome
  | _ => true
def cellsQ (P : Program) (t : TypeId) : Nat := ((P.info? t).map (·.size)).getD 0
def seqF (P : Program) : Nat → List Field → Option Nat
  | o, [] => some o
  | o, f :: r => if f.offset = o ∧ f.name ≠ "_" then seqF P (o + cellsQ P f.type) r else none
/-- A type all of whose cells are whole numbers, and that '==' compares cell by cell. -/
def flatQ (P : Program) : Nat → TypeId → Bool
  | 0, _ => false
  | d + 1, t => (P.info? t).isSome && match P.underlying t with
    | some (.int _) => cellsQ P t == 1
    | some (.struct fs) => !P.stoodInHeld t && (fs.toList.all (fun f => flatQ P d f.type)) && seqF P 0 fs.toList == some (cellsQ P t)
    | some (.array n e) => flatQ P d e && cellsQ P t == n * cellsQ P e && !(cellsQ P e == 0)
    | _ => false
def eqTy (P : Program) (t : TypeId) : Bool := flatQ P 12 t && !P.eqGuardType P.depth t
def intSegs : List Seg → Bool
  | [] => true
  | .one (.v (.int _ _)) :: r => intSegs r
  | .ints _ _ _ :: r => intSegs r
  | _ => false
def intsOnly : TyI → Bool
  | .one _ _ => false
  | .str z _ => intSegs z
  | .arr z _ _ _ => intSegs z
def TysOk (P : Program) (T : Tab) : Prop := P.follows .mixedOrders = true ∧ ∀ t i, lkT T t = some i → partsTy P t = true ∧ (intsOnly i = true → eqTy P t = true)
theorem fieldS_ok {T : Tab} (hT : TabOk P T) (hT2 : TysOk P T) (t f : Nat) {x : Option SV} {v : Value} (hx : ∀ y, x = some y → v = y.den ρ) : EffOk P w0 S ρ M w (do pure (Next.value (← Instr.field t v f))) (fieldS T t f x) := by
  unfold fieldS
  split
  · rename_i l
    have := hx _ rfl
    subst this
    split
    · rename_i z ps h1
      cases h2 : ps[f]? with
      | none => trivial
      | some q =>
        obtain ⟨o, n, ag⟩ := q
        dsimp only
        obtain ⟨fs, fd, hu, hg, ho, hn, ha⟩ := partsOf_get (hT _ _ h1).1 h2
        have hsome : (P.underlying fd.type).isSome = true := by
          have := (hT2.2 _ _ h1).1
          unfold partsTy at this
          rw [hu] at this
          exact List.all_eq_true.1 this fd (Array.mem_toList_iff.2 (Array.mem_of_getElem? hg))
        have hp := partS_ok (P := P) (w0 := w0) (w := w) (S := S) (M := M) (ρ := ρ) (l := l) (o := o) hn ha hsome
        have e : (do pure (Next.value (← Instr.field t (SV.den ρ (.o (.a l))) f)) : Sem Next).run P w = (do pure (Next.value (← part fd.type (segsDen ρ l).toArray o)) : Sem Next).run P w := by
          simp [Instr.field, run_underlying hu, hg, ho, asAgg, SV.den, SA.den, Sem.run_bind]
        revert hp
        unfold partS
        cases ag
        · dsimp only [cond_false]
          cases segGet l o with
          | none => exact fun _ => trivial
          | some y => dsimp only [EffOk]; rw [e]; exact id
        · dsimp only [cond_true]
          cases segSub l o n with
          | none => exact fun _ => trivial
          | some y =>
            cases n.beq 0
            · dsimp only [EffOk, cond_false]; rw [e]; exact id
            · exact fun _ => trivial
    · trivial
  · trivial
/-! The address of an element of an array. -/
def indexAddrS (V : World) (T : Tab) (M : List SB) (t : Nat) : Option SV → Option SV → Eff
  | some (.o (.c (.r a n c m sz ks z))), some (.o (.c (.v (.int _ i)))) => match lkT T t with
    | some (.one _ (.slice e)) => match lkT T e with
      | some ti => bif ti.size.beq sz && !(sz.beq 0) then .val (some (Rws sz ks V a m c z ∧ 0 ≤ i ∧ i < n ∧ i.toNat < m)) (.o (.c (.re a c m sz ks z i.toNat 0))) else .no
      | none => .no
    | _ => .no
  | some (.o (.c (.p b off))), some (.o (.c (.v (.int _ i)))) => match lkT T t with
    | some (.arr _ n es _) => match nth M b with
      | some (.cells l _) => bif es.beq 1 && (segInts l off).isSome then .val (some (0 ≤ i ∧ i < n)) (.o (.c (.e b off i.toNat)))
        else bif es.beq 0 then .no else .val (some (0 ≤ i ∧ i < n)) (.o (.c (.p b (off + i.toNat * es))))
      | _ => .no
    | _ => .no
  | _, _ => .no
theorem TyOk.size {t : TypeId} {i : TyI} (h : TyOk P t i) : (P.info? t).map (·.size) = some i.size := by
  cases i with
  | one z k => exact h.2.2.1
  | str z ps => exact h.2.1
  | arr z n es ea => exact h.2.1
theorem kd_sliceT {t e : Nat} (h : kdOf P t = .slice e) : P.underlying t = some (.slice e) := by
  unfold kdOf at h; split at h <;> simp_all
theorem indexAddrS_ok {V : World} {T : Tab} (hT : TabOk P T) (t : Nat) {x y : Option SV} {v u : Value} (hx : ∀ s, x = some s → v = s.den ρ) (hy : ∀ s, y = some s → u = s.den ρ) : EffOk P w0 S ρ M w (do pure (Next.value (← Instr.indexAt t v u))) (indexAddrS V T M t x y) := by
  unfold indexAddrS
  split
  · rename_i a n c m sz ks z k i
    have := hx _ rfl
    subst this
    have := hy _ rfl
    subst this
    split
    · rename_i z0 e h1
      split
      · rename_i ti h2
        cases hb : (ti.size.beq sz && !(sz.beq 0))
        · trivial
        · simp only [Bool.and_eq_true, Bool.not_eq_true'] at hb
          have hsz := Nat.eq_of_beq_eq_true hb.1
          dsimp only [cond_true, EffOk, vcP]
          rintro ⟨hr, h0, hn, hm⟩
          obtain ⟨b, off, rfl, -, -⟩ := hr.at i.toNat hm
          have hu := kd_sliceT (hT _ _ h1).1
          obtain ⟨j, hj, hs⟩ := info_size (hT _ _ h2).size
          have e1 : (SV.o (.c (.r (some ⟨b, off, none⟩) n c m sz ks z))).den ρ = .slice (some ⟨b, off, none⟩) n c := rfl
          have e2 : (SV.o (.c (.v (.int k i)))).den ρ = .int k i := rfl
          rw [e1, e2]
          simp [Instr.indexAt, run_underlying hu, asIntOf, sizeOf, typeInfo, hj, hs, hsz, h0, hn, Sem.run_bind, add_addr, SV.den, SA.den, SC.den, elemAddr]
      · trivial
    · trivial
  · rename_i b off k i
    have := hx _ rfl
    subst this
    have := hy _ rfl
    subst this
    split
    · rename_i z n es ea h1
      obtain ⟨e, hu, hn, -⟩ := arrOf_get (hT _ _ h1).1
      split
      · rename_i l t' h2
        have key : es ≠ 0 → (0 ≤ i ∧ i < n) → (Instr.indexAt t (SV.den ρ (.o (.c (.p b off)))) (SV.den ρ (.o (.c (.v (.int k i)))))).run P w = .ok (.pointer (some ⟨ρ b, off + i.toNat * es, none⟩)) w := by
          intro hes hb
          obtain ⟨j, hj, hs⟩ := info_getD hn hes
          have e1 : (SV.o (.c (.p b off))).den ρ = .pointer (some ⟨ρ b, off, none⟩) := rfl
          have e2 : (SV.o (.c (.v (.int k i)))).den ρ = .int k i := rfl
          simp [Instr.indexAt, run_underlying hu, e1, e2, Instr.sureAddr, asIntOf, sizeOf, typeInfo, hj, hs, hb, Sem.run_bind, add_addr]
        cases hc : (es.beq 1 && (segInts l off).isSome)
        · dsimp only [cond_false]
          cases hd : es.beq 0
          · dsimp only [cond_false, EffOk, vcP]
            intro hb
            have hes : es ≠ 0 := fun e => by subst e; cases hd
            have := key hes hb
            simp only [Sem.run_bind, this, Result.andThen_ok, Sem.run_pure]
            rfl
          · trivial
        · dsimp only [cond_true, EffOk, vcP]
          simp only [Bool.and_eq_true] at hc
          have hes := Nat.eq_of_beq_eq_true hc.1
          subst hes
          intro hb
          have := key (by omega) hb
          simp only [Sem.run_bind, this, Result.andThen_ok, Sem.run_pure, Nat.mul_one]
          rfl
      · trivial
    · trivial
  · trivial
/-! An element of an array value. -/
def indexS (T : Tab) (t : Nat) : Option SV → Option SV → Eff
  | some (.o (.a [.ints k n f])), some (.o (.c (.v (.int _ i)))) => match lkT T t with
    | some (.arr _ m es ea) => bif es.beq 1 && m.beq n && !ea then .val (some (0 ≤ i ∧ i < n)) (sv (.int k (f i.toNat))) else .no
    | _ => .no
  | _, _ => .no
theorem indexS_ok {T : Tab} (hT : TabOk P T) (hT2 : TysOk P T) (t : Nat) {x y : Option SV} {v u : Value} (hx : ∀ s, x = some s → v = s.den ρ) (hy : ∀ s, y = some s → u = s.den ρ) : EffOk P w0 S ρ M w (do pure (Next.value (← Instr.index t v u))) (indexS T t x y) := by
  unfold indexS
  split
  · rename_i k n f k' i
    have := hx _ rfl
    subst this
    have := hy _ rfl
    subst this
    split
    · rename_i z m es ea h1
      cases hc : (es.beq 1 && m.beq n && !ea)
      · trivial
      · simp only [Bool.and_eq_true, Bool.not_eq_true'] at hc
        obtain ⟨⟨h3, h4⟩, h5⟩ := hc
        have := Nat.eq_of_beq_eq_true h3
        subst this
        have := Nat.eq_of_beq_eq_true h4
        subst this
        subst h5
        obtain ⟨e, hu, hn, ha⟩ := arrOf_get (hT _ _ h1).1
        dsimp only [cond_true, EffOk, vcP]
        intro hb
        have hsome : (P.underlying e).isSome = true := by
          have := (hT2.2 _ _ h1).1
          unfold partsTy at this
          rw [hu] at this
          exact this
        obtain ⟨d, hd⟩ := Option.isSome_iff_exists.mp hsome
        have hag : (isAgg e).run P w = .ok false w := by
          unfold aggOf at ha
          unfold isAgg
          rw [Sem.run_bind, run_underlying hd w]
          rw [hd] at ha
          cases d <;> simp_all
        obtain ⟨j, hj, hs⟩ := info_getD hn (by omega)
        have hlt : i.toNat < m := by omega
        have hg := ints_get k m f i.toNat hlt
        have hb1 := hb.1
        have hb2 := hb.2
        simp [Instr.index, run_underlying hu, SV.den, SA.den, SC.den, asIntOf, hb1, hb2, part, hag, sizeOf, typeInfo, hj, hs, Sem.run_bind, segsDen, Seg.den, hlt]
    · trivial
  · trivial
end
end Go.Proofs.Ytpedkcpkdacnlaa
end
section
namespace Go.Proofs.Ytpedkcpkdacnlaa
open Go.RowKit
set_option linter.unusedVariables false
/-! Comparing with nil, and reckoning. -/
def isC : Operand → Bool
  | .const _ => true
  | _ => false
def cmpS (T : Tab) (op : BinOp) (t : Nat) (cst : Bool) : SC → SC → Option (Option Prop × Value)
  | .v (.nilIface), .v (.nilIface) => match op, lkT T t with
    | .eql, some (.one _ .iface) => (bif cst then some (none, .bool true) else none)
    | .neq, some (.one _ .iface) => (bif cst then some (none, .bool false) else none)
    | _, _ => none
  | .v (.iface _ _), .v (.nilIface) => match op, lkT T t with
    | .eql, some (.one _ .iface) => some (none, .bool false)
    | .neq, some (.one _ .iface) => some (none, .bool true)
    | _, _ => none
  | .i _ _ _, .v (.nilIface) => match op, lkT T t with
    | .eql, some (.one _ .iface) => some (none, .bool false)
    | .neq, some (.one _ .iface) => some (none, .bool true)
    | _, _ => none
  | .p _ _, .v (.pointer none) => match op, lkT T t with
    | .eql, some (.one _ (.ptr _)) => some (none, .bool false)
    | .neq, some (.one _ (.ptr _)) => some (none, .bool true)
    | _, _ => none
  | .v (.pointer none), .v (.pointer none) => match op, lkT T t with
    | .eql, some (.one _ (.ptr _)) => some (none, .bool true)
    | .neq, some (.one _ (.ptr _)) => some (none, .bool false)
    | _, _ => none
  | .v (.bool a), .v (.bool b) => match op, lkT T t with
    | .eql, some (.one _ .bool) => some (none, .bool (a == b))
    | .neq, some (.one _ .bool) => some (none, .bool (!(a == b)))
    | _, _ => none
  | .v a, .v b => binS op a b
  | _, _ => none
section
variable {P : Program} {w0 w : World} {S : Nat → Prop} {ρ : Nat → Nat} {M : List SB}
theorem kd_bool {t : Nat} (h : kdOf P t = .bool) : P.underlying t = some .bool := by
  unfold kdOf at h; split at h <;> simp_all
theorem kd_iface {t : Nat} (h : kdOf P t = .iface) : ∃ m, P.underlying t = some (.interface m) := by
  unfold kdOf at h; split at h <;> simp_all
theorem kd_ptr {t e : Nat} (h : kdOf P t = .ptr e) : P.underlying t = some (.pointer e) := by
  unfold kdOf at h; split at h <;> simp_all
theorem kd_slice {t e : Nat} (h : kdOf P t = .slice e) : P.underlying t = some (.slice e) := by
  unfold kdOf at h; split at h <;> simp_all
theorem kd_str {t : Nat} (h : kdOf P t = .str) : P.underlying t = some .string := by
  unfold kdOf at h; split at h <;> simp_all
theorem kd_int {t : Nat} {k : IntKind} (h : kdOf P t = .int k) : P.underlying t = some (.int k) := by
  unfold kdOf at h; split at h <;> simp_all
theorem maxD : ∃ d, Op.maxDepth = d + 1 := ⟨9999, rfl⟩
theorem binOp_eqlP {t : Nat} {a b : Value} (h : ∀ k m, a ≠ .int k m) (h2 : ∀ k m, a ≠ .float k m) (h3 : ∀ k m n, a ≠ .complex k m n) (h4 : ∀ m, a ≠ .string m) : binOp .eql t a b = (do pure (.bool (← Op.equal t a b))) := by
  cases a <;> first | rfl | (cases b <;> rfl) | (exact absurd rfl (h _ _)) | (exact absurd rfl (h2 _ _)) | (exact absurd rfl (h3 _ _ _)) | (exact absurd rfl (h4 _))
theorem binOp_neqP {t : Nat} {a b : Value} (h : ∀ k m, a ≠ .int k m) (h2 : ∀ k m, a ≠ .float k m) (h3 : ∀ k m n, a ≠ .complex k m n) (h4 : ∀ m, a ≠ .string m) : binOp .neq t a b = (do pure (.bool (!(← Op.equal t a b)))) := by
  cases a <;> first | rfl | (cases b <;> rfl) | (exact absurd rfl (h _ _)) | (exact absurd rfl (h2 _ _)) | (exact absurd rfl (h3 _ _ _)) | (exact absurd rfl (h4 _))
theorem cmpS_run {T : Tab} (hT : TabOk P T) {op : BinOp} {t : Nat} {x y : SC} {z : Value} {vc : Option Prop} {u v : Operand} (h : cmpS T op t (isC u || isC v) x y = some (vc, z)) (hv : vcP vc) :
    (do eqGuard op t u v (x.den ρ) (y.den ρ); binOp op t (x.den ρ) (y.den ρ) : Sem Value).run P w = .ok z w := by
  obtain ⟨d, hd⟩ := maxD
  unfold cmpS at h
  split at h
  all_goals (try (split at h <;> first | (cases h; done) | skip))
  next h1 =>
    cases hv : (isC u || isC v)
    · rw [hv] at h; cases h
    rw [hv] at h
    simp only [cond_true, Option.some.injEq, Prod.mk.injEq] at h
    obtain ⟨rfl, rfl⟩ := h
    obtain ⟨m, hu⟩ := kd_iface (hT _ _ h1).1
    have hg : eqGuard .eql t u v (SC.den ρ (.v .nilIface)) (SC.den ρ (.v .nilIface)) = pure () := by
      cases u <;> cases v <;> first | rfl | (simp [isC] at hv)
    rw [hg]
    simp [SC.den, binOp_eqlP, Op.equal, hd, Op.equalIn, run_underlying hu]
  next h1 =>
    cases hv : (isC u || isC v)
    · rw [hv] at h; cases h
    rw [hv] at h
    simp only [cond_true, Option.some.injEq, Prod.mk.injEq] at h
    obtain ⟨rfl, rfl⟩ := h
    obtain ⟨m, hu⟩ := kd_iface (hT _ _ h1).1
    have hg : eqGuard .neq t u v (SC.den ρ (.v .nilIface)) (SC.den ρ (.v .nilIface)) = pure () := by
      cases u <;> cases v <;> first | rfl | (simp [isC] at hv)
    rw [hg]
    simp [SC.den, binOp_neqP, Op.equal, hd, Op.equalIn, run_underlying hu]
  next h1 => simp only [Option.some.injEq, Prod.mk.injEq] at h; obtain ⟨rfl, rfl⟩ := h; obtain ⟨m, hu⟩ := kd_iface (hT _ _ h1).1; simp [SC.den, eqGuard_at_iface, binOp_eqlP, Op.equal, hd, Op.equalIn, run_underlying hu]
  next h1 => simp only [Option.some.injEq, Prod.mk.injEq] at h; obtain ⟨rfl, rfl⟩ := h; obtain ⟨m, hu⟩ := kd_iface (hT _ _ h1).1; simp [SC.den, eqGuard_at_iface, binOp_neqP, Op.equal, hd, Op.equalIn, run_underlying hu]
  next h1 => simp only [Option.some.injEq, Prod.mk.injEq] at h; obtain ⟨rfl, rfl⟩ := h; obtain ⟨m, hu⟩ := kd_iface (hT _ _ h1).1; simp [SC.den, eqGuard_at_iface, binOp_eqlP, Op.equal, hd, Op.equalIn, run_underlying hu]
  next h1 => simp only [Option.some.injEq, Prod.mk.injEq] at h; obtain ⟨rfl, rfl⟩ := h; obtain ⟨m, hu⟩ := kd_iface (hT _ _ h1).1; simp [SC.den, eqGuard_at_iface, binOp_neqP, Op.equal, hd, Op.equalIn, run_underlying hu]
  next h1 => simp only [Option.some.injEq, Prod.mk.injEq] at h; obtain ⟨rfl, rfl⟩ := h; have hu := kd_ptr (hT _ _ h1).1; simp [SC.den, eqGuard_at_pointer, binOp_eqlP, Op.equal, hd, Op.equalIn, run_underlying hu]
  next h1 => simp only [Option.some.injEq, Prod.mk.injEq] at h; obtain ⟨rfl, rfl⟩ := h; have hu := kd_ptr (hT _ _ h1).1; simp [SC.den, eqGuard_at_pointer, binOp_neqP, Op.equal, hd, Op.equalIn, run_underlying hu]
  next h1 => simp only [Option.some.injEq, Prod.mk.injEq] at h; obtain ⟨rfl, rfl⟩ := h; have hu := kd_ptr (hT _ _ h1).1; simp [SC.den, eqGuard_at_pointer, binOp_eqlP, Op.equal, hd, Op.equalIn, run_underlying hu]
  next h1 => simp only [Option.some.injEq, Prod.mk.injEq] at h; obtain ⟨rfl, rfl⟩ := h; have hu := kd_ptr (hT _ _ h1).1; simp [SC.den, eqGuard_at_pointer, binOp_neqP, Op.equal, hd, Op.equalIn, run_underlying hu]
  next h1 => simp only [Option.some.injEq, Prod.mk.injEq] at h; obtain ⟨rfl, rfl⟩ := h; have hu := kd_bool (hT _ _ h1).1; simp [SC.den, eqGuard_at_bool, binOp_eqlP, Op.equal, hd, Op.equalIn, run_underlying hu]
  next h1 => simp only [Option.some.injEq, Prod.mk.injEq] at h; obtain ⟨rfl, rfl⟩ := h; have hu := kd_bool (hT _ _ h1).1; simp [SC.den, eqGuard_at_bool, binOp_neqP, Op.equal, hd, Op.equalIn, run_underlying hu]
  next => exact binS_run h hv t u v w
  next => cases h
/-! Small operations. -/
def unS : UnOp → SC → Option SC
  | .not, .v (.bool b) => some (.v (.bool (!b)))
  | .neg, .v (.int k n) => some (.v (.int k (k.wrap (0 - n))))
  | .xor, .v (.int k n) => some (.v (.int k (bits .xor k (if k.signed then -1 else k.max) n)))
  | _, _ => none
theorem unS_run {op : UnOp} {x z : SC} (h : unS op x = some z) : (Op.unary op (x.den ρ)).run P w = .ok (z.den ρ) w := by
  unfold unS at h
  split at h <;> simp only [Option.some.injEq, reduceCtorEq] at h
  all_goals (subst h)
  all_goals simp [Op.unary, SC.den, Op.intArith, intBits_xor]
def ifaceS (T : Tab) (t : Nat) : SC → Option SC
  | .v x => match lkT T t with
    | some (.one _ .iface) => none
    | some (.one _ .other) => none
    | some _ => some (.v (.iface t x))
    | none => none
  | .p b off => match lkT T t with
    | some (.one _ (.ptr _)) => some (.i t b off)
    | _ => none
  | _ => none
theorem mk_run {t : Nat} {x : Value} (h : ∀ m, P.underlying t ≠ some (.interface m)) (hs : (P.underlying t).isSome = true) : (Instr.makeInterface t x).run P w = .ok (.iface t x) w := by
  obtain ⟨d, hd⟩ := Option.isSome_iff_exists.mp hs
  have hn : ∀ m, d ≠ .interface m := fun m e => h m (by rw [hd, e])
  cases d <;> first | (exact absurd rfl (hn _)) | simp [Instr.makeInterface, run_underlying hd]
theorem ifaceS_run {T : Tab} (hT : TabOk P T) {t : Nat} {x z : SC} (h : ifaceS T t x = some z) : (Instr.makeInterface t (x.den ρ)).run P w = .ok (z.den ρ) w := by
  unfold ifaceS at h
  split at h
  · split at h <;> simp only [Option.some.injEq, reduceCtorEq] at h
    subst h
    rename_i x i hn hn2 h1
    have ok := hT _ _ h1
    cases i with
    | one z k =>
      have hk := ok.1
      cases hu : P.underlying t with
      | none =>
        have : k = .other := by rw [← hk]; unfold kdOf; rw [hu]
        exact absurd (by rw [this]) (hn2 z)
      | some d =>
        refine mk_run (fun m e => ?_) (by rw [hu]; rfl)
        have : k = .iface := by rw [← hk]; unfold kdOf; rw [e]
        exact hn z (by rw [this])
    | str z ps =>
      obtain ⟨ha, -⟩ := ok.agg (fun z k e => by cases e)
      obtain ⟨d, hd, he⟩ := aggOf_some ha
      exact mk_run (fun m e => by rw [hd] at e; cases e; simp at he) (by rw [hd]; rfl)
    | arr z n es ea =>
      obtain ⟨ha, -⟩ := ok.agg (fun z k e => by cases e)
      obtain ⟨d, hd, he⟩ := aggOf_some ha
      exact mk_run (fun m e => by rw [hd] at e; cases e; simp at he) (by rw [hd]; rfl)
  · split at h <;> simp only [Option.some.injEq, reduceCtorEq] at h
    subst h
    rename_i h1
    have hu := kd_ptr (hT _ _ h1).1
    exact mk_run (fun m e => by rw [hu] at e; cases e) (by rw [hu]; rfl)
  · cases h
def convS (T : Tab) (s d : Nat) : SC → Option SC
  | .v (.int _ n) => match lkT T s, lkT T d with
    | some (.one _ (.int _)), some (.one _ (.int k)) => some (.v (.int k (k.wrap n)))
    | _, _ => none
  | _ => none
theorem convS_run {T : Tab} (hT : TabOk P T) {s d : Nat} {x z : SC} (h : convS T s d x = some z) : (convert s d (x.den ρ)).run P w = .ok (z.den ρ) w := by
  unfold convS at h
  split at h
  · split at h <;> simp only [Option.some.injEq, reduceCtorEq] at h
    subst h
    rename_i h1 h2
    have hu := kd_int (hT _ _ h1).1
    have hv := kd_int (hT _ _ h2).1
    simp [convert, SC.den, run_underlying hu, run_underlying hv, Conv.intToInt]
  · cases h
def nilOk : SV → Bool
  | .o (.c (.p _ _)) => true
  | .o (.c (.e _ _ _)) => true
  | .o (.c (.i _ _ _)) => true
  | .o (.c (.v (.iface _ _))) => true
  | .o (.c (.v (.func (.func _) _ _))) => true
  | _ => false
def extractS : SV → Nat → Option SV
  | .t l, i => match l[i]? with
    | some x => some (.o x)
    | none => none
  | _, _ => none
theorem extractS_run {x z : SV} {i : Nat} (h : extractS x i = some z) : (Instr.extract (x.den ρ) i).run P w = .ok (z.den ρ) w := by
  cases x with
  | o x => cases h
  | t l =>
    simp only [extractS] at h
    cases hg : l[i]? with
    | none => rw [hg] at h; cases h
    | some y =>
      rw [hg] at h
      simp only [Option.some.injEq] at h; subst h
      simp [Instr.extract, SV.den, hg]
/-! A struct or an array put together. -/
def partSegs : SA → Option (List Seg)
  | .c x => bif x.ok then some [.one x] else none
  | .a l => some l
def fillS (ps : Nat → Option (Nat × Nat)) : List Seg → List (Nat × Option SV) → Option (List Seg)
  | l, [] => some l
  | l, (i, some (.o x)) :: r => match ps i, partSegs x with
    | some (o, n), some m => bif (segsLen m).beq n then (match segPut l o m with
      | some l' => fillS ps l' r
      | none => none) else none
    | _, _ => none
  | _, _ => none
theorem foldl_set (vs : List Value) : ∀ (cs : Array Value) (o : Nat), o + vs.length ≤ cs.size → (vs.toArray.zipIdx.foldl (fun cs (x : Value × Nat) => cs.setIfInBounds (o + x.2) x.1) cs) = (spl cs.toList o vs).toArray := by
  have key : ∀ (vs : List Value) (k : Nat) (cs : List Value) (o : Nat), o + k + vs.length ≤ cs.length → (List.zipIdx vs k).foldl (fun cs (x : Value × Nat) => cs.setIfInBounds (o + x.2) x.1) cs.toArray = (spl cs (o + k) vs).toArray := by
    intro vs
    induction vs with
    | nil => intro k cs o h; simp [spl]
    | cons v r ih =>
      intro k cs o h
      simp only [List.length_cons] at h
      simp only [List.zipIdx_cons, List.foldl_cons, List.setIfInBounds_toArray]
      rw [ih (k + 1) (cs.set (o + k) v) o (by rw [List.length_set]; omega)]
      congr 1
      unfold spl
      have h1 : (cs.set (o + k) v).take (o + (k + 1)) = cs.take (o + k) ++ [v] := by
        rw [show o + (k + 1) = o + k + 1 by omega, List.take_succ_eq_append_getElem (by rw [List.length_set]; omega), List.getElem_set_self, List.take_set_of_le (Nat.le_refl _)]
      have h2 : (cs.set (o + k) v).drop (o + (k + 1) + r.length) = cs.drop (o + k + (v :: r).length) := by
        rw [List.drop_set_of_lt (by omega)]
        simp only [List.length_cons]; congr 1; omega
      rw [h1, h2]; simp
  intro cs o h
  have := key vs 0 cs.toList o (by simpa using h)
  simpa [Array.zipIdx_toArray] using this
theorem partSegs_cells {x : SA} {m : List Seg} (h : partSegs x = some m) : (x.den ρ).cells = (segsDen ρ m).toArray := by
  cases x with
  | c x =>
    simp only [partSegs] at h
    cases ho : x.ok
    · rw [ho] at h; cases h
    · rw [ho] at h
      simp only [cond_true, Option.some.injEq] at h; subst h
      simp [SA.den, one_cells (SC.ok_den ho ρ), segsDen, Seg.den]
  | a l =>
    simp only [partSegs, Option.some.injEq] at h; subst h
    rfl
theorem fillS_run (ps : Nat → Option (Nat × Nat)) : ∀ (l : List Seg) (parts : List (Nat × Option SV)) (vs : List (Nat × Value)) (l' : List Seg), fillS ps l parts = some l' →
    parts.length = vs.length → (∀ (i : Nat) (p : Nat × Option SV) (v : Nat × Value), parts[i]? = some p → vs[i]? = some v → v.1 = p.1 ∧ ∀ y, p.2 = some y → v.2 = y.den ρ) →
    Instr.fill ps (segsDen ρ l).toArray vs = some (segsDen ρ l').toArray
  | l, [], vs, l', h, hl, _ => by
    simp only [fillS, Option.some.injEq] at h; subst h
    obtain rfl : vs = [] := by cases vs <;> simp_all
    rfl
  | l, (i, q) :: r, [], l', h, hl, _ => by simp at hl
  | l, (i, q) :: r, (j, v) :: vs, l', h, hl, hp => by
    have h0 := hp 0 _ _ rfl rfl
    obtain ⟨rfl, hq⟩ := h0
    dsimp only at hq hp
    cases q with
    | none => simp [fillS] at h
    | some y => cases y with
      | t _ => simp [fillS] at h
      | o x =>
        simp only [fillS] at h
        cases h1 : ps j with
        | none => rw [h1] at h; cases h
        | some on =>
          obtain ⟨o, n⟩ := on
          cases h2 : partSegs x with
          | none => rw [h1, h2] at h; cases h
          | some m =>
            rw [h1, h2] at h
            dsimp only at h
            cases hb : (segsLen m).beq n
            · rw [hb] at h; cases h
            · rw [hb] at h
              have hlen := Nat.eq_of_beq_eq_true hb
              simp only [cond_true] at h
              cases h3 : segPut l o m with
              | none => rw [h3] at h; cases h
              | some l2 =>
                rw [h3] at h
                obtain ⟨e1, e2⟩ := segPut_den ρ l o m l2 h3
                have hv : v = x.den ρ := hq _ rfl
                subst hv
                have hc := partSegs_cells (ρ := ρ) h2
                have ih := fillS_run ps l2 r vs l' h (by simpa using hl) (fun k p u hk hu => hp (k + 1) p u hk hu)
                unfold Instr.fill
                have hsz : (SA.den ρ x).cells.size = n := by rw [hc]; simp [segsDen_len, hlen]
                simp only [h1]
                rw [if_neg (by rw [hsz]; simp [segsDen_len]; omega), hc, foldl_set _ _ _ (by simp [segsDen_len]; omega)]
                simp only [e1]
                exact ih
def partsS (env : Env) : List (Nat × Operand) → List (Nat × Option SV)
  | [] => []
  | p :: r => (p.1, evalS env p.2) :: partsS env r
theorem partsS_eq (env : Env) : ∀ l, partsS env l = l.map fun p => (p.1, evalS env p.2)
  | [] => rfl
  | p :: r => by simp [partsS, partsS_eq env r]
def strPlace (ps : List (Nat × Nat × Bool)) (i : Nat) : Option (Nat × Nat) := match ps[i]? with
  | some (o, n, _) => some (o, n)
  | none => none
def buildS (T : Tab) (env : Env) (t : TypeId) (parts : Array (Nat × Operand)) : Eff := match lkT T t with
  | some (.str z ps) => bif segsSc 0 z then (match fillS (strPlace ps) z (partsS env parts.toList) with
    | some l => .val none (.o (.a l))
    | none => .no) else .no
  | some (.arr z n es ea) => bif segsSc 0 z then (match fillS (fun i => some (i * es, es)) z (partsS env parts.toList) with
    | some l => .val none (.o (.a l))
    | none => .no) else .no
  | _ => .no
theorem info_of_underlying {t : TypeId} (h : (P.underlying t).isSome = true) : (P.info? t).isSome = true := by
  unfold Program.underlying at h
  cases hq : P.info? t with
  | none => rw [hq] at h; simp at h
  | some i => rfl
theorem places_ok : ∀ (fs : List Field), (fs.all fun f => (P.underlying f.type).isSome) = true →
    fs.mapM (fun f => (P.info? f.type).map fun i => (f.offset, i.size)) = some (fs.map fun f => (f.offset, ((P.info? f.type).map (·.size)).getD 0))
  | [], _ => rfl
  | f :: r, h => by
    rw [List.all_cons, Bool.and_eq_true] at h
    have h1 := info_of_underlying h.1
    obtain ⟨i, hi⟩ := Option.isSome_iff_exists.mp h1
    simp [List.mapM_cons, hi, places_ok r h.2]
theorem buildS_ok {T : Tab} (hT : TabOk P T) (hT2 : TysOk P T) {nt : Nat} {env : Env} {a : Act} (hE : EnvOk ρ nt env a) (t : TypeId) (parts : Array (Nat × Operand)) : EffOk P w0 S ρ M w (do pure (Next.value (← Instr.build t (parts.map fun (i, x) => (i, a.eval x))))) (buildS T env t parts) := by
  have hfill : ∀ (pl : Nat → Option (Nat × Nat)) (z l : List Seg), segsSc 0 z = true → fillS pl z (partsS env parts.toList) = some l → Instr.fill pl (segsDen (fun _ => 0) z).toArray (parts.map fun (i, x) => (i, a.eval x)).toList = some (segsDen ρ l).toArray := by
    intro pl z l hz hf
    rw [segs_noptr (ρ' := ρ) hz]
    refine fillS_run pl z _ _ l hf (by rw [partsS_eq]; simp) (fun i p v hp hv => ?_)
    rw [partsS_eq, List.getElem?_map] at hp
    rw [Array.toList_map, List.getElem?_map] at hv
    cases hq : parts.toList[i]? with
    | none => rw [hq] at hp; cases hp
    | some q =>
      rw [hq] at hp hv
      simp only [Option.map_some, Option.some.injEq] at hp hv
      subst hp; subst hv
      exact ⟨rfl, fun y hy => hE.eval hy⟩
  unfold buildS
  split
  · rename_i z ps h1
    cases hz : segsSc 0 z
    · trivial
    · dsimp only [cond_true]
      cases hf : fillS (strPlace ps) z (partsS env parts.toList) with
      | none => trivial
      | some l =>
        dsimp only [EffOk]
        intro _
        obtain ⟨o1, o2, o3, o4⟩ := hT _ _ h1
        have hty := (hT2.2 _ _ h1).1
        have hb : P.built t (parts.map fun (i, x) => (i, a.eval x)).toList = some (segsDen ρ l).toArray := by
          unfold partsOf at o1
          split at o1
          · rename_i fs hu
            simp only [Option.some.injEq] at o1
            unfold partsTy at hty
            rw [hu] at hty
            cases hi : P.info? t with
            | none => rw [hi] at o3; cases o3
            | some it =>
              rw [hi] at o3
              simp only [Option.bind_some] at o3
              simp only [Program.built, hi, hu, o3, places_ok fs.toList hty]
              rw [← hfill (strPlace ps) z l hz hf]
              simp only [Value.cells]
              congr 1
              funext i
              unfold strPlace
              rw [← o1]
              simp only [List.getElem?_toArray, List.getElem?_map]
              cases fs.toList[i]? <;> rfl
          · cases o1
        have := run_build (P := P) w t _ _ hb
        simp only [Sem.run_bind, this, Result.andThen_ok, Sem.run_pure]; rfl
  · rename_i z n es ea h1
    cases hz : segsSc 0 z
    · trivial
    · dsimp only [cond_true]
      cases hf : fillS (fun i => some (i * es, es)) z (partsS env parts.toList) with
      | none => trivial
      | some l =>
        dsimp only [EffOk]
        intro _
        obtain ⟨o1, o2, o3, o4⟩ := hT _ _ h1
        have hty := (hT2.2 _ _ h1).1
        have hb : P.built t (parts.map fun (i, x) => (i, a.eval x)).toList = some (segsDen ρ l).toArray := by
          obtain ⟨e, hu, hes, -⟩ := arrOf_get o1
          unfold partsTy at hty
          rw [hu] at hty
          obtain ⟨ie, hie⟩ := Option.isSome_iff_exists.mp (info_of_underlying hty)
          have hsz : ie.size = es := by rw [hie] at hes; simpa using hes
          cases hi : P.info? t with
          | none => rw [hi] at o3; cases o3
          | some it =>
            rw [hi] at o3
            simp only [Option.bind_some] at o3
            simp only [Program.built, hi, hu, o3, hie, hsz]
            exact hfill _ z l hz hf
        have := run_build (P := P) w t _ _ hb
        simp only [Sem.run_bind, this, Result.andThen_ok, Sem.run_pure]; rfl
  · trivial
end
end Go.Proofs.Ytpedkcpkdacnlaa
end
section
namespace Go.Proofs.Ytpedkcpkdacnlaa
open Go.RowKit
set_option linter.unusedVariables false
def eqV : List Value → List Value → Bool
  | [], [] => true
  | .int k a :: r, .int k' b :: s => (a == b) && eqV r s
  | _, _ => false
/-- Numbers of the same kinds. -/
inductive Ints2 : List Value → List Value → Prop
  | nil : Ints2 [] []
  | cons {k : IntKind} {a b : Int} {r s : List Value} (h : Ints2 r s) : Ints2 (.int k a :: r) (.int k b :: s)
theorem Ints2.len {r s : List Value} (h : Ints2 r s) : r.length = s.length := by induction h <;> simp_all
theorem Ints2.drop {r s : List Value} (h : Ints2 r s) : ∀ n, Ints2 (r.drop n) (s.drop n) := by
  induction h with
  | nil => intro n; simp; exact .nil
  | cons h ih => intro n; cases n with
    | zero => exact .cons h
    | succ n => exact ih n
theorem Ints2.take {r s : List Value} (h : Ints2 r s) : ∀ n, Ints2 (r.take n) (s.take n) := by
  induction h with
  | nil => intro n; simp; exact .nil
  | cons h ih => intro n; cases n with
    | zero => exact .nil
    | succ n => exact .cons (ih n)
theorem eqV_split {r s : List Value} (h : Ints2 r s) : ∀ n, eqV r s = (eqV (r.take n) (s.take n) && eqV (r.drop n) (s.drop n)) := by
  induction h with
  | nil => intro n; simp [eqV]
  | cons h ih => intro n; cases n with
    | zero => simp [eqV]
    | succ n => simp only [List.take_succ_cons, List.drop_succ_cons, eqV, ih n, Bool.and_assoc]
section
variable (P : Program)
def valQ (t : TypeId) (xs : List Value) : Value := if aggOf P t then .agg xs.toArray else xs.headD undef
end
section
variable {P : Program} {w : World}
theorem part_flat {d e : Nat} {xs : List Value} {off : Nat} (h : flatQ P d e = true) (hl : off + cellsQ P e ≤ xs.length) : (part e xs.toArray off).run P w = .ok (valQ P e ((xs.drop off).take (cellsQ P e))) w := by
  cases d with
  | zero => simp [flatQ] at h
  | succ d =>
    unfold flatQ at h
    rw [Bool.and_eq_true] at h
    obtain ⟨i, hi⟩ := Option.isSome_iff_exists.mp h.1
    have hsz : i.size = cellsQ P e := by simp [cellsQ, hi]
    have h2 := h.2
    cases hu : P.underlying e with
    | none => rw [hu] at h2; simp at h2
    | some dd =>
      rw [hu] at h2
      have hag : ∀ b, aggOf P e = b → (isAgg e).run P w = .ok b w := by
        intro b hb
        unfold aggOf at hb
        unfold isAgg
        rw [Sem.run_bind, run_underlying hu w]
        rw [hu] at hb
        cases dd <;> simp_all
      cases ha : aggOf P e with
      | false =>
        have hc : cellsQ P e = 1 := by
          unfold aggOf at ha
          rw [hu] at ha
          cases dd <;> simp_all
        rw [hc] at hl ⊢
        have hg : xs[off]? = some xs[off] := List.getElem?_eq_getElem (by omega)
        unfold valQ
        rw [ha]
        simp only [part, Sem.run_bind, hag _ ha, Result.andThen_ok, Bool.false_eq_true, if_false]
        rw [List.getElem?_toArray, hg]
        simp only [Sem.run_pure]
        congr 1
        rw [List.drop_eq_getElem_cons (by omega)]
        rfl
      | true =>
        unfold valQ
        rw [ha]
        simp only [part, Sem.run_bind, hag _ ha, Result.andThen_ok, if_true, sizeOf, typeInfo, run_program, hi, Sem.run_pure, hsz]
        simp [List.extract_toArray, List.extract_eq_take_drop]
theorem fields_flat {d : Nat} (ih : ∀ t, flatQ P d t = true → ∀ d', d ≤ d' → ∀ xs ys, Ints2 xs ys → xs.length = cellsQ P t → (Op.equalIn d' t (valQ P t xs) (valQ P t ys)).run P w = .ok (eqV xs ys) w) {d' : Nat} (hd : d ≤ d') {xs ys : List Value} (hi : Ints2 xs ys) :
    ∀ (fs : List Field) (o : Nat), (fs.all fun f => flatQ P d f.type) = true → seqF P o fs = some xs.length → o ≤ xs.length → (Op.eqFields d' xs.toArray ys.toArray fs).run P w = .ok (eqV (xs.drop o) (ys.drop o)) w
  | [], o, _, h, _ => by
    simp only [seqF, Option.some.injEq] at h
    subst h
    rw [List.drop_of_length_le (Nat.le_refl _), List.drop_of_length_le (by rw [hi.len]; exact Nat.le_refl _)]
    simp [Op.eqFields, eqV]
  | f :: r, o, hall, h, ho => by
    simp only [List.all_cons, Bool.and_eq_true] at hall
    unfold seqF at h
    split at h
    · rename_i hc
      obtain ⟨rfl, hn⟩ := hc
      have hle : f.offset + cellsQ P f.type ≤ xs.length := by
        have : ∀ (fs : List Field) (o t : Nat), seqF P o fs = some t → o ≤ t := by
          intro fs
          induction fs with
          | nil => intro o t h; simp only [seqF, Option.some.injEq] at h; omega
          | cons g s ih => intro o t h; unfold seqF at h; split at h
                           · have := ih _ _ h; omega
                           · cases h
        exact this _ _ _ h
      have e1 := part_flat (w := w) (xs := xs) hall.1 hle
      have e2 := part_flat (w := w) (xs := ys) hall.1 (by rw [← hi.len]; exact hle)
      have e3 := ih f.type hall.1 d' hd _ _ ((hi.drop f.offset).take (cellsQ P f.type)) (by simp; omega)
      have e4 := fields_flat ih hd hi r _ hall.2 h hle
      simp only [Op.eqFields, ne_eq, hn, not_false_eq_true, if_true, Sem.run_bind, e1, e2, e3, Result.andThen_ok]
      rw [eqV_split (hi.drop f.offset) (cellsQ P f.type), List.drop_drop, List.drop_drop]
      cases eqV ((xs.drop f.offset).take (cellsQ P f.type)) ((ys.drop f.offset).take (cellsQ P f.type))
      · simp
      · simp [e4]
    · cases h
theorem all_flat (sz : Nat) : ∀ (n : Nat) {xs ys : List Value}, Ints2 xs ys → xs.length = n * sz → (List.range n).all (fun i => eqV ((xs.drop (i * sz)).take sz) ((ys.drop (i * sz)).take sz)) = eqV xs ys
  | 0, xs, ys, h, hl => by
    rw [Nat.zero_mul] at hl
    cases h with
    | nil => rfl
    | cons h => simp at hl
  | n + 1, xs, ys, h, hl => by
    have hm : (n + 1) * sz = n * sz + sz := Nat.succ_mul n sz
    rw [List.range_succ, List.all_append]
    have h1 := all_flat sz n (h.take (n * sz)) (by simp; omega)
    rw [eqV_split h (n * sz), ← h1]
    congr 1
    · apply Bool.eq_iff_iff.2
      simp only [List.all_eq_true, List.mem_range]
      have key : ∀ (l : List Value) i, i < n → ((l.take (n * sz)).drop (i * sz)).take sz = (l.drop (i * sz)).take sz := by
        intro l i hi
        have : i * sz + sz ≤ n * sz := by
          have := Nat.mul_le_mul_right sz (show i + 1 ≤ n by omega)
          rwa [Nat.succ_mul] at this
        rw [List.drop_take, List.take_take, Nat.min_eq_left (by omega)]
      constructor <;> (intro hh i hi; have := hh i hi; first | (rw [key xs i hi, key ys i hi]; exact this) | (rw [key xs i hi, key ys i hi] at this; exact this))
    · simp only [List.all_cons, List.all_nil, Bool.and_true]
      rw [List.take_of_length_le (by simp; omega), List.take_of_length_le (by simp [← h.len]; omega)]
theorem equal_flat : ∀ (d : Nat) (t : TypeId), flatQ P d t = true → ∀ d', d ≤ d' → ∀ xs ys, Ints2 xs ys → xs.length = cellsQ P t → (Op.equalIn d' t (valQ P t xs) (valQ P t ys)).run P w = .ok (eqV xs ys) w
  | 0, t, h => by simp [flatQ] at h
  | d + 1, t, h => by
    intro d' hd xs ys hi hl
    obtain ⟨d2, rfl⟩ : ∃ d2, d' = d2 + 1 := ⟨d' - 1, by omega⟩
    have h0 := h
    unfold flatQ at h
    rw [Bool.and_eq_true] at h
    have h2 := h.2
    cases hu : P.underlying t with
    | none => rw [hu] at h2; simp at h2
    | some dd =>
      rw [hu] at h2
      cases dd <;> try (simp at h2; done)
      case int k0 =>
        have hc : cellsQ P t = 1 := by simpa using h2
        rw [hc] at hl
        have ha : aggOf P t = false := by unfold aggOf; rw [hu]
        cases hi with
        | nil => simp at hl
        | cons hr =>
          rename_i k a b r s
          have : r = [] := List.length_eq_zero_iff.1 (by simpa using hl)
          subst this
          cases hr
          simp only [valQ, ha, Bool.false_eq_true, if_false, List.headD_cons]
          rw [run_equalIn_int w d2 t k k0 a b hu]
          simp [eqV]
      case struct fs =>
        simp only [Bool.and_eq_true, Bool.not_eq_true', beq_iff_eq] at h2
        have ha : aggOf P t = true := by unfold aggOf; rw [hu]
        have hfs : P.fieldsOf t = fs := by unfold Program.fieldsOf; rw [hu]
        simp only [valQ, ha, if_true]
        rw [run_equalIn_struct w d2 t _ _ (by rw [hfs]; exact hu) h2.1.1, hfs]
        have := fields_flat (w := w) (fun t ht d' hd xs ys hi hl => equal_flat d t ht d' hd xs ys hi hl) (show d ≤ d2 by omega) hi fs.toList 0 h2.1.2 (by rw [h2.2, hl]) (Nat.zero_le _)
        simpa using this
      case array n e =>
        simp only [Bool.and_eq_true, Bool.not_eq_true', beq_iff_eq, beq_eq_false_iff_ne, ne_eq] at h2
        obtain ⟨⟨h3, h4⟩, h5⟩ := h2
        have ha : aggOf P t = true := by unfold aggOf; rw [hu]
        simp only [valQ, ha, if_true]
        have hsz : (P.info? e).map (·.size) = some (cellsQ P e) := by
          unfold cellsQ
          unfold cellsQ at h5
          cases hq : P.info? e with
          | none => rw [hq] at h5; simp at h5
          | some i => rfl
        rw [run_equalIn_array w d2 t e n (cellsQ P e) _ _ (fun i => eqV ((xs.drop (i * cellsQ P e)).take (cellsQ P e)) ((ys.drop (i * cellsQ P e)).take (cellsQ P e))) hu hsz (fun i hin => ?_)]
        · rw [all_flat (cellsQ P e) n hi (by rw [hl, h4])]
        · have hle : i * cellsQ P e + cellsQ P e ≤ xs.length := by
            have := Nat.mul_le_mul_right (cellsQ P e) (show i + 1 ≤ n by omega)
            rw [Nat.succ_mul] at this
            omega
          exact ⟨_, _, part_flat h3 hle, part_flat h3 (by rw [← hi.len]; exact hle), equal_flat d e h3 d2 (by omega) _ _ ((hi.drop _).take _) (by simp; omega)⟩
/-- Are two runs of numbers the same? -/
def intsE (n : Nat) (f g : Nat → Int) : Bool := decide ((List.range n).map f = (List.range n).map g)
def eqSegs : List Seg → List Seg → Option Bool
  | [], [] => some true
  | .one (.v (.int k a)) :: r, .one (.v (.int k' b)) :: s => bif ikE k k' then (match eqSegs r s with
    | some e => some (bif a == b then e else false)
    | none => none) else none
  | .ints k n f :: r, .ints k' n' g :: s => bif ikE k k' && n.beq n' then (match eqSegs r s with
    | some e => some (bif intsE n f g then e else false)
    | none => none) else none
  | _, _ => none
theorem ints_two (k : IntKind) (f g : Nat → Int) {r s : List Value} (h : Ints2 r s) : ∀ (l : List Nat), Ints2 ((l.map fun i => Value.int k (f i)) ++ r) ((l.map fun i => Value.int k (g i)) ++ s) ∧
    eqV ((l.map fun i => Value.int k (f i)) ++ r) ((l.map fun i => Value.int k (g i)) ++ s) = (decide (l.map f = l.map g) && eqV r s)
  | [] => ⟨h, by simp⟩
  | i :: l => by
    obtain ⟨h1, h2⟩ := ints_two k f g h l
    refine ⟨.cons h1, ?_⟩
    simp only [List.map_cons, List.cons_append, eqV, h2, ← Bool.and_assoc]
    congr 1
    rw [Bool.eq_iff_iff]
    simp
theorem eqSegs_den (ρ : Nat → Nat) : ∀ (l m : List Seg) (b : Bool), eqSegs l m = some b → Ints2 (segsDen ρ l) (segsDen ρ m) ∧ eqV (segsDen ρ l) (segsDen ρ m) = b := by
  intro l
  induction l with
  | nil =>
    intro m b h
    cases m with
    | nil => simp only [eqSegs, Option.some.injEq] at h; subst h; exact ⟨.nil, rfl⟩
    | cons y s => simp [eqSegs] at h
  | cons x r ih =>
    intro m b h
    unfold eqSegs at h
    split at h
    · rename_i e; cases e
    · rename_i k a r' k' b' s e1
      simp only [List.cons.injEq] at e1
      obtain ⟨rfl, rfl⟩ := e1
      cases hk : ikE k k'
      · rw [hk] at h; cases h
      · rw [hk] at h
        obtain rfl := ikN_inj hk
        simp only [cond_true] at h
        cases he : eqSegs r s with
        | none => rw [he] at h; cases h
        | some e =>
          rw [he] at h
          simp only [Option.some.injEq] at h; subst h
          obtain ⟨h1, h2⟩ := ih s e he
          refine ⟨.cons h1, ?_⟩
          simp only [segsDen, Seg.den, SC.den, List.cons_append, List.nil_append, eqV, h2]
          cases a == b' <;> rfl
    · rename_i k n f r' k' n' g s e1
      simp only [List.cons.injEq] at e1
      obtain ⟨rfl, rfl⟩ := e1
      cases hk : (ikE k k' && n.beq n')
      · rw [hk] at h; cases h
      · rw [hk] at h
        simp only [Bool.and_eq_true] at hk
        obtain rfl := ikN_inj hk.1
        obtain rfl := Nat.eq_of_beq_eq_true hk.2
        simp only [cond_true] at h
        cases he : eqSegs r s with
        | none => rw [he] at h; cases h
        | some e =>
          rw [he] at h
          simp only [Option.some.injEq] at h; subst h
          obtain ⟨h1, h2⟩ := ih s e he
          obtain ⟨g1, g2⟩ := ints_two k f g h1 (List.range n)
          refine ⟨g1, ?_⟩
          simp only [segsDen, Seg.den]
          rw [g2, h2]
          unfold intsE
          cases decide (List.map f (List.range n) = List.map g (List.range n)) <;> rfl
    · cases h
def cmpA (T : Tab) (op : BinOp) (t : Nat) (l m : List Seg) : Option Bool := match lkT T t with
  | some i => bif intsOnly i && (segsLen l).beq i.size then (match op, eqSegs l m with
    | .eql, some b => some b
    | .neq, some b => some (bif b then false else true)
    | _, _ => none) else none
  | none => none
theorem cmpA_run {T : Tab} (hT : TabOk P T) (hT2 : TysOk P T) {op : BinOp} {t : Nat} {l m : List Seg} {b : Bool} {u v : Operand} {ρ : Nat → Nat} (h : cmpA T op t l m = some b) :
    (do eqGuard op t u v ((SA.a l).den ρ) ((SA.a m).den ρ); binOp op t ((SA.a l).den ρ) ((SA.a m).den ρ) : Sem Value).run P w = .ok (.bool b) w := by
  unfold cmpA at h
  cases h1 : lkT T t with
  | none => rw [h1] at h; cases h
  | some i =>
    rw [h1] at h
    dsimp only at h
    cases hc : (intsOnly i && (segsLen l).beq i.size)
    · rw [hc] at h; cases h
    · rw [hc] at h
      simp only [cond_true] at h
      simp only [Bool.and_eq_true] at hc
      have hq := (hT2.2 _ _ h1).2 hc.1
      unfold eqTy at hq
      simp only [Bool.and_eq_true, Bool.not_eq_true'] at hq
      have hlen := Nat.eq_of_beq_eq_true hc.2
      obtain ⟨ha, hz, -, -, -⟩ := (hT _ _ h1).agg (fun z k e => by subst e; simp [intsOnly] at hc)
      have hcq : cellsQ P t = i.size := by unfold cellsQ; rw [hz]; rfl
      have key : ∀ e, eqSegs l m = some e → (Op.equalIn 10000 t (.agg (segsDen ρ l).toArray) (.agg (segsDen ρ m).toArray)).run P w = .ok e w := by
        intro e he
        obtain ⟨g1, g2⟩ := eqSegs_den ρ l m e he
        have := equal_flat (w := w) 12 t hq.1 10000 (by decide) _ _ g1 (by rw [segsDen_len, hlen, hcq])
        unfold valQ at this
        rw [ha] at this
        simp only [if_true] at this
        rw [this, g2]
      have hg := run_eqGuard_agg (P := P) w op t u v (segsDen ρ l).toArray (segsDen ρ m).toArray hq.2
      simp only [SA.den, Sem.run_bind, hg, Result.andThen_ok]
      split at h
      · rename_i e he
        simp only [Option.some.injEq] at h; subst h
        rw [run_eql_struct, key _ he]; rfl
      · rename_i e he
        simp only [Option.some.injEq] at h; subst h
        rw [run_neq_struct, key _ he]
        cases e <;> rfl
      · cases h
end
end Go.Proofs.Ytpedkcpkdacnlaa
end
section
namespace Go.Proofs.Ytpedkcpkdacnlaa
open Go.RowKit
set_option linter.unusedVariables false
def argsS (env : Env) : List Operand → Option (List SA)
  | [] => some []
  | x :: r => match evalS env x, argsS env r with
    | some (.o y), some l => some (y :: l)
    | _, _ => none
def noV (a : Array Value) : Bool := match a.toList with
  | [] => true
  | _ => false
theorem noV_iff {a : Array Value} (h : noV a = true) : a = #[] := by
  unfold noV at h
  split at h
  · rename_i e; exact Array.ext' e
  · cases h
def callS (T : Tab) (env : Env) (c : Call) : Eff := match c.callee with
  | .value f => match evalS env f with
    | some (.o (.c (.v (.func (.func g) fi ca)))) => bif noV fi && noV ca then (match argsS env c.args.toList with
      | some l => .call g l
      | none => .no) else .no
    | _ => .no
  | .builtin .len => match c.argTypes.toList, c.args.toList with
    | [t], [x] => match lkT T t, evalS env x with
      | some (.one _ (.slice _)), some (.o (.c (.s _ _ n _))) => .val none (sv (.int .i64 n))
      | some (.one _ (.slice _)), some (.o (.c (.v (.slice _ n _)))) => .val none (sv (.int .i64 n))
      | some (.one _ (.slice _)), some (.o (.c (.r _ n _ _ _ _ _))) => .val none (sv (.int .i64 n))
      | some (.one _ .str), some (.o (.c (.v (.string s)))) => .val none (sv (.int .i64 s.size))
      | _, _ => .no
    | _, _ => .no
  | .builtin .min => match c.args.toList with
    | [x, y] => match evalS env x, evalS env y with
      | some (.o (.c (.v (.int k a)))), some (.o (.c (.v (.int _ b)))) => .val none (sv (.int k (if b < a then b else a)))
      | _, _ => .no
    | _ => .no
  | _ => .no
/-- The beginning of a slice that came in. -/
def sliceS (T : Tab) (env : Env) (t : TypeId) : Option SV → Option Operand → Option Operand → Option Operand → Eff
  | some (.o (.c (.r a n c m sz ks z))), none, some h, none => match lkT T t, evalS env h with
    | some (.one _ (.slice e)), some (.o (.c (.v (.int _ j)))) => match lkT T e with
      | some _ => .val (some (0 ≤ j ∧ j ≤ c)) (.o (.c (.r a j.toNat c m sz ks z)))
      | none => .no
    | _, _ => .no
  | _, _, _, _ => .no
def pickS (t : Bool) (x y : SV) : SV := match x, y with
  | .o (.c (.v (.bool a))), .o (.c (.v (.bool b))) => sv (.bool (bif t then a else b))
  | x, y => bif t then x else y
theorem pickS_den (ρ : Nat → Nat) (t : Bool) (x y : SV) : (pickS t x y).den ρ = if t then x.den ρ else y.den ρ := by
  unfold pickS
  split <;> cases t <;> rfl
def execS (V : World) (T : Tab) (env : Env) (M : List SB) : Op → Eff
  | .move x => match evalS env x with
    | some v => .val none v
    | none => .no
  | .assign x => match evalS env x with
    | some v => .val none v
    | none => .no
  | .pick c a b => match evalS env c, evalS env a, evalS env b with
    | some (.o (.c (.v (.bool t)))), some va, some vb => .val none (pickS t va vb)
    | _, _, _ => .no
  | .alloc t => allocS T t
  | .box t x => boxS t (evalS env x)
  | .load t x => loadS V T M t (evalS env x)
  | .store t x y => storeS T M t (evalS env x) (evalS env y)
  | .nilCheck x => match evalS env x with
    | some v => bif nilOk v then .val none v else .no
    | none => .no
  | .binOp op t x y _ => match evalS env x, evalS env y with
    | some (.o (.c a)), some (.o (.c b)) => match cmpS T op t (isC x || isC y) a b with
      | some (vc, z) => .val vc (sv z)
      | none => .no
    | some (.o (.a l)), some (.o (.a m)) => match cmpA T op t l m with
      | some b => .val none (sv (.bool b))
      | none => .no
    | _, _ => .no
  | .unOp op _ x => match evalS env x with
    | some (.o (.c a)) => match unS op a with
      | some z => .val none (.o (.c z))
      | none => .no
    | _ => .no
  | .convert s d x => match evalS env x with
    | some (.o (.c a)) => match convS T s d a with
      | some z => .val none (.o (.c z))
      | none => .no
    | _ => .no
  | .makeInterface t x => match evalS env x with
    | some (.o (.c a)) => match ifaceS T t a with
      | some z => .val none (.o (.c z))
      | none => .no
    | _ => .no
  | .fieldAddr t x f => fieldAddrS T t f (evalS env x)
  | .field t x f => fieldS T t f (evalS env x)
  | .indexAddr t x i => indexAddrS V T M t (evalS env x) (evalS env i)
  | .index t x i => indexS T t (evalS env x) (evalS env i)
  | .extract x i => match evalS env x with
    | some v => match extractS v i with
      | some z => .val none z
      | none => .no
    | none => .no
  | .call c => callS T env c
  | .build t parts => buildS T env t parts
  | .slice t x lo hi mx => sliceS T env t (evalS env x) lo hi mx
  | _ => .no
section
variable {P : Program} {w0 w : World} {S : Nat → Prop} {ρ : Nat → Nat} {M : List SB} {nt : Nat} {env : Env} {a : Act} {T : Tab}
theorem argsS_den (hE : EnvOk ρ nt env a) : ∀ (l : List Operand) (r : List SA), argsS env l = some r → l.map a.eval = r.map (SA.den ρ)
  | [], r, h => by simp only [argsS, Option.some.injEq] at h; subst h; rfl
  | x :: l, r, h => by
    simp only [argsS] at h
    split at h
    · rename_i y m h1 h2
      simp only [Option.some.injEq] at h; subst h
      have := hE.eval h1
      simp only [List.map_cons, this, argsS_den hE l m h2]; rfl
    · cases h
theorem callFunc_run {f : FuncId} {args : Array Value} (h : enterB P f = true) : (callFunc f args).run P w = .ok (.enter f args) w := by
  unfold enterB at h
  cases hf : P.funcs[f]? with
  | none => rw [hf] at h; cases h
  | some fn =>
    rw [hf] at h
    simp only [Bool.and_eq_true, Bool.not_eq_true'] at h
    have h1 : fn.name ≠ "runtime.NumGoroutine" := by simpa using h.1
    obtain ⟨c, hb⟩ := Option.isSome_iff_exists.mp h.2
    simp [callFunc, hf, h1, hb]
theorem callS_ok (hT : TabOk P T) (hE : EnvOk ρ nt env a) (c : Call) (ty : TypeId) : EffOk P w0 S ρ M w (do let d ← resolve a.eval c ty; invoke d.target d.args) (callS T env c) := by
  obtain ⟨callee, args, argTypes⟩ := c
  unfold callS
  dsimp only
  split
  · rename_i f
    split
    · rename_i g fi ca h1
      cases he : (noV fi && noV ca)
      · trivial
      · simp only [Bool.and_eq_true] at he
        obtain rfl := noV_iff he.1
        obtain rfl := noV_iff he.2
        dsimp only [cond_true]
        cases h2 : argsS env args.toList with
        | none => trivial
        | some l =>
          dsimp only [EffOk]
          intro hen
          have e1 : a.eval f = .func (.func g) #[] #[] := hE.eval h1
          have e2 : args.map a.eval = (l.map (SA.den ρ)).toArray := by
            apply Array.ext'
            rw [Array.toList_map]; exact argsS_den hE _ _ h2
          simp [resolve, e1, e2, Deferred.ofValue, invoke, callFunc_run hen]
    · trivial
  · split
    · rename_i t x h1 h2
      have ha : argTypes = #[t] := by apply Array.ext'; exact h1
      have hb : args = #[x] := by apply Array.ext'; exact h2
      subst ha; subst hb
      split
      · rename_i z e b off n c hl hx
        dsimp only [EffOk]
        intro _
        have e1 : a.eval x = _ := hE.eval hx
        have hu := kd_slice (hT _ _ hl).1
        simp [resolve, e1, invoke, builtin, Builtin.len_, SV.den, SA.den, SC.den, run_underlying hu, goInt]
      · rename_i z e b n c hl hx
        dsimp only [EffOk]
        intro _
        have e1 : a.eval x = _ := hE.eval hx
        have hu := kd_slice (hT _ _ hl).1
        simp [resolve, e1, invoke, builtin, Builtin.len_, SV.den, SA.den, SC.den, run_underlying hu, goInt]
      · rename_i z e b n c m sz ks zz hl hx
        dsimp only [EffOk]
        intro _
        have e1 : a.eval x = _ := hE.eval hx
        have hu := kd_slice (hT _ _ hl).1
        simp [resolve, e1, invoke, builtin, Builtin.len_, SV.den, SA.den, SC.den, run_underlying hu, goInt]
      · rename_i z s hl hx
        dsimp only [EffOk]
        intro _
        have e1 : a.eval x = _ := hE.eval hx
        have hu := kd_str (hT _ _ hl).1
        simp [resolve, e1, invoke, builtin, Builtin.len_, SV.den, SA.den, SC.den, run_underlying hu, goInt]
      · trivial
    · trivial
  · split
    · rename_i x y h2
      have hb : args = #[x, y] := by apply Array.ext'; exact h2
      subst hb
      split
      · rename_i k p k' q hx hy
        dsimp only [EffOk]
        intro _
        have e1 : a.eval x = .int k p := hE.eval hx
        have e2 : a.eval y = .int k' q := hE.eval hy
        simp [resolve, e1, e2, invoke, builtin, run_min_int2, SV.den, SA.den, SC.den]
      · trivial
    · trivial
  · trivial
theorem sliceS_ok (hT : TabOk P T) (hE : EnvOk ρ nt env a) (t : TypeId) (x : Operand) (lo hi mx : Option Operand) : EffOk P w0 S ρ M w (do pure (Next.value (← Instr.sliceAt t (a.eval x) (lo.map a.eval) (hi.map a.eval) (mx.map a.eval)))) (sliceS T env t (evalS env x) lo hi mx) := by
  unfold sliceS
  split
  · rename_i b n c m sz ks z h hx
    split
    · rename_i z0 e k j hl hh
      cases h2 : lkT T e with
      | none => trivial
      | some ti =>
        dsimp only [EffOk, vcP]
        rintro ⟨h0, h1⟩
        have e1 : a.eval x = .slice b n c := hE.eval hx
        have e2 : a.eval h = .int k j := hE.eval hh
        have hu := kd_slice (hT _ _ hl).1
        obtain ⟨i, hi, hs⟩ := info_size (hT _ _ h2).size
        have hadd : (b.map fun x => x.add 0) = b := by cases b <;> simp [Addr.add]
        simp [Instr.sliceAt, run_underlying hu, Instr.slice, Instr.sliceBounds, Instr.sliceBound, e1, e2, asIntOf, h0, h1, sizeOf, typeInfo, hi, Sem.run_bind, SV.den, SA.den, SC.den]
        exact fun _ => hadd
    · trivial
  · trivial
def isMem : Op → Bool
  | .load _ _ => true
  | .store _ _ _ => true
  | _ => false
theorem execS_ok {V : World} (hV : OldOk V w0 S) (hT : TabOk P T) (hT2 : TysOk P T) (hE : EnvOk ρ nt env a) (o : Oper) (HM : isMem o.op = true → Mem w0 S (denM ρ 0 M) w) : EffOk P w0 S ρ M w (execOp a.eval o) (execS V T env M o.op) := by
  unfold execOp
  cases hop : o.op
  all_goals (try (exact trivial))
  case move x =>
    simp only [execS]
    cases h : evalS env x with
    | none => trivial
    | some v => exact fun _ => by rw [hE.eval h]; rfl
  case assign x =>
    simp only [execS]
    cases h : evalS env x with
    | none => trivial
    | some v => exact fun _ => by rw [hE.eval h]; rfl
  case pick c x y =>
    simp only [execS]
    split
    · rename_i t va vb h1 h2 h3
      intro _
      have e : a.eval c = .bool t := hE.eval h1
      rw [pickS_den]
      cases t <;> simp [e, asBool, hE.eval h2, hE.eval h3]
    · trivial
  case alloc t => exact allocS_ok hT t
  case box t x => exact boxS_ok t (fun y h => hE.eval h)
  case load t x => exact loadS_ok hV hT (HM (by rw [hop]; rfl)) t (fun y h => hE.eval h)
  case store t x y => exact storeS_ok hT (HM (by rw [hop]; rfl)) t (fun y h => hE.eval h) (fun y h => hE.eval h)
  case nilCheck x =>
    simp only [execS]
    cases h : evalS env x with
    | none => trivial
    | some v =>
      dsimp only
      cases hn : nilOk v
      · trivial
      · dsimp only [cond_true, EffOk]
        intro _
        rw [hE.eval h]
        unfold nilOk at hn
        split at hn <;> first | rfl | (cases hn; done)
  case binOp op t x y ty =>
    simp only [execS]
    split
    · rename_i p q h1 h2
      cases h3 : cmpS T op t (isC x || isC y) p q with
      | none => trivial
      | some r =>
        obtain ⟨vc, z⟩ := r
        dsimp only [EffOk]
        intro hv
        have e1 : a.eval x = p.den ρ := hE.eval h1
        have e2 : a.eval y = q.den ρ := hE.eval h2
        have := cmpS_run (P := P) (w := w) (ρ := ρ) (u := x) (v := y) hT h3 hv
        rw [e1, e2]
        simp only [Sem.run_bind] at this ⊢
        simp only [this, Result.andThen_ok, Sem.run_pure]; rfl
    · rename_i l m h1 h2
      cases h3 : cmpA T op t l m with
      | none => trivial
      | some b =>
        dsimp only [EffOk]
        intro _
        have e1 : a.eval x = (SA.a l).den ρ := hE.eval h1
        have e2 : a.eval y = (SA.a m).den ρ := hE.eval h2
        have := cmpA_run (P := P) (w := w) (ρ := ρ) (u := x) (v := y) hT hT2 h3
        rw [e1, e2]
        simp only [Sem.run_bind] at this ⊢
        simp only [this, Result.andThen_ok, Sem.run_pure]; rfl
    · trivial
  case unOp op t x =>
    simp only [execS]
    split
    · rename_i p h1
      cases h3 : unS op p with
      | none => trivial
      | some z =>
        dsimp only [EffOk]
        intro _
        have e1 : a.eval x = p.den ρ := hE.eval h1
        have := unS_run (P := P) (w := w) (ρ := ρ) h3
        rw [e1]
        simp only [Sem.run_bind, this, Result.andThen_ok, Sem.run_pure]; rfl
    · trivial
  case convert s d x =>
    simp only [execS]
    split
    · rename_i p h1
      cases h3 : convS T s d p with
      | none => trivial
      | some z =>
        dsimp only [EffOk]
        intro _
        have e1 : a.eval x = p.den ρ := hE.eval h1
        have := convS_run (P := P) (w := w) (ρ := ρ) hT h3
        rw [e1]
        simp only [Sem.run_bind, this, Result.andThen_ok, Sem.run_pure]; rfl
    · trivial
  case makeInterface t x =>
    simp only [execS]
    split
    · rename_i p h1
      cases h3 : ifaceS T t p with
      | none => trivial
      | some z =>
        dsimp only [EffOk]
        intro _
        have e1 : a.eval x = p.den ρ := hE.eval h1
        have := ifaceS_run (P := P) (w := w) (ρ := ρ) hT h3
        rw [e1]
        simp only [Sem.run_bind, this, Result.andThen_ok, Sem.run_pure]; rfl
    · trivial
  case fieldAddr t x f => exact fieldAddrS_ok hT t f (fun y h => hE.eval h)
  case field t x f => exact fieldS_ok hT hT2 t f (fun y h => hE.eval h)
  case indexAddr t x i => exact indexAddrS_ok hT t (fun y h => hE.eval h) (fun y h => hE.eval h)
  case index t x i => exact indexS_ok hT hT2 t (fun y h => hE.eval h) (fun y h => hE.eval h)
  case extract x i =>
    simp only [execS]
    cases h : evalS env x with
    | none => trivial
    | some v =>
      dsimp only
      cases h3 : extractS v i with
      | none => trivial
      | some z =>
        dsimp only [EffOk]
        intro _
        have e1 : a.eval x = v.den ρ := hE.eval h
        have := extractS_run (P := P) (w := w) (ρ := ρ) h3
        rw [e1]
        simp only [Sem.run_bind, this, Result.andThen_ok, Sem.run_pure]
  case call c => exact callS_ok hT hE c o.type
  case build t parts => exact buildS_ok hT hT2 hE t parts
  case slice t x lo hi mx => exact sliceS_ok hT hE t x lo hi mx
end
end Go.Proofs.Ytpedkcpkdacnlaa
end
section
namespace Go.Proofs.Ytpedkcpkdacnlaa
open Go.RowKit
set_option linter.unusedVariables false
/-- What is known of a function that only reckons: when it may be called, and what it gives. -/
structure PCon where
  pre : List SA → Prop
  val : List SA → SV
  two : List SA → Option (Bool × SV)
/-- What it gives: where there are two ways, one or the other. -/
def PCon.out (c : PCon) (args : List SA) : SV := match c.two args with
  | none => c.val args
  | some (b, v) => bif b then c.val args else v
abbrev Gam := List (Nat × PCon)
def lkG : Gam → Nat → Option PCon
  | [], _ => none
  | (t, i) :: r, u => bif t.beq u then some i else lkG r u
def PCon.holds (P : Program) (f : FuncId) (c : PCon) : Prop := enterB P f = true ∧ ∀ (ρ : Nat → Nat) (args : List SA) (w : World), c.pre args →
  Calls P f (args.map (SA.den ρ)).toArray w fun e w' => e = .returned ((c.out args).den ρ) ∧ Below w.heap.size w w'
/-- The same, from a world on of which something is known. -/
def PCon.holdsAt (P : Program) (w0 : World) (S : Nat → Prop) (f : FuncId) (c : PCon) : Prop := enterB P f = true ∧ ∀ (ρ : Nat → Nat) (args : List SA) (w : World), c.pre args → Kept S w0 w →
  Calls P f (args.map (SA.den ρ)).toArray w fun e w' => e = .returned ((c.out args).den ρ) ∧ Below w.heap.size w w'
theorem PCon.holds.at {P : Program} {f : FuncId} {c : PCon} (h : c.holds P f) {w0 : World} {S : Nat → Prop} : c.holdsAt P w0 S f := ⟨h.1, fun ρ args w hp _ => h.2 ρ args w hp⟩
def GamOk (P : Program) (w0 : World) (S : Nat → Prop) (Γ : Gam) : Prop := ∀ f c, lkG Γ f = some c → c.holdsAt P w0 S f
theorem GamOk.nil (P : Program) (w0 : World) (S : Nat → Prop) : GamOk P w0 S [] := fun _ _ h => by simp [lkG] at h
theorem GamOk.cons {P : Program} {w0 : World} {S : Nat → Prop} {f : Nat} {c : PCon} {Γ : Gam} (h : c.holdsAt P w0 S f) (hΓ : GamOk P w0 S Γ) : GamOk P w0 S ((f, c) :: Γ) := fun u j hj => by
  unfold lkG at hj
  cases hb : f.beq u
  · rw [hb] at hj; exact hΓ u j hj
  · rw [hb] at hj
    have := Nat.eq_of_beq_eq_true hb
    subst this
    simp only [cond_true, Option.some.injEq] at hj; subst hj; exact h
def exitS (id : Nat) : List Item → Option (List Item)
  | .inBlock i :: k => bif i.beq id then some k else exitS id k
  | _ :: k => exitS id k
  | [] => none
theorem exitS_eq (id : Nat) : ∀ k, exitS id k = exitTo id k := by
  intro k
  induction k with
  | nil => rfl
  | cons x r ih =>
    cases x <;> simp only [exitS, exitTo, ih]
    rename_i i
    by_cases h : i = id
    · subst h; simp
    · have : i.beq id = false := by
        cases hb : i.beq id
        · rfl
        · exact absurd (Nat.eq_of_beq_eq_true hb) h
      simp [this, h]
def nthOp : List Oper → Nat → Option Oper
  | [], _ => none
  | o :: _, 0 => some o
  | _ :: r, n + 1 => nthOp r n
theorem nthOp_eq : ∀ (l : List Oper) (n : Nat), nthOp l n = l[n]?
  | [], _ => rfl
  | _ :: _, 0 => rfl
  | _ :: r, n + 1 => nthOp_eq r n
/-- Under which slot, and at which value, an operation is done. -/
def guardS (all : List Oper) : Option (Nat × Bool) → Option (Option (Nat × Bool))
  | none => some none
  | some (j, want) => match nthOp all j with
    | some p => match p.dst with
      | some t => some (some (t, want))
      | none => none
    | none => none
def putS (d : Option Tmp) (x : SV) (env : Env) : Env := match d with
  | some d => (d, x) :: env
  | none => env
def dstOk (nt : Nat) : Option Tmp → Bool
  | some d => d.blt nt
  | none => true
section
variable {P : Program} {nt : Nat}
theorem EnvOk.putS {ρ : Nat → Nat} {env : Env} {a : Act} (h : EnvOk ρ nt env a) {d : Option Tmp} (hd : dstOk nt d = true) (x : SV) : EnvOk ρ nt (putS d x env) (a.put d (x.den ρ)) := by
  cases d with
  | none => exact h
  | some d => exact h.put (blt_t hd) x
theorem EnvOk.same {ρ : Nat → Nat} {env : Env} {a : Act} (h : EnvOk ρ nt env a) {t : Nat} {x : SV} (hx : lk env t = some x) : EnvOk ρ nt ((t, x) :: env) a := by
  refine ⟨h.defers, h.size, fun u y hy => ?_⟩
  unfold lk at hy
  cases hb : t.beq u
  · rw [hb] at hy; exact h.get u y hy
  · rw [hb] at hy
    have := Nat.eq_of_beq_eq_true hb
    subst this
    simp only [cond_true, Option.some.injEq] at hy; subst hy
    exact h.get t _ hx
theorem guard_wanted {ρ : Nat → Nat} {env : Env} {a : Act} (h : EnvOk ρ nt env a) {all : List Oper} {o : Oper} {g : Option (Nat × Bool)} (hg : guardS all o.guard = some g) :
    (g = none → Region.wanted o (yielded all.toArray a.tmps) = true) ∧ (∀ t want b, g = some (t, want) → lk env t = some (sv (.bool b)) → Region.wanted o (yielded all.toArray a.tmps) = (b == want)) ∧ ∀ t want u, g = some (t, want) → lk env t = some (sv (.tuple u)) → Region.wanted o (yielded all.toArray a.tmps) = false := by
  unfold guardS at hg
  unfold Region.wanted
  cases ho : o.guard with
  | none =>
    rw [ho] at hg
    simp only [Option.some.injEq] at hg; subst hg
    exact ⟨fun _ => rfl, fun t want b e => (by cases e), fun t want u e => (by cases e)⟩
  | some jw =>
    obtain ⟨j, want⟩ := jw
    rw [ho] at hg
    dsimp only at hg
    cases hn : nthOp all j with
    | none => rw [hn] at hg; cases hg
    | some p =>
      rw [hn] at hg
      dsimp only at hg
      cases hp : p.dst with
      | none => rw [hp] at hg; cases hg
      | some t =>
        rw [hp] at hg
        simp only [Option.some.injEq] at hg; subst hg
        refine ⟨fun e => (by cases e), fun t' want' b e hl => ?_, fun t' want' u e hl => ?_⟩
        case refine_2 =>
          simp only [Option.some.injEq, Prod.mk.injEq] at e
          obtain ⟨rfl, rfl⟩ := e
          have h1 := h.get t _ hl
          have h2 : (all.toArray[j]?) = some p := by rw [List.getElem?_toArray, ← nthOp_eq]; exact hn
          have : yielded all.toArray a.tmps j = none := by
            unfold yielded
            rw [h2]
            simp only [Option.bind_some, hp, h1]; rfl
          simp only [this]
          rfl
        simp only [Option.some.injEq, Prod.mk.injEq] at e
        obtain ⟨rfl, rfl⟩ := e
        have h1 := h.get t _ hl
        have h2 : (all.toArray[j]?) = some p := by rw [List.getElem?_toArray, ← nthOp_eq]; exact hn
        have : yielded all.toArray a.tmps j = some b := by
          unfold yielded
          rw [h2]
          simp only [Option.bind_some, hp, h1]; rfl
        simp only [this]
        cases b <;> cases want <;> rfl
end
end Go.Proofs.Ytpedkcpkdacnlaa
end
section
namespace Go.Proofs.Ytpedkcpkdacnlaa
open Go.RowKit
set_option linter.unusedVariables false
def needs0 (o : Oper) : Bool := match o.op with
  | .load _ _ => true
  | .call _ => true
  | _ => false
/-- A region that may be walked in the order of the text. -/
def drawB (ops : Array Oper) : Bool := stableB ops && allB ops && (List.range ops.size).all fun i => match ops[i]? with
  | some o => !needs0 o || hiN ops i == 0
  | none => true
def noG (o : Oper) : Bool := match o.guard with
  | none => true
  | some _ => false
def noD (o : Oper) : Bool := match o.dst with
  | none => true
  | some _ => false
def isSt (o : Oper) : Bool := match o.op with
  | .store _ _ _ => true
  | .mapUpdate _ _ _ _ => true
  | _ => false
def isAl (o : Oper) : Bool := match o.op with
  | .alloc _ => true
  | _ => false
theorem isSt_eff (o : Oper) : eff o = isSt o := by unfold eff isSt; cases o.op <;> rfl
theorem isAl_alloc (o : Oper) : isAlloc o = isAl o := by unfold isAlloc isAl; cases o.op <;> rfl
theorem isSt_al (o : Oper) (h : isSt o = true) : isAlloc o = false := by revert h; unfold isAlloc isSt; cases o.op <;> simp
theorem mem_needs (o : Oper) (h : needs0 o = false) (h2 : isSt o = false) : isMem o.op = false := by revert h h2; unfold needs0 isSt isMem; cases o.op <;> simp
theorem noG_none {o : Oper} (h : noG o = true) : o.guard = none := by revert h; unfold noG; cases o.guard <;> simp
theorem noD_none {o : Oper} (h : noD o = true) : o.dst = none := by revert h; unfold noD; cases o.dst <;> simp
/-- The region's operations may be walked in the order of the text. -/
def drawP (id : Nat) (ops : Array Oper) : Prop := drawB ops = true
theorem drawB_spec {ops : Array Oper} (h : drawB ops = true) : stableB ops = true ∧ allB ops = true ∧ ∀ i o, ops[i]? = some o → needs0 o = true → hiN ops i = 0 := by
  unfold drawB at h
  simp only [Bool.and_eq_true] at h
  refine ⟨h.1.1, h.1.2, fun i o ho hn => ?_⟩
  have hi : i < ops.size := (Array.getElem?_eq_some_iff.1 ho).1
  have := List.all_eq_true.1 h.2 i (List.mem_range.2 hi)
  simp only [ho, hn, Bool.not_true, Bool.false_or, beq_iff_eq] at this
  exact this
section
variable (V : World) (T : Tab) (Γ : Gam) (nt : Nat) (next : Env → List SB → Prop) (M0 : List SB) (all : List Oper)
def drun : List Oper → Bool → Env → List SB → Prop
  | [], _, env, M => next env M
  | o :: l, ph, env, M =>
    bif dstOk nt o.dst then
      bif isSt o then bif noG o && noD o then (match execS V T env M o.op with
        | .mem vc M' => bif M'.length.beq M.length then vcAnd vc (drun l true env M') else False
        | _ => False) else False
      else bif isAl o then bif noG o && !ph then (match execS V T env M o.op with
        | .new B => bif envSc M.length env && memSc M.length M && memSc 0 [B] then drun l ph (putS o.dst (.o (.c (.p M.length 0))) env) (M ++ [B]) else False
        | _ => False) else False
      else match guardS all o.guard with
      | some g =>
        let go : Env → Prop := fun env => match execS V T env M0 o.op with
          | .val vc x => bif x.sc M0.length then vcAnd vc (drun l ph (putS o.dst x env) M) else False
          | .call f args => match lkG Γ f with
            | some c => bif needs0 o && (c.val args).sc M0.length then c.pre args ∧ match c.two args with
              | none => drun l ph (putS o.dst (c.val args) env) M
              | some _ => False else False
            | none => False
          | _ => False
        match g with
        | none => go env
        | some (t, want) => match lk env t with
          | some (.o (.c (.v (.bool b)))) =>
            bif b then (bif want then go ((t, sv (.bool true)) :: env) else drun l ph (putS o.dst (sv undef) ((t, sv (.bool true)) :: env)) M)
            else (bif want then drun l ph (putS o.dst (sv undef) ((t, sv (.bool false)) :: env)) M else go ((t, sv (.bool false)) :: env))
          | some (.o (.c (.v (.tuple _)))) => drun l ph (putS o.dst (sv undef) env) M
          | _ => False
      | none => False
    else False
end
/-- The blocks' true numbers: those made here are told by b. -/
def RB (ρ : Nat → Nat) (n0 : Nat) (aL : AsC) (b : Nat → Nat) : Nat → Nat := fun k => if k < n0 then ρ k else match aL[k - n0]? with
  | some x => b x.1
  | none => 0
theorem RB_old {ρ : Nat → Nat} {n0 : Nat} {aL : AsC} {b : Nat → Nat} {k : Nat} (h : k < n0) : RB ρ n0 aL b k = ρ k := if_pos h
theorem RB_snoc {ρ : Nat → Nat} {n0 : Nat} {aL : AsC} {b : Nat → Nat} {x : Nat × Option Tmp × Obj} {k : Nat} (h : k < n0 + aL.length) : RB ρ n0 (aL ++ [x]) b k = RB ρ n0 aL b k := by
  unfold RB
  by_cases h1 : k < n0
  · rw [if_pos h1, if_pos h1]
  · rw [if_neg h1, if_neg h1, List.getElem?_append_left (by omega)]
theorem RB_new {ρ : Nat → Nat} {n0 : Nat} {aL : AsC} {b : Nat → Nat} {x : Nat × Option Tmp × Obj} : RB ρ n0 (aL ++ [x]) b (n0 + aL.length) = b x.1 := by
  unfold RB
  rw [if_neg (by omega), show n0 + aL.length - n0 = aL.length by omega, List.getElem?_append_right (Nat.le_refl _)]
  simp
theorem entsC_snoc (b : Nat → Nat) (x : Nat × Option Tmp × Obj) : ∀ (aL : AsC) (M : List En), entsC b (aL ++ [x]) M = entO (b x.1) x.2.2 :: entsC b aL M
  | [], M => rfl
  | y :: r, M => entsC_snoc b x r _
section
variable {P : Program} {W w0 : World} {S : Nat → Prop} {ρ : Nat → Nat} {M0 : List SB} {T : Tab} {Γ : Gam} {nt : Nat} {next : Env → List SB → Prop} {all : List Oper} {Q : Act → World → Prop}
theorem putsC_slot (b : Nat → Nat) (t : Nat) : ∀ (aL : AsC) (a : Act), (∀ x ∈ aL, x.2.1 ≠ some t) → (putsC b aL a).tmps[t]? = a.tmps[t]?
  | [], a, _ => rfl
  | (i, d, O) :: r, a, h => by
    simp only [putsC]
    rw [putsC_slot b t r _ (fun x hx => h x (List.mem_cons_of_mem _ hx))]
    have := h (i, d, O) List.mem_cons_self
    cases d with
    | none => rfl
    | some d =>
      simp only [Act.put]
      exact Array.getElem?_setIfInBounds_ne (fun e => this (by rw [e]))
theorem entsC_perm (b : Nat → Nat) (aL : AsC) (x : Nat × Option Tmp × Obj) (M : List En) {N : List En} (h : (entsC b aL M).Perm N) : (entsC b (aL ++ [x]) M).Perm (N ++ [entO (b x.1) x.2.2]) := by
  rw [entsC_snoc]
  exact (List.Perm.cons _ h).trans (List.perm_append_comm (l₁ := [entO (b x.1) x.2.2]))
/-- What the list of made variables is. -/
def AsOk (all : List Oper) (i : Nat) (aL : AsC) : Prop := (∀ x ∈ aL, ∃ j, j < i ∧ allocAt all.toArray j = true ∧ x.2.1 = dstOf all.toArray j) ∧ aL.all (fun x => okO x.2.2) = true
theorem wp_put_none {a : Act} {v : Value} : a.put none v = a := rfl
set_option maxHeartbeats 1000000 in
theorem drun_wpD {V : World} (hV : OldOk V w0 S) (hT : TabOk P T) (hT2 : TysOk P T) (hΓ : GamOk P w0 S Γ) (hst : Stable all.toArray) (hall : allB all.toArray = true) (hn0 : ∀ i o, all[i]? = some o → needs0 o = true → hiN all.toArray i = 0)
    (HM0 : Mem w0 S (denM ρ 0 M0) W) (hM0 : memSc M0.length M0 = true)
    (hnext : ∀ env M ρ' a w, next env M → EnvOk ρ' nt env a → Mem w0 S (denM ρ' 0 M) w → Q a w) :
    ∀ (l : List Oper) (ph : Bool) (i kk : Nat) (aL : AsC) (env : Env) (M : List SB) (a : Act), (∀ j, l[j]? = all[i + j]?) → AsOk all i aL → M.length = M0.length + aL.length →
    (∀ b, EnvOk (RB ρ M0.length aL b) nt env (putsC b aL a)) → (ph = false → kk = 0 ∧ ∀ b, (entsC b aL (denM ρ 0 M0)).Perm (denM (RB ρ M0.length aL b) 0 M)) → (ph = true → kk ≠ 0) →
    drun V T Γ nt next M0 all l ph env M →
    ∃ F : Nat → (Nat → Nat) → World → Prop, ∀ Sx : Nat → (Nat → Nat) → World → Prop, (∀ j, kk < j → Sx j = F j) → (ph = true → ∀ b w, Sx kk b w → Mem w0 S (denM (RB ρ M0.length aL b) 0 M) w) →
      wpD P all.toArray W Sx Q i kk aL l a := by
  intro l
  induction l with
  | nil =>
    intro ph i kk aL env M a hl has hlen henv h0 h1 h
    refine ⟨fun _ _ _ => True, fun Sx _ hk => ?_⟩
    simp only [wpD]
    intro b w hs
    refine hnext env M _ _ w h (henv b) ?_
    cases ph
    · obtain ⟨rfl, hp⟩ := h0 rfl
      exact (ssm0 HM0 has.2 b w hs).perm (hp b)
    · cases kk with
      | zero => exact absurd rfl (h1 rfl)
      | succ k => exact hk rfl b w hs
  | cons o l ih =>
    intro ph i kk aL env M a hl has hlen henv h0 h1 h
    have ho : all[i]? = some o := by simpa using (hl 0).symm
    have hoa : all.toArray[i]? = some o := by simpa using ho
    have hl' : ∀ j, l[j]? = all[i + 1 + j]? := fun j => by
      have := hl (j + 1)
      rwa [List.getElem?_cons_succ, show i + (j + 1) = i + 1 + j by omega] at this
    have hilt : i < all.toArray.size := (Array.getElem?_eq_some_iff.1 hoa).1
    have has' : AsOk all (i + 1) aL := ⟨fun x hx => by obtain ⟨j, h1, h2⟩ := has.1 x hx; exact ⟨j, by omega, h2⟩, has.2⟩
    -- what is put under the operation's own name meets no variable made here
    have hdst : ∀ x ∈ aL, ∀ e, o.dst = some e → x.2.1 ≠ some e := by
      intro x hx e he hxe
      obtain ⟨j, hj, hja, hjd⟩ := has.1 x hx
      rw [hjd] at hxe
      exact hst.dist i o hoa j (by omega) (by omega) e he hxe
    unfold drun at h
    cases hd : dstOk nt o.dst with
    | false => rw [hd] at h; exact h.elim
    | true =>
      rw [hd] at h
      simp only [cond_true] at h
      cases hS : isSt o with
      | true =>
        rw [hS] at h
        simp only [cond_true] at h
        cases hg : (noG o && noD o) with
        | false => rw [hg] at h; exact h.elim
        | true =>
          rw [hg] at h
          simp only [cond_true, Bool.and_eq_true] at h hg
          have hgn := noG_none hg.1
          have hdn := noD_none hg.2
          have hA : isAlloc o = false := isSt_al o hS
          have hE : eff o = true := by rw [isSt_eff]; exact hS
          cases hex : execS V T env M o.op <;> rw [hex] at h <;> try exact h.elim
          rename_i vc M'
          dsimp only at h
          cases hlen0 : M'.length.beq M.length with
          | false => rw [hlen0] at h; exact h.elim
          | true =>
          rw [hlen0] at h
          have hlen' := Nat.eq_of_beq_eq_true hlen0
          obtain ⟨v1, v2⟩ := vcAnd_iff.1 h
          have hput : a.put o.dst undef = a := by rw [hdn]; rfl
          have hmem : ∀ b w, Mem w0 S (denM (RB ρ M0.length aL b) 0 M) w → ∃ w', (execOp (putsC b aL a).eval o).run P w = .ok .skip w' ∧ Mem w0 S (denM (RB ρ M0.length aL b) 0 M') w' ∧ M'.length = M.length := by
            intro b w HM
            have := execS_ok (P := P) (S := S) (w0 := w0) hV hT hT2 (henv b) o (fun _ => HM)
            rw [hex] at this
            exact this v1
          obtain ⟨F, hF⟩ := ih true (i + 1) (kk + 1) aL env M' a hl' has' (by omega) henv (fun e => by cases e) (fun _ => by omega) v2
          refine ⟨fun j => if j = kk + 1 then fun b w => Mem w0 S (denM (RB ρ M0.length aL b) 0 M') w else F j, fun Sx hj hk => ?_⟩
          have hSk : Sx (kk + 1) = fun b w => Mem w0 S (denM (RB ρ M0.length aL b) 0 M') w := by have := hj (kk + 1) (by omega); dsimp only at this; rw [if_pos rfl] at this; exact this
          unfold wpD
          rw [hA, hE]
          simp only [Bool.false_eq_true, if_false, if_true]
          refine ⟨⟨hgn, fun b w hs => ?_⟩, ?_⟩
          · have HM : Mem w0 S (denM (RB ρ M0.length aL b) 0 M) w := by
              cases ph
              · obtain ⟨rfl, hp⟩ := h0 rfl
                exact (ssm0 HM0 has.2 b w hs).perm (hp b)
              · cases kk with
                | zero => exact absurd rfl (h1 rfl)
                | succ k => exact hk rfl b w hs
            obtain ⟨w', hr, HM', -⟩ := hmem b w HM
            exact ⟨w', hr, by rw [hSk]; exact HM'⟩
          · rw [hput]
            exact hF Sx (fun j hj2 => by have := hj j (by omega); dsimp only at this; rw [if_neg (by omega)] at this; exact this) (fun _ b w hs => by rw [hSk] at hs; exact hs)
      | false =>
        rw [hS] at h
        simp only [cond_false] at h
        cases hA0 : isAl o with
        | true =>
          rw [hA0] at h
          simp only [cond_true] at h
          cases hg : (noG o && !ph) with
          | false => rw [hg] at h; exact h.elim
          | true =>
            rw [hg] at h
            simp only [cond_true, Bool.and_eq_true, Bool.not_eq_true'] at h hg
            obtain ⟨hgn, rfl⟩ := hg
            have hgn := noG_none hgn
            obtain ⟨rfl, hp⟩ := h0 rfl
            have hA : isAlloc o = true := by rw [isAl_alloc]; exact hA0
            cases hex : execS V T env M o.op <;> rw [hex] at h <;> try exact h.elim
            rename_i B
            dsimp only at h
            cases hsc : (envSc M.length env && memSc M.length M && memSc 0 [B]) with
            | false => rw [hsc] at h; exact h.elim
            | true =>
              rw [hsc] at h
              simp only [cond_true] at h
              simp only [Bool.and_eq_true] at hsc
              obtain ⟨⟨s1, s2⟩, s3⟩ := hsc
              obtain ⟨t, hop⟩ : ∃ t, o.op = .alloc t := by
                unfold isAl at hA0
                split at hA0
                · rename_i t e; exact ⟨t, e⟩
                · cases hA0
              have hex2 : allocS T t = .new B := by rw [hop] at hex; exact hex
              cases B with
              | en e => exact absurd (allocS_ok (P := P) (w0 := w0) (S := S) (w := W) (ρ := ρ) (M := M) hT t) (by rw [hex2]; exact fun h => h)
              | gone => exact absurd (allocS_ok (P := P) (w0 := w0) (S := S) (w := W) (ρ := ρ) (M := M) hT t) (by rw [hex2]; exact fun h => h)
              | cells sg ty =>
                simp only [memSc, Bool.and_true] at s3
                let O : Obj := .cells (segsDen (fun _ => 0) sg).toArray ty
                have hAR : AllocR P o O := by
                  refine ⟨hgn, fun ρv w => ?_⟩
                  have := allocS_ok (P := P) (w0 := w0) (S := S) (w := w) (ρ := fun _ => 0) (M := M) hT t
                  rw [hex2] at this
                  unfold execOp
                  rw [hop]
                  exact this
                let x : Nat × Option Tmp × Obj := (i, o.dst, O)
                have hold : ∀ b k, k < M.length → RB ρ M0.length (aL ++ [x]) b k = RB ρ M0.length aL b k := fun b k hk => RB_snoc (by omega)
                have hnew : ∀ b, RB ρ M0.length (aL ++ [x]) b M.length = b i := fun b => by rw [hlen]; exact RB_new
                have hdstOf : o.dst = dstOf all.toArray i := by simp [dstOf, ho]
                obtain ⟨F, hF⟩ := ih false (i + 1) 0 (aL ++ [x]) (Proofs.Ytpedkcpkdacnlaa.putS o.dst (.o (.c (.p M.length 0))) env) (M ++ [.cells sg ty]) a hl'
                  ⟨fun y hy => by
                    rcases List.mem_append.1 hy with hy | hy
                    · obtain ⟨j, h1, h2⟩ := has.1 y hy; exact ⟨j, by omega, h2⟩
                    · rw [List.mem_singleton] at hy; subst hy
                      exact ⟨i, by omega, by simp [allocAt, ho, hA], hdstOf⟩, by rw [List.all_append, has.2]; rfl⟩
                  (by simp only [List.length_append, List.length_cons, List.length_nil]; omega)
                  (fun b => by
                    have e1 := (henv b).over (hold b) s1
                    have e2 := e1.putS hd (.o (.c (.p M.length 0)))
                    have ev : (SV.o (.c (.p M.length 0))).den (RB ρ M0.length (aL ++ [x]) b) = ptrB (b i) := by
                      show Value.pointer (some ⟨RB ρ M0.length (aL ++ [x]) b M.length, 0, none⟩) = _
                      rw [hnew]; rfl
                    rw [ev] at e2
                    rw [putsC_snoc]
                    exact e2)
                  (fun _ => ⟨rfl, fun b => by
                    have := entsC_perm b aL x (denM ρ 0 M0) (hp b)
                    rw [denM_append, memSc_den (hold b) s2 (by omega), Nat.zero_add]
                    simp only [denM, hnew]
                    rw [segsSc_den (ρ := fun _ => 0) (n := 0) (fun k hk => absurd hk (Nat.not_lt_zero k)) s3]
                    exact this⟩)
                  (fun e => by cases e) h
                refine ⟨F, fun Sx hj hk => ?_⟩
                unfold wpD
                rw [hA]
                simp only [if_true]
                exact ⟨O, hAR, hF Sx hj (fun e => by cases e)⟩
        | false =>
          rw [hA0] at h
          simp only [cond_false] at h
          have hA : isAlloc o = false := by rw [isAl_alloc]; exact hA0
          have hE : eff o = false := by rw [isSt_eff]; exact hS
          have hlook := (allB_spec hall i o hoa).2 hE
          have hslot : ∀ b t, t ∈ o.looksAt all.toArray → a.tmps[t]? = (putsC b aL a).tmps[t]? := fun b t ht => by
            rw [putsC_slot]
            intro x hx
            obtain ⟨j, hj, hja, hjd⟩ := has.1 x hx
            rw [hjd]
            exact hlook t ht j (by omega) hja
          have hcong : ∀ b, execOp a.eval o = execOp (putsC b aL a).eval o := fun b =>
            execOp_congr o (hst.sel i o hoa) (fun x hx => eval_slot (fun t hxt => hslot b t (by
              subst hxt
              unfold Oper.looksAt
              exact List.mem_append_left _ (List.mem_filterMap.2 ⟨_, Array.mem_toList_iff.2 hx, rfl⟩))))
          have hwantE : ∀ b, Region.wanted o (yielded all.toArray a.tmps) = Region.wanted o (yielded all.toArray (putsC b aL a).tmps) := fun b => wanted_slot (hslot b)
          have hRB : ∀ b k, k < M0.length → RB ρ M0.length aL b k = ρ k := fun b k hk => RB_old hk
          have hM0den : ∀ b, denM (RB ρ M0.length aL b) 0 M0 = denM ρ 0 M0 := fun b => memSc_den (hRB b) hM0 (by omega)
          have hstep : ∀ (env' : Env) (x : SV), (∀ b, EnvOk (RB ρ M0.length aL b) nt env' (putsC b aL a)) → x.sc M0.length = true → KnownD P all.toArray W i o a (x.den ρ) → drun V T Γ nt next M0 all l ph (Proofs.Ytpedkcpkdacnlaa.putS o.dst x env') M →
              ∃ F : Nat → (Nat → Nat) → World → Prop, ∀ Sx : Nat → (Nat → Nat) → World → Prop, (∀ j, kk < j → Sx j = F j) → (ph = true → ∀ b w, Sx kk b w → Mem w0 S (denM (RB ρ M0.length aL b) 0 M) w) →
              wpD P all.toArray W Sx Q i kk aL (o :: l) a := by
            intro env' x he hx hk hr
            obtain ⟨F, hF⟩ := ih ph (i + 1) kk aL (Proofs.Ytpedkcpkdacnlaa.putS o.dst x env') M (a.put o.dst (x.den ρ)) hl' has' hlen (fun b => by
              rw [putsC_put b o.dst _ aL a hdst, ← SV.sc_den (hRB b) hx]
              exact (he b).putS hd x) h0 h1 hr
            refine ⟨F, fun Sx hj hm => ?_⟩
            unfold wpD
            rw [hA, hE]
            simp only [Bool.false_eq_true, if_false]
            exact ⟨_, hk, hF Sx hj hm⟩
          cases hgd : guardS all o.guard with
          | none => rw [hgd] at h; exact h.elim
          | some g =>
            rw [hgd] at h
            dsimp only at h
            have hgo : ∀ env' : Env, (∀ b, EnvOk (RB ρ M0.length aL b) nt env' (putsC b aL a)) → Region.wanted o (yielded all.toArray a.tmps) = true → (match execS V T env' M0 o.op with
                | .val vc x => bif x.sc M0.length then vcAnd vc (drun V T Γ nt next M0 all l ph (Proofs.Ytpedkcpkdacnlaa.putS o.dst x env') M) else False
                | .call f args => match lkG Γ f with
                  | some c => bif needs0 o && (c.val args).sc M0.length then c.pre args ∧ match c.two args with
                    | none => drun V T Γ nt next M0 all l ph (Proofs.Ytpedkcpkdacnlaa.putS o.dst (c.val args) env') M
                    | some _ => False else False
                  | none => False
                | _ => False) → ∃ F : Nat → (Nat → Nat) → World → Prop, ∀ Sx : Nat → (Nat → Nat) → World → Prop, (∀ j, kk < j → Sx j = F j) → (ph = true → ∀ b w, Sx kk b w → Mem w0 S (denM (RB ρ M0.length aL b) 0 M) w) →
                wpD P all.toArray W Sx Q i kk aL (o :: l) a := by
              intro env' he hw h
              have hrun : ∀ w, (isMem o.op = true → Below W.heap.size W w) → EffOk P w0 S (RB ρ M0.length aL (fun _ => 0)) M0 w (execOp a.eval o) (execS V T env' M0 o.op) := fun w hb => by
                rw [hcong (fun _ => 0)]
                exact execS_ok hV hT hT2 (he (fun _ => 0)) o (fun hm => by rw [hM0den]; exact HM0.call (hb hm))
              cases hex : execS V T env' M0 o.op with
              | val vc x =>
                rw [hex] at h
                dsimp only at h
                cases hx : x.sc M0.length with
                | false => rw [hx] at h; exact h.elim
                | true =>
                  rw [hx] at h
                  obtain ⟨v1, v2⟩ := vcAnd_iff.1 h
                  have hr : ∀ w, (isMem o.op = true → Below W.heap.size W w) → (execOp a.eval o).run P w = .ok (.value (x.den ρ)) w := fun w hb => by
                    have := hrun w hb
                    rw [hex] at this
                    rw [← SV.sc_den (hRB (fun _ => 0)) hx]
                    exact this v1
                  refine hstep env' x he hx ⟨.inl ⟨hw, fun w hb => .inl (hr w (fun _ => hb))⟩, ?_⟩ v2
                  cases hn : needs0 o with
                  | true => exact .inl (hn0 i o ho hn)
                  | false =>
                    refine .inr (fun _ w => hr w (fun hm => ?_))
                    rw [mem_needs o hn hS] at hm; cases hm
              | call f args =>
                rw [hex] at h
                dsimp only at h
                cases hl2 : lkG Γ f with
                | none => rw [hl2] at h; exact h.elim
                | some c =>
                  rw [hl2] at h
                  dsimp only at h
                  cases hx : (needs0 o && (c.val args).sc M0.length) with
                  | false => rw [hx] at h; exact h.elim
                  | true =>
                    rw [hx] at h
                    simp only [cond_true] at h
                    simp only [Bool.and_eq_true] at hx
                    obtain ⟨hen, hc⟩ := hΓ f c hl2
                    cases ht : c.two args with
                    | some bv => rw [ht] at h; exact h.2.elim
                    | none =>
                    rw [ht] at h
                    have hout : c.out args = c.val args := by unfold PCon.out; rw [ht]
                    refine hstep env' (c.val args) he hx.2 ⟨.inl ⟨hw, fun w hb => (.inr ⟨f, (args.map (SA.den (RB ρ M0.length aL (fun _ => 0)))).toArray, ?_, ?_⟩)⟩, .inl (hn0 i o ho hx.1)⟩ h.2
                    · have := hrun w (fun _ => hb)
                      rw [hex] at this
                      exact this hen
                    · have := hc (RB ρ M0.length aL (fun _ => 0)) args w h.1 (HM0.call hb).kept
                      rw [hout, SV.sc_den (hRB (fun _ => 0)) hx.2] at this
                      exact this
              | mem vc M' => rw [hex] at h; exact h.elim
              | new B => rw [hex] at h; exact h.elim
              | no => rw [hex] at h; exact h.elim
            have hskip : ∀ env' : Env, (∀ b, EnvOk (RB ρ M0.length aL b) nt env' (putsC b aL a)) → Region.wanted o (yielded all.toArray a.tmps) = false → drun V T Γ nt next M0 all l ph (Proofs.Ytpedkcpkdacnlaa.putS o.dst (sv undef) env') M →
                ∃ F : Nat → (Nat → Nat) → World → Prop, ∀ Sx : Nat → (Nat → Nat) → World → Prop, (∀ j, kk < j → Sx j = F j) → (ph = true → ∀ b w, Sx kk b w → Mem w0 S (denM (RB ρ M0.length aL b) 0 M) w) →
                wpD P all.toArray W Sx Q i kk aL (o :: l) a := by
              intro env' he hw h
              exact hstep env' (sv undef) he rfl ⟨.inr ⟨hw, rfl⟩, .inr (fun e => by rw [hw] at e; cases e)⟩ h
            obtain ⟨hw1, hw2, hw3⟩ := guard_wanted (henv (fun _ => 0)) hgd
            rw [← hwantE (fun _ => 0)] at hw1
            cases g with
            | none => exact hgo env henv (hw1 rfl) h
            | some tw =>
              obtain ⟨t, want⟩ := tw
              dsimp only at h
              split at h
              · rename_i b hlk
                have hwb := hw2 t want b rfl hlk
                rw [← hwantE (fun _ => 0)] at hwb
                have he' : ∀ b', EnvOk (RB ρ M0.length aL b') nt ((t, sv (.bool b)) :: env) (putsC b' aL a) := fun b' => (henv b').same hlk
                cases b <;> cases want <;> simp only [cond_true, cond_false] at h
                · exact hgo _ he' hwb h
                · exact hskip _ he' hwb h
                · exact hskip _ he' hwb h
                · exact hgo _ he' hwb h
              · rename_i u hlk
                have := hw3 t want u rfl hlk
                rw [← hwantE (fun _ => 0)] at this
                exact hskip env henv this h
              · exact h.elim
end
end Go.Proofs.Ytpedkcpkdacnlaa
end
section
namespace Go.Proofs.Ytpedkcpkdacnlaa
open Go.RowKit
set_option linter.unusedVariables false
def bindsL (e : Edge) : Bool := match e.ground with
  | .textOnly _ => false
  | .gcOnly _ => false
  | _ => true
def waitsL (i : Nat) : List Edge → Bool
  | [] => false
  | e :: l => bif bindsL e && e.on.beq i then true else waitsL i l
/-- How many stores may stand done before operation i. -/
def hiL (i : Nat) : List Oper → Nat
  | [] => 0
  | o :: l => bif isSt o then bif waitsL i o.after.toList then 0 else (hiL i l).succ else hiL i l
def lateE : List Edge → Bool
  | [] => false
  | e :: l => match e.ground with
    | .gcOnly _ => true
    | _ => lateE l
/-- Does a read of the region wait for a store only by one of the two orders? -/
def lateL : List Oper → Bool
  | [] => false
  | o :: l => bif needs0 o && lateE o.after.toList then true else lateL l
def lateB (ops : Array Oper) : Bool := stableB ops && (List.range ops.size).all fun i => Nat.ble (hiN ops i) (hiL i ops.toList)
/-- The region's operations may be walked in the order of the text, if each read is looked at again after each store that may come before it. -/
def lateDrawP (id : Nat) (ops : Array Oper) : Prop := lateB ops = true
theorem late_of {id : Nat} {ops : Array Oper} (h : lateB ops = true) : lateDrawP id ops := h
theorem lateB_spec {ops : Array Oper} (h : lateB ops = true) : stableB ops = true ∧ ∀ i, i < ops.size → hiN ops i ≤ hiL i ops.toList := by
  unfold lateB at h
  simp only [Bool.and_eq_true] at h
  exact ⟨h.1, fun i hi => Nat.le_of_ble_eq_true (List.all_eq_true.1 h.2 i (List.mem_range.2 hi))⟩
abbrev Late := List (Nat × Env × Oper × SV)
section
variable (V : World) (T : Tab) (nt : Nat) (next : Env → List SB → Prop) (all : List Oper)
/-- What was read is what would be read after store number k as well. -/
def lateOk (k : Nat) (M : List SB) : Late → Prop
  | [] => True
  | (n, env, o, x) :: r => bif k.ble n then (match execS V T env M o.op with
      | .val vc y => vcAnd vc (y = x ∧ lateOk k M r)
      | _ => False) else lateOk k M r
def lrun : List Oper → Nat → Nat → Late → Env → List SB → Prop
  | [], _, _, _, env, M => next env M
  | o :: l, i, k, late, env, M =>
    bif dstOk nt o.dst && noG o then
      bif isSt o then bif noD o then (match execS V T env M o.op with
        | .mem vc M' => vcAnd vc (lateOk V T k.succ M' late ∧ lrun l i.succ k.succ late env M')
        | _ => False) else False
      else bif isAl o then False
      else bif needs0 o then bif k.beq 0 then (match execS V T env M o.op with
        | .val vc x => vcAnd vc (lrun l i.succ k ((hiL i all, env, o, x) :: late) (putS o.dst x env) M)
        | _ => False) else False
      else match execS V T env M o.op with
        | .val vc x => vcAnd vc (lrun l i.succ k late (putS o.dst x env) M)
        | _ => False
    else False
end
section
variable {P : Program} {w0 : World} {S : Nat → Prop} {ρ : Nat → Nat} {T : Tab} {nt : Nat} {next : Env → List SB → Prop} {all : List Oper} {Q : Act → World → Prop}
theorem lateOk_ok {V : World} (hV : OldOk V w0 S) (hT : TabOk P T) (hT2 : TysOk P T) {k : Nat} {M : List SB} {w : World} (HM : Mem w0 S (denM ρ 0 M) w) : ∀ {late : Late}, lateOk V T k M late →
    ∀ e ∈ late, ∀ a : Act, EnvOk ρ nt e.2.1 a → k ≤ e.1 → (execOp a.eval e.2.2.1).run P w = .ok (.value (e.2.2.2.den ρ)) w
  | [], _, e, he, _, _, _ => by simp at he
  | (n, env, o, x) :: r, h, e, he, a, hE, hk => by
    unfold lateOk at h
    cases hn : k.ble n with
    | false =>
      rw [hn] at h
      simp only [cond_false] at h
      rcases List.mem_cons.1 he with rfl | he
      · have := Nat.ble_eq_true_of_le hk
        rw [hn] at this; cases this
      · exact lateOk_ok hV hT hT2 HM h e he a hE hk
    | true =>
      rw [hn] at h
      simp only [cond_true] at h
      cases hex : execS V T env M o.op <;> rw [hex] at h <;> try exact h.elim
      rename_i vc y
      dsimp only at h
      obtain ⟨v1, rfl, hr⟩ := vcAnd_iff.1 h
      rcases List.mem_cons.1 he with rfl | he
      · have := execS_ok (P := P) (S := S) (w0 := w0) hV hT hT2 hE o (fun _ => HM)
        dsimp only at this
        rw [hex] at this
        exact this v1
      · exact lateOk_ok hV hT hT2 HM hr e he a hE hk
theorem lrun_wpB {V : World} (hV : OldOk V w0 S) (hT : TabOk P T) (hT2 : TysOk P T) (hhi : ∀ i, i < all.toArray.size → hiN all.toArray i ≤ hiL i all)
    (hnext : ∀ env M a w, next env M → EnvOk ρ nt env a → Mem w0 S (denM ρ 0 M) w → Q a w) :
    ∀ (l : List Oper) (i k : Nat) (late : Late) (env : Env) (M : List SB) (a : Act), (∀ j, l[j]? = all[i + j]?) → EnvOk ρ nt env a → lrun V T nt next all l i k late env M →
    ∃ F : Nat → World → Prop, ∀ Sx : Nat → World → Prop, (∀ j, k < j → Sx j = F j) → (∀ w, Sx k w → Mem w0 S (denM ρ 0 M) w) →
      wpB P all.toArray Sx Q i k l a ∧ ∀ e ∈ late, ∀ a0 : Act, EnvOk ρ nt e.2.1 a0 → ∀ j w, k < j → j ≤ e.1 → Sx j w → (execOp a0.eval e.2.2.1).run P w = .ok (.value (e.2.2.2.den ρ)) w := by
  intro l
  induction l with
  | nil =>
    intro i k late env M a hl hE h
    refine ⟨fun _ _ => False, fun Sx hj hk => ⟨fun w hs => hnext env M a w h hE (hk w hs), fun e he a0 hE0 j w h1 h2 hs => ?_⟩⟩
    rw [hj j h1] at hs
    exact hs.elim
  | cons o l ih =>
    intro i k late env M a hl hE h
    have ho : all[i]? = some o := by simpa using (hl 0).symm
    have hoa : all.toArray[i]? = some o := by simpa using ho
    have hilt : i < all.toArray.size := (Array.getElem?_eq_some_iff.1 hoa).1
    have hl' : ∀ j, l[j]? = all[i + 1 + j]? := fun j => by
      have := hl (j + 1)
      rwa [List.getElem?_cons_succ, show i + (j + 1) = i + 1 + j by omega] at this
    unfold lrun at h
    cases hdg : (dstOk nt o.dst && noG o) with
    | false => rw [hdg] at h; exact h.elim
    | true =>
      rw [hdg] at h
      simp only [cond_true] at h
      simp only [Bool.and_eq_true] at hdg
      obtain ⟨hd, hg⟩ := hdg
      have hgn := noG_none hg
      have hw : Region.wanted o (yielded all.toArray a.tmps) = true := by unfold Region.wanted; rw [hgn]
      cases hS : isSt o with
      | true =>
        rw [hS] at h
        simp only [cond_true] at h
        cases hnd : noD o with
        | false => rw [hnd] at h; exact h.elim
        | true =>
          rw [hnd] at h
          simp only [cond_true] at h
          have hdn := noD_none hnd
          have hEf : eff o = true := by rw [isSt_eff]; exact hS
          cases hex : execS V T env M o.op <;> rw [hex] at h <;> try exact h.elim
          rename_i vc M'
          dsimp only at h
          obtain ⟨v1, hlt, v2⟩ := vcAnd_iff.1 h
          have hput : a.put o.dst undef = a := by rw [hdn]; rfl
          have hmem : ∀ w, Mem w0 S (denM ρ 0 M) w → ∃ w', (execOp a.eval o).run P w = .ok .skip w' ∧ Mem w0 S (denM ρ 0 M') w' := by
            intro w HM
            have := execS_ok (P := P) (S := S) (w0 := w0) hV hT hT2 hE o (fun _ => HM)
            rw [hex] at this
            obtain ⟨w', h1, h2, -⟩ := this v1
            exact ⟨w', h1, h2⟩
          obtain ⟨F, hF⟩ := ih (i + 1) (k + 1) late env M' a hl' hE v2
          refine ⟨fun j => if j = k + 1 then fun w => Mem w0 S (denM ρ 0 M') w else F j, fun Sx hj hk => ?_⟩
          have hSk : Sx (k + 1) = fun w => Mem w0 S (denM ρ 0 M') w := by have := hj (k + 1) (by omega); dsimp only at this; rw [if_pos rfl] at this; exact this
          obtain ⟨f1, f2⟩ := hF Sx (fun j hj2 => by have := hj j (by omega); dsimp only at this; rw [if_neg (by omega)] at this; exact this) (fun w hs => by rw [hSk] at hs; exact hs)
          refine ⟨⟨undef, .inl ⟨hw, fun _ w hs => ?_, fun e => by rw [hEf] at e; cases e⟩, by rw [hEf, hput]; exact f1⟩, fun e he a0 hE0 j w h1 h2 hs => ?_⟩
          · obtain ⟨w', h1, h2⟩ := hmem w (hk w hs)
            exact .inr (.inl ⟨w', h1, rfl, by rw [hSk]; exact h2⟩)
          · rcases Nat.lt_or_ge (k + 1) j with hlt2 | hge
            · exact f2 e he a0 hE0 j w hlt2 h2 hs
            · obtain rfl : j = k + 1 := by omega
              rw [hSk] at hs
              exact lateOk_ok hV hT hT2 hs hlt e he a0 hE0 h2
      | false =>
        rw [hS] at h
        simp only [cond_false] at h
        have hEf : eff o = false := by rw [isSt_eff]; exact hS
        cases hA : isAl o with
        | true => rw [hA] at h; exact h.elim
        | false =>
          rw [hA] at h
          simp only [cond_false] at h
          cases hn : needs0 o with
          | true =>
            rw [hn] at h
            simp only [cond_true] at h
            cases hk0 : k.beq 0 with
            | false => rw [hk0] at h; exact h.elim
            | true =>
              rw [hk0] at h
              obtain rfl := Nat.eq_of_beq_eq_true hk0
              simp only [cond_true] at h
              cases hex : execS V T env M o.op <;> rw [hex] at h <;> try exact h.elim
              rename_i vc x
              dsimp only at h
              obtain ⟨v1, v2⟩ := vcAnd_iff.1 h
              obtain ⟨F, hF⟩ := ih (i + 1) 0 ((hiL i all, env, o, x) :: late) (Proofs.Ytpedkcpkdacnlaa.putS o.dst x env) M (a.put o.dst (x.den ρ)) hl' (hE.putS hd x) v2
              refine ⟨F, fun Sx hj hk => ?_⟩
              obtain ⟨f1, f2⟩ := hF Sx hj hk
              refine ⟨⟨x.den ρ, .inl ⟨hw, fun e => (by rw [hEf] at e; cases e), fun _ j hjh w hs => .inl ⟨w, ?_, hs⟩⟩, by rw [hEf]; exact f1⟩, fun e he => f2 e (List.mem_cons_of_mem _ he)⟩
              cases j with
              | zero =>
                have := execS_ok (P := P) (S := S) (w0 := w0) hV hT hT2 hE o (fun _ => hk w hs)
                rw [hex] at this
                exact this v1
              | succ j => exact f2 _ List.mem_cons_self a hE (j + 1) w (by omega) (Nat.le_trans hjh (hhi i hilt)) hs
          | false =>
            rw [hn] at h
            simp only [cond_false] at h
            cases hex : execS V T env M o.op <;> rw [hex] at h <;> try exact h.elim
            rename_i vc x
            dsimp only at h
            obtain ⟨v1, v2⟩ := vcAnd_iff.1 h
            obtain ⟨F, hF⟩ := ih (i + 1) k late (Proofs.Ytpedkcpkdacnlaa.putS o.dst x env) M (a.put o.dst (x.den ρ)) hl' (hE.putS hd x) v2
            refine ⟨F, fun Sx hj hk => ?_⟩
            obtain ⟨f1, f2⟩ := hF Sx hj hk
            refine ⟨⟨x.den ρ, .inl ⟨hw, fun e => (by rw [hEf] at e; cases e), fun _ j hjh w hs => .inl ⟨w, ?_, hs⟩⟩, by rw [hEf]; exact f1⟩, f2⟩
            have := execS_ok (P := P) (S := S) (w0 := w0) (M := M) (w := w) hV hT hT2 hE o (fun hm => by rw [mem_needs o hn hS] at hm; cases hm)
            rw [hex] at this
            exact this v1
end
end Go.Proofs.Ytpedkcpkdacnlaa
end
section
namespace Go.Proofs.Ytpedkcpkdacnlaa
open Go.RowKit
set_option linter.unusedVariables false
/-- Loops that the run stands in: the body, what stands behind it, and what is to be shown at the end of a round. -/
abbrev OS := List (Code × List Item × (Env → List SB → Prop))
def flat : OS → List Item
  | [] => []
  | (b, k, _) :: r => .inLoop b :: (k ++ flat r)
abbrev Stop := List Oper → List Oper → List Item → OS → Env → List SB → Prop
/-- What holds at the head of a loop's round, round by round. -/
structure Ann where
  σ : Type
  I : σ → Env × List SB
  dec : σ → Nat
def lkA : List (Nat × Ann) → Nat → Option Ann
  | [], _ => none
  | (t, i) :: r, u => bif t.beq u then some i else lkA r u
def annAt (An : List (Nat × Ann)) : List Item → Option Ann
  | .inBlock id :: _ => lkA An id
  | _ => none
def matchE (env : Env) : Env → Prop
  | [] => True
  | (t, x) :: r => lk env t = some x ∧ matchE env r
def takeM : Nat → List SB → List SB
  | 0, _ => []
  | _, [] => []
  | n + 1, b :: r => b :: takeM n r
def matchS (G : Env × List SB) (env : Env) (M : List SB) : Prop := matchE env G.1 ∧ takeM G.2.length M = G.2
def exitO (id : Nat) : List Item → OS → Option (List Item × OS)
  | k, os => match exitS id k with
    | some k' => some (k', os)
    | none => match os with
      | [] => none
      | (_, k', _) :: r => exitO id k' r
section
variable (V : World) (T : Tab) (Γ : Gam) (nt : Nat) (An : List (Nat × Ann)) (fin : Env → List SB → Prop) (stop : Stop)
/-- What is to be shown so that the code comes to its end. -/
def run : Nat → Option (List Oper × List Oper) → OS → List Item → Env → List SB → Prop
  | 0, _, _, _, _, _ => False
  | _ + 1, none, os, [], env, M => match os with
    | [] => fin env M
    | (_, _, hook) :: _ => hook env M
  | n + 1, none, os, .inBlock _ :: k, env, M => run n none os k env M
  | n + 1, none, os, .inLoop b :: k, env, M => run n none os (.code b :: .inLoop b :: k) env M
  | n + 1, none, os, .code c :: k, env, M => match c with
    | .skip => run n none os k env M
    | .label _ => run n none os k env M
    | .seq x y => run n none os (.code x :: .code y :: k) env M
    | .block id b => run n none os (.code b :: .inBlock id :: k) env M
    | .loop b => match annAt An k with
      | none => run n none os (.code b :: .inLoop b :: k) env M
      | some A => ∃ s0 : A.σ, matchS (A.I s0) env M ∧ ∀ s : A.σ, run n none ((b, k, fun env M => ∃ s' : A.σ, matchS (A.I s') env M ∧ A.dec s' < A.dec s) :: os) [.code b] (A.I s).1 (A.I s).2
    | .exit id => match exitO id k os with
      | some (k', os') => run n none os' k' env M
      | none => False
    | .ret => fin env M
    | .cond c x y => match evalS env c with
      | some (.o (.c (.v (.bool b)))) => bif b then run n none os (.code x :: k) env M else run n none os (.code y :: k) env M
      | _ => False
    | .region _ ops false => run n (some (ops.toList, ops.toList)) os k env M
    | .region id ops true => bif lateL ops.toList then lateDrawP id ops ∧ lrun V T nt (fun env M => run n none os k env M) ops.toList ops.toList 0 0 [] env M
      else drawP id ops ∧ bif memSc M.length M && envSc M.length env then drun V T Γ nt (fun env M => run n none os k env M) M ops.toList ops.toList false env M else False
    | _ => False
  | _ + 1, none, _, _ :: _, _, _ => False
  | n + 1, some (_, []), os, k, env, M => run n none os k env M
  | n + 1, some (all, o :: l), os, k, env, M =>
    bif dstOk nt o.dst then match guardS all o.guard with
      | some g =>
        let go : Env → Prop := fun env => match execS V T env M o.op with
          | .val vc x => vcAnd vc (run n (some (all, l)) os k (putS o.dst x env) M)
          | .mem vc M' => vcAnd vc (run n (some (all, l)) os k (putS o.dst (sv undef) env) M')
          | .new B => bif envSc M.length env && memSc M.length M && memSc M.length [B] then run n (some (all, l)) os k (putS o.dst (.o (.c (.p M.length 0))) env) (M ++ [B]) else False
          | .call f args => match lkG Γ f with
            | some c => c.pre args ∧ match c.two args with
              | none => run n (some (all, l)) os k (putS o.dst (c.val args) env) M
              | some (b, v) => bif b then run n (some (all, l)) os k (putS o.dst (c.val args) env) M else run n (some (all, l)) os k (putS o.dst v env) M
            | none => stop all (o :: l) k os env M
          | .no => stop all (o :: l) k os env M
        match g with
        | none => go env
        | some (t, want) => match lk env t with
          | some (.o (.c (.v (.bool b)))) =>
            bif b then (bif want then go ((t, sv (.bool true)) :: env) else run n (some (all, l)) os k (putS o.dst (sv undef) ((t, sv (.bool true)) :: env)) M)
            else (bif want then run n (some (all, l)) os k (putS o.dst (sv undef) ((t, sv (.bool false)) :: env)) M else go ((t, sv (.bool false)) :: env))
          | some (.o (.c (.v (.tuple _)))) => run n (some (all, l)) os k (putS o.dst (sv undef) env) M
          | _ => False
      | none => False
    else False
end
/-- From here the function comes to its end. -/
def Goes (P : Program) (f : FuncId) (fn : Func) (k : List Item) (a : Act) (w : World) (R : Ending → World → Prop) : Prop :=
  ∀ (b : Frame) (cs : List Frame), b.fn = f → b.kind = .normal → ∃ e w' fr, R e w' ∧ Comes P (lone (b.at a k) cs w) (lone fr cs w') e ∧ fr.fn = f ∧ fr.leaving P w' e
def After (P : Program) (f : FuncId) (fn : Func) (k : List Item) (R : Ending → World → Prop) : Exit → Act → World → Prop
  | .normal, a, w => Goes P f fn k a w R
  | .exit id, a, w => ∃ k', exitTo id k = some k' ∧ Goes P f fn k' a w R
  | .ret, a, w => a.defers = [] ∧ ∃ v, (results fn a.tmps).run P w = .ok v w ∧ R (.returned v) w
  | .panic chain, a, w => a.defers = [] ∧ R (.panicked chain) w
  | .outgrown, _, w => R .outgrown w
  | .goto _, _, _ => False
section
variable {P : Program} {f : FuncId} {fn : Func} {R : Ending → World → Prop}
theorem goes_code (hf : P.funcs[f]? = some fn) {c : Code} {k : List Item} {a : Act} {w : World} (h : c.wp P (After P f fn k R) a w) : Goes P f fn (.code c :: k) a w R := by
  intro b cs hb hk
  obtain ⟨e, a', w', hq, harr⟩ := h b k cs
  cases e with
  | normal =>
    obtain ⟨e, w2, fr, h1, h2, h3, h4⟩ := hq b cs hb hk
    exact ⟨e, w2, fr, h1, Comes.of_steps harr h2, h3, h4⟩
  | exit id =>
    obtain ⟨k', hx, hg⟩ := hq
    obtain ⟨e, w2, fr, h1, h2, h3, h4⟩ := hg b cs hb hk
    exact ⟨e, w2, fr, h1, Comes.of_steps (harr k' hx) h2, h3, h4⟩
  | goto l => exact hq.elim
  | ret =>
    obtain ⟨hd, v, hr, hR⟩ := hq
    obtain ⟨todo, hs⟩ := harr
    exact ⟨.returned v, w', _, hR, hs, hb, rfl, hd, hk, fn, by rw [← hb] at hf; exact hf, hr⟩
  | panic chain =>
    obtain ⟨hd, hR⟩ := hq
    obtain ⟨todo, hs⟩ := harr
    exact ⟨.panicked chain, w', _, hR, hs, hb, rfl, hd, fn, by rw [← hb] at hf; exact hf⟩
  | outgrown => exact ⟨.outgrown, w', b, hq, harr.resolve_left (by rw [hk]; simp), hb, trivial⟩
theorem goes_end (hf : P.funcs[f]? = some fn) {a : Act} {w : World} (hd : a.defers = []) {v : Value} (hr : (results fn a.tmps).run P w = .ok v w) (hR : R (.returned v) w) : Goes P f fn [] a w R := by
  intro b cs hb hk
  exact ⟨.returned v, w, _, hR, .one step_end, hb, rfl, hd, hk, fn, by rw [← hb] at hf; exact hf, hr⟩
theorem goes_step {k k' : List Item} {a : Act} {w : World} (hs : ∀ (b : Frame) cs, step P (lone (b.at a k) cs w) = .next (lone (b.at a k') cs w)) (h : Goes P f fn k' a w R) : Goes P f fn k a w R := by
  intro b cs hb hk
  obtain ⟨e, w2, fr, h1, h2, h3, h4⟩ := h b cs hb hk
  exact ⟨e, w2, fr, h1, Comes.of_steps (.one (hs b cs)) h2, h3, h4⟩
def HooksOk (P : Program) (f : FuncId) (fn : Func) (w0 : World) (S : Nat → Prop) (nt : Nat) (R : Ending → World → Prop) : OS → Prop
  | [] => True
  | (b, k, hook) :: r => (∀ env M ρ a w, hook env M → EnvOk ρ nt env a → Mem w0 S (denM ρ 0 M) w → Goes P f fn (.inLoop b :: (k ++ flat r)) a w R) ∧ HooksOk P f fn w0 S nt R r
theorem exitS_append (id : Nat) (K : List Item) : ∀ (k : List Item), (∀ k', exitS id k = some k' → exitTo id (k ++ K) = some (k' ++ K)) ∧ (exitS id k = none → exitTo id (k ++ K) = exitTo id K)
  | [] => ⟨fun k' h => by simp [exitS] at h, fun _ => rfl⟩
  | x :: r => by
    have ih := exitS_append id K r
    cases x
    case inBlock i =>
      simp only [exitS, List.cons_append, exitTo]
      by_cases h : i = id
      · subst h; simp
      · have hb : i.beq id = false := by
          cases hb : i.beq id
          · rfl
          · exact absurd (Nat.eq_of_beq_eq_true hb) h
        have : (i == id) = false := by simp [h]
        simp only [hb, this, cond_false, Bool.false_eq_true, if_false]
        exact ih
    all_goals (simp only [exitS, List.cons_append, exitTo]; exact ih)
theorem exitO_spec {P : Program} {f : FuncId} {fn : Func} {w0 : World} {S : Nat → Prop} {nt : Nat} {R : Ending → World → Prop} (id : Nat) : ∀ (os : OS) (k k2 : List Item) (os2 : OS), exitO id k os = some (k2, os2) → HooksOk P f fn w0 S nt R os →
    exitTo id (k ++ flat os) = some (k2 ++ flat os2) ∧ HooksOk P f fn w0 S nt R os2
  | [], k, k2, os2, h, hh => by
    unfold exitO at h
    cases hx : exitS id k with
    | none => rw [hx] at h; cases h
    | some k' =>
      rw [hx] at h
      simp only [Option.some.injEq, Prod.mk.injEq] at h
      obtain ⟨rfl, rfl⟩ := h
      exact ⟨(exitS_append id _ k).1 _ hx, hh⟩
  | (b, k', hook) :: r, k, k2, os2, h, hh => by
    unfold exitO at h
    cases hx : exitS id k with
    | none =>
      rw [hx] at h
      obtain ⟨g1, g2⟩ := exitO_spec id r k' k2 os2 h hh.2
      exact ⟨by rw [(exitS_append id _ k).2 hx]; simp only [flat, exitTo]; exact g1, g2⟩
    | some k3 =>
      rw [hx] at h
      simp only [Option.some.injEq, Prod.mk.injEq] at h
      obtain ⟨rfl, rfl⟩ := h
      exact ⟨(exitS_append id _ k).1 _ hx, hh⟩
theorem matchE_ok {ρ : Nat → Nat} {nt : Nat} {env : Env} {a : Act} (hE : EnvOk ρ nt env a) : ∀ (E : Env), matchE env E → EnvOk ρ nt E a := fun E h => ⟨hE.defers, hE.size, fun t x hx => by
  refine hE.get t x ?_
  induction E with
  | nil => simp [lk] at hx
  | cons p r ih =>
    obtain ⟨u, y⟩ := p
    unfold lk at hx
    cases hb : u.beq t
    · rw [hb] at hx; exact ih h.2 hx
    · rw [hb] at hx
      have := Nat.eq_of_beq_eq_true hb
      subst this
      simp only [cond_true, Option.some.injEq] at hx; subst hx
      exact h.1⟩
theorem takeM_sub (ρ : Nat → Nat) : ∀ (n : Nat) (M : List SB) (i : Nat), (denM ρ i (takeM n M)).Sublist (denM ρ i M)
  | 0, M, i => by simp [takeM, denM]
  | n + 1, [], i => by simp [takeM, denM]
  | n + 1, b :: r, i => by
    have := takeM_sub ρ n r (i + 1)
    cases b <;> simp only [takeM, denM]
    · exact this.cons_cons _
    · exact this.cons_cons _
    · exact this
theorem matchM_ok {w0 w : World} {S : Nat → Prop} {ρ : Nat → Nat} {M N : List SB} (HM : Mem w0 S (denM ρ 0 M) w) (h : takeM N.length M = N) : Mem w0 S (denM ρ 0 N) w := by
  rw [← h]; exact HM.sub (takeM_sub ρ _ M 0)
section
variable {w0 : World} {S : Nat → Prop} {T : Tab} {Γ : Gam} {nt : Nat} {An : List (Nat × Ann)} {fin : Env → List SB → Prop} {stop : Stop}
theorem run_sound {V : World} (hf : P.funcs[f]? = some fn) (hV : OldOk V w0 S) (hT : TabOk P T) (hT2 : TysOk P T) (hΓ : GamOk P w0 S Γ)
    (hfin : ∀ env M ρ a w, fin env M → EnvOk ρ nt env a → Mem w0 S (denM ρ 0 M) w → ∃ v, (results fn a.tmps).run P w = .ok v w ∧ R (.returned v) w)
    (hstop : ∀ all l k os env M ρ a w, stop all l k os env M → HooksOk P f fn w0 S nt R os → EnvOk ρ nt env a → Mem w0 S (denM ρ 0 M) w → wpList P all.toArray (After P f fn (k ++ flat os) R) l a w) :
    ∀ n, (∀ os k env M ρ a w, run V T Γ nt An fin stop n none os k env M → HooksOk P f fn w0 S nt R os → EnvOk ρ nt env a → Mem w0 S (denM ρ 0 M) w → Goes P f fn (k ++ flat os) a w R) ∧
      (∀ all l os k env M ρ a w, run V T Γ nt An fin stop n (some (all, l)) os k env M → HooksOk P f fn w0 S nt R os → EnvOk ρ nt env a → Mem w0 S (denM ρ 0 M) w → wpList P all.toArray (After P f fn (k ++ flat os) R) l a w) := by
  intro n
  induction n with
  | zero => exact ⟨fun os k env M ρ a w h => h.elim, fun all l os k env M ρ a w h => h.elim⟩
  | succ n ih =>
    obtain ⟨ih1, ih2⟩ := ih
    constructor
    · intro os k env M ρ a w h hh hE HM
      cases k with
      | nil =>
        cases os with
        | nil =>
          obtain ⟨v, hr, hR⟩ := hfin env M ρ a w h hE HM
          exact goes_end hf hE.defers hr hR
        | cons p r =>
          obtain ⟨b, k', hook⟩ := p
          exact hh.1 env M ρ a w h hE HM
      | cons x k =>
        cases x with
        | inBlock id => exact goes_step (fun b cs => step_inBlock) (ih1 os k env M ρ a w h hh hE HM)
        | inLoop c => exact goes_step (fun b cs => step_inLoop) (ih1 os _ env M ρ a w h hh hE HM)
        | code c =>
          cases c with
          | skip => exact goes_step (fun b cs => step_skip) (ih1 os k env M ρ a w h hh hE HM)
          | label l => exact goes_step (fun b cs => step_label) (ih1 os k env M ρ a w h hh hE HM)
          | seq x y => exact goes_step (fun b cs => step_seq) (ih1 os _ env M ρ a w h hh hE HM)
          | block id b => exact goes_step (fun b cs => step_block) (ih1 os _ env M ρ a w h hh hE HM)
          | loop b =>
            simp only [run] at h
            cases hA : annAt An k with
            | none => rw [hA] at h; exact goes_step (fun b cs => step_loop) (ih1 os _ env M ρ a w h hh hE HM)
            | some A =>
              rw [hA] at h
              obtain ⟨s0, ⟨m1, m2⟩, hr⟩ := h
              have key : ∀ m, ∀ s : A.σ, A.dec s = m → ∀ ρ a w, EnvOk ρ nt (A.I s).1 a → Mem w0 S (denM ρ 0 (A.I s).2) w → Goes P f fn (.code b :: .inLoop b :: (k ++ flat os)) a w R := by
                intro m
                induction m using Nat.strongRecOn with
                | ind m ihm =>
                  intro s hs ρ a w hE HM
                  refine ih1 ((b, k, fun env M => ∃ s' : A.σ, matchS (A.I s') env M ∧ A.dec s' < A.dec s) :: os) [.code b] _ _ ρ a w (hr s) ⟨?_, hh⟩ hE HM
                  rintro env M ρ a w ⟨s', ⟨g1, g2⟩, hlt⟩ hE HM
                  exact goes_step (fun b cs => step_inLoop) (ihm (A.dec s') (by omega) s' rfl ρ a w (matchE_ok hE _ g1) (matchM_ok HM g2))
              exact goes_step (fun b cs => step_loop) (key _ s0 rfl ρ a w (matchE_ok hE _ m1) (matchM_ok HM m2))
          | exit id =>
            simp only [run] at h
            cases hx : exitO id k os with
            | none => rw [hx] at h; exact h.elim
            | some p =>
              obtain ⟨k', os'⟩ := p
              rw [hx] at h
              obtain ⟨g1, g2⟩ := exitO_spec id os k k' os' hx hh
              refine goes_code hf (wp_exit ?_)
              exact ⟨_, g1, ih1 os' k' env M ρ a w h g2 hE HM⟩
          | ret =>
            obtain ⟨v, hr, hR⟩ := hfin env M ρ a w h hE HM
            exact goes_code hf (wp_ret ⟨hE.defers, v, hr, hR⟩)
          | cond c x y =>
            simp only [run] at h
            split at h
            · rename_i b hc
              have e : a.eval c = .bool b := hE.eval hc
              cases b
              · exact goes_step (fun b cs => step_cond e) (ih1 os _ env M ρ a w h hh hE HM)
              · exact goes_step (fun b cs => step_cond e) (ih1 os _ env M ρ a w h hh hE HM)
            · exact h.elim
          | region id ops draw =>
            cases draw
            · refine goes_code hf (wp_region_list ?_)
              have := ih2 _ _ os k env M ρ a w h hh hE HM
              simpa using this
            · simp only [run] at h
              cases hlt : lateL ops.toList
              · rw [hlt] at h
                simp only [cond_false] at h
                obtain ⟨hd, h⟩ := h
                cases hsc : (memSc M.length M && envSc M.length env)
                · rw [hsc] at h; exact h.elim
                · rw [hsc] at h
                  simp only [cond_true] at h
                  simp only [Bool.and_eq_true] at hsc
                  obtain ⟨g1, g2, g3⟩ := drawB_spec hd
                  obtain ⟨l, rfl⟩ : ∃ l : List Oper, ops = l.toArray := ⟨ops.toList, by simp⟩
                  simp only at h
                  have hRB0 : ∀ b i, i < M.length → RB ρ M.length [] b i = ρ i := fun b i hi => RB_old hi
                  obtain ⟨F, hF⟩ := drun_wpD (P := P) (W := w.drew) (w0 := w0) (S := S) (ρ := ρ) (M0 := M) (T := T) (Γ := Γ) (nt := nt) (next := fun env M => run V T Γ nt An fin stop n none os k env M) (all := l) (Q := fun a w => Goes P f fn (k ++ flat os) a w R)
                    hV hT hT2 hΓ (stable_of g1) g2 (fun i o ho => g3 i o (by simpa using ho)) HM.drew hsc.1 (fun env M ρ' a w h hE HM => ih1 os k env M ρ' a w h hh hE HM)
                    l false 0 0 [] env M a (fun j => by simp) ⟨fun x hx => by simp at hx, rfl⟩ (by simp) (fun b => hE.over (hRB0 b) hsc.2) (fun _ => ⟨rfl, fun b => by
                      rw [memSc_den (hRB0 b) hsc.1 (by omega)]; exact List.Perm.refl _⟩) (fun e => by cases e) h
                  exact goes_code hf (wp_region_all F hT2.1 g1 g2 (hF F (fun _ _ => rfl) (fun e => by cases e)))
              · rw [hlt] at h
                simp only [cond_true] at h
                obtain ⟨hd, h⟩ := h
                obtain ⟨g1, g2⟩ := lateB_spec hd
                obtain ⟨l, rfl⟩ : ∃ l : List Oper, ops = l.toArray := ⟨ops.toList, by simp⟩
                simp only at h g2
                obtain ⟨F, hF⟩ := lrun_wpB (P := P) (w0 := w0) (S := S) (ρ := ρ) (T := T) (nt := nt) (next := fun env M => run V T Γ nt An fin stop n none os k env M) (all := l) (Q := fun a w => Goes P f fn (k ++ flat os) a w R)
                  hV hT hT2 g2 (fun env M a w h hE HM => ih1 os k env M ρ a w h hh hE HM) l 0 0 [] env M a (fun j => by simp) hE h
                have hF' := hF (fun j => if j = 0 then fun w => Mem w0 S (denM ρ 0 M) w else F j) (fun j hj => by rw [if_neg (by omega)]) (fun w hs => hs)
                exact goes_code hf (wp_region_stable _ hT2.1 g1 HM.drew hF'.1)
          | rangeFunc _ _ _ _ => exact h.elim
          | scope _ => exact h.elim
          | goto _ => exact h.elim
          | refuse _ => exact h.elim
        | inScope _ => exact h.elim
        | inRegion _ _ => exact h.elim
        | inRangeFunc _ => exact h.elim
        | endRangeFunc _ => exact h.elim
        | beginRound => exact h.elim
        | call _ _ _ _ => exact h.elim
        | extern _ _ => exact h.elim
    · intro all l os k env M ρ a w h hh hE HM
      cases l with
      | nil => exact wpList_nil (ih1 os k env M ρ a w h hh hE HM)
      | cons o l =>
        simp only [run] at h
        cases hd : dstOk nt o.dst with
        | false => rw [hd] at h; exact h.elim
        | true =>
          rw [hd] at h
          simp only [cond_true] at h
          cases hg : guardS all o.guard with
          | none => rw [hg] at h; exact h.elim
          | some g =>
            rw [hg] at h
            dsimp only at h
            obtain ⟨hw1, hw2, hw3⟩ := guard_wanted hE hg
            have hgo : ∀ env, EnvOk ρ nt env a → Region.wanted o (yielded all.toArray a.tmps) = true → (match execS V T env M o.op with
                | .val vc x => vcAnd vc (run V T Γ nt An fin stop n (some (all, l)) os k (Proofs.Ytpedkcpkdacnlaa.putS o.dst x env) M)
                | .mem vc M' => vcAnd vc (run V T Γ nt An fin stop n (some (all, l)) os k (Proofs.Ytpedkcpkdacnlaa.putS o.dst (sv undef) env) M')
                | .new B => bif envSc M.length env && memSc M.length M && memSc M.length [B] then run V T Γ nt An fin stop n (some (all, l)) os k (Proofs.Ytpedkcpkdacnlaa.putS o.dst (.o (.c (.p M.length 0))) env) (M ++ [B]) else False
                | .call f args => match lkG Γ f with
                  | some c => c.pre args ∧ match c.two args with
                    | none => run V T Γ nt An fin stop n (some (all, l)) os k (Proofs.Ytpedkcpkdacnlaa.putS o.dst (c.val args) env) M
                    | some (b, v) => bif b then run V T Γ nt An fin stop n (some (all, l)) os k (Proofs.Ytpedkcpkdacnlaa.putS o.dst (c.val args) env) M else run V T Γ nt An fin stop n (some (all, l)) os k (Proofs.Ytpedkcpkdacnlaa.putS o.dst v env) M
                  | none => stop all (o :: l) k os env M
                | .no => stop all (o :: l) k os env M) → wpList P all.toArray (After P f fn (k ++ flat os) R) (o :: l) a w := by
              intro env hE hwant h
              have hx := execS_ok (S := S) (w0 := w0) hV hT hT2 hE o (fun _ => HM)
              cases hex : execS V T env M o.op with
              | val vc x =>
                rw [hex] at h hx
                dsimp only [EffOk] at h hx
                refine wpList_step fun K hK => ?_
                rw [if_pos hwant]
                unfold Oper.wp
                obtain ⟨h1, h2⟩ := vcAnd_iff.1 h
                rw [hx h1]
                exact hK _ _ (ih2 all l os k _ M ρ _ w h2 hh (hE.putS hd x) HM)
              | mem vc M' =>
                rw [hex] at h hx
                dsimp only [EffOk] at h hx
                obtain ⟨h1, h2⟩ := vcAnd_iff.1 h
                obtain ⟨w', hr, HM', hlen⟩ := hx h1
                refine wpList_step fun K hK => ?_
                rw [if_pos hwant]
                unfold Oper.wp
                rw [hr]
                exact hK _ _ (ih2 all l os k _ M' ρ _ w' h2 hh (hE.putS hd (sv undef)) HM')
              | new B =>
                rw [hex] at h hx
                dsimp only at h
                cases B with
                | en e => exact hx.elim
                | gone => exact hx.elim
                | cells s t =>
                  dsimp only [EffOk] at hx
                  cases hsc : (envSc M.length env && memSc M.length M && memSc M.length [SB.cells s t])
                  · rw [hsc] at h; exact h.elim
                  · rw [hsc] at h
                    simp only [cond_true] at h
                    simp only [Bool.and_eq_true] at hsc
                    obtain ⟨⟨s1, s2⟩, s3⟩ := hsc
                    simp only [memSc, Bool.and_true] at s3
                    refine wpList_step fun K hK => ?_
                    rw [if_pos hwant]
                    unfold Oper.wp
                    rw [hx]
                    let ρ' : Nat → Nat := fun i => if i = M.length then w.heap.size else ρ i
                    have hρ : ∀ i, i < M.length → ρ' i = ρ i := fun i hi => by show (if i = M.length then _ else _) = _; rw [if_neg (by omega)]
                    have hn : ρ' M.length = w.heap.size := by show (if M.length = M.length then _ else _) = _; rw [if_pos rfl]
                    have HM' := HM.alloc (segsDen ρ s) t
                    have e : denM ρ' 0 (M ++ [SB.cells s t]) = denM ρ 0 M ++ [En.blk w.heap.size (segsDen ρ s) t] := by
                      rw [denM_append, memSc_den hρ s2 (by omega), Nat.zero_add]
                      simp only [denM, hn, segsSc_den hρ s3]
                    have HM2 : Mem w0 S (denM ρ' 0 (M ++ [SB.cells s t])) (w.alloc (.cells (segsDen ρ s).toArray t)) := by
                      rw [e]
                      exact HM'.perm (List.perm_append_comm (l₁ := [En.blk w.heap.size (segsDen ρ s) t]))
                    have hE2 := (hE.over hρ s1).putS hd (.o (.c (.p M.length 0)))
                    have ev : (SV.o (.c (.p M.length 0))).den ρ' = .pointer (some ⟨w.heap.size, 0, none⟩) := by
                      show Value.pointer (some ⟨ρ' M.length, 0, none⟩) = _
                      rw [hn]
                    rw [ev] at hE2
                    exact hK _ _ (ih2 all l os k _ _ ρ' _ _ h hh hE2 HM2)
              | call g args =>
                rw [hex] at h hx
                dsimp only [EffOk] at h hx
                cases hl : lkG Γ g with
                | none => rw [hl] at h; exact hstop all (o :: l) k os env M ρ a w h hh hE HM
                | some c =>
                  rw [hl] at h
                  obtain ⟨hen, hc⟩ := hΓ g c hl
                  refine wpList_step fun K hK => ?_
                  rw [if_pos hwant]
                  unfold Oper.wp
                  rw [hx hen]
                  refine (hc ρ args w h.1 HM.kept).mono ?_
                  rintro e w' ⟨rfl, hb⟩
                  have hr : run V T Γ nt An fin stop n (some (all, l)) os k (Proofs.Ytpedkcpkdacnlaa.putS o.dst (c.out args) env) M := by
                    have h2 := h.2
                    unfold PCon.out
                    cases ht : c.two args with
                    | none => rw [ht] at h2; exact h2
                    | some bv =>
                      obtain ⟨b, v⟩ := bv
                      rw [ht] at h2
                      cases b <;> exact h2
                  exact hK _ _ (ih2 all l os k _ M ρ _ w' hr hh (hE.putS hd (c.out args)) (HM.call hb))
              | no =>
                rw [hex] at h
                exact hstop all (o :: l) k os env M ρ a w h hh hE HM
            have hskip : ∀ env, EnvOk ρ nt env a → Region.wanted o (yielded all.toArray a.tmps) = false → run V T Γ nt An fin stop n (some (all, l)) os k (Proofs.Ytpedkcpkdacnlaa.putS o.dst (sv undef) env) M → wpList P all.toArray (After P f fn (k ++ flat os) R) (o :: l) a w := by
              intro env hE hwant h
              refine wpList_step fun K hK => ?_
              rw [if_neg (by rw [hwant]; simp)]
              exact hK _ _ (ih2 all l os k _ M ρ _ w h hh (hE.putS hd (sv undef)) HM)
            cases g with
            | none => exact hgo env hE (hw1 rfl) h
            | some tw =>
              obtain ⟨t, want⟩ := tw
              dsimp only at h
              split at h
              · rename_i b hl
                have hwb := hw2 t want b rfl hl
                have hE' := hE.same hl
                cases b <;> cases want <;> simp only [cond_true, cond_false] at h
                · exact hgo _ hE' hwb h
                · exact hskip _ hE' hwb h
                · exact hskip _ hE' hwb h
                · exact hgo _ hE' hwb h
              · rename_i u hl
                exact hskip _ hE (hw3 t want u rfl hl) h
              · exact h.elim
end
end
end Go.Proofs.Ytpedkcpkdacnlaa
end
section
namespace Go.Proofs.Ytpedkcpkdacnlaa
open Go.RowKit
set_option linter.unusedVariables false
def resS (V : World) (T : Tab) (env : Env) (M : List SB) : ResultVar → Option (Option Prop × SA)
  | .tmp t => match lk env t with
    | some (.o x) => some (none, x)
    | _ => none
  | .cell b t => match lk env b with
    | some (.o (.c (.p c off))) => match loadS V T M t (some (.o (.c (.p c off)))) with
      | .val vc (.o x) => some (vc, x)
      | _ => none
    | _ => none
def vcBoth : Option Prop → Option Prop → Option Prop
  | none, q => q
  | some p, none => some p
  | some p, some q => some (p ∧ q)
theorem vcBoth_iff {p q : Option Prop} : vcP (vcBoth p q) ↔ vcP p ∧ vcP q := by cases p <;> cases q <;> simp [vcBoth, vcP]
def resL (V : World) (T : Tab) (env : Env) (M : List SB) : List ResultVar → Option (Option Prop × List SA)
  | [] => some (none, [])
  | r :: l => match resS V T env M r, resL V T env M l with
    | some (p, x), some (q, y) => some (vcBoth p q, x :: y)
    | _, _ => none
def svOf : List SA → SV
  | [x] => .o x
  | l => .t l
def finS (V : World) (T : Tab) (res : List ResultVar) (R : SV → List SB → Prop) (env : Env) (M : List SB) : Prop := match resL V T env M res with
  | some (vc, l) => vcAnd vc (R (svOf l) M)
  | none => False
def resF (tmps : Array Value) : ResultVar → Sem Value
  | .tmp t => pure (tmps.getD t undef)
  | .cell b t => do loadVar t (← asAddr (tmps.getD b undef))
theorem results_eq (fn : Func) (tmps : Array Value) : results fn tmps = (do let vs ← fn.results.mapM (resF tmps); pure (if h : vs.size = 1 then vs[0] else .tuple vs)) := by
  unfold results
  congr 2
section
variable {P : Program} {w0 w : World} {S : Nat → Prop} {ρ : Nat → Nat} {M : List SB} {nt : Nat} {env : Env} {a : Act} {T : Tab} {fn : Func}
theorem resS_ok {V : World} (hV : OldOk V w0 S) (hT : TabOk P T) (hE : EnvOk ρ nt env a) (HM : Mem w0 S (denM ρ 0 M) w) {r : ResultVar} {vc : Option Prop} {x : SA} (h : resS V T env M r = some (vc, x)) (hv : vcP vc) :
    (resF a.tmps r).run P w = .ok (x.den ρ) w := by
  cases r with
  | tmp t =>
    simp only [resS] at h
    split at h
    · rename_i y hl
      simp only [Option.some.injEq, Prod.mk.injEq] at h
      obtain ⟨-, rfl⟩ := h
      have := hE.eval (x := .tmp t) hl
      simp only [Act.eval] at this
      simp only [resF, this, Sem.run_pure]; rfl
    · cases h
  | cell b t =>
    simp only [resS] at h
    split at h
    · rename_i c off hl
      have hp := hE.eval (x := .tmp b) hl
      simp only [Act.eval] at hp
      have e : (SV.o (.c (.p c off))).den ρ = .pointer (some ⟨ρ c, off, none⟩) := rfl
      rw [e] at hp
      have hk := loadS_ok (S := S) (w0 := w0) hV hT HM t (x := some (.o (.c (.p c off)))) (v := .pointer (some ⟨ρ c, off, none⟩)) (fun y hy => by simp only [Option.some.injEq] at hy; subst hy; rfl)
      split at h
      · rename_i vc' y hld
        simp only [Option.some.injEq, Prod.mk.injEq] at h
        obtain ⟨rfl, rfl⟩ := h
        rw [hld] at hk
        have := hk hv
        simp only [Instr.loadAt, Instr.sureAddr, Sem.run_bind, Sem.run_pure, Result.andThen_ok] at this
        simp only [resF, hp, asAddr, Sem.run_bind, Sem.run_pure, Result.andThen_ok]
        cases hr : (loadVar t ⟨ρ c, off, none⟩).run P w with
        | ok v w' =>
          rw [hr] at this
          simp only [Result.andThen_ok, Result.ok.injEq, Next.value.injEq] at this
          obtain ⟨rfl, rfl⟩ := this; rfl
        | halt hh w' => rw [hr] at this; cases this
      · cases h
    · cases h
theorem resL_ok {V : World} (hV : OldOk V w0 S) (hT : TabOk P T) (hE : EnvOk ρ nt env a) (HM : Mem w0 S (denM ρ 0 M) w) : ∀ (l : List ResultVar) {vc : Option Prop} {x : List SA}, resL V T env M l = some (vc, x) → vcP vc →
    (l.mapM (resF a.tmps)).run P w = .ok (x.map (SA.den ρ)) w
  | [], vc, x, h, hv => by
    simp only [resL, Option.some.injEq, Prod.mk.injEq] at h
    obtain ⟨-, rfl⟩ := h; rfl
  | r :: l, vc, x, h, hv => by
    simp only [resL] at h
    split at h
    · rename_i p y q z h1 h2
      simp only [Option.some.injEq, Prod.mk.injEq] at h
      obtain ⟨rfl, rfl⟩ := h
      obtain ⟨v1, v2⟩ := vcBoth_iff.1 hv
      have e1 := resS_ok hV hT hE HM h1 v1
      have e2 := resL_ok hV hT hE HM l h2 v2
      simp only [List.mapM_cons, Sem.run_bind]
      rw [e1]
      simp only [Result.andThen_ok, e2, Sem.run_pure, List.map_cons]
    · cases h
theorem results_ok {V : World} (hV : OldOk V w0 S) (hT : TabOk P T) (hE : EnvOk ρ nt env a) (HM : Mem w0 S (denM ρ 0 M) w) {R : SV → List SB → Prop} (h : finS V T fn.results.toList R env M) :
    ∃ x, R x M ∧ (results fn a.tmps).run P w = .ok (x.den ρ) w := by
  unfold finS at h
  split at h
  · rename_i vc l hl
    obtain ⟨h1, h2⟩ := vcAnd_iff.1 h
    refine ⟨svOf l, h2, ?_⟩
    have e := resL_ok hV hT hE HM _ hl h1
    rw [results_eq, Array.mapM_eq_mapM_toList]
    simp only [Sem.run_bind, map_eq_pure_bind]
    rw [e]
    simp only [Result.andThen_ok, Sem.run_pure]
    congr 1
    by_cases h1 : l.length = 1
    · obtain ⟨y, rfl⟩ := List.length_eq_one_iff.1 h1
      simp [svOf, SV.den]
    · rw [dif_neg (by simpa using h1)]
      unfold svOf
      split
      · exact absurd rfl h1
      · rfl
  · exact h.elim
end
theorem TysOk.of {P : Program} {T : Tab} (h : T.all (fun p => partsTy P p.1 && (!intsOnly p.2 || eqTy P p.1)) = true) (hm : P.follows .mixedOrders = true) : TysOk P T := by
  refine ⟨hm, fun t i hi => ?_⟩
  induction T with
  | nil => simp [lkT] at hi
  | cons p r ih =>
    simp only [List.all_cons, Bool.and_eq_true] at h
    unfold lkT at hi
    cases hb : p.1.beq t
    · rw [hb] at hi; exact ih h.2 hi
    · have := Nat.eq_of_beq_eq_true hb
      rw [hb] at hi
      simp only [cond_true, Option.some.injEq] at hi; subst hi
      rw [← this]; refine ⟨h.1.1, fun hi => ?_⟩
      have := h.1.2; rw [hi] at this; simpa using this
theorem draw_of {id : Nat} {ops : Array Oper} (h : drawB ops = true) : drawP id ops := h
theorem by_cond {b : Bool} {A B : Prop} (h : b = true → A) (k : b = false → B) : bif b then A else B := by
  cases b
  · exact k rfl
  · exact h rfl
theorem svB {b c : Bool} (h : b = c) : SV.o (.c (.v (.bool b))) = SV.o (.c (.v (.bool c))) := by rw [h]
theorem by_eq {p q : Prop} (e : p = q) (h : q) : p := e ▸ h
def findReg (id : Nat) : Code → Option (Array Oper)
  | .region i ops _ => bif i.beq id then some ops else none
  | .seq a b => match findReg id a with
    | some x => some x
    | none => findReg id b
  | .cond _ a b => match findReg id a with
    | some x => some x
    | none => findReg id b
  | .block _ b => findReg id b
  | .loop b => findReg id b
  | .scope b => findReg id b
  | _ => none
/-- A function's region. -/
def regOps (fn : Func) (id : Nat) : Array Oper := (fn.body.bind (findReg id)).getD #[]
def envFrom : Nat → List SA → Env
  | _, [] => []
  | i, x :: r => (i, .o x) :: envFrom (i + 1) r
theorem envFrom_lk : ∀ (l : List SA) (i t : Nat) (x : SV), lk (envFrom i l) t = some x → ∃ j y, t = i + j ∧ l[j]? = some y ∧ x = .o y
  | [], i, t, x, h => by simp [envFrom, lk] at h
  | y :: r, i, t, x, h => by
    simp only [envFrom, lk] at h
    cases hb : i.beq t
    · rw [hb] at h
      obtain ⟨j, z, h1, h2, h3⟩ := envFrom_lk r (i + 1) t x h
      exact ⟨j + 1, z, by omega, h2, h3⟩
    · rw [hb] at h
      have := Nat.eq_of_beq_eq_true hb
      subst this
      simp only [cond_true, Option.some.injEq] at h; subst h
      exact ⟨0, y, rfl, rfl, rfl⟩
section
variable {P : Program} {f : FuncId} {fn : Func} {c : Code} {T : Tab} {Γ : Gam} {An : List (Nat × Ann)} {w0 w : World} {S : Nat → Prop} {ρ : Nat → Nat} {M : List SB}
theorem env0_ok (args : List SA) (n : Nat) (h : args.length ≤ n) : EnvOk ρ n (envFrom 0 args) { tmps := (args.map (SA.den ρ)).toArray ++ Array.replicate (n - args.length) undef, defers := [] } := by
  refine ⟨rfl, by simp; omega, fun t x hx => ?_⟩
  obtain ⟨j, y, rfl, hj, rfl⟩ := envFrom_lk args 0 t x hx
  rw [Nat.zero_add]
  have hlt : j < args.length := (List.getElem?_eq_some_iff.1 hj).1
  rw [Array.getElem?_append_left (by simpa using hlt), List.getElem?_toArray, List.getElem?_map, hj]; rfl
/-- What a stop has to show. -/
def StopP (P : Program) (f : FuncId) (fn : Func) (w0 : World) (S : Nat → Prop) (R : SV → List SB → Prop) : Stop := fun all l k os env M =>
  ∀ ρ a w, HooksOk P f fn w0 S fn.ntmps (fun e w' => ∃ x M' ρ', R x M' ∧ e = .returned (x.den ρ') ∧ Mem w0 S (denM ρ' 0 M') w') os → EnvOk ρ fn.ntmps env a → Mem w0 S (denM ρ 0 M) w → wpList P all.toArray (After P f fn (k ++ flat os) (fun e w' => ∃ x M' ρ', R x M' ∧ e = .returned (x.den ρ') ∧ Mem w0 S (denM ρ' 0 M') w')) l a w
theorem calls_of_run {V : World} (hV : OldOk V w0 S) (hf : P.funcs[f]? = some fn) (hb : fn.body = some c) (hT : TabOk P T) (hT2 : TysOk P T) (hΓ : GamOk P w0 S Γ) {R : SV → List SB → Prop} (args : List SA) (ha : args.length ≤ fn.ntmps) (HM : Mem w0 S (denM ρ 0 M) w) (n : Nat)
    (h : run V T Γ fn.ntmps An (finS V T fn.results.toList R) (StopP P f fn w0 S R) n none [] [.code c] (envFrom 0 args) M) :
    Calls P f (args.map (SA.den ρ)).toArray w fun e w' => ∃ x M' ρ', R x M' ∧ e = .returned (x.den ρ') ∧ Mem w0 S (denM ρ' 0 M') w' := by
  have hs := (run_sound (P := P) (f := f) (fn := fn) (w0 := w0) (S := S) (R := fun e w' => ∃ x M' ρ', R x M' ∧ e = .returned (x.den ρ') ∧ Mem w0 S (denM ρ' 0 M') w') hf hV hT hT2 hΓ
    (fun env M ρ a w hfin hE HM => by
      obtain ⟨x, hR, hr⟩ := results_ok hV hT hE HM hfin
      exact ⟨_, hr, x, M, ρ, hR, rfl, HM⟩)
    (fun all l k os env M ρ a w hst hh hE HM => hst ρ a w hh hE HM) n).1 _ _ _ _ _ _ _ h trivial (env0_ok args fn.ntmps ha) HM
  intro cs
  let b : Frame := { (default : Frame) with fn := f, kind := .normal }
  have henter : Frame.enter P f (args.map (SA.den ρ)).toArray .normal = b.at { tmps := (args.map (SA.den ρ)).toArray ++ Array.replicate (fn.ntmps - args.length) undef, defers := [] } [.code c] := by
    simp [Frame.enter, Frame.at, hf, hb, b]
  rw [henter]
  exact hs b cs rfl rfl
/-- A function that only reckons. -/
theorem pure_of_run (hf : P.funcs[f]? = some fn) (hb : fn.body = some c) (hen : enterB P f = true) (hT : TabOk P T) (hT2 : TysOk P T) (hΓ : ∀ w, GamOk P w (fun _ => False) Γ) (C : PCon) (n : Nat)
    (h : ∀ (w : World) args, C.pre args → args.length ≤ fn.ntmps ∧ run w T Γ fn.ntmps An (finS w T fn.results.toList (fun x _ => x = C.out args ∧ x.sc 0 = true)) (StopP P f fn w (fun _ => False) (fun x _ => x = C.out args ∧ x.sc 0 = true)) n none [] [.code c] (envFrom 0 args) []) : C.holds P f := by
  refine ⟨hen, fun ρ args w hp => ?_⟩
  obtain ⟨h1, h2⟩ := h w args hp
  refine (calls_of_run (OldOk.self w) (ρ := ρ) (M := []) hf hb hT hT2 (hΓ w) args h1 (Mem.start w) n h2).mono ?_
  rintro e w' ⟨x, M', ρ', ⟨rfl, hx⟩, rfl, HM⟩
  exact ⟨by rw [SV.sc_den (n := 0) (ρ := ρ) (ρ' := ρ') (fun i hi => absurd hi (Nat.not_lt_zero i)) hx], HM.below⟩
/-- A function that leaves all that there was as it was, once, from a world of which something is known. -/
theorem once_of_run (hf : P.funcs[f]? = some fn) (hb : fn.body = some c) (hT : TabOk P T) (hT2 : TysOk P T) {w : World} (hΓ : GamOk P w (fun _ => False) Γ) (args : List SA) (ha : args.length ≤ fn.ntmps) (v : Value) (n : Nat)
    (h : run w T Γ fn.ntmps An (finS w T fn.results.toList (fun x _ => x = sv v)) (StopP P f fn w (fun _ => False) (fun x _ => x = sv v)) n none [] [.code c] (envFrom 0 args) []) {ar : Array Value} (has : ar = (args.map (SA.den (fun _ => 0))).toArray) :
    Calls P f ar w fun e w' => e = .returned v ∧ Below w.heap.size w w' := by
  subst has
  refine (calls_of_run (OldOk.self w) (ρ := fun _ => 0) (M := []) hf hb hT hT2 hΓ args ha (Mem.start w) n h).mono ?_
  rintro e w' ⟨x, M', ρ', rfl, rfl, HM⟩
  exact ⟨rfl, HM.below⟩
end
end Go.Proofs.Ytpedkcpkdacnlaa
end
section
namespace Go.Proofs.Ytpedkcpkdacnlaa
def toL (f : Nat → Int) : List Int := (List.range 17).map f
def cf (l : List Int) : Nat → Int := fun i => l.getD i 0
theorem toL_len (f : Nat → Int) : (toL f).length = 17 := by simp [toL]
theorem toL_cf {l : List Int} (h : l.length = 17) : toL (cf l) = l := by
  apply List.ext_getElem?
  intro i
  unfold toL cf
  by_cases hi : i < 17
  · rw [List.getElem?_map, List.getElem?_range hi]
    simp [List.getElem?_eq_getElem (show i < l.length by omega)]
  · rw [List.getElem?_eq_none (by simp; omega), List.getElem?_eq_none (by omega)]
theorem cf_zero : cf (List.replicate 17 0) = fun _ => 0 := by
  funext i; simp only [cf, List.getD_eq_getElem?_getD, List.getElem?_replicate]; split <;> rfl
end Go.Proofs.Ytpedkcpkdacnlaa
end
section
namespace Go.Proofs.Ytpedkcpkdacnlaa
open Go.RowKit
set_option linter.unusedVariables false
set_option maxRecDepth 20000
abbrev iI (n : Int) : Seg := .one (.v (.int .i64 n))
theorem den17 (ρ : Nat → Nat) (f : Nat → Int) : segsDen ρ [.ints .u64 17 f] = u64s (toL f) := by simp [segsDen, Seg.den, u64s, toL]
theorem den17_zero (ρ : Nat → Nat) : segsDen ρ [.ints .u64 17 (fun _ => 0)] = u64s (List.replicate 17 0) := by
  rw [den17, ← cf_zero, toL_cf (by simp)]
/-! Contracts. -/
def conThings : PCon := ⟨fun args => match args with
  | [] => True
  | _ => False, fun _ => sv (.bool true), fun _ => none⟩
theorem things_con : conThings.holds Try.prog 33 := by
  refine ⟨by kernel_rfl, fun ρ args w h => ?_⟩
  unfold conThings at h ⊢
  dsimp only [PCon.out] at h ⊢
  split at h
  · exact things_any w
  · exact h.elim
def conPick : PCon := ⟨fun args => match args with
  | [.c (.v (.int .i64 a)), .c (.v (.int .i64 n))] => 0 < n ∧ n ≤ 9223372036854775807
  | _ => False, fun args => match args with
  | [.c (.v (.int .i64 a)), .c (.v (.int .i64 n))] => sv (.int .i64 (pickZ a n))
  | _ => sv undef, fun _ => none⟩
theorem pick_con : conPick.holds Try.prog 24 := by
  refine ⟨by kernel_rfl, fun ρ args w h => ?_⟩
  unfold conPick at h ⊢
  dsimp only [PCon.out] at h ⊢
  split at h
  · refine (pick_any _ _ w h.1 h.2).mono ?_
    rintro e w' ⟨rfl, rfl⟩
    exact ⟨rfl, Below.refl _ _⟩
  · exact h.elim
def conKindOf : PCon := ⟨fun args => match args with
  | [.c (.v (.int .i64 a))] => True
  | _ => False, fun args => match args with
  | [.c (.v (.int .i64 a))] => sv (.int .i64 (1 + pickZ a 6))
  | _ => sv undef, fun _ => none⟩
theorem kindOf_con : conKindOf.holds Try.prog 34 := by
  refine ⟨by kernel_rfl, fun ρ args w h => ?_⟩
  unfold conKindOf at h ⊢
  dsimp only [PCon.out] at h ⊢
  split at h
  · refine (kindOf_any _ w).mono ?_
    rintro e w' ⟨rfl, rfl⟩
    exact ⟨rfl, Below.refl _ _⟩
  · exact h.elim
def conOpRight : PCon := ⟨fun args => match args with
  | [.a [.one (.v (.int .i64 a)), .one (.v (.int .i64 b)), .one (.v (.int .i64 c))]] => True
  | _ => False, fun args => match args with
  | [.a [.one (.v (.int .i64 a)), .one (.v (.int .i64 b)), .one (.v (.int .i64 c))]] => sv (.bool (opOk a b c))
  | _ => sv undef, fun _ => none⟩
theorem opRight_con : conOpRight.holds Try.prog 29 := by
  refine ⟨by kernel_rfl, fun ρ args w h => ?_⟩
  unfold conOpRight at h ⊢
  dsimp only [PCon.out] at h ⊢
  split at h
  · refine (op_right _ _ _ w).mono ?_
    rintro e w' ⟨rfl, hb⟩
    exact ⟨rfl, hb⟩
  · exact h.elim
/-- made, of operations that lie in memory from the beginning. -/
def conMade (z : Nat → Nat → Int) (a : Option Addr) (len cap : Nat) : PCon := ⟨fun args => match args with
  | [.c (.v (.int .i64 k)), .c (.v (.slice b m c))] => (1 ≤ k ∧ k ≤ 6) ∧ b = a ∧ m = len ∧ c = cap
  | _ => False, fun args => match args with
  | [.c (.v (.int .i64 k)), .c (.v (.slice b m c))] => .o (.a [.ints .u64 17 (cf (madeTo k z (min len 30)))])
  | _ => sv undef, fun _ => none⟩
theorem made_con {W : World} {z : Nat → Nat → Int} {a : Option Addr} {len cap : Nat} (h : Rws 3 (fun _ => .i64) W a len cap z) : (conMade z a len cap).holdsAt Try.prog W (fun _ => False) 35 := by
  refine ⟨by kernel_rfl, fun ρ args w hp hk => ?_⟩
  unfold conMade at hp ⊢
  dsimp only [PCon.out] at hp ⊢
  split at hp
  · obtain ⟨⟨h1, h2⟩, rfl, rfl, rfl⟩ := hp
    refine (made_any w _ h1 h2 _ _ _ z (h.below (hk.below (Nat.le_refl _) (fun _ h => h.elim)))).mono ?_
    rintro e w' ⟨rfl, hb⟩
    refine ⟨?_, hb⟩
    simp only [SV.den, SA.den, den17]
    rw [toL_cf (objOK_len (madeTo_ok _ _ h1 h2 _))]
  · exact hp.elim
def conDo : PCon := ⟨fun args => match args with
  | [.c (.v (.int .i64 k)), .a [.ints .u64 n f], .a [.one (.v (.int .i64 w)), .one (.v (.int .i64 key)), .one (.v (.int .i64 x))]] => n = 17 ∧ ObjOK k (toL f) ∧ opOk w key x = true
  | _ => False, fun args => match args with
  | [.c (.v (.int .i64 k)), .a [.ints .u64 n f], .a [.one (.v (.int .i64 w)), .one (.v (.int .i64 key)), .one (.v (.int .i64 x))]] =>
    .t [.a [.ints .u64 17 (cf (objR k (toL f) w key x).1)], .a [iI (objR k (toL f) w key x).2.1, iI (objR k (toL f) w key x).2.2], .c (.v .nilIface)]
  | _ => sv undef, fun _ => none⟩
theorem do_con : conDo.holds Try.prog 36 := by
  refine ⟨by kernel_rfl, fun ρ args w h => ?_⟩
  unfold conDo at h ⊢
  dsimp only [PCon.out] at h ⊢
  split at h
  · rename_i k n f wh key x
    obtain ⟨rfl, h1, h2⟩ := h
    have hl := objOK_len (objR_ok h1 wh key x h2)
    generalize he : objR k (toL f) wh key x = q at *
    obtain ⟨d, s, r⟩ := q
    have := object_do w k (toL f) h1 wh key x h2 he
    have ea : (List.map (SA.den ρ) [.c (.v (.int .i64 k)), .a [.ints .u64 17 f], .a [.one (.v (.int .i64 wh)), .one (.v (.int .i64 key)), .one (.v (.int .i64 x))]]).toArray = #[.int .i64 k, .agg (u64s (toL f)).toArray, .agg #[.int .i64 wh, .int .i64 key, .int .i64 x]] := by
      simp only [List.map_cons, List.map_nil, SA.den, den17]; rfl
    rw [ea]
    refine this.mono ?_
    rintro e w' ⟨rfl, hb⟩
    refine ⟨?_, hb⟩
    simp only [SV.den, List.map_cons, List.map_nil, SA.den, den17]
    rw [toL_cf hl]; rfl
  · exact h.elim
/-- An operation that may not be. -/
def conDoBad : PCon := ⟨fun args => match args with
  | [.c (.v (.int .i64 k)), .a [.ints .u64 n f], .a [.one (.v (.int .i64 w)), .one (.v (.int .i64 key)), .one (.v (.int .i64 x))]] => n = 17 ∧ opOk w key x = false
  | _ => False, fun _ => .t [.a [.ints .u64 17 (fun _ => 0)], .a [iI 0, iI 0], .c (.v (.iface 65 (.int .i64 1)))], fun _ => none⟩
theorem doBad_con : conDoBad.holds Try.prog 36 := by
  refine ⟨by kernel_rfl, fun ρ args w h => ?_⟩
  unfold conDoBad at h ⊢
  dsimp only [PCon.out] at h ⊢
  split at h
  · rename_i k n f wh key x
    obtain ⟨rfl, h2⟩ := h
    have := do_bad w k (toL f) wh key x h2
    have ea : (List.map (SA.den ρ) [.c (.v (.int .i64 k)), .a [.ints .u64 17 f], .a [.one (.v (.int .i64 wh)), .one (.v (.int .i64 key)), .one (.v (.int .i64 x))]]).toArray = #[.int .i64 k, .agg (u64s (toL f)).toArray, .agg #[.int .i64 wh, .int .i64 key, .int .i64 x]] := by
      simp only [List.map_cons, List.map_nil, SA.den, den17]; rfl
    rw [ea]
    refine this.mono ?_
    rintro e w' ⟨rfl, hb⟩
    refine ⟨?_, hb⟩
    simp only [SV.den, List.map_cons, List.map_nil, SA.den, den17_zero]; rfl
  · exact h.elim
def conSize : PCon := ⟨fun args => match args with
  | [.c (.v (.int .i64 k)), .a [.ints .u64 n f]] => n = 17 ∧ ObjOK k (toL f)
  | _ => False, fun args => match args with
  | [.c (.v (.int .i64 k)), .a [.ints .u64 n f]] => .t [.c (.v (.int .i64 (objR k (toL f) 6 0 0).2.2)), .c (.v .nilIface)]
  | _ => sv undef, fun _ => none⟩
theorem size_con : conSize.holds Try.prog 37 := by
  refine ⟨by kernel_rfl, fun ρ args w h => ?_⟩
  unfold conSize at h ⊢
  dsimp only [PCon.out] at h ⊢
  split at h
  · rename_i k n f
    obtain ⟨rfl, h1⟩ := h
    have := object_size w k (toL f) h1
    simp only [List.map_cons, List.map_nil, SA.den, SC.den, den17] at this ⊢
    exact this
  · exact h.elim
/-- An operation of which it is not known whether it may be. -/
def conDoAny : PCon := ⟨fun args => match args with
  | [.c (.v (.int .i64 k)), .a [.ints .u64 n f], .a [.one (.v (.int .i64 w)), .one (.v (.int .i64 key)), .one (.v (.int .i64 x))]] => n = 17 ∧ ObjOK k (toL f)
  | _ => False, conDo.val, fun args => match args with
  | [.c (.v (.int .i64 k)), .a [.ints .u64 n f], .a [.one (.v (.int .i64 w)), .one (.v (.int .i64 key)), .one (.v (.int .i64 x))]] => some (opOk w key x, .t [.a [.ints .u64 17 (fun _ => 0)], .a [iI 0, iI 0], .c (.v (.iface 65 (.int .i64 1)))])
  | _ => none⟩
theorem doAny_con : conDoAny.holds Try.prog 36 := by
  refine ⟨by kernel_rfl, fun ρ args w h => ?_⟩
  unfold conDoAny at h ⊢
  dsimp only [PCon.out] at h ⊢
  split at h
  · rename_i k n f wh key x
    obtain ⟨rfl, h1⟩ := h
    cases hop : opOk wh key x with
    | true => exact do_con.2 ρ [.c (.v (.int .i64 k)), .a [.ints .u64 17 f], .a [.one (.v (.int .i64 wh)), .one (.v (.int .i64 key)), .one (.v (.int .i64 x))]] w ⟨rfl, h1, hop⟩
    | false => exact doBad_con.2 ρ [.c (.v (.int .i64 k)), .a [.ints .u64 17 f], .a [.one (.v (.int .i64 wh)), .one (.v (.int .i64 key)), .one (.v (.int .i64 x))]] w ⟨rfl, hop⟩
  · exact h.elim
end Go.Proofs.Ytpedkcpkdacnlaa
end
section
namespace Go.Proofs.Ytpedkcpkdacnlaa
set_option linter.unusedVariables false
def sizeO (kd : Int) (c : List Int) : Int := (objR kd c 6 0 0).2.2
theorem sizeO_list (kd : Int) (l : List Int) (h1 : 1 ≤ kd) (h4 : kd ≤ 4) (hl : l.length ≤ 6) (hr : InR l) : sizeO kd (lstC l) = l.length := by
  unfold sizeO
  rw [objR_list kd l 6 0 0 h1 h4]
  have := (lst_law kd l 6 0 hl hr (by decide) (by decide) (by decide) h1 h4).1.count rfl
  rw [this]
theorem sizeO_table (t : List Int) (g : Good t) : sizeO 5 (t ++ [0]) = lenT t := by
  unfold sizeO
  rw [objR_table t g]; rfl
theorem obj_size {kd : Int} {c : List Int} (h : ObjOK kd c) (hk : kd ≤ 5) (k key x : Int) (ho : opOk k key x = true) :
    0 ≤ sizeO kd c ∧ sizeO kd c ≤ 6 ∧ 0 ≤ sizeO kd (objR kd c k key x).1 ∧ sizeO kd (objR kd c k key x).1 ≤ 6 ∧
    (((objR kd c k key x).2.1 ≠ 1 ∨ k = 5 ∨ k = 6) → sizeO kd (objR kd c k key x).1 = sizeO kd c) ∧
    ((objR kd c k key x).2.1 = 1 → (k = 2 ∨ k = 4) → sizeO kd (objR kd c k key x).1 = sizeO kd c - 1) ∧
    ((objR kd c k key x).2.1 = 1 → (k = 1 ∨ k = 3) → sizeO kd (objR kd c k key x).1 = sizeO kd c + 1 ∨ kd = 5 ∧ sizeO kd (objR kd c k key x).1 = sizeO kd c) := by
  have hlaw := obj_law h k key x ho
  have ho2 := ho
  unfold opOk at ho2
  rw [decide_eq_true_eq] at ho2
  obtain ⟨o1, o2, o3, o4, o5, o6⟩ := ho2
  rcases h with ⟨k1, k4, l, rfl, hl, hr, hh⟩ | ⟨rfl, t, rfl, g⟩ | ⟨rfl, n, rfl, h0, h1⟩
  · rw [objR_list kd l k key x k1 k4] at hlaw ⊢
    obtain ⟨a, b⟩ := lst_law kd l k x hl hr o5 o6 ⟨o1, o2⟩ k1 k4
    dsimp only at hlaw ⊢
    rw [sizeO_list kd l k1 k4 hl hr, sizeO_list kd _ k1 k4 a.len a.inr]
    have al := a.len
    refine ⟨by omega, by omega, by omega, by omega, fun hh => by rw [a.same hh], fun h1 h2 => ?_, fun h1 h2 => .inl ?_⟩
    · have := a.out h1 h2; omega
    · have := a.into h1 h2; omega
  · rw [objR_table t g] at hlaw ⊢
    dsimp only at hlaw ⊢
    have gg := doT_good g k key x o5 o6
    rw [sizeO_table t g, sizeO_table _ gg]
    have f1 := g.few
    have f2 := gg.few
    refine ⟨by omega, by omega, by omega, by omega, fun hh => ?_, fun h1 h2 => ?_, fun h1 h2 => ?_⟩
    · have := hlaw.2.1 hh
      have := List.append_cancel_right this
      rw [this]
    · by_cases hw : key < 1 ∨ k = 4
      · exfalso
        have : (doT t k key x).2.1 = 5 := by
          unfold doT
          rw [if_neg (by omega), if_pos (by omega)]
        omega
      · obtain rfl : k = 2 := by omega
        rcases take_cases g key x (by omega) o4 with ⟨-, e⟩ | ⟨u, r, -, e, -, -, -, hlen⟩
        · rw [e] at h1; simp at h1
        · rw [e]; dsimp only; omega
    · by_cases hw : key < 1 ∨ k = 3
      · exfalso
        have : (doT t k key x).2.1 = 5 := by
          unfold doT
          rw [if_neg (by omega), if_pos (by omega)]
        omega
      · obtain rfl : k = 1 := by omega
        rcases put_cases g key x (by omega) o4 o5 o6 with ⟨e, -⟩ | ⟨u, e, -, -, -, hlen⟩
        · rw [e] at h1; simp at h1
        · rw [e]; dsimp only; omega
  · omega
theorem obj_ends {kd : Int} {c : List Int} (h : ObjOK kd c) (hk : kd ≤ 4) (x : Int) (x0 : 0 ≤ x) (x1 : x ≤ 4294967295) :
    ((objR kd c 2 0 0).2.1 = 2 ↔ (objR kd c 6 0 0).2.2 = 0) ∧ ((objR kd c 6 0 0).2.2 ≠ 0 → (objR kd c 2 0 0).2.1 = 1) ∧
    ((objR kd c 1 0 x).2.1 = 3 ↔ (objR kd c 6 0 0).2.2 = 6) ∧ ((objR kd c 6 0 0).2.2 ≠ 6 → (objR kd c 1 0 x).2.1 = 1) := by
  rcases h with ⟨k1, k4, l, rfl, hl, hr, hh⟩ | ⟨rfl, -⟩ | ⟨rfl, -⟩
  · have hs := sizeO_list kd l k1 k4 hl hr
    unfold sizeO at hs
    rw [hs, objR_list kd l 2 0 0 k1 k4, objR_list kd l 1 0 x k1 k4]
    have a := (lst_law kd l 2 0 hl hr (by decide) (by decide) (by decide) k1 k4).1
    have b := (lst_law kd l 1 x hl hr x0 x1 (by decide) k1 k4).1
    refine ⟨?_, fun hn => a.done2 rfl (by omega), ?_, fun hn => b.done1 rfl (by omega)⟩
    · rw [a.empty rfl]; omega
    · rw [b.full rfl]; omega
  · omega
  · omega
end Go.Proofs.Ytpedkcpkdacnlaa
end
