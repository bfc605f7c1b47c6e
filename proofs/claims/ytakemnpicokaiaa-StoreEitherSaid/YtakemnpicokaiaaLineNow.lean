/- The contract of the law package's helper lineNow. -/
import Derived.Test.YtakemnpicokaiaaStore3
namespace Go.Proofs.Ytakemnpicokaiaa
open Go.RowKit
set_option linter.unusedVariables false
def lnTo (s : List Int) (l : Nat) : Nat → List Value
  | 0 => List.replicate 8 (.int .u64 0)
  | k + 1 => (lnTo s l k).set k (.int .u64 (s.getD (l * 8 + k) 0))
theorem lnTo_len (s : List Int) (l k : Nat) : (lnTo s l k).length = 8 := by
  induction k with
  | zero => rfl
  | succ k ih => simp [lnTo, ih]
theorem lnTo_all (s : List Int) (l : Nat) : (lnTo s l 8).toArray = lineV s l := rfl
theorem lnTo_one (s : List Int) (l k : Nat) : ∀ v ∈ lnTo s l k, v.oneCell' = true := by
  induction k with
  | zero => intro v hv; rw [List.eq_of_mem_replicate hv]; rfl
  | succ k ih =>
    intro v hv
    rcases List.mem_or_eq_of_mem_set hv with h | h
    · exact ih v h
    · rw [h]; rfl
set_option maxHeartbeats 1000000 in
theorem lineNow_any (w : World) (b : Nat) (S : St) (l : Int) (h : StoreAt w b S) (h2 : 0 ≤ l) (h3 : l < 9) :
    Calls Try.prog 37 #[.pointer (some ⟨b, 0, none⟩), .int .i64 l] w fun e w' => e = .returned (.agg (lineV S.now l.toNat)) ∧ Below w.heap.size w w' := by
  obtain ⟨l, rfl⟩ := Int.eq_ofNat_of_zero_le h2
  rw [Int.toNat_natCast]
  have hbw := h.2.lt
  have HS := Lib.hid h
  clear h
  go_enter Try.func37, Try.ntmps37
  go_wp2_with fail
  have B0 : Below w.heap.size w ((w.alloc (Obj.cells #[.int .u64 0, .int .u64 0, .int .u64 0, .int .u64 0, .int .u64 0, .int .u64 0, .int .u64 0, .int .u64 0] 62)).alloc (Obj.cells #[.int .u64 0, .int .u64 0, .int .u64 0, .int .u64 0, .int .u64 0, .int .u64 0, .int .u64 0, .int .u64 0] 62)) := balloc (balloc (Below.refl _ w) _) _
  have HS0 : Hid (StoreAt ((w.alloc (Obj.cells #[.int .u64 0, .int .u64 0, .int .u64 0, .int .u64 0, .int .u64 0, .int .u64 0, .int .u64 0, .int .u64 0] 62)).alloc (Obj.cells #[.int .u64 0, .int .u64 0, .int .u64 0, .int .u64 0, .int .u64 0, .int .u64 0, .int .u64 0, .int .u64 0] 62)) b S) := HS.out.below B0
  have HR0 : Hid (Blk ((w.alloc (Obj.cells #[.int .u64 0, .int .u64 0, .int .u64 0, .int .u64 0, .int .u64 0, .int .u64 0, .int .u64 0, .int .u64 0] 62)).alloc (Obj.cells #[.int .u64 0, .int .u64 0, .int .u64 0, .int .u64 0, .int .u64 0, .int .u64 0, .int .u64 0, .int .u64 0] 62)) w.heap.size (List.replicate 8 (.int .u64 0)) 62) := (Blk.new w (List.replicate 8 (.int .u64 0)) 62).alloc _
  have HL0 : Hid (Blk ((w.alloc (Obj.cells #[.int .u64 0, .int .u64 0, .int .u64 0, .int .u64 0, .int .u64 0, .int .u64 0, .int .u64 0, .int .u64 0] 62)).alloc (Obj.cells #[.int .u64 0, .int .u64 0, .int .u64 0, .int .u64 0, .int .u64 0, .int .u64 0, .int .u64 0, .int .u64 0] 62)) (w.heap.size + 1) (lnTo S.now l 0) 62) := by
    have := Blk.new (w.alloc (Obj.cells #[.int .u64 0, .int .u64 0, .int .u64 0, .int .u64 0, .int .u64 0, .int .u64 0, .int .u64 0, .int .u64 0] 62)) (List.replicate 8 (.int .u64 0)) 62
    rw [World.size_alloc] at this
    exact this
  generalize (w.alloc (Obj.cells #[.int .u64 0, .int .u64 0, .int .u64 0, .int .u64 0, .int .u64 0, .int .u64 0, .int .u64 0, .int .u64 0] 62)).alloc (Obj.cells #[.int .u64 0, .int .u64 0, .int .u64 0, .int .u64 0, .int .u64 0, .int .u64 0, .int .u64 0, .int .u64 0] 62) = w0 at *
  clear HS
  go_loopw [6] (fun i wr => ∃ k : Nat, k ≤ 8 ∧ i = .int .i64 k ∧ Hid (StoreAt wr b S) ∧ Hid (Blk wr (w.heap.size + 1) (lnTo S.now l k) 62) ∧ Hid (Blk wr w.heap.size (List.replicate 8 (.int .u64 0)) 62) ∧ Below w.heap.size w wr)
    (fun i _ => 8 - (intOf i).toNat)
  case atStart => exact ⟨0, by omega, rfl, HS0, HL0, HR0, B0⟩
  case round =>
    clear HS0 HL0 HR0 B0
    obtain ⟨k, hk, rfl, hs, hl, hr, hb⟩ := hrel
    have hbl : b ≠ w.heap.size + 1 := by omega
    by_cases hlt : k < 8
    · have cl : wr.cell? ⟨w.heap.size + 1, k, none⟩ = some ((lnTo S.now l k).getD k undef) := by
        rw [hl.out.cell, List.getD_eq_getElem?_getD, List.getElem?_eq_getElem (by rw [lnTo_len]; exact hlt)]; rfl
      have fl := hl.out.frozen k
      have hset := Lib.hid (hl.out.set k (.int .u64 (S.now.getD (l * 8 + k) 0)))
      have hoth := Lib.hid (hr.out.other (p := ⟨w.heap.size + 1, k, none⟩) (.int .u64 (S.now.getD (l * 8 + k) 0)) (by simp))
      have hsto : Hid (StoreAt (wr.setCell ⟨w.heap.size + 1, k, none⟩ (.int .u64 (S.now.getD (l * 8 + k) 0))) b S) := ⟨hs.out.1, hs.out.2.other _ hbl⟩
      have hnow : ((l : Int) * 8 + (k : Int)).toNat = l * 8 + k := by omega
      have HN := Lib.hid hnow
      clear hnow
      generalize (lnTo S.now l k).getD k undef = u at *
      go_wp2_with fail
      refine (store_load _ _ _ _ hs.out (by omega) (by omega)).mono ?_
      rw [HN.out]
      generalize hx : S.now.getD (l * 8 + k) 0 = x at *
      have HX := Lib.hid hx
      clear hx
      rintro e w' ⟨rfl, rfl⟩
      go_wp2_with fail
      go_roundw
      case rel => exact ⟨k + 1, by omega, by go_num, hsto, by unfold lnTo; rw [HX.out]; exact hset, hoth, bstore hb (Nat.le_succ _) _⟩
      case measure => simp [intOf]; omega
    · obtain rfl : k = 8 := by omega
      have hl8 := hl.out
      rw [show lnTo S.now l 8 = (lineV S.now l).toList from rfl] at hl8
      have HE := Lib.hid (hr.out.setBlk (spl (List.replicate 8 (.int .u64 0)) 0 (lineV S.now l).toList))
      have HB : Hid (Below w.heap.size w (setBlk wr w.heap.size (spl (List.replicate 8 (.int .u64 0)) 0 (lineV S.now l).toList))) := bsetBlk hb (Nat.le_refl _) _
      have HL8 := Lib.hid hl8
      have HO : Hid (∀ v ∈ (lineV S.now l).toList, v.oneCell' = true) := by rw [show (lineV S.now l).toList = lnTo S.now l 8 from rfl]; exact lnTo_one _ _ _
      rw [show spl (List.replicate 8 (.int .u64 0)) 0 (lineV S.now l).toList = (lineV S.now l).toList from rfl] at HE HB
      have hsp : spl (List.replicate 8 (.int .u64 0)) 0 (lineV S.now l).toList = (lineV S.now l).toList := rfl
      have HSP := Lib.hid hsp
      have hlen : (lineV S.now l).toList.length = 8 := rfl
      have HLN := Lib.hid hlen
      have hcs : (((lineV S.now l).toList.drop 0).take 8).toArray = lineV S.now l := rfl
      have HCS := Lib.hid hcs
      have hta : (lineV S.now l).toList.toArray = lineV S.now l := rfl
      have HTA := Lib.hid hta
      clear hl8 hl hs hlen hcs hta hsp
      generalize hv : lineV S.now l = V at *
      have HV := Lib.hid hv
      clear hv
      go_wp2_with (first | (refine wpList_load_part rfl 62 _ rfl (w.heap.size + 1) 0 8 rfl 62 V.toList _ HL8.out (by rw [HLN.out]; decide) Try.underlying62 rfl (by kernel_rfl) ?_; rw [HCS.out]) | (refine wpList_store_part rfl 62 _ _ rfl w.heap.size 0 8 V.toList rfl (by rw [HTA.out]; rfl) 62 (List.replicate 8 (.int .u64 0)) hr.out HLN.out (by decide) (by kernel_rfl) HO.out ?_))
      rw [show spl [Value.int .u64 0, Value.int .u64 0, Value.int .u64 0, Value.int .u64 0, Value.int .u64 0, Value.int .u64 0, Value.int .u64 0, Value.int .u64 0] 0 V.toList = V.toList from HSP.out]
      exact bodyPost_ret (v := .agg V) (results_cell_row (P := Try.prog) rfl _ _ w.heap.size 62 V (0, 0) _ rfl HE.out Try.underlying62 rfl (by rw [show V.size = 8 from HLN.out]; kernel_rfl)) rfl ⟨by rw [HV.out], HB.out⟩
end Go.Proofs.Ytakemnpicokaiaa
