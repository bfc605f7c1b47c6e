/- The contract of the law package's helper 'few'. -/
import Derived.Test.YtpedkcpkdacnlaaClone
import Derived.Test.YtpedkcpkdacnlaaRow
import Derived.Test.YtpedkcpkdacnlaaPut
namespace Go.Proofs.Ytpedkcpkdacnlaa
open Go.RowKit
def fewL (ys : List Int) : List Int := (ys.take 6).map (pickZ · 4294967296)
theorem fewL_len (ys : List Int) : (fewL ys).length ≤ 6 := by unfold fewL; simp; omega
def fewTo (zs : List Int) (k : Nat) : List Int := (zs.take k).map (pickZ · 4294967296) ++ zs.drop k
theorem fewTo_len (zs : List Int) (k : Nat) : (fewTo zs k).length = zs.length := by unfold fewTo; simp; omega
theorem fewTo_zero (zs : List Int) : fewTo zs 0 = zs := by simp [fewTo]
theorem fewTo_all (zs : List Int) : fewTo zs zs.length = zs.map (pickZ · 4294967296) := by simp [fewTo]
theorem fewTo_get (zs : List Int) (k : Nat) (h : k < zs.length) : (fewTo zs k).getD k 0 = zs.getD k 0 := by
  unfold fewTo
  rw [List.getD_eq_getElem?_getD, List.getD_eq_getElem?_getD, List.getElem?_append_right (by simp; omega)]
  simp [Nat.min_eq_left (Nat.le_of_lt h)]
theorem fewTo_set (zs : List Int) (k : Nat) (h : k < zs.length) : (fewTo zs k).set k (pickZ (zs.getD k 0) 4294967296) = fewTo zs (k + 1) := by
  apply List.ext_getElem?
  intro i
  unfold fewTo
  rw [List.getElem?_set]
  by_cases hk : k = i
  · subst hk
    simp [List.getElem?_append, h, Nat.min_eq_left (Nat.le_of_lt h), Nat.min_eq_left h]
    omega
  · simp only [hk, if_false]
    by_cases hi : i < k
    · rw [List.getElem?_append_left (by simp; omega), List.getElem?_append_left (by simp; omega)]
      simp [hi, Nat.lt_succ_of_lt hi]
    · rw [List.getElem?_append_right (by simp; omega), List.getElem?_append_right (by simp; omega)]
      simp [Nat.min_eq_left (Nat.le_of_lt h), Nat.min_eq_left h]
      congr 1; omega
theorem row_sl {w : World} {a : Option Addr} {len cap : Nat} {zs : List Int} (h : IsRow .i64 w a len cap zs) :
    ∃ ys : List Int, ys.length = len ∧ Sl w (.slice a len cap) ys := by
  obtain ⟨ys, rfl, h1, h2, -, h3⟩ := row_cases h
  refine ⟨ys, rfl, a, cap, rfl, h1, h2, ?_⟩
  rcases h3 with ⟨rfl, h4, rfl⟩ | ⟨h4, x, rfl⟩ | ⟨b, off, rfl, h4, h5, h6⟩
  · exact .inl ⟨h4, fun _ => rfl⟩
  · exact .inl ⟨h4, fun h => by cases h⟩
  · exact .inr ⟨b, off, rfl, h5, fun j hj => by rw [h6 j hj, List.getD_eq_getElem?_getD]⟩
set_option maxHeartbeats 1000000 in
theorem few_any (a0 : Option Addr) (len0 cap0 : Nat) (ys : List Int) (w : World) (hl : ys.length = len0) (w0 : Sl w (.slice a0 len0 cap0) ys) :
    Calls Try.prog 23 #[.slice a0 len0 cap0] w fun e w' => ∃ v', e = .returned v' ∧ Own w' w.heap.size v' (fewL ys) ∧ Below w.heap.size w w' := by
  have h63 : len0 ≤ cap0 ∧ cap0 ≤ 9223372036854775807 := by obtain ⟨_, _, he, h1, h2, -⟩ := w0; simp at he; omega
  obtain ⟨hcap, hmax⟩ := h63
  obtain ⟨m, hm0, hm, hm6⟩ : ∃ m : Nat, (m : Int) = min (len0 : Int) 6 ∧ m ≤ ys.length ∧ ys.take 6 = ys.take m := by
    by_cases h : len0 ≤ 6
    · exact ⟨len0, by omega, by omega, by rw [List.take_of_length_le (by omega), List.take_of_length_le (by omega)]⟩
    · exact ⟨6, by omega, by omega, rfl⟩
  have ht := w0.take m hm
  have hf : fewL ys = (ys.take m).map (pickZ · 4294967296) := by unfold fewL; rw [hm6]
  have hzl : (ys.take m).length = m := by simp; omega
  have hm6' : m ≤ 6 := by omega
  have hmc : (m : Int) ≤ cap0 := by omega
  rw [hf]
  generalize ys.take m = zs at *
  have HT := Lib.hid ht; have HM := Lib.hid hm0
  clear ht w0 hf hm6 hm hm0 hl
  subst hzl
  go_enter Try.func23, Try.ntmps23
  go_wp2_with fail
  rw [show (min (len0 : Int) 6).toNat = zs.length from by have := HM.out; omega]
  refine (clone_any _ _ zs HT.out (by omega)).mono ?_
  rintro e w1 ⟨v1, rfl, ho, hb⟩
  obtain ⟨a1, cap1, rfl⟩ := ho.sl.slice
  have HO : Hid (Own w1 w.heap.size (.slice a1 zs.length cap1) (fewTo zs 0)) := by rw [fewTo_zero]; exact ho
  clear ho HM
  go_wp2_with fail
  go_loopw [12] (fun i wr => ∃ k : Nat, k ≤ zs.length ∧ i = .int .i64 k ∧ Below w.heap.size w wr ∧ Hid (Own wr w.heap.size (.slice a1 zs.length cap1) (fewTo zs k)))
    (fun i _ => zs.length - (intOf i).toNat)
  case atStart => exact ⟨0, Nat.zero_le _, rfl, hb, HO⟩
  case round =>
    obtain ⟨k, hk, rfl, hbr, hor⟩ := hrel
    by_cases hlt : k < zs.length
    · obtain ⟨g, cap2, he, hg1, hg2, hg3, hg4, hc, hf⟩ := hor.out.head (by rw [fewTo_len]; omega)
      simp only [Value.slice.injEq] at he
      obtain ⟨rfl, -, rfl⟩ := he
      have c1 := hc k (by rw [fewTo_len]; exact hlt)
      rw [fewTo_get zs k hlt] at c1
      have f1 := hf (0 + k)
      have hset := hor.out.set k (pickZ (zs.getD k 0) 4294967296)
      rw [fewTo_set zs k hlt] at hset
      have HSET := Lib.hid hset
      generalize zs.getD k 0 = z at *
      simp only [Nat.zero_add] at c1 f1
      clear hset hc hf
      go_wp2_with fail
      refine (pick_any _ _ _ (by decide) (by decide)).mono ?_
      rintro e w' ⟨rfl, rfl⟩
      go_wp2_with fail
      go_roundw
      case rel => exact ⟨k + 1, by omega, by go_num, bstore hbr hg1 _, Lib.hid (by simpa using HSET.out)⟩
      case measure => simp [intOf]; omega
    · obtain rfl : k = zs.length := by omega
      have ho := hor.out
      rw [fewTo_all] at ho
      have HO2 := Lib.hid ho
      clear ho hor
      go_wp2_with fail
      go_ret
      exact ⟨_, rfl, HO2.out, hbr⟩
end Go.Proofs.Ytpedkcpkdacnlaa
