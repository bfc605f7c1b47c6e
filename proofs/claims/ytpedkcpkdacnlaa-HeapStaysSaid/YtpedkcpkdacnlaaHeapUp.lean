/- The contract of heap.up. -/
import Derived.Test.YtpedkcpkdacnlaaHeapRight
import Derived.Test.YtpedkcpkdacnlaaMemReg
import Derived.Deep.Cut
namespace Go.Proofs.Ytpedkcpkdacnlaa
open Go.RowKit
set_option linter.unusedVariables false
def vals (xs : List Int) : List Value := xs.map (Value.int .i64)
theorem vals_get (xs : List Int) (i : Nat) (h : i < xs.length) : (vals xs)[i]? = some (.int .i64 (hp xs i)) := by simp [vals, hp, h]
theorem vals_swp (xs : List Int) (i j : Nat) : ((vals xs).set i (.int .i64 (hp xs j))).set j (.int .i64 (hp xs i)) = vals (swp xs i j) := by simp [vals, swp, List.map_set]
theorem vals_len (xs : List Int) : (vals xs).length = xs.length := by simp [vals]
theorem upF_stop (f : Nat) (xs : List Int) (i : Nat) (h : ¬ (0 < i ∧ hp xs i < hp xs ((i - 1) / 2))) : upF f xs i = xs := by
  cases f with
  | zero => rfl
  | succ f => simp only [upF]; rw [if_neg h]
theorem upF_step (f : Nat) (xs : List Int) (i : Nat) (h : 0 < i ∧ hp xs i < hp xs ((i - 1) / 2)) : upF (f + 1) xs i = upF f (swp xs i ((i - 1) / 2)) ((i - 1) / 2) := by
  simp only [upF]; rw [if_pos h]
set_option maxRecDepth 20000 in
set_option maxHeartbeats 4000000 in
theorem heap_up (W : World) (v : Value) (xs : List Int) (h : W.ownsRow 0 3 1 v xs.length (vals xs)) (hx : 0 < xs.length) (hx2 : xs.length ≤ 1000) :
    Calls Try.prog 46 #[v] W fun e w' => e = .returned v ∧ w'.ownsRow 0 3 1 v xs.length (vals (upF (xs.length - 1) xs (xs.length - 1))) ∧ Kept (fun g => v.ownBlock = some g) W w' := by
  obtain ⟨R, hR⟩ : ∃ R, upF (xs.length - 1) xs (xs.length - 1) = R := ⟨_, rfl⟩
  rw [hR]
  obtain ⟨g, cap, rfl, hc1, hc2, hc3, -⟩ := ownsRow.head h hx
  have HR := Lib.hid hR
  have HM : Mem W (fun g' => g = g') [.row (.slice (some ⟨g, 0, none⟩) xs.length cap) 3 1 xs.length (vals xs)] W := ⟨Kept.refl _ _, fun e he => by simp at he; subst he; exact h, fun e he g' hg => by simp at he; subst he; simp [En.foot, Value.ownBlock] at hg; exact .inl hg, List.pairwise_singleton _ _⟩
  have hl0 : IntKind.i64.wrap ((xs.length : Int) - 1) = ((xs.length - 1 : Nat) : Int) := by rw [IntWalk.i64_in _ (by omega)]; omega
  clear h hR
  go_enter Try.func46, Try.ntmps46
  go_wp2_with fail
  go_loopw [3] (fun i wr => ∃ (j f : Nat) (ys : List Int), j < xs.length ∧ j ≤ f ∧ i = .int .i64 j ∧ ys.length = xs.length ∧ upF f ys j = R ∧ Mem W (fun g' => g = g') [.row (.slice (some ⟨g, 0, none⟩) xs.length cap) 3 1 xs.length (vals ys)] wr) (fun i _ => (intOf i).toNat)
  case atStart => exact ⟨xs.length - 1, xs.length - 1, xs, by omega, by omega, by go_num, rfl, HR.out, HM⟩
  case round =>
    clear HM
    obtain ⟨j, f, ys, hj, hf, rfl, hyl, hu, HM⟩ := hrel
    have HU := Lib.hid hu
    have HYL := Lib.hid hyl
    clear hu hyl
    by_cases h0 : j = 0
    · subst h0
      have g0 : decide ((0 : Int) < ((0 : Nat) : Int)) = false := by simp
      go_upto_region 2 with fail
      refine wp_region_M HM (fun _ => [.row (.slice (some ⟨g, 0, none⟩) xs.length cap) 3 1 xs.length (vals ys)]) rfl (by kernel_rfl) (by kernel_rfl) ?_
      refine wpB_pure (v := ?v1) (by kernel_rfl) (by kernel_rfl) (fun w' => ?h1) (fun K hK => ?k1)
      case h1 =>
        go_simp
        try rfl
      go_simp
      refine hK _ ?_
      clear hK K
      refine wpB_pure (v := ?v2) (by kernel_rfl) (by kernel_rfl) (fun w' => ?h2) (fun K hK => ?k2)
      case h2 =>
        go_simp
        try rfl
      go_simp
      refine hK _ ?_
      clear hK K
      refine wpB_pure (v := ?v3) (by kernel_rfl) (by kernel_rfl) (fun w' => ?h3) (fun K hK => ?k3)
      case h3 =>
        go_simp
        try rfl
      go_simp
      refine hK _ ?_
      clear hK K
      refine wpB_skip (by kernel_rfl) (by kernel_rfl) (fun K hK => ?_)
      go_simp
      refine hK _ ?_
      clear hK K
      refine wpB_skip (by kernel_rfl) (by kernel_rfl) (fun K hK => ?_)
      go_simp
      refine hK _ ?_
      clear hK K
      refine wpB_skip (by kernel_rfl) (by kernel_rfl) (fun K hK => ?_)
      go_simp
      refine hK _ ?_
      clear hK K
      refine wpB_skip (by kernel_rfl) (by kernel_rfl) (fun K hK => ?_)
      go_simp
      refine hK _ ?_
      clear hK K
      refine wpB_skip (by kernel_rfl) (by kernel_rfl) (fun K hK => ?_)
      go_simp
      refine hK _ ?_
      clear hK K
      refine wpB_skip (by kernel_rfl) (by kernel_rfl) (fun K hK => ?_)
      go_simp
      refine hK _ ?_
      clear hK K
      refine wpB_skip (by kernel_rfl) (by kernel_rfl) (fun K hK => ?_)
      go_simp
      refine hK _ ?_
      clear hK K
      refine wpB_skip (by kernel_rfl) (by kernel_rfl) (fun K hK => ?_)
      go_simp
      refine hK _ ?_
      clear hK K
      refine wpB_skip (by kernel_rfl) (by kernel_rfl) (fun K hK => ?_)
      go_simp
      refine hK _ ?_
      clear hK K
      refine wpB_skip (by kernel_rfl) (by kernel_rfl) (fun K hK => ?_)
      go_simp
      refine hK _ ?_
      clear hK K
      refine wpB_skip (by kernel_rfl) (by kernel_rfl) (fun K hK => ?_)
      go_simp
      refine hK _ ?_
      clear hK K
      refine wpB_pure (v := ?v4) (by kernel_rfl) (by kernel_rfl) (fun w' => ?h4) (fun K hK => ?k4)
      case h4 =>
        go_simp
        try rfl
      go_simp
      refine hK _ ?_
      clear hK K
      refine wpB_nil (fun w HM => ?_)
      go_wp2_with fail
      go_ret
      refine ⟨rfl, ?_, HM.kept.mono (fun k hk => by subst hk; rfl)⟩
      have := HU.out
      rw [upF_stop f ys 0 (by omega)] at this
      subst this; exact HM.row .head
    · have g0 : decide ((0 : Int) < (j : Int)) = true := by simp; omega
      have g00 : (0 : Int) < (j : Int) := by omega
      have g01 : 0 < j := by omega
      obtain ⟨p, hp0⟩ : ∃ p, p = (j - 1) / 2 := ⟨_, rfl⟩
      have hpj : p < xs.length := by omega
      have GJ := Lib.hid (vals_get ys j (by have := HYL.out; omega))
      have GP := Lib.hid (vals_get ys p (by have := HYL.out; omega))
      have LJ : Hid (j < (vals ys).length) := Lib.hid (by rw [vals_len]; have := HYL.out; omega)
      have LP : Hid (p < ((vals ys).set j (.int .i64 (hp ys p))).length) := Lib.hid (by rw [List.length_set, vals_len]; have := HYL.out; omega)
      have hw1 : IntKind.i64.wrap ((j : Int) - 1) = (j : Int) - 1 := IntWalk.i64_in _ (by omega)
      have hw2 : IntKind.i64.wrap (((j : Int) - 1).tdiv 2) = (p : Int) := by
        rw [Int.tdiv_eq_ediv_of_nonneg (by omega)]
        rw [IntWalk.i64_in _ (by omega)]; omega
      have hw3 : ((j : Int) - 1).tdiv 2 = (p : Int) := by
        rw [Int.tdiv_eq_ediv_of_nonneg (by omega)]; omega
      have hw4 : IntKind.i64.wrap (p : Int) = (p : Int) := IntWalk.i64_in _ (by omega)
      have hp9 : (0 : Int) ≤ (p : Int) ∧ (p : Int) < (xs.length : Int) := by omega
      have hj9 : (0 : Int) ≤ (j : Int) ∧ (j : Int) < (xs.length : Int) := by omega
      have HP := Lib.hid hp0
      clear hp0
      by_cases hz : hp ys j < hp ys p
      · have g1 : decide (hp ys j < hp ys p) = true := by simp [hz]
        go_upto_region 2 with fail
        refine wp_region_M HM (fun _ => [.row (.slice (some ⟨g, 0, none⟩) xs.length cap) 3 1 xs.length (vals ys)]) rfl (by kernel_rfl) (by kernel_rfl) ?_
        refine wpB_pure (v := ?v5) (by kernel_rfl) (by kernel_rfl) (fun w' => ?h5) (fun K hK => ?k5)
        case h5 =>
          go_simp
          try rfl
        go_simp
        refine hK _ ?_
        clear hK K
        refine wpB_pure (v := ?v6) (by kernel_rfl) (by kernel_rfl) (fun w' => ?h6) (fun K hK => ?k6)
        case h6 =>
          go_simp
          try rfl
        go_simp
        refine hK _ ?_
        clear hK K
        refine wpB_pure (v := ?v7) (by kernel_rfl) (by kernel_rfl) (fun w' => ?h7) (fun K hK => ?k7)
        case h7 =>
          go_simp
          try rfl
        go_simp
        refine hK _ ?_
        clear hK K
        refine wpB_pure (v := ?v8) (by kernel_rfl) (by kernel_rfl) (fun w' => ?h8) (fun K hK => ?k8)
        case h8 =>
          go_simp
          try rfl
        go_simp
        refine hK _ ?_
        clear hK K
        refine wpB_pure (v := ?v9) (by kernel_rfl) (by kernel_rfl) (fun w' => ?h9) (fun K hK => ?k9)
        case h9 =>
          go_simp
          try rfl
        go_simp
        refine hK _ ?_
        clear hK K
        refine wpB_pure (v := ?v10) (by kernel_rfl) (by kernel_rfl) (fun w' => ?h10) (fun K hK => ?k10)
        case h10 =>
          go_simp
          try rfl
        go_simp
        refine hK _ ?_
        clear hK K
        (refine wpB_loadMR (by kernel_rfl) (by kernel_rfl) (by kernel_rfl) rfl rfl (by repeat (first | exact Sel.head | apply Sel.tail)) (GJ.out) (by kernel_rfl) (fun K hK => ?_))
        go_simp
        refine hK _ ?_
        clear hK K
        refine wpB_pure (v := ?v11) (by kernel_rfl) (by kernel_rfl) (fun w' => ?h11) (fun K hK => ?k11)
        case h11 =>
          go_simp
          try rfl
        go_simp
        refine hK _ ?_
        clear hK K
        refine wpB_pure (v := ?v12) (by kernel_rfl) (by kernel_rfl) (fun w' => ?h12) (fun K hK => ?k12)
        case h12 =>
          go_simp
          try rfl
        go_simp
        refine hK _ ?_
        clear hK K
        refine wpB_pure (v := ?v13) (by kernel_rfl) (by kernel_rfl) (fun w' => ?h13) (fun K hK => ?k13)
        case h13 =>
          go_simp
          try rfl
        go_simp
        refine hK _ ?_
        clear hK K
        refine wpB_pure (v := ?v14) (by kernel_rfl) (by kernel_rfl) (fun w' => ?h14) (fun K hK => ?k14)
        case h14 =>
          go_simp
          try rfl
        go_simp
        refine hK _ ?_
        clear hK K
        refine wpB_pure (v := ?v15) (by kernel_rfl) (by kernel_rfl) (fun w' => ?h15) (fun K hK => ?k15)
        case h15 =>
          go_simp
          try rfl
        go_simp
        refine hK _ ?_
        clear hK K
        (refine wpB_loadMR (by kernel_rfl) (by kernel_rfl) (by kernel_rfl) rfl rfl (by repeat (first | exact Sel.head | apply Sel.tail)) (GP.out) (by kernel_rfl) (fun K hK => ?_))
        go_simp
        refine hK _ ?_
        clear hK K
        refine wpB_pure (v := ?v16) (by kernel_rfl) (by kernel_rfl) (fun w' => ?h16) (fun K hK => ?k16)
        case h16 =>
          go_simp
          try rfl
        go_simp
        refine hK _ ?_
        clear hK K
        refine wpB_pure (v := ?v17) (by kernel_rfl) (by kernel_rfl) (fun w' => ?h17) (fun K hK => ?k17)
        case h17 =>
          go_simp
          try rfl
        go_simp
        refine hK _ ?_
        clear hK K
        refine wpB_nil (fun w HM => ?_)
        go_upto_region 4 with fail
        refine wp_region_M HM (fun k => match k with | 0 => [.row (.slice (some ⟨g, 0, none⟩) xs.length cap) 3 1 xs.length (vals ys)] | 1 => [.row (.slice (some ⟨g, 0, none⟩) xs.length cap) 3 1 xs.length ((vals ys).set j (.int .i64 (hp ys p)))] | _ => [.row (.slice (some ⟨g, 0, none⟩) xs.length cap) 3 1 xs.length (((vals ys).set j (.int .i64 (hp ys p))).set p (.int .i64 (hp ys j)))]) rfl (by kernel_rfl) (by kernel_rfl) ?_
        refine wpB_pure (v := ?v18) (by kernel_rfl) (by kernel_rfl) (fun w' => ?h18) (fun K hK => ?k18)
        case h18 =>
          go_simp
          try rfl
        go_simp
        refine hK _ ?_
        clear hK K
        refine wpB_pure (v := ?v19) (by kernel_rfl) (by kernel_rfl) (fun w' => ?h19) (fun K hK => ?k19)
        case h19 =>
          go_simp
          try rfl
        go_simp
        refine hK _ ?_
        clear hK K
        refine wpB_pure (v := ?v20) (by kernel_rfl) (by kernel_rfl) (fun w' => ?h20) (fun K hK => ?k20)
        case h20 =>
          go_simp
          try rfl
        go_simp
        refine hK _ ?_
        clear hK K
        refine wpB_pure (v := ?v21) (by kernel_rfl) (by kernel_rfl) (fun w' => ?h21) (fun K hK => ?k21)
        case h21 =>
          go_simp
          try rfl
        go_simp
        refine hK _ ?_
        clear hK K
        refine wpB_pure (v := ?v22) (by kernel_rfl) (by kernel_rfl) (fun w' => ?h22) (fun K hK => ?k22)
        case h22 =>
          go_simp
          try rfl
        go_simp
        refine hK _ ?_
        clear hK K
        refine wpB_pure (v := ?v23) (by kernel_rfl) (by kernel_rfl) (fun w' => ?h23) (fun K hK => ?k23)
        case h23 =>
          go_simp
          try rfl
        go_simp
        refine hK _ ?_
        clear hK K
        refine wpB_pure (v := ?v24) (by kernel_rfl) (by kernel_rfl) (fun w' => ?h24) (fun K hK => ?k24)
        case h24 =>
          go_simp
          try rfl
        go_simp
        refine hK _ ?_
        clear hK K
        refine wpB_pure (v := ?v25) (by kernel_rfl) (by kernel_rfl) (fun w' => ?h25) (fun K hK => ?k25)
        case h25 =>
          go_simp
          try rfl
        go_simp
        refine hK _ ?_
        clear hK K
        refine wpB_pure (v := ?v26) (by kernel_rfl) (by kernel_rfl) (fun w' => ?h26) (fun K hK => ?k26)
        case h26 =>
          go_simp
          try rfl
        go_simp
        refine hK _ ?_
        clear hK K
        refine wpB_pure (v := ?v27) (by kernel_rfl) (by kernel_rfl) (fun w' => ?h27) (fun K hK => ?k27)
        case h27 =>
          go_simp
          try rfl
        go_simp
        refine hK _ ?_
        clear hK K
        refine wpB_pure (v := ?v28) (by kernel_rfl) (by kernel_rfl) (fun w' => ?h28) (fun K hK => ?k28)
        case h28 =>
          go_simp
          try rfl
        go_simp
        refine hK _ ?_
        clear hK K
        (refine wpB_loadMR (by kernel_rfl) (by kernel_rfl) (by kernel_rfl) rfl rfl (by repeat (first | exact Sel.head | apply Sel.tail)) (GP.out) (by kernel_rfl) (fun K hK => ?_))
        go_simp
        refine hK _ ?_
        clear hK K
        refine wpB_pure (v := ?v29) (by kernel_rfl) (by kernel_rfl) (fun w' => ?h29) (fun K hK => ?k29)
        case h29 =>
          go_simp
          try rfl
        go_simp
        refine hK _ ?_
        clear hK K
        refine wpB_pure (v := ?v30) (by kernel_rfl) (by kernel_rfl) (fun w' => ?h30) (fun K hK => ?k30)
        case h30 =>
          go_simp
          try rfl
        go_simp
        refine hK _ ?_
        clear hK K
        refine wpB_pure (v := ?v31) (by kernel_rfl) (by kernel_rfl) (fun w' => ?h31) (fun K hK => ?k31)
        case h31 =>
          go_simp
          try rfl
        go_simp
        refine hK _ ?_
        clear hK K
        (refine wpB_loadMR (by kernel_rfl) (by kernel_rfl) (by kernel_rfl) rfl rfl (by repeat (first | exact Sel.head | apply Sel.tail)) (GJ.out) (by kernel_rfl) (fun K hK => ?_))
        go_simp
        refine hK _ ?_
        clear hK K
        refine wpB_pure (v := ?v32) (by kernel_rfl) (by kernel_rfl) (fun w' => ?h32) (fun K hK => ?k32)
        case h32 =>
          go_simp
          try rfl
        go_simp
        refine hK _ ?_
        clear hK K
        (refine wpB_storeMR (by kernel_rfl) (by kernel_rfl) rfl rfl rfl (by repeat (first | exact Sel.head | apply Sel.tail)) (LJ.out) (by kernel_rfl) rfl rfl (fun K hK => ?_))
        go_simp
        refine hK _ ?_
        clear hK K
        refine wpB_pure (v := ?v33) (by kernel_rfl) (by kernel_rfl) (fun w' => ?h33) (fun K hK => ?k33)
        case h33 =>
          go_simp
          try rfl
        go_simp
        refine hK _ ?_
        clear hK K
        (refine wpB_storeMR (by kernel_rfl) (by kernel_rfl) rfl rfl rfl (by repeat (first | exact Sel.head | apply Sel.tail)) (LP.out) (by kernel_rfl) rfl rfl (fun K hK => ?_))
        go_simp
        refine hK _ ?_
        clear hK K
        refine wpB_nil (fun w HM => ?_)
        have HS := HYL.out
        rw [vals_swp ys j p] at HM
        go_wp2_with fail
        go_roundw
        case rel =>
          cases f with
          | zero => omega
          | succ f =>
            refine ⟨p, f, swp ys j p, by omega, by have := HP.out; omega, by go_num, by rw [swp_length]; exact HYL.out, ?_, HM⟩
            have h1 := HU.out
            rw [upF_step f ys j ⟨g01, by rw [← HP.out]; exact hz⟩, ← HP.out] at h1
            exact h1
        case measure => have := HP.out; simp [intOf]; omega
      · have g1 : decide (hp ys j < hp ys p) = false := by simp [hz]
        go_upto_region 2 with fail
        refine wp_region_M HM (fun _ => [.row (.slice (some ⟨g, 0, none⟩) xs.length cap) 3 1 xs.length (vals ys)]) rfl (by kernel_rfl) (by kernel_rfl) ?_
        refine wpB_pure (v := ?v34) (by kernel_rfl) (by kernel_rfl) (fun w' => ?h34) (fun K hK => ?k34)
        case h34 =>
          go_simp
          try rfl
        go_simp
        refine hK _ ?_
        clear hK K
        refine wpB_pure (v := ?v35) (by kernel_rfl) (by kernel_rfl) (fun w' => ?h35) (fun K hK => ?k35)
        case h35 =>
          go_simp
          try rfl
        go_simp
        refine hK _ ?_
        clear hK K
        refine wpB_pure (v := ?v36) (by kernel_rfl) (by kernel_rfl) (fun w' => ?h36) (fun K hK => ?k36)
        case h36 =>
          go_simp
          try rfl
        go_simp
        refine hK _ ?_
        clear hK K
        refine wpB_pure (v := ?v37) (by kernel_rfl) (by kernel_rfl) (fun w' => ?h37) (fun K hK => ?k37)
        case h37 =>
          go_simp
          try rfl
        go_simp
        refine hK _ ?_
        clear hK K
        refine wpB_pure (v := ?v38) (by kernel_rfl) (by kernel_rfl) (fun w' => ?h38) (fun K hK => ?k38)
        case h38 =>
          go_simp
          try rfl
        go_simp
        refine hK _ ?_
        clear hK K
        refine wpB_pure (v := ?v39) (by kernel_rfl) (by kernel_rfl) (fun w' => ?h39) (fun K hK => ?k39)
        case h39 =>
          go_simp
          try rfl
        go_simp
        refine hK _ ?_
        clear hK K
        (refine wpB_loadMR (by kernel_rfl) (by kernel_rfl) (by kernel_rfl) rfl rfl (by repeat (first | exact Sel.head | apply Sel.tail)) (GJ.out) (by kernel_rfl) (fun K hK => ?_))
        go_simp
        refine hK _ ?_
        clear hK K
        refine wpB_pure (v := ?v40) (by kernel_rfl) (by kernel_rfl) (fun w' => ?h40) (fun K hK => ?k40)
        case h40 =>
          go_simp
          try rfl
        go_simp
        refine hK _ ?_
        clear hK K
        refine wpB_pure (v := ?v41) (by kernel_rfl) (by kernel_rfl) (fun w' => ?h41) (fun K hK => ?k41)
        case h41 =>
          go_simp
          try rfl
        go_simp
        refine hK _ ?_
        clear hK K
        refine wpB_pure (v := ?v42) (by kernel_rfl) (by kernel_rfl) (fun w' => ?h42) (fun K hK => ?k42)
        case h42 =>
          go_simp
          try rfl
        go_simp
        refine hK _ ?_
        clear hK K
        refine wpB_pure (v := ?v43) (by kernel_rfl) (by kernel_rfl) (fun w' => ?h43) (fun K hK => ?k43)
        case h43 =>
          go_simp
          try rfl
        go_simp
        refine hK _ ?_
        clear hK K
        refine wpB_pure (v := ?v44) (by kernel_rfl) (by kernel_rfl) (fun w' => ?h44) (fun K hK => ?k44)
        case h44 =>
          go_simp
          try rfl
        go_simp
        refine hK _ ?_
        clear hK K
        (refine wpB_loadMR (by kernel_rfl) (by kernel_rfl) (by kernel_rfl) rfl rfl (by repeat (first | exact Sel.head | apply Sel.tail)) (GP.out) (by kernel_rfl) (fun K hK => ?_))
        go_simp
        refine hK _ ?_
        clear hK K
        refine wpB_pure (v := ?v45) (by kernel_rfl) (by kernel_rfl) (fun w' => ?h45) (fun K hK => ?k45)
        case h45 =>
          go_simp
          try rfl
        go_simp
        refine hK _ ?_
        clear hK K
        refine wpB_pure (v := ?v46) (by kernel_rfl) (by kernel_rfl) (fun w' => ?h46) (fun K hK => ?k46)
        case h46 =>
          go_simp
          try rfl
        go_simp
        refine hK _ ?_
        clear hK K
        refine wpB_nil (fun w HM => ?_)
        go_wp2_with fail
        go_ret
        refine ⟨rfl, ?_, HM.kept.mono (fun k hk => by subst hk; rfl)⟩
        have := HU.out
        rw [upF_stop f ys j (by rw [← HP.out]; omega)] at this
        subst this; exact HM.row .head
end Go.Proofs.Ytpedkcpkdacnlaa
