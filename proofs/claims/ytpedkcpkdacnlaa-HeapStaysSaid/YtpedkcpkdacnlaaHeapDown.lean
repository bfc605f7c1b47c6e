/- The contract of heap.down. -/
import Derived.Test.YtpedkcpkdacnlaaHeapUp
namespace Go.Proofs.Ytpedkcpkdacnlaa
open Go.RowKit
set_option linter.unusedVariables false
theorem downF_stop (f : Nat) (xs : List Int) (i : Nat) (h : xs.length ≤ kid xs i ∨ hp xs i ≤ hp xs (kid xs i)) : downF f xs i = xs := by
  cases f with
  | zero => rfl
  | succ f => simp only [downF]; rw [if_pos h]
theorem downF_step (f : Nat) (xs : List Int) (i : Nat) (h : ¬ (xs.length ≤ kid xs i ∨ hp xs i ≤ hp xs (kid xs i))) : downF (f + 1) xs i = downF f (swp xs i (kid xs i)) (kid xs i) := by
  simp only [downF]; rw [if_neg h]
theorem kid_one (xs : List Int) (i k : Nat) (hk : k = 2 * i + 1) (h : ¬ (2 * i + 2 < xs.length ∧ hp xs (2 * i + 2) < hp xs (2 * i + 1))) : kid xs i = k := by unfold kid; rw [if_neg h, hk]
theorem kid_two (xs : List Int) (i k : Nat) (hk : k = 2 * i + 2) (h : (2 * i + 2 < xs.length ∧ hp xs (2 * i + 2) < hp xs (2 * i + 1))) : kid xs i = k := by unfold kid; rw [if_pos h, hk]
set_option maxRecDepth 20000 in
set_option maxHeartbeats 4000000 in
theorem heap_down (W : World) (g cap : Nat) (xs : List Int) (h : W.ownsRow 0 3 1 (.slice (some ⟨g, 0, none⟩) xs.length cap) xs.length (vals xs)) (hx2 : xs.length ≤ 1000) :
    Calls Try.prog 47 #[.slice (some ⟨g, 0, none⟩) xs.length cap] W fun e w' => e = .returned (.slice (some ⟨g, 0, none⟩) xs.length cap) ∧ w'.ownsRow 0 3 1 (.slice (some ⟨g, 0, none⟩) xs.length cap) xs.length (vals (downF xs.length xs 0)) ∧ Kept (· = g) W w' := by
  obtain ⟨R, hR⟩ : ∃ R, downF xs.length xs 0 = R := ⟨_, rfl⟩
  rw [hR]
  obtain ⟨-, -, -, hc1, -, hc2, -⟩ := ownsRow.cells h
  have HR := Lib.hid hR
  have HM : Mem W (fun g' => g = g') [.row (.slice (some ⟨g, 0, none⟩) xs.length cap) 3 1 xs.length (vals xs)] W := ⟨Kept.refl _ _, fun e he => by simp at he; subst he; exact h, fun e he g' hg => by simp at he; subst he; simp [En.foot, Value.ownBlock] at hg; exact .inl hg, List.pairwise_singleton _ _⟩
  unfold maxLen at hc2
  clear h hR
  go_enter Try.func47, Try.ntmps47
  go_wp2_with fail
  go_loopw [3] (fun i wr => ∃ (j f : Nat) (ys : List Int), (j < xs.length ∨ j = 0) ∧ xs.length ≤ j + f ∧ i = .int .i64 j ∧ ys.length = xs.length ∧ downF f ys j = R ∧ Mem W (fun g' => g = g') [.row (.slice (some ⟨g, 0, none⟩) xs.length cap) 3 1 xs.length (vals ys)] wr) (fun i _ => xs.length - (intOf i).toNat)
  case atStart => exact ⟨0, xs.length, xs, by omega, by omega, by go_num, rfl, HR.out, HM⟩
  case round =>
    clear HM
    obtain ⟨j, f, ys, hj, hf, rfl, hyl, hu, HM⟩ := hrel
    have HU := Lib.hid hu
    have HYL := Lib.hid hyl
    clear hu hyl
    obtain ⟨k, hk⟩ : ∃ k, k = 2 * j + 1 := ⟨_, rfl⟩
    obtain ⟨k2, hk2⟩ : ∃ k2, k2 = 2 * j + 2 := ⟨_, rfl⟩
    have m1 : IntKind.i64.wrap (2 * (j : Int)) = 2 * (j : Int) := IntWalk.i64_in _ (by omega)
    have m2 : 2 * (j : Int) + 1 = (k : Int) := by omega
    have m3 : (k : Int) + 1 = (k2 : Int) := by omega
    have m4 : IntKind.i64.wrap (k : Int) = (k : Int) := IntWalk.i64_in _ (by omega)
    have m5 : IntKind.i64.wrap (k2 : Int) = (k2 : Int) := IntWalk.i64_in _ (by omega)
    have m6 : IntKind.i64.wrap (j : Int) = (j : Int) := IntWalk.i64_in _ (by omega)
    have m7 : wrap64 (k : Int) = (k : Int) := IntWalk.wrap64_in _ ⟨by omega, by omega⟩
    have m8 : wrap64 (k2 : Int) = (k2 : Int) := IntWalk.wrap64_in _ ⟨by omega, by omega⟩
    have HK1 := Lib.hid hk
    have HK2 := Lib.hid hk2
    have hkl : k2 ≤ 3000 ∧ k ≤ 3000 ∧ j < k ∧ k < k2 := by omega
    obtain ⟨z1, z2, z3, z4⟩ := hkl
    clear hk hk2
    go_upto_region 3 with fail
    by_cases hlt : k2 < xs.length
    · have g3 : decide ((k2 : Int) < (xs.length : Int)) = true := by simp; omega
      have GK1 := Lib.hid (vals_get ys k (by have := HYL.out; omega))
      have GK2 := Lib.hid (vals_get ys k2 (by have := HYL.out; omega))
      have p1 : (0 : Int) ≤ (k : Int) ∧ (k : Int) < (xs.length : Int) := by omega
      have p2 : (0 : Int) ≤ (k2 : Int) ∧ (k2 : Int) < (xs.length : Int) := by omega
      by_cases hy : hp ys k2 < hp ys k
      · have g4 : decide (hp ys k2 < hp ys k) = true := by simp [hy]
        refine wp_region_M HM (fun _ => [.row (.slice (some ⟨g, 0, none⟩) xs.length cap) 3 1 xs.length (vals ys)]) rfl (by kernel_rfl) (by kernel_rfl) ?_
        refine wpB_pure (v := ?v1) (by kernel_rfl) (by kernel_rfl) (fun w' => ?h1) (fun K hK => ?k1)
        case h1 =>
          go_simp
          try rfl
        go_simp
        refine hK _ ?_
        clear hK K
        refine wpB_pure (v := ?v2) (by kernel_rfl) (by kernel_rfl) (fun w' => ?h2) (fun K hK => ?k2)
        case h2 =>
          go_simp
          try rfl
        go_simp
        refine hK _ ?_
        clear hK K
        refine wpB_pure (v := ?v3) (by kernel_rfl) (by kernel_rfl) (fun w' => ?h3) (fun K hK => ?k3)
        case h3 =>
          go_simp
          try rfl
        go_simp
        refine hK _ ?_
        clear hK K
        refine wpB_pure (v := ?v4) (by kernel_rfl) (by kernel_rfl) (fun w' => ?h4) (fun K hK => ?k4)
        case h4 =>
          go_simp
          try rfl
        go_simp
        refine hK _ ?_
        clear hK K
        refine wpB_pure (v := ?v5) (by kernel_rfl) (by kernel_rfl) (fun w' => ?h5) (fun K hK => ?k5)
        case h5 =>
          go_simp
          try rfl
        go_simp
        refine hK _ ?_
        clear hK K
        refine wpB_pure (v := ?v6) (by kernel_rfl) (by kernel_rfl) (fun w' => ?h6) (fun K hK => ?k6)
        case h6 =>
          go_simp
          try rfl
        go_simp
        refine hK _ ?_
        clear hK K
        refine wpB_pure (v := ?v7) (by kernel_rfl) (by kernel_rfl) (fun w' => ?h7) (fun K hK => ?k7)
        case h7 =>
          go_simp
          try rfl
        go_simp
        refine hK _ ?_
        clear hK K
        refine wpB_pure (v := ?v8) (by kernel_rfl) (by kernel_rfl) (fun w' => ?h8) (fun K hK => ?k8)
        case h8 =>
          go_simp
          try rfl
        go_simp
        refine hK _ ?_
        clear hK K
        refine wpB_pure (v := ?v9) (by kernel_rfl) (by kernel_rfl) (fun w' => ?h9) (fun K hK => ?k9)
        case h9 =>
          go_simp
          try rfl
        go_simp
        refine hK _ ?_
        clear hK K
        refine wpB_pure (v := ?v10) (by kernel_rfl) (by kernel_rfl) (fun w' => ?h10) (fun K hK => ?k10)
        case h10 =>
          go_simp
          try rfl
        go_simp
        refine hK _ ?_
        clear hK K
        (refine wpB_loadMR (by kernel_rfl) (by kernel_rfl) (by kernel_rfl) rfl rfl (by repeat (first | exact Sel.head | apply Sel.tail)) (GK2.out) (by kernel_rfl) (fun K hK => ?_))
        go_simp
        refine hK _ ?_
        clear hK K
        refine wpB_pure (v := ?v11) (by kernel_rfl) (by kernel_rfl) (fun w' => ?h11) (fun K hK => ?k11)
        case h11 =>
          go_simp
          try rfl
        go_simp
        refine hK _ ?_
        clear hK K
        refine wpB_pure (v := ?v12) (by kernel_rfl) (by kernel_rfl) (fun w' => ?h12) (fun K hK => ?k12)
        case h12 =>
          go_simp
          try rfl
        go_simp
        refine hK _ ?_
        clear hK K
        refine wpB_pure (v := ?v13) (by kernel_rfl) (by kernel_rfl) (fun w' => ?h13) (fun K hK => ?k13)
        case h13 =>
          go_simp
          try rfl
        go_simp
        refine hK _ ?_
        clear hK K
        (refine wpB_loadMR (by kernel_rfl) (by kernel_rfl) (by kernel_rfl) rfl rfl (by repeat (first | exact Sel.head | apply Sel.tail)) (GK1.out) (by kernel_rfl) (fun K hK => ?_))
        go_simp
        refine hK _ ?_
        clear hK K
        refine wpB_pure (v := ?v14) (by kernel_rfl) (by kernel_rfl) (fun w' => ?h14) (fun K hK => ?k14)
        case h14 =>
          go_simp
          try rfl
        go_simp
        refine hK _ ?_
        clear hK K
        refine wpB_pure (v := ?v15) (by kernel_rfl) (by kernel_rfl) (fun w' => ?h15) (fun K hK => ?k15)
        case h15 =>
          go_simp
          try rfl
        go_simp
        refine hK _ ?_
        clear hK K
        refine wpB_nil (fun w HM => ?_)
        have HKID : Hid (kid ys j = k2) := Lib.hid (kid_two ys j k2 HK2.out (by rw [← HK1.out, ← HK2.out, HYL.out]; exact ⟨hlt, hy⟩))
        have HKL : Hid (j < k2) := Lib.hid (by omega)
        clear GK1 GK2
        by_cases hkn : xs.length ≤ k2
        · have g5 : decide ((xs.length : Int) ≤ (k2 : Int)) = true := by simp; omega
          go_upto_region 5 with fail
          refine wp_region_M HM (fun _ => [.row (.slice (some ⟨g, 0, none⟩) xs.length cap) 3 1 xs.length (vals ys)]) rfl (by kernel_rfl) (by kernel_rfl) ?_
          refine wpB_pure (v := ?v16) (by kernel_rfl) (by kernel_rfl) (fun w' => ?h16) (fun K hK => ?k16)
          case h16 =>
            go_simp
            try rfl
          go_simp
          refine hK _ ?_
          clear hK K
          refine wpB_pure (v := ?v17) (by kernel_rfl) (by kernel_rfl) (fun w' => ?h17) (fun K hK => ?k17)
          case h17 =>
            go_simp
            try rfl
          go_simp
          refine hK _ ?_
          clear hK K
          refine wpB_pure (v := ?v18) (by kernel_rfl) (by kernel_rfl) (fun w' => ?h18) (fun K hK => ?k18)
          case h18 =>
            go_simp
            try rfl
          go_simp
          refine hK _ ?_
          clear hK K
          refine wpB_pure (v := ?v19) (by kernel_rfl) (by kernel_rfl) (fun w' => ?h19) (fun K hK => ?k19)
          case h19 =>
            go_simp
            try rfl
          go_simp
          refine hK _ ?_
          clear hK K
          refine wpB_pure (v := ?v20) (by kernel_rfl) (by kernel_rfl) (fun w' => ?h20) (fun K hK => ?k20)
          case h20 =>
            go_simp
            try rfl
          go_simp
          refine hK _ ?_
          clear hK K
          refine wpB_skip (by kernel_rfl) (by kernel_rfl) (fun K hK => ?_)
          go_simp
          refine hK _ ?_
          clear hK K
          refine wpB_skip (by kernel_rfl) (by kernel_rfl) (fun K hK => ?_)
          go_simp
          refine hK _ ?_
          clear hK K
          refine wpB_skip (by kernel_rfl) (by kernel_rfl) (fun K hK => ?_)
          go_simp
          refine hK _ ?_
          clear hK K
          refine wpB_skip (by kernel_rfl) (by kernel_rfl) (fun K hK => ?_)
          go_simp
          refine hK _ ?_
          clear hK K
          refine wpB_skip (by kernel_rfl) (by kernel_rfl) (fun K hK => ?_)
          go_simp
          refine hK _ ?_
          clear hK K
          refine wpB_skip (by kernel_rfl) (by kernel_rfl) (fun K hK => ?_)
          go_simp
          refine hK _ ?_
          clear hK K
          refine wpB_skip (by kernel_rfl) (by kernel_rfl) (fun K hK => ?_)
          go_simp
          refine hK _ ?_
          clear hK K
          refine wpB_skip (by kernel_rfl) (by kernel_rfl) (fun K hK => ?_)
          go_simp
          refine hK _ ?_
          clear hK K
          refine wpB_skip (by kernel_rfl) (by kernel_rfl) (fun K hK => ?_)
          go_simp
          refine hK _ ?_
          clear hK K
          refine wpB_pure (v := ?v21) (by kernel_rfl) (by kernel_rfl) (fun w' => ?h21) (fun K hK => ?k21)
          case h21 =>
            go_simp
            try rfl
          go_simp
          refine hK _ ?_
          clear hK K
          refine wpB_nil (fun w HM => ?_)
          go_wp2_with fail
          go_ret
          refine ⟨rfl, ?_, HM.kept.mono (fun k hk => by subst hk; rfl)⟩
          have := HU.out
          rw [downF_stop f ys j (.inl (by rw [HKID.out, HYL.out]; exact hkn))] at this
          subst this; exact HM.row .head
        · have g5 : decide ((xs.length : Int) ≤ (k2 : Int)) = false := by simp; omega
          have GJ := Lib.hid (vals_get ys j (by have := HYL.out; omega))
          have GK := Lib.hid (vals_get ys k2 (by have := HYL.out; omega))
          have LJ : Hid (j < (vals ys).length) := Lib.hid (by rw [vals_len]; have := HYL.out; omega)
          have LK : Hid (k2 < ((vals ys).set j (.int .i64 (hp ys k2))).length) := Lib.hid (by rw [List.length_set, vals_len]; have := HYL.out; omega)
          have q1 : (0 : Int) ≤ (k2 : Int) ∧ (k2 : Int) < (xs.length : Int) := by omega
          have q2 : (0 : Int) ≤ (j : Int) ∧ (j : Int) < (xs.length : Int) := by omega
          by_cases hz : hp ys j ≤ hp ys k2
          · have g6 : decide (hp ys j ≤ hp ys k2) = true := by simp [hz]
            go_upto_region 5 with fail
            refine wp_region_M HM (fun _ => [.row (.slice (some ⟨g, 0, none⟩) xs.length cap) 3 1 xs.length (vals ys)]) rfl (by kernel_rfl) (by kernel_rfl) ?_
            refine wpB_pure (v := ?v22) (by kernel_rfl) (by kernel_rfl) (fun w' => ?h22) (fun K hK => ?k22)
            case h22 =>
              go_simp
              try rfl
            go_simp
            refine hK _ ?_
            clear hK K
            refine wpB_pure (v := ?v23) (by kernel_rfl) (by kernel_rfl) (fun w' => ?h23) (fun K hK => ?k23)
            case h23 =>
              go_simp
              try rfl
            go_simp
            refine hK _ ?_
            clear hK K
            refine wpB_pure (v := ?v24) (by kernel_rfl) (by kernel_rfl) (fun w' => ?h24) (fun K hK => ?k24)
            case h24 =>
              go_simp
              try rfl
            go_simp
            refine hK _ ?_
            clear hK K
            refine wpB_pure (v := ?v25) (by kernel_rfl) (by kernel_rfl) (fun w' => ?h25) (fun K hK => ?k25)
            case h25 =>
              go_simp
              try rfl
            go_simp
            refine hK _ ?_
            clear hK K
            refine wpB_pure (v := ?v26) (by kernel_rfl) (by kernel_rfl) (fun w' => ?h26) (fun K hK => ?k26)
            case h26 =>
              go_simp
              try rfl
            go_simp
            refine hK _ ?_
            clear hK K
            refine wpB_pure (v := ?v27) (by kernel_rfl) (by kernel_rfl) (fun w' => ?h27) (fun K hK => ?k27)
            case h27 =>
              go_simp
              try rfl
            go_simp
            refine hK _ ?_
            clear hK K
            refine wpB_pure (v := ?v28) (by kernel_rfl) (by kernel_rfl) (fun w' => ?h28) (fun K hK => ?k28)
            case h28 =>
              go_simp
              try rfl
            go_simp
            refine hK _ ?_
            clear hK K
            refine wpB_pure (v := ?v29) (by kernel_rfl) (by kernel_rfl) (fun w' => ?h29) (fun K hK => ?k29)
            case h29 =>
              go_simp
              try rfl
            go_simp
            refine hK _ ?_
            clear hK K
            (refine wpB_loadMR (by kernel_rfl) (by kernel_rfl) (by kernel_rfl) rfl rfl (by repeat (first | exact Sel.head | apply Sel.tail)) (GJ.out) (by kernel_rfl) (fun K hK => ?_))
            go_simp
            refine hK _ ?_
            clear hK K
            refine wpB_pure (v := ?v30) (by kernel_rfl) (by kernel_rfl) (fun w' => ?h30) (fun K hK => ?k30)
            case h30 =>
              go_simp
              try rfl
            go_simp
            refine hK _ ?_
            clear hK K
            refine wpB_pure (v := ?v31) (by kernel_rfl) (by kernel_rfl) (fun w' => ?h31) (fun K hK => ?k31)
            case h31 =>
              go_simp
              try rfl
            go_simp
            refine hK _ ?_
            clear hK K
            refine wpB_pure (v := ?v32) (by kernel_rfl) (by kernel_rfl) (fun w' => ?h32) (fun K hK => ?k32)
            case h32 =>
              go_simp
              try rfl
            go_simp
            refine hK _ ?_
            clear hK K
            (refine wpB_loadMR (by kernel_rfl) (by kernel_rfl) (by kernel_rfl) rfl rfl (by repeat (first | exact Sel.head | apply Sel.tail)) (GK.out) (by kernel_rfl) (fun K hK => ?_))
            go_simp
            refine hK _ ?_
            clear hK K
            refine wpB_pure (v := ?v33) (by kernel_rfl) (by kernel_rfl) (fun w' => ?h33) (fun K hK => ?k33)
            case h33 =>
              go_simp
              try rfl
            go_simp
            refine hK _ ?_
            clear hK K
            refine wpB_pure (v := ?v34) (by kernel_rfl) (by kernel_rfl) (fun w' => ?h34) (fun K hK => ?k34)
            case h34 =>
              go_simp
              try rfl
            go_simp
            refine hK _ ?_
            clear hK K
            refine wpB_nil (fun w HM => ?_)
            go_wp2_with fail
            go_ret
            refine ⟨rfl, ?_, HM.kept.mono (fun k hk => by subst hk; rfl)⟩
            have := HU.out
            rw [downF_stop f ys j (.inr (by rw [HKID.out]; exact hz))] at this
            subst this; exact HM.row .head
          · have g6 : decide (hp ys j ≤ hp ys k2) = false := by simp [hz]
            go_upto_region 5 with fail
            refine wp_region_M HM (fun _ => [.row (.slice (some ⟨g, 0, none⟩) xs.length cap) 3 1 xs.length (vals ys)]) rfl (by kernel_rfl) (by kernel_rfl) ?_
            refine wpB_pure (v := ?v35) (by kernel_rfl) (by kernel_rfl) (fun w' => ?h35) (fun K hK => ?k35)
            case h35 =>
              go_simp
              try rfl
            go_simp
            refine hK _ ?_
            clear hK K
            refine wpB_pure (v := ?v36) (by kernel_rfl) (by kernel_rfl) (fun w' => ?h36) (fun K hK => ?k36)
            case h36 =>
              go_simp
              try rfl
            go_simp
            refine hK _ ?_
            clear hK K
            refine wpB_pure (v := ?v37) (by kernel_rfl) (by kernel_rfl) (fun w' => ?h37) (fun K hK => ?k37)
            case h37 =>
              go_simp
              try rfl
            go_simp
            refine hK _ ?_
            clear hK K
            refine wpB_pure (v := ?v38) (by kernel_rfl) (by kernel_rfl) (fun w' => ?h38) (fun K hK => ?k38)
            case h38 =>
              go_simp
              try rfl
            go_simp
            refine hK _ ?_
            clear hK K
            refine wpB_pure (v := ?v39) (by kernel_rfl) (by kernel_rfl) (fun w' => ?h39) (fun K hK => ?k39)
            case h39 =>
              go_simp
              try rfl
            go_simp
            refine hK _ ?_
            clear hK K
            refine wpB_pure (v := ?v40) (by kernel_rfl) (by kernel_rfl) (fun w' => ?h40) (fun K hK => ?k40)
            case h40 =>
              go_simp
              try rfl
            go_simp
            refine hK _ ?_
            clear hK K
            refine wpB_pure (v := ?v41) (by kernel_rfl) (by kernel_rfl) (fun w' => ?h41) (fun K hK => ?k41)
            case h41 =>
              go_simp
              try rfl
            go_simp
            refine hK _ ?_
            clear hK K
            refine wpB_pure (v := ?v42) (by kernel_rfl) (by kernel_rfl) (fun w' => ?h42) (fun K hK => ?k42)
            case h42 =>
              go_simp
              try rfl
            go_simp
            refine hK _ ?_
            clear hK K
            (refine wpB_loadMR (by kernel_rfl) (by kernel_rfl) (by kernel_rfl) rfl rfl (by repeat (first | exact Sel.head | apply Sel.tail)) (GJ.out) (by kernel_rfl) (fun K hK => ?_))
            go_simp
            refine hK _ ?_
            clear hK K
            refine wpB_pure (v := ?v43) (by kernel_rfl) (by kernel_rfl) (fun w' => ?h43) (fun K hK => ?k43)
            case h43 =>
              go_simp
              try rfl
            go_simp
            refine hK _ ?_
            clear hK K
            refine wpB_pure (v := ?v44) (by kernel_rfl) (by kernel_rfl) (fun w' => ?h44) (fun K hK => ?k44)
            case h44 =>
              go_simp
              try rfl
            go_simp
            refine hK _ ?_
            clear hK K
            refine wpB_pure (v := ?v45) (by kernel_rfl) (by kernel_rfl) (fun w' => ?h45) (fun K hK => ?k45)
            case h45 =>
              go_simp
              try rfl
            go_simp
            refine hK _ ?_
            clear hK K
            (refine wpB_loadMR (by kernel_rfl) (by kernel_rfl) (by kernel_rfl) rfl rfl (by repeat (first | exact Sel.head | apply Sel.tail)) (GK.out) (by kernel_rfl) (fun K hK => ?_))
            go_simp
            refine hK _ ?_
            clear hK K
            refine wpB_pure (v := ?v46) (by kernel_rfl) (by kernel_rfl) (fun w' => ?h46) (fun K hK => ?k46)
            case h46 =>
              go_simp
              try rfl
            go_simp
            refine hK _ ?_
            clear hK K
            refine wpB_pure (v := ?v47) (by kernel_rfl) (by kernel_rfl) (fun w' => ?h47) (fun K hK => ?k47)
            case h47 =>
              go_simp
              try rfl
            go_simp
            refine hK _ ?_
            clear hK K
            refine wpB_nil (fun w HM => ?_)
            go_upto_region 7 with fail
            refine wp_region_M HM (fun ix => match ix with | 0 => [.row (.slice (some ⟨g, 0, none⟩) xs.length cap) 3 1 xs.length (vals ys)] | 1 => [.row (.slice (some ⟨g, 0, none⟩) xs.length cap) 3 1 xs.length ((vals ys).set j (.int .i64 (hp ys k2)))] | _ => [.row (.slice (some ⟨g, 0, none⟩) xs.length cap) 3 1 xs.length (((vals ys).set j (.int .i64 (hp ys k2))).set k2 (.int .i64 (hp ys j)))]) rfl (by kernel_rfl) (by kernel_rfl) ?_
            refine wpB_pure (v := ?v48) (by kernel_rfl) (by kernel_rfl) (fun w' => ?h48) (fun K hK => ?k48)
            case h48 =>
              go_simp
              try rfl
            go_simp
            refine hK _ ?_
            clear hK K
            refine wpB_pure (v := ?v49) (by kernel_rfl) (by kernel_rfl) (fun w' => ?h49) (fun K hK => ?k49)
            case h49 =>
              go_simp
              try rfl
            go_simp
            refine hK _ ?_
            clear hK K
            refine wpB_pure (v := ?v50) (by kernel_rfl) (by kernel_rfl) (fun w' => ?h50) (fun K hK => ?k50)
            case h50 =>
              go_simp
              try rfl
            go_simp
            refine hK _ ?_
            clear hK K
            refine wpB_pure (v := ?v51) (by kernel_rfl) (by kernel_rfl) (fun w' => ?h51) (fun K hK => ?k51)
            case h51 =>
              go_simp
              try rfl
            go_simp
            refine hK _ ?_
            clear hK K
            refine wpB_pure (v := ?v52) (by kernel_rfl) (by kernel_rfl) (fun w' => ?h52) (fun K hK => ?k52)
            case h52 =>
              go_simp
              try rfl
            go_simp
            refine hK _ ?_
            clear hK K
            refine wpB_pure (v := ?v53) (by kernel_rfl) (by kernel_rfl) (fun w' => ?h53) (fun K hK => ?k53)
            case h53 =>
              go_simp
              try rfl
            go_simp
            refine hK _ ?_
            clear hK K
            refine wpB_pure (v := ?v54) (by kernel_rfl) (by kernel_rfl) (fun w' => ?h54) (fun K hK => ?k54)
            case h54 =>
              go_simp
              try rfl
            go_simp
            refine hK _ ?_
            clear hK K
            (refine wpB_loadMR (by kernel_rfl) (by kernel_rfl) (by kernel_rfl) rfl rfl (by repeat (first | exact Sel.head | apply Sel.tail)) (GK.out) (by kernel_rfl) (fun K hK => ?_))
            go_simp
            refine hK _ ?_
            clear hK K
            refine wpB_pure (v := ?v55) (by kernel_rfl) (by kernel_rfl) (fun w' => ?h55) (fun K hK => ?k55)
            case h55 =>
              go_simp
              try rfl
            go_simp
            refine hK _ ?_
            clear hK K
            refine wpB_pure (v := ?v56) (by kernel_rfl) (by kernel_rfl) (fun w' => ?h56) (fun K hK => ?k56)
            case h56 =>
              go_simp
              try rfl
            go_simp
            refine hK _ ?_
            clear hK K
            refine wpB_pure (v := ?v57) (by kernel_rfl) (by kernel_rfl) (fun w' => ?h57) (fun K hK => ?k57)
            case h57 =>
              go_simp
              try rfl
            go_simp
            refine hK _ ?_
            clear hK K
            (refine wpB_loadMR (by kernel_rfl) (by kernel_rfl) (by kernel_rfl) rfl rfl (by repeat (first | exact Sel.head | apply Sel.tail)) (GJ.out) (by kernel_rfl) (fun K hK => ?_))
            go_simp
            refine hK _ ?_
            clear hK K
            refine wpB_pure (v := ?v58) (by kernel_rfl) (by kernel_rfl) (fun w' => ?h58) (fun K hK => ?k58)
            case h58 =>
              go_simp
              try rfl
            go_simp
            refine hK _ ?_
            clear hK K
            (refine wpB_storeMR (by kernel_rfl) (by kernel_rfl) rfl rfl rfl (by repeat (first | exact Sel.head | apply Sel.tail)) (LJ.out) (by kernel_rfl) rfl rfl (fun K hK => ?_))
            go_simp
            refine hK _ ?_
            clear hK K
            refine wpB_pure (v := ?v59) (by kernel_rfl) (by kernel_rfl) (fun w' => ?h59) (fun K hK => ?k59)
            case h59 =>
              go_simp
              try rfl
            go_simp
            refine hK _ ?_
            clear hK K
            (refine wpB_storeMR (by kernel_rfl) (by kernel_rfl) rfl rfl rfl (by repeat (first | exact Sel.head | apply Sel.tail)) (LK.out) (by kernel_rfl) rfl rfl (fun K hK => ?_))
            go_simp
            refine hK _ ?_
            clear hK K
            refine wpB_nil (fun w HM => ?_)
            rw [vals_swp ys j k2] at HM
            go_wp2_with fail
            go_roundw
            case rel =>
              cases f with
              | zero => omega
              | succ f =>
                refine ⟨k2, f, swp ys j k2, by omega, by have := HKL.out; omega, by go_num, by rw [swp_length]; exact HYL.out, ?_, HM⟩
                have h1 := HU.out
                rw [downF_step f ys j (by rw [HKID.out, HYL.out]; omega), HKID.out] at h1
                exact h1
            case measure => have := HKL.out; simp [intOf]; omega
      · have g4 : decide (hp ys k2 < hp ys k) = false := by simp [hy]
        refine wp_region_M HM (fun _ => [.row (.slice (some ⟨g, 0, none⟩) xs.length cap) 3 1 xs.length (vals ys)]) rfl (by kernel_rfl) (by kernel_rfl) ?_
        refine wpB_pure (v := ?v60) (by kernel_rfl) (by kernel_rfl) (fun w' => ?h60) (fun K hK => ?k60)
        case h60 =>
          go_simp
          try rfl
        go_simp
        refine hK _ ?_
        clear hK K
        refine wpB_pure (v := ?v61) (by kernel_rfl) (by kernel_rfl) (fun w' => ?h61) (fun K hK => ?k61)
        case h61 =>
          go_simp
          try rfl
        go_simp
        refine hK _ ?_
        clear hK K
        refine wpB_pure (v := ?v62) (by kernel_rfl) (by kernel_rfl) (fun w' => ?h62) (fun K hK => ?k62)
        case h62 =>
          go_simp
          try rfl
        go_simp
        refine hK _ ?_
        clear hK K
        refine wpB_pure (v := ?v63) (by kernel_rfl) (by kernel_rfl) (fun w' => ?h63) (fun K hK => ?k63)
        case h63 =>
          go_simp
          try rfl
        go_simp
        refine hK _ ?_
        clear hK K
        refine wpB_pure (v := ?v64) (by kernel_rfl) (by kernel_rfl) (fun w' => ?h64) (fun K hK => ?k64)
        case h64 =>
          go_simp
          try rfl
        go_simp
        refine hK _ ?_
        clear hK K
        refine wpB_pure (v := ?v65) (by kernel_rfl) (by kernel_rfl) (fun w' => ?h65) (fun K hK => ?k65)
        case h65 =>
          go_simp
          try rfl
        go_simp
        refine hK _ ?_
        clear hK K
        refine wpB_pure (v := ?v66) (by kernel_rfl) (by kernel_rfl) (fun w' => ?h66) (fun K hK => ?k66)
        case h66 =>
          go_simp
          try rfl
        go_simp
        refine hK _ ?_
        clear hK K
        refine wpB_pure (v := ?v67) (by kernel_rfl) (by kernel_rfl) (fun w' => ?h67) (fun K hK => ?k67)
        case h67 =>
          go_simp
          try rfl
        go_simp
        refine hK _ ?_
        clear hK K
        refine wpB_pure (v := ?v68) (by kernel_rfl) (by kernel_rfl) (fun w' => ?h68) (fun K hK => ?k68)
        case h68 =>
          go_simp
          try rfl
        go_simp
        refine hK _ ?_
        clear hK K
        refine wpB_pure (v := ?v69) (by kernel_rfl) (by kernel_rfl) (fun w' => ?h69) (fun K hK => ?k69)
        case h69 =>
          go_simp
          try rfl
        go_simp
        refine hK _ ?_
        clear hK K
        (refine wpB_loadMR (by kernel_rfl) (by kernel_rfl) (by kernel_rfl) rfl rfl (by repeat (first | exact Sel.head | apply Sel.tail)) (GK2.out) (by kernel_rfl) (fun K hK => ?_))
        go_simp
        refine hK _ ?_
        clear hK K
        refine wpB_pure (v := ?v70) (by kernel_rfl) (by kernel_rfl) (fun w' => ?h70) (fun K hK => ?k70)
        case h70 =>
          go_simp
          try rfl
        go_simp
        refine hK _ ?_
        clear hK K
        refine wpB_pure (v := ?v71) (by kernel_rfl) (by kernel_rfl) (fun w' => ?h71) (fun K hK => ?k71)
        case h71 =>
          go_simp
          try rfl
        go_simp
        refine hK _ ?_
        clear hK K
        refine wpB_pure (v := ?v72) (by kernel_rfl) (by kernel_rfl) (fun w' => ?h72) (fun K hK => ?k72)
        case h72 =>
          go_simp
          try rfl
        go_simp
        refine hK _ ?_
        clear hK K
        (refine wpB_loadMR (by kernel_rfl) (by kernel_rfl) (by kernel_rfl) rfl rfl (by repeat (first | exact Sel.head | apply Sel.tail)) (GK1.out) (by kernel_rfl) (fun K hK => ?_))
        go_simp
        refine hK _ ?_
        clear hK K
        refine wpB_pure (v := ?v73) (by kernel_rfl) (by kernel_rfl) (fun w' => ?h73) (fun K hK => ?k73)
        case h73 =>
          go_simp
          try rfl
        go_simp
        refine hK _ ?_
        clear hK K
        refine wpB_pure (v := ?v74) (by kernel_rfl) (by kernel_rfl) (fun w' => ?h74) (fun K hK => ?k74)
        case h74 =>
          go_simp
          try rfl
        go_simp
        refine hK _ ?_
        clear hK K
        refine wpB_nil (fun w HM => ?_)
        have HKID : Hid (kid ys j = k) := Lib.hid (kid_one ys j k HK1.out (by rw [← HK1.out, ← HK2.out]; omega))
        have HKL : Hid (j < k) := Lib.hid (by omega)
        clear GK1 GK2
        by_cases hkn : xs.length ≤ k
        · have g5 : decide ((xs.length : Int) ≤ (k : Int)) = true := by simp; omega
          go_upto_region 5 with fail
          refine wp_region_M HM (fun _ => [.row (.slice (some ⟨g, 0, none⟩) xs.length cap) 3 1 xs.length (vals ys)]) rfl (by kernel_rfl) (by kernel_rfl) ?_
          refine wpB_pure (v := ?v75) (by kernel_rfl) (by kernel_rfl) (fun w' => ?h75) (fun K hK => ?k75)
          case h75 =>
            go_simp
            try rfl
          go_simp
          refine hK _ ?_
          clear hK K
          refine wpB_pure (v := ?v76) (by kernel_rfl) (by kernel_rfl) (fun w' => ?h76) (fun K hK => ?k76)
          case h76 =>
            go_simp
            try rfl
          go_simp
          refine hK _ ?_
          clear hK K
          refine wpB_pure (v := ?v77) (by kernel_rfl) (by kernel_rfl) (fun w' => ?h77) (fun K hK => ?k77)
          case h77 =>
            go_simp
            try rfl
          go_simp
          refine hK _ ?_
          clear hK K
          refine wpB_pure (v := ?v78) (by kernel_rfl) (by kernel_rfl) (fun w' => ?h78) (fun K hK => ?k78)
          case h78 =>
            go_simp
            try rfl
          go_simp
          refine hK _ ?_
          clear hK K
          refine wpB_pure (v := ?v79) (by kernel_rfl) (by kernel_rfl) (fun w' => ?h79) (fun K hK => ?k79)
          case h79 =>
            go_simp
            try rfl
          go_simp
          refine hK _ ?_
          clear hK K
          refine wpB_skip (by kernel_rfl) (by kernel_rfl) (fun K hK => ?_)
          go_simp
          refine hK _ ?_
          clear hK K
          refine wpB_skip (by kernel_rfl) (by kernel_rfl) (fun K hK => ?_)
          go_simp
          refine hK _ ?_
          clear hK K
          refine wpB_skip (by kernel_rfl) (by kernel_rfl) (fun K hK => ?_)
          go_simp
          refine hK _ ?_
          clear hK K
          refine wpB_skip (by kernel_rfl) (by kernel_rfl) (fun K hK => ?_)
          go_simp
          refine hK _ ?_
          clear hK K
          refine wpB_skip (by kernel_rfl) (by kernel_rfl) (fun K hK => ?_)
          go_simp
          refine hK _ ?_
          clear hK K
          refine wpB_skip (by kernel_rfl) (by kernel_rfl) (fun K hK => ?_)
          go_simp
          refine hK _ ?_
          clear hK K
          refine wpB_skip (by kernel_rfl) (by kernel_rfl) (fun K hK => ?_)
          go_simp
          refine hK _ ?_
          clear hK K
          refine wpB_skip (by kernel_rfl) (by kernel_rfl) (fun K hK => ?_)
          go_simp
          refine hK _ ?_
          clear hK K
          refine wpB_skip (by kernel_rfl) (by kernel_rfl) (fun K hK => ?_)
          go_simp
          refine hK _ ?_
          clear hK K
          refine wpB_pure (v := ?v80) (by kernel_rfl) (by kernel_rfl) (fun w' => ?h80) (fun K hK => ?k80)
          case h80 =>
            go_simp
            try rfl
          go_simp
          refine hK _ ?_
          clear hK K
          refine wpB_nil (fun w HM => ?_)
          go_wp2_with fail
          go_ret
          refine ⟨rfl, ?_, HM.kept.mono (fun k hk => by subst hk; rfl)⟩
          have := HU.out
          rw [downF_stop f ys j (.inl (by rw [HKID.out, HYL.out]; exact hkn))] at this
          subst this; exact HM.row .head
        · have g5 : decide ((xs.length : Int) ≤ (k : Int)) = false := by simp; omega
          have GJ := Lib.hid (vals_get ys j (by have := HYL.out; omega))
          have GK := Lib.hid (vals_get ys k (by have := HYL.out; omega))
          have LJ : Hid (j < (vals ys).length) := Lib.hid (by rw [vals_len]; have := HYL.out; omega)
          have LK : Hid (k < ((vals ys).set j (.int .i64 (hp ys k))).length) := Lib.hid (by rw [List.length_set, vals_len]; have := HYL.out; omega)
          have q1 : (0 : Int) ≤ (k : Int) ∧ (k : Int) < (xs.length : Int) := by omega
          have q2 : (0 : Int) ≤ (j : Int) ∧ (j : Int) < (xs.length : Int) := by omega
          by_cases hz : hp ys j ≤ hp ys k
          · have g6 : decide (hp ys j ≤ hp ys k) = true := by simp [hz]
            go_upto_region 5 with fail
            refine wp_region_M HM (fun _ => [.row (.slice (some ⟨g, 0, none⟩) xs.length cap) 3 1 xs.length (vals ys)]) rfl (by kernel_rfl) (by kernel_rfl) ?_
            refine wpB_pure (v := ?v81) (by kernel_rfl) (by kernel_rfl) (fun w' => ?h81) (fun K hK => ?k81)
            case h81 =>
              go_simp
              try rfl
            go_simp
            refine hK _ ?_
            clear hK K
            refine wpB_pure (v := ?v82) (by kernel_rfl) (by kernel_rfl) (fun w' => ?h82) (fun K hK => ?k82)
            case h82 =>
              go_simp
              try rfl
            go_simp
            refine hK _ ?_
            clear hK K
            refine wpB_pure (v := ?v83) (by kernel_rfl) (by kernel_rfl) (fun w' => ?h83) (fun K hK => ?k83)
            case h83 =>
              go_simp
              try rfl
            go_simp
            refine hK _ ?_
            clear hK K
            refine wpB_pure (v := ?v84) (by kernel_rfl) (by kernel_rfl) (fun w' => ?h84) (fun K hK => ?k84)
            case h84 =>
              go_simp
              try rfl
            go_simp
            refine hK _ ?_
            clear hK K
            refine wpB_pure (v := ?v85) (by kernel_rfl) (by kernel_rfl) (fun w' => ?h85) (fun K hK => ?k85)
            case h85 =>
              go_simp
              try rfl
            go_simp
            refine hK _ ?_
            clear hK K
            refine wpB_pure (v := ?v86) (by kernel_rfl) (by kernel_rfl) (fun w' => ?h86) (fun K hK => ?k86)
            case h86 =>
              go_simp
              try rfl
            go_simp
            refine hK _ ?_
            clear hK K
            refine wpB_pure (v := ?v87) (by kernel_rfl) (by kernel_rfl) (fun w' => ?h87) (fun K hK => ?k87)
            case h87 =>
              go_simp
              try rfl
            go_simp
            refine hK _ ?_
            clear hK K
            refine wpB_pure (v := ?v88) (by kernel_rfl) (by kernel_rfl) (fun w' => ?h88) (fun K hK => ?k88)
            case h88 =>
              go_simp
              try rfl
            go_simp
            refine hK _ ?_
            clear hK K
            (refine wpB_loadMR (by kernel_rfl) (by kernel_rfl) (by kernel_rfl) rfl rfl (by repeat (first | exact Sel.head | apply Sel.tail)) (GJ.out) (by kernel_rfl) (fun K hK => ?_))
            go_simp
            refine hK _ ?_
            clear hK K
            refine wpB_pure (v := ?v89) (by kernel_rfl) (by kernel_rfl) (fun w' => ?h89) (fun K hK => ?k89)
            case h89 =>
              go_simp
              try rfl
            go_simp
            refine hK _ ?_
            clear hK K
            refine wpB_pure (v := ?v90) (by kernel_rfl) (by kernel_rfl) (fun w' => ?h90) (fun K hK => ?k90)
            case h90 =>
              go_simp
              try rfl
            go_simp
            refine hK _ ?_
            clear hK K
            refine wpB_pure (v := ?v91) (by kernel_rfl) (by kernel_rfl) (fun w' => ?h91) (fun K hK => ?k91)
            case h91 =>
              go_simp
              try rfl
            go_simp
            refine hK _ ?_
            clear hK K
            (refine wpB_loadMR (by kernel_rfl) (by kernel_rfl) (by kernel_rfl) rfl rfl (by repeat (first | exact Sel.head | apply Sel.tail)) (GK.out) (by kernel_rfl) (fun K hK => ?_))
            go_simp
            refine hK _ ?_
            clear hK K
            refine wpB_pure (v := ?v92) (by kernel_rfl) (by kernel_rfl) (fun w' => ?h92) (fun K hK => ?k92)
            case h92 =>
              go_simp
              try rfl
            go_simp
            refine hK _ ?_
            clear hK K
            refine wpB_pure (v := ?v93) (by kernel_rfl) (by kernel_rfl) (fun w' => ?h93) (fun K hK => ?k93)
            case h93 =>
              go_simp
              try rfl
            go_simp
            refine hK _ ?_
            clear hK K
            refine wpB_nil (fun w HM => ?_)
            go_wp2_with fail
            go_ret
            refine ⟨rfl, ?_, HM.kept.mono (fun k hk => by subst hk; rfl)⟩
            have := HU.out
            rw [downF_stop f ys j (.inr (by rw [HKID.out]; exact hz))] at this
            subst this; exact HM.row .head
          · have g6 : decide (hp ys j ≤ hp ys k) = false := by simp [hz]
            go_upto_region 5 with fail
            refine wp_region_M HM (fun _ => [.row (.slice (some ⟨g, 0, none⟩) xs.length cap) 3 1 xs.length (vals ys)]) rfl (by kernel_rfl) (by kernel_rfl) ?_
            refine wpB_pure (v := ?v94) (by kernel_rfl) (by kernel_rfl) (fun w' => ?h94) (fun K hK => ?k94)
            case h94 =>
              go_simp
              try rfl
            go_simp
            refine hK _ ?_
            clear hK K
            refine wpB_pure (v := ?v95) (by kernel_rfl) (by kernel_rfl) (fun w' => ?h95) (fun K hK => ?k95)
            case h95 =>
              go_simp
              try rfl
            go_simp
            refine hK _ ?_
            clear hK K
            refine wpB_pure (v := ?v96) (by kernel_rfl) (by kernel_rfl) (fun w' => ?h96) (fun K hK => ?k96)
            case h96 =>
              go_simp
              try rfl
            go_simp
            refine hK _ ?_
            clear hK K
            refine wpB_pure (v := ?v97) (by kernel_rfl) (by kernel_rfl) (fun w' => ?h97) (fun K hK => ?k97)
            case h97 =>
              go_simp
              try rfl
            go_simp
            refine hK _ ?_
            clear hK K
            refine wpB_pure (v := ?v98) (by kernel_rfl) (by kernel_rfl) (fun w' => ?h98) (fun K hK => ?k98)
            case h98 =>
              go_simp
              try rfl
            go_simp
            refine hK _ ?_
            clear hK K
            refine wpB_pure (v := ?v99) (by kernel_rfl) (by kernel_rfl) (fun w' => ?h99) (fun K hK => ?k99)
            case h99 =>
              go_simp
              try rfl
            go_simp
            refine hK _ ?_
            clear hK K
            refine wpB_pure (v := ?v100) (by kernel_rfl) (by kernel_rfl) (fun w' => ?h100) (fun K hK => ?k100)
            case h100 =>
              go_simp
              try rfl
            go_simp
            refine hK _ ?_
            clear hK K
            refine wpB_pure (v := ?v101) (by kernel_rfl) (by kernel_rfl) (fun w' => ?h101) (fun K hK => ?k101)
            case h101 =>
              go_simp
              try rfl
            go_simp
            refine hK _ ?_
            clear hK K
            (refine wpB_loadMR (by kernel_rfl) (by kernel_rfl) (by kernel_rfl) rfl rfl (by repeat (first | exact Sel.head | apply Sel.tail)) (GJ.out) (by kernel_rfl) (fun K hK => ?_))
            go_simp
            refine hK _ ?_
            clear hK K
            refine wpB_pure (v := ?v102) (by kernel_rfl) (by kernel_rfl) (fun w' => ?h102) (fun K hK => ?k102)
            case h102 =>
              go_simp
              try rfl
            go_simp
            refine hK _ ?_
            clear hK K
            refine wpB_pure (v := ?v103) (by kernel_rfl) (by kernel_rfl) (fun w' => ?h103) (fun K hK => ?k103)
            case h103 =>
              go_simp
              try rfl
            go_simp
            refine hK _ ?_
            clear hK K
            refine wpB_pure (v := ?v104) (by kernel_rfl) (by kernel_rfl) (fun w' => ?h104) (fun K hK => ?k104)
            case h104 =>
              go_simp
              try rfl
            go_simp
            refine hK _ ?_
            clear hK K
            (refine wpB_loadMR (by kernel_rfl) (by kernel_rfl) (by kernel_rfl) rfl rfl (by repeat (first | exact Sel.head | apply Sel.tail)) (GK.out) (by kernel_rfl) (fun K hK => ?_))
            go_simp
            refine hK _ ?_
            clear hK K
            refine wpB_pure (v := ?v105) (by kernel_rfl) (by kernel_rfl) (fun w' => ?h105) (fun K hK => ?k105)
            case h105 =>
              go_simp
              try rfl
            go_simp
            refine hK _ ?_
            clear hK K
            refine wpB_pure (v := ?v106) (by kernel_rfl) (by kernel_rfl) (fun w' => ?h106) (fun K hK => ?k106)
            case h106 =>
              go_simp
              try rfl
            go_simp
            refine hK _ ?_
            clear hK K
            refine wpB_nil (fun w HM => ?_)
            go_upto_region 7 with fail
            refine wp_region_M HM (fun ix => match ix with | 0 => [.row (.slice (some ⟨g, 0, none⟩) xs.length cap) 3 1 xs.length (vals ys)] | 1 => [.row (.slice (some ⟨g, 0, none⟩) xs.length cap) 3 1 xs.length ((vals ys).set j (.int .i64 (hp ys k)))] | _ => [.row (.slice (some ⟨g, 0, none⟩) xs.length cap) 3 1 xs.length (((vals ys).set j (.int .i64 (hp ys k))).set k (.int .i64 (hp ys j)))]) rfl (by kernel_rfl) (by kernel_rfl) ?_
            refine wpB_pure (v := ?v107) (by kernel_rfl) (by kernel_rfl) (fun w' => ?h107) (fun K hK => ?k107)
            case h107 =>
              go_simp
              try rfl
            go_simp
            refine hK _ ?_
            clear hK K
            refine wpB_pure (v := ?v108) (by kernel_rfl) (by kernel_rfl) (fun w' => ?h108) (fun K hK => ?k108)
            case h108 =>
              go_simp
              try rfl
            go_simp
            refine hK _ ?_
            clear hK K
            refine wpB_pure (v := ?v109) (by kernel_rfl) (by kernel_rfl) (fun w' => ?h109) (fun K hK => ?k109)
            case h109 =>
              go_simp
              try rfl
            go_simp
            refine hK _ ?_
            clear hK K
            refine wpB_pure (v := ?v110) (by kernel_rfl) (by kernel_rfl) (fun w' => ?h110) (fun K hK => ?k110)
            case h110 =>
              go_simp
              try rfl
            go_simp
            refine hK _ ?_
            clear hK K
            refine wpB_pure (v := ?v111) (by kernel_rfl) (by kernel_rfl) (fun w' => ?h111) (fun K hK => ?k111)
            case h111 =>
              go_simp
              try rfl
            go_simp
            refine hK _ ?_
            clear hK K
            refine wpB_pure (v := ?v112) (by kernel_rfl) (by kernel_rfl) (fun w' => ?h112) (fun K hK => ?k112)
            case h112 =>
              go_simp
              try rfl
            go_simp
            refine hK _ ?_
            clear hK K
            refine wpB_pure (v := ?v113) (by kernel_rfl) (by kernel_rfl) (fun w' => ?h113) (fun K hK => ?k113)
            case h113 =>
              go_simp
              try rfl
            go_simp
            refine hK _ ?_
            clear hK K
            (refine wpB_loadMR (by kernel_rfl) (by kernel_rfl) (by kernel_rfl) rfl rfl (by repeat (first | exact Sel.head | apply Sel.tail)) (GK.out) (by kernel_rfl) (fun K hK => ?_))
            go_simp
            refine hK _ ?_
            clear hK K
            refine wpB_pure (v := ?v114) (by kernel_rfl) (by kernel_rfl) (fun w' => ?h114) (fun K hK => ?k114)
            case h114 =>
              go_simp
              try rfl
            go_simp
            refine hK _ ?_
            clear hK K
            refine wpB_pure (v := ?v115) (by kernel_rfl) (by kernel_rfl) (fun w' => ?h115) (fun K hK => ?k115)
            case h115 =>
              go_simp
              try rfl
            go_simp
            refine hK _ ?_
            clear hK K
            refine wpB_pure (v := ?v116) (by kernel_rfl) (by kernel_rfl) (fun w' => ?h116) (fun K hK => ?k116)
            case h116 =>
              go_simp
              try rfl
            go_simp
            refine hK _ ?_
            clear hK K
            (refine wpB_loadMR (by kernel_rfl) (by kernel_rfl) (by kernel_rfl) rfl rfl (by repeat (first | exact Sel.head | apply Sel.tail)) (GJ.out) (by kernel_rfl) (fun K hK => ?_))
            go_simp
            refine hK _ ?_
            clear hK K
            refine wpB_pure (v := ?v117) (by kernel_rfl) (by kernel_rfl) (fun w' => ?h117) (fun K hK => ?k117)
            case h117 =>
              go_simp
              try rfl
            go_simp
            refine hK _ ?_
            clear hK K
            (refine wpB_storeMR (by kernel_rfl) (by kernel_rfl) rfl rfl rfl (by repeat (first | exact Sel.head | apply Sel.tail)) (LJ.out) (by kernel_rfl) rfl rfl (fun K hK => ?_))
            go_simp
            refine hK _ ?_
            clear hK K
            refine wpB_pure (v := ?v118) (by kernel_rfl) (by kernel_rfl) (fun w' => ?h118) (fun K hK => ?k118)
            case h118 =>
              go_simp
              try rfl
            go_simp
            refine hK _ ?_
            clear hK K
            (refine wpB_storeMR (by kernel_rfl) (by kernel_rfl) rfl rfl rfl (by repeat (first | exact Sel.head | apply Sel.tail)) (LK.out) (by kernel_rfl) rfl rfl (fun K hK => ?_))
            go_simp
            refine hK _ ?_
            clear hK K
            refine wpB_nil (fun w HM => ?_)
            rw [vals_swp ys j k] at HM
            go_wp2_with fail
            go_roundw
            case rel =>
              cases f with
              | zero => omega
              | succ f =>
                refine ⟨k, f, swp ys j k, by omega, by have := HKL.out; omega, by go_num, by rw [swp_length]; exact HYL.out, ?_, HM⟩
                have h1 := HU.out
                rw [downF_step f ys j (by rw [HKID.out, HYL.out]; omega), HKID.out] at h1
                exact h1
            case measure => have := HKL.out; simp [intOf]; omega
    · have g3 : decide ((k2 : Int) < (xs.length : Int)) = false := by simp; omega
      refine wp_region_M HM (fun _ => [.row (.slice (some ⟨g, 0, none⟩) xs.length cap) 3 1 xs.length (vals ys)]) rfl (by kernel_rfl) (by kernel_rfl) ?_
      refine wpB_pure (v := ?v119) (by kernel_rfl) (by kernel_rfl) (fun w' => ?h119) (fun K hK => ?k119)
      case h119 =>
        go_simp
        try rfl
      go_simp
      refine hK _ ?_
      clear hK K
      refine wpB_pure (v := ?v120) (by kernel_rfl) (by kernel_rfl) (fun w' => ?h120) (fun K hK => ?k120)
      case h120 =>
        go_simp
        try rfl
      go_simp
      refine hK _ ?_
      clear hK K
      refine wpB_pure (v := ?v121) (by kernel_rfl) (by kernel_rfl) (fun w' => ?h121) (fun K hK => ?k121)
      case h121 =>
        go_simp
        try rfl
      go_simp
      refine hK _ ?_
      clear hK K
      refine wpB_pure (v := ?v122) (by kernel_rfl) (by kernel_rfl) (fun w' => ?h122) (fun K hK => ?k122)
      case h122 =>
        go_simp
        try rfl
      go_simp
      refine hK _ ?_
      clear hK K
      refine wpB_pure (v := ?v123) (by kernel_rfl) (by kernel_rfl) (fun w' => ?h123) (fun K hK => ?k123)
      case h123 =>
        go_simp
        try rfl
      go_simp
      refine hK _ ?_
      clear hK K
      refine wpB_pure (v := ?v124) (by kernel_rfl) (by kernel_rfl) (fun w' => ?h124) (fun K hK => ?k124)
      case h124 =>
        go_simp
        try rfl
      go_simp
      refine hK _ ?_
      clear hK K
      refine wpB_skip (by kernel_rfl) (by kernel_rfl) (fun K hK => ?_)
      go_simp
      refine hK _ ?_
      clear hK K
      refine wpB_skip (by kernel_rfl) (by kernel_rfl) (fun K hK => ?_)
      go_simp
      refine hK _ ?_
      clear hK K
      refine wpB_skip (by kernel_rfl) (by kernel_rfl) (fun K hK => ?_)
      go_simp
      refine hK _ ?_
      clear hK K
      refine wpB_skip (by kernel_rfl) (by kernel_rfl) (fun K hK => ?_)
      go_simp
      refine hK _ ?_
      clear hK K
      refine wpB_skip (by kernel_rfl) (by kernel_rfl) (fun K hK => ?_)
      go_simp
      refine hK _ ?_
      clear hK K
      refine wpB_skip (by kernel_rfl) (by kernel_rfl) (fun K hK => ?_)
      go_simp
      refine hK _ ?_
      clear hK K
      refine wpB_skip (by kernel_rfl) (by kernel_rfl) (fun K hK => ?_)
      go_simp
      refine hK _ ?_
      clear hK K
      refine wpB_skip (by kernel_rfl) (by kernel_rfl) (fun K hK => ?_)
      go_simp
      refine hK _ ?_
      clear hK K
      refine wpB_skip (by kernel_rfl) (by kernel_rfl) (fun K hK => ?_)
      go_simp
      refine hK _ ?_
      clear hK K
      refine wpB_skip (by kernel_rfl) (by kernel_rfl) (fun K hK => ?_)
      go_simp
      refine hK _ ?_
      clear hK K
      refine wpB_pure (v := ?v125) (by kernel_rfl) (by kernel_rfl) (fun w' => ?h125) (fun K hK => ?k125)
      case h125 =>
        go_simp
        try rfl
      go_simp
      refine hK _ ?_
      clear hK K
      refine wpB_nil (fun w HM => ?_)
      have HKID : Hid (kid ys j = k) := Lib.hid (kid_one ys j k HK1.out (by rw [← HK1.out, ← HK2.out, HYL.out]; omega))
      have HKL : Hid (j < k) := Lib.hid (by omega)
      by_cases hkn : xs.length ≤ k
      · have g5 : decide ((xs.length : Int) ≤ (k : Int)) = true := by simp; omega
        go_upto_region 5 with fail
        refine wp_region_M HM (fun _ => [.row (.slice (some ⟨g, 0, none⟩) xs.length cap) 3 1 xs.length (vals ys)]) rfl (by kernel_rfl) (by kernel_rfl) ?_
        refine wpB_pure (v := ?v126) (by kernel_rfl) (by kernel_rfl) (fun w' => ?h126) (fun K hK => ?k126)
        case h126 =>
          go_simp
          try rfl
        go_simp
        refine hK _ ?_
        clear hK K
        refine wpB_pure (v := ?v127) (by kernel_rfl) (by kernel_rfl) (fun w' => ?h127) (fun K hK => ?k127)
        case h127 =>
          go_simp
          try rfl
        go_simp
        refine hK _ ?_
        clear hK K
        refine wpB_pure (v := ?v128) (by kernel_rfl) (by kernel_rfl) (fun w' => ?h128) (fun K hK => ?k128)
        case h128 =>
          go_simp
          try rfl
        go_simp
        refine hK _ ?_
        clear hK K
        refine wpB_pure (v := ?v129) (by kernel_rfl) (by kernel_rfl) (fun w' => ?h129) (fun K hK => ?k129)
        case h129 =>
          go_simp
          try rfl
        go_simp
        refine hK _ ?_
        clear hK K
        refine wpB_pure (v := ?v130) (by kernel_rfl) (by kernel_rfl) (fun w' => ?h130) (fun K hK => ?k130)
        case h130 =>
          go_simp
          try rfl
        go_simp
        refine hK _ ?_
        clear hK K
        refine wpB_skip (by kernel_rfl) (by kernel_rfl) (fun K hK => ?_)
        go_simp
        refine hK _ ?_
        clear hK K
        refine wpB_skip (by kernel_rfl) (by kernel_rfl) (fun K hK => ?_)
        go_simp
        refine hK _ ?_
        clear hK K
        refine wpB_skip (by kernel_rfl) (by kernel_rfl) (fun K hK => ?_)
        go_simp
        refine hK _ ?_
        clear hK K
        refine wpB_skip (by kernel_rfl) (by kernel_rfl) (fun K hK => ?_)
        go_simp
        refine hK _ ?_
        clear hK K
        refine wpB_skip (by kernel_rfl) (by kernel_rfl) (fun K hK => ?_)
        go_simp
        refine hK _ ?_
        clear hK K
        refine wpB_skip (by kernel_rfl) (by kernel_rfl) (fun K hK => ?_)
        go_simp
        refine hK _ ?_
        clear hK K
        refine wpB_skip (by kernel_rfl) (by kernel_rfl) (fun K hK => ?_)
        go_simp
        refine hK _ ?_
        clear hK K
        refine wpB_skip (by kernel_rfl) (by kernel_rfl) (fun K hK => ?_)
        go_simp
        refine hK _ ?_
        clear hK K
        refine wpB_skip (by kernel_rfl) (by kernel_rfl) (fun K hK => ?_)
        go_simp
        refine hK _ ?_
        clear hK K
        refine wpB_pure (v := ?v131) (by kernel_rfl) (by kernel_rfl) (fun w' => ?h131) (fun K hK => ?k131)
        case h131 =>
          go_simp
          try rfl
        go_simp
        refine hK _ ?_
        clear hK K
        refine wpB_nil (fun w HM => ?_)
        go_wp2_with fail
        go_ret
        refine ⟨rfl, ?_, HM.kept.mono (fun k hk => by subst hk; rfl)⟩
        have := HU.out
        rw [downF_stop f ys j (.inl (by rw [HKID.out, HYL.out]; exact hkn))] at this
        subst this; exact HM.row .head
      · have g5 : decide ((xs.length : Int) ≤ (k : Int)) = false := by simp; omega
        have GJ := Lib.hid (vals_get ys j (by have := HYL.out; omega))
        have GK := Lib.hid (vals_get ys k (by have := HYL.out; omega))
        have LJ : Hid (j < (vals ys).length) := Lib.hid (by rw [vals_len]; have := HYL.out; omega)
        have LK : Hid (k < ((vals ys).set j (.int .i64 (hp ys k))).length) := Lib.hid (by rw [List.length_set, vals_len]; have := HYL.out; omega)
        have q1 : (0 : Int) ≤ (k : Int) ∧ (k : Int) < (xs.length : Int) := by omega
        have q2 : (0 : Int) ≤ (j : Int) ∧ (j : Int) < (xs.length : Int) := by omega
        by_cases hz : hp ys j ≤ hp ys k
        · have g6 : decide (hp ys j ≤ hp ys k) = true := by simp [hz]
          go_upto_region 5 with fail
          refine wp_region_M HM (fun _ => [.row (.slice (some ⟨g, 0, none⟩) xs.length cap) 3 1 xs.length (vals ys)]) rfl (by kernel_rfl) (by kernel_rfl) ?_
          refine wpB_pure (v := ?v132) (by kernel_rfl) (by kernel_rfl) (fun w' => ?h132) (fun K hK => ?k132)
          case h132 =>
            go_simp
            try rfl
          go_simp
          refine hK _ ?_
          clear hK K
          refine wpB_pure (v := ?v133) (by kernel_rfl) (by kernel_rfl) (fun w' => ?h133) (fun K hK => ?k133)
          case h133 =>
            go_simp
            try rfl
          go_simp
          refine hK _ ?_
          clear hK K
          refine wpB_pure (v := ?v134) (by kernel_rfl) (by kernel_rfl) (fun w' => ?h134) (fun K hK => ?k134)
          case h134 =>
            go_simp
            try rfl
          go_simp
          refine hK _ ?_
          clear hK K
          refine wpB_pure (v := ?v135) (by kernel_rfl) (by kernel_rfl) (fun w' => ?h135) (fun K hK => ?k135)
          case h135 =>
            go_simp
            try rfl
          go_simp
          refine hK _ ?_
          clear hK K
          refine wpB_pure (v := ?v136) (by kernel_rfl) (by kernel_rfl) (fun w' => ?h136) (fun K hK => ?k136)
          case h136 =>
            go_simp
            try rfl
          go_simp
          refine hK _ ?_
          clear hK K
          refine wpB_pure (v := ?v137) (by kernel_rfl) (by kernel_rfl) (fun w' => ?h137) (fun K hK => ?k137)
          case h137 =>
            go_simp
            try rfl
          go_simp
          refine hK _ ?_
          clear hK K
          refine wpB_pure (v := ?v138) (by kernel_rfl) (by kernel_rfl) (fun w' => ?h138) (fun K hK => ?k138)
          case h138 =>
            go_simp
            try rfl
          go_simp
          refine hK _ ?_
          clear hK K
          refine wpB_pure (v := ?v139) (by kernel_rfl) (by kernel_rfl) (fun w' => ?h139) (fun K hK => ?k139)
          case h139 =>
            go_simp
            try rfl
          go_simp
          refine hK _ ?_
          clear hK K
          (refine wpB_loadMR (by kernel_rfl) (by kernel_rfl) (by kernel_rfl) rfl rfl (by repeat (first | exact Sel.head | apply Sel.tail)) (GJ.out) (by kernel_rfl) (fun K hK => ?_))
          go_simp
          refine hK _ ?_
          clear hK K
          refine wpB_pure (v := ?v140) (by kernel_rfl) (by kernel_rfl) (fun w' => ?h140) (fun K hK => ?k140)
          case h140 =>
            go_simp
            try rfl
          go_simp
          refine hK _ ?_
          clear hK K
          refine wpB_pure (v := ?v141) (by kernel_rfl) (by kernel_rfl) (fun w' => ?h141) (fun K hK => ?k141)
          case h141 =>
            go_simp
            try rfl
          go_simp
          refine hK _ ?_
          clear hK K
          refine wpB_pure (v := ?v142) (by kernel_rfl) (by kernel_rfl) (fun w' => ?h142) (fun K hK => ?k142)
          case h142 =>
            go_simp
            try rfl
          go_simp
          refine hK _ ?_
          clear hK K
          (refine wpB_loadMR (by kernel_rfl) (by kernel_rfl) (by kernel_rfl) rfl rfl (by repeat (first | exact Sel.head | apply Sel.tail)) (GK.out) (by kernel_rfl) (fun K hK => ?_))
          go_simp
          refine hK _ ?_
          clear hK K
          refine wpB_pure (v := ?v143) (by kernel_rfl) (by kernel_rfl) (fun w' => ?h143) (fun K hK => ?k143)
          case h143 =>
            go_simp
            try rfl
          go_simp
          refine hK _ ?_
          clear hK K
          refine wpB_pure (v := ?v144) (by kernel_rfl) (by kernel_rfl) (fun w' => ?h144) (fun K hK => ?k144)
          case h144 =>
            go_simp
            try rfl
          go_simp
          refine hK _ ?_
          clear hK K
          refine wpB_nil (fun w HM => ?_)
          go_wp2_with fail
          go_ret
          refine ⟨rfl, ?_, HM.kept.mono (fun k hk => by subst hk; rfl)⟩
          have := HU.out
          rw [downF_stop f ys j (.inr (by rw [HKID.out]; exact hz))] at this
          subst this; exact HM.row .head
        · have g6 : decide (hp ys j ≤ hp ys k) = false := by simp [hz]
          go_upto_region 5 with fail
          refine wp_region_M HM (fun _ => [.row (.slice (some ⟨g, 0, none⟩) xs.length cap) 3 1 xs.length (vals ys)]) rfl (by kernel_rfl) (by kernel_rfl) ?_
          refine wpB_pure (v := ?v145) (by kernel_rfl) (by kernel_rfl) (fun w' => ?h145) (fun K hK => ?k145)
          case h145 =>
            go_simp
            try rfl
          go_simp
          refine hK _ ?_
          clear hK K
          refine wpB_pure (v := ?v146) (by kernel_rfl) (by kernel_rfl) (fun w' => ?h146) (fun K hK => ?k146)
          case h146 =>
            go_simp
            try rfl
          go_simp
          refine hK _ ?_
          clear hK K
          refine wpB_pure (v := ?v147) (by kernel_rfl) (by kernel_rfl) (fun w' => ?h147) (fun K hK => ?k147)
          case h147 =>
            go_simp
            try rfl
          go_simp
          refine hK _ ?_
          clear hK K
          refine wpB_pure (v := ?v148) (by kernel_rfl) (by kernel_rfl) (fun w' => ?h148) (fun K hK => ?k148)
          case h148 =>
            go_simp
            try rfl
          go_simp
          refine hK _ ?_
          clear hK K
          refine wpB_pure (v := ?v149) (by kernel_rfl) (by kernel_rfl) (fun w' => ?h149) (fun K hK => ?k149)
          case h149 =>
            go_simp
            try rfl
          go_simp
          refine hK _ ?_
          clear hK K
          refine wpB_pure (v := ?v150) (by kernel_rfl) (by kernel_rfl) (fun w' => ?h150) (fun K hK => ?k150)
          case h150 =>
            go_simp
            try rfl
          go_simp
          refine hK _ ?_
          clear hK K
          refine wpB_pure (v := ?v151) (by kernel_rfl) (by kernel_rfl) (fun w' => ?h151) (fun K hK => ?k151)
          case h151 =>
            go_simp
            try rfl
          go_simp
          refine hK _ ?_
          clear hK K
          refine wpB_pure (v := ?v152) (by kernel_rfl) (by kernel_rfl) (fun w' => ?h152) (fun K hK => ?k152)
          case h152 =>
            go_simp
            try rfl
          go_simp
          refine hK _ ?_
          clear hK K
          (refine wpB_loadMR (by kernel_rfl) (by kernel_rfl) (by kernel_rfl) rfl rfl (by repeat (first | exact Sel.head | apply Sel.tail)) (GJ.out) (by kernel_rfl) (fun K hK => ?_))
          go_simp
          refine hK _ ?_
          clear hK K
          refine wpB_pure (v := ?v153) (by kernel_rfl) (by kernel_rfl) (fun w' => ?h153) (fun K hK => ?k153)
          case h153 =>
            go_simp
            try rfl
          go_simp
          refine hK _ ?_
          clear hK K
          refine wpB_pure (v := ?v154) (by kernel_rfl) (by kernel_rfl) (fun w' => ?h154) (fun K hK => ?k154)
          case h154 =>
            go_simp
            try rfl
          go_simp
          refine hK _ ?_
          clear hK K
          refine wpB_pure (v := ?v155) (by kernel_rfl) (by kernel_rfl) (fun w' => ?h155) (fun K hK => ?k155)
          case h155 =>
            go_simp
            try rfl
          go_simp
          refine hK _ ?_
          clear hK K
          (refine wpB_loadMR (by kernel_rfl) (by kernel_rfl) (by kernel_rfl) rfl rfl (by repeat (first | exact Sel.head | apply Sel.tail)) (GK.out) (by kernel_rfl) (fun K hK => ?_))
          go_simp
          refine hK _ ?_
          clear hK K
          refine wpB_pure (v := ?v156) (by kernel_rfl) (by kernel_rfl) (fun w' => ?h156) (fun K hK => ?k156)
          case h156 =>
            go_simp
            try rfl
          go_simp
          refine hK _ ?_
          clear hK K
          refine wpB_pure (v := ?v157) (by kernel_rfl) (by kernel_rfl) (fun w' => ?h157) (fun K hK => ?k157)
          case h157 =>
            go_simp
            try rfl
          go_simp
          refine hK _ ?_
          clear hK K
          refine wpB_nil (fun w HM => ?_)
          go_upto_region 7 with fail
          refine wp_region_M HM (fun ix => match ix with | 0 => [.row (.slice (some ⟨g, 0, none⟩) xs.length cap) 3 1 xs.length (vals ys)] | 1 => [.row (.slice (some ⟨g, 0, none⟩) xs.length cap) 3 1 xs.length ((vals ys).set j (.int .i64 (hp ys k)))] | _ => [.row (.slice (some ⟨g, 0, none⟩) xs.length cap) 3 1 xs.length (((vals ys).set j (.int .i64 (hp ys k))).set k (.int .i64 (hp ys j)))]) rfl (by kernel_rfl) (by kernel_rfl) ?_
          refine wpB_pure (v := ?v158) (by kernel_rfl) (by kernel_rfl) (fun w' => ?h158) (fun K hK => ?k158)
          case h158 =>
            go_simp
            try rfl
          go_simp
          refine hK _ ?_
          clear hK K
          refine wpB_pure (v := ?v159) (by kernel_rfl) (by kernel_rfl) (fun w' => ?h159) (fun K hK => ?k159)
          case h159 =>
            go_simp
            try rfl
          go_simp
          refine hK _ ?_
          clear hK K
          refine wpB_pure (v := ?v160) (by kernel_rfl) (by kernel_rfl) (fun w' => ?h160) (fun K hK => ?k160)
          case h160 =>
            go_simp
            try rfl
          go_simp
          refine hK _ ?_
          clear hK K
          refine wpB_pure (v := ?v161) (by kernel_rfl) (by kernel_rfl) (fun w' => ?h161) (fun K hK => ?k161)
          case h161 =>
            go_simp
            try rfl
          go_simp
          refine hK _ ?_
          clear hK K
          refine wpB_pure (v := ?v162) (by kernel_rfl) (by kernel_rfl) (fun w' => ?h162) (fun K hK => ?k162)
          case h162 =>
            go_simp
            try rfl
          go_simp
          refine hK _ ?_
          clear hK K
          refine wpB_pure (v := ?v163) (by kernel_rfl) (by kernel_rfl) (fun w' => ?h163) (fun K hK => ?k163)
          case h163 =>
            go_simp
            try rfl
          go_simp
          refine hK _ ?_
          clear hK K
          refine wpB_pure (v := ?v164) (by kernel_rfl) (by kernel_rfl) (fun w' => ?h164) (fun K hK => ?k164)
          case h164 =>
            go_simp
            try rfl
          go_simp
          refine hK _ ?_
          clear hK K
          (refine wpB_loadMR (by kernel_rfl) (by kernel_rfl) (by kernel_rfl) rfl rfl (by repeat (first | exact Sel.head | apply Sel.tail)) (GK.out) (by kernel_rfl) (fun K hK => ?_))
          go_simp
          refine hK _ ?_
          clear hK K
          refine wpB_pure (v := ?v165) (by kernel_rfl) (by kernel_rfl) (fun w' => ?h165) (fun K hK => ?k165)
          case h165 =>
            go_simp
            try rfl
          go_simp
          refine hK _ ?_
          clear hK K
          refine wpB_pure (v := ?v166) (by kernel_rfl) (by kernel_rfl) (fun w' => ?h166) (fun K hK => ?k166)
          case h166 =>
            go_simp
            try rfl
          go_simp
          refine hK _ ?_
          clear hK K
          refine wpB_pure (v := ?v167) (by kernel_rfl) (by kernel_rfl) (fun w' => ?h167) (fun K hK => ?k167)
          case h167 =>
            go_simp
            try rfl
          go_simp
          refine hK _ ?_
          clear hK K
          (refine wpB_loadMR (by kernel_rfl) (by kernel_rfl) (by kernel_rfl) rfl rfl (by repeat (first | exact Sel.head | apply Sel.tail)) (GJ.out) (by kernel_rfl) (fun K hK => ?_))
          go_simp
          refine hK _ ?_
          clear hK K
          refine wpB_pure (v := ?v168) (by kernel_rfl) (by kernel_rfl) (fun w' => ?h168) (fun K hK => ?k168)
          case h168 =>
            go_simp
            try rfl
          go_simp
          refine hK _ ?_
          clear hK K
          (refine wpB_storeMR (by kernel_rfl) (by kernel_rfl) rfl rfl rfl (by repeat (first | exact Sel.head | apply Sel.tail)) (LJ.out) (by kernel_rfl) rfl rfl (fun K hK => ?_))
          go_simp
          refine hK _ ?_
          clear hK K
          refine wpB_pure (v := ?v169) (by kernel_rfl) (by kernel_rfl) (fun w' => ?h169) (fun K hK => ?k169)
          case h169 =>
            go_simp
            try rfl
          go_simp
          refine hK _ ?_
          clear hK K
          (refine wpB_storeMR (by kernel_rfl) (by kernel_rfl) rfl rfl rfl (by repeat (first | exact Sel.head | apply Sel.tail)) (LK.out) (by kernel_rfl) rfl rfl (fun K hK => ?_))
          go_simp
          refine hK _ ?_
          clear hK K
          refine wpB_nil (fun w HM => ?_)
          rw [vals_swp ys j k] at HM
          go_wp2_with fail
          go_roundw
          case rel =>
            cases f with
            | zero => omega
            | succ f =>
              refine ⟨k, f, swp ys j k, by omega, by have := HKL.out; omega, by go_num, by rw [swp_length]; exact HYL.out, ?_, HM⟩
              have h1 := HU.out
              rw [downF_step f ys j (by rw [HKID.out, HYL.out]; omega), HKID.out] at h1
              exact h1
          case measure => have := HKL.out; simp [intOf]; omega
end Go.Proofs.Ytpedkcpkdacnlaa
