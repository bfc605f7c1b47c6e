/- Slices of the call's own: opened and made again; slices.Insert at the head, slices.Delete of one element, slices.Reverse. -/
import Derived.Test.YtpedkcpkdacnlaaClone
import Derived.Test.YtpedkcpkdacnlaaResOps
import Derived.Shelf.Spec.SlicesInsertGrow
namespace Go.Proofs.Ytpedkcpkdacnlaa
open Go.RowKit Go.Lib
set_option linter.unusedVariables false
theorem Own.opened {w : World} {base : Nat} {v : Value} {xs : List Int} (h : Own w base v xs) : (v = .slice none 0 0 ∧ xs = []) ∨
    ∃ g cap C, v = .slice (some ⟨g, 0, none⟩) xs.length cap ∧ base ≤ g ∧ Blk w g C 3 ∧ C.length = cap ∧ xs.length ≤ cap ∧ cap ≤ 9223372036854775807 ∧ C.take xs.length = xs.map (Value.int .i64) := by
  obtain ⟨h1, h2 | ⟨g, cap, cur, hv, hb, hg, hl, hm, hs, ht⟩⟩ := h
  · exact .inl ⟨h2.1, List.length_eq_zero_iff.1 h2.2⟩
  · unfold maxLen at hm
    exact .inr ⟨g, cap, cur.toList, hv, hb, by unfold Blk; rw [hg], by simpa using hs, hl, by omega, by simpa using ht⟩
theorem Own.made {w : World} {base g cap : Nat} {C : List Value} {xs : List Int} (hb : base ≤ g) (hB : Blk w g C 3) (hc : C.length = cap) (hl : xs.length ≤ cap) (hm : cap ≤ 9223372036854775807)
    (ht : C.take xs.length = xs.map (Value.int .i64)) : Own w base (.slice (some ⟨g, 0, none⟩) xs.length cap) xs :=
  ⟨by simp, .inr ⟨g, cap, C.toArray, rfl, hb, hB, hl, by unfold maxLen; omega, by simpa using hc, by simpa using ht⟩⟩
theorem spl_take (C vs : List Value) (n : Nat) (h : vs.length = n) : (spl C 0 vs).take n = vs := by
  subst h; simp [spl]
theorem Blk.take_cell {w : World} {g : Nat} {C : List Value} {t : TypeId} {xs : List Int} (hB : Blk w g C t) (ht : C.take xs.length = xs.map (Value.int .i64)) (j : Nat) (hj : j < xs.length) : w.cell? ⟨g, 0 + j, none⟩ = some (.int .i64 (xs.getD j 0)) := by
  rw [Nat.zero_add, hB.cell]
  have e : (C.take xs.length)[j]? = (xs.map (Value.int .i64))[j]? := by rw [ht]
  rw [List.getElem?_take, if_pos hj, List.getElem?_map, List.getElem?_eq_getElem hj] at e
  rw [e, List.getD_eq_getElem?_getD, List.getElem?_eq_getElem hj]; rfl
def insRen : Go.Shelf.Ren := ⟨fun | 21 => 48 | 27 => 58 | 28 => 59 | 35 => 75 | 39 => 26 | n => n, fun | 22 => 22 | 3 => 3 | 4 => 4 | 0 => 0 | n => n, fun | n => n⟩
theorem insLays : Go.Proofs.Lays2.n21 Try.prog insRen := {
  mixed := by kernel_rfl
  f21 := Try.func48.trans (congrArg some (by kernel_rfl))
  f27 := Try.func58.trans (congrArg some (by kernel_rfl))
  f28 := Try.func59.trans (congrArg some (by kernel_rfl))
  f35 := Try.func75.trans (congrArg some (by kernel_rfl))
  f39 := Try.func26.trans (congrArg some (by kernel_rfl))
  t0 := Try.underlying0
  a0 := Try.isAgg0
  z0 := Try.sizeOf0
  v0 := Try.zeroValue0
  t3 := Try.underlying3
  a3 := Try.isAgg3
  z3 := Try.sizeOf3
  v3 := Try.zeroValue3
  t4 := Try.underlying4
  a4 := Try.isAgg4
  z4 := Try.sizeOf4
  v4 := Try.zeroValue4
  t22 := Try.underlying22
  a22 := Try.isAgg22
  z22 := Try.sizeOf22
  v22 := Try.zeroValue22
  i3 := by kernel_rfl }
theorem Blk.newA (w : World) (A : Array Value) (t : TypeId) : Blk (w.alloc (.cells A t)) w.heap.size A.toList t := by
  have := Blk.new w A.toList t
  simpa using this
theorem Blk.drewn {w : World} {b : Nat} {C : List Value} {t : TypeId} (h : Blk w b C t) : Blk w.drew b C t := h
theorem ints_one (xs : List Int) : ∀ v ∈ xs.map (Value.int .i64), v.oneCell' = true := by
  intro v hv
  obtain ⟨z, -, rfl⟩ := List.mem_map.1 hv
  rfl
/-- slices.Insert(s, 0, x): the slice is owned from 'base' on, the new element lies in a block of its own. -/
theorem insert_any (w : World) (base : Nat) (v : Value) (xs : List Int) (x : Int) (vb : Nat) (h : Own w base v xs) (hx : xs.length ≤ 1000) (hb : base ≤ w.heap.size) (hv : Blk w vb [.int .i64 x] 3) (hne : ∀ a n c, v = .slice (some a) n c → vb ≠ a.block) :
    Calls Try.prog 48 #[v, .int .i64 0, .slice (some ⟨vb, 0, none⟩) 1 1] w fun e w' => ∃ v', e = .returned v' ∧ Own w' base v' (x :: xs) ∧ Below base w w' := by
  have hvs : ∀ j v, ([.int .i64 x] : List Value)[j]? = some v → w.cell? ⟨vb, 0 + j, none⟩ = some v := fun j v h => by rw [Nat.zero_add, hv.cell]; exact h
  have h1v : ∀ v ∈ ([.int .i64 x] : List Value), v.oneCell' = true := by intro v h; simp at h; subst h; rfl
  have grown : ∀ (d : Nat) (C : List Value) (cap : Nat), C.length = cap → 1 + xs.length ≤ cap → cap ≤ 9223372036854775807 → C.take (1 + xs.length) = (x :: xs).map (Value.int .i64) → ∀ w1 : World, Blk w1 d C 3 → base ≤ d → Own w1 base (.slice (some ⟨d, 0, none⟩) (xs.length + 1) cap) (x :: xs) := by
    intro d C cap hC hl hm ht w1 hB hd
    exact Own.made (xs := x :: xs) hd hB hC (by simp; omega) hm (by rw [List.length_cons, Nat.add_comm]; exact ht)
  rcases h.opened with ⟨rfl, rfl⟩ | ⟨g, cap, C, rfl, hg, hB, hC, hl, hm, ht⟩
  · refine (Any2.slices_Insert_int_end_grow insLays none 0 0 vb 0 1 1 [] [.int .i64 x] w (by decide) (by decide) (by decide) (by decide) rfl rfl (fun _ => rfl) (fun a h => by cases h) hvs h1v).mono fun e w' ⟨he, hw⟩ => ⟨_, he, ?_, ?_⟩
    · rw [hw]
      generalize hG : grownCap w (0 + 1) 0 (insRen.t 3) = G
      have hG1 : 1 ≤ G := by rw [← hG]; exact grownCap_ge _ _ _ _
      have hG2 : G ≤ 9223372036854775807 := by rw [← hG]; have := grownCap_le_maxLen w (0 + 1) 0 (insRen.t 3) (by unfold maxLen; omega); unfold maxLen at this; omega
      exact grown _ _ _ (by simp [size_zeroCells, Value.cells]; omega) (by simpa using hG1) hG2 (by simp) _ (Blk.newA w.drew _ _) hb
    · rw [hw]; exact ((Below.refl _ _).drew).alloc hb _
  · have h63 : cap ≤ maxLen := by unfold maxLen; omega
    have hcs : ∀ j v, (xs.map (Value.int .i64))[j]? = some v → w.cell? ⟨g, 0 + j, none⟩ = some v := fun j v h => by
      rw [List.getElem?_map] at h
      have hj : j < xs.length := by
        rcases Nat.lt_or_ge j xs.length with h' | h'
        · exact h'
        · rw [List.getElem?_eq_none h'] at h; simp at h
      rw [List.getElem?_eq_getElem hj] at h
      rw [hB.take_cell ht j hj, ← h, List.getD_eq_getElem?_getD, List.getElem?_eq_getElem hj]; rfl
    by_cases hroom : xs.length + 1 ≤ cap
    · by_cases h0 : xs.length = 0
      · obtain rfl : xs = [] := List.length_eq_zero_iff.1 h0
        refine (Any2.slices_Insert_int_end_room insLays g 0 0 cap vb 0 1 1 [.int .i64 x] w (by decide) (by simpa using hroom) hm rfl (fun j hj => by
          obtain rfl : j = 0 := by omega
          rw [hB.cell, List.getElem?_eq_getElem (by simp at hroom; omega)]; rfl) (fun j _ => hB.frozen _) hvs h1v).mono fun e w' ⟨he, hw⟩ => ⟨_, he, ?_, ?_⟩
        · rw [hw]
          have hB2 := Blk.setCells [Value.int .i64 x] 0 w C hB (by simp at hroom ⊢; omega)
          exact grown g _ cap (by rw [spl_length _ _ _ (by simp at hroom ⊢; omega)]; exact hC) (by simpa using hroom) hm (by simp [spl]) _ hB2 hg
        · rw [hw]; exact (setCells_kept g _ _ w).below hb (fun k hk => by rw [hk]; exact hg)
      · have hn : 0 < xs.length := by omega
        have hsh : ∀ (b : Nat) (D : List Value), Blk w b D 3 → w.shape? b = some (3, D.length) := fun b D h => by unfold Blk at h; simp [World.shape?, h]
        refine (Any2.slices_Insert_int_shift insLays g 0 xs.length cap 0 vb 0 1 1 (xs.map (Value.int .i64)) [.int .i64 x] w hn (by decide) hroom hm (hne _ _ _ rfl) (List.length_map _) rfl hcs (fun j hj => by
          rw [Nat.zero_add, hB.cell, List.getElem?_eq_getElem (by omega)]; rfl) (fun j _ => hB.frozen _) hvs (ints_one xs) h1v 3 3 1 cap (hsh _ _ hv) (by rw [hsh _ _ hB, hC]) (by omega) (hv.frozen _) (hv.frozen _)).mono fun e w' ⟨he, hw⟩ => ⟨_, he, ?_, ?_⟩
        · rw [hw]
          have hB1 := Blk.setCells (xs.map (Value.int .i64)) 1 w.drew C hB.drewn (by simp; omega)
          have hl1 : (spl C 1 (xs.map (Value.int .i64))).length = cap := by rw [spl_length _ _ _ (by simp; omega)]; exact hC
          have hB2 := Blk.setCells [Value.int .i64 x] 0 _ _ hB1 (by rw [hl1]; simp; omega)
          refine grown g _ cap (by rw [spl_length _ _ _ (by rw [hl1]; simp; omega)]; exact hl1) (by omega) hm ?_ _ hB2 hg
          have hC1 : (C.take 1).length = 1 := by simp; omega
          simp only [spl, List.take_zero, List.nil_append, List.length_singleton, Nat.zero_add]
          rw [List.append_assoc, List.drop_append_of_le_length (by omega), List.drop_of_length_le (by omega : (C.take 1).length ≤ 1), List.nil_append, Nat.add_comm 1, List.singleton_append, List.take_succ_cons, List.map_cons, List.take_append_of_le_length (by simp), List.take_of_length_le (by simp)]
        · rw [hw]
          exact (((Kept.refl _ w).drew.trans (setCells_kept g _ _ w.drew)).trans (setCells_kept g _ _ _)).below hb (fun k hk => by rw [hk]; exact hg)
    · have hroom' : cap < xs.length + 1 := by omega
      have h63b : maxLen = 9223372036854775807 := rfl
      by_cases h0 : xs.length = 0
      · obtain rfl : xs = [] := List.length_eq_zero_iff.1 h0
        refine (Any2.slices_Insert_int_end_grow insLays (some ⟨g, 0, none⟩) 0 cap vb 0 1 1 [] [.int .i64 x] w (by decide) (by omega) (by simpa using hroom') (by decide) rfl rfl (fun h => by cases h) (fun a h j v hv => by simp at hv) hvs h1v).mono fun e w' ⟨he, hw⟩ => ⟨_, he, ?_, ?_⟩
        · rw [hw]
          generalize hG : grownCap w (0 + 1) cap (insRen.t 3) = G
          have hG1 : 1 ≤ G := by rw [← hG]; exact grownCap_ge _ _ _ _
          have hG2 : G ≤ 9223372036854775807 := by rw [← hG]; have := grownCap_le_maxLen w (0 + 1) cap (insRen.t 3) (by unfold maxLen; omega); omega
          exact grown _ _ _ (by simp [size_zeroCells, Value.cells]; omega) (by simpa using hG1) hG2 (by simp) _ (Blk.newA w.drew _ _) hb
        · rw [hw]; exact ((Below.refl _ _).drew).alloc hb _
      · have hn : 0 < xs.length := by omega
        refine (Any2.slices_Insert_int_grow insLays g 0 xs.length cap 0 vb 0 1 1 (xs.map (Value.int .i64)) [.int .i64 x] w hn (by decide) hl hroom' (by omega) (List.length_map _) rfl hcs hvs (ints_one xs) h1v).mono fun e w' ⟨he, hw⟩ => ⟨_, he, ?_, ?_⟩
        · rw [hw]
          generalize hG : grownCap w (xs.length + 1) cap (insRen.t 3) = G
          have hG1 : xs.length + 1 ≤ G := by rw [← hG]; exact grownCap_ge _ _ _ _
          have hG2 : G ≤ 9223372036854775807 := by rw [← hG]; have := grownCap_le_maxLen w (xs.length + 1) cap (insRen.t 3) (by unfold maxLen; omega); omega
          have hN := Blk.newA w (((xs.map (Value.int .i64)).take 0).toArray ++ Builtin.zeroCells (Value.int .i64 0).cells (xs.length + 1 - 0) ++ Builtin.zeroCells (Value.int .i64 0).cells (G - (xs.length + 1))) (insRen.t 3)
          have hL : (((xs.map (Value.int .i64)).take 0).toArray ++ Builtin.zeroCells (Value.int .i64 0).cells (xs.length + 1 - 0) ++ Builtin.zeroCells (Value.int .i64 0).cells (G - (xs.length + 1))).toList.length = G := by
            simp [size_zeroCells, Value.cells]; omega
          generalize (((xs.map (Value.int .i64)).take 0).toArray ++ Builtin.zeroCells (Value.int .i64 0).cells (xs.length + 1 - 0) ++ Builtin.zeroCells (Value.int .i64 0).cells (G - (xs.length + 1))) = A at *
          generalize A.toList = D at *
          have hB1 := Blk.setCells [Value.int .i64 x] 0 _ D hN.drewn (by simp; omega)
          have hl1 : (spl D 0 [Value.int .i64 x]).length = G := by rw [spl_length _ _ _ (by simp; omega)]; exact hL
          have hB2 := Blk.setCells (xs.map (Value.int .i64)) (0 + 1) _ _ hB1.drewn (by rw [hl1]; simp; omega)
          refine grown _ _ G (by rw [spl_length _ _ _ (by rw [hl1]; simp; omega)]; exact hl1) (by omega) hG2 ?_ _ hB2 hb
          rw [Nat.add_comm 1 xs.length]
          simp [spl]
        · rw [hw]
          have h1 : Below base w ((w.alloc (.cells (((xs.map (Value.int .i64)).take 0).toArray ++ Builtin.zeroCells (Value.int .i64 0).cells (xs.length + 1 - 0) ++ Builtin.zeroCells (Value.int .i64 0).cells (grownCap w (xs.length + 1) cap (insRen.t 3) - (xs.length + 1))) (insRen.t 3))).drew) := ((Below.refl _ _).alloc hb _).drew
          refine h1.trans ?_
          refine (((setCells_kept w.heap.size _ _ _).drew).trans (setCells_kept w.heap.size _ _ _)).below ?_ (fun k hk => by rw [hk]; exact hb)
          show base ≤ (w.alloc _).heap.size
          rw [World.size_alloc]; omega
/-- slices.Delete(s, i, i + 1). -/
theorem delete_any (w : World) (base : Nat) (v : Value) (xs : List Int) (i : Nat) (h : Own w base v xs) (hi : i < xs.length) (hb : base ≤ w.heap.size) :
    Calls Try.prog 45 #[v, .int .i64 i, .int .i64 ((i + 1 : Nat) : Int)] w fun e w' => ∃ v', e = .returned v' ∧ Own w' base v' (xs.eraseIdx i) ∧ Below base w w' := by
  rcases h.opened with ⟨rfl, rfl⟩ | ⟨g, cap, C, rfl, hg, hB, hC, hl, hm, ht⟩
  · simp at hi
  · refine (Try.slices_Delete_int_cells g 0 xs.length cap i (i + 1) xs w (Nat.le_refl _) hl hm (by omega) (by omega) (hB.take_cell ht) (fun j _ => hB.frozen _)).mono fun e w' ⟨he, q, hw⟩ => ⟨_, he, ?_, ?_⟩
    · have hE : xs.eraseIdx i = xs.take i ++ xs.drop (i + 1) := List.eraseIdx_eq_take_drop_succ xs i
      have hlen : (xs.eraseIdx i).length = xs.length - 1 := by rw [List.length_eraseIdx]; simp [hi]
      rw [hw, show xs.length - (i + 1 - i) = (xs.eraseIdx i).length by rw [hlen]; omega]
      rw [List.take_of_length_le (Nat.le_refl xs.length), ← hE, show i + 1 - i = 1 by omega]
      have hlz : ((xs.eraseIdx i ++ List.replicate 1 (0 : Int)).map (Value.int .i64)).length = xs.length := by simp only [List.length_map, List.length_append, List.length_replicate, hlen]; omega
      have hB1 := Blk.setCells ((xs.eraseIdx i ++ List.replicate 1 (0 : Int)).map (Value.int .i64)) 0 (w.drewN q) C hB (by rw [hlz]; omega)
      refine Own.made hg hB1 (by rw [spl_length _ _ _ (by rw [hlz]; omega)]; exact hC) (by omega) hm ?_
      simp only [spl, List.take_zero, List.nil_append, List.map_append]
      rw [List.append_assoc, List.take_append_of_le_length (by simp), List.take_of_length_le (by simp)]
    · rw [hw]
      exact ((Below.mono (below_drewN w q) hb).trans ((setCells_kept g _ _ _).below (show base ≤ (w.drewN q).heap.size from hb) (fun k hk => by rw [hk]; exact hg)))
/-- slices.Reverse. -/
theorem reverse_any (w : World) (base : Nat) (v : Value) (xs : List Int) (h : Own w base v xs) (hb : base ≤ w.heap.size) :
    Calls Try.prog 26 #[v] w fun e w' => e = .returned (.tuple #[]) ∧ Own w' base v xs.reverse ∧ Below base w w' := by
  rcases h.opened with ⟨rfl, rfl⟩ | ⟨g, cap, C, rfl, hg, hB, hC, hl, hm, ht⟩
  · exact (Try.slices_Reverse_int_empty none 0 w).mono fun e w' ⟨he, hw⟩ => ⟨he, by rw [hw]; exact h, by rw [hw]; exact Below.refl _ _⟩
  · refine (Try.slices_Reverse_int_cells g 0 xs.length cap xs w (Nat.le_refl _) (by omega) (hB.take_cell ht) (fun j _ => hB.frozen _)).mono fun e w' ⟨he, q, hw⟩ => ⟨he, ?_, ?_⟩
    · rw [hw, List.take_of_length_le (Nat.le_refl xs.length)]
      have hlz : (xs.reverse.map (Value.int .i64)).length = xs.length := by simp
      have hB1 := Blk.setCells (xs.reverse.map (Value.int .i64)) 0 (w.drewN q) C hB (by rw [hlz]; omega)
      have := Own.made (xs := xs.reverse) hg hB1 (by rw [spl_length _ _ _ (by rw [hlz]; omega)]; exact hC) (by simp; omega) hm (spl_take _ _ _ (by simp))
      rwa [List.length_reverse] at this
    · rw [hw]
      exact ((Below.mono (below_drewN w q) hb).trans ((setCells_kept g _ _ _).below (show base ≤ (w.drewN q).heap.size from hb) (fun k hk => by rw [hk]; exact hg)))
end Go.Proofs.Ytpedkcpkdacnlaa
