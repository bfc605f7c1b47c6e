/- Owned slices among what a walk knows of memory: reading, writing, appending; and regions that draw their order. No program is named here. -/
import Derived.Test.YtpedkcpkdacnlaaMem
import Derived.Test.YtpedkcpkdacnlaaStable
import Derived.Maps.AppendAt
namespace Go.Proofs.Ytpedkcpkdacnlaa
open Go.RowKit
set_option linter.unusedVariables false
theorem ownsRow.form {w : World} {base e sz n : Nat} {v : Value} {xs : List Value} (h : w.ownsRow base e sz v n xs) : ∃ p c, v = .slice p n c ∧ n ≤ c ∧ c ≤ 9223372036854775807 ∧ xs.length = n * sz := by
  obtain ⟨h1, ⟨rfl, rfl⟩ | ⟨g, cap, cur, rfl, hb, hg, hl, hm, r⟩⟩ := h
  · exact ⟨none, 0, rfl, by omega, by omega, h1⟩
  · unfold maxLen at hm; exact ⟨_, cap, rfl, hl, by omega, h1⟩
theorem ownsRow.head {w : World} {base e sz n : Nat} {v : Value} {xs : List Value} (h : w.ownsRow base e sz v n xs) (hn : 0 < n) : ∃ g c, v = .slice (some ⟨g, 0, none⟩) n c ∧ n ≤ c ∧ c ≤ 9223372036854775807 ∧ g < w.heap.size ∧ base ≤ g := by
  obtain ⟨h1, ⟨rfl, rfl⟩ | ⟨g, cap, cur, rfl, hb, hg, hl, hm, r⟩⟩ := h
  · omega
  · unfold maxLen at hm; exact ⟨g, cap, rfl, hl, by omega, (Array.getElem?_eq_some_iff.1 hg).1, hb⟩
theorem ownsRow.cells {w : World} {base e sz n g c : Nat} {xs : List Value} (h : w.ownsRow base e sz (.slice (some ⟨g, 0, none⟩) n c) n xs) :
    ∃ C : List Value, Blk w g C e ∧ C.take xs.length = xs ∧ n ≤ c ∧ C.length = c * sz ∧ c ≤ maxLen ∧ base ≤ g ∧ xs.length = n * sz := by
  obtain ⟨h1, ⟨h, -⟩ | ⟨g', cap, cur, he, hb, hg, hl, hm, hs, ht⟩⟩ := h
  · cases h
  · simp only [Value.slice.injEq, Option.some.injEq, Addr.mk.injEq, and_true, true_and] at he
    obtain ⟨rfl, rfl⟩ := he
    exact ⟨cur.toList, by unfold Blk; simpa using hg, by rw [h1]; exact ht, hl, by simpa using hs, hm, hb, h1⟩
theorem ownsRow.cell {w : World} {base e sz n g c : Nat} {xs : List Value} (h : w.ownsRow base e sz (.slice (some ⟨g, 0, none⟩) n c) n xs) (i : Nat) (hi : i < xs.length) : w.cell? ⟨g, i, none⟩ = xs[i]? ∧ w.frozen? ⟨g, i, none⟩ = false := by
  obtain ⟨C, hB, ht, -⟩ := ownsRow.cells h
  refine ⟨?_, hB.frozen i⟩
  rw [hB.cell]
  have : (C.take xs.length)[i]? = xs[i]? := by rw [ht]
  rwa [List.getElem?_take, if_pos hi] at this
theorem ownsRow.splw {w w' : World} {e sz n g c : Nat} {xs : List Value} (h : w.ownsRow 0 e sz (.slice (some ⟨g, 0, none⟩) n c) n xs) (o : Nat) (vs : List Value) (ho : o + vs.length ≤ xs.length)
    (hw : ∀ C, Blk w g C e → Blk w' g (spl C o vs) e) : w'.ownsRow 0 e sz (.slice (some ⟨g, 0, none⟩) n c) n (spl xs o vs) := by
  obtain ⟨C, hB, ht, h1, h2, h3, h4, h5⟩ := ownsRow.cells h
  have hxl : xs.length ≤ C.length := by rw [← ht]; exact List.length_take_le' _ _
  have hl : (spl xs o vs).length = xs.length := spl_length _ _ _ ho
  refine ⟨by rw [hl]; exact h5, .inr ⟨g, c, (spl C o vs).toArray, rfl, h4, hw C hB, h1, h3, by simp [spl_length C o vs (by omega), h2], ?_⟩⟩
  rw [← h5]
  show (spl C o vs).take xs.length = spl xs o vs
  apply List.ext_getElem?
  intro i
  have hci : i < xs.length → C[i]? = xs[i]? := fun h => by
    have : (C.take xs.length)[i]? = xs[i]? := by rw [ht]
    rwa [List.getElem?_take, if_pos h] at this
  unfold Proofs.Ytpedkcpkdacnlaa.spl
  simp only [List.getElem?_take, List.getElem?_append, List.length_append, List.length_take, List.getElem?_drop]
  rw [Nat.min_eq_left (show o ≤ C.length by omega), Nat.min_eq_left (show o ≤ xs.length by omega)]
  by_cases c1 : i < xs.length
  · rw [if_pos c1]
    by_cases c2 : i < o
    · rw [if_pos (by omega), if_pos c2, if_pos c2, if_pos (by omega), if_pos c2, if_pos c2]; exact hci c1
    · by_cases c3 : i < o + vs.length
      · rw [if_pos c3, if_neg c2, if_pos c3, if_neg c2]
      · rw [if_neg c3, if_neg c3, show o + vs.length + (i - (o + vs.length)) = i by omega]; exact hci c1
  · rw [if_neg c1, if_neg (by omega), List.getElem?_eq_none (by omega)]
theorem spl_one (C : List Value) (o : Nat) (v : Value) (h : o < C.length) : spl C o [v] = C.set o v := by
  unfold spl
  rw [List.set_eq_take_append_cons_drop, if_pos h]; simp
namespace Mem
variable {w0 w w' : World} {S : Nat → Prop} {M : List En}
theorem sub (h : Mem w0 S M w) {M' : List En} (hs : M'.Sublist M) : Mem w0 S M' w :=
  ⟨h.kept, fun e he => h.holds e (hs.subset he), fun e he => h.own e (hs.subset he), h.dist.sublist hs⟩
theorem row (h : Mem w0 S M w) {e sz n : Nat} {v : Value} {xs : List Value} {f : En → List En} (hs : Sel (.row v e sz n xs) M f) : w.ownsRow 0 e sz v n xs := h.holds _ hs.mem
/-- A slice that a call has made. -/
theorem got (h : Mem w0 S M w) (k : Below w.heap.size w w') {e sz n : Nat} {v : Value} {xs : List Value} (ho : w'.ownsRow w.heap.size e sz v n xs) : Mem w0 S (.row v e sz n xs :: M) w' :=
  h.add k _ (by
    obtain ⟨h1, h2 | ⟨g, cap, cur, rfl, hb, r⟩⟩ := ho
    · exact ⟨h1, .inl h2⟩
    · exact ⟨h1, .inr ⟨g, cap, cur, rfl, Nat.zero_le _, r⟩⟩) (fun g hg => by
    obtain ⟨h1, h2 | ⟨g', cap, cur, rfl, hb, r⟩⟩ := ho
    · rw [En.foot, h2.1] at hg; simp [Value.ownBlock] at hg
    · simp [En.foot, Value.ownBlock] at hg; omega)
theorem nil (h : Mem w0 S M w) (e sz : Nat) : Mem w0 S (.row (.slice none 0 0) e sz 0 [] :: M) w :=
  h.got (Below.refl _ _) ⟨by simp, .inl ⟨rfl, rfl⟩⟩
/-- What a function hands back. -/
theorem gives (h : Mem w0 S M w) {e sz n : Nat} {v : Value} {xs : List Value} {f : En → List En} (hs : Sel (.row v e sz n xs) M f) (hS : ∀ g, v.ownBlock = some g → ¬ S g) : w.ownsRow w0.heap.size e sz v n xs := by
  have ho := h.own _ hs.mem
  obtain ⟨h1, h2 | ⟨g, cap, cur, rfl, hb, r⟩⟩ := h.row hs
  · exact ⟨h1, .inl h2⟩
  · exact ⟨h1, .inr ⟨g, cap, cur, rfl, (ho g rfl).resolve_left (hS g rfl), r⟩⟩
/-- Cells of an owned slice are written. -/
theorem splRow (h : Mem w0 S M w) {e sz n g c : Nat} {xs : List Value} {f : En → List En} (hs : Sel (.row (.slice (some ⟨g, 0, none⟩) n c) e sz n xs) M f) (o : Nat) (vs : List Value) (ho : o + vs.length ≤ xs.length) :
    ∀ C, Blk w g C e → Mem w0 S (f (.row (.slice (some ⟨g, 0, none⟩) n c) e sz n (spl xs o vs))) (setBlk w g (spl C o vs)) := fun C hC =>
  h.turn hs ((Kept.setBlk w g _).mono (fun k hk => by subst hk; rfl)) _ (ownsRow.splw (h.row hs) o vs ho (fun C' hC' => by
    have : C = C' := by
      have h1 : w.heap[g]? = some (.cells C.toArray e (0, 0)) := hC
      have h2 : w.heap[g]? = some (.cells C'.toArray e (0, 0)) := hC'
      rw [h1] at h2; simpa using h2
    subst this; exact hC.setBlk _)) (fun g' hg => .inl hg)
theorem setRow (h : Mem w0 S M w) {e sz n g c : Nat} {xs : List Value} {f : En → List En} (hs : Sel (.row (.slice (some ⟨g, 0, none⟩) n c) e sz n xs) M f) (o : Nat) (v : Value) (ho : o < xs.length) :
    Mem w0 S (f (.row (.slice (some ⟨g, 0, none⟩) n c) e sz n (xs.set o v))) (w.setCell ⟨g, o, none⟩ v) := by
  refine h.turn hs ((Kept.refl (fun g' => (En.row (.slice (some ⟨g, 0, none⟩) n c) e sz n xs).foot = some g') w).setCell (p := ⟨g, o, none⟩) (.inl rfl) v) _ ?_ (fun g' hg => .inl hg)
  rw [← spl_one xs o v ho]
  refine ownsRow.splw (h.row hs) o [v] (by simp; omega) (fun C hC => ?_)
  obtain ⟨C', hC', ht, -⟩ := ownsRow.cells (h.row hs)
  have : C = C' := by
    have h1 : w.heap[g]? = some (.cells C.toArray e (0, 0)) := hC
    have h2 : w.heap[g]? = some (.cells C'.toArray e (0, 0)) := hC'
    rw [h1] at h2; simpa using h2
  subst this
  have hxl : xs.length ≤ C.length := by rw [← ht]; exact List.length_take_le' _ _
  rw [spl_one C o v (by omega)]
  exact hC.set o v
end Mem
section
variable {P : Program} {ops : Array Oper} {rest : List Oper} {o : Oper} {a : Act} {w : World} {Q : Exit → Act → World → Prop} {w0 : World} {S : Nat → Prop} {M : List En}
/-- One cell of an owned slice is read. -/
theorem wpM_loadR (HM : Mem w0 S M w) {ty : TypeId} {x : Operand} {g off e sz n c : Nat} {xs : List Value} {f : En → List En} {v : Value} (hw : Region.wanted o (yielded ops a.tmps) = true) (ho : o.op = .load ty x)
    (hx : a.eval x = .pointer (some ⟨g, off, none⟩)) (hs : Sel (.row (.slice (some ⟨g, 0, none⟩) n c) e sz n xs) M f) (hv : xs[off]? = some v) (hu : scalarB P ty = true)
    (h : wpList P ops Q rest (a.put o.dst v) w) : wpList P ops Q (o :: rest) a w :=
  wpList_step fun _ hK => by
    rw [if_pos hw]
    unfold Oper.wp execOp
    have hc : w.cell? ⟨g, off, none⟩ = some v := by
      rw [(ownsRow.cell (HM.row hs) off (by
        rcases Nat.lt_or_ge off xs.length with h | h
        · exact h
        · rw [List.getElem?_eq_none h] at hv; cases hv)).1]; exact hv
    simp only [ho, hx, Instr.loadAt, Instr.sureAddr, Sem.run_bind, Sem.run_pure, Result.andThen_ok, run_loadVar_cell ty hu _ v hc]
    exact hK _ _ h
/-- One cell of an owned slice is written. -/
theorem wpM_storeR (HM : Mem w0 S M w) {ty : TypeId} {x y : Operand} {g off e sz n c : Nat} {xs : List Value} {f : En → List En} {v : Value} (hw : Region.wanted o (yielded ops a.tmps) = true) (ho : o.op = .store ty x y)
    (hx : a.eval x = .pointer (some ⟨g, off, none⟩)) (hy : a.eval y = v) (hs : Sel (.row (.slice (some ⟨g, 0, none⟩) n c) e sz n xs) M f) (hi : off < xs.length) (hu : oneB P ty = true) (h1 : v.oneCell' = true)
    (h : ∀ w', Mem w0 S (f (.row (.slice (some ⟨g, 0, none⟩) n c) e sz n (xs.set off v))) w' → wpList P ops Q rest (a.put o.dst undef) w') : wpList P ops Q (o :: rest) a w :=
  wpList_step fun _ hK => by
    rw [if_pos hw]
    unfold Oper.wp execOp
    have hc := ownsRow.cell (HM.row hs) off hi
    rw [List.getElem?_eq_getElem hi] at hc
    simp only [ho, hx, hy, Instr.storeAt, Instr.sureAddr, Sem.run_bind, Sem.run_pure, Result.andThen_ok, run_storeVar_cell ty hu _ v _ h1 hc.1 hc.2]
    exact hK _ _ (h _ (HM.setRow hs off v hi))
theorem fold_set (vs : List Value) : ∀ (pre junk : List Value), junk.length = vs.length → (vs.zipIdx pre.length).foldl (fun (cs : Array Value) (p : Value × Nat) => cs.setIfInBounds (0 + p.2) p.1) (pre ++ junk).toArray = (pre ++ vs).toArray := by
  induction vs with
  | nil => intro pre junk h; simp at h; subst h; rfl
  | cons v r ih =>
    intro pre junk h
    cases junk with
    | nil => simp at h
    | cons j js =>
      have := ih (pre ++ [v]) js (by simpa using h)
      rw [List.zipIdx_cons, List.foldl_cons]
      simp only [List.length_append, List.length_cons, List.length_nil, List.append_assoc, List.cons_append, List.nil_append, Nat.zero_add] at this ⊢
      have e : ((pre ++ j :: js).toArray.setIfInBounds pre.length v) = (pre ++ v :: js).toArray := by
        rw [List.setIfInBounds_toArray, List.set_append_right _ _ (Nat.le_refl _)]; simp
      rw [e]; exact this
theorem fill_one (size : Nat) (v : Value) (z : Array Value) (hv : v.cells.size = size) (hz : z.size = size) : Instr.fill (fun i => some (i * size, size)) z [(0, v)] = some v.cells := by
  have h := fold_set v.cells.toList [] z.toList (by simp [hv, hz])
  simp only [List.nil_append, List.length_nil, Array.toArray_toList] at h
  unfold Instr.fill
  simp only [Nat.zero_mul]
  rw [if_neg (by simp; omega)]
  show Instr.fill _ _ [] = _
  unfold Instr.fill
  rw [← Array.foldl_toList, Array.toList_zipIdx, h]
/-- A slice literal of one element. -/
theorem wpM_buildSlice1 (HM : Mem w0 S M w) {t e size : Nat} {x : Operand} {v z : Value} {C : List Value} (hg : o.guard = none) (ho : o.op = .buildSlice t 1 #[(0, x)]) (hx : a.eval x = v) (hv : v.cells = C.toArray)
    (ht : P.underlying t = some (.slice e)) (hi : (P.info? e).map (·.size) = some size) (hz : (P.info? e).bind (·.zero) = some z) (hzs : z.cells.size = size) (hl : C.length = size) (hs0 : 0 < size) (hs1 : size ≤ 16777216)
    (h : ∀ b w', b = w.heap.size → Mem w0 S (.blk b C e :: M) w' → wpList P ops Q rest (a.put o.dst (.slice (some ⟨b, 0, none⟩) 1 1)) w') : wpList P ops Q (o :: rest) a w :=
  wpList_plain hg fun _ hK => by
    unfold Oper.wp execOp
    cases hq : P.info? e with
    | none => rw [hq] at hz; cases hz
    | some i =>
      have hz' : i.zero = some z := by simpa [hq] using hz
      have hsz : i.size = size := by simpa [hq] using hi
      have e1 : (Instr.buildSlice t 1 #[(0, v)]).run P w = .ok (.slice (some ⟨w.heap.size, 0, none⟩) 1 1) (w.alloc (.cells C.toArray e)) := by
        have hfo := fill_one size v ((Array.range (1 * size)).map (z.cells[· % z.cells.size]!)) (by rw [hv]; simpa using hl) (by simp)
        simp only [Nat.one_mul] at hfo
        have n1 : ¬ (16777216 < size) := by omega
        have n2 : ¬ (size = 0) := by omega
        simp [Instr.buildSlice, run_underlying ht, sizeOf, typeInfo, hq, hsz, zeroValue, hz', newRow, hv, Sem.run_bind, n1, n2, hfo]
      have hx' : ((#[(0, x)] : Array (Nat × Operand)).map fun p => (p.1, a.eval p.2)) = #[(0, v)] := by simp [hx]
      simp only [ho, Sem.run_bind, hx', e1]
      exact hK _ _ (h _ _ rfl (HM.alloc C e))
/-- Elements are put behind an owned slice; they lie in the block that was made last. -/
theorem wpM_append (HM : Mem w0 S M w) {s x : Operand} {t e sz bytes n m c : Nat} {z : Value} {v : Value} {xs news : List Value} {b te : Nat} {M' : List En} {f : En → List En} (hg : o.guard = none)
    (ho : o.op = .call { callee := .builtin .append, args := #[s, x], argTypes := #[t, t] }) (hM : M = .blk b news te :: M')
    (ht : P.underlying t = some (.slice e)) (hi : (P.info? e).map (fun i => (i.size, i.bytes)) = some (sz, bytes)) (hz : (P.info? e).bind (·.zero) = some z) (hzs : z.cells.size = sz) (hsz : 0 < sz)
    (hs : a.eval s = v) (hx : a.eval x = .slice (some ⟨b, 0, none⟩) m c) (hsel : Sel (.row v e sz n xs) M' f) (hl : news.length = m * sz) (h1 : ∀ u ∈ news, u.oneCell' = true)
    (h63 : n + m ≤ 9223372036854775807) (hbytes : (n + m) * bytes ≤ 140737488355328)
    (h : ∀ p c' w', n + m ≤ c' → c' ≤ 9223372036854775807 → Mem w0 S (f (.row (.slice p (n + m) c') e sz (n + m) (xs ++ news))) w' → wpList P ops Q rest (a.put o.dst (.slice p (n + m) c')) w') : wpList P ops Q (o :: rest) a w := by
  subst hM
  cases hq : P.info? e with
  | none => rw [hq] at hz; cases hz
  | some i =>
    have hz' : i.zero = some z := by simpa [hq] using hz
    have hsb : i.size = sz ∧ i.bytes = bytes := by simpa [hq] using hi
    have hB : Blk w b news te := HM.blk .head
    refine wpList_append_own_at w hg s x t ho 0 e i z sz bytes ht hq hz' hsb.1 hsb.2 hzs hsz v n xs hs (HM.tail.row hsel) ⟨b, 0, none⟩ m c news hx hl (fun j u hu => by
      have hadd : (⟨b, 0, none⟩ : Addr).add j = ⟨b, j, none⟩ := by unfold Addr.add; split <;> simp_all
      rw [hadd, hB.cell]; exact hu) h1 (by unfold maxLen; exact h63) hbytes (Nat.zero_le _) ?_
    intro v' w' hown hgrow _ hat
    obtain ⟨p, c', rfl, hc1, hc2, -⟩ := ownsRow.form hown
    refine h p c' w' hc1 hc2 (HM.tail.turn hsel ⟨hgrow.os, hgrow.tape, hgrow.output, hgrow.size, fun k hk hn => hgrow.block k hk (fun hh => hn hh.symm)⟩ _ hown ?_)
    intro g hgf
    rcases hat with hat | hat
    · exact .inl (by rw [← hgf]; exact hat.symm)
    · have hgf' : some w.heap.size = some g := by rw [← hgf]; exact hat.symm
      simp at hgf'; exact .inr (by omega)
end
end Go.Proofs.Ytpedkcpkdacnlaa
