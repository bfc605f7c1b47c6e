/- An argument that is a slice of deeds, opened: each element's five cells. -/
import Derived.Test.YtakemnpicokaiaaDone
import Derived.Deep.Slices
import Derived.Deep.Fields
import Derived.ChangeSame
import Derived.ProofKit
namespace Go.Proofs.Ytakemnpicokaiaa
open Go.ChangeShapes Go.WideShapes Go.Deep Go.ChangeAt
set_option linter.unusedVariables false
theorem blk_lt {w : World} {b o : Nat} {v : Value} (h : w.cell? ⟨b, o, none⟩ = some v) : b < w.heap.size := by
  unfold World.cell? at h
  by_cases hb : b < w.heap.size
  · exact hb
  · simp [Array.getElem?_eq_none (Nat.le_of_not_lt hb)] at h
theorem one_int {H : Type} {enc : TypeId × Value → H} {w : World} {base : Nat} {spare : Nat → Bool} {held : Bool} {n : Nat} {t : TypeId} {k : IntKind} {v : Value} {y : Option (DataW H × List MemPlace)} (ht : Try.prog.underlying t = some (.int k))
    (h : DataW.trod enc Try.prog w base spare held n t [v] = y) (hy : y.isSome) : ∃ z, v = .int k z ∧ (Lit.int k z).wf = true := by
  obtain ⟨x, rfl⟩ := Option.isSome_iff_exists.1 hy
  obtain ⟨z, h1, -, h2⟩ := DataW.trod_int ht h
  simp at h1
  exact ⟨z, h1, h2⟩
theorem deed_of {H : Type} {enc : TypeId × Value → H} {w : World} {base : Nat} {spare : Nat → Bool} {held : Bool} {n : Nat} {cs : List Value} {x : DataW H × List MemPlace}
    (h : DataW.trod enc Try.prog w base spare held n 72 cs = some x) :
    ∃ a b c d e : Int, cs = [.int .i64 a, .int .i64 b, .int .i64 c, .int .i64 d, .int .u64 e] ∧ 0 ≤ e ∧ e < 18446744073709551616 := by
  obtain ⟨ys, n', -, -, hlen, hyl, hf⟩ := DataW.trod_struct Try.underlying72 h
  have hc : Try.prog.cellsOf 72 = 5 := by kernel_rfl
  have hci : Try.prog.cellsOf 3 = 1 := by kernel_rfl
  have hcu : Try.prog.cellsOf 47 = 1 := by kernel_rfl
  rw [hc] at hlen
  match cs, hlen with
  | [v0, v1, v2, v3, v4], _ =>
    have hyl' : ys.length = 5 := hyl
    have g0 : DataW.trod enc Try.prog w base spare held n' 3 (([v0, v1, v2, v3, v4].drop 0).take (Try.prog.cellsOf 3)) = ys[0]? := hf 0 _ rfl
    have g1 : DataW.trod enc Try.prog w base spare held n' 3 (([v0, v1, v2, v3, v4].drop 1).take (Try.prog.cellsOf 3)) = ys[1]? := hf 1 _ rfl
    have g2 : DataW.trod enc Try.prog w base spare held n' 3 (([v0, v1, v2, v3, v4].drop 2).take (Try.prog.cellsOf 3)) = ys[2]? := hf 2 _ rfl
    have g3 : DataW.trod enc Try.prog w base spare held n' 3 (([v0, v1, v2, v3, v4].drop 3).take (Try.prog.cellsOf 3)) = ys[3]? := hf 3 _ rfl
    have g4 : DataW.trod enc Try.prog w base spare held n' 47 (([v0, v1, v2, v3, v4].drop 4).take (Try.prog.cellsOf 47)) = ys[4]? := hf 4 _ rfl
    rw [hci] at g0 g1 g2 g3
    rw [hcu] at g4
    dsimp only [List.drop, List.take] at g0 g1 g2 g3 g4
    obtain ⟨a, rfl, -⟩ := one_int Try.underlying3 g0 (by simp [hyl'])
    obtain ⟨b, rfl, -⟩ := one_int Try.underlying3 g1 (by simp [hyl'])
    obtain ⟨c, rfl, -⟩ := one_int Try.underlying3 g2 (by simp [hyl'])
    obtain ⟨d, rfl, -⟩ := one_int Try.underlying3 g3 (by simp [hyl'])
    obtain ⟨e, rfl, he⟩ := one_int Try.underlying47 g4 (by simp [hyl'])
    refine ⟨a, b, c, d, e, rfl, ?_⟩
    have hm : (IntKind.u64).min = 0 := by rfl
    have hM : (IntKind.u64).max = 18446744073709551615 := by rfl
    simp only [Lit.wf, hm, hM, Bool.and_eq_true, decide_eq_true_eq] at he
    omega
theorem deeds_of {H : Type} {enc : TypeId × Value → H} {w : World} {base : Nat} {spare : Nat → Bool} {held : Bool} {a0 : Option Addr} {len0 cap0 : Nat} {d0 : DataW H} {p0 : List MemPlace}
    (h : DataW.Trod enc Try.prog w base spare held 46 (.slice a0 len0 cap0) d0 p0) : ∃ f, Deeds w a0 len0 cap0 f := by
  obtain ⟨fuel, hf⟩ := h
  have hc : Try.prog.cellsOf 72 = 5 := by kernel_rfl
  rcases open_slice Try.underlying46 hf with ⟨hcs, -⟩ | ⟨a, len, cap, m, n, D, Pl, hcs, hb, hl, hm, hmm, hx, hi⟩
  · simp [Value.cells] at hcs
    obtain ⟨rfl, rfl, rfl⟩ := hcs
    exact ⟨fun _ _ => 0, Nat.le_refl _, by omega, .inl rfl⟩
  · simp [Value.cells] at hcs
    obtain ⟨rfl, rfl, rfl⟩ := hcs
    unfold maxLen at hm
    rw [hc] at hi
    have hi' : ∀ i, i < len0 → ∃ z : Nat → Int, (∀ j, j < 4 → w.cell? (a.add (i * 5 + j)) = some (.int .i64 (z j))) ∧ w.cell? (a.add (i * 5 + 4)) = some (.int .u64 (z 4)) ∧ 0 ≤ z 4 ∧ z 4 < 18446744073709551616 := by
      intro i hil
      obtain ⟨cs, h1, h2⟩ := hi i (by rw [hmm]; split <;> omega)
      obtain ⟨v0, v1, v2, v3, v4, rfl, h3, h4⟩ := deed_of h2
      obtain ⟨-, -, hat⟩ := World.cells?_some h1
      refine ⟨fun j => [v0, v1, v2, v3, v4].getD j 0, ?_, ?_, h3, h4⟩
      · intro j hj
        rw [← Go.Deep.add_add, hat j (by omega)]
        match j, hj with
        | 0, _ => rfl
        | 1, _ => rfl
        | 2, _ => rfl
        | 3, _ => rfl
      · rw [← Go.Deep.add_add, hat 4 (by omega)]; rfl
    by_cases h0 : len0 = 0
    · subst h0; exact ⟨fun _ _ => 0, Nat.zero_le _, by omega, .inl rfl⟩
    · obtain ⟨z, hz, -⟩ := hi' 0 (by omega)
      obtain ⟨b, off, spot⟩ := a
      have hspot : spot = none := by simpa [Addr.add] using World.cell?_spot (hz 0 (by omega))
      subst hspot
      have hadd : ∀ i, (⟨b, off, none⟩ : Addr).add i = ⟨b, off + i, none⟩ := fun i => by
        unfold Addr.add; split
        · subst i; rfl
        · rfl
      classical
      let F : Nat → Nat → Int := fun i => if h : i < len0 then Classical.choose (hi' i h) else fun _ => 0
      refine ⟨F, hl, by omega, .inr ⟨b, off, rfl, ?_, fun j hj => ?_⟩⟩
      · have := hz 0 (by omega); rw [hadd] at this; exact blk_lt this
      · have hF : F j = Classical.choose (hi' j hj) := by simp only [F, dif_pos hj]
        obtain ⟨c1, c2, c3⟩ := Classical.choose_spec (hi' j hj)
        rw [← hF] at c1 c2 c3
        simp only [hadd, ← Nat.add_assoc] at c1 c2
        exact ⟨by simpa using c1 0 (by omega), c1 1 (by omega), c1 2 (by omega), c1 3 (by omega), c2, c3⟩
end Go.Proofs.Ytakemnpicokaiaa
