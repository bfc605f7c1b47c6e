/- Arguments that are slices of api.Op, opened: each element's cells. -/
import Derived.Test.YtakemnpicokaiaaRows
import Derived.Test.YtakemnpicokaiaaRws
import Derived.Deep.Slices
import Derived.Deep.Fields
import Derived.ChangeSame
import Derived.ProofKit
namespace Go.Proofs.Ytakemnpicokaiaa
open Go.ChangeShapes Go.WideShapes Go.Deep Go.ChangeAt
set_option linter.unusedVariables false
theorem blk_lt {w : World} {b o : Nat} {v : Value} (h : w.cell? ⟨b, o, none⟩ = some v) : b < w.heap.size := by
  unfold World.cell? at h
  by_cases hb : b < w.heap.size
  · exact hb
  · simp [Array.getElem?_eq_none (Nat.le_of_not_lt hb)] at h
theorem one_int {H : Type} {enc : TypeId × Value → H} {w : World} {base : Nat} {spare : Nat → Bool} {held : Bool} {n : Nat} {t : TypeId} {k : IntKind} {v : Value} {y : Option (DataW H × List MemPlace)} (ht : Try.prog.underlying t = some (.int k))
    (h : DataW.trod enc Try.prog w base spare held n t [v] = y) (hy : y.isSome) : ∃ z, v = .int k z ∧ (Lit.int k z).wf = true := by
  obtain ⟨x, rfl⟩ := Option.isSome_iff_exists.1 hy
  obtain ⟨z, h1, -, h2⟩ := DataW.trod_int ht h
  simp at h1
  exact ⟨z, h1, h2⟩
theorem cellsOp_of {H : Type} {enc : TypeId × Value → H} {w : World} {base : Nat} {spare : Nat → Bool} {held : Bool} {n : Nat} {cs : List Value} {y : Option (DataW H × List MemPlace)}
    (h : DataW.trod enc Try.prog w base spare held n 36 cs = y) (hy : y.isSome) :
    ∃ z0 z1 z2 : Int, cs = [.int .i64 z0, .int .i64 z1, .int .i64 z2] ∧ (Lit.int .i64 z0).wf = true ∧ (Lit.int .i64 z1).wf = true ∧ (Lit.int .i64 z2).wf = true := by
  obtain ⟨x, rfl⟩ := Option.isSome_iff_exists.1 hy
  obtain ⟨ys, n', -, -, hlen, hyl, hf⟩ := DataW.trod_struct Try.underlying36 h
  have hc : Try.prog.cellsOf 36 = 3 := by kernel_rfl
  have hc_int : Try.prog.cellsOf 3 = 1 := by kernel_rfl
  rw [hc] at hlen
  match cs, hlen with
  | [v0, v1, v2], _ =>
    have hyl' : ys.length = 3 := hyl
    have g0 : DataW.trod enc Try.prog w base spare held n' 3 (([v0, v1, v2].drop 0).take (Try.prog.cellsOf 3)) = ys[0]? := hf 0 _ rfl
    rw [hc_int] at g0
    dsimp only [List.drop, List.take] at g0
    have g1 : DataW.trod enc Try.prog w base spare held n' 3 (([v0, v1, v2].drop 1).take (Try.prog.cellsOf 3)) = ys[1]? := hf 1 _ rfl
    rw [hc_int] at g1
    dsimp only [List.drop, List.take] at g1
    have g2 : DataW.trod enc Try.prog w base spare held n' 3 (([v0, v1, v2].drop 2).take (Try.prog.cellsOf 3)) = ys[2]? := hf 2 _ rfl
    rw [hc_int] at g2
    dsimp only [List.drop, List.take] at g2
    obtain ⟨z0, rfl, w0⟩ := one_int Try.underlying3 g0 (by simp [hyl'])
    obtain ⟨z1, rfl, w1⟩ := one_int Try.underlying3 g1 (by simp [hyl'])
    obtain ⟨z2, rfl, w2⟩ := one_int Try.underlying3 g2 (by simp [hyl'])
    exact ⟨z0, z1, z2, rfl, w0, w1, w2⟩
theorem rowsOp_of {H : Type} {enc : TypeId × Value → H} {w : World} {base : Nat} {spare : Nat → Bool} {held : Bool} {a0 : Option Addr} {len0 cap0 : Nat} {d0 : DataW H} {p0 : List MemPlace}
    (h : DataW.Trod enc Try.prog w base spare held 22 (.slice a0 len0 cap0) d0 p0) : ∃ f, Rws 3 (fun _ => .i64) w a0 len0 cap0 f := by
  obtain ⟨fuel, hf⟩ := h
  have hc : Try.prog.cellsOf 36 = 3 := by kernel_rfl
  rcases open_slice Try.underlying22 hf with ⟨hcs, -⟩ | ⟨a, len, cap, m, n, D, Pl, hcs, hb, hl, hm, hmm, hx, hi⟩
  · simp [Value.cells] at hcs
    obtain ⟨rfl, rfl, rfl⟩ := hcs
    exact ⟨fun _ _ => 0, Nat.le_refl _, by omega, .inl rfl⟩
  · simp [Value.cells] at hcs
    obtain ⟨rfl, rfl, rfl⟩ := hcs
    unfold maxLen at hm
    rw [hc] at hi
    have hi' : ∀ i, i < len0 → ∃ z : Nat → Int, ∀ j, j < 3 → w.cell? (a.add (i * 3 + j)) = some (.int ((fun _ => .i64) j) (z j)) ∧ (Lit.int ((fun _ => .i64) j) (z j)).wf = true := by
      intro i hil
      obtain ⟨cs, h1, h2⟩ := hi i (by rw [hmm]; split <;> omega)
      obtain ⟨z0, z1, z2, rfl, w0, w1, w2⟩ := cellsOp_of h2 (by rfl)
      obtain ⟨-, -, hat⟩ := World.cells?_some h1
      refine ⟨fun j => [z0, z1, z2].getD j 0, fun j hj => ?_⟩
      rw [← Go.Deep.add_add, hat j (by simpa using hj)]
      match j, hj with
      | 0, _ => exact ⟨rfl, w0⟩
      | 1, _ => exact ⟨rfl, w1⟩
      | 2, _ => exact ⟨rfl, w2⟩
    by_cases h0 : len0 = 0
    · subst h0; exact ⟨fun _ _ => 0, Nat.zero_le _, by omega, .inl rfl⟩
    · obtain ⟨z, hz⟩ := hi' 0 (by omega)
      obtain ⟨b, off, spot⟩ := a
      have hspot : spot = none := by simpa [Addr.add] using World.cell?_spot (hz 0 (by omega)).1
      subst hspot
      have hadd : ∀ i, (⟨b, off, none⟩ : Addr).add i = ⟨b, off + i, none⟩ := fun i => by
        unfold Addr.add; split
        · subst i; rfl
        · rfl
      classical
      let F : Nat → Nat → Int := fun i => if h : i < len0 then Classical.choose (hi' i h) else fun _ => 0
      refine ⟨F, hl, by omega, .inr ⟨b, off, rfl, ?_, fun j hj i hi0 => ?_⟩⟩
      · have := (hz 0 (by omega)).1; rw [hadd] at this; exact blk_lt this
      · have hF : F j = Classical.choose (hi' j hj) := by simp only [F, dif_pos hj]
        obtain ⟨c1, c2⟩ := Classical.choose_spec (hi' j hj) i hi0
        rw [← hF] at c1 c2
        rw [hadd, ← Nat.add_assoc] at c1
        exact ⟨c1, c2⟩
end Go.Proofs.Ytakemnpicokaiaa
