/- '==' and '!=' between two arrays: element by element. No program is named here. -/
import Derived.Test.YtakemnpicokaiaaKeep
namespace Go.Proofs.Ytakemnpicokaiaa
open Go.RowKit
section
variable {P : Program}
theorem run_forIn_list {w : World} (f : Nat → Bool) (g : Nat → Option Bool × Unit → Sem (ForInStep (Option Bool × Unit))) : ∀ (l : List Nat),
    (∀ i ∈ l, (g i (none, ())).run P w = .ok (if f i then .yield (none, ()) else .done (some false, ())) w) →
    (forIn (m := Sem) l (none, ()) g).run P w = .ok (if l.all f then (none, ()) else (some false, ())) w := by
  intro l
  induction l with
  | nil => intro _; rfl
  | cons i l ih =>
    intro h
    have h1 := h i (by simp)
    have h2 := ih (fun j hj => h j (by simp [hj]))
    rw [List.forIn_cons]
    simp only [Sem.run_bind, h1, Result.andThen_ok]
    cases hf : f i
    · simp [hf, Sem.run_pure]
    · simp only [if_true]
      rw [h2]
      simp [hf]
/-- Two arrays of n elements, each of 'sz' cells: equal if they are so element by element. -/
theorem run_equalIn_array (w : World) (d : Nat) (t elem : TypeId) (n sz : Nat) (xs ys : Array Value) (f : Nat → Bool)
    (ht : P.underlying t = some (.array n elem)) (hs : (P.info? elem).map (·.size) = some sz)
    (hf : ∀ i, i < n → ∃ a b, (part elem xs (i * sz)).run P w = .ok a w ∧ (part elem ys (i * sz)).run P w = .ok b w ∧ (Op.equalIn d elem a b).run P w = .ok (f i) w) :
    (Op.equalIn (d + 1) t (.agg xs) (.agg ys)).run P w = .ok ((List.range n).all f) w := by
  have hz : (sizeOf elem).run P w = .ok sz w := by
    cases hq : P.info? elem with
    | none => simp [hq] at hs
    | some i => simp [hq] at hs; simp [sizeOf, typeInfo, hq, hs]
  simp only [Op.equalIn, Sem.run_bind, run_underlying ht, Result.andThen_ok, hz]
  rw [Std.Legacy.Range.forIn_eq_forIn_range', run_forIn_list f]
  · simp only [Std.Legacy.Range.size, Nat.sub_zero, Nat.add_sub_cancel, Nat.div_one]
    rw [← List.range_eq_range']
    by_cases h : (List.range n).all f = true
    · simp [h, Sem.run_pure]
    · simp [h, Sem.run_pure]
  · intro i hi
    have hin : i < n := by
      simp [Std.Legacy.Range.size] at hi
      omega
    obtain ⟨a, b, ha, hb, he⟩ := hf i hin
    simp only [Sem.run_bind, ha, hb, he, Result.andThen_ok]
    cases f i <;> simp [Sem.run_pure]
theorem range_all (xs ys : List Int) (h : xs.length = ys.length) : (List.range xs.length).all (fun i => xs.getD i 0 == ys.getD i 0) = decide (xs = ys) := by
  rw [Bool.eq_iff_iff, List.all_eq_true, decide_eq_true_iff]
  constructor
  · intro hh
    apply List.ext_getElem h
    intro i h1 h2
    have := hh i (by simpa using h1)
    simpa [List.getD_eq_getElem?_getD, h1, h2] using this
  · rintro rfl
    simp
theorem run_equalIn_words (w : World) (d : Nat) (t elem : TypeId) (n : Nat) (k k' : IntKind) (xs ys : List Int) (hx : xs.length = n) (hy : ys.length = n)
    (ht : P.underlying t = some (.array n elem)) (hs : (P.info? elem).map (·.size) = some 1) (he : P.underlying elem = some (.int k')) :
    (Op.equalIn (d + 2) t (.agg (xs.map (Value.int k)).toArray) (.agg (ys.map (Value.int k)).toArray)).run P w = .ok (decide (xs = ys)) w := by
  have hp : ∀ (zs : List Int) (i : Nat), i < zs.length → (part elem (zs.map (Value.int k)).toArray (i * 1)).run P w = .ok (.int k (zs.getD i 0)) w := by
    intro zs i hi
    rw [Nat.mul_one]
    have hg : (zs.map (Value.int k)).toArray[i]? = some (.int k (zs.getD i 0)) := by
      rw [List.getElem?_toArray, List.getElem?_map, List.getElem?_eq_getElem hi, List.getD_eq_getElem?_getD, List.getElem?_eq_getElem hi]; rfl
    have hagg : (isAgg elem).run P w = .ok false w := by
      unfold isAgg
      rw [Sem.run_bind, run_underlying he w]
      rfl
    unfold part
    rw [Sem.run_bind, hagg]
    simp only [Result.andThen_ok, Bool.false_eq_true, if_false, hg, Sem.run_pure]
  rw [run_equalIn_array (P := P) w (d + 1) t elem n 1 _ _ (fun i => xs.getD i 0 == ys.getD i 0) ht hs]
  · rw [← hx, range_all xs ys (by omega)]
  · intro i hi
    exact ⟨_, _, hp xs i (by omega), hp ys i (by omega), run_equalIn_int w d elem k k' _ _ he⟩
theorem run_neq_words (w : World) (t elem : TypeId) (n : Nat) (k k' : IntKind) (xs ys : List Int) (hx : xs.length = n) (hy : ys.length = n)
    (ht : P.underlying t = some (.array n elem)) (hs : (P.info? elem).map (·.size) = some 1) (he : P.underlying elem = some (.int k')) :
    (binOp .neq t (.agg (xs.map (Value.int k)).toArray) (.agg (ys.map (Value.int k)).toArray)).run P w = .ok (.bool (!decide (xs = ys))) w := by
  rw [run_neq_struct, run_equalIn_words (P := P) w 9998 t elem n k k' xs ys hx hy ht hs he]
  rfl
theorem run_eql_words (w : World) (t elem : TypeId) (n : Nat) (k k' : IntKind) (xs ys : List Int) (hx : xs.length = n) (hy : ys.length = n)
    (ht : P.underlying t = some (.array n elem)) (hs : (P.info? elem).map (·.size) = some 1) (he : P.underlying elem = some (.int k')) :
    (binOp .eql t (.agg (xs.map (Value.int k)).toArray) (.agg (ys.map (Value.int k)).toArray)).run P w = .ok (.bool (decide (xs = ys))) w := by
  rw [run_eql_struct, run_equalIn_words (P := P) w 9998 t elem n k k' xs ys hx hy ht hs he]
  rfl
end
end Go.Proofs.Ytakemnpicokaiaa
