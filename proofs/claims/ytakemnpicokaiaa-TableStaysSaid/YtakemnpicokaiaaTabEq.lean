/- A table is equal to itself, by the program's own comparison. -/
import Derived.Test.YtakemnpicokaiaaTabHelp
import Derived.Test.YtakemnpicokaiaaArrEq
namespace Go.Proofs.Ytakemnpicokaiaa
open Go.RowKit
theorem tabpart (t : List Int) (hl : t.length = 16) (i : Nat) (hi : i < 8) (w : World) : (part 25 (tcells t).toArray (i * 2)).run Try.prog w = .ok (.agg #[.int .i64 (tk t i), .int .i64 (tv t i)]) w := by
  have h0 := tcells_get t (i * 2) (by omega)
  have h1 := tcells_get t (i * 2 + 1) (by omega)
  revert t
  refine fun t ht => sixteen (P := fun t => (tcells t)[i * 2]? = some (.int .i64 (t.getD (i * 2) 0)) → (tcells t)[i * 2 + 1]? = some (.int .i64 (t.getD (i * 2 + 1) 0)) → (part 25 (tcells t).toArray (i * 2)).run Try.prog w = .ok (.agg #[.int .i64 (tk t i), .int .i64 (tv t i)]) w) ?_ t ht
  intro a b c d e f g h k l m n o p q r _ _
  match i, hi with
  | 0, _ => rfl
  | 1, _ => rfl
  | 2, _ => rfl
  | 3, _ => rfl
  | 4, _ => rfl
  | 5, _ => rfl
  | 6, _ => rfl
  | 7, _ => rfl
theorem tab_eql (t : List Int) (hl : t.length = 16) (w : World) : (binOp .eql 27 (.agg (tcells t).toArray) (.agg (tcells t).toArray)).run Try.prog w = .ok (.bool true) w := by
  rw [run_eql_struct, run_equalIn_array (P := Try.prog) w 9999 27 25 8 2 _ _ (fun _ => true) Try.underlying27 (by kernel_rfl)]
  · rfl
  · intro i hi
    refine ⟨_, _, tabpart t hl i hi w, tabpart t hl i hi w, ?_⟩
    simp [go_sem]
theorem field_code (w : World) (x y : Int) : (Instr.field 31 (.agg #[.int .i64 x, .int .i64 y]) 0).run Try.prog w = .ok (.int .i64 x) w := by kernel_rfl
theorem field_value (w : World) (x y : Int) : (Instr.field 31 (.agg #[.int .i64 x, .int .i64 y]) 1).run Try.prog w = .ok (.int .i64 y) w := by kernel_rfl
theorem do_eq (w : World) (t : List Int) (g : Good t) (what key value : Int) (u : List Int) (c x : Int) (hd : doT t what key value = (u, c, x)) :
    Calls Try.prog 23 #[.agg (tcells t).toArray, .agg #[.int .i64 what, .int .i64 key, .int .i64 value]] w fun e w' => e = .returned (.tuple #[.agg (tcells u).toArray, .agg #[.int .i64 c, .int .i64 x]]) ∧ Below w.heap.size w w' := by
  have h := table_do w t g what key value
  rwa [hd] at h
theorem peek_eq (w : World) (t : List Int) (g : Good t) (k : Int) (h1 : 1 ≤ k) (h2 : k ≤ 1000) {c v : Int} (hp : peekA t k = (c, v)) :
    Calls Try.prog 22 #[.agg (tcells t).toArray, .int .i64 k] w fun e w' => e = .returned (.agg #[.int .i64 c, .int .i64 v]) ∧ Below w.heap.size w w' := by
  have h := peek_any w t g k h1 h2
  rwa [hp] at h
theorem len_eq (w : World) (t : List Int) (g : Good t) (n : Int) (hn : (lenT t : Int) = n) :
    Calls Try.prog 24 #[.agg (tcells t).toArray] w fun e w' => e = .returned (.int .i64 n) ∧ Below w.heap.size w w' := by
  have h := len_any t g.len w
  rwa [hn] at h
theorem right_eq (w : World) (t : List Int) (g : Good t) {r : Bool} (hr : rightB t = r) :
    Calls Try.prog 26 #[.agg (tcells t).toArray] w fun e w' => e = .returned (.bool r) ∧ Below w.heap.size w w' := by
  have h := right_any w t g.len (fun j hj => ⟨g.key0 j hj, g.key1 j hj⟩)
  rwa [hr] at h
end Go.Proofs.Ytakemnpicokaiaa
