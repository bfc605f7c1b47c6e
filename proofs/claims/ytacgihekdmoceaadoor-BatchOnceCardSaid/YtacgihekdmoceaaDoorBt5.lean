/- Laws and walks that the proof leans on, gathered: YcBat2, PuBat2, YcSl, LaidH, OpenDeeds. -/
import Derived.Test.YtacgihekdmoceaaDoorRows
import Derived.Test.YtacgihekdmoceaaDoorProg
import Derived.ChangeVars
import Derived.JoinedOf
import Derived.RowKit
import Derived.LaidLaws
import Derived.LaidHandle
import Derived.Stop.Joined
import Derived.Deep.Slices
import Derived.Deep.Fields
import Derived.ChangeSame
import Derived.ProofKit
import Derived.Test.YtacgihekdmoceaaDoorBt4
section
namespace Go.Proofs.YtacgihekdmoceaaDoor
open Go.RowKit
set_option linter.unusedVariables false
set_option maxRecDepth 100000
set_option maxHeartbeats 4000000
def conBatched : PCon := ⟨fun args => match args with
  | [] => True
  | _ => False, fun _ => sv (.bool true), fun _ => none⟩
theorem batched_con : (Con.pure conBatched).holds Tryd.prog 15 := by
  refine pure_of_run2 (Γ := [(30, .pure conRNew), (34, .pure conPut), (18, .mem conBDo)]) Tryd.func15 rfl (by kernel_rfl) tabB_ok tabB_tys
    (fun W => .cons (rnew_con W _) (.cons (put_con W _) (.cons (bdo_con W _) (.nil _ _ _)))) conBatched (fun _ => []) 400 ?_
  intro W args hp
  unfold conBatched at hp; dsimp only at hp; split at hp
  case h_2 => exact hp.elim
  refine ⟨rfl, ?_⟩
  refine by_eq (q :=
      ((1 : Int) ≤ (6 : Int) ∧ (6 : Int) ≤ (6 : Int)) ∧ True ∧ True ∧ True ∧ drawP Tryd.f15 2 (regOps Tryd.f15 2) 1 [HX.mk 8 [] [1, 3] [] true, HX.mk 13 [] [2] [2] false, HX.mk 7 [] [1] [1] false, HX.mk 6 [] [] [] false, HX.mk 5 [] [] [] false, HX.mk 4 [] [] [] false, HX.mk 3 [] [] [] false, HX.mk 2 [] [] [] false, HX.mk 1 [] [] [] false, HX.mk 0 [0] [] [] false] ∧ ∃ (s : BdS), [SA.a [Seg.ints (.int .u64) 32 (fL (Rec.words (Rec.new (6 : Int))))], SA.c (.so 1 0 5 3 3 true)] = [SA.a [Seg.ints (.int .u64) 32 s.2], SA.c (.so 1 s.4 5 (List.length s.3) s.6 s.7)] ∧ [SB.rows 52 [.int .i64, .int .i64, .int .i64, .int .i64, .int .i64] 5 3 3 fun (i j : Nat) => match List.get?Internal (match List.get?Internal [[(1 : Int), (1 : Int), (1 : Int), (0 : Int), (5 : Int)], [(1 : Int), (1 : Int), (1 : Int), (0 : Int), (5 : Int)], [(0 : Int), (0 : Int), (1 : Int), (0 : Int), (1 : Int)]] i with | some x => x | none => []) j with | some x => x | none => (0 : Int)] = [SB.rows 52 [.int .i64, .int .i64, .int .i64, .int .i64, .int .i64] 5 s.5 s.6 s.8] ∧ ((RecOK (1099511000000 : Int) s.1 ∧ toN 32 s.2 = Rec.words s.1) ∧ AsksOK s.3 ∧ List.length s.3 ≤ 100 ∧ (s.4 + List.length s.3 ≤ s.5 ∧ s.5 ≤ s.6) ∧ IsA (fun (i : Nat) => s.8 (s.4 + i)) s.3) ∧ ∀ (x : BdR), (List.length (bD s.1 s.3) ≤ x.2 ∧ x.2 ≤ x.3) ∧ IsD x.5 (bD s.1 s.3) ∧ toN 32 x.1 = Rec.words (bDo s.1 s.3) → drawP Tryd.f15 2 (regOps Tryd.f15 2) 1 [HX.mk 16 [] [] [] false, HX.mk 15 [] [] [3] false, HX.mk 14 [] [2] [] false, HX.mk 12 [] [] [] false, HX.mk 11 [] [] [3] false, HX.mk 10 [] [] [] false, HX.mk 9 [] [] [3] false, HX.mk 8 [] [1, 3] [3] true, HX.mk 13 [] [2] [2] false, HX.mk 7 [] [1] [1] false, HX.mk 6 [] [] [] false, HX.mk 5 [] [] [] false, HX.mk 4 [] [] [] false, HX.mk 3 [] [] [] false, HX.mk 2 [] [] [] false, HX.mk 1 [] [] [] false, HX.mk 0 [0] [] [] false] ∧ List.length (bD s.1 s.3) ≤ x.3 ∧ bif (↑(List.length (bD s.1 s.3)) : Int) == (1 : Int) then ((0 : Int) ≤ (0 : Int) ∧ (0 : Int) < (↑(List.length (bD s.1 s.3)) : Int) ∧ 0 + List.length (bD s.1 s.3) ≤ x.3) ∧ 0 < x.2 ∧ True ∧ bif bif x.5 0 0 == (1 : Int) then bif x.5 0 1 == (1 : Int) then bif x.5 0 2 == (0 : Int) then bif x.5 0 3 == (5 : Int) then bif x.5 0 4 == (1 : Int) then bif x.5 0 5 == (0 : Int) then true else false else false else false else false else false else false then ((0 : Int) ≤ (27 : Int) ∧ (27 : Int) < (32 : Int)) ∧ 27 < 32 ∧ bif x.1 27 == (1 : Int) then ((0 : Int) ≤ (1 : Int) ∧ (1 : Int) < (32 : Int)) ∧ 1 < 32 ∧ drawP Tryd.f15 3 (regOps Tryd.f15 3) 4 [HX.mk 30 [] [] [] false, HX.mk 29 [] [] [] false, HX.mk 28 [] [] [] false, HX.mk 27 [2] [] [] false, HX.mk 26 [] [] [2] false, HX.mk 25 [] [] [] false, HX.mk 24 [] [] [] false, HX.mk 23 [] [] [] false, HX.mk 22 [2] [] [] false, HX.mk 21 [] [] [2] false, HX.mk 20 [] [] [] false, HX.mk 19 [] [] [] false, HX.mk 18 [] [] [] false, HX.mk 17 [] [] [] false, HX.mk 16 [] [] [] false, HX.mk 15 [] [] [] false, HX.mk 14 [3] [] [] false, HX.mk 13 [] [] [3] false, HX.mk 12 [] [] [3] false, HX.mk 11 [] [] [] false, HX.mk 10 [] [] [] false, HX.mk 9 [] [] [] false, HX.mk 8 [] [] [] false, HX.mk 7 [] [] [3] false, HX.mk 6 [] [] [] false, HX.mk 5 [] [] [] false, HX.mk 4 [] [] [] false, HX.mk 3 [] [] [] false, HX.mk 2 [] [] [] false, HX.mk 1 [] [] [] false, HX.mk 0 [] [] [] false] ∧ endP conBatched [] (SV.o (SA.c (.v (Value.bool (x.1 1 == (5 : Int)))))) [SB.cells [Seg.ints (.int .u64) 32 (fL (Rec.words (Rec.new (6 : Int))))] 44, SB.rows 52 [.int .i64, .int .i64, .int .i64, .int .i64, .int .i64] 5 s.5 s.6 s.8, SB.cells [Seg.ints (.int .u64) 32 x.1] 44, SB.rows 38 [.int .i64, .int .i64, .int .i64, .int .i64, .int .i64, .int .i64] 6 x.2 x.3 x.5] else drawP Tryd.f15 3 (regOps Tryd.f15 3) 4 [HX.mk 30 [] [] [] false, HX.mk 29 [] [] [] false, HX.mk 28 [] [] [] false, HX.mk 27 [] [] [] false, HX.mk 26 [] [] [] false, HX.mk 25 [] [] [] false, HX.mk 24 [] [] [] false, HX.mk 23 [] [] [] false, HX.mk 22 [2] [] [] false, HX.mk 21 [] [] [2] false, HX.mk 20 [] [] [] false, HX.mk 19 [] [] [] false, HX.mk 18 [] [] [] false, HX.mk 17 [] [] [] false, HX.mk 16 [] [] [] false, HX.mk 15 [] [] [] false, HX.mk 14 [3] [] [] false, HX.mk 13 [] [] [3] false, HX.mk 12 [] [] [3] false, HX.mk 11 [] [] [] false, HX.mk 10 [] [] [] false, HX.mk 9 [] [] [] false, HX.mk 8 [] [] [] false, HX.mk 7 [] [] [3] false, HX.mk 6 [] [] [] false, HX.mk 5 [] [] [] false, HX.mk 4 [] [] [] false, HX.mk 3 [] [] [] false, HX.mk 2 [] [] [] false, HX.mk 1 [] [] [] false, HX.mk 0 [] [] [] false] ∧ endP conBatched [] (SV.o (SA.c (.v (Value.bool false)))) [SB.cells [Seg.ints (.int .u64) 32 (fL (Rec.words (Rec.new (6 : Int))))] 44, SB.rows 52 [.int .i64, .int .i64, .int .i64, .int .i64, .int .i64] 5 s.5 s.6 s.8, SB.cells [Seg.ints (.int .u64) 32 x.1] 44, SB.rows 38 [.int .i64, .int .i64, .int .i64, .int .i64, .int .i64, .int .i64] 6 x.2 x.3 x.5] else drawP Tryd.f15 3 (regOps Tryd.f15 3) 4 [HX.mk 30 [] [] [] false, HX.mk 29 [] [] [] false, HX.mk 28 [] [] [] false, HX.mk 27 [] [] [] false, HX.mk 26 [] [] [] false, HX.mk 25 [] [] [] false, HX.mk 24 [] [] [] false, HX.mk 23 [] [] [] false, HX.mk 22 [] [] [] false, HX.mk 21 [] [] [] false, HX.mk 20 [] [] [] false, HX.mk 19 [] [] [] false, HX.mk 18 [] [] [] false, HX.mk 17 [] [] [] false, HX.mk 16 [] [] [] false, HX.mk 15 [] [] [] false, HX.mk 14 [3] [] [] false, HX.mk 13 [] [] [3] false, HX.mk 12 [] [] [3] false, HX.mk 11 [] [] [] false, HX.mk 10 [] [] [] false, HX.mk 9 [] [] [] false, HX.mk 8 [] [] [] false, HX.mk 7 [] [] [3] false, HX.mk 6 [] [] [] false, HX.mk 5 [] [] [] false, HX.mk 4 [] [] [] false, HX.mk 3 [] [] [] false, HX.mk 2 [] [] [] false, HX.mk 1 [] [] [] false, HX.mk 0 [] [] [] false] ∧ endP conBatched [] (SV.o (SA.c (.v (Value.bool false)))) [SB.cells [Seg.ints (.int .u64) 32 (fL (Rec.words (Rec.new (6 : Int))))] 44, SB.rows 52 [.int .i64, .int .i64, .int .i64, .int .i64, .int .i64] 5 s.5 s.6 s.8, SB.cells [Seg.ints (.int .u64) 32 x.1] 44, SB.rows 38 [.int .i64, .int .i64, .int .i64, .int .i64, .int .i64, .int .i64] 6 x.2 x.3 x.5] else drawP Tryd.f15 3 (regOps Tryd.f15 3) 4 [HX.mk 30 [] [] [] false, HX.mk 29 [] [] [] false, HX.mk 28 [] [] [] false, HX.mk 27 [] [] [] false, HX.mk 26 [] [] [] false, HX.mk 25 [] [] [] false, HX.mk 24 [] [] [] false, HX.mk 23 [] [] [] false, HX.mk 22 [] [] [] false, HX.mk 21 [] [] [] false, HX.mk 20 [] [] [] false, HX.mk 19 [] [] [] false, HX.mk 18 [] [] [] false, HX.mk 17 [] [] [] false, HX.mk 16 [] [] [] false, HX.mk 15 [] [] [] false, HX.mk 14 [] [] [] false, HX.mk 13 [] [] [] false, HX.mk 12 [] [] [] false, HX.mk 11 [] [] [] false, HX.mk 10 [] [] [] false, HX.mk 9 [] [] [] false, HX.mk 8 [] [] [] false, HX.mk 7 [] [] [3] false, HX.mk 6 [] [] [] false, HX.mk 5 [] [] [] false, HX.mk 4 [] [] [] false, HX.mk 3 [] [] [] false, HX.mk 2 [] [] [] false, HX.mk 1 [] [] [] false, HX.mk 0 [] [] [] false] ∧ endP conBatched [] (SV.o (SA.c (.v (Value.bool false)))) [SB.cells [Seg.ints (.int .u64) 32 (fL (Rec.words (Rec.new (6 : Int))))] 44, SB.rows 52 [.int .i64, .int .i64, .int .i64, .int .i64, .int .i64] 5 s.5 s.6 s.8, SB.cells [Seg.ints (.int .u64) 32 x.1] 44, SB.rows 38 [.int .i64, .int .i64, .int .i64, .int .i64, .int .i64, .int .i64] 6 x.2 x.3 x.5]) (by kernel_rfl) ?_
  have hr := (RecOK.new (kind := 6) (by decide) (by decide)).mono (B' := 1099511000000) (by decide)
  refine ⟨⟨by decide, by decide⟩, trivial, trivial, trivial, draw_of (by kernel_rfl), ⟨Rec.new 6, fL (Rec.new 6).words, batL, 0, 3, 3, true, _⟩, rfl, rfl, ⟨⟨hr, toN_fL (Rec.words_len hr)⟩, batL_ok, by decide, ⟨by decide, by decide⟩, ?_⟩, ?_⟩
  · intro i hi
    have : i = 0 ∨ i = 1 ∨ i = 2 := by have : i < 3 := hi; omega
    rcases this with rfl | rfl | rfl <;> exact ⟨rfl, rfl, rfl, rfl, rfl⟩
  · rintro ⟨f, m, c, nn, z⟩ ⟨⟨hm, hc⟩, hz, hf⟩
    dsimp only at hm hc hz hf ⊢
    rw [batL_d] at hm hz ⊢
    obtain ⟨z0, z1, z2, z3, z4, z5⟩ := hz 0 (by decide)
    have f27 : f 27 = 1 := by
      have := fL_toN (n := 32) (f := f) (i := 27) (by decide)
      rw [← this, hf]; rfl
    have f1 : f 1 = 5 := by
      have := fL_toN (n := 32) (f := f) (i := 1) (by decide)
      rw [← this, hf]; rfl
    have z0 : z 0 0 = 1 := z0
    have z1 : z 0 1 = 1 := z1
    have z2 : z 0 2 = 0 := z2
    have z3 : z 0 3 = 5 := z3
    have z4 : z 0 4 = 1 := z4
    have z5 : z 0 5 = 0 := z5
    have hm : 1 ≤ m := hm
    rw [z0, z1, z2, z3, z4, z5, f27, f1]
    exact ⟨draw_of (by kernel_rfl), (by show 1 ≤ c; omega), ⟨by decide, by decide, (by show 0 + 1 ≤ c; omega)⟩, (by omega : 0 < m), trivial, ⟨by decide, by decide⟩, by decide, ⟨by decide, by decide⟩, by decide, draw_of (by kernel_rfl), rfl, fun ρ => rfl⟩
/-- An empty batch. -/
def conBDoN : PCon := ⟨fun args => match args with
  | [.a [.ints (.int .u64) n f], .c (.v s)] => s = .slice none 0 0 ∧ n = 32 ∧ RecW f ∧ f 27 < 1099511627776
  | _ => False, fun args => match args with
  | [.a [.ints (.int .u64) n f], .c (.v s)] => .t [recA (fun i => bif Nat.beq i 27 then f 27 + 1 else f i), .c (.v (.slice none 0 0)), nilE]
  | _ => sv undef, fun _ => none⟩
theorem bdon_con : (Con.pure conBDoN).holds Tryd.prog 18 := by
  refine pure_of_run2 (Γ := [(33, .pure conRRight)]) Tryd.func18 rfl (by kernel_rfl) tabB_ok tabB_tys
    (fun W => .cons (rright_con W _) (.nil _ _ _)) conBDoN (fun _ => []) 400 ?_
  intro W args hp
  unfold conBDoN at hp; dsimp only at hp; split at hp
  case h_2 => exact hp.elim
  rename_i n f s
  obtain ⟨rfl, rfl, h, h1⟩ := hp
  refine ⟨rfl, ?_⟩
  refine by_eq (q :=
      (32 = 32 ∧ RecW f) ∧ ((0 : Int) ≤ (27 : Int) ∧ (27 : Int) < (32 : Int)) ∧ 27 < 32 ∧ ((0 : Int) ≤ (27 : Int) ∧ (27 : Int) < (32 : Int)) ∧ 27 < 32 ∧ endP conBDoN [SA.a [Seg.ints (.int .u64) 32 f], SA.c (.v (Value.slice none 0 0))] (SV.t [SA.a [Seg.ints (.int .u64) 32 fun (i : Nat) => bif Nat.beq i 27 then IntKind.wrap .u64 (f 27 + (1 : Int)) else f i], SA.c (.v (Value.slice none 0 0)), SA.c (.v Value.nilIface)]) [SB.cells [Seg.ints (.int .u64) 32 fun (i : Nat) => bif Nat.beq i 27 then IntKind.wrap .u64 (f 27 + (1 : Int)) else f i] 44, SB.cells [Seg.ints (.int .u64) 32 fun (i : Nat) => bif Nat.beq i 27 then IntKind.wrap .u64 (f 27 + (1 : Int)) else f i] 44]) (by kernel_rfl) ?_
  have v0 := h.1.v0
  rw [ofW_ver] at v0
  rw [wrapU (x := f 27 + 1) (by omega) (by omega)]
  exact ⟨⟨rfl, h⟩, ⟨by decide, by decide⟩, by decide, ⟨by decide, by decide⟩, by decide, rfl, fun ρ => rfl⟩
end Go.Proofs.YtacgihekdmoceaaDoor
end
section
namespace Go.Proofs.YtacgihekdmoceaaDoor
set_option linter.unusedVariables false
def IdOk (l : List Ask) (t : Int) (k : Int) : Prop := (k = -1 ∧ ∀ a ∈ l, (a.t : Int) ≠ t) ∨ ∃ i : Nat, k = (i : Int) ∧ i < l.length ∧ ((l.getD i Ask.nil).t : Int) = t ∧ ∀ a ∈ l.take i, (a.t : Int) ≠ t
def hasT (l : List Ask) (t : Int) : Bool := l.any fun a => (a.t : Int) == t
theorem hasT_iff (l : List Ask) (t : Int) : hasT l t = true ↔ ∃ a ∈ l, (a.t : Int) = t := by simp [hasT]
theorem idOk_has {l : List Ask} {t k : Int} (h : IdOk l t k) : (decide (k ≥ 0)) = hasT l t := by
  rcases h with ⟨rfl, h⟩ | ⟨i, rfl, hi, h, -⟩
  · symm
    cases hb : hasT l t
    · rfl
    · obtain ⟨a, ha, e⟩ := (hasT_iff l t).1 hb
      exact absurd e (h a ha)
  · rw [(hasT_iff l t).2 ⟨_, by rw [List.getD_eq_getElem?_getD, List.getElem?_eq_getElem hi]; exact List.getElem_mem hi, h⟩]
    exact decide_eq_true (by omega)
theorem take_none {l : List Ask} {t : Int} {i : Nat} (hi : i < l.length) (h : ∀ a ∈ l.take i, (a.t : Int) ≠ t) (hn : ((l.getD i Ask.nil).t : Int) ≠ t) : ∀ a ∈ l.take (i + 1), (a.t : Int) ≠ t := by
  intro a ha
  rw [take_snoc hi] at ha
  rcases List.mem_append.1 ha with ha | ha
  · exact h a ha
  · obtain rfl := List.mem_singleton.1 ha; exact hn
/-- One ask of each thread: the first one. -/
def oneTo (l : List Ask) : Nat → List Ask
  | 0 => []
  | i + 1 => bif hasT (oneTo l i) ((l.getD i Ask.nil).t : Int) then oneTo l i else oneTo l i ++ [l.getD i Ask.nil]
theorem oneTo_len (l : List Ask) : ∀ i, (oneTo l i).length ≤ i
  | 0 => Nat.le_refl _
  | i + 1 => by
    have := oneTo_len l i
    simp only [oneTo]
    cases hasT (oneTo l i) ((l.getD i Ask.nil).t : Int)
    · rw [cond_false, List.length_append, List.length_singleton]; omega
    · rw [cond_true]; omega
theorem oneTo_ok {l : List Ask} (h : AsksOK l) : ∀ i, i ≤ l.length → AsksOK (oneTo l i) ∧ (oneTo l i).Pairwise (fun a b => a.t ≠ b.t)
  | 0, _ => ⟨fun a h => by simp [oneTo] at h, List.Pairwise.nil⟩
  | i + 1, hi => by
    have ih := oneTo_ok h i (by omega)
    simp only [oneTo]
    cases hb : hasT (oneTo l i) ((l.getD i Ask.nil).t : Int)
    · rw [cond_false]
      refine ⟨fun a ha => ?_, List.pairwise_append.2 ⟨ih.2, List.pairwise_singleton _ _, fun a ha b hb' => ?_⟩⟩
      · rcases List.mem_append.1 ha with ha | ha
        · exact ih.1 a ha
        · obtain rfl := List.mem_singleton.1 ha; exact h.get (by omega)
      · obtain rfl := List.mem_singleton.1 hb'
        intro e
        rw [(hasT_iff _ _).2 ⟨a, ha, by rw [e]⟩] at hb; cases hb
    · rw [cond_true]; exact ih
end Go.Proofs.YtacgihekdmoceaaDoor
end
section
namespace Go.Proofs.YtacgihekdmoceaaDoor
open Go.RowKit
set_option linter.unusedVariables false
set_option maxRecDepth 100000
set_option maxHeartbeats 4000000
/-- Two slices of equal deeds. -/
structure EqS where
  l : List Dd
  m : Nat
  c : Nat
  nn : Bool
  z : Nat → Nat → Int
  m2 : Nat
  c2 : Nat
  nn2 : Bool
  z2 : Nat → Nat → Int
def conEqD : MCon := dcon EqS (fun s => s.l.length ≤ 1000 ∧ (s.l.length ≤ s.m ∧ s.m ≤ s.c) ∧ IsD s.z s.l ∧ (s.l.length ≤ s.m2 ∧ s.m2 ≤ s.c2) ∧ IsD s.z2 s.l)
  (fun s => [.c (.so 0 0 6 s.l.length s.c s.nn), .c (.so 1 0 6 s.l.length s.c2 s.nn2)]) (fun s => [rowsD s.m s.c s.z, rowsD s.m2 s.c2 s.z2]) (fun s => sv (.bool true)) (fun s => [rowsD s.m s.c s.z, rowsD s.m2 s.c2 s.z2]) 2 (fun args _ => some (blkA args))
structure EqG (s : EqS) where
  i : Nat
  hi : i ≤ s.l.length
def annEqD (s : EqS) : Ann where
  σ := EqG s
  I g := ([(0, .o (.c (.so 0 0 6 s.l.length s.c s.nn))), (1, .o (.c (.so 1 0 6 s.l.length s.c2 s.nn2))), (12, sv (.int .i64 s.l.length)), (13, sv (.int .i64 g.i))], [rowsD s.m s.c s.z, rowsD s.m2 s.c2 s.z2])
  dec g := s.l.length - g.i
  pi _ _ := [0, 1]
  nz := []
theorem eqd_con : (Con.mem conEqD).holds Tryd.prog 23 := by
  intro w0 S
  refine mem_of_run2 (Γ := []) (fun _ => noW) Tryd.func23 rfl (by kernel_rfl) tabB_ok tabB_tys (fun _ _ _ _ => .nil _ _ _) conEqD (fun s => [(23, [(0, annEqD s)])]) (fun x0 h s x => ⟨rfl, trivial⟩) (fun s ρ w _ _ _ => noW_old w _) [] (firstN 2) 400 ?_
  rintro ⟨l, m, c, nn, z, m2, c2, nn2, z2⟩ w ⟨h0, h1, h2, h3, h4⟩ -
  refine ⟨rfl, ?_⟩
  dsimp only at h0 h1 h2 h3 h4
  refine by_eq (q :=
      List.length l ≤ c ∧ List.length l ≤ c2 ∧ bif (↑(List.length l) : Int) != (↑(List.length l) : Int) then endN conEqD [] (firstN 2) (EqS.mk l m c nn z m2 c2 nn2 z2) (SV.o (SA.c (.v (Value.bool false)))) [SB.rows 38 [.int .i64, .int .i64, .int .i64, .int .i64, .int .i64, .int .i64] 6 m c z, SB.rows 38 [.int .i64, .int .i64, .int .i64, .int .i64, .int .i64, .int .i64] 6 m2 c2 z2] else List.length l ≤ c ∧ (∃ (s0 : Ann.σ (annEqD (EqS.mk l m c nn z m2 c2 nn2 z2))), (some (SV.o (SA.c (.so 0 0 6 (List.length l) c nn))) = some (SV.o (SA.c (.so 0 0 6 (List.length l) c nn))) ∧ some (SV.o (SA.c (.so 1 0 6 (List.length l) c2 nn2))) = some (SV.o (SA.c (.so 1 0 6 (List.length l) c2 nn2))) ∧ some (SV.o (SA.c (.v (Value.int .i64 (↑(List.length l) : Int))))) = some (SV.o (SA.c (.v (Value.int .i64 (↑(List.length l) : Int))))) ∧ some (SV.o (SA.c (.v (Value.int .i64 (0 : Int))))) = some (SV.o (SA.c (.v (Value.int .i64 (↑s0.1 : Int))))) ∧ True) ∧ [SB.rows 38 [.int .i64, .int .i64, .int .i64, .int .i64, .int .i64, .int .i64] 6 m c z, SB.rows 38 [.int .i64, .int .i64, .int .i64, .int .i64, .int .i64, .int .i64] 6 m2 c2 z2] = [SB.rows 38 [.int .i64, .int .i64, .int .i64, .int .i64, .int .i64, .int .i64] 6 m c z, SB.rows 38 [.int .i64, .int .i64, .int .i64, .int .i64, .int .i64, .int .i64] 6 m2 c2 z2]) ∧ ∀ (s : EqG (EqS.mk l m c nn z m2 c2 nn2 z2)), bif decide ((↑s.1 : Int) < (↑(List.length l) : Int)) then ((0 : Int) ≤ (↑s.1 : Int) ∧ (↑s.1 : Int) < (↑(List.length l) : Int) ∧ 0 + List.length l ≤ c) ∧ 0 + Int.toNat (↑s.1 : Int) < m ∧ ((0 : Int) ≤ (↑s.1 : Int) ∧ (↑s.1 : Int) < (↑(List.length l) : Int) ∧ 0 + List.length l ≤ c2) ∧ 0 + Int.toNat (↑s.1 : Int) < m2 ∧ drawP Tryd.f23 6 (regOps Tryd.f23 6) 2 [HX.mk 8 [] [] [] false, HX.mk 7 [1] [] [] false, HX.mk 6 [] [] [1] false, HX.mk 5 [] [] [] false, HX.mk 4 [] [] [1] false, HX.mk 3 [0] [] [] false, HX.mk 2 [] [] [0] false, HX.mk 1 [] [] [] false, HX.mk 0 [] [] [0] false] ∧ bif bif bif z (0 + Int.toNat (↑s.1 : Int)) 0 == z2 (0 + Int.toNat (↑s.1 : Int)) 0 then bif z (0 + Int.toNat (↑s.1 : Int)) 1 == z2 (0 + Int.toNat (↑s.1 : Int)) 1 then bif z (0 + Int.toNat (↑s.1 : Int)) 2 == z2 (0 + Int.toNat (↑s.1 : Int)) 2 then bif z (0 + Int.toNat (↑s.1 : Int)) 3 == z2 (0 + Int.toNat (↑s.1 : Int)) 3 then bif z (0 + Int.toNat (↑s.1 : Int)) 4 == z2 (0 + Int.toNat (↑s.1 : Int)) 4 then bif z (0 + Int.toNat (↑s.1 : Int)) 5 == z2 (0 + Int.toNat (↑s.1 : Int)) 5 then true else false else false else false else false else false else false then false else true then endN conEqD [] (firstN 2) (EqS.mk l m c nn z m2 c2 nn2 z2) (SV.o (SA.c (.v (Value.bool false)))) [SB.rows 38 [.int .i64, .int .i64, .int .i64, .int .i64, .int .i64, .int .i64] 6 m c z, SB.rows 38 [.int .i64, .int .i64, .int .i64, .int .i64, .int .i64, .int .i64] 6 m2 c2 z2] else ∃ (s' : EqG (EqS.mk l m c nn z m2 c2 nn2 z2)), ((some (SV.o (SA.c (.so 0 0 6 (List.length l) c nn))) = some (SV.o (SA.c (.so 0 0 6 (List.length l) c nn))) ∧ some (SV.o (SA.c (.so 1 0 6 (List.length l) c2 nn2))) = some (SV.o (SA.c (.so 1 0 6 (List.length l) c2 nn2))) ∧ some (SV.o (SA.c (.v (Value.int .i64 (↑(List.length l) : Int))))) = some (SV.o (SA.c (.v (Value.int .i64 (↑(List.length l) : Int))))) ∧ some (SV.o (SA.c (.v (Value.int .i64 (IntKind.wrap .i64 ((↑s.1 : Int) + (1 : Int))))))) = some (SV.o (SA.c (.v (Value.int .i64 (↑s'.1 : Int))))) ∧ True) ∧ [SB.rows 38 [.int .i64, .int .i64, .int .i64, .int .i64, .int .i64, .int .i64] 6 m c z, SB.rows 38 [.int .i64, .int .i64, .int .i64, .int .i64, .int .i64, .int .i64] 6 m2 c2 z2] = [SB.rows 38 [.int .i64, .int .i64, .int .i64, .int .i64, .int .i64, .int .i64] 6 m c z, SB.rows 38 [.int .i64, .int .i64, .int .i64, .int .i64, .int .i64, .int .i64] 6 m2 c2 z2]) ∧ List.length l - s'.1 < List.length l - s.1 else endN conEqD [] (firstN 2) (EqS.mk l m c nn z m2 c2 nn2 z2) (SV.o (SA.c (.v (Value.bool true)))) [SB.rows 38 [.int .i64, .int .i64, .int .i64, .int .i64, .int .i64, .int .i64] 6 m c z, SB.rows 38 [.int .i64, .int .i64, .int .i64, .int .i64, .int .i64, .int .i64] 6 m2 c2 z2]) (by kernel_rfl) ?_
  have he := fun i hi j hj => IsD.eq h2 h4 i hi j hj
  refine ⟨by omega, by omega, by_bne (fun h => absurd rfl h) (fun _ => ⟨by omega, ⟨⟨0, Nat.zero_le _⟩, ⟨rfl, rfl, rfl, rfl, trivial⟩, rfl⟩, ?_⟩)⟩
  rintro ⟨i, hi⟩
  dsimp only at hi ⊢
  refine by_dec (fun hlt => ?_) (fun hge => ⟨(), trivial, rfl, rfl⟩)
  have hlt' : i < l.length := by omega
  rw [Int.toNat_natCast, Nat.zero_add i, he i hlt' 0 (by decide), he i hlt' 1 (by decide), he i hlt' 2 (by decide), he i hlt' 3 (by decide), he i hlt' 4 (by decide), he i hlt' 5 (by decide)]
  exact ⟨⟨by omega, by omega, by omega⟩, by omega, ⟨by omega, by omega, by omega⟩, by omega, draw_of (by kernel_rfl), by_nb (fun h => absurd h (by simp)) (fun _ => ⟨⟨i + 1, hlt'⟩, ⟨⟨rfl, rfl, rfl, svI (sucI (by omega)), trivial⟩, rfl⟩, by dsimp only; omega⟩)⟩
theorem catG {n j : Nat} {a b : Int} : (bif Nat.ble (n + j + 1) n then a else b) = b := by
  cases h : Nat.ble (n + j + 1) n
  · rfl
  · exact absurd (Nat.le_of_ble_eq_true h) (by omega)
/-! The first ask of a thread. -/
abbrev askA (x : Nat → Int) : SA := .a [.one (.v (.int .i64 (x 0))), .one (.v (.int .i64 (x 1))), .one (.v (.int .i64 (x 2))), .one (.v (.int .i64 (x 3))), .one (.v (.int .i64 (x 4)))]
abbrev askB (x : Nat → Int) : SB := .cells [.one (.v (.int .i64 (x 0))), .one (.v (.int .i64 (x 1))), .one (.v (.int .i64 (x 2))), .one (.v (.int .i64 (x 3))), .one (.v (.int .i64 (x 4)))] 52
abbrev intB (x : Nat → Int) : SB := .cells [.one (.v (.int .i64 (x 0)))] 3
def conClo (B : (Nat → Int) → SB) : MCon := dcon ((Nat → Int) × (Nat → Int)) (fun _ => True) (fun s => [askA s.1, .c (.p 0 0)]) (fun s => [B s.2]) (fun s => sv (.bool (s.1 0 == s.2 0))) (fun s => [B s.2]) 1 (fun args _ => some (blkA args))
structure IdS where
  l : List Ask
  m : Nat
  c : Nat
  nn : Bool
  z : Nat → Nat → Int
  x : Nat → Int
abbrev IdS.pre (s : IdS) : Prop := s.l.length ≤ 1000 ∧ (s.l.length ≤ s.m ∧ s.m ≤ s.c) ∧ IsA s.z s.l
def idFind : List SA → List SB → Option (List Nat) := fun args _ => match args with
  | [.c (.so b _ _ _ _ _), .c (.fn _ ((x, _) :: _))] => some [b, x]
  | _ => none
def conIdx (g : Nat) (B : (Nat → Int) → SB) : MCon where
  σ := IdS
  χ := Int
  pre s := s.pre
  args s := [.c (.so 0 0 5 s.l.length s.c s.nn), .c (.fn g [(1, 0)])]
  mem s := [rowsA s.m s.c s.z, B s.x]
  ok s k := IdOk s.l (s.x 0) k
  val s k := sv (.int .i64 k)
  mem' s k := [rowsA s.m s.c s.z, B s.x]
  k := 2
  len := 2
  det := none
  find := idFind
def conHas (g : Nat) (B : (Nat → Int) → SB) : MCon := dcon IdS (fun s => s.pre) (fun s => [.c (.so 0 0 5 s.l.length s.c s.nn), .c (.fn g [(1, 0)])]) (fun s => [rowsA s.m s.c s.z, B s.x]) (fun s => sv (.bool (hasT s.l (s.x 0)))) (fun s => [rowsA s.m s.c s.z, B s.x]) 2 idFind
structure IdG (s : IdS) where
  i : Nat
  hi : i ≤ s.l.length
  hn : ∀ a ∈ s.l.take i, (a.t : Int) ≠ s.x 0
theorem cloOnce_con : (Con.mem (conClo askB)).holds Tryd.prog 21 := by
  intro w0 S
  refine mem_of_run2 (Γ := []) (fun _ => noW) Tryd.func21 rfl (by kernel_rfl) tabB_ok tabB_tys (fun _ _ _ _ => .nil _ _ _) (conClo askB) (fun s => []) (fun x0 h s x => ⟨rfl, trivial⟩) (fun s ρ w _ _ _ => noW_old w _) [] (firstN 1) 400 ?_
  rintro ⟨y, x⟩ w - -
  refine ⟨rfl, ?_⟩
  refine by_eq (q :=
      endN (conClo askB) [] (firstN 1) (y, x) (SV.o (SA.c (.v (Value.bool (y 0 == x 0))))) [SB.cells [Seg.one (.v (.int .i64 (x 0))), Seg.one (.v (.int .i64 (x 1))), Seg.one (.v (.int .i64 (x 2))), Seg.one (.v (.int .i64 (x 3))), Seg.one (.v (.int .i64 (x 4)))] 52, SB.cells [Seg.one (.v (.int .i64 (y 0))), Seg.one (.v (.int .i64 (y 1))), Seg.one (.v (.int .i64 (y 2))), Seg.one (.v (.int .i64 (y 3))), Seg.one (.v (.int .i64 (y 4)))] 52]) (by kernel_rfl) ?_
  exact ⟨(), trivial, rfl, rfl⟩
def annIdxOnce (s : IdS) : Ann where
  σ := IdG s
  I g := ([(0, .o (.c (.so 0 0 5 s.l.length s.c s.nn))), (1, .o (.c (.fn 21 [(1, 0)]))), (7, sv (.int .i64 s.l.length)), (8, sv (.int .i64 g.i))], [rowsA s.m s.c s.z, askB s.x])
  dec g := s.l.length - g.i
  pi _ _ := [0, 1]
  nz := []
theorem idxOnce_con : (Con.mem (conIdx 21 askB)).holds Tryd.prog 53 := by
  intro w0 S
  refine mem_of_run2 (Γ := [(21, .mem (conClo askB))]) (fun _ => noW) Tryd.func53 rfl (by kernel_rfl) tabB_ok tabB_tys (fun w S' _ _ => .cons (cloOnce_con w S') (.nil _ _ _)) (conIdx 21 askB) (fun s => [(53, [(0, annIdxOnce s)])]) (fun x0 h => by cases h) (fun s ρ w _ _ _ => noW_old w _) [] (firstN 2) 400 ?_
  rintro ⟨l, m, c, nn, z, x⟩ w ⟨h0, h1, h2⟩ -
  refine ⟨rfl, ?_⟩
  dsimp only at h0 h1 h2
  refine by_eq (q :=
      List.length l ≤ c ∧ (∃ (s0 : Ann.σ (annIdxOnce (IdS.mk l m c nn z x))), (some (SV.o (SA.c (.so 0 0 5 (List.length l) c nn))) = some (SV.o (SA.c (.so 0 0 5 (List.length l) c nn))) ∧ some (SV.o (SA.c (.fn 21 [(1, 0)]))) = some (SV.o (SA.c (.fn 21 [(1, 0)]))) ∧ some (SV.o (SA.c (.v (Value.int .i64 (↑(List.length l) : Int))))) = some (SV.o (SA.c (.v (Value.int .i64 (↑(List.length l) : Int))))) ∧ some (SV.o (SA.c (.v (Value.int .i64 (0 : Int))))) = some (SV.o (SA.c (.v (Value.int .i64 (↑s0.1 : Int))))) ∧ True) ∧ [SB.rows 52 [.int .i64, .int .i64, .int .i64, .int .i64, .int .i64] 5 m c z, SB.cells [Seg.one (.v (.int .i64 (x 0))), Seg.one (.v (.int .i64 (x 1))), Seg.one (.v (.int .i64 (x 2))), Seg.one (.v (.int .i64 (x 3))), Seg.one (.v (.int .i64 (x 4)))] 52] = [SB.rows 52 [.int .i64, .int .i64, .int .i64, .int .i64, .int .i64] 5 m c z, SB.cells [Seg.one (.v (.int .i64 (x 0))), Seg.one (.v (.int .i64 (x 1))), Seg.one (.v (.int .i64 (x 2))), Seg.one (.v (.int .i64 (x 3))), Seg.one (.v (.int .i64 (x 4)))] 52]) ∧ ∀ (s : IdG (IdS.mk l m c nn z x)), bif decide ((↑s.1 : Int) < (↑(List.length l) : Int)) then ((0 : Int) ≤ (↑s.1 : Int) ∧ (↑s.1 : Int) < (↑(List.length l) : Int) ∧ 0 + List.length l ≤ c) ∧ 0 + Int.toNat (↑s.1 : Int) < m ∧ ∃ (s_1 : (Nat → Int) × (Nat → Int)), [SA.a [Seg.one (.v (.int .i64 (z (0 + Int.toNat (↑s.1 : Int)) 0))), Seg.one (.v (.int .i64 (z (0 + Int.toNat (↑s.1 : Int)) 1))), Seg.one (.v (.int .i64 (z (0 + Int.toNat (↑s.1 : Int)) 2))), Seg.one (.v (.int .i64 (z (0 + Int.toNat (↑s.1 : Int)) 3))), Seg.one (.v (.int .i64 (z (0 + Int.toNat (↑s.1 : Int)) 4)))], SA.c (.p 1 0)] = [SA.a [Seg.one (.v (.int .i64 (s_1.1 0))), Seg.one (.v (.int .i64 (s_1.1 1))), Seg.one (.v (.int .i64 (s_1.1 2))), Seg.one (.v (.int .i64 (s_1.1 3))), Seg.one (.v (.int .i64 (s_1.1 4)))], SA.c (.p 1 0)] ∧ [SB.cells [Seg.one (.v (.int .i64 (x 0))), Seg.one (.v (.int .i64 (x 1))), Seg.one (.v (.int .i64 (x 2))), Seg.one (.v (.int .i64 (x 3))), Seg.one (.v (.int .i64 (x 4)))] 52] = [SB.cells [Seg.one (.v (.int .i64 (s_1.2 0))), Seg.one (.v (.int .i64 (s_1.2 1))), Seg.one (.v (.int .i64 (s_1.2 2))), Seg.one (.v (.int .i64 (s_1.2 3))), Seg.one (.v (.int .i64 (s_1.2 4)))] 52] ∧ True ∧ ∀ (x_1 : Unit), True → bif s_1.1 0 == s_1.2 0 then endN (conIdx 21 askB) [] (firstN 2) (IdS.mk l m c nn z x) (SV.o (SA.c (.v (Value.int .i64 (↑s.1 : Int))))) [SB.rows 52 [.int .i64, .int .i64, .int .i64, .int .i64, .int .i64] 5 m c z, SB.cells [Seg.one (.v (.int .i64 (s_1.2 0))), Seg.one (.v (.int .i64 (s_1.2 1))), Seg.one (.v (.int .i64 (s_1.2 2))), Seg.one (.v (.int .i64 (s_1.2 3))), Seg.one (.v (.int .i64 (s_1.2 4)))] 52] else ∃ (s' : IdG (IdS.mk l m c nn z x)), ((some (SV.o (SA.c (.so 0 0 5 (List.length l) c nn))) = some (SV.o (SA.c (.so 0 0 5 (List.length l) c nn))) ∧ some (SV.o (SA.c (.fn 21 [(1, 0)]))) = some (SV.o (SA.c (.fn 21 [(1, 0)]))) ∧ some (SV.o (SA.c (.v (Value.int .i64 (↑(List.length l) : Int))))) = some (SV.o (SA.c (.v (Value.int .i64 (↑(List.length l) : Int))))) ∧ some (SV.o (SA.c (.v (Value.int .i64 (IntKind.wrap .i64 ((↑s.1 : Int) + (1 : Int))))))) = some (SV.o (SA.c (.v (Value.int .i64 (↑s'.1 : Int))))) ∧ True) ∧ [SB.rows 52 [.int .i64, .int .i64, .int .i64, .int .i64, .int .i64] 5 m c z, SB.cells [Seg.one (.v (.int .i64 (s_1.2 0))), Seg.one (.v (.int .i64 (s_1.2 1))), Seg.one (.v (.int .i64 (s_1.2 2))), Seg.one (.v (.int .i64 (s_1.2 3))), Seg.one (.v (.int .i64 (s_1.2 4)))] 52] = [SB.rows 52 [.int .i64, .int .i64, .int .i64, .int .i64, .int .i64] 5 m c z, SB.cells [Seg.one (.v (.int .i64 (x 0))), Seg.one (.v (.int .i64 (x 1))), Seg.one (.v (.int .i64 (x 2))), Seg.one (.v (.int .i64 (x 3))), Seg.one (.v (.int .i64 (x 4)))] 52]) ∧ List.length l - s'.1 < List.length l - s.1 else endN (conIdx 21 askB) [] (firstN 2) (IdS.mk l m c nn z x) (SV.o (SA.c (.v (Value.int .i64 (-1 : Int))))) [SB.rows 52 [.int .i64, .int .i64, .int .i64, .int .i64, .int .i64] 5 m c z, SB.cells [Seg.one (.v (.int .i64 (x 0))), Seg.one (.v (.int .i64 (x 1))), Seg.one (.v (.int .i64 (x 2))), Seg.one (.v (.int .i64 (x 3))), Seg.one (.v (.int .i64 (x 4)))] 52]) (by kernel_rfl) ?_
  refine ⟨by omega, ⟨⟨0, Nat.zero_le _, by simp⟩, ⟨rfl, rfl, rfl, rfl, trivial⟩, rfl⟩, ?_⟩
  rintro ⟨i, hi, hn⟩
  dsimp only at hi hn ⊢
  refine by_dec (fun hlt => ?_) (fun hge => ?_)
  · have hlt' : i < l.length := by omega
    have a0 := (h2 i hlt').1
    rw [Int.toNat_natCast, Nat.zero_add i]
    refine ⟨⟨by omega, by omega, by omega⟩, by omega, (z i, x), rfl, rfl, trivial, fun _ _ => ?_⟩
    dsimp only
    refine by_beq (fun e => ?_) (fun e => ?_)
    · exact ⟨(i : Int), .inr ⟨i, rfl, hlt', a0.symm.trans e, hn⟩, rfl, rfl⟩
    · exact ⟨⟨i + 1, hlt', take_none hlt' hn (fun h => e (a0.trans h))⟩, ⟨⟨rfl, rfl, rfl, svI (sucI (by omega)), trivial⟩, rfl⟩, by dsimp only; omega⟩
  · obtain rfl : i = l.length := by omega
    rw [List.take_length] at hn
    exact ⟨(-1 : Int), .inl ⟨rfl, hn⟩, rfl, rfl⟩
theorem hasOnce_con : (Con.mem (conHas 21 askB)).holds Tryd.prog 20 := by
  intro w0 S
  refine mem_of_run2 (Γ := [(53, .mem (conIdx 21 askB))]) (fun _ => noW) Tryd.func20 rfl (by kernel_rfl) tabB_ok tabB_tys (fun w S' _ _ => .cons (idxOnce_con w S') (.nil _ _ _)) (conHas 21 askB) (fun s => []) (fun x0 h s x => ⟨rfl, trivial⟩) (fun s ρ w _ _ _ => noW_old w _) [] (firstN 2) 400 ?_
  rintro ⟨l, m, c, nn, z, x⟩ w ⟨h0, h1, h2⟩ -
  refine ⟨rfl, ?_⟩
  dsimp only at h0 h1 h2
  refine by_eq (q :=
      ∃ (s : IdS), [SA.c (.so 0 0 5 (List.length l) c nn), SA.c (.fn 21 [(1, 0)])] = [SA.c (.so 0 0 5 (List.length s.1) s.3 s.4), SA.c (.fn 21 [(1, 0)])] ∧ [SB.rows 52 [.int .i64, .int .i64, .int .i64, .int .i64, .int .i64] 5 m c z, SB.cells [Seg.one (.v (.int .i64 (x 0))), Seg.one (.v (.int .i64 (x 1))), Seg.one (.v (.int .i64 (x 2))), Seg.one (.v (.int .i64 (x 3))), Seg.one (.v (.int .i64 (x 4)))] 52] = [SB.rows 52 [.int .i64, .int .i64, .int .i64, .int .i64, .int .i64] 5 s.2 s.3 s.5, SB.cells [Seg.one (.v (.int .i64 (s.6 0))), Seg.one (.v (.int .i64 (s.6 1))), Seg.one (.v (.int .i64 (s.6 2))), Seg.one (.v (.int .i64 (s.6 3))), Seg.one (.v (.int .i64 (s.6 4)))] 52] ∧ (List.length s.1 ≤ 1000 ∧ (List.length s.1 ≤ s.2 ∧ s.2 ≤ s.3) ∧ IsA s.5 s.1) ∧ ∀ (x_1 : Int), IdOk s.1 (s.6 0) x_1 → endN (conHas 21 askB) [] (firstN 2) (IdS.mk l m c nn z x) (SV.o (SA.c (.v (Value.bool (decide (x_1 ≥ (0 : Int))))))) [SB.rows 52 [.int .i64, .int .i64, .int .i64, .int .i64, .int .i64] 5 s.2 s.3 s.5, SB.cells [Seg.one (.v (.int .i64 (s.6 0))), Seg.one (.v (.int .i64 (s.6 1))), Seg.one (.v (.int .i64 (s.6 2))), Seg.one (.v (.int .i64 (s.6 3))), Seg.one (.v (.int .i64 (s.6 4)))] 52]) (by kernel_rfl) ?_
  exact ⟨⟨l, m, c, nn, z, x⟩, rfl, rfl, ⟨h0, h1, h2⟩, fun k hk => ⟨(), trivial, svB (idOk_has hk), rfl⟩⟩
theorem cloClosed_con : (Con.mem (conClo intB)).holds Tryd.prog 26 := by
  intro w0 S
  refine mem_of_run2 (Γ := []) (fun _ => noW) Tryd.func26 rfl (by kernel_rfl) tabB_ok tabB_tys (fun _ _ _ _ => .nil _ _ _) (conClo intB) (fun s => []) (fun x0 h s x => ⟨rfl, trivial⟩) (fun s ρ w _ _ _ => noW_old w _) [] (firstN 1) 400 ?_
  rintro ⟨y, x⟩ w - -
  refine ⟨rfl, ?_⟩
  refine by_eq (q :=
      endN (conClo intB) [] (firstN 1) (y, x) (SV.o (SA.c (.v (Value.bool (y 0 == x 0))))) [SB.cells [Seg.one (.v (.int .i64 (x 0)))] 3, SB.cells [Seg.one (.v (.int .i64 (y 0))), Seg.one (.v (.int .i64 (y 1))), Seg.one (.v (.int .i64 (y 2))), Seg.one (.v (.int .i64 (y 3))), Seg.one (.v (.int .i64 (y 4)))] 52]) (by kernel_rfl) ?_
  exact ⟨(), trivial, rfl, rfl⟩
def annIdxClosed (s : IdS) : Ann where
  σ := IdG s
  I g := ([(0, .o (.c (.so 0 0 5 s.l.length s.c s.nn))), (1, .o (.c (.fn 26 [(1, 0)]))), (7, sv (.int .i64 s.l.length)), (8, sv (.int .i64 g.i))], [rowsA s.m s.c s.z, intB s.x])
  dec g := s.l.length - g.i
  pi _ _ := [0, 1]
  nz := []
theorem idxClosed_con : (Con.mem (conIdx 26 intB)).holds Tryd.prog 53 := by
  intro w0 S
  refine mem_of_run2 (Γ := [(26, .mem (conClo intB))]) (fun _ => noW) Tryd.func53 rfl (by kernel_rfl) tabB_ok tabB_tys (fun w S' _ _ => .cons (cloClosed_con w S') (.nil _ _ _)) (conIdx 26 intB) (fun s => [(53, [(0, annIdxClosed s)])]) (fun x0 h => by cases h) (fun s ρ w _ _ _ => noW_old w _) [] (firstN 2) 400 ?_
  rintro ⟨l, m, c, nn, z, x⟩ w ⟨h0, h1, h2⟩ -
  refine ⟨rfl, ?_⟩
  dsimp only at h0 h1 h2
  refine by_eq (q :=
      List.length l ≤ c ∧ (∃ (s0 : Ann.σ (annIdxClosed (IdS.mk l m c nn z x))), (some (SV.o (SA.c (.so 0 0 5 (List.length l) c nn))) = some (SV.o (SA.c (.so 0 0 5 (List.length l) c nn))) ∧ some (SV.o (SA.c (.fn 26 [(1, 0)]))) = some (SV.o (SA.c (.fn 26 [(1, 0)]))) ∧ some (SV.o (SA.c (.v (Value.int .i64 (↑(List.length l) : Int))))) = some (SV.o (SA.c (.v (Value.int .i64 (↑(List.length l) : Int))))) ∧ some (SV.o (SA.c (.v (Value.int .i64 (0 : Int))))) = some (SV.o (SA.c (.v (Value.int .i64 (↑s0.1 : Int))))) ∧ True) ∧ [SB.rows 52 [.int .i64, .int .i64, .int .i64, .int .i64, .int .i64] 5 m c z, SB.cells [Seg.one (.v (.int .i64 (x 0)))] 3] = [SB.rows 52 [.int .i64, .int .i64, .int .i64, .int .i64, .int .i64] 5 m c z, SB.cells [Seg.one (.v (.int .i64 (x 0)))] 3]) ∧ ∀ (s : IdG (IdS.mk l m c nn z x)), bif decide ((↑s.1 : Int) < (↑(List.length l) : Int)) then ((0 : Int) ≤ (↑s.1 : Int) ∧ (↑s.1 : Int) < (↑(List.length l) : Int) ∧ 0 + List.length l ≤ c) ∧ 0 + Int.toNat (↑s.1 : Int) < m ∧ ∃ (s_1 : (Nat → Int) × (Nat → Int)), [SA.a [Seg.one (.v (.int .i64 (z (0 + Int.toNat (↑s.1 : Int)) 0))), Seg.one (.v (.int .i64 (z (0 + Int.toNat (↑s.1 : Int)) 1))), Seg.one (.v (.int .i64 (z (0 + Int.toNat (↑s.1 : Int)) 2))), Seg.one (.v (.int .i64 (z (0 + Int.toNat (↑s.1 : Int)) 3))), Seg.one (.v (.int .i64 (z (0 + Int.toNat (↑s.1 : Int)) 4)))], SA.c (.p 1 0)] = [SA.a [Seg.one (.v (.int .i64 (s_1.1 0))), Seg.one (.v (.int .i64 (s_1.1 1))), Seg.one (.v (.int .i64 (s_1.1 2))), Seg.one (.v (.int .i64 (s_1.1 3))), Seg.one (.v (.int .i64 (s_1.1 4)))], SA.c (.p 1 0)] ∧ [SB.cells [Seg.one (.v (.int .i64 (x 0)))] 3] = [SB.cells [Seg.one (.v (.int .i64 (s_1.2 0)))] 3] ∧ True ∧ ∀ (x_1 : Unit), True → bif s_1.1 0 == s_1.2 0 then endN (conIdx 26 intB) [] (firstN 2) (IdS.mk l m c nn z x) (SV.o (SA.c (.v (Value.int .i64 (↑s.1 : Int))))) [SB.rows 52 [.int .i64, .int .i64, .int .i64, .int .i64, .int .i64] 5 m c z, SB.cells [Seg.one (.v (.int .i64 (s_1.2 0)))] 3] else ∃ (s' : IdG (IdS.mk l m c nn z x)), ((some (SV.o (SA.c (.so 0 0 5 (List.length l) c nn))) = some (SV.o (SA.c (.so 0 0 5 (List.length l) c nn))) ∧ some (SV.o (SA.c (.fn 26 [(1, 0)]))) = some (SV.o (SA.c (.fn 26 [(1, 0)]))) ∧ some (SV.o (SA.c (.v (Value.int .i64 (↑(List.length l) : Int))))) = some (SV.o (SA.c (.v (Value.int .i64 (↑(List.length l) : Int))))) ∧ some (SV.o (SA.c (.v (Value.int .i64 (IntKind.wrap .i64 ((↑s.1 : Int) + (1 : Int))))))) = some (SV.o (SA.c (.v (Value.int .i64 (↑s'.1 : Int))))) ∧ True) ∧ [SB.rows 52 [.int .i64, .int .i64, .int .i64, .int .i64, .int .i64] 5 m c z, SB.cells [Seg.one (.v (.int .i64 (s_1.2 0)))] 3] = [SB.rows 52 [.int .i64, .int .i64, .int .i64, .int .i64, .int .i64] 5 m c z, SB.cells [Seg.one (.v (.int .i64 (x 0)))] 3]) ∧ List.length l - s'.1 < List.length l - s.1 else endN (conIdx 26 intB) [] (firstN 2) (IdS.mk l m c nn z x) (SV.o (SA.c (.v (Value.int .i64 (-1 : Int))))) [SB.rows 52 [.int .i64, .int .i64, .int .i64, .int .i64, .int .i64] 5 m c z, SB.cells [Seg.one (.v (.int .i64 (x 0)))] 3]) (by kernel_rfl) ?_
  refine ⟨by omega, ⟨⟨0, Nat.zero_le _, by simp⟩, ⟨rfl, rfl, rfl, rfl, trivial⟩, rfl⟩, ?_⟩
  rintro ⟨i, hi, hn⟩
  dsimp only at hi hn ⊢
  refine by_dec (fun hlt => ?_) (fun hge => ?_)
  · have hlt' : i < l.length := by omega
    have a0 := (h2 i hlt').1
    rw [Int.toNat_natCast, Nat.zero_add i]
    refine ⟨⟨by omega, by omega, by omega⟩, by omega, (z i, x), rfl, rfl, trivial, fun _ _ => ?_⟩
    dsimp only
    refine by_beq (fun e => ?_) (fun e => ?_)
    · exact ⟨(i : Int), .inr ⟨i, rfl, hlt', a0.symm.trans e, hn⟩, rfl, rfl⟩
    · exact ⟨⟨i + 1, hlt', take_none hlt' hn (fun h => e (a0.trans h))⟩, ⟨⟨rfl, rfl, rfl, svI (sucI (by omega)), trivial⟩, rfl⟩, by dsimp only; omega⟩
  · obtain rfl : i = l.length := by omega
    rw [List.take_length] at hn
    exact ⟨(-1 : Int), .inl ⟨rfl, hn⟩, rfl, rfl⟩
theorem hasClosed_con : (Con.mem (conHas 26 intB)).holds Tryd.prog 20 := by
  intro w0 S
  refine mem_of_run2 (Γ := [(53, .mem (conIdx 26 intB))]) (fun _ => noW) Tryd.func20 rfl (by kernel_rfl) tabB_ok tabB_tys (fun w S' _ _ => .cons (idxClosed_con w S') (.nil _ _ _)) (conHas 26 intB) (fun s => []) (fun x0 h s x => ⟨rfl, trivial⟩) (fun s ρ w _ _ _ => noW_old w _) [] (firstN 2) 400 ?_
  rintro ⟨l, m, c, nn, z, x⟩ w ⟨h0, h1, h2⟩ -
  refine ⟨rfl, ?_⟩
  dsimp only at h0 h1 h2
  refine by_eq (q :=
      ∃ (s : IdS), [SA.c (.so 0 0 5 (List.length l) c nn), SA.c (.fn 26 [(1, 0)])] = [SA.c (.so 0 0 5 (List.length s.1) s.3 s.4), SA.c (.fn 26 [(1, 0)])] ∧ [SB.rows 52 [.int .i64, .int .i64, .int .i64, .int .i64, .int .i64] 5 m c z, SB.cells [Seg.one (.v (.int .i64 (x 0)))] 3] = [SB.rows 52 [.int .i64, .int .i64, .int .i64, .int .i64, .int .i64] 5 s.2 s.3 s.5, SB.cells [Seg.one (.v (.int .i64 (s.6 0)))] 3] ∧ (List.length s.1 ≤ 1000 ∧ (List.length s.1 ≤ s.2 ∧ s.2 ≤ s.3) ∧ IsA s.5 s.1) ∧ ∀ (x_1 : Int), IdOk s.1 (s.6 0) x_1 → endN (conHas 26 intB) [] (firstN 2) (IdS.mk l m c nn z x) (SV.o (SA.c (.v (Value.bool (decide (x_1 ≥ (0 : Int))))))) [SB.rows 52 [.int .i64, .int .i64, .int .i64, .int .i64, .int .i64] 5 s.2 s.3 s.5, SB.cells [Seg.one (.v (.int .i64 (s.6 0)))] 3]) (by kernel_rfl) ?_
  exact ⟨⟨l, m, c, nn, z, x⟩, rfl, rfl, ⟨h0, h1, h2⟩, fun k hk => ⟨(), trivial, svB (idOk_has hk), rfl⟩⟩
end Go.Proofs.YtacgihekdmoceaaDoor
end
section
namespace Go.Proofs.YtacgihekdmoceaaDoor
open Go.ChangeShapes Go.WideShapes Go.RowKit
theorem lOwn : ownKnob Tryd.prog.godebug = none := by kernel_rfl
theorem lEt : Tryd.prog.globalNamed "errors.errorType" = some 0 := by kernel_rfl
theorem lRt : (Tryd.prog.cutTypes.find? (·.1 == "internal/reflectlite.rtype")).map (·.2) = some 159 := by kernel_rfl
theorem lSize : Tryd.prog.types.size = 202 := by kernel_rfl
theorem lRow : ((List.range 202).filter fun t => Tryd.prog.rowNamed t [101, 114, 114, 111, 114]) = [34] := by kernel_rfl
abbrev laidL : List (String × DataW Unit) := [("errors.errorType", Rows.laid_errors_errorType)]
abbrev ErrType (W : World) : Prop := W.cell? ⟨0, 0, none⟩ = some (.iface 159 (.agg #[.pointer (some ⟨1, 34, none⟩)]))
/-- What the condition gives a walk: the variable's one cell. -/
theorem handle_of_laid {W : World} (h : laidMetH Tryd.prog laidL W) : ErrType W := by
  have h' : laidMet Tryd.prog [] W ∧ handlesMet Tryd.prog laidL W := h
  obtain ⟨name, u, ty, e1, e2, e3, e4, e5⟩ := h'.2 _ (List.mem_singleton.2 rfl)
  have en : name = [101, 114, 114, 111, 114] := (Option.some.inj e1).symm
  subst en
  obtain rfl := Option.some.inj (lRt.symm.trans e2)
  have hm : ty ∈ (List.range 202).filter fun t => Tryd.prog.rowNamed t [101, 114, 114, 111, 114] := List.mem_filter.2 ⟨List.mem_range.2 (by rw [← lSize]; exact e3), e4⟩
  rw [lRow] at hm
  obtain rfl := List.mem_singleton.1 hm
  have hh : typeHandle Tryd.prog 34 = .pointer (some ⟨1, 34, none⟩) := by kernel_rfl
  rw [hh] at e5
  simpa using World.var?_cell lEt e5 0
/-- A world that meets the condition. -/
noncomputable def laidWorld (os : Os) : World :=
  let w0 := World.holding Tryd.prog os ⟨#[], #[], []⟩
  { w0 with heap := w0.heap.modify 0 fun
      | .cells _ t frozen => .cells #[.iface 159 (.agg #[.pointer (some ⟨1, 34, none⟩)])] t frozen
      | o => o }
theorem laidWorld_met (os : Os) (args : Array Value) : laidMetH Tryd.prog laidL ((laidWorld os).forCall (fun _ _ => 0) ⟨#[], args, []⟩).memory :=
  laidMetH_of_parts (laidMet_nil _ _) (by kernel_rfl)
end Go.Proofs.YtacgihekdmoceaaDoor
end
section
namespace Go.Proofs.YtacgihekdmoceaaDoor
open Go.ChangeShapes Go.WideShapes Go.Deep Go.ChangeAt
set_option linter.unusedVariables false
set_option maxRecDepth 20000
theorem blk_lt {w : World} {b o : Nat} {v : Value} (h : w.cell? ⟨b, o, none⟩ = some v) : b < w.heap.size := by
  unfold World.cell? at h
  by_cases hb : b < w.heap.size
  · exact hb
  · simp [Array.getElem?_eq_none (Nat.le_of_not_lt hb)] at h
theorem one_int {H : Type} {enc : TypeId × Value → H} {w : World} {base : Nat} {spare : Nat → Bool} {held : Bool} {n : Nat} {t : TypeId} {k : IntKind} {v : Value} {y : Option (DataW H × List MemPlace)} (ht : Tryd.prog.underlying t = some (.int k))
    (h : DataW.trod enc Tryd.prog w base spare held n t [v] = y) (hy : y.isSome) : ∃ z, v = .int k z ∧ (Lit.int k z).wf = true := by
  obtain ⟨x, rfl⟩ := Option.isSome_iff_exists.1 hy
  obtain ⟨z, h1, -, h2⟩ := DataW.trod_int ht h
  simp at h1
  exact ⟨z, h1, h2⟩
theorem cellsOp_of {H : Type} {enc : TypeId × Value → H} {w : World} {base : Nat} {spare : Nat → Bool} {held : Bool} {n : Nat} {cs : List Value} {y : Option (DataW H × List MemPlace)}
    (h : DataW.trod enc Tryd.prog w base spare held n 30 cs = y) (hy : y.isSome) :
    ∃ z0 z1 z2 : Int, cs = [.int .i64 z0, .int .i64 z1, .int .i64 z2] ∧ (Lit.int .i64 z0).wf = true ∧ (Lit.int .i64 z1).wf = true ∧ (Lit.int .i64 z2).wf = true := by
  obtain ⟨x, rfl⟩ := Option.isSome_iff_exists.1 hy
  obtain ⟨ys, n', -, -, hlen, hyl, hf⟩ := DataW.trod_struct Tryd.underlying30 h
  have hc : Tryd.prog.cellsOf 30 = 3 := by kernel_rfl
  have hc_int : Tryd.prog.cellsOf 3 = 1 := by kernel_rfl
  rw [hc] at hlen
  match cs, hlen with
  | [v0, v1, v2], _ =>
    have hyl' : ys.length = 3 := hyl
    have g0 : DataW.trod enc Tryd.prog w base spare held n' 3 (([v0, v1, v2].drop 0).take (Tryd.prog.cellsOf 3)) = ys[0]? := hf 0 _ rfl
    rw [hc_int] at g0
    dsimp only [List.drop, List.take] at g0
    have g1 : DataW.trod enc Tryd.prog w base spare held n' 3 (([v0, v1, v2].drop 1).take (Tryd.prog.cellsOf 3)) = ys[1]? := hf 1 _ rfl
    rw [hc_int] at g1
    dsimp only [List.drop, List.take] at g1
    have g2 : DataW.trod enc Tryd.prog w base spare held n' 3 (([v0, v1, v2].drop 2).take (Tryd.prog.cellsOf 3)) = ys[2]? := hf 2 _ rfl
    rw [hc_int] at g2
    dsimp only [List.drop, List.take] at g2
    obtain ⟨z0, rfl, w0⟩ := one_int Tryd.underlying3 g0 (by simp [hyl'])
    obtain ⟨z1, rfl, w1⟩ := one_int Tryd.underlying3 g1 (by simp [hyl'])
    obtain ⟨z2, rfl, w2⟩ := one_int Tryd.underlying3 g2 (by simp [hyl'])
    exact ⟨z0, z1, z2, rfl, w0, w1, w2⟩
theorem cellsAnswer_of {H : Type} {enc : TypeId × Value → H} {w : World} {base : Nat} {spare : Nat → Bool} {held : Bool} {n : Nat} {cs : List Value} {y : Option (DataW H × List MemPlace)}
    (h : DataW.trod enc Tryd.prog w base spare held n 32 cs = y) (hy : y.isSome) :
    ∃ z0 z1 : Int, cs = [.int .i64 z0, .int .i64 z1] ∧ (Lit.int .i64 z0).wf = true ∧ (Lit.int .i64 z1).wf = true := by
  obtain ⟨x, rfl⟩ := Option.isSome_iff_exists.1 hy
  obtain ⟨ys, n', -, -, hlen, hyl, hf⟩ := DataW.trod_struct Tryd.underlying32 h
  have hc : Tryd.prog.cellsOf 32 = 2 := by kernel_rfl
  have hc_int : Tryd.prog.cellsOf 3 = 1 := by kernel_rfl
  rw [hc] at hlen
  match cs, hlen with
  | [v0, v1], _ =>
    have hyl' : ys.length = 2 := hyl
    have g0 : DataW.trod enc Tryd.prog w base spare held n' 3 (([v0, v1].drop 0).take (Tryd.prog.cellsOf 3)) = ys[0]? := hf 0 _ rfl
    rw [hc_int] at g0
    dsimp only [List.drop, List.take] at g0
    have g1 : DataW.trod enc Tryd.prog w base spare held n' 3 (([v0, v1].drop 1).take (Tryd.prog.cellsOf 3)) = ys[1]? := hf 1 _ rfl
    rw [hc_int] at g1
    dsimp only [List.drop, List.take] at g1
    obtain ⟨z0, rfl, w0⟩ := one_int Tryd.underlying3 g0 (by simp [hyl'])
    obtain ⟨z1, rfl, w1⟩ := one_int Tryd.underlying3 g1 (by simp [hyl'])
    exact ⟨z0, z1, rfl, w0, w1⟩
theorem cellsDeed_of {H : Type} {enc : TypeId × Value → H} {w : World} {base : Nat} {spare : Nat → Bool} {held : Bool} {n : Nat} {cs : List Value} {y : Option (DataW H × List MemPlace)}
    (h : DataW.trod enc Tryd.prog w base spare held n 38 cs = y) (hy : y.isSome) :
    ∃ z0 z1 z2 z3 z4 z5 : Int, cs = [.int .i64 z0, .int .i64 z1, .int .i64 z2, .int .i64 z3, .int .i64 z4, .int .i64 z5] ∧ (Lit.int .i64 z0).wf = true ∧ (Lit.int .i64 z1).wf = true ∧ (Lit.int .i64 z2).wf = true ∧ (Lit.int .i64 z3).wf = true ∧ (Lit.int .i64 z4).wf = true ∧ (Lit.int .i64 z5).wf = true := by
  obtain ⟨x, rfl⟩ := Option.isSome_iff_exists.1 hy
  obtain ⟨ys, n', -, -, hlen, hyl, hf⟩ := DataW.trod_struct Tryd.underlying38 h
  have hc : Tryd.prog.cellsOf 38 = 6 := by kernel_rfl
  have hc_int : Tryd.prog.cellsOf 3 = 1 := by kernel_rfl
  have hc_Op : Tryd.prog.cellsOf 30 = 3 := by kernel_rfl
  have hc_Answer : Tryd.prog.cellsOf 32 = 2 := by kernel_rfl
  rw [hc] at hlen
  match cs, hlen with
  | [v0, v1, v2, v3, v4, v5], _ =>
    have hyl' : ys.length = 3 := hyl
    have g0 : DataW.trod enc Tryd.prog w base spare held n' 3 (([v0, v1, v2, v3, v4, v5].drop 0).take (Tryd.prog.cellsOf 3)) = ys[0]? := hf 0 _ rfl
    rw [hc_int] at g0
    dsimp only [List.drop, List.take] at g0
    have g1 : DataW.trod enc Tryd.prog w base spare held n' 30 (([v0, v1, v2, v3, v4, v5].drop 1).take (Tryd.prog.cellsOf 30)) = ys[1]? := hf 1 _ rfl
    rw [hc_Op] at g1
    dsimp only [List.drop, List.take] at g1
    have g2 : DataW.trod enc Tryd.prog w base spare held n' 32 (([v0, v1, v2, v3, v4, v5].drop 4).take (Tryd.prog.cellsOf 32)) = ys[2]? := hf 2 _ rfl
    rw [hc_Answer] at g2
    dsimp only [List.drop, List.take] at g2
    obtain ⟨z0, rfl, w0⟩ := one_int Tryd.underlying3 g0 (by simp [hyl'])
    obtain ⟨z1, z2, z3, he1, w1, w2, w3⟩ := cellsOp_of g1 (by simp [hyl'])
    simp only [List.cons.injEq, and_true] at he1
    obtain ⟨rfl, rfl, rfl⟩ := he1
    obtain ⟨z4, z5, he2, w4, w5⟩ := cellsAnswer_of g2 (by simp [hyl'])
    simp only [List.cons.injEq, and_true] at he2
    obtain ⟨rfl, rfl⟩ := he2
    exact ⟨z0, z1, z2, z3, z4, z5, rfl, w0, w1, w2, w3, w4, w5⟩
theorem rowsDeed_of {H : Type} {enc : TypeId × Value → H} {w : World} {base : Nat} {spare : Nat → Bool} {held : Bool} {a0 : Option Addr} {len0 cap0 : Nat} {d0 : DataW H} {p0 : List MemPlace}
    (h : DataW.Trod enc Tryd.prog w base spare held 28 (.slice a0 len0 cap0) d0 p0) : ∃ f, Rws 6 (fun _ => .i64) w a0 len0 cap0 f := by
  obtain ⟨fuel, hf⟩ := h
  have hc : Tryd.prog.cellsOf 38 = 6 := by kernel_rfl
  rcases open_slice Tryd.underlying28 hf with ⟨hcs, -⟩ | ⟨a, len, cap, m, n, D, Pl, hcs, hb, hl, hm, hmm, hx, hi⟩
  · simp [Value.cells] at hcs
    obtain ⟨rfl, rfl, rfl⟩ := hcs
    exact ⟨fun _ _ => 0, Nat.le_refl _, by omega, .inl rfl⟩
  · simp [Value.cells] at hcs
    obtain ⟨rfl, rfl, rfl⟩ := hcs
    unfold maxLen at hm
    rw [hc] at hi
    have hi' : ∀ i, i < len0 → ∃ z : Nat → Int, ∀ j, j < 6 → w.cell? (a.add (i * 6 + j)) = some (.int ((fun _ => .i64) j) (z j)) ∧ (Lit.int ((fun _ => .i64) j) (z j)).wf = true := by
      intro i hil
      obtain ⟨cs, h1, h2⟩ := hi i (by rw [hmm]; split <;> omega)
      obtain ⟨z0, z1, z2, z3, z4, z5, rfl, w0, w1, w2, w3, w4, w5⟩ := cellsDeed_of h2 (by rfl)
      obtain ⟨-, -, hat⟩ := World.cells?_some h1
      refine ⟨fun j => [z0, z1, z2, z3, z4, z5].getD j 0, fun j hj => ?_⟩
      rw [← Go.Deep.add_add, hat j (by simpa using hj)]
      match j, hj with
      | 0, _ => exact ⟨rfl, w0⟩
      | 1, _ => exact ⟨rfl, w1⟩
      | 2, _ => exact ⟨rfl, w2⟩
      | 3, _ => exact ⟨rfl, w3⟩
      | 4, _ => exact ⟨rfl, w4⟩
      | 5, _ => exact ⟨rfl, w5⟩
    by_cases h0 : len0 = 0
    · subst h0; exact ⟨fun _ _ => 0, Nat.zero_le _, by omega, .inl rfl⟩
    · obtain ⟨z, hz⟩ := hi' 0 (by omega)
      obtain ⟨b, off, spot⟩ := a
      have hspot : spot = none := by simpa [Addr.add] using World.cell?_spot (hz 0 (by omega)).1
      subst hspot
      have hadd : ∀ i, (⟨b, off, none⟩ : Addr).add i = ⟨b, off + i, none⟩ := fun i => by
        unfold Addr.add; split
        · subst i; rfl
        · rfl
      classical
      let F : Nat → Nat → Int := fun i => if h : i < len0 then Classical.choose (hi' i h) else fun _ => 0
      refine ⟨F, hl, by omega, .inr ⟨b, off, rfl, ?_, fun j hj i hi0 => ?_⟩⟩
      · have := (hz 0 (by omega)).1; rw [hadd] at this; exact blk_lt this
      · have hF : F j = Classical.choose (hi' j hj) := by simp only [F, dif_pos hj]
        obtain ⟨c1, c2⟩ := Classical.choose_spec (hi' j hj) i hi0
        rw [← hF] at c1 c2
        rw [hadd, ← Nat.add_assoc] at c1
        exact ⟨c1, trivial⟩
theorem aggOp_of {H : Type} {enc : TypeId × Value → H} {w : World} {base b0 : Nat} {spare : Nat → Bool} {held : Bool} {v : Value} {d : DataW H} {p : List MemPlace}
    (hv : Value.okWide Tryd.prog w .any b0 30 v) (h : DataW.Trod enc Tryd.prog w base spare held 30 v d p) :
    ∃ z0 z1 z2 : Int, v = .agg #[.int .i64 z0, .int .i64 z1, .int .i64 z2] ∧ (Lit.int .i64 z0).wf = true ∧ (Lit.int .i64 z1).wf = true ∧ (Lit.int .i64 z2).wf = true := by
  obtain ⟨cs, rfl, hs⟩ := okWide_struct Tryd.underlying30 hv
  obtain ⟨fuel, hf⟩ := h
  obtain ⟨z0, z1, z2, hc, w0, w1, w2⟩ := cellsOp_of hf (by rfl)
  refine ⟨z0, z1, z2, ?_, w0, w1, w2⟩
  have : cs.toList = [.int .i64 z0, .int .i64 z1, .int .i64 z2] := hc
  rw [← Array.toArray_toList (xs := cs), this]
end Go.Proofs.YtacgihekdmoceaaDoor
end
