/- Laws and walks that the proof leans on, gathered: YcRec, PickP, PuKeep, YcKeep, PuBat, YcBat, YcBat2, LaidH, YcTell, YcThings, YcFit, YcJud, PuBat2, PuLeg, YcLeg, YcCat, OpenDeeds. -/
import Derived.Laws.Entries
import Derived.Test.YtacgihekdmoceaaDoorRows
import Derived.Test.YtacgihekdmoceaaDoorProg
import Derived.ChangeVars
import Derived.JoinedOf
import Derived.RowKit
import Derived.LaidLaws
import Derived.LaidHandle
import Derived.Stop.Joined
import Derived.Shelf.Spec.SlicesGrow
import Derived.Deep.Slices
import Derived.Deep.Fields
import Derived.ChangeSame
import Derived.ProofKit
import Derived.Test.YtacgihekdmoceaaDoorLt4
section
namespace Go.Proofs.YtacgihekdmoceaaDoor
open Go.RowKit
set_option linter.unusedVariables false
set_option maxRecDepth 100000
set_option maxHeartbeats 4000000
abbrev recA (f : Nat → Int) : SA := .a [.ints (.int .u64) 32 f]
abbrev recB (f : Nat → Int) : SB := .cells [.ints (.int .u64) 32 f] 44
abbrev errA (n : Int) : SA := .c (.v (.iface 73 (.int .i64 n)))
def conRNew : PCon := ⟨fun args => match args with
  | [.c (.v (.int .i64 k))] => 1 ≤ k ∧ k ≤ 6
  | _ => False, fun args => match args with
  | [.c (.v (.int .i64 k))] => .t [recA (fL (Rec.new k).words), nilE]
  | _ => sv undef, fun _ => none⟩
theorem rnew_con : (Con.pure conRNew).holds Tryd.prog 30 := by
  refine pure_of_run2 (Γ := [(50, .pure conIs)]) Tryd.func30 rfl (by kernel_rfl) tabR_ok tabR_tys (fun W => .cons (is_con W _) (.nil _ _ _)) conRNew (fun _ => []) 400 ?_
  intro W args hp
  unfold conRNew at hp; dsimp only at hp; split at hp
  case h_2 => exact hp.elim
  rename_i k
  refine ⟨rfl, ?_⟩
  refine by_eq (q :=
      True ∧ bif bif decide ((1 : Int) ≤ k ∧ k ≤ (6 : Int)) then false else true then endP conRNew [SA.c (.v (Value.int .i64 k))] (SV.t [SA.a [Seg.ints (.int .u64) 32 fun (x : Nat) => (0 : Int)], SA.c (.v (Value.iface 73 (Value.int .i64 (1 : Int))))]) [SB.cells [Seg.ints (.int .u64) 32 fun (x : Nat) => (0 : Int)] 44] else endP conRNew [SA.c (.v (Value.int .i64 k))] (SV.t [SA.a [Seg.ints (.int .u64) 32 fun (i : Nat) => bif Nat.beq i 0 then IntKind.wrap .u64 k else (0 : Int)], SA.c (.v Value.nilIface)]) [SB.cells [Seg.ints (.int .u64) 32 fun (i : Nat) => bif Nat.beq i 0 then IntKind.wrap .u64 k else (0 : Int)] 44]) (by kernel_rfl) ?_
  refine ⟨trivial, by_nb (fun h => absurd (show decide (1 ≤ k ∧ k ≤ 6) = true from decide_eq_true hp) (by rw [h]; decide)) (fun _ => ⟨rfl, fun ρ => ?_⟩)⟩
  have e : ∀ i, i < 32 → (fun i => bif Nat.beq i 0 then k else 0) i = fL (Rec.new k).words i := fun i hi => by
    cases i with
    | zero => rfl
    | succ j => rw [show (Rec.new k).words = k :: List.replicate 31 0 from rfl, fL_cons_succ, fL_zeros]; rfl
  simp only [PCon.out, conRNew, SV.den, List.map_cons, List.map_nil]
  rw [wrapU (by omega) (by omega), ints_congr e]; rfl
def conRKind : PCon := ⟨fun args => match args with
  | [.a [.ints (.int .u64) n f]] => n = 32 ∧ 0 ≤ f 0 ∧ f 0 ≤ 6
  | _ => False, fun args => match args with
  | [.a [.ints (.int .u64) n f]] => sv (.int .i64 (f 0))
  | _ => sv undef, fun _ => none⟩
theorem rkind_con : (Con.pure conRKind).holds Tryd.prog 58 := by
  refine pure_of_run2 (Γ := []) Tryd.func58 rfl (by kernel_rfl) tabR_ok tabR_tys (fun W => .nil _ _ _) conRKind (fun _ => []) 400 ?_
  intro W args hp
  unfold conRKind at hp; dsimp only at hp; split at hp
  case h_2 => exact hp.elim
  rename_i n f
  obtain ⟨rfl, h0, h6⟩ := hp
  refine ⟨rfl, ?_⟩
  refine by_eq (q :=
      ((0 : Int) ≤ (0 : Int) ∧ (0 : Int) < (32 : Int)) ∧ 0 < 32 ∧ endP conRKind [SA.a [Seg.ints (.int .u64) 32 f]] (SV.o (SA.c (.v (Value.int .i64 (IntKind.wrap .i64 (if (4294967296 : Int) < f 0 then (4294967296 : Int) else f 0)))))) [SB.cells [Seg.ints (.int .u64) 32 f] 44]) (by kernel_rfl) ?_
  refine ⟨⟨by decide, by decide⟩, by decide, rfl, fun ρ => ?_⟩
  rw [if_neg (by omega), wrapI (by omega) (by omega)]; rfl
def conRObject : PCon := ⟨fun args => match args with
  | [.a [.ints (.int .u64) n f]] => n = 32
  | _ => False, fun args => match args with
  | [.a [.ints (.int .u64) n f]] => .o (cellsA (fL (toN 17 (fun i => f (1 + i)))))
  | _ => sv undef, fun _ => none⟩
theorem robject_con : (Con.pure conRObject).holds Tryd.prog 32 := by
  refine pure_of_run2 (Γ := []) Tryd.func32 rfl (by kernel_rfl) tabR_ok tabR_tys (fun W => .nil _ _ _) conRObject (fun _ => []) 400 ?_
  intro W args hp
  unfold conRObject at hp; dsimp only at hp; split at hp
  case h_2 => exact hp.elim
  rename_i n f
  subst hp
  refine ⟨rfl, ?_⟩
  refine by_eq (q :=
      ((0 : Int) ≤ (1 : Int) ∧ (1 : Int) ≤ (18 : Int) ∧ (18 : Int) ≤ (32 : Int)) ∧ endP conRObject [SA.a [Seg.ints (.int .u64) 32 f]] (SV.o (SA.a [Seg.ints (.int .u64) 17 fun (i : Nat) => f (1 + i)])) [SB.cells [Seg.ints (.int .u64) 32 f] 44, SB.cells [Seg.ints (.int .u64) 17 fun (i : Nat) => f (1 + i)] 27]) (by kernel_rfl) ?_
  exact ⟨⟨by decide, by decide, by decide⟩, rfl, fun ρ => ints_congr fun i hi => (fL_toN (n := 17) (f := fun i => f (1 + i)) hi).symm⟩
def conRToggle : PCon := ⟨fun args => match args with
  | [.a [.ints (.int .u64) n f], .c (.v (.int .i64 t))] => n = 32 ∧ 0 ≤ t ∧ t < 4 ∧ 0 ≤ f 26 ∧ f 26 < 16
  | _ => False, fun args => match args with
  | [.a [.ints (.int .u64) n f], .c (.v (.int .i64 t))] => sv (.int .i64 (togBit (f 26) t.toNat))
  | _ => sv undef, fun _ => none⟩
theorem rtoggle_con : (Con.pure conRToggle).holds Tryd.prog 29 := by
  refine pure_of_run2 (Γ := [(56, .pure conBit)]) Tryd.func29 rfl (by kernel_rfl) tabR_ok tabR_tys (fun W => .cons (bit_con W _) (.nil _ _ _)) conRToggle (fun _ => []) 400 ?_
  intro W args hp
  unfold conRToggle at hp; dsimp only at hp; split at hp
  case h_2 => exact hp.elim
  rename_i n f t
  obtain ⟨rfl, h0, h4, g0, g16⟩ := hp
  refine ⟨rfl, ?_⟩
  refine by_eq (q :=
      bif decide (t < (0 : Int)) then endP conRToggle [SA.a [Seg.ints (.int .u64) 32 f], SA.c (.v (Value.int .i64 t))] (SV.o (SA.c (.v (Value.int .i64 (0 : Int))))) [SB.cells [Seg.ints (.int .u64) 32 f] 44] else bif decide (t ≥ (4 : Int)) then endP conRToggle [SA.a [Seg.ints (.int .u64) 32 f], SA.c (.v (Value.int .i64 t))] (SV.o (SA.c (.v (Value.int .i64 (0 : Int))))) [SB.cells [Seg.ints (.int .u64) 32 f] 44] else ((0 : Int) ≤ (26 : Int) ∧ (26 : Int) < (32 : Int)) ∧ 26 < 32 ∧ U64 (f 26) ∧ bif bif bitZ (f 26) t then false else true then endP conRToggle [SA.a [Seg.ints (.int .u64) 32 f], SA.c (.v (Value.int .i64 t))] (SV.o (SA.c (.v (Value.int .i64 (0 : Int))))) [SB.cells [Seg.ints (.int .u64) 32 f] 44] else endP conRToggle [SA.a [Seg.ints (.int .u64) 32 f], SA.c (.v (Value.int .i64 t))] (SV.o (SA.c (.v (Value.int .i64 (1 : Int))))) [SB.cells [Seg.ints (.int .u64) 32 f] 44]) (by kernel_rfl) ?_
  obtain ⟨T, rfl⟩ := Int.eq_ofNat_of_zero_le h0
  refine by_dec (fun h => absurd h (by omega)) (fun _ => by_dec (fun h => absurd h (by omega)) (fun _ => ⟨⟨by decide, by decide⟩, by decide, ⟨g0, by omega⟩, ?_⟩))
  rw [bitZ_tog g0 g16 (by omega)]
  have h01 := togBit_01 (f 26) T
  refine by_nb (fun h => ⟨rfl, fun ρ => ?_⟩) (fun h => ⟨rfl, fun ρ => ?_⟩)
  · show Value.int .i64 0 = Value.int .i64 (togBit (f 26) T)
    have : ¬ togBit (f 26) T = 1 := by simpa using h
    rw [show togBit (f 26) T = 0 by omega]
  · show Value.int .i64 1 = Value.int .i64 (togBit (f 26) T)
    rw [show togBit (f 26) T = 1 by simpa using h]
def conRAnswer : PCon := ⟨fun args => match args with
  | [.a [.ints (.int .u64) n f], .c (.v (.int .i64 t))] => n = 32 ∧ 0 ≤ t ∧ t < 4 ∧ U64 (f (18 + t.toNat)) ∧ 0 ≤ f (22 + t.toNat) ∧ f (22 + t.toNat) ≤ 9223372036854775807
  | _ => False, fun args => match args with
  | [.a [.ints (.int .u64) n f], .c (.v (.int .i64 t))] => .t [ansA (f (18 + t.toNat) / 4294967296 % 4294967296) (f (18 + t.toNat) % 4294967296), .c (.v (.int .i64 (f (22 + t.toNat)))), nilE]
  | _ => sv undef, fun args => match args with
  | [.a [.ints (.int .u64) n f], .c (.v (.int .i64 t))] => some (ansOkB (f (18 + t.toNat) / 4294967296 % 4294967296) (f (18 + t.toNat) % 4294967296), .t [ansA 0 0, .c (.v (.int .i64 0)), errA 8])
  | _ => none⟩
theorem ranswer_con : (Con.pure conRAnswer).holds Tryd.prog 52 := by
  refine pure_of_run2 (Γ := [(59, .pure conTold)]) Tryd.func52 rfl (by kernel_rfl) tabR_ok tabR_tys (fun W => .cons (told_con W _) (.nil _ _ _)) conRAnswer (fun _ => []) 400 ?_
  intro W args hp
  unfold conRAnswer at hp; dsimp only at hp; split at hp
  case h_2 => exact hp.elim
  rename_i n f t
  obtain ⟨rfl, h0, h4, hu, w0, w1⟩ := hp
  refine ⟨rfl, ?_⟩
  refine by_eq (q :=
      bif decide (t < (0 : Int)) then endP conRAnswer [SA.a [Seg.ints (.int .u64) 32 f], SA.c (.v (Value.int .i64 t))] (SV.t [SA.a [Seg.one (.v (.int .i64 (0 : Int))), Seg.one (.v (.int .i64 (0 : Int)))], SA.c (.v (Value.int .i64 (0 : Int))), SA.c (.v (Value.iface 73 (Value.int .i64 (2 : Int))))]) [SB.cells [Seg.ints (.int .u64) 32 f] 44, SB.cells [Seg.one (.v (.int .i64 (0 : Int))), Seg.one (.v (.int .i64 (0 : Int)))] 32] else bif decide (t ≥ (4 : Int)) then endP conRAnswer [SA.a [Seg.ints (.int .u64) 32 f], SA.c (.v (Value.int .i64 t))] (SV.t [SA.a [Seg.one (.v (.int .i64 (0 : Int))), Seg.one (.v (.int .i64 (0 : Int)))], SA.c (.v (Value.int .i64 (0 : Int))), SA.c (.v (Value.iface 73 (Value.int .i64 (2 : Int))))]) [SB.cells [Seg.ints (.int .u64) 32 f] 44, SB.cells [Seg.one (.v (.int .i64 (0 : Int))), Seg.one (.v (.int .i64 (0 : Int)))] 32] else ((0 : Int) ≤ IntKind.wrap .i64 ((18 : Int) + t) ∧ IntKind.wrap .i64 ((18 : Int) + t) < (32 : Int)) ∧ Int.toNat (IntKind.wrap .i64 ((18 : Int) + t)) < 32 ∧ U64 (f (Int.toNat (IntKind.wrap .i64 ((18 : Int) + t)))) ∧ bif ansOkB (f (Int.toNat (IntKind.wrap .i64 ((18 : Int) + t))) / (4294967296 : Int) % (4294967296 : Int)) (f (Int.toNat (IntKind.wrap .i64 ((18 : Int) + t))) % (4294967296 : Int)) then ((0 : Int) ≤ IntKind.wrap .i64 ((22 : Int) + t) ∧ IntKind.wrap .i64 ((22 : Int) + t) < (32 : Int)) ∧ Int.toNat (IntKind.wrap .i64 ((22 : Int) + t)) < 32 ∧ drawP Tryd.f52 6 (regOps Tryd.f52 6) 3 [HX.mk 8 [] [] [] false, HX.mk 7 [] [] [] false, HX.mk 6 [] [1] [] false, HX.mk 5 [] [] [] false, HX.mk 4 [0] [] [] false, HX.mk 3 [] [] [0] false, HX.mk 2 [] [] [] false, HX.mk 1 [] [] [] false, HX.mk 0 [2] [] [] false] ∧ endP conRAnswer [SA.a [Seg.ints (.int .u64) 32 f], SA.c (.v (Value.int .i64 t))] (SV.t [SA.a [Seg.one (SC.v (Value.int .i64 (f (Int.toNat (IntKind.wrap .i64 ((18 : Int) + t))) / (4294967296 : Int) % (4294967296 : Int)))), Seg.one (.v (.int .i64 (f (Int.toNat (IntKind.wrap .i64 ((18 : Int) + t))) % (4294967296 : Int))))], SA.c (.v (Value.int .i64 (IntKind.wrap .i64 (f (Int.toNat (IntKind.wrap .i64 ((22 : Int) + t))))))), SA.c (.v Value.nilIface)]) [SB.cells [Seg.ints (.int .u64) 32 f] 44, SB.cells [Seg.one (SC.v (Value.int .i64 (f (Int.toNat (IntKind.wrap .i64 ((18 : Int) + t))) / (4294967296 : Int) % (4294967296 : Int)))), Seg.one (.v (.int .i64 (f (Int.toNat (IntKind.wrap .i64 ((18 : Int) + t))) % (4294967296 : Int))))] 32, SB.cells [Seg.one (SC.v (Value.int .i64 (f (Int.toNat (IntKind.wrap .i64 ((18 : Int) + t))) / (4294967296 : Int) % (4294967296 : Int)))), Seg.one (.v (.int .i64 (f (Int.toNat (IntKind.wrap .i64 ((18 : Int) + t))) % (4294967296 : Int))))] 32] else endP conRAnswer [SA.a [Seg.ints (.int .u64) 32 f], SA.c (.v (Value.int .i64 t))] (SV.t [SA.a [Seg.one (.v (.int .i64 (0 : Int))), Seg.one (.v (.int .i64 (0 : Int)))], SA.c (.v (Value.int .i64 (0 : Int))), SA.c (.v (Value.iface 73 (Value.int .i64 (8 : Int))))]) [SB.cells [Seg.ints (.int .u64) 32 f] 44, SB.cells [Seg.one (.v (.int .i64 (0 : Int))), Seg.one (.v (.int .i64 (0 : Int)))] 32, SB.cells [Seg.one (.v (.int .i64 (0 : Int))), Seg.one (.v (.int .i64 (0 : Int)))] 32]) (by kernel_rfl) ?_
  obtain ⟨T, rfl⟩ := Int.eq_ofNat_of_zero_le h0
  rw [Int.toNat_natCast] at hu w0 w1
  have e1 : IntKind.wrap .i64 ((18 : Int) + (T : Int)) = ((18 + T : Nat) : Int) := by rw [wrapI (by omega) (by omega)]; omega
  have e2 : IntKind.wrap .i64 ((22 : Int) + (T : Int)) = ((22 + T : Nat) : Int) := by rw [wrapI (by omega) (by omega)]; omega
  rw [e1, e2, Int.toNat_natCast, Int.toNat_natCast, wrapI (x := f (22 + T)) (by omega) (by omega)]
  refine by_dec (fun h => absurd h (by omega)) (fun _ => by_dec (fun h => absurd h (by omega)) (fun _ => ⟨⟨by omega, by omega⟩, by omega, hu, by_cond (fun h => ⟨⟨by omega, by omega⟩, by omega, draw_of (by kernel_rfl), rfl, fun ρ => ?_⟩) (fun h => ⟨rfl, fun ρ => ?_⟩)⟩))
  · simp only [PCon.out, conRAnswer, Int.toNat_natCast, h, cond_true]; rfl
  · simp only [PCon.out, conRAnswer, Int.toNat_natCast, h, cond_false]
def conRRight : PCon := ⟨fun args => match args with
  | [.a [.ints (.int .u64) n f]] => n = 32 ∧ RecW f
  | _ => False, fun _ => sv (.bool true), fun _ => none⟩
structure RoG where
  t : Nat
  ht : t ≤ 4
structure RiG where
  t : Nat
  u : Nat
  ht : t < 4
  hu : u ≤ t
def annO (f : Nat → Int) : Ann where
  σ := RoG
  I g := ([(1, .o (.c (.p 0 0))), (3, sv (.int .u64 (f 28))), (35, sv (.int .i64 g.t))], [recB f])
  dec g := 4 - g.t
  pi _ _ := [0]
  nz := []
def annI (f : Nat → Int) : Ann where
  rel := some fun a b => b.t = a.t
  σ := RiG
  I g := ([(1, .o (.c (.p 0 0))), (3, sv (.int .u64 (f 28))), (6, sv (.int .u64 (f (22 + g.t)))), (35, sv (.int .i64 g.t)), (69, sv (.int .i64 g.t)), (70, sv (.int .i64 g.u))], [recB f])
  dec g := g.t - g.u
  pi _ _ := [0]
  nz := []
def agRR : List SA → List (Nat × Anns)
  | [.a [.ints (.int .u64) n f]] => [(33, [(0, annO f), (2, annI f)])]
  | _ => []
theorem rright_con : (Con.pure conRRight).holds Tryd.prog 33 := by
  refine pure_of_run2 (Γ := [(58, .pure conRKind), (32, .pure conRObject), (39, .pure conRight), (59, .pure conTold)]) Tryd.func33 rfl (by kernel_rfl) tabR_ok tabR_tys
    (fun W => .cons (rkind_con W _) (.cons (robject_con W _) (.cons (right_con W _) (.cons (told_con W _) (.nil _ _ _))))) conRRight agRR 600 ?_
  intro W args hp
  unfold conRRight at hp; dsimp only at hp; split at hp
  case h_2 => exact hp.elim
  rename_i n f
  obtain ⟨rfl, h⟩ := hp
  refine ⟨rfl, ?_⟩
  refine by_eq (q :=
      ((0 : Int) ≤ (28 : Int) ∧ (28 : Int) < (32 : Int)) ∧ 28 < 32 ∧ (32 = 32 ∧ (0 : Int) ≤ f 0 ∧ f 0 ≤ (6 : Int)) ∧ 32 = 32 ∧ (17 = 17 ∧ ObjForm (f 0) (toN 17 (fL (toN 17 fun (i : Nat) => f (1 + i))))) ∧ bif bif rightV (f 0) (toN 17 (fL (toN 17 fun (i : Nat) => f (1 + i)))) then false else true then drawP Tryd.f33 2 (regOps Tryd.f33 2) 1 [HX.mk 20 [] [] [] false, HX.mk 19 [] [] [] false, HX.mk 18 [] [] [] false, HX.mk 17 [] [] [] false, HX.mk 16 [] [] [] false, HX.mk 15 [] [] [] false, HX.mk 14 [] [] [] false, HX.mk 13 [] [] [] false, HX.mk 12 [] [] [] false, HX.mk 11 [] [] [] false, HX.mk 10 [] [] [] false, HX.mk 9 [] [] [] false, HX.mk 8 [] [] [] false, HX.mk 7 [] [] [] false, HX.mk 6 [] [] [] false, HX.mk 5 [] [] [] false, HX.mk 4 [] [] [] false, HX.mk 3 [] [] [] false, HX.mk 2 [0] [] [] false, HX.mk 1 [] [] [] false, HX.mk 0 [0] [] [] false] ∧ endP conRRight [SA.a [Seg.ints (.int .u64) 32 f]] (SV.o (SA.c (.v (Value.bool false)))) [SB.cells [Seg.ints (.int .u64) 32 f] 44] else ((0 : Int) ≤ (26 : Int) ∧ (26 : Int) < (32 : Int)) ∧ 26 < 32 ∧ (0 : Int) ≤ (4 : Int) ∧ bif Int.fdiv (f 26) (16 : Int) != (0 : Int) then drawP Tryd.f33 2 (regOps Tryd.f33 2) 1 [HX.mk 20 [] [] [] false, HX.mk 19 [] [] [] false, HX.mk 18 [] [] [] false, HX.mk 17 [] [] [] false, HX.mk 16 [] [] [] false, HX.mk 15 [] [] [] false, HX.mk 14 [] [] [] false, HX.mk 13 [] [] [] false, HX.mk 12 [] [] [] false, HX.mk 11 [] [] [] false, HX.mk 10 [] [] [] false, HX.mk 9 [] [] [] false, HX.mk 8 [0] [] [] false, HX.mk 7 [] [] [0] false, HX.mk 6 [] [] [] false, HX.mk 5 [] [] [] false, HX.mk 4 [] [] [] false, HX.mk 3 [] [] [] false, HX.mk 2 [0] [] [] false, HX.mk 1 [] [] [] false, HX.mk 0 [0] [] [] false] ∧ endP conRRight [SA.a [Seg.ints (.int .u64) 32 f]] (SV.o (SA.c (.v (Value.bool false)))) [SB.cells [Seg.ints (.int .u64) 32 f] 44] else bif decide (f 28 > (1099511627776 : Int)) then drawP Tryd.f33 2 (regOps Tryd.f33 2) 1 [HX.mk 20 [] [] [] false, HX.mk 19 [] [] [] false, HX.mk 18 [] [] [] false, HX.mk 17 [] [] [] false, HX.mk 16 [] [] [] false, HX.mk 15 [] [] [] false, HX.mk 14 [] [] [] false, HX.mk 13 [] [] [] false, HX.mk 12 [] [] [] false, HX.mk 11 [] [] [] false, HX.mk 10 [] [] [] false, HX.mk 9 [] [] [] false, HX.mk 8 [0] [] [] false, HX.mk 7 [] [] [0] false, HX.mk 6 [] [] [] false, HX.mk 5 [] [] [] false, HX.mk 4 [] [] [] false, HX.mk 3 [] [] [] false, HX.mk 2 [0] [] [] false, HX.mk 1 [] [] [] false, HX.mk 0 [0] [] [] false] ∧ endP conRRight [SA.a [Seg.ints (.int .u64) 32 f]] (SV.o (SA.c (.v (Value.bool false)))) [SB.cells [Seg.ints (.int .u64) 32 f] 44] else ((0 : Int) ≤ (27 : Int) ∧ (27 : Int) < (32 : Int)) ∧ 27 < 32 ∧ drawP Tryd.f33 2 (regOps Tryd.f33 2) 1 [HX.mk 20 [] [] [] false, HX.mk 19 [] [] [] false, HX.mk 18 [0] [] [] false, HX.mk 17 [] [] [0] false, HX.mk 16 [] [] [] false, HX.mk 15 [] [] [] false, HX.mk 14 [] [] [] false, HX.mk 13 [] [] [] false, HX.mk 12 [] [] [] false, HX.mk 11 [] [] [] false, HX.mk 10 [] [] [] false, HX.mk 9 [] [] [] false, HX.mk 8 [0] [] [] false, HX.mk 7 [] [] [0] false, HX.mk 6 [] [] [] false, HX.mk 5 [] [] [] false, HX.mk 4 [] [] [] false, HX.mk 3 [] [] [] false, HX.mk 2 [0] [] [] false, HX.mk 1 [] [] [] false, HX.mk 0 [0] [] [] false] ∧ bif decide (f 27 > (1099511627776 : Int)) then endP conRRight [SA.a [Seg.ints (.int .u64) 32 f]] (SV.o (SA.c (.v (Value.bool false)))) [SB.cells [Seg.ints (.int .u64) 32 f] 44] else (∃ (s0 : Ann.σ (annO f)), (some (SV.o (SA.c (.p 0 0))) = some (SV.o (SA.c (.p 0 0))) ∧ some (SV.o (SA.c (.v (Value.int .u64 (f 28))))) = some (SV.o (SA.c (.v (Value.int .u64 (f 28))))) ∧ some (SV.o (SA.c (.v (Value.int .i64 (0 : Int))))) = some (SV.o (SA.c (.v (Value.int .i64 (↑s0.1 : Int))))) ∧ True) ∧ [SB.cells [Seg.ints (.int .u64) 32 f] 44] = [SB.cells [Seg.ints (.int .u64) 32 f] 44]) ∧ ∀ (s : RoG), bif decide ((↑s.1 : Int) < (4 : Int)) then ((0 : Int) ≤ IntKind.wrap .i64 ((18 : Int) + (↑s.1 : Int)) ∧ IntKind.wrap .i64 ((18 : Int) + (↑s.1 : Int)) < (32 : Int)) ∧ Int.toNat (IntKind.wrap .i64 ((18 : Int) + (↑s.1 : Int))) < 32 ∧ ((0 : Int) ≤ IntKind.wrap .i64 ((22 : Int) + (↑s.1 : Int)) ∧ IntKind.wrap .i64 ((22 : Int) + (↑s.1 : Int)) < (32 : Int)) ∧ Int.toNat (IntKind.wrap .i64 ((22 : Int) + (↑s.1 : Int))) < 32 ∧ drawP Tryd.f33 7 (regOps Tryd.f33 7) 1 [HX.mk 9 [] [] [] false, HX.mk 8 [] [] [] false, HX.mk 7 [0] [] [] false, HX.mk 6 [] [] [0] false, HX.mk 5 [] [] [] false, HX.mk 4 [] [] [] false, HX.mk 3 [0] [] [] false, HX.mk 2 [] [] [0] false, HX.mk 1 [] [] [] false, HX.mk 0 [] [] [] false] ∧ U64 (f (Int.toNat (IntKind.wrap .i64 ((18 : Int) + (↑s.1 : Int))))) ∧ bif ansOkB (f (Int.toNat (IntKind.wrap .i64 ((18 : Int) + (↑s.1 : Int)))) / (4294967296 : Int) % (4294967296 : Int)) (f (Int.toNat (IntKind.wrap .i64 ((18 : Int) + (↑s.1 : Int)))) % (4294967296 : Int)) then bif decide (f (Int.toNat (IntKind.wrap .i64 ((22 : Int) + (↑s.1 : Int)))) > f 28) then endP conRRight [SA.a [Seg.ints (.int .u64) 32 f]] (SV.o (SA.c (.v (Value.bool false)))) [SB.cells [Seg.ints (.int .u64) 32 f] 44, SB.cells [Seg.one (SC.v (Value.int .i64 (f (Int.toNat (IntKind.wrap .i64 ((18 : Int) + (↑s.1 : Int)))) / (4294967296 : Int) % (4294967296 : Int)))), Seg.one (SC.v (Value.int .i64 (f (Int.toNat (IntKind.wrap .i64 ((18 : Int) + (↑s.1 : Int)))) % (4294967296 : Int))))] 32] else bif bif (f (Int.toNat (IntKind.wrap .i64 ((18 : Int) + (↑s.1 : Int)))) == (0 : Int)) == (f (Int.toNat (IntKind.wrap .i64 ((22 : Int) + (↑s.1 : Int)))) == (0 : Int)) then false else true then endP conRRight [SA.a [Seg.ints (.int .u64) 32 f]] (SV.o (SA.c (.v (Value.bool false)))) [SB.cells [Seg.ints (.int .u64) 32 f] 44, SB.cells [Seg.one (SC.v (Value.int .i64 (f (Int.toNat (IntKind.wrap .i64 ((18 : Int) + (↑s.1 : Int)))) / (4294967296 : Int) % (4294967296 : Int)))), Seg.one (SC.v (Value.int .i64 (f (Int.toNat (IntKind.wrap .i64 ((18 : Int) + (↑s.1 : Int)))) % (4294967296 : Int))))] 32] else ∃ (s0 : RiG), ((some (SV.o (SA.c (.p 0 0))) = some (SV.o (SA.c (.p 0 0))) ∧ some (SV.o (SA.c (.v (Value.int .u64 (f 28))))) = some (SV.o (SA.c (.v (Value.int .u64 (f 28))))) ∧ some (SV.o (SA.c (SC.v (Value.int .u64 (f (Int.toNat (IntKind.wrap .i64 ((22 : Int) + (↑s.1 : Int))))))))) = some (SV.o (SA.c (.v (Value.int .u64 (f (22 + s0.1)))))) ∧ some (SV.o (SA.c (.v (Value.int .i64 (↑s.1 : Int))))) = some (SV.o (SA.c (.v (Value.int .i64 (↑s0.1 : Int))))) ∧ some (SV.o (SA.c (.v (Value.int .i64 (↑s.1 : Int))))) = some (SV.o (SA.c (.v (Value.int .i64 (↑s0.1 : Int))))) ∧ some (SV.o (SA.c (.v (Value.int .i64 (0 : Int))))) = some (SV.o (SA.c (.v (Value.int .i64 (↑s0.2 : Int))))) ∧ True) ∧ [SB.cells [Seg.ints (.int .u64) 32 f] 44] = [SB.cells [Seg.ints (.int .u64) 32 f] 44]) ∧ s0.1 = s0.1 ∧ ∀ (s_1 : RiG), s_1.1 = s0.1 → bif decide ((↑s_1.2 : Int) < (↑s_1.1 : Int)) then bif f (22 + s_1.1) != (0 : Int) then ((0 : Int) ≤ IntKind.wrap .i64 ((22 : Int) + (↑s_1.2 : Int)) ∧ IntKind.wrap .i64 ((22 : Int) + (↑s_1.2 : Int)) < (32 : Int)) ∧ Int.toNat (IntKind.wrap .i64 ((22 : Int) + (↑s_1.2 : Int))) < 32 ∧ bif f (Int.toNat (IntKind.wrap .i64 ((22 : Int) + (↑s_1.2 : Int)))) == f (22 + s_1.1) then endP conRRight [SA.a [Seg.ints (.int .u64) 32 f]] (SV.o (SA.c (.v (Value.bool false)))) [SB.cells [Seg.ints (.int .u64) 32 f] 44] else ∃ (s' : RiG), ((some (SV.o (SA.c (.p 0 0))) = some (SV.o (SA.c (.p 0 0))) ∧ some (SV.o (SA.c (.v (Value.int .u64 (f 28))))) = some (SV.o (SA.c (.v (Value.int .u64 (f 28))))) ∧ some (SV.o (SA.c (.v (Value.int .u64 (f (22 + s_1.1)))))) = some (SV.o (SA.c (.v (Value.int .u64 (f (22 + s'.1)))))) ∧ some (SV.o (SA.c (.v (Value.int .i64 (↑s_1.1 : Int))))) = some (SV.o (SA.c (.v (Value.int .i64 (↑s'.1 : Int))))) ∧ some (SV.o (SA.c (.v (Value.int .i64 (↑s_1.1 : Int))))) = some (SV.o (SA.c (.v (Value.int .i64 (↑s'.1 : Int))))) ∧ some (SV.o (SA.c (SC.v (Value.int .i64 (IntKind.wrap .i64 ((↑s_1.2 : Int) + (1 : Int))))))) = some (SV.o (SA.c (.v (Value.int .i64 (↑s'.2 : Int))))) ∧ True) ∧ [SB.cells [Seg.ints (.int .u64) 32 f] 44] = [SB.cells [Seg.ints (.int .u64) 32 f] 44]) ∧ s'.1 = s0.1 ∧ s'.1 - s'.2 < s_1.1 - s_1.2 else ∃ (s' : RiG), ((some (SV.o (SA.c (.p 0 0))) = some (SV.o (SA.c (.p 0 0))) ∧ some (SV.o (SA.c (.v (Value.int .u64 (f 28))))) = some (SV.o (SA.c (.v (Value.int .u64 (f 28))))) ∧ some (SV.o (SA.c (.v (Value.int .u64 (f (22 + s_1.1)))))) = some (SV.o (SA.c (.v (Value.int .u64 (f (22 + s'.1)))))) ∧ some (SV.o (SA.c (.v (Value.int .i64 (↑s_1.1 : Int))))) = some (SV.o (SA.c (.v (Value.int .i64 (↑s'.1 : Int))))) ∧ some (SV.o (SA.c (.v (Value.int .i64 (↑s_1.1 : Int))))) = some (SV.o (SA.c (.v (Value.int .i64 (↑s'.1 : Int))))) ∧ some (SV.o (SA.c (SC.v (Value.int .i64 (IntKind.wrap .i64 ((↑s_1.2 : Int) + (1 : Int))))))) = some (SV.o (SA.c (.v (Value.int .i64 (↑s'.2 : Int))))) ∧ True) ∧ [SB.cells [Seg.ints (.int .u64) 32 f] 44] = [SB.cells [Seg.ints (.int .u64) 32 f] 44]) ∧ s'.1 = s0.1 ∧ s'.1 - s'.2 < s_1.1 - s_1.2 else ∃ (s' : RoG), ((some (SV.o (SA.c (.p 0 0))) = some (SV.o (SA.c (.p 0 0))) ∧ some (SV.o (SA.c (.v (Value.int .u64 (f 28))))) = some (SV.o (SA.c (.v (Value.int .u64 (f 28))))) ∧ some (SV.o (SA.c (SC.v (Value.int .i64 (IntKind.wrap .i64 ((↑s_1.1 : Int) + (1 : Int))))))) = some (SV.o (SA.c (.v (Value.int .i64 (↑s'.1 : Int))))) ∧ True) ∧ [SB.cells [Seg.ints (.int .u64) 32 f] 44] = [SB.cells [Seg.ints (.int .u64) 32 f] 44]) ∧ 4 - s'.1 < 4 - s.1 else bif f (Int.toNat (IntKind.wrap .i64 ((18 : Int) + (↑s.1 : Int)))) != (0 : Int) then endP conRRight [SA.a [Seg.ints (.int .u64) 32 f]] (SV.o (SA.c (.v (Value.bool false)))) [SB.cells [Seg.ints (.int .u64) 32 f] 44, SB.cells [Seg.one (.v (.int .i64 (0 : Int))), Seg.one (.v (.int .i64 (0 : Int)))] 32] else bif decide (f (Int.toNat (IntKind.wrap .i64 ((22 : Int) + (↑s.1 : Int)))) > f 28) then endP conRRight [SA.a [Seg.ints (.int .u64) 32 f]] (SV.o (SA.c (.v (Value.bool false)))) [SB.cells [Seg.ints (.int .u64) 32 f] 44, SB.cells [Seg.one (.v (.int .i64 (0 : Int))), Seg.one (.v (.int .i64 (0 : Int)))] 32] else bif bif (f (Int.toNat (IntKind.wrap .i64 ((18 : Int) + (↑s.1 : Int)))) == (0 : Int)) == (f (Int.toNat (IntKind.wrap .i64 ((22 : Int) + (↑s.1 : Int)))) == (0 : Int)) then false else true then endP conRRight [SA.a [Seg.ints (.int .u64) 32 f]] (SV.o (SA.c (.v (Value.bool false)))) [SB.cells [Seg.ints (.int .u64) 32 f] 44, SB.cells [Seg.one (.v (.int .i64 (0 : Int))), Seg.one (.v (.int .i64 (0 : Int)))] 32] else ∃ (s0 : RiG), ((some (SV.o (SA.c (.p 0 0))) = some (SV.o (SA.c (.p 0 0))) ∧ some (SV.o (SA.c (.v (Value.int .u64 (f 28))))) = some (SV.o (SA.c (.v (Value.int .u64 (f 28))))) ∧ some (SV.o (SA.c (SC.v (Value.int .u64 (f (Int.toNat (IntKind.wrap .i64 ((22 : Int) + (↑s.1 : Int))))))))) = some (SV.o (SA.c (.v (Value.int .u64 (f (22 + s0.1)))))) ∧ some (SV.o (SA.c (.v (Value.int .i64 (↑s.1 : Int))))) = some (SV.o (SA.c (.v (Value.int .i64 (↑s0.1 : Int))))) ∧ some (SV.o (SA.c (.v (Value.int .i64 (↑s.1 : Int))))) = some (SV.o (SA.c (.v (Value.int .i64 (↑s0.1 : Int))))) ∧ some (SV.o (SA.c (.v (Value.int .i64 (0 : Int))))) = some (SV.o (SA.c (.v (Value.int .i64 (↑s0.2 : Int))))) ∧ True) ∧ [SB.cells [Seg.ints (.int .u64) 32 f] 44] = [SB.cells [Seg.ints (.int .u64) 32 f] 44]) ∧ s0.1 = s0.1 ∧ ∀ (s_1 : RiG), s_1.1 = s0.1 → bif decide ((↑s_1.2 : Int) < (↑s_1.1 : Int)) then bif f (22 + s_1.1) != (0 : Int) then ((0 : Int) ≤ IntKind.wrap .i64 ((22 : Int) + (↑s_1.2 : Int)) ∧ IntKind.wrap .i64 ((22 : Int) + (↑s_1.2 : Int)) < (32 : Int)) ∧ Int.toNat (IntKind.wrap .i64 ((22 : Int) + (↑s_1.2 : Int))) < 32 ∧ bif f (Int.toNat (IntKind.wrap .i64 ((22 : Int) + (↑s_1.2 : Int)))) == f (22 + s_1.1) then endP conRRight [SA.a [Seg.ints (.int .u64) 32 f]] (SV.o (SA.c (.v (Value.bool false)))) [SB.cells [Seg.ints (.int .u64) 32 f] 44] else ∃ (s' : RiG), ((some (SV.o (SA.c (.p 0 0))) = some (SV.o (SA.c (.p 0 0))) ∧ some (SV.o (SA.c (.v (Value.int .u64 (f 28))))) = some (SV.o (SA.c (.v (Value.int .u64 (f 28))))) ∧ some (SV.o (SA.c (.v (Value.int .u64 (f (22 + s_1.1)))))) = some (SV.o (SA.c (.v (Value.int .u64 (f (22 + s'.1)))))) ∧ some (SV.o (SA.c (.v (Value.int .i64 (↑s_1.1 : Int))))) = some (SV.o (SA.c (.v (Value.int .i64 (↑s'.1 : Int))))) ∧ some (SV.o (SA.c (.v (Value.int .i64 (↑s_1.1 : Int))))) = some (SV.o (SA.c (.v (Value.int .i64 (↑s'.1 : Int))))) ∧ some (SV.o (SA.c (SC.v (Value.int .i64 (IntKind.wrap .i64 ((↑s_1.2 : Int) + (1 : Int))))))) = some (SV.o (SA.c (.v (Value.int .i64 (↑s'.2 : Int))))) ∧ True) ∧ [SB.cells [Seg.ints (.int .u64) 32 f] 44] = [SB.cells [Seg.ints (.int .u64) 32 f] 44]) ∧ s'.1 = s0.1 ∧ s'.1 - s'.2 < s_1.1 - s_1.2 else ∃ (s' : RiG), ((some (SV.o (SA.c (.p 0 0))) = some (SV.o (SA.c (.p 0 0))) ∧ some (SV.o (SA.c (.v (Value.int .u64 (f 28))))) = some (SV.o (SA.c (.v (Value.int .u64 (f 28))))) ∧ some (SV.o (SA.c (.v (Value.int .u64 (f (22 + s_1.1)))))) = some (SV.o (SA.c (.v (Value.int .u64 (f (22 + s'.1)))))) ∧ some (SV.o (SA.c (.v (Value.int .i64 (↑s_1.1 : Int))))) = some (SV.o (SA.c (.v (Value.int .i64 (↑s'.1 : Int))))) ∧ some (SV.o (SA.c (.v (Value.int .i64 (↑s_1.1 : Int))))) = some (SV.o (SA.c (.v (Value.int .i64 (↑s'.1 : Int))))) ∧ some (SV.o (SA.c (SC.v (Value.int .i64 (IntKind.wrap .i64 ((↑s_1.2 : Int) + (1 : Int))))))) = some (SV.o (SA.c (.v (Value.int .i64 (↑s'.2 : Int))))) ∧ True) ∧ [SB.cells [Seg.ints (.int .u64) 32 f] 44] = [SB.cells [Seg.ints (.int .u64) 32 f] 44]) ∧ s'.1 = s0.1 ∧ s'.1 - s'.2 < s_1.1 - s_1.2 else ∃ (s' : RoG), ((some (SV.o (SA.c (.p 0 0))) = some (SV.o (SA.c (.p 0 0))) ∧ some (SV.o (SA.c (.v (Value.int .u64 (f 28))))) = some (SV.o (SA.c (.v (Value.int .u64 (f 28))))) ∧ some (SV.o (SA.c (SC.v (Value.int .i64 (IntKind.wrap .i64 ((↑s_1.1 : Int) + (1 : Int))))))) = some (SV.o (SA.c (.v (Value.int .i64 (↑s'.1 : Int))))) ∧ True) ∧ [SB.cells [Seg.ints (.int .u64) 32 f] 44] = [SB.cells [Seg.ints (.int .u64) 32 f] 44]) ∧ 4 - s'.1 < 4 - s.1 else ((0 : Int) ≤ (29 : Int) ∧ (29 : Int) ≤ (32 : Int) ∧ (32 : Int) ≤ (32 : Int)) ∧ ((0 : Int) ≤ (0 : Int) ∧ (0 : Int) < (3 : Int)) ∧ 29 < 32 ∧ bif f 29 != (0 : Int) then endP conRRight [SA.a [Seg.ints (.int .u64) 32 f]] (SV.o (SA.c (.v (Value.bool false)))) [SB.cells [Seg.ints (.int .u64) 32 f] 44] else ((0 : Int) ≤ (1 : Int) ∧ (1 : Int) < (3 : Int)) ∧ 30 < 32 ∧ bif f 30 != (0 : Int) then endP conRRight [SA.a [Seg.ints (.int .u64) 32 f]] (SV.o (SA.c (.v (Value.bool false)))) [SB.cells [Seg.ints (.int .u64) 32 f] 44] else ((0 : Int) ≤ (2 : Int) ∧ (2 : Int) < (3 : Int)) ∧ 31 < 32 ∧ bif f 31 != (0 : Int) then endP conRRight [SA.a [Seg.ints (.int .u64) 32 f]] (SV.o (SA.c (.v (Value.bool false)))) [SB.cells [Seg.ints (.int .u64) 32 f] 44] else endP conRRight [SA.a [Seg.ints (.int .u64) 32 f]] (SV.o (SA.c (.v (Value.bool true)))) [SB.cells [Seg.ints (.int .u64) 32 f] 44]) (by kernel_rfl) ?_
  obtain ⟨t29, t30, t31⟩ := h.tail
  have hR := h.1
  have k1 := hR.k1
  have k6 := hR.k6
  have c1 := hR.c1
  have v1 := hR.v1
  have g0 := hR.g0
  have g1 := hR.g1
  rw [ofW_kind] at k1 k6
  rw [ofW_cnt] at c1
  rw [ofW_ver] at v1
  rw [ofW_tog] at g0 g1
  have hok : ObjOK (f 0) (toN 17 fun i => f (1 + i)) := hR.ok
  have hrv : rightV (f 0) (toN 17 fun i => f (1 + i)) = true := by
    unfold rightV
    cases h4 : (f 0 == 4)
    · rfl
    · have h4 := eq_of_beq h4
      obtain ⟨l, e, l6, -, hh⟩ := ObjForm.list (.inl hok) (by omega) (by omega)
      simp only [cond_true]
      rw [e, lstC_take]; exact (heapB_iff l).2 ⟨hh h4 hok, l6⟩
  have each (t : Nat) (ht : t < 4) : U64 (f (18 + t)) ∧ ((f (18 + t) = 0 ∧ f (22 + t) = 0) ∨ (ansOkB (f (18 + t) / 4294967296 % 4294967296) (f (18 + t) % 4294967296) = true ∧ f (18 + t) ≠ 0 ∧ 1 ≤ f (22 + t) ∧ f (22 + t) ≤ f 28)) := by
    have := hR.each t ht
    rw [ofW_ans f t ht, ofW_whn f t ht, ofW_cnt] at this
    rcases this with ⟨a, b⟩ | ⟨⟨c, v, hA, e⟩, b, d⟩
    · exact ⟨⟨by omega, by omega⟩, .inl ⟨a, b⟩⟩
    · have hw := ansW_c hA
      rw [← e] at hw
      exact ⟨⟨by omega, by omega⟩, .inr ⟨by rw [hw.1, hw.2.1]; exact (ansOkB_iff c v).2 hA, by omega, b, d⟩⟩
  have once (t u : Nat) (ht : t < 4) (hu : u < t) (hn : f (22 + t) ≠ 0) : f (22 + u) ≠ f (22 + t) := by
    have := hR.once t u ht hu
    rw [ofW_whn f t ht, ofW_whn f u (by omega)] at this
    exact this hn
  have wa (t : Nat) (ht : t < 4) : IntKind.wrap .i64 ((18 : Int) + (t : Int)) = ((18 + t : Nat) : Int) := by rw [wrapI (by omega) (by omega)]; omega
  have ww (t : Nat) (ht : t < 4) : IntKind.wrap .i64 ((22 : Int) + (t : Int)) = ((22 + t : Nat) : Int) := by rw [wrapI (by omega) (by omega)]; omega
  rw [toN_fL (toN_len 17 _), hrv, t29, t30, t31, show Int.fdiv (f 26) 16 = 0 by rw [Int.fdiv_eq_ediv_of_nonneg _ (by decide)]; omega]
  have hlast : ∀ (t : Nat), t < 4 → ∀ M, M = [recB f] → ∃ s' : RoG, ((some (SV.o (SA.c (.p 0 0))) = some (SV.o (SA.c (.p 0 0))) ∧ some (sv (.int .u64 (f 28))) = some (sv (.int .u64 (f 28))) ∧ some (sv (.int .i64 (IntKind.wrap .i64 ((t : Int) + 1)))) = some (sv (.int .i64 s'.t)) ∧ True) ∧ M = [recB f]) ∧ 4 - s'.t < 4 - t :=
    fun t ht M hM => ⟨⟨t + 1, by omega⟩, ⟨⟨rfl, rfl, svI (sucI (by omega)), trivial⟩, hM⟩, by dsimp only; omega⟩
  refine ⟨⟨by decide, by decide⟩, by decide, ⟨rfl, by omega, by omega⟩, rfl, ⟨rfl, .inl hok⟩, by_nb (fun h => by cases h) (fun _ => ⟨⟨by decide, by decide⟩, by decide, by decide, by_bne (fun h => absurd rfl h) (fun _ => by_dec (fun h => absurd h (by omega)) (fun _ => ⟨⟨by decide, by decide⟩, by decide, draw_of (by kernel_rfl), by_dec (fun h => absurd h (by omega)) (fun _ => ⟨⟨⟨0, by omega⟩, ⟨rfl, rfl, rfl, trivial⟩, rfl⟩, ?_⟩)⟩))⟩)⟩
  rintro ⟨t, ht⟩
  dsimp only
  refine by_dec (fun hlt => ?_) (fun _ => ⟨⟨by decide, by decide, by decide⟩, ⟨by decide, by decide⟩, by decide, by_bne (fun h => absurd rfl h) (fun _ => ⟨⟨by decide, by decide⟩, by decide, by_bne (fun h => absurd rfl h) (fun _ => ⟨⟨by decide, by decide⟩, by decide, by_bne (fun h => absurd rfl h) (fun _ => ⟨rfl, fun ρ => rfl⟩)⟩)⟩)⟩)
  have ht4 : t < 4 := by omega
  obtain ⟨hu, he⟩ := each t ht4
  rw [wa t ht4, ww t ht4, Int.toNat_natCast, Int.toNat_natCast]
  refine ⟨⟨by omega, by omega⟩, by omega, ⟨by omega, by omega⟩, by omega, draw_of (by kernel_rfl), hu, ?_⟩
  rcases he with ⟨a0, b0⟩ | ⟨ha, a0, b0, b1⟩
  · rw [a0, b0]
    refine by_cond (fun h => absurd h (by decide)) (fun _ => by_bne (fun h => absurd rfl h) (fun _ => by_dec (fun h => absurd h (by have := hR.c0; rw [ofW_cnt] at this; omega)) (fun _ => by_nb (fun h => by cases h) (fun _ => ?_))))
    refine ⟨⟨t, 0, ht4, by omega⟩, ⟨⟨rfl, rfl, by rw [b0], rfl, rfl, rfl, trivial⟩, rfl⟩, rfl, ?_⟩
    rintro ⟨t', u, ht', hu'⟩ (rfl : t' = t)
    dsimp only
    rw [b0]
    refine by_dec (fun hlt2 => by_bne (fun h => absurd rfl h) (fun _ => ?_)) (fun _ => hlast _ ht4 _ rfl)
    exact ⟨⟨t', u + 1, ht', by omega⟩, ⟨⟨rfl, rfl, by rw [b0], rfl, rfl, svI (sucI (by omega)), trivial⟩, rfl⟩, rfl, by dsimp only; omega⟩
  · refine by_cond (fun _ => ?_) (fun h => absurd (ha.symm.trans h) (by decide))
    refine by_dec (fun h => absurd h (by omega)) (fun _ => by_nb (fun h => ?_) (fun _ => ?_))
    · rw [show (f (18 + t) == 0) = false from beq_eq_false_iff_ne.2 a0, show (f (22 + t) == 0) = false from beq_eq_false_iff_ne.2 (by omega)] at h
      cases h
    refine ⟨⟨t, 0, ht4, by omega⟩, ⟨⟨rfl, rfl, rfl, rfl, rfl, rfl, trivial⟩, rfl⟩, rfl, ?_⟩
    rintro ⟨t', u, ht', hu'⟩ (rfl : t' = t)
    dsimp only
    refine by_dec (fun hlt2 => by_bne (fun _ => ?_) (fun h => absurd h (by omega))) (fun _ => hlast _ ht4 _ rfl)
    rw [ww u (by omega), Int.toNat_natCast]
    refine ⟨⟨by omega, by omega⟩, by omega, by_beq (fun h => absurd h (once t' u ht' (by omega) (by omega))) (fun _ => ?_)⟩
    exact ⟨⟨t', u + 1, ht', by omega⟩, ⟨⟨rfl, rfl, rfl, rfl, rfl, svI (sucI (by omega)), trivial⟩, rfl⟩, rfl, by dsimp only; omega⟩
/-- One more deed. -/
def conRDone : PCon := ⟨fun args => match args with
  | [.a [.ints (.int .u64) n f], .c (.v (.int .i64 t)), .a [.one (.v (.int .i64 k)), .one (.v (.int .i64 key)), .one (.v (.int .i64 x))]] => n = 32 ∧ RecW f ∧ 0 ≤ t ∧ t < 4
  | _ => False, fun args => match args with
  | [.a [.ints (.int .u64) n f], .c (.v (.int .i64 t)), .a [.one (.v (.int .i64 k)), .one (.v (.int .i64 key)), .one (.v (.int .i64 x))]] => .t [recA (fL ((Rec.ofW (toN 32 f)).done t.toNat k key x).words), nilE]
  | _ => sv undef, fun args => match args with
  | [.a [.ints (.int .u64) n f], .c (.v (.int .i64 t)), .a [.one (.v (.int .i64 k)), .one (.v (.int .i64 key)), .one (.v (.int .i64 x))]] => some (opOk k key x, .t [recA (fun _ => 0), errA 1])
  | _ => none⟩
theorem rdone_end (f g : Nat → Int) (T : Nat) (t k key x : Int) (ht : t.toNat = T) (ho : opOk k key x = true) (M : List SB) (hg : ∀ i, i < 32 → g i = fL ((Rec.ofW (toN 32 f)).done T k key x).words i) :
    endP conRDone [recA f, .c (.v (.int .i64 t)), opA k key x] (.t [recA g, .c (.v .nilIface)]) M := by
  refine ⟨rfl, fun ρ => ?_⟩
  subst ht
  simp only [PCon.out, conRDone, ho, cond_true, SV.den, List.map_cons, List.map_nil]
  rw [ints_congr hg]; rfl
theorem rdone_con : (Con.pure conRDone).holds Tryd.prog 51 := by
  refine pure_of_run2 (Γ := [(33, .pure conRRight), (58, .pure conRKind), (32, .pure conRObject), (12, .pure conDo), (75, .pure conAnswer), (76, .pure conFlip)]) Tryd.func51 rfl (by kernel_rfl) tabR_ok tabR_tys
    (fun W => .cons (rright_con W _) (.cons (rkind_con W _) (.cons (robject_con W _) (.cons (do_con W _) (.cons (answer_con W _) (.cons (flip_con W _) (.nil _ _ _))))))) conRDone (fun _ => []) 600 ?_
  intro W args hp
  unfold conRDone at hp; dsimp only at hp; split at hp
  case h_2 => exact hp.elim
  rename_i n f t k key x
  obtain ⟨rfl, h, h0, h4⟩ := hp
  refine ⟨rfl, ?_⟩
  have hR := h.1
  have k1 := hR.k1
  have k6 := hR.k6
  have c0 := hR.c0
  have c1 := hR.c1
  have g0 := hR.g0
  have g1 := hR.g1
  rw [ofW_kind] at k1 k6
  rw [ofW_cnt] at c0 c1
  rw [ofW_tog] at g0 g1
  have hok : ObjOK (f 0) (toN 17 fun i => f (1 + i)) := hR.ok
  have ht : t = 0 ∨ t = 1 ∨ t = 2 ∨ t = 3 := by omega
  rcases ht with rfl | rfl | rfl | rfl
  ·
    refine by_eq (q :=
        (32 = 32 ∧ RecW f) ∧ (32 = 32 ∧ (0 : Int) ≤ f 0 ∧ f 0 ≤ (6 : Int)) ∧ 32 = 32 ∧ (17 = 17 ∧ ObjOK (f 0) (toN 17 (fL (toN 17 fun (i : Nat) => f (1 + i))))) ∧ bif opOk k key x then drawP Tryd.f51 5 (regOps Tryd.f51 5) 3 [HX.mk 14 [] [] [] false, HX.mk 13 [] [4] [] false, HX.mk 12 [] [3] [] false, HX.mk 11 [] [4] [4] false, HX.mk 10 [] [3] [3] false, HX.mk 9 [] [] [] false, HX.mk 8 [] [] [] false, HX.mk 7 [] [] [] false, HX.mk 6 [] [] [] false, HX.mk 5 [] [] [] false, HX.mk 4 [1] [] [] false, HX.mk 3 [] [] [] false, HX.mk 2 [0] [] [] false, HX.mk 1 [] [] [] false, HX.mk 0 [0] [] [] false] ∧ ((0 : Int) ≤ (1 : Int) ∧ (1 : Int) ≤ (32 : Int) ∧ (32 : Int) ≤ (32 : Int)) ∧ ((0 : Int) ≤ (0 : Int) ∧ (0 : Int) ≤ (17 : Int) ∧ (17 : Int) ≤ (17 : Int)) ∧ drawP Tryd.f51 8 (regOps Tryd.f51 8) 5 [HX.mk 2 [3] [0] [] false, HX.mk 1 [] [] [3] false, HX.mk 0 [] [] [0] false] ∧ AnsOK (Prod.snd (objR (f 0) (toN 17 (fL (toN 17 fun (i : Nat) => f (1 + i)))) k key x)).1 (Prod.snd (objR (f 0) (toN 17 (fL (toN 17 fun (i : Nat) => f (1 + i)))) k key x)).2 ∧ ((0 : Int) ≤ (18 : Int) ∧ (18 : Int) < (32 : Int)) ∧ 18 < 32 ∧ ((0 : Int) ≤ (28 : Int) ∧ (28 : Int) < (32 : Int)) ∧ 28 < 32 ∧ ((0 : Int) ≤ (28 : Int) ∧ (28 : Int) < (32 : Int)) ∧ 28 < 32 ∧ ((0 : Int) ≤ (28 : Int) ∧ (28 : Int) < (32 : Int)) ∧ 28 < 32 ∧ ((0 : Int) ≤ (22 : Int) ∧ (22 : Int) < (32 : Int)) ∧ 22 < 32 ∧ ((0 : Int) ≤ (26 : Int) ∧ (26 : Int) < (32 : Int)) ∧ 26 < 32 ∧ U64 (f 26) ∧ ((0 : Int) ≤ (26 : Int) ∧ (26 : Int) < (32 : Int)) ∧ 26 < 32 ∧ endP conRDone [SA.a [Seg.ints (.int .u64) 32 f], SA.c (.v (Value.int .i64 (0 : Int))), SA.a [Seg.one (.v (.int .i64 k)), Seg.one (.v (.int .i64 key)), Seg.one (.v (.int .i64 x))]] (SV.t [SA.a [Seg.ints (.int .u64) 32 fun (i : Nat) => bif Nat.beq i 26 then flipZ (f 26) (0 : Int) else bif Nat.beq i 22 then IntKind.wrap .u64 (f 28 + (1 : Int)) else bif Nat.beq i 28 then IntKind.wrap .u64 (f 28 + (1 : Int)) else bif Nat.beq i 18 then ansW (Prod.snd (objR (f 0) (toN 17 (fL (toN 17 fun (i : Nat) => f (1 + i)))) k key x)).1 (Prod.snd (objR (f 0) (toN 17 (fL (toN 17 fun (i : Nat) => f (1 + i)))) k key x)).2 else bif match Nat.ble 1 i with | false => false | true => Nat.ble i 17 then fL (objR (f 0) (toN 17 (fL (toN 17 fun (i : Nat) => f (1 + i)))) k key x).1 (match i with | 0 => 0 | Nat.succ a => a) else f i], SA.c (.v Value.nilIface)]) [SB.cells [Seg.ints (.int .u64) 32 fun (i : Nat) => bif Nat.beq i 26 then flipZ (f 26) (0 : Int) else bif Nat.beq i 22 then IntKind.wrap .u64 (f 28 + (1 : Int)) else bif Nat.beq i 28 then IntKind.wrap .u64 (f 28 + (1 : Int)) else bif Nat.beq i 18 then ansW (Prod.snd (objR (f 0) (toN 17 (fL (toN 17 fun (i : Nat) => f (1 + i)))) k key x)).1 (Prod.snd (objR (f 0) (toN 17 (fL (toN 17 fun (i : Nat) => f (1 + i)))) k key x)).2 else bif match Nat.ble 1 i with | false => false | true => Nat.ble i 17 then fL (objR (f 0) (toN 17 (fL (toN 17 fun (i : Nat) => f (1 + i)))) k key x).1 (match i with | 0 => 0 | Nat.succ a => a) else f i] 44, SB.cells [Seg.one (.v (.int .i64 k)), Seg.one (.v (.int .i64 key)), Seg.one (.v (.int .i64 x))] 30, SB.cells [Seg.ints (.int .u64) 32 fun (i : Nat) => bif Nat.beq i 26 then flipZ (f 26) (0 : Int) else bif Nat.beq i 22 then IntKind.wrap .u64 (f 28 + (1 : Int)) else bif Nat.beq i 28 then IntKind.wrap .u64 (f 28 + (1 : Int)) else bif Nat.beq i 18 then ansW (Prod.snd (objR (f 0) (toN 17 (fL (toN 17 fun (i : Nat) => f (1 + i)))) k key x)).1 (Prod.snd (objR (f 0) (toN 17 (fL (toN 17 fun (i : Nat) => f (1 + i)))) k key x)).2 else bif match Nat.ble 1 i with | false => false | true => Nat.ble i 17 then fL (objR (f 0) (toN 17 (fL (toN 17 fun (i : Nat) => f (1 + i)))) k key x).1 (match i with | 0 => 0 | Nat.succ a => a) else f i] 44, SB.cells [Seg.ints (.int .u64) 17 (fL (objR (f 0) (toN 17 (fL (toN 17 fun (i : Nat) => f (1 + i)))) k key x).1)] 27, SB.cells [Seg.one (SC.v (Value.int .i64 (Prod.snd (objR (f 0) (toN 17 (fL (toN 17 fun (i : Nat) => f (1 + i)))) k key x)).1)), Seg.one (SC.v (Value.int .i64 (Prod.snd (objR (f 0) (toN 17 (fL (toN 17 fun (i : Nat) => f (1 + i)))) k key x)).2))] 32] else drawP Tryd.f51 5 (regOps Tryd.f51 5) 3 [HX.mk 14 [] [] [] false, HX.mk 13 [] [4] [] false, HX.mk 12 [] [3] [] false, HX.mk 11 [] [4] [4] false, HX.mk 10 [] [3] [3] false, HX.mk 9 [] [] [] false, HX.mk 8 [] [] [] false, HX.mk 7 [] [] [] false, HX.mk 6 [] [] [] false, HX.mk 5 [] [] [] false, HX.mk 4 [1] [] [] false, HX.mk 3 [] [] [] false, HX.mk 2 [0] [] [] false, HX.mk 1 [] [] [] false, HX.mk 0 [0] [] [] false] ∧ endP conRDone [SA.a [Seg.ints (.int .u64) 32 f], SA.c (.v (Value.int .i64 (0 : Int))), SA.a [Seg.one (.v (.int .i64 k)), Seg.one (.v (.int .i64 key)), Seg.one (.v (.int .i64 x))]] (SV.t [SA.a [Seg.ints (.int .u64) 32 fun (x : Nat) => (0 : Int)], SA.c (.v (Value.iface 73 (Value.int .i64 (1 : Int))))]) [SB.cells [Seg.ints (.int .u64) 32 f] 44, SB.cells [Seg.one (.v (.int .i64 k)), Seg.one (.v (.int .i64 key)), Seg.one (.v (.int .i64 x))] 30, SB.cells [Seg.ints (.int .u64) 32 fun (x : Nat) => (0 : Int)] 44, SB.cells [Seg.ints (.int .u64) 17 fun (x : Nat) => (0 : Int)] 27, SB.cells [Seg.one (.v (.int .i64 (0 : Int))), Seg.one (.v (.int .i64 (0 : Int)))] 32]) (by kernel_rfl) ?_
    refine ⟨⟨rfl, h⟩, ⟨rfl, by omega, by omega⟩, rfl, ⟨rfl, by rw [toN_fL (toN_len 17 _)]; exact hok⟩, ?_⟩
    rw [toN_fL (toN_len 17 _)]
    refine by_cond (fun ho => ?_) (fun ho => ⟨draw_of (by kernel_rfl), rfl, fun ρ => ?_⟩)
    · have hA := (obj_law hok k key x ho).1
      rw [wrapU (x := f 28 + 1) (by omega) (by omega)]
      refine ⟨draw_of (by kernel_rfl), ⟨by decide, by decide, by decide⟩, ⟨by decide, by decide, by decide⟩, draw_of (by kernel_rfl), hA, ?_⟩
      repeat (first | refine ⟨by decide, ?_⟩ | refine ⟨⟨g0, by omega⟩, ?_⟩)
      exact rdone_end f _ 0 0 k key x rfl ho _ (fun i hi => done_get h 0 (by decide) k key x ho i hi)
    · simp only [PCon.out, conRDone, ho, cond_false]
  ·
    refine by_eq (q :=
        (32 = 32 ∧ RecW f) ∧ (32 = 32 ∧ (0 : Int) ≤ f 0 ∧ f 0 ≤ (6 : Int)) ∧ 32 = 32 ∧ (17 = 17 ∧ ObjOK (f 0) (toN 17 (fL (toN 17 fun (i : Nat) => f (1 + i))))) ∧ bif opOk k key x then drawP Tryd.f51 5 (regOps Tryd.f51 5) 3 [HX.mk 14 [] [] [] false, HX.mk 13 [] [4] [] false, HX.mk 12 [] [3] [] false, HX.mk 11 [] [4] [4] false, HX.mk 10 [] [3] [3] false, HX.mk 9 [] [] [] false, HX.mk 8 [] [] [] false, HX.mk 7 [] [] [] false, HX.mk 6 [] [] [] false, HX.mk 5 [] [] [] false, HX.mk 4 [1] [] [] false, HX.mk 3 [] [] [] false, HX.mk 2 [0] [] [] false, HX.mk 1 [] [] [] false, HX.mk 0 [0] [] [] false] ∧ ((0 : Int) ≤ (1 : Int) ∧ (1 : Int) ≤ (32 : Int) ∧ (32 : Int) ≤ (32 : Int)) ∧ ((0 : Int) ≤ (0 : Int) ∧ (0 : Int) ≤ (17 : Int) ∧ (17 : Int) ≤ (17 : Int)) ∧ drawP Tryd.f51 8 (regOps Tryd.f51 8) 5 [HX.mk 2 [3] [0] [] false, HX.mk 1 [] [] [3] false, HX.mk 0 [] [] [0] false] ∧ AnsOK (Prod.snd (objR (f 0) (toN 17 (fL (toN 17 fun (i : Nat) => f (1 + i)))) k key x)).1 (Prod.snd (objR (f 0) (toN 17 (fL (toN 17 fun (i : Nat) => f (1 + i)))) k key x)).2 ∧ ((0 : Int) ≤ (19 : Int) ∧ (19 : Int) < (32 : Int)) ∧ 19 < 32 ∧ ((0 : Int) ≤ (28 : Int) ∧ (28 : Int) < (32 : Int)) ∧ 28 < 32 ∧ ((0 : Int) ≤ (28 : Int) ∧ (28 : Int) < (32 : Int)) ∧ 28 < 32 ∧ ((0 : Int) ≤ (28 : Int) ∧ (28 : Int) < (32 : Int)) ∧ 28 < 32 ∧ ((0 : Int) ≤ (23 : Int) ∧ (23 : Int) < (32 : Int)) ∧ 23 < 32 ∧ ((0 : Int) ≤ (26 : Int) ∧ (26 : Int) < (32 : Int)) ∧ 26 < 32 ∧ U64 (f 26) ∧ ((0 : Int) ≤ (26 : Int) ∧ (26 : Int) < (32 : Int)) ∧ 26 < 32 ∧ endP conRDone [SA.a [Seg.ints (.int .u64) 32 f], SA.c (.v (Value.int .i64 (1 : Int))), SA.a [Seg.one (.v (.int .i64 k)), Seg.one (.v (.int .i64 key)), Seg.one (.v (.int .i64 x))]] (SV.t [SA.a [Seg.ints (.int .u64) 32 fun (i : Nat) => bif Nat.beq i 26 then flipZ (f 26) (1 : Int) else bif Nat.beq i 23 then IntKind.wrap .u64 (f 28 + (1 : Int)) else bif Nat.beq i 28 then IntKind.wrap .u64 (f 28 + (1 : Int)) else bif Nat.beq i 19 then ansW (Prod.snd (objR (f 0) (toN 17 (fL (toN 17 fun (i : Nat) => f (1 + i)))) k key x)).1 (Prod.snd (objR (f 0) (toN 17 (fL (toN 17 fun (i : Nat) => f (1 + i)))) k key x)).2 else bif match Nat.ble 1 i with | false => false | true => Nat.ble i 17 then fL (objR (f 0) (toN 17 (fL (toN 17 fun (i : Nat) => f (1 + i)))) k key x).1 (match i with | 0 => 0 | Nat.succ a => a) else f i], SA.c (.v Value.nilIface)]) [SB.cells [Seg.ints (.int .u64) 32 fun (i : Nat) => bif Nat.beq i 26 then flipZ (f 26) (1 : Int) else bif Nat.beq i 23 then IntKind.wrap .u64 (f 28 + (1 : Int)) else bif Nat.beq i 28 then IntKind.wrap .u64 (f 28 + (1 : Int)) else bif Nat.beq i 19 then ansW (Prod.snd (objR (f 0) (toN 17 (fL (toN 17 fun (i : Nat) => f (1 + i)))) k key x)).1 (Prod.snd (objR (f 0) (toN 17 (fL (toN 17 fun (i : Nat) => f (1 + i)))) k key x)).2 else bif match Nat.ble 1 i with | false => false | true => Nat.ble i 17 then fL (objR (f 0) (toN 17 (fL (toN 17 fun (i : Nat) => f (1 + i)))) k key x).1 (match i with | 0 => 0 | Nat.succ a => a) else f i] 44, SB.cells [Seg.one (.v (.int .i64 k)), Seg.one (.v (.int .i64 key)), Seg.one (.v (.int .i64 x))] 30, SB.cells [Seg.ints (.int .u64) 32 fun (i : Nat) => bif Nat.beq i 26 then flipZ (f 26) (1 : Int) else bif Nat.beq i 23 then IntKind.wrap .u64 (f 28 + (1 : Int)) else bif Nat.beq i 28 then IntKind.wrap .u64 (f 28 + (1 : Int)) else bif Nat.beq i 19 then ansW (Prod.snd (objR (f 0) (toN 17 (fL (toN 17 fun (i : Nat) => f (1 + i)))) k key x)).1 (Prod.snd (objR (f 0) (toN 17 (fL (toN 17 fun (i : Nat) => f (1 + i)))) k key x)).2 else bif match Nat.ble 1 i with | false => false | true => Nat.ble i 17 then fL (objR (f 0) (toN 17 (fL (toN 17 fun (i : Nat) => f (1 + i)))) k key x).1 (match i with | 0 => 0 | Nat.succ a => a) else f i] 44, SB.cells [Seg.ints (.int .u64) 17 (fL (objR (f 0) (toN 17 (fL (toN 17 fun (i : Nat) => f (1 + i)))) k key x).1)] 27, SB.cells [Seg.one (SC.v (Value.int .i64 (Prod.snd (objR (f 0) (toN 17 (fL (toN 17 fun (i : Nat) => f (1 + i)))) k key x)).1)), Seg.one (SC.v (Value.int .i64 (Prod.snd (objR (f 0) (toN 17 (fL (toN 17 fun (i : Nat) => f (1 + i)))) k key x)).2))] 32] else drawP Tryd.f51 5 (regOps Tryd.f51 5) 3 [HX.mk 14 [] [] [] false, HX.mk 13 [] [4] [] false, HX.mk 12 [] [3] [] false, HX.mk 11 [] [4] [4] false, HX.mk 10 [] [3] [3] false, HX.mk 9 [] [] [] false, HX.mk 8 [] [] [] false, HX.mk 7 [] [] [] false, HX.mk 6 [] [] [] false, HX.mk 5 [] [] [] false, HX.mk 4 [1] [] [] false, HX.mk 3 [] [] [] false, HX.mk 2 [0] [] [] false, HX.mk 1 [] [] [] false, HX.mk 0 [0] [] [] false] ∧ endP conRDone [SA.a [Seg.ints (.int .u64) 32 f], SA.c (.v (Value.int .i64 (1 : Int))), SA.a [Seg.one (.v (.int .i64 k)), Seg.one (.v (.int .i64 key)), Seg.one (.v (.int .i64 x))]] (SV.t [SA.a [Seg.ints (.int .u64) 32 fun (x : Nat) => (0 : Int)], SA.c (.v (Value.iface 73 (Value.int .i64 (1 : Int))))]) [SB.cells [Seg.ints (.int .u64) 32 f] 44, SB.cells [Seg.one (.v (.int .i64 k)), Seg.one (.v (.int .i64 key)), Seg.one (.v (.int .i64 x))] 30, SB.cells [Seg.ints (.int .u64) 32 fun (x : Nat) => (0 : Int)] 44, SB.cells [Seg.ints (.int .u64) 17 fun (x : Nat) => (0 : Int)] 27, SB.cells [Seg.one (.v (.int .i64 (0 : Int))), Seg.one (.v (.int .i64 (0 : Int)))] 32]) (by kernel_rfl) ?_
    refine ⟨⟨rfl, h⟩, ⟨rfl, by omega, by omega⟩, rfl, ⟨rfl, by rw [toN_fL (toN_len 17 _)]; exact hok⟩, ?_⟩
    rw [toN_fL (toN_len 17 _)]
    refine by_cond (fun ho => ?_) (fun ho => ⟨draw_of (by kernel_rfl), rfl, fun ρ => ?_⟩)
    · have hA := (obj_law hok k key x ho).1
      rw [wrapU (x := f 28 + 1) (by omega) (by omega)]
      refine ⟨draw_of (by kernel_rfl), ⟨by decide, by decide, by decide⟩, ⟨by decide, by decide, by decide⟩, draw_of (by kernel_rfl), hA, ?_⟩
      repeat (first | refine ⟨by decide, ?_⟩ | refine ⟨⟨g0, by omega⟩, ?_⟩)
      exact rdone_end f _ 1 1 k key x rfl ho _ (fun i hi => done_get h 1 (by decide) k key x ho i hi)
    · simp only [PCon.out, conRDone, ho, cond_false]
  ·
    refine by_eq (q :=
        (32 = 32 ∧ RecW f) ∧ (32 = 32 ∧ (0 : Int) ≤ f 0 ∧ f 0 ≤ (6 : Int)) ∧ 32 = 32 ∧ (17 = 17 ∧ ObjOK (f 0) (toN 17 (fL (toN 17 fun (i : Nat) => f (1 + i))))) ∧ bif opOk k key x then drawP Tryd.f51 5 (regOps Tryd.f51 5) 3 [HX.mk 14 [] [] [] false, HX.mk 13 [] [4] [] false, HX.mk 12 [] [3] [] false, HX.mk 11 [] [4] [4] false, HX.mk 10 [] [3] [3] false, HX.mk 9 [] [] [] false, HX.mk 8 [] [] [] false, HX.mk 7 [] [] [] false, HX.mk 6 [] [] [] false, HX.mk 5 [] [] [] false, HX.mk 4 [1] [] [] false, HX.mk 3 [] [] [] false, HX.mk 2 [0] [] [] false, HX.mk 1 [] [] [] false, HX.mk 0 [0] [] [] false] ∧ ((0 : Int) ≤ (1 : Int) ∧ (1 : Int) ≤ (32 : Int) ∧ (32 : Int) ≤ (32 : Int)) ∧ ((0 : Int) ≤ (0 : Int) ∧ (0 : Int) ≤ (17 : Int) ∧ (17 : Int) ≤ (17 : Int)) ∧ drawP Tryd.f51 8 (regOps Tryd.f51 8) 5 [HX.mk 2 [3] [0] [] false, HX.mk 1 [] [] [3] false, HX.mk 0 [] [] [0] false] ∧ AnsOK (Prod.snd (objR (f 0) (toN 17 (fL (toN 17 fun (i : Nat) => f (1 + i)))) k key x)).1 (Prod.snd (objR (f 0) (toN 17 (fL (toN 17 fun (i : Nat) => f (1 + i)))) k key x)).2 ∧ ((0 : Int) ≤ (20 : Int) ∧ (20 : Int) < (32 : Int)) ∧ 20 < 32 ∧ ((0 : Int) ≤ (28 : Int) ∧ (28 : Int) < (32 : Int)) ∧ 28 < 32 ∧ ((0 : Int) ≤ (28 : Int) ∧ (28 : Int) < (32 : Int)) ∧ 28 < 32 ∧ ((0 : Int) ≤ (28 : Int) ∧ (28 : Int) < (32 : Int)) ∧ 28 < 32 ∧ ((0 : Int) ≤ (24 : Int) ∧ (24 : Int) < (32 : Int)) ∧ 24 < 32 ∧ ((0 : Int) ≤ (26 : Int) ∧ (26 : Int) < (32 : Int)) ∧ 26 < 32 ∧ U64 (f 26) ∧ ((0 : Int) ≤ (26 : Int) ∧ (26 : Int) < (32 : Int)) ∧ 26 < 32 ∧ endP conRDone [SA.a [Seg.ints (.int .u64) 32 f], SA.c (.v (Value.int .i64 (2 : Int))), SA.a [Seg.one (.v (.int .i64 k)), Seg.one (.v (.int .i64 key)), Seg.one (.v (.int .i64 x))]] (SV.t [SA.a [Seg.ints (.int .u64) 32 fun (i : Nat) => bif Nat.beq i 26 then flipZ (f 26) (2 : Int) else bif Nat.beq i 24 then IntKind.wrap .u64 (f 28 + (1 : Int)) else bif Nat.beq i 28 then IntKind.wrap .u64 (f 28 + (1 : Int)) else bif Nat.beq i 20 then ansW (Prod.snd (objR (f 0) (toN 17 (fL (toN 17 fun (i : Nat) => f (1 + i)))) k key x)).1 (Prod.snd (objR (f 0) (toN 17 (fL (toN 17 fun (i : Nat) => f (1 + i)))) k key x)).2 else bif match Nat.ble 1 i with | false => false | true => Nat.ble i 17 then fL (objR (f 0) (toN 17 (fL (toN 17 fun (i : Nat) => f (1 + i)))) k key x).1 (match i with | 0 => 0 | Nat.succ a => a) else f i], SA.c (.v Value.nilIface)]) [SB.cells [Seg.ints (.int .u64) 32 fun (i : Nat) => bif Nat.beq i 26 then flipZ (f 26) (2 : Int) else bif Nat.beq i 24 then IntKind.wrap .u64 (f 28 + (1 : Int)) else bif Nat.beq i 28 then IntKind.wrap .u64 (f 28 + (1 : Int)) else bif Nat.beq i 20 then ansW (Prod.snd (objR (f 0) (toN 17 (fL (toN 17 fun (i : Nat) => f (1 + i)))) k key x)).1 (Prod.snd (objR (f 0) (toN 17 (fL (toN 17 fun (i : Nat) => f (1 + i)))) k key x)).2 else bif match Nat.ble 1 i with | false => false | true => Nat.ble i 17 then fL (objR (f 0) (toN 17 (fL (toN 17 fun (i : Nat) => f (1 + i)))) k key x).1 (match i with | 0 => 0 | Nat.succ a => a) else f i] 44, SB.cells [Seg.one (.v (.int .i64 k)), Seg.one (.v (.int .i64 key)), Seg.one (.v (.int .i64 x))] 30, SB.cells [Seg.ints (.int .u64) 32 fun (i : Nat) => bif Nat.beq i 26 then flipZ (f 26) (2 : Int) else bif Nat.beq i 24 then IntKind.wrap .u64 (f 28 + (1 : Int)) else bif Nat.beq i 28 then IntKind.wrap .u64 (f 28 + (1 : Int)) else bif Nat.beq i 20 then ansW (Prod.snd (objR (f 0) (toN 17 (fL (toN 17 fun (i : Nat) => f (1 + i)))) k key x)).1 (Prod.snd (objR (f 0) (toN 17 (fL (toN 17 fun (i : Nat) => f (1 + i)))) k key x)).2 else bif match Nat.ble 1 i with | false => false | true => Nat.ble i 17 then fL (objR (f 0) (toN 17 (fL (toN 17 fun (i : Nat) => f (1 + i)))) k key x).1 (match i with | 0 => 0 | Nat.succ a => a) else f i] 44, SB.cells [Seg.ints (.int .u64) 17 (fL (objR (f 0) (toN 17 (fL (toN 17 fun (i : Nat) => f (1 + i)))) k key x).1)] 27, SB.cells [Seg.one (SC.v (Value.int .i64 (Prod.snd (objR (f 0) (toN 17 (fL (toN 17 fun (i : Nat) => f (1 + i)))) k key x)).1)), Seg.one (SC.v (Value.int .i64 (Prod.snd (objR (f 0) (toN 17 (fL (toN 17 fun (i : Nat) => f (1 + i)))) k key x)).2))] 32] else drawP Tryd.f51 5 (regOps Tryd.f51 5) 3 [HX.mk 14 [] [] [] false, HX.mk 13 [] [4] [] false, HX.mk 12 [] [3] [] false, HX.mk 11 [] [4] [4] false, HX.mk 10 [] [3] [3] false, HX.mk 9 [] [] [] false, HX.mk 8 [] [] [] false, HX.mk 7 [] [] [] false, HX.mk 6 [] [] [] false, HX.mk 5 [] [] [] false, HX.mk 4 [1] [] [] false, HX.mk 3 [] [] [] false, HX.mk 2 [0] [] [] false, HX.mk 1 [] [] [] false, HX.mk 0 [0] [] [] false] ∧ endP conRDone [SA.a [Seg.ints (.int .u64) 32 f], SA.c (.v (Value.int .i64 (2 : Int))), SA.a [Seg.one (.v (.int .i64 k)), Seg.one (.v (.int .i64 key)), Seg.one (.v (.int .i64 x))]] (SV.t [SA.a [Seg.ints (.int .u64) 32 fun (x : Nat) => (0 : Int)], SA.c (.v (Value.iface 73 (Value.int .i64 (1 : Int))))]) [SB.cells [Seg.ints (.int .u64) 32 f] 44, SB.cells [Seg.one (.v (.int .i64 k)), Seg.one (.v (.int .i64 key)), Seg.one (.v (.int .i64 x))] 30, SB.cells [Seg.ints (.int .u64) 32 fun (x : Nat) => (0 : Int)] 44, SB.cells [Seg.ints (.int .u64) 17 fun (x : Nat) => (0 : Int)] 27, SB.cells [Seg.one (.v (.int .i64 (0 : Int))), Seg.one (.v (.int .i64 (0 : Int)))] 32]) (by kernel_rfl) ?_
    refine ⟨⟨rfl, h⟩, ⟨rfl, by omega, by omega⟩, rfl, ⟨rfl, by rw [toN_fL (toN_len 17 _)]; exact hok⟩, ?_⟩
    rw [toN_fL (toN_len 17 _)]
    refine by_cond (fun ho => ?_) (fun ho => ⟨draw_of (by kernel_rfl), rfl, fun ρ => ?_⟩)
    · have hA := (obj_law hok k key x ho).1
      rw [wrapU (x := f 28 + 1) (by omega) (by omega)]
      refine ⟨draw_of (by kernel_rfl), ⟨by decide, by decide, by decide⟩, ⟨by decide, by decide, by decide⟩, draw_of (by kernel_rfl), hA, ?_⟩
      repeat (first | refine ⟨by decide, ?_⟩ | refine ⟨⟨g0, by omega⟩, ?_⟩)
      exact rdone_end f _ 2 2 k key x rfl ho _ (fun i hi => done_get h 2 (by decide) k key x ho i hi)
    · simp only [PCon.out, conRDone, ho, cond_false]
  ·
    refine by_eq (q :=
        (32 = 32 ∧ RecW f) ∧ (32 = 32 ∧ (0 : Int) ≤ f 0 ∧ f 0 ≤ (6 : Int)) ∧ 32 = 32 ∧ (17 = 17 ∧ ObjOK (f 0) (toN 17 (fL (toN 17 fun (i : Nat) => f (1 + i))))) ∧ bif opOk k key x then drawP Tryd.f51 5 (regOps Tryd.f51 5) 3 [HX.mk 14 [] [] [] false, HX.mk 13 [] [4] [] false, HX.mk 12 [] [3] [] false, HX.mk 11 [] [4] [4] false, HX.mk 10 [] [3] [3] false, HX.mk 9 [] [] [] false, HX.mk 8 [] [] [] false, HX.mk 7 [] [] [] false, HX.mk 6 [] [] [] false, HX.mk 5 [] [] [] false, HX.mk 4 [1] [] [] false, HX.mk 3 [] [] [] false, HX.mk 2 [0] [] [] false, HX.mk 1 [] [] [] false, HX.mk 0 [0] [] [] false] ∧ ((0 : Int) ≤ (1 : Int) ∧ (1 : Int) ≤ (32 : Int) ∧ (32 : Int) ≤ (32 : Int)) ∧ ((0 : Int) ≤ (0 : Int) ∧ (0 : Int) ≤ (17 : Int) ∧ (17 : Int) ≤ (17 : Int)) ∧ drawP Tryd.f51 8 (regOps Tryd.f51 8) 5 [HX.mk 2 [3] [0] [] false, HX.mk 1 [] [] [3] false, HX.mk 0 [] [] [0] false] ∧ AnsOK (Prod.snd (objR (f 0) (toN 17 (fL (toN 17 fun (i : Nat) => f (1 + i)))) k key x)).1 (Prod.snd (objR (f 0) (toN 17 (fL (toN 17 fun (i : Nat) => f (1 + i)))) k key x)).2 ∧ ((0 : Int) ≤ (21 : Int) ∧ (21 : Int) < (32 : Int)) ∧ 21 < 32 ∧ ((0 : Int) ≤ (28 : Int) ∧ (28 : Int) < (32 : Int)) ∧ 28 < 32 ∧ ((0 : Int) ≤ (28 : Int) ∧ (28 : Int) < (32 : Int)) ∧ 28 < 32 ∧ ((0 : Int) ≤ (28 : Int) ∧ (28 : Int) < (32 : Int)) ∧ 28 < 32 ∧ ((0 : Int) ≤ (25 : Int) ∧ (25 : Int) < (32 : Int)) ∧ 25 < 32 ∧ ((0 : Int) ≤ (26 : Int) ∧ (26 : Int) < (32 : Int)) ∧ 26 < 32 ∧ U64 (f 26) ∧ ((0 : Int) ≤ (26 : Int) ∧ (26 : Int) < (32 : Int)) ∧ 26 < 32 ∧ endP conRDone [SA.a [Seg.ints (.int .u64) 32 f], SA.c (.v (Value.int .i64 (3 : Int))), SA.a [Seg.one (.v (.int .i64 k)), Seg.one (.v (.int .i64 key)), Seg.one (.v (.int .i64 x))]] (SV.t [SA.a [Seg.ints (.int .u64) 32 fun (i : Nat) => bif Nat.beq i 26 then flipZ (f 26) (3 : Int) else bif Nat.beq i 25 then IntKind.wrap .u64 (f 28 + (1 : Int)) else bif Nat.beq i 28 then IntKind.wrap .u64 (f 28 + (1 : Int)) else bif Nat.beq i 21 then ansW (Prod.snd (objR (f 0) (toN 17 (fL (toN 17 fun (i : Nat) => f (1 + i)))) k key x)).1 (Prod.snd (objR (f 0) (toN 17 (fL (toN 17 fun (i : Nat) => f (1 + i)))) k key x)).2 else bif match Nat.ble 1 i with | false => false | true => Nat.ble i 17 then fL (objR (f 0) (toN 17 (fL (toN 17 fun (i : Nat) => f (1 + i)))) k key x).1 (match i with | 0 => 0 | Nat.succ a => a) else f i], SA.c (.v Value.nilIface)]) [SB.cells [Seg.ints (.int .u64) 32 fun (i : Nat) => bif Nat.beq i 26 then flipZ (f 26) (3 : Int) else bif Nat.beq i 25 then IntKind.wrap .u64 (f 28 + (1 : Int)) else bif Nat.beq i 28 then IntKind.wrap .u64 (f 28 + (1 : Int)) else bif Nat.beq i 21 then ansW (Prod.snd (objR (f 0) (toN 17 (fL (toN 17 fun (i : Nat) => f (1 + i)))) k key x)).1 (Prod.snd (objR (f 0) (toN 17 (fL (toN 17 fun (i : Nat) => f (1 + i)))) k key x)).2 else bif match Nat.ble 1 i with | false => false | true => Nat.ble i 17 then fL (objR (f 0) (toN 17 (fL (toN 17 fun (i : Nat) => f (1 + i)))) k key x).1 (match i with | 0 => 0 | Nat.succ a => a) else f i] 44, SB.cells [Seg.one (.v (.int .i64 k)), Seg.one (.v (.int .i64 key)), Seg.one (.v (.int .i64 x))] 30, SB.cells [Seg.ints (.int .u64) 32 fun (i : Nat) => bif Nat.beq i 26 then flipZ (f 26) (3 : Int) else bif Nat.beq i 25 then IntKind.wrap .u64 (f 28 + (1 : Int)) else bif Nat.beq i 28 then IntKind.wrap .u64 (f 28 + (1 : Int)) else bif Nat.beq i 21 then ansW (Prod.snd (objR (f 0) (toN 17 (fL (toN 17 fun (i : Nat) => f (1 + i)))) k key x)).1 (Prod.snd (objR (f 0) (toN 17 (fL (toN 17 fun (i : Nat) => f (1 + i)))) k key x)).2 else bif match Nat.ble 1 i with | false => false | true => Nat.ble i 17 then fL (objR (f 0) (toN 17 (fL (toN 17 fun (i : Nat) => f (1 + i)))) k key x).1 (match i with | 0 => 0 | Nat.succ a => a) else f i] 44, SB.cells [Seg.ints (.int .u64) 17 (fL (objR (f 0) (toN 17 (fL (toN 17 fun (i : Nat) => f (1 + i)))) k key x).1)] 27, SB.cells [Seg.one (SC.v (Value.int .i64 (Prod.snd (objR (f 0) (toN 17 (fL (toN 17 fun (i : Nat) => f (1 + i)))) k key x)).1)), Seg.one (SC.v (Value.int .i64 (Prod.snd (objR (f 0) (toN 17 (fL (toN 17 fun (i : Nat) => f (1 + i)))) k key x)).2))] 32] else drawP Tryd.f51 5 (regOps Tryd.f51 5) 3 [HX.mk 14 [] [] [] false, HX.mk 13 [] [4] [] false, HX.mk 12 [] [3] [] false, HX.mk 11 [] [4] [4] false, HX.mk 10 [] [3] [3] false, HX.mk 9 [] [] [] false, HX.mk 8 [] [] [] false, HX.mk 7 [] [] [] false, HX.mk 6 [] [] [] false, HX.mk 5 [] [] [] false, HX.mk 4 [1] [] [] false, HX.mk 3 [] [] [] false, HX.mk 2 [0] [] [] false, HX.mk 1 [] [] [] false, HX.mk 0 [0] [] [] false] ∧ endP conRDone [SA.a [Seg.ints (.int .u64) 32 f], SA.c (.v (Value.int .i64 (3 : Int))), SA.a [Seg.one (.v (.int .i64 k)), Seg.one (.v (.int .i64 key)), Seg.one (.v (.int .i64 x))]] (SV.t [SA.a [Seg.ints (.int .u64) 32 fun (x : Nat) => (0 : Int)], SA.c (.v (Value.iface 73 (Value.int .i64 (1 : Int))))]) [SB.cells [Seg.ints (.int .u64) 32 f] 44, SB.cells [Seg.one (.v (.int .i64 k)), Seg.one (.v (.int .i64 key)), Seg.one (.v (.int .i64 x))] 30, SB.cells [Seg.ints (.int .u64) 32 fun (x : Nat) => (0 : Int)] 44, SB.cells [Seg.ints (.int .u64) 17 fun (x : Nat) => (0 : Int)] 27, SB.cells [Seg.one (.v (.int .i64 (0 : Int))), Seg.one (.v (.int .i64 (0 : Int)))] 32]) (by kernel_rfl) ?_
    refine ⟨⟨rfl, h⟩, ⟨rfl, by omega, by omega⟩, rfl, ⟨rfl, by rw [toN_fL (toN_len 17 _)]; exact hok⟩, ?_⟩
    rw [toN_fL (toN_len 17 _)]
    refine by_cond (fun ho => ?_) (fun ho => ⟨draw_of (by kernel_rfl), rfl, fun ρ => ?_⟩)
    · have hA := (obj_law hok k key x ho).1
      rw [wrapU (x := f 28 + 1) (by omega) (by omega)]
      refine ⟨draw_of (by kernel_rfl), ⟨by decide, by decide, by decide⟩, ⟨by decide, by decide, by decide⟩, draw_of (by kernel_rfl), hA, ?_⟩
      repeat (first | refine ⟨by decide, ?_⟩ | refine ⟨⟨g0, by omega⟩, ?_⟩)
      exact rdone_end f _ 3 3 k key x rfl ho _ (fun i hi => done_get h 3 (by decide) k key x ho i hi)
    · simp only [PCon.out, conRDone, ho, cond_false]
end Go.Proofs.YtacgihekdmoceaaDoor
end
section
namespace Go.Proofs.YtacgihekdmoceaaDoor
def pickZ (a n : Int) : Int := (a % 18446744073709551616) % n
theorem pickZ_nonneg (a n : Int) (h : 0 < n) : 0 ≤ pickZ a n := Int.emod_nonneg _ (by omega)
theorem pickZ_lt (a n : Int) (h : 0 < n) : pickZ a n < n := Int.emod_lt_of_pos _ h
theorem wrap_i64 {x : Int} (h : -9223372036854775808 ≤ x ∧ x < 9223372036854775808) : IntKind.wrap .i64 x = x := by
  simp only [IntKind.wrap, IntKind.bits, IntKind.signed]; simp; omega
theorem wrap_u64i {x : Int} (h : 0 ≤ x ∧ x < 18446744073709551616) : IntKind.wrap .u64 x = x := by
  simp only [IntKind.wrap, IntKind.bits, IntKind.signed]; simp; omega
theorem pick_run (a n : Int) (h : 0 < n ∧ n ≤ 9223372036854775807) : IntKind.wrap .u64 n ≠ 0 ∧ IntKind.wrap .i64 ((IntKind.wrap .u64 a).tmod (IntKind.wrap .u64 n)) = pickZ a n := by
  have e : IntKind.u64.wrap a = a % 18446744073709551616 := by simp [IntKind.wrap, IntKind.signed, IntKind.bits]
  have h1 : 0 ≤ a % 18446744073709551616 := Int.emod_nonneg _ (by decide)
  rw [wrap_u64i (x := n) (by omega), e, Int.tmod_eq_emod_of_nonneg h1]
  have := pickZ_nonneg a n h.1
  have := pickZ_lt a n h.1
  have e2 : a % 18446744073709551616 % n = pickZ a n := rfl
  rw [e2]
  exact ⟨by omega, wrap_i64 ⟨by omega, by omega⟩⟩
end Go.Proofs.YtacgihekdmoceaaDoor
end
section
namespace Go.Proofs.YtacgihekdmoceaaDoor
set_option linter.unusedVariables false
def wrTo (kind : Int) (z : Nat → Nat → Int) : Nat → Rec
  | 0 => Rec.new kind
  | i + 1 => bif opOk (z i 1) (z i 2) (z i 3) then (wrTo kind z i).done (pickZ (z i 0) 4).toNat (z i 1) (z i 2) (z i 3) else wrTo kind z i
theorem pick4 (a : Int) : (pickZ a 4).toNat < 4 := by
  have h1 := pickZ_nonneg a 4 (by decide)
  have h2 := pickZ_lt a 4 (by decide)
  omega
theorem wrTo_ok (kind : Int) (z : Nat → Nat → Int) (h1 : 1 ≤ kind) (h6 : kind ≤ 6) : ∀ i : Nat, RecOK (i : Int) (wrTo kind z i)
  | 0 => RecOK.new h1 h6
  | i + 1 => by
    have ih := wrTo_ok kind z h1 h6 i
    simp only [wrTo]
    cases ho : opOk (z i 1) (z i 2) (z i 3)
    · exact ih.mono (by omega)
    · have := ih.done _ (pick4 (z i 0)) _ _ _ ho
      rw [show ((i + 1 : Nat) : Int) = (i : Int) + 1 by omega]; exact this
theorem wrTo_kind (kind : Int) (z : Nat → Nat → Int) : ∀ i, (wrTo kind z i).kind = kind
  | 0 => rfl
  | i + 1 => by
    simp only [wrTo]
    cases opOk (z i 1) (z i 2) (z i 3)
    · exact wrTo_kind kind z i
    · exact wrTo_kind kind z i
/-- A record's words, as a function. -/
theorem rec_fL {B : Int} {r : Rec} (h : RecOK B r) (hB : B ≤ 1099511627776) : RecW (fL r.words) ∧ Rec.ofW (toN 32 (fL r.words)) = r :=
  RecW.of h hB (toN_fL (Rec.words_len h))
/-- Numbers of one kind. -/
def AllI (ks : Nat → IntKind) : Prop := ks = fun _ => .i64
theorem fL_cnt (r : Rec) (h17 : r.obj.length = 17) (ha : r.ans.length = 4) (hw : r.whn.length = 4) : fL r.words 28 = r.cnt ∧ fL r.words 27 = r.ver ∧ fL r.words 26 = r.tog := by
  have g := words_get r h17 ha hw
  exact ⟨g 28 (by decide), g 27 (by decide), g 26 (by decide)⟩
theorem fL_obj (r : Rec) (h17 : r.obj.length = 17) (ha : r.ans.length = 4) (hw : r.whn.length = 4) : (toN 17 fun i => fL r.words (1 + i)) = r.obj := by
  have e : (toN 17 fun i => fL r.words (1 + i)) = toN 17 (fL r.obj) := toN_congr fun i hi => by
    rw [words_get r h17 ha hw (1 + i) (by omega), if_neg (by omega), if_pos (by omega), Nat.add_sub_cancel_left]
  rw [e, toN_fL h17]
theorem at_ans {B : Int} {r : Rec} (h : RecOK B r) (t : Nat) (ht : t < 4) : fL r.words (18 + t) = fL r.ans t := by
  rw [words_get r (objOK_len h.ok) h.a4 h.w4 (18 + t) (by omega), if_neg (by omega), if_neg (by omega), if_pos (by omega), Nat.add_sub_cancel_left]
theorem at_whn {B : Int} {r : Rec} (h : RecOK B r) (t : Nat) (ht : t < 4) : fL r.words (22 + t) = fL r.whn t := by
  rw [words_get r (objOK_len h.ok) h.a4 h.w4 (22 + t) (by omega), if_neg (by omega), if_neg (by omega), if_neg (by omega), if_pos (by omega), Nat.add_sub_cancel_left]
/-- What a record holds of a thread. -/
theorem rec_at {B : Int} {r : Rec} (h : RecOK B r) (hB : B ≤ 1099511627776) (t : Nat) (ht : t < 4) : U64 (fL r.words (18 + t)) ∧ 0 ≤ fL r.words (22 + t) ∧ fL r.words (22 + t) ≤ 9223372036854775807 := by
  have e1 : fL r.words (18 + t) = r.ans.getD t 0 := at_ans h t ht
  have e2 : fL r.words (22 + t) = r.whn.getD t 0 := at_whn h t ht
  have c1 := h.c1
  rw [e1, e2]
  rcases h.each t ht with ⟨a, b⟩ | ⟨⟨c, v, hA, e⟩, b, d⟩
  · exact ⟨⟨by omega, by omega⟩, by omega, by omega⟩
  · have hw := ansW_c hA
    exact ⟨⟨by omega, by omega⟩, by omega, by omega⟩
/-- What one more deed leaves of the threads. -/
theorem done_at {B : Int} {r : Rec} (h : RecOK B r) (T : Nat) (hT : T < 4) (k key x : Int) (ho : opOk k key x = true) (t : Nat) (ht : t < 4) :
    fL (r.done T k key x).words (18 + t) = (if t = T then ansW (objR r.kind r.obj k key x).2.1 (objR r.kind r.obj k key x).2.2 else fL r.words (18 + t)) ∧ fL (r.done T k key x).words (22 + t) = (if t = T then r.cnt + 1 else fL r.words (22 + t)) := by
  have hd := h.done T hT k key x ho
  rw [at_ans hd t ht, at_ans h t ht, at_whn hd t ht, at_whn h t ht]
  exact ⟨fL_set (by rw [h.a4]; exact hT), fL_set (by rw [h.w4]; exact hT)⟩
/-- An object behind operations. -/
def mdTo (kind : Int) (z : Nat → Nat → Int) : Nat → List Int
  | 0 => List.replicate 17 0
  | i + 1 => bif opOk (z i 0) (z i 1) (z i 2) then (objR kind (mdTo kind z i) (z i 0) (z i 1) (z i 2)).1 else mdTo kind z i
theorem mdTo_ok (kind : Int) (z : Nat → Nat → Int) (h1 : 1 ≤ kind) (h6 : kind ≤ 6) : ∀ i, ObjOK kind (mdTo kind z i)
  | 0 => objOK_zero kind h1 h6
  | i + 1 => by
    have ih := mdTo_ok kind z h1 h6 i
    simp only [mdTo]
    cases ho : opOk (z i 0) (z i 1) (z i 2)
    · exact ih
    · exact objR_ok ih _ _ _ ho
end Go.Proofs.YtacgihekdmoceaaDoor
end
section
namespace Go.Proofs.YtacgihekdmoceaaDoor
open Go.RowKit
set_option linter.unusedVariables false
set_option maxRecDepth 100000
set_option maxHeartbeats 4000000
def tabK : Tab := [(3, .one (.int .i64 0) (.int .i64)),
  (4, .one (.bool false) .bool),
  (25, .one (.int .u64 0) (.int .u64)),
  (96, .one (.int .u64 0) (.int .u64)),
  (30, .str [.one (.v (.int .i64 0)), .one (.v (.int .i64 0)), .one (.v (.int .i64 0))] [(0, 1, false), (1, 1, false), (2, 1, false)]),
  (32, .str [.one (.v (.int .i64 0)), .one (.v (.int .i64 0))] [(0, 1, false), (1, 1, false)]),
  (38, .str [.one (.v (.int .i64 0)), .one (.v (.int .i64 0)), .one (.v (.int .i64 0)), .one (.v (.int .i64 0)), .one (.v (.int .i64 0)), .one (.v (.int .i64 0))] [(0, 1, false), (1, 3, true), (4, 2, true)]),
  (28, .one (.slice none 0 0) (.slice 38)),
  (27, .arr [.ints (.int .u64) 17 (fun _ => 0)] 17 1 false),
  (44, .arr [.ints (.int .u64) 32 (fun _ => 0)] 32 1 false),
  (34, .one (.nilIface) .iface),
  (73, .one (.int .i64 0) (.int .i64))]
theorem tabK_ok : TabOk Tryd.prog tabK := .cons (⟨by kernel_rfl, by kernel_rfl, by kernel_rfl, by kernel_rfl, by kernel_rfl⟩) (.cons (⟨by kernel_rfl, by kernel_rfl, by kernel_rfl, by kernel_rfl, by kernel_rfl⟩) (.cons (⟨by kernel_rfl, by kernel_rfl, by kernel_rfl, by kernel_rfl, by kernel_rfl⟩) (.cons (⟨by kernel_rfl, by kernel_rfl, by kernel_rfl, by kernel_rfl, by kernel_rfl⟩) (.cons (⟨by kernel_rfl, by kernel_rfl, by kernel_rfl, by kernel_rfl⟩) (.cons (⟨by kernel_rfl, by kernel_rfl, by kernel_rfl, by kernel_rfl⟩) (.cons (⟨by kernel_rfl, by kernel_rfl, by kernel_rfl, by kernel_rfl⟩) (.cons (⟨by kernel_rfl, by kernel_rfl, by kernel_rfl, by kernel_rfl, by kernel_rfl⟩) (.cons (⟨by kernel_rfl, by kernel_rfl, by kernel_rfl, by kernel_rfl⟩) (.cons (⟨by kernel_rfl, by kernel_rfl, by kernel_rfl, by kernel_rfl⟩) (.cons (⟨by kernel_rfl, by kernel_rfl, by kernel_rfl, by kernel_rfl, by kernel_rfl⟩) (.cons (⟨by kernel_rfl, by kernel_rfl, by kernel_rfl, by kernel_rfl, by kernel_rfl⟩) (TabOk.nil _))))))))))))
theorem tabK_tys : TysOk Tryd.prog tabK := TysOk.of (by kernel_rfl) (by kernel_rfl)
def conPick : PCon := ⟨fun args => match args with
  | [.c (.v (.int .i64 a)), .c (.v (.int .i64 n))] => 0 < n ∧ n ≤ 9223372036854775807
  | _ => False, fun args => match args with
  | [.c (.v (.int .i64 a)), .c (.v (.int .i64 n))] => sv (.int .i64 (pickZ a n))
  | _ => sv undef, fun _ => none⟩
theorem pick_con : (Con.pure conPick).holds Tryd.prog 13 := by
  refine pure_of_run (AG := []) (Γ := []) Tryd.func13 rfl (by kernel_rfl) tabK_ok tabK_tys (fun _ => GamOk.nil _ _ _) conPick 400 ?_
  intro W args hp
  unfold conPick at hp; dsimp only at hp; split at hp
  case h_2 => exact hp.elim
  rename_i a n
  refine ⟨rfl, ?_⟩
  refine by_eq (q :=
      IntKind.wrap .u64 n ≠ (0 : Int) ∧ SV.o (SA.c (.v (Value.int .i64 (IntKind.wrap .i64 (Int.tmod (IntKind.wrap .u64 a) (IntKind.wrap .u64 n)))))) = SV.o (SA.c (.v (Value.int .i64 (pickZ a n)))) ∧ true = true) (by kernel_rfl) ?_
  have := pick_run a n hp
  exact ⟨this.1, by rw [this.2], rfl⟩
def conKindOf : PCon := ⟨fun args => match args with
  | [.c (.v (.int .i64 a))] => True
  | _ => False, fun args => match args with
  | [.c (.v (.int .i64 a))] => sv (.int .i64 (1 + pickZ a 6))
  | _ => sv undef, fun _ => none⟩
theorem kindOf_con : (Con.pure conKindOf).holds Tryd.prog 11 := by
  refine pure_of_run (AG := []) (Γ := [(13, .pure conPick)]) Tryd.func11 rfl (by kernel_rfl) tabK_ok tabK_tys (fun W => .cons (pick_con W _) (.nil _ _ _)) conKindOf 400 ?_
  intro W args hp
  unfold conKindOf at hp; dsimp only at hp; split at hp
  case h_2 => exact hp.elim
  rename_i a
  refine ⟨rfl, ?_⟩
  refine by_eq (q :=
      ((0 : Int) < (6 : Int) ∧ (6 : Int) ≤ (9223372036854775807 : Int)) ∧ SV.o (SA.c (.v (Value.int .i64 (IntKind.wrap .i64 ((1 : Int) + pickZ a (6 : Int)))))) = SV.o (SA.c (.v (Value.int .i64 ((1 : Int) + pickZ a (6 : Int))))) ∧ true = true) (by kernel_rfl) ?_
  have h1 := pickZ_nonneg a 6 (by decide)
  have h2 := pickZ_lt a 6 (by decide)
  exact ⟨⟨by decide, by decide⟩, by rw [wrapI (by omega) (by omega)], rfl⟩
def conPut : PCon := ⟨fun args => match args with
  | [.c (.v (.int .i64 a))] => True
  | _ => False, fun args => match args with
  | [.c (.v (.int .i64 a))] => .o (opA 1 0 a)
  | _ => sv undef, fun _ => none⟩
theorem put_con : (Con.pure conPut).holds Tryd.prog 34 := by
  refine pure_of_run (AG := []) (Γ := []) Tryd.func34 rfl (by kernel_rfl) tabK_ok tabK_tys (fun _ => GamOk.nil _ _ _) conPut 400 ?_
  intro W args hp
  unfold conPut at hp; dsimp only at hp; split at hp
  case h_2 => exact hp.elim
  rename_i a
  refine ⟨rfl, ?_⟩
  refine by_eq (q :=
      SV.o (SA.a [Seg.one (.v (.int .i64 (1 : Int))), Seg.one (.v (.int .i64 (0 : Int))), Seg.one (.v (.int .i64 a))]) = SV.o (SA.a [Seg.one (.v (.int .i64 (1 : Int))), Seg.one (.v (.int .i64 (0 : Int))), Seg.one (.v (.int .i64 a))]) ∧ true = true) (by kernel_rfl) ?_
  exact ⟨rfl, rfl⟩
def conRecorded : PCon := ⟨fun args => match args with
  | [] => True
  | _ => False, fun _ => sv (.bool true), fun _ => none⟩
theorem recorded_con : (Con.pure conRecorded).holds Tryd.prog 16 := by
  refine pure_of_run (AG := []) (Γ := [(30, .pure conRNew), (34, .pure conPut), (51, .pure conRDone), (52, .pure conRAnswer), (33, .pure conRRight), (29, .pure conRToggle)]) Tryd.func16 rfl (by kernel_rfl) tabK_ok tabK_tys
    (fun W => .cons (rnew_con W _) (.cons (put_con W _) (.cons (rdone_con W _) (.cons (ranswer_con W _) (.cons (rright_con W _) (.cons (rtoggle_con W _) (.nil _ _ _))))))) conRecorded 400 ?_
  intro W args hp
  unfold conRecorded at hp; dsimp only at hp; split at hp
  case h_2 => exact hp.elim
  refine ⟨rfl, ?_⟩
  refine by_eq (q :=
      ((1 : Int) ≤ (1 : Int) ∧ (1 : Int) ≤ (6 : Int)) ∧ True ∧ (32 = 32 ∧ RecW (fL (Rec.words (Rec.new (1 : Int)))) ∧ (0 : Int) ≤ (2 : Int) ∧ (2 : Int) < (4 : Int)) ∧ drawP Tryd.f16 2 (regOps Tryd.f16 2) 1 [HX.mk 8 [] [] [] false, HX.mk 7 [] [1] [] false, HX.mk 6 [] [1] [1] false, HX.mk 5 [] [] [] false, HX.mk 4 [] [] [] false, HX.mk 3 [] [] [] false, HX.mk 2 [] [] [] false, HX.mk 1 [] [] [] false, HX.mk 0 [0] [] [] false] ∧ (32 = 32 ∧ (0 : Int) ≤ (2 : Int) ∧ (2 : Int) < (4 : Int) ∧ U64 (4294967296 : Int) ∧ (0 : Int) ≤ (1 : Int) ∧ (1 : Int) ≤ (9223372036854775807 : Int)) ∧ (32 = 32 ∧ RecW (fL (Rec.words (Rec.new (1 : Int))))) ∧ (32 = 32 ∧ RecW (fL (Rec.words (Rec.done (Rec.ofW (toN 32 (fL (Rec.words (Rec.new (1 : Int)))))) 2 (1 : Int) (0 : Int) (9 : Int))))) ∧ (32 = 32 ∧ (0 : Int) ≤ (2 : Int) ∧ (2 : Int) < (4 : Int) ∧ (0 : Int) ≤ (4 : Int) ∧ (4 : Int) < (16 : Int)) ∧ (32 = 32 ∧ (0 : Int) ≤ (2 : Int) ∧ (2 : Int) < (4 : Int) ∧ (0 : Int) ≤ (0 : Int) ∧ (0 : Int) < (16 : Int)) ∧ SV.o (SA.c (.v (Value.bool true))) = SV.o (SA.c (.v (Value.bool true))) ∧ true = true) (by kernel_rfl) ?_
  have r0 := rec_fL (RecOK.new (kind := 1) (by decide) (by decide)) (by decide)
  have r1 := rec_fL ((RecOK.new (kind := 1) (by decide) (by decide)).done 2 (by decide) 1 0 9 (by decide)) (by decide)
  rw [r0.2]
  exact ⟨⟨by decide, by decide⟩, trivial, ⟨rfl, r0.1, by decide, by decide⟩, draw_of (by kernel_rfl), ⟨rfl, by decide, by decide, ⟨by decide, by decide⟩, by decide, by decide⟩, ⟨rfl, r0.1⟩, ⟨rfl, r1.1⟩, ⟨rfl, by decide, by decide, by decide, by decide⟩, ⟨rfl, by decide, by decide, by decide, by decide⟩, rfl, rfl⟩
/-- written, of deeds that lie in memory from the beginning. -/
def conWritten (W : World) : PCon := ⟨fun args => match args with
  | [.c (.v (.int .i64 k)), .c (.r a n c m sz ks z)] => 1 ≤ k ∧ k ≤ 6 ∧ n = m ∧ sz = 6 ∧ AllI ks ∧ Rws 6 (fun _ => .i64) W a m c z
  | _ => False, fun args => match args with
  | [.c (.v (.int .i64 k)), .c (.r a n c m sz ks z)] => .o (recA (fL (wrTo k z (min m 30)).words))
  | _ => sv undef, fun _ => none⟩
structure WrG (m : Nat) where
  i : Nat
  hi : i ≤ m
def annWr (k : Int) (a : Option Addr) (m c n : Nat) (z : Nat → Nat → Int) : Ann where
  σ := WrG m
  I g := ([(4, .o (.c (.p 0 0))), (5, .o (.c (.p 1 0))), (20, .o (.c (.r a m c n 6 (fun _ => .i64) z))), (21, sv (.int .i64 m)), (22, sv (.int .i64 g.i))], [recB (fun _ => 0), recB (fL (wrTo k z g.i).words)])
  dec g := m - g.i
  pi env _ := [blkE env 4, blkE env 5]
  nz := []
def agWr : List SA → List (Nat × Anns)
  | [.c (.v (.int .i64 k)), .c (.r a n c m sz ks z)] => [(17, [(0, annWr k a (min m 30) c m z)])]
  | _ => []
theorem written_con (W : World) : (Con.pure (conWritten W)).holdsAt Tryd.prog W (fun _ => False) 17 := by
  refine pure_of_run2_at (Γ := [(30, .pure conRNew), (13, .pure conPick), (51, .pure conRDone)]) Tryd.func17 rfl (by kernel_rfl) tabK_ok tabK_tys
    (fun w _ => .cons (rnew_con w _) (.cons (pick_con w _) (.cons (rdone_con w _) (.nil _ _ _)))) (conWritten W) agWr 400 ?_
  intro w args hp hK
  unfold conWritten at hp; dsimp only at hp; split at hp
  case h_2 => exact hp.elim
  rename_i k a n c m sz ks z
  obtain ⟨h1, h6, rfl, rfl, rfl, hr⟩ := hp
  refine ⟨rfl, ?_⟩
  refine by_eq (q :=
      ((1 : Int) ≤ k ∧ k ≤ (6 : Int)) ∧ (((0 : Int) ≤ if (30 : Int) < (↑n : Int) then (30 : Int) else (↑n : Int)) ∧ (if (30 : Int) < (↑n : Int) then (30 : Int) else (↑n : Int)) ≤ (↑c : Int)) ∧ (∃ (s0 : Ann.σ (annWr k a (min n 30) c n z)), (some (SV.o (SA.c (.p 0 0))) = some (SV.o (SA.c (.p 0 0))) ∧ some (SV.o (SA.c (.p 1 0))) = some (SV.o (SA.c (.p 1 0))) ∧ some (SV.o (SA.c (.r a (Int.toNat (if (30 : Int) < (↑n : Int) then (30 : Int) else (↑n : Int))) c n 6 (fun (x : Nat) => .i64) z))) = some (SV.o (SA.c (.r a (min n 30) c n 6 (fun (x : Nat) => .i64) z))) ∧ some (SV.o (SA.c (.v (Value.int .i64 (↑(Int.toNat (if (30 : Int) < (↑n : Int) then (30 : Int) else (↑n : Int))) : Int))))) = some (SV.o (SA.c (.v (Value.int .i64 (↑(min n 30) : Int))))) ∧ some (SV.o (SA.c (.v (Value.int .i64 (0 : Int))))) = some (SV.o (SA.c (.v (Value.int .i64 (↑s0.1 : Int))))) ∧ True) ∧ [SB.cells [Seg.ints (.int .u64) 32 fun (x : Nat) => (0 : Int)] 44, SB.cells [Seg.ints (.int .u64) 32 (fL (Rec.words (Rec.new k)))] 44] = [SB.cells [Seg.ints (.int .u64) 32 fun (x : Nat) => (0 : Int)] 44, SB.cells [Seg.ints (.int .u64) 32 (fL (Rec.words (wrTo k z s0.1)))] 44]) ∧ ∀ (s : WrG (min n 30)), bif decide ((↑s.1 : Int) < (↑(min n 30) : Int)) then (Rws 6 (fun (x : Nat) => .i64) w a n c z ∧ (0 : Int) ≤ (↑s.1 : Int) ∧ (↑s.1 : Int) < (↑(min n 30) : Int) ∧ Int.toNat (↑s.1 : Int) < n) ∧ (Rws 6 (fun (x : Nat) => .i64) w a n c z ∧ Int.toNat (↑s.1 : Int) < n) ∧ ((0 : Int) < (4 : Int) ∧ (4 : Int) ≤ (9223372036854775807 : Int)) ∧ (32 = 32 ∧ RecW (fL (Rec.words (wrTo k z s.1))) ∧ (0 : Int) ≤ pickZ (z (Int.toNat (↑s.1 : Int)) 0) (4 : Int) ∧ pickZ (z (Int.toNat (↑s.1 : Int)) 0) (4 : Int) < (4 : Int)) ∧ bif opOk (z (Int.toNat (↑s.1 : Int)) 1) (z (Int.toNat (↑s.1 : Int)) 2) (z (Int.toNat (↑s.1 : Int)) 3) then drawP Tryd.f17 5 (regOps Tryd.f17 5) 3 [HX.mk 12 [] [] [] false, HX.mk 11 [] [3] [] false, HX.mk 10 [] [3] [3] false, HX.mk 9 [] [] [] false, HX.mk 8 [] [] [] false, HX.mk 7 [] [] [] false, HX.mk 6 [] [] [] false, HX.mk 5 [2] [] [] false, HX.mk 4 [] [] [2] false, HX.mk 3 [] [] [] false, HX.mk 2 [2] [] [] false, HX.mk 1 [] [] [2] false, HX.mk 0 [1] [] [] false] ∧ ∃ (s' : WrG (min n 30)), ((some (SV.o (SA.c (.p 0 0))) = some (SV.o (SA.c (.p 0 0))) ∧ some (SV.o (SA.c (.p 1 0))) = some (SV.o (SA.c (.p 1 0))) ∧ some (SV.o (SA.c (.r a (min n 30) c n 6 (fun (x : Nat) => .i64) z))) = some (SV.o (SA.c (.r a (min n 30) c n 6 (fun (x : Nat) => .i64) z))) ∧ some (SV.o (SA.c (.v (Value.int .i64 (↑(min n 30) : Int))))) = some (SV.o (SA.c (.v (Value.int .i64 (↑(min n 30) : Int))))) ∧ some (SV.o (SA.c (.v (Value.int .i64 (IntKind.wrap .i64 ((↑s.1 : Int) + (1 : Int))))))) = some (SV.o (SA.c (.v (Value.int .i64 (↑s'.1 : Int))))) ∧ True) ∧ [SB.cells [Seg.ints (.int .u64) 32 fun (x : Nat) => (0 : Int)] 44, SB.cells [Seg.ints (.int .u64) 32 (fL (Rec.words (Rec.done (Rec.ofW (toN 32 (fL (Rec.words (wrTo k z s.1))))) (Int.toNat (pickZ (z (Int.toNat (↑s.1 : Int)) 0) (4 : Int))) (z (Int.toNat (↑s.1 : Int)) 1) (z (Int.toNat (↑s.1 : Int)) 2) (z (Int.toNat (↑s.1 : Int)) 3))))] 44] = [SB.cells [Seg.ints (.int .u64) 32 fun (x : Nat) => (0 : Int)] 44, SB.cells [Seg.ints (.int .u64) 32 (fL (Rec.words (wrTo k z s'.1)))] 44]) ∧ min n 30 - s'.1 < min n 30 - s.1 else drawP Tryd.f17 5 (regOps Tryd.f17 5) 3 [HX.mk 12 [] [] [] false, HX.mk 11 [] [3] [] false, HX.mk 10 [] [3] [3] false, HX.mk 9 [] [] [] false, HX.mk 8 [] [] [] false, HX.mk 7 [] [] [] false, HX.mk 6 [] [] [] false, HX.mk 5 [2] [] [] false, HX.mk 4 [] [] [2] false, HX.mk 3 [] [] [] false, HX.mk 2 [2] [] [] false, HX.mk 1 [] [] [2] false, HX.mk 0 [1] [] [] false] ∧ ∃ (s' : WrG (min n 30)), ((some (SV.o (SA.c (.p 0 0))) = some (SV.o (SA.c (.p 0 0))) ∧ some (SV.o (SA.c (.p 1 0))) = some (SV.o (SA.c (.p 1 0))) ∧ some (SV.o (SA.c (.r a (min n 30) c n 6 (fun (x : Nat) => .i64) z))) = some (SV.o (SA.c (.r a (min n 30) c n 6 (fun (x : Nat) => .i64) z))) ∧ some (SV.o (SA.c (.v (Value.int .i64 (↑(min n 30) : Int))))) = some (SV.o (SA.c (.v (Value.int .i64 (↑(min n 30) : Int))))) ∧ some (SV.o (SA.c (.v (Value.int .i64 (IntKind.wrap .i64 ((↑s.1 : Int) + (1 : Int))))))) = some (SV.o (SA.c (.v (Value.int .i64 (↑s'.1 : Int))))) ∧ True) ∧ [SB.cells [Seg.ints (.int .u64) 32 fun (x : Nat) => (0 : Int)] 44, SB.cells [Seg.ints (.int .u64) 32 (fL (Rec.words (wrTo k z s.1)))] 44] = [SB.cells [Seg.ints (.int .u64) 32 fun (x : Nat) => (0 : Int)] 44, SB.cells [Seg.ints (.int .u64) 32 (fL (Rec.words (wrTo k z s'.1)))] 44]) ∧ min n 30 - s'.1 < min n 30 - s.1 else endP (conWritten W) [SA.c (.v (Value.int .i64 k)), SA.c (.r a n c n 6 (fun (x : Nat) => .i64) z)] (SV.o (SA.a [Seg.ints (.int .u64) 32 (fL (Rec.words (wrTo k z s.1)))])) [SB.cells [Seg.ints (.int .u64) 32 (fL (Rec.words (wrTo k z s.1)))] 44, SB.cells [Seg.ints (.int .u64) 32 (fL (Rec.words (wrTo k z s.1)))] 44]) (by kernel_rfl) ?_
  have e30 : (if (30 : Int) < (n : Int) then (30 : Int) else (n : Int)) = ((min n 30 : Nat) : Int) := by split <;> omega
  have hc := hr.1
  rw [e30, Int.toNat_natCast]
  refine ⟨⟨h1, h6⟩, ⟨by omega, by omega⟩, ⟨⟨0, Nat.zero_le _⟩, ⟨rfl, rfl, rfl, rfl, rfl, trivial⟩, rfl⟩, ?_⟩
  rintro ⟨i, hi⟩
  dsimp only
  refine by_dec (fun hlt => ?_) (fun hge => ?_)
  · have hrw := hr.below (hK.below (Nat.le_refl _) (fun _ h => h.elim))
    have hok := wrTo_ok k z h1 h6 i
    have hf := rec_fL hok (by omega)
    have p0 := pickZ_nonneg (z i 0) 4 (by decide)
    have p4 := pickZ_lt (z i 0) 4 (by decide)
    rw [Int.toNat_natCast, hf.2]
    refine ⟨⟨hrw, by omega, hlt, by omega⟩, ⟨hrw, by omega⟩, ⟨by decide, by decide⟩, ⟨rfl, hf.1, p0, p4⟩, by_cond (fun ho => ?_) (fun ho => ?_)⟩
    · refine ⟨draw_of (by kernel_rfl), ⟨i + 1, by omega⟩, ⟨⟨rfl, rfl, rfl, rfl, svI (sucI (by omega)), trivial⟩, ?_⟩, by dsimp only; omega⟩
      simp only [wrTo, ho, cond_true]
    · refine ⟨draw_of (by kernel_rfl), ⟨i + 1, by omega⟩, ⟨⟨rfl, rfl, rfl, rfl, svI (sucI (by omega)), trivial⟩, ?_⟩, by dsimp only; omega⟩
      simp only [wrTo, ho, cond_false]
  · obtain rfl : i = min n 30 := by omega
    exact ⟨rfl, fun ρ => rfl⟩
end Go.Proofs.YtacgihekdmoceaaDoor
end
section
namespace Go.Proofs.YtacgihekdmoceaaDoor
set_option linter.unusedVariables false
structure Ask where
  t : Nat
  g : Int
  k : Int
  key : Int
  x : Int
structure Dd where
  t : Nat
  k : Int
  key : Int
  x : Int
  c : Int
  v : Int
def Ask.nil : Ask := ⟨0, 0, 0, 0, 0⟩
def Dd.nil : Dd := ⟨0, 0, 0, 0, 0, 0⟩
def Ask.is (a : Ask) (z : Nat → Int) : Prop := z 0 = (a.t : Int) ∧ z 1 = a.g ∧ z 2 = a.k ∧ z 3 = a.key ∧ z 4 = a.x
def Dd.is (a : Dd) (z : Nat → Int) : Prop := z 0 = (a.t : Int) ∧ z 1 = a.k ∧ z 2 = a.key ∧ z 3 = a.x ∧ z 4 = a.c ∧ z 5 = a.v
/-- The rows are a list's. -/
def IsA (z : Nat → Nat → Int) (l : List Ask) : Prop := ∀ i, i < l.length → (l.getD i Ask.nil).is (z i)
def IsD (z : Nat → Nat → Int) (l : List Dd) : Prop := ∀ i, i < l.length → (l.getD i Dd.nil).is (z i)
theorem getD_snoc {α : Type} {l : List α} {a d : α} {i : Nat} (h : i < (l ++ [a]).length) : (i < l.length ∧ (l ++ [a]).getD i d = l.getD i d) ∨ (i = l.length ∧ (l ++ [a]).getD i d = a) := by
  rw [List.length_append, List.length_singleton] at h
  simp only [List.getD_eq_getElem?_getD]
  by_cases h1 : i < l.length
  · exact .inl ⟨h1, by rw [List.getElem?_append_left h1]⟩
  · obtain rfl : i = l.length := by omega
    exact .inr ⟨rfl, by simp⟩
theorem IsA.sub {z z' : Nat → Nat → Int} {l : List Ask} (h : IsA z l) (e : ∀ i, i < l.length → ∀ j, z' i j = z i j) : IsA z' l := fun i hi => by
  have := h i hi; unfold Ask.is at this ⊢; simp only [e i hi]; exact this
theorem IsD.sub {z z' : Nat → Nat → Int} {l : List Dd} (h : IsD z l) (e : ∀ i, i < l.length → ∀ j, z' i j = z i j) : IsD z' l := fun i hi => by
  have := h i hi; unfold Dd.is at this ⊢; simp only [e i hi]; exact this
theorem IsA.snoc {z z' : Nat → Nat → Int} {l : List Ask} {a : Ask} (h : IsA z l) (e : ∀ i, i < l.length → ∀ j, z' i j = z i j) (e2 : a.is (z' l.length)) : IsA z' (l ++ [a]) := fun i hi => by
  rcases getD_snoc (d := Ask.nil) hi with ⟨h1, h2⟩ | ⟨rfl, h2⟩
  · rw [h2]; exact h.sub e i h1
  · rw [h2]; exact e2
theorem IsD.snoc {z z' : Nat → Nat → Int} {l : List Dd} {a : Dd} (h : IsD z l) (e : ∀ i, i < l.length → ∀ j, z' i j = z i j) (e2 : a.is (z' l.length)) : IsD z' (l ++ [a]) := fun i hi => by
  rcases getD_snoc (d := Dd.nil) hi with ⟨h1, h2⟩ | ⟨rfl, h2⟩
  · rw [h2]; exact h.sub e i h1
  · rw [h2]; exact e2
theorem IsD.append {z z1 z2 : Nat → Nat → Int} {l m : List Dd} (h1 : IsD z1 l) (h2 : IsD z2 m) (e1 : ∀ i, i < l.length → ∀ j, z i j = z1 i j) (e2 : ∀ i, i < m.length → ∀ j, z (l.length + i) j = z2 i j) : IsD z (l ++ m) := fun i hi => by
  rw [List.length_append] at hi
  by_cases h : i < l.length
  · have : (l ++ m).getD i Dd.nil = l.getD i Dd.nil := by simp only [List.getD_eq_getElem?_getD, List.getElem?_append_left h]
    rw [this]; exact h1.sub e1 i h
  · obtain ⟨k, rfl⟩ : ∃ k, i = l.length + k := ⟨i - l.length, by omega⟩
    have : (l ++ m).getD (l.length + k) Dd.nil = m.getD k Dd.nil := by simp only [List.getD_eq_getElem?_getD, List.getElem?_append_right (Nat.le_add_right _ _), Nat.add_sub_cancel_left]
    rw [this]
    have := h2 k (by omega); unfold Dd.is at this ⊢; simp only [e2 k (by omega)]; exact this
/-- Rows of equal lists are equal. -/
theorem IsD.eq {z z' : Nat → Nat → Int} {l : List Dd} (h : IsD z l) (h' : IsD z' l) : ∀ i, i < l.length → ∀ j, j < 6 → z i j = z' i j := fun i hi j hj => by
  have a := h i hi
  have b := h' i hi
  obtain ⟨a0, a1, a2, a3, a4, a5⟩ := a
  obtain ⟨b0, b1, b2, b3, b4, b5⟩ := b
  rcases (show j = 0 ∨ j = 1 ∨ j = 2 ∨ j = 3 ∨ j = 4 ∨ j = 5 by omega) with rfl | rfl | rfl | rfl | rfl | rfl
  · rw [a0, b0]
  · rw [a1, b1]
  · rw [a2, b2]
  · rw [a3, b3]
  · rw [a4, b4]
  · rw [a5, b5]
def Ask.ok (a : Ask) : Prop := a.t < 4 ∧ (a.g = 0 ∨ a.g = 1) ∧ opOk a.k a.key a.x = true
def AsksOK (l : List Ask) : Prop := ∀ a ∈ l, a.ok
def bOpen (r : Rec) (a : Ask) : Bool := togBit r.tog a.t != a.g
def bStep (r : Rec) (a : Ask) : Rec := bif bOpen r a then r.done a.t a.k a.key a.x else r
def bDeed (r : Rec) (a : Ask) : Dd := ⟨a.t, a.k, a.key, a.x, (objR r.kind r.obj a.k a.key a.x).2.1, (objR r.kind r.obj a.k a.key a.x).2.2⟩
def bDs (r : Rec) (a : Ask) : List Dd := bif bOpen r a then [bDeed r a] else []
def bR : Rec → List Ask → Rec
  | r, [] => r
  | r, a :: l => bR (bStep r a) l
def bD : Rec → List Ask → List Dd
  | r, [] => []
  | r, a :: l => bDs r a ++ bD (bStep r a) l
def Rec.at (r : Rec) (v : Int) : Rec := { r with ver := v }
/-- A batch: its record. -/
def bDo (r : Rec) (l : List Ask) : Rec := (bR r l).at ((bR r l).ver + 1)
theorem bR_append : ∀ (r : Rec) (l m : List Ask), bR r (l ++ m) = bR (bR r l) m
  | r, [], m => rfl
  | r, a :: l, m => bR_append (bStep r a) l m
theorem bD_append : ∀ (r : Rec) (l m : List Ask), bD r (l ++ m) = bD r l ++ bD (bR r l) m
  | r, [], m => rfl
  | r, a :: l, m => by show bDs r a ++ bD (bStep r a) (l ++ m) = (bDs r a ++ bD (bStep r a) l) ++ _; rw [bD_append (bStep r a) l m, List.append_assoc]; rfl
theorem bR_one (r : Rec) (a : Ask) : bR r [a] = bStep r a := rfl
theorem bD_one (r : Rec) (a : Ask) : bD r [a] = bDs r a := List.append_nil _
theorem bR_snoc (r : Rec) (l : List Ask) (a : Ask) : bR r (l ++ [a]) = bStep (bR r l) a := bR_append r l [a]
theorem bD_snoc (r : Rec) (l : List Ask) (a : Ask) : bD r (l ++ [a]) = bD r l ++ bDs (bR r l) a := by rw [bD_append, bD_one]
theorem take_snoc {l : List Ask} {i : Nat} (h : i < l.length) : l.take (i + 1) = l.take i ++ [l.getD i Ask.nil] := by
  rw [List.take_add_one, List.getElem?_eq_getElem h]; simp [List.getD_eq_getElem?_getD, h]
theorem AsksOK.get {l : List Ask} (h : AsksOK l) {i : Nat} (hi : i < l.length) : (l.getD i Ask.nil).ok := by
  rw [List.getD_eq_getElem?_getD, List.getElem?_eq_getElem hi]; exact h _ (List.getElem_mem hi)
theorem AsksOK.tail {a : Ask} {l : List Ask} (h : AsksOK (a :: l)) : AsksOK l := fun b hb => h b (List.mem_cons_of_mem _ hb)
theorem bStep_ok {B : Int} {r : Rec} {a : Ask} (h : RecOK B r) (ha : a.ok) : RecOK (B + 1) (bStep r a) := by
  unfold bStep
  cases bOpen r a
  · exact h.mono (by omega)
  · exact h.done a.t ha.1 a.k a.key a.x ha.2.2
theorem bR_ok : ∀ {l : List Ask} {B : Int} {r : Rec}, RecOK B r → AsksOK l → RecOK (B + l.length) (bR r l)
  | [], B, r, h, _ => h.mono (by simp)
  | a :: l, B, r, h, ha => by
    have := bR_ok (l := l) (bStep_ok h (ha a List.mem_cons_self)) ha.tail
    rw [show B + 1 + (l.length : Int) = B + ((a :: l).length : Int) by simp; omega] at this; exact this
theorem bStep_ver (r : Rec) (a : Ask) : (bStep r a).ver = r.ver := by unfold bStep; cases bOpen r a <;> rfl
theorem bStep_kind (r : Rec) (a : Ask) : (bStep r a).kind = r.kind := by unfold bStep; cases bOpen r a <;> rfl
theorem bR_ver : ∀ (l : List Ask) (r : Rec), (bR r l).ver = r.ver
  | [], r => rfl
  | a :: l, r => (bR_ver l (bStep r a)).trans (bStep_ver r a)
theorem bR_kind : ∀ (l : List Ask) (r : Rec), (bR r l).kind = r.kind
  | [], r => rfl
  | a :: l, r => (bR_kind l (bStep r a)).trans (bStep_kind r a)
theorem bStep_at (r : Rec) (a : Ask) (v : Int) : bStep (r.at v) a = (bStep r a).at v := by
  unfold bStep
  have e : bOpen (r.at v) a = bOpen r a := rfl
  rw [e]; cases bOpen r a <;> rfl
theorem bR_at : ∀ (l : List Ask) (r : Rec) (v : Int), bR (r.at v) l = (bR r l).at v
  | [], r, v => rfl
  | a :: l, r, v => by show bR (bStep (r.at v) a) l = _; rw [bStep_at, bR_at l]; rfl
theorem bD_at : ∀ (l : List Ask) (r : Rec) (v : Int), bD (r.at v) l = bD r l
  | [], r, v => rfl
  | a :: l, r, v => by show bDs (r.at v) a ++ bD (bStep (r.at v) a) l = _; rw [bStep_at, bD_at l]; rfl
theorem bD_le : ∀ (l : List Ask) (r : Rec), (bD r l).length ≤ l.length
  | [], r => Nat.le_refl _
  | a :: l, r => by
    have := bD_le l (bStep r a)
    show (bDs r a ++ bD (bStep r a) l).length ≤ _
    rw [List.length_append, List.length_cons]
    have h1 : (bDs r a).length ≤ 1 := by unfold bDs; cases bOpen r a <;> simp
    omega
theorem RecOK.at {B : Int} {r : Rec} (h : RecOK B r) {v : Int} (h0 : 0 ≤ v) (h1 : v ≤ 1099511627776) : RecOK B (r.at v) :=
  ⟨h.k1, h.k6, h.ok, h.a4, h.w4, h.g0, h.g1, h0, h1, h.c0, h.c1, h.each, h.once⟩
/-- An ask that is not open. -/
theorem bStep_shut {r : Rec} {a : Ask} (h : bOpen r a = false) : bStep r a = r ∧ bDs r a = [] := by unfold bStep bDs; rw [h]; exact ⟨rfl, rfl⟩
theorem bR_shut : ∀ {l : List Ask} {r : Rec}, (∀ a ∈ l, bOpen r a = false) → bR r l = r ∧ bD r l = []
  | [], r, _ => ⟨rfl, rfl⟩
  | a :: l, r, h => by
    have h1 := bStep_shut (h a List.mem_cons_self)
    have h2 := bR_shut (l := l) (r := r) fun b hb => h b (List.mem_cons_of_mem _ hb)
    show bR (bStep r a) l = r ∧ bDs r a ++ bD (bStep r a) l = []
    rw [h1.1, h1.2]; exact ⟨h2.1, h2.2⟩
theorem bStep_bit {B : Int} {r : Rec} {a : Ask} (h : RecOK B r) (ha : a.ok) (t : Nat) (ht : t < 4) : togBit (bStep r a).tog t = if t = a.t then a.g else togBit r.tog t := by
  unfold bStep
  have hb01 : togBit r.tog a.t = 0 ∨ togBit r.tog a.t = 1 := by unfold togBit; omega
  cases ho : bOpen r a
  · have : togBit r.tog a.t = a.g := by simpa [bOpen] using ho
    show togBit r.tog t = _
    split
    · rename_i e; rw [e]; exact this
    · rfl
  · have : togBit r.tog a.t ≠ a.g := by simpa [bOpen] using ho
    have e := togFlip_bit r.tog a.t t ha.1 ht h.g0 h.g1
    show togBit (togFlip r.tog a.t) t = _
    rw [e]
    split
    · have := ha.2.1; omega
    · rfl
theorem bR_bit : ∀ {l : List Ask} {B : Int} {r : Rec}, RecOK B r → AsksOK l → ∀ t, t < 4 → (∀ a ∈ l, a.t ≠ t) → togBit (bR r l).tog t = togBit r.tog t
  | [], B, r, _, _, t, _, _ => rfl
  | a :: l, B, r, h, ha, t, ht, hn => by
    have h1 := bR_bit (l := l) (bStep_ok h (ha a List.mem_cons_self)) ha.tail t ht (fun b hb => hn b (List.mem_cons_of_mem _ hb))
    have h2 := bStep_bit h (ha a List.mem_cons_self) t ht
    rw [if_neg (fun e => hn a List.mem_cons_self e.symm)] at h2
    exact h1.trans h2
/-- Once done, an ask of each thread is open no longer. -/
theorem bR_once : ∀ {l : List Ask} {B : Int} {r : Rec}, RecOK B r → AsksOK l → l.Pairwise (fun a b => a.t ≠ b.t) → ∀ a ∈ l, bOpen (bR r l) a = false
  | b :: l, B, r, h, ha, hp, a, hm => by
    have hb := ha b List.mem_cons_self
    have hs := bStep_ok h hb
    rw [List.pairwise_cons] at hp
    rcases List.mem_cons.1 hm with rfl | hm
    · have h1 := bR_bit hs ha.tail a.t hb.1 (fun c hc e => hp.1 c hc e.symm)
      have h2 := bStep_bit h hb a.t hb.1
      rw [if_pos rfl] at h2
      show (togBit (bR (bStep r a) l).tog a.t != a.g) = false
      rw [h1, h2]; simp
    · exact bR_once hs ha.tail hp.2 a hm
/-- An ask that is shut, among others of other threads. -/
theorem bR_closed {B : Int} {r : Rec} (h : RecOK B r) (l m : List Ask) (c : Ask) (hl : AsksOK l) (hc : c.t < 4) (hn : ∀ a ∈ l, a.t ≠ c.t) (hg : togBit r.tog c.t = c.g) :
    bR r (l ++ c :: m) = bR r (l ++ m) ∧ bD r (l ++ c :: m) = bD r (l ++ m) := by
  have hs : bOpen (bR r l) c = false := by
    unfold bOpen; rw [bR_bit h hl c.t hc hn, hg]; simp
  have h1 := bStep_shut hs
  rw [bR_append, bR_append, bD_append, bD_append]
  show bR (bStep (bR r l) c) m = _ ∧ bD r l ++ (bDs (bR r l) c ++ bD (bStep (bR r l) c) m) = _
  rw [h1.1, h1.2]; exact ⟨rfl, rfl⟩
/-- The asks that deeds make. -/
def asOne (z : Nat → Nat → Int) (i : Nat) : Ask := ⟨(pickZ (z i 0) 4).toNat, pickZ ((i : Int) + (z i 4).tmod 2 + 2) 2, z i 1, z i 2, z i 3⟩
def asTo (z : Nat → Nat → Int) : Nat → List Ask
  | 0 => []
  | i + 1 => bif opOk (z i 1) (z i 2) (z i 3) then asTo z i ++ [asOne z i] else asTo z i
theorem asTo_ok (z : Nat → Nat → Int) : ∀ n, AsksOK (asTo z n)
  | 0 => fun a h => by simp [asTo] at h
  | n + 1 => fun a h => by
    simp only [asTo] at h
    cases ho : opOk (z n 1) (z n 2) (z n 3)
    · rw [ho] at h; exact asTo_ok z n a h
    · rw [ho] at h
      rcases List.mem_append.1 h with h | h
      · exact asTo_ok z n a h
      · obtain rfl := List.mem_singleton.1 h
        refine ⟨pick4 _, ?_, ho⟩
        have h1 := pickZ_nonneg ((n : Int) + (z n 4).tmod 2 + 2) 2 (by decide)
        have h2 := pickZ_lt ((n : Int) + (z n 4).tmod 2 + 2) 2 (by decide)
        show pickZ _ 2 = 0 ∨ pickZ _ 2 = 1
        omega
theorem asTo_len (z : Nat → Nat → Int) : ∀ n, (asTo z n).length ≤ n
  | 0 => Nat.le_refl _
  | n + 1 => by
    have := asTo_len z n
    simp only [asTo]
    cases opOk (z n 1) (z n 2) (z n 3)
    · exact Nat.le_trans this (Nat.le_succ _)
    · rw [cond_true, List.length_append, List.length_singleton]; omega
/-! Records as runs of numbers. -/
theorem words_at {r : Rec} (h17 : r.obj.length = 17) (ha : r.ans.length = 4) (hw : r.whn.length = 4) (v : Int) : r.words.set 27 v = (r.at v).words := by
  obtain ⟨kind, obj, ans, whn, tog, ver, cnt⟩ := r
  dsimp only at h17 ha hw
  match obj, h17 with
  | [_, _, _, _, _, _, _, _, _, _, _, _, _, _, _, _, _], _ =>
    match ans, ha with
    | [_, _, _, _], _ =>
      match whn, hw with
      | [_, _, _, _], _ => rfl
theorem toN_at {B : Int} {r : Rec} {f : Nat → Int} (h : RecOK B r) (hf : toN 32 f = r.words) (v : Int) : toN 32 (fun i => bif Nat.beq i 27 then v else f i) = (r.at v).words := by
  rw [← words_at (objOK_len h.ok) h.a4 h.w4, ← hf, toN_set]
  refine toN_congr fun i hi => ?_
  by_cases e : i = 27
  · subst e; rfl
  · rw [if_neg e]
    cases hb : Nat.beq i 27
    · rfl
    · exact absurd (Nat.eq_of_beq_eq_true hb) e
theorem words_f {B : Int} {r : Rec} {f : Nat → Int} (h : RecOK B r) (hf : toN 32 f = r.words) : f 26 = r.tog ∧ f 27 = r.ver ∧ f 28 = r.cnt := by
  have g := fL_cnt r (objOK_len h.ok) h.a4 h.w4
  have e (i : Nat) (hi : i < 32) : f i = fL r.words i := by rw [← hf, fL_toN hi]
  exact ⟨(e 26 (by decide)).trans g.2.2, (e 27 (by decide)).trans g.2.1, (e 28 (by decide)).trans g.1⟩
/-- What is told of the deed that was done. -/
theorem done_told {B : Int} {r : Rec} (h : RecOK B r) (hB : B + 1 ≤ 1099511627776) (T : Nat) (hT : T < 4) (k key x : Int) (ho : opOk k key x = true) :
    fL (r.done T k key x).words (18 + T) / 4294967296 % 4294967296 = (objR r.kind r.obj k key x).2.1 ∧ fL (r.done T k key x).words (18 + T) % 4294967296 = (objR r.kind r.obj k key x).2.2 ∧
    ansOkB (fL (r.done T k key x).words (18 + T) / 4294967296 % 4294967296) (fL (r.done T k key x).words (18 + T) % 4294967296) = true := by
  have hA := (obj_law h.ok k key x ho).1
  have hw := ansW_c hA
  have eT := done_at h T hT k key x ho T hT
  rw [if_pos rfl, if_pos rfl] at eT
  rw [eT.1, hw.1, hw.2.1]
  exact ⟨rfl, rfl, (ansOkB_iff _ _).2 hA⟩
/-- The asks of the fact 'batched'. -/
def batL : List Ask := [⟨1, 1, 1, 0, 5⟩, ⟨1, 1, 1, 0, 5⟩, ⟨0, 0, 1, 0, 1⟩]
theorem batL_ok : AsksOK batL := by
  intro a h
  simp only [batL, List.mem_cons, List.not_mem_nil, or_false] at h
  rcases h with rfl | rfl | rfl <;> exact ⟨by decide, by decide, by decide⟩
theorem batL_d : bD (Rec.new 6) batL = [⟨1, 1, 0, 5, 1, 0⟩] := by rfl
theorem wrTo_ver (kind : Int) (z : Nat → Nat → Int) : ∀ i, (wrTo kind z i).ver = 0
  | 0 => rfl
  | i + 1 => by
    simp only [wrTo]
    cases opOk (z i 1) (z i 2) (z i 3)
    · exact wrTo_ver kind z i
    · exact wrTo_ver kind z i
theorem eqB {p : Prop} [Decidable p] (h : p) : (bif decide p then true else false) = true := by rw [decide_eq_true h]; rfl
end Go.Proofs.YtacgihekdmoceaaDoor
end
section
namespace Go.Proofs.YtacgihekdmoceaaDoor
open Go.RowKit
set_option linter.unusedVariables false
set_option maxRecDepth 100000
set_option maxHeartbeats 4000000
def tabB : Tab := [(3, .one (.int .i64 0) (.int .i64)),
  (4, .one (.bool false) .bool),
  (25, .one (.int .u64 0) (.int .u64)),
  (96, .one (.int .u64 0) (.int .u64)),
  (30, .str [.one (.v (.int .i64 0)), .one (.v (.int .i64 0)), .one (.v (.int .i64 0))] [(0, 1, false), (1, 1, false), (2, 1, false)]),
  (32, .str [.one (.v (.int .i64 0)), .one (.v (.int .i64 0))] [(0, 1, false), (1, 1, false)]),
  (38, .str [.one (.v (.int .i64 0)), .one (.v (.int .i64 0)), .one (.v (.int .i64 0)), .one (.v (.int .i64 0)), .one (.v (.int .i64 0)), .one (.v (.int .i64 0))] [(0, 1, false), (1, 3, true), (4, 2, true)]),
  (28, .one (.slice none 0 0) (.slice 38)),
  (52, .str [.one (.v (.int .i64 0)), .one (.v (.int .i64 0)), .one (.v (.int .i64 0)), .one (.v (.int .i64 0)), .one (.v (.int .i64 0))] [(0, 1, false), (1, 1, false), (2, 3, true)]),
  (49, .one (.slice none 0 0) (.slice 52)),
  (27, .arr [.ints (.int .u64) 17 (fun _ => 0)] 17 1 false),
  (44, .arr [.ints (.int .u64) 32 (fun _ => 0)] 32 1 false),
  (34, .one (.nilIface) .iface),
  (73, .one (.int .i64 0) (.int .i64))]
theorem tabB_ok : TabOk Tryd.prog tabB := .cons (⟨by kernel_rfl, by kernel_rfl, by kernel_rfl, by kernel_rfl, by kernel_rfl⟩) (.cons (⟨by kernel_rfl, by kernel_rfl, by kernel_rfl, by kernel_rfl, by kernel_rfl⟩) (.cons (⟨by kernel_rfl, by kernel_rfl, by kernel_rfl, by kernel_rfl, by kernel_rfl⟩) (.cons (⟨by kernel_rfl, by kernel_rfl, by kernel_rfl, by kernel_rfl, by kernel_rfl⟩) (.cons (⟨by kernel_rfl, by kernel_rfl, by kernel_rfl, by kernel_rfl⟩) (.cons (⟨by kernel_rfl, by kernel_rfl, by kernel_rfl, by kernel_rfl⟩) (.cons (⟨by kernel_rfl, by kernel_rfl, by kernel_rfl, by kernel_rfl⟩) (.cons (⟨by kernel_rfl, by kernel_rfl, by kernel_rfl, by kernel_rfl, by kernel_rfl⟩) (.cons (⟨by kernel_rfl, by kernel_rfl, by kernel_rfl, by kernel_rfl⟩) (.cons (⟨by kernel_rfl, by kernel_rfl, by kernel_rfl, by kernel_rfl, by kernel_rfl⟩) (.cons (⟨by kernel_rfl, by kernel_rfl, by kernel_rfl, by kernel_rfl⟩) (.cons (⟨by kernel_rfl, by kernel_rfl, by kernel_rfl, by kernel_rfl⟩) (.cons (⟨by kernel_rfl, by kernel_rfl, by kernel_rfl, by kernel_rfl, by kernel_rfl⟩) (.cons (⟨by kernel_rfl, by kernel_rfl, by kernel_rfl, by kernel_rfl, by kernel_rfl⟩) (TabOk.nil _))))))))))))))
theorem tabB_tys : TysOk Tryd.prog tabB := TysOk.of (by kernel_rfl) (by kernel_rfl)
abbrev rowsA (m c : Nat) (z : Nat → Nat → Int) : SB := .rows 52 [.int .i64, .int .i64, .int .i64, .int .i64, .int .i64] 5 m c z
abbrev rowsD (m c : Nat) (z : Nat → Nat → Int) : SB := .rows 38 [.int .i64, .int .i64, .int .i64, .int .i64, .int .i64, .int .i64] 6 m c z
abbrev nzD (t : Nat) : NZ := .tmp t 38 6 [.int .i64, .int .i64, .int .i64, .int .i64, .int .i64, .int .i64]
abbrev nzA (t : Nat) : NZ := .tmp t 52 5 [.int .i64, .int .i64, .int .i64, .int .i64, .int .i64]
def conOpen : PCon := ⟨fun args => match args with
  | [.a [.ints (.int .u64) n f], .a [.one (.v (.int .i64 t)), .one (.v (.int .i64 g)), .one (.v (.int .i64 a)), .one (.v (.int .i64 b)), .one (.v (.int .i64 c))]] => n = 32 ∧ 0 ≤ t ∧ t < 4 ∧ (g = 0 ∨ g = 1) ∧ 0 ≤ f 26 ∧ f 26 < 16
  | _ => False, fun args => match args with
  | [.a [.ints (.int .u64) n f], .a [.one (.v (.int .i64 t)), .one (.v (.int .i64 g)), .one (.v (.int .i64 a)), .one (.v (.int .i64 b)), .one (.v (.int .i64 c))]] => .t [.c (.v (.bool (togBit (f 26) t.toNat != g))), nilE]
  | _ => sv undef, fun _ => none⟩
theorem open_con : (Con.pure conOpen).holds Tryd.prog 22 := by
  refine pure_of_run2 (Γ := [(29, .pure conRToggle)]) Tryd.func22 rfl (by kernel_rfl) tabB_ok tabB_tys (fun W => .cons (rtoggle_con W _) (.nil _ _ _)) conOpen (fun _ => []) 400 ?_
  intro W args hp
  unfold conOpen at hp; dsimp only at hp; split at hp
  case h_2 => exact hp.elim
  rename_i n f t g a b c
  obtain ⟨rfl, h0, h4, hg, f0, f1⟩ := hp
  refine ⟨rfl, ?_⟩
  refine by_eq (q :=
      bif decide (t < (0 : Int)) then endP conOpen [SA.a [Seg.ints (.int .u64) 32 f], SA.a [Seg.one (.v (.int .i64 t)), Seg.one (.v (.int .i64 g)), Seg.one (.v (.int .i64 a)), Seg.one (.v (.int .i64 b)), Seg.one (.v (.int .i64 c))]] (SV.t [SA.c (.v (Value.bool false)), SA.c (.v (Value.iface 73 (Value.int .i64 (2 : Int))))]) [SB.cells [Seg.ints (.int .u64) 32 f] 44, SB.cells [Seg.one (.v (.int .i64 t)), Seg.one (.v (.int .i64 g)), Seg.one (.v (.int .i64 a)), Seg.one (.v (.int .i64 b)), Seg.one (.v (.int .i64 c))] 52] else bif decide (t ≥ (4 : Int)) then endP conOpen [SA.a [Seg.ints (.int .u64) 32 f], SA.a [Seg.one (.v (.int .i64 t)), Seg.one (.v (.int .i64 g)), Seg.one (.v (.int .i64 a)), Seg.one (.v (.int .i64 b)), Seg.one (.v (.int .i64 c))]] (SV.t [SA.c (.v (Value.bool false)), SA.c (.v (Value.iface 73 (Value.int .i64 (2 : Int))))]) [SB.cells [Seg.ints (.int .u64) 32 f] 44, SB.cells [Seg.one (.v (.int .i64 t)), Seg.one (.v (.int .i64 g)), Seg.one (.v (.int .i64 a)), Seg.one (.v (.int .i64 b)), Seg.one (.v (.int .i64 c))] 52] else bif g != (0 : Int) then bif g != (1 : Int) then endP conOpen [SA.a [Seg.ints (.int .u64) 32 f], SA.a [Seg.one (.v (.int .i64 t)), Seg.one (.v (.int .i64 g)), Seg.one (.v (.int .i64 a)), Seg.one (.v (.int .i64 b)), Seg.one (.v (.int .i64 c))]] (SV.t [SA.c (.v (Value.bool false)), SA.c (.v (Value.iface 73 (Value.int .i64 (1 : Int))))]) [SB.cells [Seg.ints (.int .u64) 32 f] 44, SB.cells [Seg.one (.v (.int .i64 t)), Seg.one (.v (.int .i64 g)), Seg.one (.v (.int .i64 a)), Seg.one (.v (.int .i64 b)), Seg.one (.v (.int .i64 c))] 52] else (32 = 32 ∧ (0 : Int) ≤ t ∧ t < (4 : Int) ∧ (0 : Int) ≤ f 26 ∧ f 26 < (16 : Int)) ∧ drawP Tryd.f22 5 (regOps Tryd.f22 5) 2 [HX.mk 8 [] [] [] false, HX.mk 7 [] [] [] false, HX.mk 6 [] [] [] false, HX.mk 5 [1] [] [] false, HX.mk 4 [] [] [1] false, HX.mk 3 [] [] [] false, HX.mk 2 [1] [] [] false, HX.mk 1 [] [] [1] false, HX.mk 0 [0] [] [] false] ∧ endP conOpen [SA.a [Seg.ints (.int .u64) 32 f], SA.a [Seg.one (.v (.int .i64 t)), Seg.one (.v (.int .i64 g)), Seg.one (.v (.int .i64 a)), Seg.one (.v (.int .i64 b)), Seg.one (.v (.int .i64 c))]] (SV.t [SA.c (.v (Value.bool (togBit (f 26) (Int.toNat t) != g))), SA.c (.v Value.nilIface)]) [SB.cells [Seg.ints (.int .u64) 32 f] 44, SB.cells [Seg.one (.v (.int .i64 t)), Seg.one (.v (.int .i64 g)), Seg.one (.v (.int .i64 a)), Seg.one (.v (.int .i64 b)), Seg.one (.v (.int .i64 c))] 52] else (32 = 32 ∧ (0 : Int) ≤ t ∧ t < (4 : Int) ∧ (0 : Int) ≤ f 26 ∧ f 26 < (16 : Int)) ∧ drawP Tryd.f22 5 (regOps Tryd.f22 5) 2 [HX.mk 8 [] [] [] false, HX.mk 7 [] [] [] false, HX.mk 6 [] [] [] false, HX.mk 5 [1] [] [] false, HX.mk 4 [] [] [1] false, HX.mk 3 [] [] [] false, HX.mk 2 [1] [] [] false, HX.mk 1 [] [] [1] false, HX.mk 0 [0] [] [] false] ∧ endP conOpen [SA.a [Seg.ints (.int .u64) 32 f], SA.a [Seg.one (.v (.int .i64 t)), Seg.one (.v (.int .i64 g)), Seg.one (.v (.int .i64 a)), Seg.one (.v (.int .i64 b)), Seg.one (.v (.int .i64 c))]] (SV.t [SA.c (.v (Value.bool (togBit (f 26) (Int.toNat t) != g))), SA.c (.v Value.nilIface)]) [SB.cells [Seg.ints (.int .u64) 32 f] 44, SB.cells [Seg.one (.v (.int .i64 t)), Seg.one (.v (.int .i64 g)), Seg.one (.v (.int .i64 a)), Seg.one (.v (.int .i64 b)), Seg.one (.v (.int .i64 c))] 52]) (by kernel_rfl) ?_
  have hd : (32 = 32 ∧ 0 ≤ t ∧ t < 4 ∧ 0 ≤ f 26 ∧ f 26 < 16) := ⟨rfl, h0, h4, f0, f1⟩
  refine by_dec (fun h => absurd h (by omega)) (fun _ => by_dec (fun h => absurd h (by omega)) (fun _ => by_bne (fun h => by_bne (fun h => absurd hg (by omega)) (fun _ => ?_)) (fun _ => ?_)))
  · exact ⟨hd, draw_of (by kernel_rfl), rfl, fun ρ => rfl⟩
  · exact ⟨hd, draw_of (by kernel_rfl), rfl, fun ρ => rfl⟩
theorem OldOk.none (w : World) {ρ : Nat → Nat} {k : Nat} : OldOk w w (feet (denM ρ k [])) := fun sz ks a m c z w' h k => h.below (k.below (Nat.le_refl _) (fun g ⟨e, he, _⟩ => absurd he List.not_mem_nil))
/-- The asks that deeds make, which lie in memory from the beginning. -/
structure AskS where
  a : Option Addr
  n : Nat
  c : Nat
  z : Nat → Nat → Int
def conAsks (W : World) : MCon where
  σ := AskS
  χ := LstR
  pre s := Rws 6 (fun _ => .i64) W s.a s.n s.c s.z
  args s := [.c (.r s.a s.n s.c s.n 6 (fun _ => .i64) s.z)]
  mem s := []
  ok s x := ((asTo s.z (min s.n 12)).length ≤ x.m ∧ x.m ≤ x.c) ∧ IsA x.z (asTo s.z (min s.n 12))
  val s x := .o (.c (.so 0 0 5 (asTo s.z (min s.n 12)).length x.c x.nn))
  mem' s x := [rowsA x.m x.c x.z]
  k := 0
  len := 1
  det := none
  find args M := some []
structure AsG (s : AskS) where
  i : Nat
  m : Nat
  c : Nat
  nn : Bool
  z : Nat → Nat → Int
  hi : i ≤ min s.n 12
  hm : (asTo s.z i).length ≤ m ∧ m ≤ c
  hz : IsA z (asTo s.z i)
def annAsks (s : AskS) : Ann where
  σ := AsG s
  I g := ([(3, .o (.c (.so 0 0 5 (asTo s.z g.i).length g.c g.nn))), (10, .o (.c (.r s.a (min s.n 12) s.c s.n 6 (fun _ => .i64) s.z))), (11, sv (.int .i64 (min s.n 12 : Nat))), (12, sv (.int .i64 g.i))], [rowsA g.m g.c g.z])
  dec g := min s.n 12 - g.i
  pi env _ := [blkE env 3]
  nz := [nzA 3]
theorem asks_con (W : World) : (Con.mem (conAsks W)).holdsAt Tryd.prog W (fun _ => False) 19 := by
  refine mem_of_run2 (Γ := [(24, .pure conOpRight), (13, .pure conPick)]) (fun w => w) Tryd.func19 rfl (by kernel_rfl) tabB_ok tabB_tys (fun w S' _ _ => .cons (opRight_con w _) (.cons (pick_con w _) (.nil _ _ _))) (conAsks W) (fun s => [(19, [(0, annAsks s)])]) (fun x0 h => by cases h)
    (fun s ρ w _ _ _ => OldOk.none w) [nzA 0] rpL 400 ?_
  rintro ⟨a, n, c, z⟩ w hr hK
  refine ⟨rfl, ?_⟩
  have hr := Rws.below hr (hK.below (Nat.le_refl _) (fun _ h => h.elim))
  have hc := hr.1
  dsimp only at hr hc
  refine by_eq (q :=
      (((0 : Int) ≤ if (12 : Int) < (↑n : Int) then (12 : Int) else (↑n : Int)) ∧ (if (12 : Int) < (↑n : Int) then (12 : Int) else (↑n : Int)) ≤ (↑c : Int)) ∧ (∃ (s0 : Ann.σ (annAsks (AskS.mk a n c z))), (some (SV.o (SA.c (.so 0 0 5 0 0 false))) = some (SV.o (SA.c (.so 0 0 5 (List.length (asTo z s0.1)) s0.3 s0.4))) ∧ some (SV.o (SA.c (.r a (Int.toNat (if (12 : Int) < (↑n : Int) then (12 : Int) else (↑n : Int))) c n 6 (fun (x : Nat) => .i64) z))) = some (SV.o (SA.c (.r a (min n 12) c n 6 (fun (x : Nat) => .i64) z))) ∧ some (SV.o (SA.c (.v (Value.int .i64 (↑(Int.toNat (if (12 : Int) < (↑n : Int) then (12 : Int) else (↑n : Int))) : Int))))) = some (SV.o (SA.c (.v (Value.int .i64 (↑(min n 12) : Int))))) ∧ some (SV.o (SA.c (.v (Value.int .i64 (0 : Int))))) = some (SV.o (SA.c (.v (Value.int .i64 (↑s0.1 : Int))))) ∧ True) ∧ [SB.rows 52 [.int .i64, .int .i64, .int .i64, .int .i64, .int .i64] 5 0 0 fun (x x_1 : Nat) => (0 : Int)] = [SB.rows 52 [.int .i64, .int .i64, .int .i64, .int .i64, .int .i64] 5 s0.2 s0.3 s0.5]) ∧ ∀ (s : AsG (AskS.mk a n c z)), bif decide ((↑s.1 : Int) < (↑(min n 12) : Int)) then (Rws 6 (fun (x : Nat) => .i64) w (AskS.a (AskS.mk a n c z)) (AskS.n (AskS.mk a n c z)) c z ∧ (0 : Int) ≤ (↑s.1 : Int) ∧ (↑s.1 : Int) < (↑(min n 12) : Int) ∧ Int.toNat (↑s.1 : Int) < n) ∧ (Rws 6 (fun (x : Nat) => .i64) w a n c z ∧ Int.toNat (↑s.1 : Int) < n) ∧ True ∧ bif opOk (z (Int.toNat (↑s.1 : Int)) 1) (z (Int.toNat (↑s.1 : Int)) 2) (z (Int.toNat (↑s.1 : Int)) 3) then ((0 : Int) < (4 : Int) ∧ (4 : Int) ≤ (9223372036854775807 : Int)) ∧ (2 : Int) ≠ (0 : Int) ∧ ((0 : Int) < (2 : Int) ∧ (2 : Int) ≤ (9223372036854775807 : Int)) ∧ drawP Tryd.f19 6 (regOps Tryd.f19 6) 2 [HX.mk 16 [2] [0, 3] [] true, HX.mk 15 [] [2] [2] false, HX.mk 14 [] [] [] false, HX.mk 13 [1] [] [] false, HX.mk 12 [] [] [1] false, HX.mk 11 [] [] [] false, HX.mk 10 [] [] [] false, HX.mk 9 [] [] [] false, HX.mk 8 [] [] [] false, HX.mk 7 [1] [] [] false, HX.mk 6 [] [] [1] false, HX.mk 5 [] [] [1] false, HX.mk 4 [] [] [] false, HX.mk 3 [] [] [] false, HX.mk 2 [1] [] [] false, HX.mk 1 [] [] [1] false, HX.mk 0 [] [] [0] false] ∧ ((List.length (asTo z s.1) ≤ s.2 ∧ s.3 = s.3) ∧ (1 ≤ 1 ∧ 1 = 1) ∧ List.length (asTo z s.1) + 1 ≤ 68719476736) ∧ ∀ (c_1 : Nat), List.length (asTo z s.1) + 1 ≤ c_1 → drawP Tryd.f19 6 (regOps Tryd.f19 6) 2 [HX.mk 17 [] [] [3] false, HX.mk 16 [2] [0, 3] [3] true, HX.mk 15 [] [2] [2] false, HX.mk 14 [] [] [] false, HX.mk 13 [1] [] [] false, HX.mk 12 [] [] [1] false, HX.mk 11 [] [] [] false, HX.mk 10 [] [] [] false, HX.mk 9 [] [] [] false, HX.mk 8 [] [] [] false, HX.mk 7 [1] [] [] false, HX.mk 6 [] [] [1] false, HX.mk 5 [] [] [1] false, HX.mk 4 [] [] [] false, HX.mk 3 [] [] [] false, HX.mk 2 [1] [] [] false, HX.mk 1 [] [] [1] false, HX.mk 0 [] [] [0] false] ∧ ∃ (s' : AsG (AskS.mk a n c z)), ((some (SV.o (SA.c (.so 3 0 5 (List.length (asTo z s.1) + 1) c_1 s.4))) = some (SV.o (SA.c (.so 3 0 5 (List.length (asTo z s'.1)) s'.3 s'.4))) ∧ some (SV.o (SA.c (.r a (min n 12) c n 6 (fun (x : Nat) => .i64) z))) = some (SV.o (SA.c (.r a (min n 12) c n 6 (fun (x : Nat) => .i64) z))) ∧ some (SV.o (SA.c (.v (Value.int .i64 (↑(min n 12) : Int))))) = some (SV.o (SA.c (.v (Value.int .i64 (↑(min n 12) : Int))))) ∧ some (SV.o (SA.c (.v (Value.int .i64 (IntKind.wrap .i64 ((↑s.1 : Int) + (1 : Int))))))) = some (SV.o (SA.c (.v (Value.int .i64 (↑s'.1 : Int))))) ∧ True) ∧ [SB.rows 52 [.int .i64, .int .i64, .int .i64, .int .i64, .int .i64] 5 (List.length (asTo z s.1) + 1) c_1 fun (i j : Nat) => bif Nat.ble (i + 1) (List.length (asTo z s.1)) then s.5 i j else match List.get?Internal (match List.get?Internal [[pickZ (z (Int.toNat (↑s.1 : Int)) 0) (4 : Int), pickZ (IntKind.wrap .i64 (IntKind.wrap .i64 ((↑s.1 : Int) + Int.tmod (z (Int.toNat (↑s.1 : Int)) 4) (2 : Int)) + (2 : Int))) (2 : Int), z (Int.toNat (↑s.1 : Int)) 1, z (Int.toNat (↑s.1 : Int)) 2, z (Int.toNat (↑s.1 : Int)) 3]] (0 + (i - List.length (asTo z s.1))) with | some x => x | none => []) j with | some x => x | none => (0 : Int)] = [SB.rows 52 [.int .i64, .int .i64, .int .i64, .int .i64, .int .i64] 5 s'.2 s'.3 s'.5]) ∧ min n 12 - s'.1 < min n 12 - s.1 else ∃ (s' : AsG (AskS.mk a n c z)), ((some (SV.o (SA.c (.so 0 0 5 (List.length (asTo z s.1)) s.3 s.4))) = some (SV.o (SA.c (.so 0 0 5 (List.length (asTo z s'.1)) s'.3 s'.4))) ∧ some (SV.o (SA.c (.r a (min n 12) c n 6 (fun (x : Nat) => .i64) z))) = some (SV.o (SA.c (.r a (min n 12) c n 6 (fun (x : Nat) => .i64) z))) ∧ some (SV.o (SA.c (.v (Value.int .i64 (↑(min n 12) : Int))))) = some (SV.o (SA.c (.v (Value.int .i64 (↑(min n 12) : Int))))) ∧ some (SV.o (SA.c (.v (Value.int .i64 (IntKind.wrap .i64 ((↑s.1 : Int) + (1 : Int))))))) = some (SV.o (SA.c (.v (Value.int .i64 (↑s'.1 : Int))))) ∧ True) ∧ [SB.rows 52 [.int .i64, .int .i64, .int .i64, .int .i64, .int .i64] 5 s.2 s.3 s.5] = [SB.rows 52 [.int .i64, .int .i64, .int .i64, .int .i64, .int .i64] 5 s'.2 s'.3 s'.5]) ∧ min n 12 - s'.1 < min n 12 - s.1 else endN (conAsks W) [nzA 0] rpL (AskS.mk a n c z) (SV.o (SA.c (.so 0 0 5 (List.length (asTo z s.1)) s.3 s.4))) [SB.rows 52 [.int .i64, .int .i64, .int .i64, .int .i64, .int .i64] 5 s.2 s.3 s.5]) (by kernel_rfl) ?_
  have e12 : (if (12 : Int) < (n : Int) then (12 : Int) else (n : Int)) = ((min n 12 : Nat) : Int) := by split <;> omega
  rw [e12, Int.toNat_natCast]
  refine ⟨⟨by omega, by omega⟩, ⟨⟨0, 0, 0, false, _, Nat.zero_le _, ⟨Nat.le_refl _, Nat.le_refl _⟩, fun i hi => absurd hi (Nat.not_lt_zero _)⟩, ⟨rfl, rfl, rfl, rfl, trivial⟩, rfl⟩, ?_⟩
  rintro ⟨i, m1, c1, nn, z1, hi, hm, hz⟩
  dsimp only at hi hm hz ⊢
  have hl := asTo_len z i
  refine by_dec (fun hlt => ?_) (fun hge => ?_)
  · rw [Int.toNat_natCast]
    refine ⟨⟨hr, by omega, hlt, by omega⟩, ⟨hr, by omega⟩, trivial, by_cond (fun ho => ?_) (fun ho => ?_)⟩
    · have ht : -1 ≤ (z i 4).tmod 2 ∧ (z i 4).tmod 2 ≤ 1 := by
        rcases Int.le_total 0 (z i 4) with h | h
        · rw [Int.tmod_eq_emod_of_nonneg h]; omega
        · have : (z i 4).tmod 2 = -((-(z i 4)).tmod 2) := by rw [Int.neg_tmod]; omega
          rw [this, Int.tmod_eq_emod_of_nonneg (by omega)]; omega
      rw [wrapI (x := (i : Int) + (z i 4).tmod 2) (by omega) (by omega), wrapI (x := (i : Int) + (z i 4).tmod 2 + 2) (by omega) (by omega)]
      have e : asTo z (i + 1) = asTo z i ++ [asOne z i] := by simp only [asTo, ho, cond_true]
      have el : (asTo z (i + 1)).length = (asTo z i).length + 1 := by rw [e, List.length_append]; rfl
      have p0 := pickZ_nonneg (z i 0) 4 (by decide)
      refine ⟨⟨by decide, by decide⟩, by decide, ⟨by decide, by decide⟩, draw_of (by kernel_rfl), ⟨⟨hm.1, rfl⟩, ⟨Nat.le_refl _, rfl⟩, by omega⟩, fun c' hc' => ⟨draw_of (by kernel_rfl), ⟨i + 1, (asTo z i).length + 1, c', nn, _, (by omega : i + 1 ≤ min n 12), ⟨by show (asTo z (i + 1)).length ≤ _; omega, hc'⟩, ?_⟩, ⟨⟨congrArg (fun k => some (SV.o (SA.c (SC.so 3 0 5 k c' nn)))) el.symm, rfl, rfl, svI (sucI (by omega)), trivial⟩, rfl⟩, by dsimp only; omega⟩⟩
      show IsA _ (asTo z (i + 1))
      rw [e]
      refine hz.snoc (fun j hj k => catT hj) ⟨?_, ?_, ?_, ?_, ?_⟩
      · refine catF.trans ?_
        rw [Nat.sub_self]; show pickZ (z i 0) 4 = ((pickZ (z i 0) 4).toNat : Int); omega
      all_goals exact catF.trans (by rw [Nat.sub_self]; rfl)
    · have e : asTo z (i + 1) = asTo z i := by simp only [asTo, ho, cond_false]
      exact ⟨⟨i + 1, m1, c1, nn, z1, (by omega : i + 1 ≤ min n 12), by rw [e]; exact hm, by rw [e]; exact hz⟩, ⟨⟨congrArg (fun k => some (SV.o (SA.c (SC.so 0 0 5 k c1 nn)))) (congrArg List.length e).symm, rfl, rfl, svI (sucI (by omega)), trivial⟩, rfl⟩, by dsimp only; omega⟩
  · obtain rfl : i = min n 12 := by omega
    exact endN_of (x' := .o (.c (.so 0 0 5 (asTo z (min n 12)).length c1 nn))) (M' := [rowsA m1 c1 z1]) rfl ⟨m1, c1, nn, z1⟩ ⟨hm, hz⟩ rfl rfl rfl
/-- A batch. -/
structure BdS where
  r : Rec
  f : Nat → Int
  l : List Ask
  lo : Nat
  m : Nat
  c : Nat
  nn : Bool
  z : Nat → Nat → Int
structure BdR where
  f : Nat → Int
  m : Nat
  c : Nat
  nn : Bool
  z : Nat → Nat → Int
abbrev BdS.pre (s : BdS) : Prop := (RecOK 1099511000000 s.r ∧ toN 32 s.f = s.r.words) ∧ AsksOK s.l ∧ s.l.length ≤ 100 ∧ (s.lo + s.l.length ≤ s.m ∧ s.m ≤ s.c) ∧ IsA (fun i => s.z (s.lo + i)) s.l
def conBDo : MCon where
  σ := BdS
  χ := BdR
  pre s := s.pre
  args s := [recA s.f, .c (.so 0 s.lo 5 s.l.length s.c s.nn)]
  mem s := [rowsA s.m s.c s.z]
  ok s x := ((bD s.r s.l).length ≤ x.m ∧ x.m ≤ x.c) ∧ IsD x.z (bD s.r s.l) ∧ toN 32 x.f = (bDo s.r s.l).words
  val s x := .t [recA x.f, .c (.so 1 0 6 (bD s.r s.l).length x.c x.nn), nilE]
  mem' s x := [rowsA s.m s.c s.z, rowsD x.m x.c x.z]
  k := 1
  len := 2
  det := none
  find args M := some (blkA args)
structure BdG (s : BdS) where
  i : Nat
  f : Nat → Int
  m : Nat
  c : Nat
  nn : Bool
  z : Nat → Nat → Int
  hi : i ≤ s.l.length
  hf : toN 32 f = (bR s.r (s.l.take i)).words
  hm : (bD s.r (s.l.take i)).length ≤ m ∧ m ≤ c
  hz : IsD z (bD s.r (s.l.take i))
def annBDo (s : BdS) : Ann where
  σ := BdG s
  I g := ([(2, .o (.c (.p 1 0))), (4, .o (.c (.p 2 0))), (7, .o (.c (.so 3 0 6 (bD s.r (s.l.take g.i)).length g.c g.nn))), (20, .o (.c (.so 0 s.lo 5 s.l.length s.c s.nn))), (21, sv (.int .i64 s.l.length)), (22, sv (.int .i64 g.i))], [rowsA s.m s.c s.z, recB g.f, recB (fun _ => 0), rowsD g.m g.c g.z])
  dec g := s.l.length - g.i
  pi env _ := [0, blkE env 2, blkE env 4, blkE env 7]
  nz := [nzD 7]
def rpB : SV → List SB → List Nat := fun x M => match x with
  | .t [_, .c (.so b _ _ _ _ _), _] => [0, b]
  | _ => []
theorem bdo_con : (Con.mem conBDo).holds Tryd.prog 18 := by
  intro w0 S
  refine mem_of_run2 (Γ := [(33, .pure conRRight), (22, .pure conOpen), (51, .pure conRDone), (52, .pure conRAnswer)]) (fun _ => noW) Tryd.func18 rfl (by kernel_rfl) tabB_ok tabB_tys
    (fun w S' _ _ => .cons (rright_con w _) (.cons (open_con w _) (.cons (rdone_con w _) (.cons (ranswer_con w _) (.nil _ _ _))))) conBDo (fun s => [(18, [(0, annBDo s)])]) (fun x0 h => by cases h) (fun s ρ w _ _ _ => noW_old w _) [nzD 1] rpB 400 ?_
  rintro ⟨r, f, l, lo, m, c, nn, z⟩ w ⟨⟨hr, hf⟩, ha, h3, ⟨hm, hc⟩, hz⟩ -
  refine ⟨rfl, ?_⟩
  dsimp only at hr hf ha h3 hm hc hz
  refine by_eq (q :=
      (32 = 32 ∧ RecW f) ∧ List.length l ≤ c ∧ (∃ (s0 : Ann.σ (annBDo (BdS.mk r f l lo m c nn z))), (some (SV.o (SA.c (.p 1 0))) = some (SV.o (SA.c (.p 1 0))) ∧ some (SV.o (SA.c (.p 2 0))) = some (SV.o (SA.c (.p 2 0))) ∧ some (SV.o (SA.c (.so 3 0 6 0 0 false))) = some (SV.o (SA.c (.so 3 0 6 (List.length (bD r (List.take s0.1 l))) s0.4 s0.5))) ∧ some (SV.o (SA.c (.so 0 lo 5 (List.length l) c nn))) = some (SV.o (SA.c (.so 0 lo 5 (List.length l) c nn))) ∧ some (SV.o (SA.c (.v (Value.int .i64 (↑(List.length l) : Int))))) = some (SV.o (SA.c (.v (Value.int .i64 (↑(List.length l) : Int))))) ∧ some (SV.o (SA.c (.v (Value.int .i64 (0 : Int))))) = some (SV.o (SA.c (.v (Value.int .i64 (↑s0.1 : Int))))) ∧ True) ∧ [SB.rows 52 [.int .i64, .int .i64, .int .i64, .int .i64, .int .i64] 5 m c z, SB.cells [Seg.ints (.int .u64) 32 f] 44, SB.cells [Seg.ints (.int .u64) 32 fun (x : Nat) => (0 : Int)] 44, SB.rows 38 [.int .i64, .int .i64, .int .i64, .int .i64, .int .i64, .int .i64] 6 0 0 fun (x x_1 : Nat) => (0 : Int)] = [SB.rows 52 [.int .i64, .int .i64, .int .i64, .int .i64, .int .i64] 5 m c z, SB.cells [Seg.ints (.int .u64) 32 s0.2] 44, SB.cells [Seg.ints (.int .u64) 32 fun (x : Nat) => (0 : Int)] 44, SB.rows 38 [.int .i64, .int .i64, .int .i64, .int .i64, .int .i64, .int .i64] 6 s0.3 s0.4 s0.6]) ∧ ∀ (s : BdG (BdS.mk r f l lo m c nn z)), bif decide ((↑s.1 : Int) < (↑(List.length l) : Int)) then ((0 : Int) ≤ (↑s.1 : Int) ∧ (↑s.1 : Int) < (↑(List.length l) : Int) ∧ lo + List.length l ≤ c) ∧ lo + Int.toNat (↑s.1 : Int) < m ∧ (32 = 32 ∧ (0 : Int) ≤ z (lo + Int.toNat (↑s.1 : Int)) 0 ∧ z (lo + Int.toNat (↑s.1 : Int)) 0 < (4 : Int) ∧ (z (lo + Int.toNat (↑s.1 : Int)) 1 = (0 : Int) ∨ z (lo + Int.toNat (↑s.1 : Int)) 1 = (1 : Int)) ∧ (0 : Int) ≤ s.2 26 ∧ s.2 26 < (16 : Int)) ∧ bif bif togBit (s.2 26) (Int.toNat (z (lo + Int.toNat (↑s.1 : Int)) 0)) != z (lo + Int.toNat (↑s.1 : Int)) 1 then false else true then ∃ (s' : BdG (BdS.mk r f l lo m c nn z)), ((some (SV.o (SA.c (.p 1 0))) = some (SV.o (SA.c (.p 1 0))) ∧ some (SV.o (SA.c (.p 2 0))) = some (SV.o (SA.c (.p 2 0))) ∧ some (SV.o (SA.c (.so 3 0 6 (List.length (bD r (List.take s.1 l))) s.4 s.5))) = some (SV.o (SA.c (.so 3 0 6 (List.length (bD r (List.take s'.1 l))) s'.4 s'.5))) ∧ some (SV.o (SA.c (.so 0 lo 5 (List.length l) c nn))) = some (SV.o (SA.c (.so 0 lo 5 (List.length l) c nn))) ∧ some (SV.o (SA.c (.v (Value.int .i64 (↑(List.length l) : Int))))) = some (SV.o (SA.c (.v (Value.int .i64 (↑(List.length l) : Int))))) ∧ some (SV.o (SA.c (.v (Value.int .i64 (IntKind.wrap .i64 ((↑s.1 : Int) + (1 : Int))))))) = some (SV.o (SA.c (.v (Value.int .i64 (↑s'.1 : Int))))) ∧ True) ∧ [SB.rows 52 [.int .i64, .int .i64, .int .i64, .int .i64, .int .i64] 5 m c z, SB.cells [Seg.ints (.int .u64) 32 s.2] 44, SB.cells [Seg.ints (.int .u64) 32 fun (x : Nat) => (0 : Int)] 44, SB.rows 38 [.int .i64, .int .i64, .int .i64, .int .i64, .int .i64, .int .i64] 6 s.3 s.4 s.6] = [SB.rows 52 [.int .i64, .int .i64, .int .i64, .int .i64, .int .i64] 5 m c z, SB.cells [Seg.ints (.int .u64) 32 s'.2] 44, SB.cells [Seg.ints (.int .u64) 32 fun (x : Nat) => (0 : Int)] 44, SB.rows 38 [.int .i64, .int .i64, .int .i64, .int .i64, .int .i64, .int .i64] 6 s'.3 s'.4 s'.6]) ∧ List.length l - s'.1 < List.length l - s.1 else (32 = 32 ∧ RecW s.2 ∧ (0 : Int) ≤ z (lo + Int.toNat (↑s.1 : Int)) 0 ∧ z (lo + Int.toNat (↑s.1 : Int)) 0 < (4 : Int)) ∧ bif opOk (z (lo + Int.toNat (↑s.1 : Int)) 2) (z (lo + Int.toNat (↑s.1 : Int)) 3) (z (lo + Int.toNat (↑s.1 : Int)) 4) then (32 = 32 ∧ (0 : Int) ≤ z (lo + Int.toNat (↑s.1 : Int)) 0 ∧ z (lo + Int.toNat (↑s.1 : Int)) 0 < (4 : Int) ∧ U64 (fL (Rec.words (Rec.done (Rec.ofW (toN 32 s.2)) (Int.toNat (z (lo + Int.toNat (↑s.1 : Int)) 0)) (z (lo + Int.toNat (↑s.1 : Int)) 2) (z (lo + Int.toNat (↑s.1 : Int)) 3) (z (lo + Int.toNat (↑s.1 : Int)) 4))) (18 + Int.toNat (z (lo + Int.toNat (↑s.1 : Int)) 0))) ∧ (0 : Int) ≤ fL (Rec.words (Rec.done (Rec.ofW (toN 32 s.2)) (Int.toNat (z (lo + Int.toNat (↑s.1 : Int)) 0)) (z (lo + Int.toNat (↑s.1 : Int)) 2) (z (lo + Int.toNat (↑s.1 : Int)) 3) (z (lo + Int.toNat (↑s.1 : Int)) 4))) (22 + Int.toNat (z (lo + Int.toNat (↑s.1 : Int)) 0)) ∧ fL (Rec.words (Rec.done (Rec.ofW (toN 32 s.2)) (Int.toNat (z (lo + Int.toNat (↑s.1 : Int)) 0)) (z (lo + Int.toNat (↑s.1 : Int)) 2) (z (lo + Int.toNat (↑s.1 : Int)) 3) (z (lo + Int.toNat (↑s.1 : Int)) 4))) (22 + Int.toNat (z (lo + Int.toNat (↑s.1 : Int)) 0)) ≤ (9223372036854775807 : Int)) ∧ bif ansOkB (fL (Rec.words (Rec.done (Rec.ofW (toN 32 s.2)) (Int.toNat (z (lo + Int.toNat (↑s.1 : Int)) 0)) (z (lo + Int.toNat (↑s.1 : Int)) 2) (z (lo + Int.toNat (↑s.1 : Int)) 3) (z (lo + Int.toNat (↑s.1 : Int)) 4))) (18 + Int.toNat (z (lo + Int.toNat (↑s.1 : Int)) 0)) / (4294967296 : Int) % (4294967296 : Int)) (fL (Rec.words (Rec.done (Rec.ofW (toN 32 s.2)) (Int.toNat (z (lo + Int.toNat (↑s.1 : Int)) 0)) (z (lo + Int.toNat (↑s.1 : Int)) 2) (z (lo + Int.toNat (↑s.1 : Int)) 3) (z (lo + Int.toNat (↑s.1 : Int)) 4))) (18 + Int.toNat (z (lo + Int.toNat (↑s.1 : Int)) 0)) % (4294967296 : Int)) then ((List.length (bD r (List.take s.1 l)) ≤ s.3 ∧ s.4 = s.4) ∧ (1 ≤ 1 ∧ 1 = 1) ∧ List.length (bD r (List.take s.1 l)) + 1 ≤ 68719476736) ∧ ∀ (c_1 : Nat), List.length (bD r (List.take s.1 l)) + 1 ≤ c_1 → ∃ (s' : BdG (BdS.mk r f l lo m c nn z)), ((some (SV.o (SA.c (.p 1 0))) = some (SV.o (SA.c (.p 1 0))) ∧ some (SV.o (SA.c (.p 2 0))) = some (SV.o (SA.c (.p 2 0))) ∧ some (SV.o (SA.c (.so 7 0 6 (List.length (bD r (List.take s.1 l)) + 1) c_1 s.5))) = some (SV.o (SA.c (.so 7 0 6 (List.length (bD r (List.take s'.1 l))) s'.4 s'.5))) ∧ some (SV.o (SA.c (.so 0 lo 5 (List.length l) c nn))) = some (SV.o (SA.c (.so 0 lo 5 (List.length l) c nn))) ∧ some (SV.o (SA.c (.v (Value.int .i64 (↑(List.length l) : Int))))) = some (SV.o (SA.c (.v (Value.int .i64 (↑(List.length l) : Int))))) ∧ some (SV.o (SA.c (.v (Value.int .i64 (IntKind.wrap .i64 ((↑s.1 : Int) + (1 : Int))))))) = some (SV.o (SA.c (.v (Value.int .i64 (↑s'.1 : Int))))) ∧ True) ∧ [SB.rows 52 [.int .i64, .int .i64, .int .i64, .int .i64, .int .i64] 5 m c z, SB.cells [Seg.ints (.int .u64) 32 (fL (Rec.words (Rec.done (Rec.ofW (toN 32 s.2)) (Int.toNat (z (lo + Int.toNat (↑s.1 : Int)) 0)) (z (lo + Int.toNat (↑s.1 : Int)) 2) (z (lo + Int.toNat (↑s.1 : Int)) 3) (z (lo + Int.toNat (↑s.1 : Int)) 4))))] 44, SB.cells [Seg.ints (.int .u64) 32 fun (x : Nat) => (0 : Int)] 44, SB.rows 38 [.int .i64, .int .i64, .int .i64, .int .i64, .int .i64, .int .i64] 6 (List.length (bD r (List.take s.1 l)) + 1) c_1 fun (i j : Nat) => bif Nat.ble (i + 1) (List.length (bD r (List.take s.1 l))) then s.6 i j else match List.get?Internal (match List.get?Internal [[z (lo + Int.toNat (↑s.1 : Int)) 0, z (lo + Int.toNat (↑s.1 : Int)) 2, z (lo + Int.toNat (↑s.1 : Int)) 3, z (lo + Int.toNat (↑s.1 : Int)) 4, fL (Rec.words (Rec.done (Rec.ofW (toN 32 s.2)) (Int.toNat (z (lo + Int.toNat (↑s.1 : Int)) 0)) (z (lo + Int.toNat (↑s.1 : Int)) 2) (z (lo + Int.toNat (↑s.1 : Int)) 3) (z (lo + Int.toNat (↑s.1 : Int)) 4))) (18 + Int.toNat (z (lo + Int.toNat (↑s.1 : Int)) 0)) / (4294967296 : Int) % (4294967296 : Int), fL (Rec.words (Rec.done (Rec.ofW (toN 32 s.2)) (Int.toNat (z (lo + Int.toNat (↑s.1 : Int)) 0)) (z (lo + Int.toNat (↑s.1 : Int)) 2) (z (lo + Int.toNat (↑s.1 : Int)) 3) (z (lo + Int.toNat (↑s.1 : Int)) 4))) (18 + Int.toNat (z (lo + Int.toNat (↑s.1 : Int)) 0)) % (4294967296 : Int)]] (0 + (i - List.length (bD r (List.take s.1 l)))) with | some x => x | none => []) j with | some x => x | none => (0 : Int)] = [SB.rows 52 [.int .i64, .int .i64, .int .i64, .int .i64, .int .i64] 5 m c z, SB.cells [Seg.ints (.int .u64) 32 s'.2] 44, SB.cells [Seg.ints (.int .u64) 32 fun (x : Nat) => (0 : Int)] 44, SB.rows 38 [.int .i64, .int .i64, .int .i64, .int .i64, .int .i64, .int .i64] 6 s'.3 s'.4 s'.6]) ∧ List.length l - s'.1 < List.length l - s.1 else ((List.length (bD r (List.take s.1 l)) ≤ s.3 ∧ s.4 = s.4) ∧ (1 ≤ 1 ∧ 1 = 1) ∧ List.length (bD r (List.take s.1 l)) + 1 ≤ 68719476736) ∧ ∀ (c_1 : Nat), List.length (bD r (List.take s.1 l)) + 1 ≤ c_1 → ∃ (s' : BdG (BdS.mk r f l lo m c nn z)), ((some (SV.o (SA.c (.p 1 0))) = some (SV.o (SA.c (.p 1 0))) ∧ some (SV.o (SA.c (.p 2 0))) = some (SV.o (SA.c (.p 2 0))) ∧ some (SV.o (SA.c (.so 7 0 6 (List.length (bD r (List.take s.1 l)) + 1) c_1 s.5))) = some (SV.o (SA.c (.so 7 0 6 (List.length (bD r (List.take s'.1 l))) s'.4 s'.5))) ∧ some (SV.o (SA.c (.so 0 lo 5 (List.length l) c nn))) = some (SV.o (SA.c (.so 0 lo 5 (List.length l) c nn))) ∧ some (SV.o (SA.c (.v (Value.int .i64 (↑(List.length l) : Int))))) = some (SV.o (SA.c (.v (Value.int .i64 (↑(List.length l) : Int))))) ∧ some (SV.o (SA.c (.v (Value.int .i64 (IntKind.wrap .i64 ((↑s.1 : Int) + (1 : Int))))))) = some (SV.o (SA.c (.v (Value.int .i64 (↑s'.1 : Int))))) ∧ True) ∧ [SB.rows 52 [.int .i64, .int .i64, .int .i64, .int .i64, .int .i64] 5 m c z, SB.cells [Seg.ints (.int .u64) 32 (fL (Rec.words (Rec.done (Rec.ofW (toN 32 s.2)) (Int.toNat (z (lo + Int.toNat (↑s.1 : Int)) 0)) (z (lo + Int.toNat (↑s.1 : Int)) 2) (z (lo + Int.toNat (↑s.1 : Int)) 3) (z (lo + Int.toNat (↑s.1 : Int)) 4))))] 44, SB.cells [Seg.ints (.int .u64) 32 fun (x : Nat) => (0 : Int)] 44, SB.rows 38 [.int .i64, .int .i64, .int .i64, .int .i64, .int .i64, .int .i64] 6 (List.length (bD r (List.take s.1 l)) + 1) c_1 fun (i j : Nat) => bif Nat.ble (i + 1) (List.length (bD r (List.take s.1 l))) then s.6 i j else match List.get?Internal (match List.get?Internal [[z (lo + Int.toNat (↑s.1 : Int)) 0, z (lo + Int.toNat (↑s.1 : Int)) 2, z (lo + Int.toNat (↑s.1 : Int)) 3, z (lo + Int.toNat (↑s.1 : Int)) 4, (0 : Int), (0 : Int)]] (0 + (i - List.length (bD r (List.take s.1 l)))) with | some x => x | none => []) j with | some x => x | none => (0 : Int)] = [SB.rows 52 [.int .i64, .int .i64, .int .i64, .int .i64, .int .i64] 5 m c z, SB.cells [Seg.ints (.int .u64) 32 s'.2] 44, SB.cells [Seg.ints (.int .u64) 32 fun (x : Nat) => (0 : Int)] 44, SB.rows 38 [.int .i64, .int .i64, .int .i64, .int .i64, .int .i64, .int .i64] 6 s'.3 s'.4 s'.6]) ∧ List.length l - s'.1 < List.length l - s.1 else stuckAt (Oper.mk (some 57) (Op.call (Call.mk (Callee.value (Operand.func 36)) #[Operand.tmp 56] #[34])) 73 "batch.go:42" #[Edge.mk 1 Ground.data] none) else ((0 : Int) ≤ (27 : Int) ∧ (27 : Int) < (32 : Int)) ∧ 27 < 32 ∧ ((0 : Int) ≤ (27 : Int) ∧ (27 : Int) < (32 : Int)) ∧ 27 < 32 ∧ endN conBDo [nzD 1] rpB (BdS.mk r f l lo m c nn z) (SV.t [SA.a [Seg.ints (.int .u64) 32 fun (i : Nat) => bif Nat.beq i 27 then IntKind.wrap .u64 (s.2 27 + (1 : Int)) else s.2 i], SA.c (.so 3 0 6 (List.length (bD r (List.take s.1 l))) s.4 s.5), SA.c (.v Value.nilIface)]) [SB.rows 52 [.int .i64, .int .i64, .int .i64, .int .i64, .int .i64] 5 m c z, SB.cells [Seg.ints (.int .u64) 32 fun (i : Nat) => bif Nat.beq i 27 then IntKind.wrap .u64 (s.2 27 + (1 : Int)) else s.2 i] 44, SB.cells [Seg.ints (.int .u64) 32 fun (i : Nat) => bif Nat.beq i 27 then IntKind.wrap .u64 (s.2 27 + (1 : Int)) else s.2 i] 44, SB.rows 38 [.int .i64, .int .i64, .int .i64, .int .i64, .int .i64, .int .i64] 6 s.3 s.4 s.6]) (by kernel_rfl) ?_
  have hW0 := RecW.of hr (by decide) hf
  refine ⟨⟨rfl, hW0.1⟩, by omega, ⟨⟨0, f, 0, 0, false, _, Nat.zero_le _, hf, ⟨Nat.le_refl _, Nat.le_refl _⟩, fun i hi => absurd hi (Nat.not_lt_zero _)⟩, ⟨rfl, rfl, rfl, rfl, rfl, rfl, trivial⟩, rfl⟩, ?_⟩
  rintro ⟨i, f1, m1, c1, n1, z1, hi, hf1, hm1, hz1⟩
  dsimp only at hi hf1 hm1 hz1 ⊢
  have hle := bD_le (l.take i) r
  have hlt2 : (l.take i).length ≤ 100 := by rw [List.length_take]; omega
  have hq : RecOK 1099511000100 (bR r (l.take i)) := (bR_ok (l := l.take i) hr (fun a h => ha a (List.mem_of_mem_take h))).mono (by omega)
  have hv : (bR r (l.take i)).ver = r.ver := bR_ver _ _
  have hW := RecW.of hq (by decide) hf1
  obtain ⟨e26, e27, -⟩ := words_f hq hf1
  have g0 := hq.g0
  have g1 := hq.g1
  have v0 := hq.v0
  have v1 := hq.v1
  refine by_dec (fun hlt => ?_) (fun hge => ?_)
  · have hi' : i < l.length := by omega
    have eR : bR r (l.take (i + 1)) = bStep (bR r (l.take i)) (l.getD i Ask.nil) := by rw [take_snoc hi', bR_snoc]
    have eD : bD r (l.take (i + 1)) = bD r (l.take i) ++ bDs (bR r (l.take i)) (l.getD i Ask.nil) := by rw [take_snoc hi', bD_snoc]
    obtain ⟨a0, a1, a2, a3, a4⟩ := hz i hi'
    have hak := ha.get hi'
    dsimp only at a0 a1 a2 a3 a4
    generalize l.getD i Ask.nil = a at *
    have ht := hak.1
    rw [Int.toNat_natCast, a0, a1, a2, a3, a4, Int.toNat_natCast, hW.2, e26]
    refine ⟨⟨by omega, by omega, by omega⟩, by omega, ⟨rfl, by omega, by omega, hak.2.1, by omega, by omega⟩, by_nb (fun ho => ?_) (fun ho => ?_)⟩
    · have hs := bStep_shut (r := bR r (l.take i)) (a := a) ho
      rw [hs.1] at eR
      rw [hs.2, List.append_nil] at eD
      exact ⟨⟨i + 1, f1, m1, c1, n1, z1, hi', eR ▸ hf1, eD ▸ hm1, eD ▸ hz1⟩, ⟨⟨rfl, rfl, congrArg (fun k => some (SV.o (SA.c (SC.so 3 0 6 k c1 n1)))) (congrArg List.length eD).symm, rfl, rfl, svI (sucI (by omega)), trivial⟩, rfl⟩, by dsimp only; omega⟩
    · have ho' : bOpen (bR r (l.take i)) a = true := ho
      have hd := hq.done a.t ht a.k a.key a.x hak.2.2
      have bT := rec_at hd (by decide) a.t ht
      have hT := done_told hq (by decide) a.t ht a.k a.key a.x hak.2.2
      have hs : bStep (bR r (l.take i)) a = (bR r (l.take i)).done a.t a.k a.key a.x := by unfold bStep; rw [ho']; rfl
      have hds : bDs (bR r (l.take i)) a = [bDeed (bR r (l.take i)) a] := by unfold bDs; rw [ho']; rfl
      rw [hs] at eR
      rw [hds] at eD
      have el : (bD r (l.take (i + 1))).length = (bD r (l.take i)).length + 1 := by rw [eD, List.length_append]; rfl
      refine ⟨⟨rfl, hW.1, by omega, by omega⟩, by_cond (fun _ => ?_) (fun h => absurd (hak.2.2.symm.trans h) (by decide))⟩
      refine ⟨⟨rfl, by omega, by omega, bT⟩, by_cond (fun _ => ?_) (fun h => absurd (hT.2.2.symm.trans h) (by decide))⟩
      refine ⟨⟨⟨hm1.1, rfl⟩, ⟨Nat.le_refl _, rfl⟩, by omega⟩, fun c' hc' => ⟨⟨i + 1, _, (bD r (l.take i)).length + 1, c', n1, _, hi', (toN_fL (Rec.words_len hd)).trans (by rw [eR]), ⟨by show (bD r (l.take (i + 1))).length ≤ _; omega, hc'⟩, ?_⟩, ⟨⟨rfl, rfl, congrArg (fun k => some (SV.o (SA.c (SC.so 7 0 6 k c' n1)))) el.symm, rfl, rfl, svI (sucI (by omega)), trivial⟩, rfl⟩, by dsimp only; omega⟩⟩
      show IsD _ (bD r (l.take (i + 1)))
      rw [eD]
      refine hz1.snoc (fun j hj k => catT hj) ⟨?_, ?_, ?_, ?_, ?_, ?_⟩
      · exact catF.trans (by rw [Nat.sub_self]; rfl)
      · exact catF.trans (by rw [Nat.sub_self]; rfl)
      · exact catF.trans (by rw [Nat.sub_self]; rfl)
      · exact catF.trans (by rw [Nat.sub_self]; rfl)
      · exact catF.trans (by rw [Nat.sub_self]; exact hT.1)
      · exact catF.trans (by rw [Nat.sub_self]; exact hT.2.1)
  · obtain rfl : i = l.length := by omega
    rw [List.take_length] at hf1 hm1 hz1 hq e27 v0 v1 ⊢
    rw [e27, wrapU (x := (bR r l).ver + 1) (by omega) (by omega)]
    refine ⟨⟨by decide, by decide⟩, by decide, ⟨by decide, by decide⟩, by decide, ?_⟩
    exact endN_of (x' := .t [recA (fun i => bif Nat.beq i 27 then (bR r l).ver + 1 else f1 i), .c (.so 3 0 6 (bD r l).length c1 n1), nilE]) rfl ⟨_, m1, c1, n1, z1⟩ ⟨hm1, hz1, toN_at hq hf1 _⟩ rfl rfl rfl
end Go.Proofs.YtacgihekdmoceaaDoor
end
section
namespace Go.Proofs.YtacgihekdmoceaaDoor
open Go.RowKit
set_option linter.unusedVariables false
set_option maxRecDepth 100000
set_option maxHeartbeats 4000000
def conBatched : PCon := ⟨fun args => match args with
  | [] => True
  | _ => False, fun _ => sv (.bool true), fun _ => none⟩
theorem batched_con : (Con.pure conBatched).holds Tryd.prog 15 := by
  refine pure_of_run2 (Γ := [(30, .pure conRNew), (34, .pure conPut), (18, .mem conBDo)]) Tryd.func15 rfl (by kernel_rfl) tabB_ok tabB_tys
    (fun W => .cons (rnew_con W _) (.cons (put_con W _) (.cons (bdo_con W _) (.nil _ _ _)))) conBatched (fun _ => []) 400 ?_
  intro W args hp
  unfold conBatched at hp; dsimp only at hp; split at hp
  case h_2 => exact hp.elim
  refine ⟨rfl, ?_⟩
  refine by_eq (q :=
      ((1 : Int) ≤ (6 : Int) ∧ (6 : Int) ≤ (6 : Int)) ∧ True ∧ True ∧ True ∧ drawP Tryd.f15 2 (regOps Tryd.f15 2) 1 [HX.mk 8 [] [1, 3] [] true, HX.mk 13 [] [2] [2] false, HX.mk 7 [] [1] [1] false, HX.mk 6 [] [] [] false, HX.mk 5 [] [] [] false, HX.mk 4 [] [] [] false, HX.mk 3 [] [] [] false, HX.mk 2 [] [] [] false, HX.mk 1 [] [] [] false, HX.mk 0 [0] [] [] false] ∧ ∃ (s : BdS), [SA.a [Seg.ints (.int .u64) 32 (fL (Rec.words (Rec.new (6 : Int))))], SA.c (.so 1 0 5 3 3 true)] = [SA.a [Seg.ints (.int .u64) 32 s.2], SA.c (.so 1 s.4 5 (List.length s.3) s.6 s.7)] ∧ [SB.rows 52 [.int .i64, .int .i64, .int .i64, .int .i64, .int .i64] 5 3 3 fun (i j : Nat) => match List.get?Internal (match List.get?Internal [[(1 : Int), (1 : Int), (1 : Int), (0 : Int), (5 : Int)], [(1 : Int), (1 : Int), (1 : Int), (0 : Int), (5 : Int)], [(0 : Int), (0 : Int), (1 : Int), (0 : Int), (1 : Int)]] i with | some x => x | none => []) j with | some x => x | none => (0 : Int)] = [SB.rows 52 [.int .i64, .int .i64, .int .i64, .int .i64, .int .i64] 5 s.5 s.6 s.8] ∧ ((RecOK (1099511000000 : Int) s.1 ∧ toN 32 s.2 = Rec.words s.1) ∧ AsksOK s.3 ∧ List.length s.3 ≤ 100 ∧ (s.4 + List.length s.3 ≤ s.5 ∧ s.5 ≤ s.6) ∧ IsA (fun (i : Nat) => s.8 (s.4 + i)) s.3) ∧ ∀ (x : BdR), (List.length (bD s.1 s.3) ≤ x.2 ∧ x.2 ≤ x.3) ∧ IsD x.5 (bD s.1 s.3) ∧ toN 32 x.1 = Rec.words (bDo s.1 s.3) → drawP Tryd.f15 2 (regOps Tryd.f15 2) 1 [HX.mk 16 [] [] [] false, HX.mk 15 [] [] [3] false, HX.mk 14 [] [2] [] false, HX.mk 12 [] [] [] false, HX.mk 11 [] [] [3] false, HX.mk 10 [] [] [] false, HX.mk 9 [] [] [3] false, HX.mk 8 [] [1, 3] [3] true, HX.mk 13 [] [2] [2] false, HX.mk 7 [] [1] [1] false, HX.mk 6 [] [] [] false, HX.mk 5 [] [] [] false, HX.mk 4 [] [] [] false, HX.mk 3 [] [] [] false, HX.mk 2 [] [] [] false, HX.mk 1 [] [] [] false, HX.mk 0 [0] [] [] false] ∧ List.length (bD s.1 s.3) ≤ x.3 ∧ bif (↑(List.length (bD s.1 s.3)) : Int) == (1 : Int) then ((0 : Int) ≤ (0 : Int) ∧ (0 : Int) < (↑(List.length (bD s.1 s.3)) : Int) ∧ 0 + List.length (bD s.1 s.3) ≤ x.3) ∧ 0 < x.2 ∧ True ∧ bif bif x.5 0 0 == (1 : Int) then bif x.5 0 1 == (1 : Int) then bif x.5 0 2 == (0 : Int) then bif x.5 0 3 == (5 : Int) then bif x.5 0 4 == (1 : Int) then bif x.5 0 5 == (0 : Int) then true else false else false else false else false else false else false then ((0 : Int) ≤ (27 : Int) ∧ (27 : Int) < (32 : Int)) ∧ 27 < 32 ∧ bif x.1 27 == (1 : Int) then ((0 : Int) ≤ (1 : Int) ∧ (1 : Int) < (32 : Int)) ∧ 1 < 32 ∧ drawP Tryd.f15 3 (regOps Tryd.f15 3) 4 [HX.mk 30 [] [] [] false, HX.mk 29 [] [] [] false, HX.mk 28 [] [] [] false, HX.mk 27 [2] [] [] false, HX.mk 26 [] [] [2] false, HX.mk 25 [] [] [] false, HX.mk 24 [] [] [] false, HX.mk 23 [] [] [] false, HX.mk 22 [2] [] [] false, HX.mk 21 [] [] [2] false, HX.mk 20 [] [] [] false, HX.mk 19 [] [] [] false, HX.mk 18 [] [] [] false, HX.mk 17 [] [] [] false, HX.mk 16 [] [] [] false, HX.mk 15 [] [] [] false, HX.mk 14 [3] [] [] false, HX.mk 13 [] [] [3] false, HX.mk 12 [] [] [3] false, HX.mk 11 [] [] [] false, HX.mk 10 [] [] [] false, HX.mk 9 [] [] [] false, HX.mk 8 [] [] [] false, HX.mk 7 [] [] [3] false, HX.mk 6 [] [] [] false, HX.mk 5 [] [] [] false, HX.mk 4 [] [] [] false, HX.mk 3 [] [] [] false, HX.mk 2 [] [] [] false, HX.mk 1 [] [] [] false, HX.mk 0 [] [] [] false] ∧ endP conBatched [] (SV.o (SA.c (.v (Value.bool (x.1 1 == (5 : Int)))))) [SB.cells [Seg.ints (.int .u64) 32 (fL (Rec.words (Rec.new (6 : Int))))] 44, SB.rows 52 [.int .i64, .int .i64, .int .i64, .int .i64, .int .i64] 5 s.5 s.6 s.8, SB.cells [Seg.ints (.int .u64) 32 x.1] 44, SB.rows 38 [.int .i64, .int .i64, .int .i64, .int .i64, .int .i64, .int .i64] 6 x.2 x.3 x.5] else drawP Tryd.f15 3 (regOps Tryd.f15 3) 4 [HX.mk 30 [] [] [] false, HX.mk 29 [] [] [] false, HX.mk 28 [] [] [] false, HX.mk 27 [] [] [] false, HX.mk 26 [] [] [] false, HX.mk 25 [] [] [] false, HX.mk 24 [] [] [] false, HX.mk 23 [] [] [] false, HX.mk 22 [2] [] [] false, HX.mk 21 [] [] [2] false, HX.mk 20 [] [] [] false, HX.mk 19 [] [] [] false, HX.mk 18 [] [] [] false, HX.mk 17 [] [] [] false, HX.mk 16 [] [] [] false, HX.mk 15 [] [] [] false, HX.mk 14 [3] [] [] false, HX.mk 13 [] [] [3] false, HX.mk 12 [] [] [3] false, HX.mk 11 [] [] [] false, HX.mk 10 [] [] [] false, HX.mk 9 [] [] [] false, HX.mk 8 [] [] [] false, HX.mk 7 [] [] [3] false, HX.mk 6 [] [] [] false, HX.mk 5 [] [] [] false, HX.mk 4 [] [] [] false, HX.mk 3 [] [] [] false, HX.mk 2 [] [] [] false, HX.mk 1 [] [] [] false, HX.mk 0 [] [] [] false] ∧ endP conBatched [] (SV.o (SA.c (.v (Value.bool false)))) [SB.cells [Seg.ints (.int .u64) 32 (fL (Rec.words (Rec.new (6 : Int))))] 44, SB.rows 52 [.int .i64, .int .i64, .int .i64, .int .i64, .int .i64] 5 s.5 s.6 s.8, SB.cells [Seg.ints (.int .u64) 32 x.1] 44, SB.rows 38 [.int .i64, .int .i64, .int .i64, .int .i64, .int .i64, .int .i64] 6 x.2 x.3 x.5] else drawP Tryd.f15 3 (regOps Tryd.f15 3) 4 [HX.mk 30 [] [] [] false, HX.mk 29 [] [] [] false, HX.mk 28 [] [] [] false, HX.mk 27 [] [] [] false, HX.mk 26 [] [] [] false, HX.mk 25 [] [] [] false, HX.mk 24 [] [] [] false, HX.mk 23 [] [] [] false, HX.mk 22 [] [] [] false, HX.mk 21 [] [] [] false, HX.mk 20 [] [] [] false, HX.mk 19 [] [] [] false, HX.mk 18 [] [] [] false, HX.mk 17 [] [] [] false, HX.mk 16 [] [] [] false, HX.mk 15 [] [] [] false, HX.mk 14 [3] [] [] false, HX.mk 13 [] [] [3] false, HX.mk 12 [] [] [3] false, HX.mk 11 [] [] [] false, HX.mk 10 [] [] [] false, HX.mk 9 [] [] [] false, HX.mk 8 [] [] [] false, HX.mk 7 [] [] [3] false, HX.mk 6 [] [] [] false, HX.mk 5 [] [] [] false, HX.mk 4 [] [] [] false, HX.mk 3 [] [] [] false, HX.mk 2 [] [] [] false, HX.mk 1 [] [] [] false, HX.mk 0 [] [] [] false] ∧ endP conBatched [] (SV.o (SA.c (.v (Value.bool false)))) [SB.cells [Seg.ints (.int .u64) 32 (fL (Rec.words (Rec.new (6 : Int))))] 44, SB.rows 52 [.int .i64, .int .i64, .int .i64, .int .i64, .int .i64] 5 s.5 s.6 s.8, SB.cells [Seg.ints (.int .u64) 32 x.1] 44, SB.rows 38 [.int .i64, .int .i64, .int .i64, .int .i64, .int .i64, .int .i64] 6 x.2 x.3 x.5] else drawP Tryd.f15 3 (regOps Tryd.f15 3) 4 [HX.mk 30 [] [] [] false, HX.mk 29 [] [] [] false, HX.mk 28 [] [] [] false, HX.mk 27 [] [] [] false, HX.mk 26 [] [] [] false, HX.mk 25 [] [] [] false, HX.mk 24 [] [] [] false, HX.mk 23 [] [] [] false, HX.mk 22 [] [] [] false, HX.mk 21 [] [] [] false, HX.mk 20 [] [] [] false, HX.mk 19 [] [] [] false, HX.mk 18 [] [] [] false, HX.mk 17 [] [] [] false, HX.mk 16 [] [] [] false, HX.mk 15 [] [] [] false, HX.mk 14 [] [] [] false, HX.mk 13 [] [] [] false, HX.mk 12 [] [] [] false, HX.mk 11 [] [] [] false, HX.mk 10 [] [] [] false, HX.mk 9 [] [] [] false, HX.mk 8 [] [] [] false, HX.mk 7 [] [] [3] false, HX.mk 6 [] [] [] false, HX.mk 5 [] [] [] false, HX.mk 4 [] [] [] false, HX.mk 3 [] [] [] false, HX.mk 2 [] [] [] false, HX.mk 1 [] [] [] false, HX.mk 0 [] [] [] false] ∧ endP conBatched [] (SV.o (SA.c (.v (Value.bool false)))) [SB.cells [Seg.ints (.int .u64) 32 (fL (Rec.words (Rec.new (6 : Int))))] 44, SB.rows 52 [.int .i64, .int .i64, .int .i64, .int .i64, .int .i64] 5 s.5 s.6 s.8, SB.cells [Seg.ints (.int .u64) 32 x.1] 44, SB.rows 38 [.int .i64, .int .i64, .int .i64, .int .i64, .int .i64, .int .i64] 6 x.2 x.3 x.5]) (by kernel_rfl) ?_
  have hr := (RecOK.new (kind := 6) (by decide) (by decide)).mono (B' := 1099511000000) (by decide)
  refine ⟨⟨by decide, by decide⟩, trivial, trivial, trivial, draw_of (by kernel_rfl), ⟨Rec.new 6, fL (Rec.new 6).words, batL, 0, 3, 3, true, _⟩, rfl, rfl, ⟨⟨hr, toN_fL (Rec.words_len hr)⟩, batL_ok, by decide, ⟨by decide, by decide⟩, ?_⟩, ?_⟩
  · intro i hi
    have : i = 0 ∨ i = 1 ∨ i = 2 := by have : i < 3 := hi; omega
    rcases this with rfl | rfl | rfl <;> exact ⟨rfl, rfl, rfl, rfl, rfl⟩
  · rintro ⟨f, m, c, nn, z⟩ ⟨⟨hm, hc⟩, hz, hf⟩
    dsimp only at hm hc hz hf ⊢
    rw [batL_d] at hm hz ⊢
    obtain ⟨z0, z1, z2, z3, z4, z5⟩ := hz 0 (by decide)
    have f27 : f 27 = 1 := by
      have := fL_toN (n := 32) (f := f) (i := 27) (by decide)
      rw [← this, hf]; rfl
    have f1 : f 1 = 5 := by
      have := fL_toN (n := 32) (f := f) (i := 1) (by decide)
      rw [← this, hf]; rfl
    have z0 : z 0 0 = 1 := z0
    have z1 : z 0 1 = 1 := z1
    have z2 : z 0 2 = 0 := z2
    have z3 : z 0 3 = 5 := z3
    have z4 : z 0 4 = 1 := z4
    have z5 : z 0 5 = 0 := z5
    have hm : 1 ≤ m := hm
    rw [z0, z1, z2, z3, z4, z5, f27, f1]
    exact ⟨draw_of (by kernel_rfl), (by show 1 ≤ c; omega), ⟨by decide, by decide, (by show 0 + 1 ≤ c; omega)⟩, (by omega : 0 < m), trivial, ⟨by decide, by decide⟩, by decide, ⟨by decide, by decide⟩, by decide, draw_of (by kernel_rfl), rfl, fun ρ => rfl⟩
/-- An empty batch. -/
def conBDoN : PCon := ⟨fun args => match args with
  | [.a [.ints (.int .u64) n f], .c (.v s)] => s = .slice none 0 0 ∧ n = 32 ∧ RecW f ∧ f 27 < 1099511627776
  | _ => False, fun args => match args with
  | [.a [.ints (.int .u64) n f], .c (.v s)] => .t [recA (fun i => bif Nat.beq i 27 then f 27 + 1 else f i), .c (.v (.slice none 0 0)), nilE]
  | _ => sv undef, fun _ => none⟩
theorem bdon_con : (Con.pure conBDoN).holds Tryd.prog 18 := by
  refine pure_of_run2 (Γ := [(33, .pure conRRight)]) Tryd.func18 rfl (by kernel_rfl) tabB_ok tabB_tys
    (fun W => .cons (rright_con W _) (.nil _ _ _)) conBDoN (fun _ => []) 400 ?_
  intro W args hp
  unfold conBDoN at hp; dsimp only at hp; split at hp
  case h_2 => exact hp.elim
  rename_i n f s
  obtain ⟨rfl, rfl, h, h1⟩ := hp
  refine ⟨rfl, ?_⟩
  refine by_eq (q :=
      (32 = 32 ∧ RecW f) ∧ ((0 : Int) ≤ (27 : Int) ∧ (27 : Int) < (32 : Int)) ∧ 27 < 32 ∧ ((0 : Int) ≤ (27 : Int) ∧ (27 : Int) < (32 : Int)) ∧ 27 < 32 ∧ endP conBDoN [SA.a [Seg.ints (.int .u64) 32 f], SA.c (.v (Value.slice none 0 0))] (SV.t [SA.a [Seg.ints (.int .u64) 32 fun (i : Nat) => bif Nat.beq i 27 then IntKind.wrap .u64 (f 27 + (1 : Int)) else f i], SA.c (.v (Value.slice none 0 0)), SA.c (.v Value.nilIface)]) [SB.cells [Seg.ints (.int .u64) 32 fun (i : Nat) => bif Nat.beq i 27 then IntKind.wrap .u64 (f 27 + (1 : Int)) else f i] 44, SB.cells [Seg.ints (.int .u64) 32 fun (i : Nat) => bif Nat.beq i 27 then IntKind.wrap .u64 (f 27 + (1 : Int)) else f i] 44]) (by kernel_rfl) ?_
  have v0 := h.1.v0
  rw [ofW_ver] at v0
  rw [wrapU (x := f 27 + 1) (by omega) (by omega)]
  exact ⟨⟨rfl, h⟩, ⟨by decide, by decide⟩, by decide, ⟨by decide, by decide⟩, by decide, rfl, fun ρ => rfl⟩
end Go.Proofs.YtacgihekdmoceaaDoor
end
section
namespace Go.Proofs.YtacgihekdmoceaaDoor
open Go.ChangeShapes Go.WideShapes Go.RowKit
theorem lOwn : ownKnob Tryd.prog.godebug = none := by kernel_rfl
theorem lEt : Tryd.prog.globalNamed "errors.errorType" = some 0 := by kernel_rfl
theorem lRt : (Tryd.prog.cutTypes.find? (·.1 == "internal/reflectlite.rtype")).map (·.2) = some 159 := by kernel_rfl
theorem lSize : Tryd.prog.types.size = 202 := by kernel_rfl
theorem lRow : ((List.range 202).filter fun t => Tryd.prog.rowNamed t [101, 114, 114, 111, 114]) = [34] := by kernel_rfl
abbrev laidL : List (String × DataW Unit) := [("errors.errorType", Rows.laid_errors_errorType)]
abbrev ErrType (W : World) : Prop := W.cell? ⟨0, 0, none⟩ = some (.iface 159 (.agg #[.pointer (some ⟨1, 34, none⟩)]))
/-- What the condition gives a walk: the variable's one cell. -/
theorem handle_of_laid {W : World} (h : laidMetH Tryd.prog laidL W) : ErrType W := by
  have h' : laidMet Tryd.prog [] W ∧ handlesMet Tryd.prog laidL W := h
  obtain ⟨name, u, ty, e1, e2, e3, e4, e5⟩ := h'.2 _ (List.mem_singleton.2 rfl)
  have en : name = [101, 114, 114, 111, 114] := (Option.some.inj e1).symm
  subst en
  obtain rfl := Option.some.inj (lRt.symm.trans e2)
  have hm : ty ∈ (List.range 202).filter fun t => Tryd.prog.rowNamed t [101, 114, 114, 111, 114] := List.mem_filter.2 ⟨List.mem_range.2 (by rw [← lSize]; exact e3), e4⟩
  rw [lRow] at hm
  obtain rfl := List.mem_singleton.1 hm
  have hh : typeHandle Tryd.prog 34 = .pointer (some ⟨1, 34, none⟩) := by kernel_rfl
  rw [hh] at e5
  simpa using World.var?_cell lEt e5 0
/-- A world that meets the condition. -/
noncomputable def laidWorld (os : Os) : World :=
  let w0 := World.holding Tryd.prog os ⟨#[], #[], []⟩
  { w0 with heap := w0.heap.modify 0 fun
      | .cells _ t frozen => .cells #[.iface 159 (.agg #[.pointer (some ⟨1, 34, none⟩)])] t frozen
      | o => o }
theorem laidWorld_met (os : Os) (args : Array Value) : laidMetH Tryd.prog laidL ((laidWorld os).forCall (fun _ _ => 0) ⟨#[], args, []⟩).memory :=
  laidMetH_of_parts (laidMet_nil _ _) (by kernel_rfl)
end Go.Proofs.YtacgihekdmoceaaDoor
end
section
namespace Go.Proofs.YtacgihekdmoceaaDoor
open Go.RowKit
set_option linter.unusedVariables false
set_option maxRecDepth 100000
set_option maxHeartbeats 4000000
theorem asW_below (w : World) (t : Addr) : Below w.heap.size w (asW w t) := (((Below.refl _ _).alloc (Nat.le_refl _) _).alloc (by simp) _).alloc (by simp; omega) _
theorem tell_at (v : Value) (e : Int) (w : World) (hg : ErrType w) (hv : v = .iface 73 (.int .i64 e) ∨ ∃ pb po, v = .iface 98 (.pointer (some ⟨pb, po, none⟩)) ∧ w.cell? ⟨pb, po, none⟩ = some (.int .i64 e)) :
    Calls Tryd.prog 36 #[v] w fun ev w' => ev = .returned (.int .i64 e) ∧ Below w.heap.size w w' := by
  have hlt : 0 < w.heap.size := by
    rcases Nat.eq_zero_or_pos w.heap.size with h0 | h
    · simp [ErrType, World.cell?, h0] at hg
    · exact h
  have hg1 : (w.alloc (.cells #[.int .i64 0] 73)).cell? ⟨0, 0, none⟩ = some (.iface 159 (.agg #[.pointer (some ⟨1, 34, none⟩)])) := by
    rw [World.cell?_alloc_lt _ _ ⟨0, 0, none⟩ hlt]; exact hg
  have ht1 : (w.alloc (.cells #[.int .i64 0] 73)).cell? ⟨w.heap.size, 0, none⟩ = some (.int .i64 0) := by simp
  have hf1 : (w.alloc (.cells #[.int .i64 0] 73)).frozen? ⟨w.heap.size, 0, none⟩ = false := by simp
  have hc : Calls Tryd.prog 60 #[v, .iface 115 (.pointer (some ⟨w.heap.size, 0, none⟩))] (w.alloc (.cells #[.int .i64 0] 73)) fun ev w' => ev = .returned (.bool true) ∧ w'.cell? ⟨w.heap.size, 0, none⟩ = some (.int .i64 e) ∧ Below w.heap.size w w' := by
    have fin : ∀ w', w' = ((asW (w.alloc (.cells #[.int .i64 0] 73)) ⟨w.heap.size, 0, none⟩).alloc (.cells #[.int .i64 e] 73)).setCell ⟨w.heap.size, 0, none⟩ (.int .i64 e) → w'.cell? ⟨w.heap.size, 0, none⟩ = some (.int .i64 e) ∧ Below w.heap.size w w' := by
      rintro w' rfl
      refine ⟨World.cell?_setCell_same _ _ _ (u := .int .i64 0) ?_, ?_⟩
      · unfold asW
        rw [World.cell?_alloc_lt _ _ ⟨w.heap.size, 0, none⟩ (by simp; omega), World.cell?_alloc_lt _ _ ⟨w.heap.size, 0, none⟩ (by simp; omega), World.cell?_alloc_lt _ _ ⟨w.heap.size, 0, none⟩ (by simp; omega), World.cell?_alloc_lt _ _ ⟨w.heap.size, 0, none⟩ (by simp)]
        exact ht1
      · have b1 : Below w.heap.size w (asW (w.alloc (.cells #[.int .i64 0] 73)) ⟨w.heap.size, 0, none⟩) := ((Below.refl _ _).alloc (Nat.le_refl _) _).trans ((asW_below _ _).mono (by simp))
        exact Below.setCell (b1.alloc (by simp [asW]; omega) _) (p := ⟨w.heap.size, 0, none⟩) (Nat.le_refl w.heap.size) _
    rcases hv with rfl | ⟨pb, po, rfl, hp⟩
    · exact (as_errno e _ _ _ hg1 ht1 hf1).mono fun ev w' ⟨h1, h2⟩ => ⟨h1, fin w' h2⟩
    · refine (as_at e pb po _ _ _ hg1 ht1 hf1 ?_).mono fun ev w' ⟨h1, h2⟩ => ⟨h1, fin w' h2⟩
      rw [World.cell?_alloc_lt _ _ ⟨pb, po, none⟩ (by
        show pb < w.heap.size
        rcases Nat.lt_or_ge pb w.heap.size with h | h
        · exact h
        · simp [World.cell?, Array.getElem?_eq_none h] at hp)]
      exact hp
  have hn : ∃ t u, v = .iface t u := by
    rcases hv with rfl | ⟨pb, po, rfl, -⟩
    · exact ⟨_, _, rfl⟩
    · exact ⟨_, _, rfl⟩
  clear hv
  obtain ⟨ty, u, rfl⟩ := hn
  go_enter Tryd.func36, Tryd.ntmps36
  go_wp2_with (go_at_call 60; refine hc.mono ?_; rintro e w' ⟨rfl, hcell, hbel⟩)
  go_ret
  exact ⟨rfl, hbel⟩
inductive TellS where
  | no (e : Int)
  | at (e p : Int)
def TellS.e : TellS → Int
  | .no e => e
  | .at e _ => e
def conTell : RCon where
  σ := TellS
  χ := Unit
  pre _ := True
  args s := match s with
    | .no e => [.c (.v (.iface 73 (.int .i64 e)))]
    | .at _ _ => [.c (.i 98 0 0)]
  mem s := match s with
    | .no _ => []
    | .at e p => [.cells [.one (.v (.int .i64 e)), .one (.v (.int .i64 p))] 100]
  ok _ _ := True
  val s _ := sv (.int .i64 s.e)
  new _ _ := []
  len := 0
  det := some ()
  find args M := match args with
    | [.c (.i _ b _)] => some [b]
    | _ => some []
theorem tell_con (W : World) (hE : ErrType W) : (Con.rd conTell).holdsAt Tryd.prog W (fun _ => False) 36 := by
  refine ⟨by kernel_rfl, fun x0 h s x => ⟨rfl, trivial⟩, fun ρ s w _ hK hM => ?_⟩
  have hlt : 0 < W.heap.size := by
    rcases Nat.eq_zero_or_pos W.heap.size with h0 | h
    · simp [ErrType, World.cell?, h0] at hE
    · exact h
  have hg : ErrType w := (hK.cell hlt (fun h => h)).trans hE
  have key : ∀ v : Value, (v = .iface 73 (.int .i64 s.e) ∨ ∃ pb po, v = .iface 98 (.pointer (some ⟨pb, po, none⟩)) ∧ w.cell? ⟨pb, po, none⟩ = some (.int .i64 s.e)) → Calls Tryd.prog 36 #[v] w fun e w' => ∃ (x : Unit) (ρ' : Nat → Nat), True ∧ (∀ i, i < (conTell.mem s).length → ρ' i = ρ i) ∧ 0 = 0 ∧ e = .returned ((conTell.val s x).den ρ') ∧ Mem w (fun _ => False) [] w' := fun v hv => by
    refine (tell_at v s.e w hg hv).mono fun e w' ⟨h1, h2⟩ => ⟨(), ρ, trivial, fun _ _ => rfl, rfl, h1, ⟨(Kept.refl _ w).trans (Kept.of_below h2), by simp, by simp, List.Pairwise.nil⟩⟩
  cases s with
  | no e => exact key _ (.inl rfl)
  | «at» e p =>
    have h0 : (En.blk (ρ 0) [.int .i64 e, .int .i64 p] 100).at w := hM _ (List.mem_singleton.2 rfl)
    exact key _ (.inr ⟨ρ 0, 0, rfl, Blk.cell h0 0⟩)
end Go.Proofs.YtacgihekdmoceaaDoor
end
section
namespace Go.Proofs.YtacgihekdmoceaaDoor
open Go.RowKit
set_option linter.unusedVariables false
set_option maxRecDepth 100000
set_option maxHeartbeats 4000000
def conSize : PCon := ⟨fun args => match args with
  | [.c (.v (.int .i64 k)), .a [.ints (.int .u64) n f]] => n = 17 ∧ ObjOK k (toN 17 f)
  | _ => False, fun args => match args with
  | [.c (.v (.int .i64 k)), .a [.ints (.int .u64) n f]] => .t [.c (.v (.int .i64 (objR k (toN 17 f) 6 0 0).2.2)), nilE]
  | _ => sv undef, fun _ => none⟩
theorem size_con : (Con.pure conSize).holds Tryd.prog 38 := by
  refine pure_of_run (AG := []) (Γ := [(12, .pure conDo)]) Tryd.func38 rfl (by kernel_rfl) tabK_ok tabK_tys (fun W => .cons (do_con W _) (.nil _ _ _)) conSize 400 ?_
  intro W args hp
  unfold conSize at hp; dsimp only at hp; split at hp
  case h_2 => exact hp.elim
  rename_i k n f
  obtain ⟨rfl, h⟩ := hp
  refine ⟨rfl, ?_⟩
  refine by_eq (q :=
      (17 = 17 ∧ ObjOK k (toN 17 f)) ∧ SV.t [SA.c (.v (Value.int .i64 (Prod.snd (objR k (toN 17 f) (6 : Int) (0 : Int) (0 : Int))).2)), SA.c (.v Value.nilIface)] = SV.t [SA.c (.v (Value.int .i64 (Prod.snd (objR k (toN 17 f) (6 : Int) (0 : Int) (0 : Int))).2)), SA.c (.v Value.nilIface)] ∧ true = true) (by kernel_rfl) ?_
  exact ⟨⟨rfl, h⟩, rfl, rfl⟩
def conThings : PCon := ⟨fun args => match args with
  | [] => True
  | _ => False, fun _ => sv (.bool true), fun _ => none⟩
theorem things_con : (Con.pure conThings).holds Tryd.prog 10 := by
  refine pure_of_run (AG := []) (Γ := [(12, .pure conDo), (38, .pure conSize), (39, .pure conRight)]) Tryd.func10 rfl (by kernel_rfl) tabK_ok tabK_tys
    (fun W => .cons (do_con W _) (.cons (size_con W _) (.cons (right_con W _) (.nil _ _ _)))) conThings 400 ?_
  intro W args hp
  unfold conThings at hp; dsimp only at hp; split at hp
  case h_2 => exact hp.elim
  refine ⟨rfl, ?_⟩
  refine by_eq (q :=
      (17 = 17 ∧ ObjOK (2 : Int) (toN 17 fun (i : Nat) => bif Nat.beq i 1 then (5 : Int) else bif Nat.beq i 0 then (1 : Int) else (0 : Int))) ∧ (17 = 17 ∧ ObjOK (1 : Int) (toN 17 fun (i : Nat) => bif Nat.beq i 2 then (8 : Int) else bif Nat.beq i 1 then (7 : Int) else bif Nat.beq i 0 then (2 : Int) else (0 : Int))) ∧ (17 = 17 ∧ ObjForm (4 : Int) (toN 17 fun (i : Nat) => bif Nat.beq i 2 then (3 : Int) else bif Nat.beq i 1 then (1 : Int) else bif Nat.beq i 0 then (2 : Int) else (0 : Int))) ∧ (17 = 17 ∧ ObjForm (4 : Int) (toN 17 fun (i : Nat) => bif Nat.beq i 2 then (1 : Int) else bif Nat.beq i 1 then (3 : Int) else bif Nat.beq i 0 then (2 : Int) else (0 : Int))) ∧ SV.o (SA.c (.v (Value.bool true))) = SV.o (SA.c (.v (Value.bool true))) ∧ true = true) (by kernel_rfl) ?_
  exact ⟨⟨rfl, .inl ⟨by decide, by decide, [5], by decide, by decide, (fun v hv => by simp at hv; omega), (fun h => by omega)⟩⟩, ⟨rfl, .inl ⟨by decide, by decide, [7, 8], by decide, by decide, (fun v hv => by simp at hv; omega), (fun h => by omega)⟩⟩,
    ⟨rfl, .inr ⟨rfl, [1, 3], by decide, by decide, fun v hv => by simp at hv; omega⟩⟩, ⟨rfl, .inr ⟨rfl, [3, 1], by decide, by decide, fun v hv => by simp at hv; omega⟩⟩, rfl, rfl⟩
/-- made, of operations that lie in rows of the call's own. -/
structure MdS where
  k : Int
  n : Nat
  m : Nat
  c : Nat
  nn : Bool
  z : Nat → Nat → Int
def tabMd : Tab := [(3, .one (.int .i64 0) (.int .i64)),
  (4, .one (.bool false) .bool),
  (25, .one (.int .u64 0) (.int .u64)),
  (30, .str [.one (.v (.int .i64 0)), .one (.v (.int .i64 0)), .one (.v (.int .i64 0))] [(0, 1, false), (1, 1, false), (2, 1, false)]),
  (22, .one (.slice none 0 0) (.slice 30)),
  (32, .str [.one (.v (.int .i64 0)), .one (.v (.int .i64 0))] [(0, 1, false), (1, 1, false)]),
  (27, .arr [.ints (.int .u64) 17 (fun _ => 0)] 17 1 false),
  (34, .one (.nilIface) .iface),
  (73, .one (.int .i64 0) (.int .i64))]
theorem tabMd_ok : TabOk Tryd.prog tabMd := .cons (⟨by kernel_rfl, by kernel_rfl, by kernel_rfl, by kernel_rfl, by kernel_rfl⟩) (.cons (⟨by kernel_rfl, by kernel_rfl, by kernel_rfl, by kernel_rfl, by kernel_rfl⟩) (.cons (⟨by kernel_rfl, by kernel_rfl, by kernel_rfl, by kernel_rfl, by kernel_rfl⟩) (.cons (⟨by kernel_rfl, by kernel_rfl, by kernel_rfl, by kernel_rfl⟩) (.cons (⟨by kernel_rfl, by kernel_rfl, by kernel_rfl, by kernel_rfl, by kernel_rfl⟩) (.cons (⟨by kernel_rfl, by kernel_rfl, by kernel_rfl, by kernel_rfl⟩) (.cons (⟨by kernel_rfl, by kernel_rfl, by kernel_rfl, by kernel_rfl⟩) (.cons (⟨by kernel_rfl, by kernel_rfl, by kernel_rfl, by kernel_rfl, by kernel_rfl⟩) (.cons (⟨by kernel_rfl, by kernel_rfl, by kernel_rfl, by kernel_rfl, by kernel_rfl⟩) (TabOk.nil _)))))))))
theorem tabMd_tys : TysOk Tryd.prog tabMd := TysOk.of (by kernel_rfl) (by kernel_rfl)
abbrev rowsO (m c : Nat) (z : Nat → Nat → Int) : SB := .rows 30 [.int .i64, .int .i64, .int .i64] 3 m c z
def conMade : MCon := dcon MdS (fun s => (1 ≤ s.k ∧ s.k ≤ 6) ∧ s.n ≤ s.m ∧ s.m ≤ s.c ∧ s.n ≤ 1000) (fun s => [.c (.v (.int .i64 s.k)), .c (.so 0 0 3 s.n s.c s.nn)]) (fun s => [rowsO s.m s.c s.z])
  (fun s => .o (cellsA (fL (mdTo s.k s.z (min s.n 30))))) (fun s => [rowsO s.m s.c s.z]) 1 (fun args _ => some (blkA args))
structure MdG (s : MdS) where
  i : Nat
  hi : i ≤ min s.n 30
def annMade (s : MdS) : Ann where
  σ := MdG s
  I g := ([(0, sv (.int .i64 s.k)), (4, .o (.c (.p 1 0))), (5, .o (.c (.p 2 0))), (15, .o (.c (.so 0 0 3 (min s.n 30) s.c s.nn))), (16, sv (.int .i64 (min s.n 30 : Nat))), (17, sv (.int .i64 g.i))], [rowsO s.m s.c s.z, cellsB (fun _ => 0), cellsB (fL (mdTo s.k s.z g.i))])
  dec g := min s.n 30 - g.i
  pi env _ := [0, blkE env 4, blkE env 5]
  nz := []
theorem made_con : (Con.mem conMade).holds Tryd.prog 35 := by
  intro w0 S
  refine mem_of_run2 (Γ := [(12, .pure conDo)]) (fun _ => noW) Tryd.func35 rfl (by kernel_rfl) tabMd_ok tabMd_tys (fun w S' _ _ => .cons (do_con w S') (.nil _ _ _)) conMade (fun s => [(35, [(0, annMade s)])]) (fun x0 h s x => ⟨rfl, trivial⟩) (fun s ρ w _ _ _ => noW_old w _) [] (firstN 1) 400 ?_
  rintro ⟨k, n, m, c, nn, z⟩ w ⟨⟨h1, h6⟩, h2, h3, h4⟩ -
  refine ⟨rfl, ?_⟩
  dsimp only at h1 h6 h2 h3 h4
  refine by_eq (q :=
      n ≤ c ∧ (((0 : Int) ≤ if (30 : Int) < (↑n : Int) then (30 : Int) else (↑n : Int)) ∧ (if (30 : Int) < (↑n : Int) then (30 : Int) else (↑n : Int)) ≤ (↑c : Int)) ∧ Int.toNat (if (30 : Int) < (↑n : Int) then (30 : Int) else (↑n : Int)) ≤ c ∧ (∃ (s0 : Ann.σ (annMade (MdS.mk k n m c nn z))), (some (SV.o (SA.c (.v (Value.int .i64 k)))) = some (SV.o (SA.c (.v (Value.int .i64 k)))) ∧ some (SV.o (SA.c (.p 1 0))) = some (SV.o (SA.c (.p 1 0))) ∧ some (SV.o (SA.c (.p 2 0))) = some (SV.o (SA.c (.p 2 0))) ∧ some (SV.o (SA.c (.so 0 0 3 (Int.toNat (if (30 : Int) < (↑n : Int) then (30 : Int) else (↑n : Int))) c nn))) = some (SV.o (SA.c (.so 0 0 3 (min n 30) c nn))) ∧ some (SV.o (SA.c (.v (Value.int .i64 (↑(Int.toNat (if (30 : Int) < (↑n : Int) then (30 : Int) else (↑n : Int))) : Int))))) = some (SV.o (SA.c (.v (Value.int .i64 (↑(min n 30) : Int))))) ∧ some (SV.o (SA.c (.v (Value.int .i64 (0 : Int))))) = some (SV.o (SA.c (.v (Value.int .i64 (↑s0.1 : Int))))) ∧ True) ∧ [SB.rows 30 [.int .i64, .int .i64, .int .i64] 3 m c z, SB.cells [Seg.ints (.int .u64) 17 fun (x : Nat) => (0 : Int)] 27, SB.cells [Seg.ints (.int .u64) 17 fun (x : Nat) => (0 : Int)] 27] = [SB.rows 30 [.int .i64, .int .i64, .int .i64] 3 m c z, SB.cells [Seg.ints (.int .u64) 17 fun (x : Nat) => (0 : Int)] 27, SB.cells [Seg.ints (.int .u64) 17 (fL (mdTo k z s0.1))] 27]) ∧ ∀ (s : MdG (MdS.mk k n m c nn z)), bif decide ((↑s.1 : Int) < (↑(min n 30) : Int)) then ((0 : Int) ≤ (↑s.1 : Int) ∧ (↑s.1 : Int) < (↑(min n 30) : Int) ∧ 0 + min n 30 ≤ c) ∧ 0 + Int.toNat (↑s.1 : Int) < m ∧ (17 = 17 ∧ ObjOK k (toN 17 (fL (mdTo k z s.1)))) ∧ bif opOk (z (0 + Int.toNat (↑s.1 : Int)) 0) (z (0 + Int.toNat (↑s.1 : Int)) 1) (z (0 + Int.toNat (↑s.1 : Int)) 2) then ∃ (s' : MdG (MdS.mk k n m c nn z)), ((some (SV.o (SA.c (.v (Value.int .i64 k)))) = some (SV.o (SA.c (.v (Value.int .i64 k)))) ∧ some (SV.o (SA.c (.p 1 0))) = some (SV.o (SA.c (.p 1 0))) ∧ some (SV.o (SA.c (.p 2 0))) = some (SV.o (SA.c (.p 2 0))) ∧ some (SV.o (SA.c (.so 0 0 3 (min n 30) c nn))) = some (SV.o (SA.c (.so 0 0 3 (min n 30) c nn))) ∧ some (SV.o (SA.c (.v (Value.int .i64 (↑(min n 30) : Int))))) = some (SV.o (SA.c (.v (Value.int .i64 (↑(min n 30) : Int))))) ∧ some (SV.o (SA.c (.v (Value.int .i64 (IntKind.wrap .i64 ((↑s.1 : Int) + (1 : Int))))))) = some (SV.o (SA.c (.v (Value.int .i64 (↑s'.1 : Int))))) ∧ True) ∧ [SB.rows 30 [.int .i64, .int .i64, .int .i64] 3 m c z, SB.cells [Seg.ints (.int .u64) 17 fun (x : Nat) => (0 : Int)] 27, SB.cells [Seg.ints (.int .u64) 17 (fL (objR k (toN 17 (fL (mdTo k z s.1))) (z (0 + Int.toNat (↑s.1 : Int)) 0) (z (0 + Int.toNat (↑s.1 : Int)) 1) (z (0 + Int.toNat (↑s.1 : Int)) 2)).1)] 27] = [SB.rows 30 [.int .i64, .int .i64, .int .i64] 3 m c z, SB.cells [Seg.ints (.int .u64) 17 fun (x : Nat) => (0 : Int)] 27, SB.cells [Seg.ints (.int .u64) 17 (fL (mdTo k z s'.1))] 27]) ∧ min n 30 - s'.1 < min n 30 - s.1 else ∃ (s' : MdG (MdS.mk k n m c nn z)), ((some (SV.o (SA.c (.v (Value.int .i64 k)))) = some (SV.o (SA.c (.v (Value.int .i64 k)))) ∧ some (SV.o (SA.c (.p 1 0))) = some (SV.o (SA.c (.p 1 0))) ∧ some (SV.o (SA.c (.p 2 0))) = some (SV.o (SA.c (.p 2 0))) ∧ some (SV.o (SA.c (.so 0 0 3 (min n 30) c nn))) = some (SV.o (SA.c (.so 0 0 3 (min n 30) c nn))) ∧ some (SV.o (SA.c (.v (Value.int .i64 (↑(min n 30) : Int))))) = some (SV.o (SA.c (.v (Value.int .i64 (↑(min n 30) : Int))))) ∧ some (SV.o (SA.c (.v (Value.int .i64 (IntKind.wrap .i64 ((↑s.1 : Int) + (1 : Int))))))) = some (SV.o (SA.c (.v (Value.int .i64 (↑s'.1 : Int))))) ∧ True) ∧ [SB.rows 30 [.int .i64, .int .i64, .int .i64] 3 m c z, SB.cells [Seg.ints (.int .u64) 17 fun (x : Nat) => (0 : Int)] 27, SB.cells [Seg.ints (.int .u64) 17 (fL (mdTo k z s.1))] 27] = [SB.rows 30 [.int .i64, .int .i64, .int .i64] 3 m c z, SB.cells [Seg.ints (.int .u64) 17 fun (x : Nat) => (0 : Int)] 27, SB.cells [Seg.ints (.int .u64) 17 (fL (mdTo k z s'.1))] 27]) ∧ min n 30 - s'.1 < min n 30 - s.1 else endN conMade [] (firstN 1) (MdS.mk k n m c nn z) (SV.o (SA.a [Seg.ints (.int .u64) 17 (fL (mdTo k z s.1))])) [SB.rows 30 [.int .i64, .int .i64, .int .i64] 3 m c z, SB.cells [Seg.ints (.int .u64) 17 (fL (mdTo k z s.1))] 27, SB.cells [Seg.ints (.int .u64) 17 (fL (mdTo k z s.1))] 27]) (by kernel_rfl) ?_
  have e30 : (if (30 : Int) < (n : Int) then (30 : Int) else (n : Int)) = ((min n 30 : Nat) : Int) := by split <;> omega
  rw [e30, Int.toNat_natCast]
  refine ⟨by omega, ⟨by omega, by omega⟩, by omega, ⟨⟨0, Nat.zero_le _⟩, ⟨rfl, rfl, rfl, rfl, rfl, rfl, trivial⟩, ?_⟩, ?_⟩
  · rw [show (fL (mdTo k z 0)) = fun _ => 0 from funext fun i => fL_zeros 17 i]
  rintro ⟨i, hi⟩
  dsimp only at hi ⊢
  refine by_dec (fun hlt => ?_) (fun hge => ?_)
  · have hok := mdTo_ok k z h1 h6 i
    have e : toN 17 (fL (mdTo k z i)) = mdTo k z i := toN_fL (objOK_len hok)
    rw [Int.toNat_natCast, e, Nat.zero_add i]
    refine ⟨⟨by omega, hlt, by omega⟩, by omega, ⟨rfl, hok⟩, by_cond (fun ho => ?_) (fun ho => ?_)⟩
    · refine ⟨⟨i + 1, by show i + 1 ≤ min n 30; omega⟩, ⟨⟨rfl, rfl, rfl, rfl, rfl, svI (sucI (by omega)), trivial⟩, ?_⟩, by dsimp only; omega⟩
      simp only [mdTo, ho, cond_true]
    · refine ⟨⟨i + 1, by show i + 1 ≤ min n 30; omega⟩, ⟨⟨rfl, rfl, rfl, rfl, rfl, svI (sucI (by omega)), trivial⟩, ?_⟩, by dsimp only; omega⟩
      simp only [mdTo, ho, cond_false]
  · obtain rfl : i = min n 30 := by omega
    exact ⟨(), trivial, rfl, rfl⟩
end Go.Proofs.YtacgihekdmoceaaDoor
end
section
namespace Go.Proofs.YtacgihekdmoceaaDoor
open Go.RowKit
set_option linter.unusedVariables false
set_option maxRecDepth 100000
set_option maxHeartbeats 4000000
def tabJ : Tab := [(3, .one (.int .i64 0) (.int .i64)),
  (4, .one (.bool false) .bool),
  (25, .one (.int .u64 0) (.int .u64)),
  (96, .one (.int .u64 0) (.int .u64)),
  (30, .str [.one (.v (.int .i64 0)), .one (.v (.int .i64 0)), .one (.v (.int .i64 0))] [(0, 1, false), (1, 1, false), (2, 1, false)]),
  (22, .one (.slice none 0 0) (.slice 30)),
  (32, .str [.one (.v (.int .i64 0)), .one (.v (.int .i64 0))] [(0, 1, false), (1, 1, false)]),
  (38, .str [.one (.v (.int .i64 0)), .one (.v (.int .i64 0)), .one (.v (.int .i64 0)), .one (.v (.int .i64 0)), .one (.v (.int .i64 0)), .one (.v (.int .i64 0))] [(0, 1, false), (1, 3, true), (4, 2, true)]),
  (28, .one (.slice none 0 0) (.slice 38)),
  (27, .arr [.ints (.int .u64) 17 (fun _ => 0)] 17 1 false),
  (34, .one (.nilIface) .iface),
  (73, .one (.int .i64 0) (.int .i64)),
  (100, .str [.one (.v (.int .i64 0)), .one (.v (.int .i64 0))] [(0, 1, false), (1, 1, false)]),
  (98, .one (.pointer none) (.ptr 100)),
  (70, .str [.one (.v (.int .i64 0)), .one (.v (.int .i64 0)), .one (.v (.int .i64 0)), .one (.v (.int .i64 0)), .one (.v (.int .i64 0)), .one (.v (.int .i64 0)), .one (.v (.int .i64 0)), .one (.v (.int .i64 0)), .one (.v (.int .i64 0))] [(0, 1, false), (1, 1, false), (2, 3, true), (5, 2, true), (7, 1, false), (8, 1, false)]),
  (71, .one (.slice none 0 0) (.slice 70)),
  (120, .str [.one (.v (.int .i64 0)), .one (.v (.int .i64 0)), .one (.v (.int .i64 0)), .one (.v (.int .i64 0)), .one (.v (.int .i64 0)), .one (.v (.int .i64 0)), .one (.v (.int .i64 0)), .one (.v (.int .i64 0)), .one (.v (.int .i64 0))] [(0, 1, false), (1, 3, true), (4, 1, false), (5, 1, false), (6, 1, false), (7, 2, true)]),
  (116, .one (.slice none 0 0) (.slice 120)),
  (89, .one (.slice none 0 0) (.slice 3)),
  (150, .one (.map none) (.map 3 3))]
theorem tabJ_ok : TabOk Tryd.prog tabJ := .cons (⟨by kernel_rfl, by kernel_rfl, by kernel_rfl, by kernel_rfl, by kernel_rfl⟩) (.cons (⟨by kernel_rfl, by kernel_rfl, by kernel_rfl, by kernel_rfl, by kernel_rfl⟩) (.cons (⟨by kernel_rfl, by kernel_rfl, by kernel_rfl, by kernel_rfl, by kernel_rfl⟩) (.cons (⟨by kernel_rfl, by kernel_rfl, by kernel_rfl, by kernel_rfl, by kernel_rfl⟩) (.cons (⟨by kernel_rfl, by kernel_rfl, by kernel_rfl, by kernel_rfl⟩) (.cons (⟨by kernel_rfl, by kernel_rfl, by kernel_rfl, by kernel_rfl, by kernel_rfl⟩) (.cons (⟨by kernel_rfl, by kernel_rfl, by kernel_rfl, by kernel_rfl⟩) (.cons (⟨by kernel_rfl, by kernel_rfl, by kernel_rfl, by kernel_rfl⟩) (.cons (⟨by kernel_rfl, by kernel_rfl, by kernel_rfl, by kernel_rfl, by kernel_rfl⟩) (.cons (⟨by kernel_rfl, by kernel_rfl, by kernel_rfl, by kernel_rfl⟩) (.cons (⟨by kernel_rfl, by kernel_rfl, by kernel_rfl, by kernel_rfl, by kernel_rfl⟩) (.cons (⟨by kernel_rfl, by kernel_rfl, by kernel_rfl, by kernel_rfl, by kernel_rfl⟩) (.cons (⟨by kernel_rfl, by kernel_rfl, by kernel_rfl, by kernel_rfl⟩) (.cons (⟨by kernel_rfl, by kernel_rfl, by kernel_rfl, by kernel_rfl, by kernel_rfl⟩) (.cons (⟨by kernel_rfl, by kernel_rfl, by kernel_rfl, by kernel_rfl⟩) (.cons (⟨by kernel_rfl, by kernel_rfl, by kernel_rfl, by kernel_rfl, by kernel_rfl⟩) (.cons (⟨by kernel_rfl, by kernel_rfl, by kernel_rfl, by kernel_rfl⟩) (.cons (⟨by kernel_rfl, by kernel_rfl, by kernel_rfl, by kernel_rfl, by kernel_rfl⟩) (.cons (⟨by kernel_rfl, by kernel_rfl, by kernel_rfl, by kernel_rfl, by kernel_rfl⟩) (.cons (⟨by kernel_rfl, by kernel_rfl, by kernel_rfl, by kernel_rfl, by kernel_rfl⟩) (TabOk.nil _))))))))))))))))))))
theorem tabJ_tys : TysOk Tryd.prog tabJ := TysOk.of (by kernel_rfl) (by kernel_rfl)
abbrev rowsE (m c : Nat) (z : Nat → Nat → Int) : SB := .rows 70 [.int .i64, .int .i64, .int .i64, .int .i64, .int .i64, .int .i64, .int .i64, .int .i64, .int .i64] 9 m c z
abbrev rowsJ (m c : Nat) (z : Nat → Nat → Int) : SB := .rows 38 [.int .i64, .int .i64, .int .i64, .int .i64, .int .i64, .int .i64] 6 m c z
def evL : List (List Int) := [[1, 0, 1, 0, 3, 0, 0, 0, 0], [2, 0, 1, 0, 3, 1, 0, 1, 0]]
def deL : List (List Int) := [[0, 1, 0, 3, 1, 0], [1, 2, 0, 0, 1, 3]]
def conFitsA : RCon where
  σ := Unit
  χ := Unit
  pre _ := True
  args _ := [.c (.so 0 0 9 2 2 true), .c (.so 1 0 6 1 2 true)]
  mem _ := [rowsE 2 2 (zOf evL), rowsJ 2 2 (zOf deL)]
  ok _ _ := True
  val _ _ := .o (.c (.v .nilIface))
  new _ _ := []
  len := 0
  det := some ()
  find args M := match args with
    | [.c (.so b _ _ _ _ _), .c (.so d _ _ _ _ _)] => some [b, d]
    | _ => none
def conFitsB : RCon where
  σ := Unit
  χ := Unit
  pre _ := True
  args _ := [.c (.so 0 0 9 2 2 true), .c (.v (.slice none 0 0))]
  mem _ := [rowsE 2 2 (zOf evL)]
  ok _ _ := True
  val _ _ := .o (.c (.v (.iface 73 (.int .i64 7))))
  new _ _ := []
  len := 0
  det := some ()
  find args M := match args with
    | [.c (.so b _ _ _ _ _), .c (.v _)] => some [b]
    | _ => none
theorem fitsB_con : (Con.rd conFitsB).holds Tryd.prog 37 := by
  intro w0 S
  refine rd_of_run (AG := []) (Γ := [(61, .inl Tryd.f61 (Tryd.f61.body.getD .skip))]) Tryd.func37 rfl (by kernel_rfl) tabJ_ok tabJ_tys (fun _ _ => .cons ⟨by kernel_rfl, Tryd.func61, rfl⟩ (.nil _ _ _)) conFitsB (fun x0 h s x => ⟨rfl, trivial⟩) [] (fun _ _ => []) 2000 ?_
  rintro ⟨⟩ ρ w - - hM
  have hE : RowAt w (ρ 0) 70 9 2 2 (rowsV (ckAt [.int .i64, .int .i64, .int .i64, .int .i64, .int .i64, .int .i64, .int .i64, .int .i64, .int .i64]) 9 (zOf evL) 2) := hM _ (List.mem_singleton.2 rfl)
  obtain ⟨a, c', e1, hr, ha, hnc⟩ := so_view (b := 0) (lo := 0) (n := 2) (nn := true) (kf := fun _ => .i64) hE rfl rfl (Nat.le_refl _)
  refine ⟨[.c (.r a 2 c' 2 9 (fun _ => .i64) (fun i => zOf evL (0 + i))), .c (.v (.slice none 0 0))], by simp only [conFitsB, List.map_cons, List.map_nil, SA.den, e1]; rfl, rfl, ?_⟩
  refine by_eq (q :=
      ((Rws 9 (fun (x : Nat) => .i64) w a 2 c' fun (i j : Nat) => match List.get?Internal (match List.get?Internal [[(1 : Int), (0 : Int), (1 : Int), (0 : Int), (3 : Int), (0 : Int), (0 : Int), (0 : Int), (0 : Int)], [(2 : Int), (0 : Int), (1 : Int), (0 : Int), (3 : Int), (1 : Int), (0 : Int), (1 : Int), (0 : Int)]] (0 + i) with | some x => x | none => []) j with | some x => x | none => (0 : Int)) ∧ (0 : Int) ≤ (0 : Int) ∧ (0 : Int) < (2 : Int) ∧ 0 < 2) ∧ ((Rws 9 (fun (x : Nat) => .i64) w a 2 c' fun (i j : Nat) => match List.get?Internal (match List.get?Internal [[(1 : Int), (0 : Int), (1 : Int), (0 : Int), (3 : Int), (0 : Int), (0 : Int), (0 : Int), (0 : Int)], [(2 : Int), (0 : Int), (1 : Int), (0 : Int), (3 : Int), (1 : Int), (0 : Int), (1 : Int), (0 : Int)]] (0 + i) with | some x => x | none => []) j with | some x => x | none => (0 : Int)) ∧ 0 < 2) ∧ (True ∧ (1 ≤ 1 ∧ 1 = 1) ∧ 1 ≤ 68719476736) ∧ ∀ (c : Nat), 1 ≤ c → ((Rws 9 (fun (x : Nat) => .i64) w a 2 c' fun (i j : Nat) => match List.get?Internal (match List.get?Internal [[(1 : Int), (0 : Int), (1 : Int), (0 : Int), (3 : Int), (0 : Int), (0 : Int), (0 : Int), (0 : Int)], [(2 : Int), (0 : Int), (1 : Int), (0 : Int), (3 : Int), (1 : Int), (0 : Int), (1 : Int), (0 : Int)]] (0 + i) with | some x => x | none => []) j with | some x => x | none => (0 : Int)) ∧ (0 : Int) ≤ (1 : Int) ∧ (1 : Int) < (2 : Int) ∧ 1 < 2) ∧ ((Rws 9 (fun (x : Nat) => .i64) w a 2 c' fun (i j : Nat) => match List.get?Internal (match List.get?Internal [[(1 : Int), (0 : Int), (1 : Int), (0 : Int), (3 : Int), (0 : Int), (0 : Int), (0 : Int), (0 : Int)], [(2 : Int), (0 : Int), (1 : Int), (0 : Int), (3 : Int), (1 : Int), (0 : Int), (1 : Int), (0 : Int)]] (0 + i) with | some x => x | none => []) j with | some x => x | none => (0 : Int)) ∧ 1 < 2) ∧ ((0 : Int) ≤ (0 : Int) ∧ (0 : Int) < (1 : Int) ∧ 1 ≤ c) ∧ 0 < 1 ∧ drawP Tryd.f61 16 (regOps Tryd.f61 16) 7 [HX.mk 11 [] [] [] false, HX.mk 10 [] [] [] false, HX.mk 9 [5] [] [] false, HX.mk 8 [] [] [5] false, HX.mk 7 [4] [] [] false, HX.mk 6 [] [] [4] false, HX.mk 5 [] [] [4] false, HX.mk 4 [] [] [] false, HX.mk 3 [] [] [4] false, HX.mk 2 [] [] [] false, HX.mk 1 [] [] [] false, HX.mk 0 [] [] [] false] ∧ ((0 : Int) ≤ (0 : Int) ∧ (0 : Int) < (1 : Int) ∧ 1 ≤ c) ∧ 0 < 1 ∧ ((0 : Int) ≤ (0 : Int) ∧ (0 : Int) < (1 : Int) ∧ 1 ≤ c) ∧ 0 < 1 ∧ ((0 : Int) ≤ (0 : Int) ∧ (0 : Int) < (1 : Int) ∧ 1 ≤ c) ∧ 0 < 1 ∧ drawP Tryd.f61 18 (regOps Tryd.f61 18) 7 [HX.mk 20 [] [4] [] false, HX.mk 19 [] [] [4] false, HX.mk 18 [] [] [4] false, HX.mk 17 [] [4] [] false, HX.mk 16 [] [] [4] false, HX.mk 15 [] [] [4] false, HX.mk 14 [] [4] [] false, HX.mk 13 [] [] [4] false, HX.mk 12 [] [] [4] false, HX.mk 11 [5] [] [] false, HX.mk 10 [] [] [5] false, HX.mk 9 [5] [] [] false, HX.mk 8 [] [] [5] false, HX.mk 7 [] [] [] false, HX.mk 6 [] [] [] false, HX.mk 5 [] [] [] false, HX.mk 4 [] [] [4] false, HX.mk 3 [] [] [] false, HX.mk 2 [] [] [4] false, HX.mk 1 [] [] [] false, HX.mk 0 [] [] [4] false] ∧ ((0 : Int) ≤ (0 : Int) ∧ (0 : Int) = (0 : Int) ∧ (0 : Int) ≤ (68719476736 : Int)) ∧ 1 ≤ c ∧ ((0 : Int) ≤ (0 : Int) ∧ (0 : Int) < (1 : Int) ∧ 1 ≤ c) ∧ 0 < 1 ∧ endD conFitsB [] (fun (x : SV) (x_1 : List SB) => []) PUnit.unit (SV.o (SA.c (.v (Value.iface 73 (Value.int .i64 (7 : Int)))))) [SB.gone, SB.cells [Seg.one (.v (.int .i64 (1 : Int))), Seg.one (.v (.int .i64 (0 : Int))), Seg.one (.v (.int .i64 (1 : Int))), Seg.one (.v (.int .i64 (0 : Int))), Seg.one (.v (.int .i64 (3 : Int))), Seg.one (.v (.int .i64 (0 : Int))), Seg.one (.v (.int .i64 (0 : Int))), Seg.one (.v (.int .i64 (0 : Int))), Seg.one (.v (.int .i64 (0 : Int)))] 70, SB.cells [Seg.one (.v (.int .i64 (10 : Int))), Seg.one (.v (.int .i64 (0 : Int)))] 100, SB.rows 120 [.int .i64, .int .i64, .int .i64, .int .i64, .int .i64, .int .i64, .int .i64, .int .i64, .int .i64] 9 1 1 fun (i j : Nat) => match List.get?Internal (match List.get?Internal [[(0 : Int), (1 : Int), (0 : Int), (3 : Int), (1 : Int), (0 : Int), (0 : Int), (0 : Int), (0 : Int)]] i with | some x => x | none => []) j with | some x => x | none => (0 : Int), SB.rows 120 [.int .i64, .int .i64, .int .i64, .int .i64, .int .i64, .int .i64, .int .i64, .int .i64, .int .i64] 9 1 c fun (i j : Nat) => bif match Nat.beq i 0 with | false => false | true => match Nat.ble 7 j with | false => false | true => Nat.ble j 8 then match List.get?Internal [(1 : Int), (0 : Int)] (match match match match match match match j with | 0 => 0 | Nat.succ a => a with | 0 => 0 | Nat.succ a => a with | 0 => 0 | Nat.succ a => a with | 0 => 0 | Nat.succ a => a with | 0 => 0 | Nat.succ a => a with | 0 => 0 | Nat.succ a => a with | 0 => 0 | Nat.succ a => a) with | some x => x | none => (0 : Int) else bif match Nat.beq i 0 with | false => false | true => match Nat.ble 6 j with | false => false | true => Nat.ble j 6 then match List.get?Internal [(1 : Int)] (match match match match match match j with | 0 => 0 | Nat.succ a => a with | 0 => 0 | Nat.succ a => a with | 0 => 0 | Nat.succ a => a with | 0 => 0 | Nat.succ a => a with | 0 => 0 | Nat.succ a => a with | 0 => 0 | Nat.succ a => a) with | some x => x | none => (0 : Int) else bif match Nat.beq i 0 with | false => false | true => match Nat.ble 5 j with | false => false | true => Nat.ble j 5 then match List.get?Internal [(2 : Int)] (match match match match match j with | 0 => 0 | Nat.succ a => a with | 0 => 0 | Nat.succ a => a with | 0 => 0 | Nat.succ a => a with | 0 => 0 | Nat.succ a => a with | 0 => 0 | Nat.succ a => a) with | some x => x | none => (0 : Int) else match List.get?Internal (match List.get?Internal [[(0 : Int), (1 : Int), (0 : Int), (3 : Int), (1 : Int), (0 : Int), (0 : Int), (0 : Int), (0 : Int)]] (0 + i) with | some x => x | none => []) j with | some x => x | none => (0 : Int), SB.cells [Seg.one (.v (.int .i64 (2 : Int))), Seg.one (.v (.int .i64 (0 : Int))), Seg.one (.v (.int .i64 (1 : Int))), Seg.one (.v (.int .i64 (0 : Int))), Seg.one (.v (.int .i64 (3 : Int))), Seg.one (.v (.int .i64 (1 : Int))), Seg.one (.v (.int .i64 (0 : Int))), Seg.one (.v (.int .i64 (1 : Int))), Seg.one (.v (.int .i64 (0 : Int)))] 70, SB.cells [Seg.one (.v (.int .i64 (10 : Int))), Seg.one (.v (.int .i64 (1 : Int)))] 100, SB.rows 3 [.int .i64] 1 0 0 fun (x x_1 : Nat) => (0 : Int), SB.cells [Seg.one (.v (.int .i64 (0 : Int))), Seg.one (.v (.int .i64 (1 : Int))), Seg.one (.v (.int .i64 (0 : Int))), Seg.one (.v (.int .i64 (3 : Int))), Seg.one (.v (.int .i64 (1 : Int))), Seg.one (.v (.int .i64 (2 : Int))), Seg.one (.v (.int .i64 (1 : Int))), Seg.one (.v (.int .i64 (1 : Int))), Seg.one (.v (.int .i64 (0 : Int)))] 120]) (by kernel_rfl) ?_
  refine ⟨⟨by_eq (q := Rws 9 (fun _ => .i64) w a 2 c' (fun i => zOf evL (0 + i))) (by kernel_rfl) hr, by decide, by decide, by decide⟩, ⟨by_eq (q := Rws 9 (fun _ => .i64) w a 2 c' (fun i => zOf evL (0 + i))) (by kernel_rfl) hr, by decide⟩, ⟨trivial, ⟨Nat.le_refl _, rfl⟩, by decide⟩, fun c hc => ?_⟩
  repeat' (first | (show Rws 9 (fun _ => .i64) w a 2 c' _; exact by_eq (q := Rws 9 (fun _ => .i64) w a 2 c' (fun i => zOf evL (0 + i))) (by kernel_rfl) hr) | exact draw_of (by kernel_rfl) | exact hc | omega | refine And.intro ?_ ?_)
  exact ⟨(), trivial, rfl, rfl⟩
theorem fitsA_con : (Con.rd conFitsA).holds Tryd.prog 37 := by
  intro w0 S
  refine rd_of_run (AG := []) (Γ := [(61, .inl Tryd.f61 (Tryd.f61.body.getD .skip))]) Tryd.func37 rfl (by kernel_rfl) tabJ_ok tabJ_tys (fun _ _ => .cons ⟨by kernel_rfl, Tryd.func61, rfl⟩ (.nil _ _ _)) conFitsA (fun x0 h s x => ⟨rfl, trivial⟩) [] (fun _ _ => []) 2000 ?_
  rintro ⟨⟩ ρ w - - hM
  have hE : RowAt w (ρ 0) 70 9 2 2 (rowsV (ckAt [.int .i64, .int .i64, .int .i64, .int .i64, .int .i64, .int .i64, .int .i64, .int .i64, .int .i64]) 9 (zOf evL) 2) := hM _ List.mem_cons_self
  have hD : RowAt w (ρ 1) 38 6 2 2 (rowsV (ckAt [.int .i64, .int .i64, .int .i64, .int .i64, .int .i64, .int .i64]) 6 (zOf deL) 2) := hM _ (List.mem_cons_of_mem _ List.mem_cons_self)
  obtain ⟨a2, c2, e2, hr2, ha2, hnc2⟩ := so_view (b := 1) (lo := 0) (n := 1) (nn := true) (kf := fun _ => .i64) hD rfl rfl (by decide)
  obtain ⟨a, c', e1, hr, ha, hnc⟩ := so_view (b := 0) (lo := 0) (n := 2) (nn := true) (kf := fun _ => .i64) hE rfl rfl (Nat.le_refl _)
  refine ⟨[.c (.r a 2 c' 2 9 (fun _ => .i64) (fun i => zOf evL (0 + i))), .c (.r a2 1 c2 1 6 (fun _ => .i64) (fun i => zOf deL (0 + i)))], by simp only [conFitsA, List.map_cons, List.map_nil, SA.den, e1, e2]; rfl, rfl, ?_⟩
  refine by_eq (q :=
      ((Rws 9 (fun (x : Nat) => .i64) w a 2 c' fun (i j : Nat) => match List.get?Internal (match List.get?Internal [[(1 : Int), (0 : Int), (1 : Int), (0 : Int), (3 : Int), (0 : Int), (0 : Int), (0 : Int), (0 : Int)], [(2 : Int), (0 : Int), (1 : Int), (0 : Int), (3 : Int), (1 : Int), (0 : Int), (1 : Int), (0 : Int)]] (0 + i) with | some x => x | none => []) j with | some x => x | none => (0 : Int)) ∧ (0 : Int) ≤ (0 : Int) ∧ (0 : Int) < (2 : Int) ∧ 0 < 2) ∧ ((Rws 9 (fun (x : Nat) => .i64) w a 2 c' fun (i j : Nat) => match List.get?Internal (match List.get?Internal [[(1 : Int), (0 : Int), (1 : Int), (0 : Int), (3 : Int), (0 : Int), (0 : Int), (0 : Int), (0 : Int)], [(2 : Int), (0 : Int), (1 : Int), (0 : Int), (3 : Int), (1 : Int), (0 : Int), (1 : Int), (0 : Int)]] (0 + i) with | some x => x | none => []) j with | some x => x | none => (0 : Int)) ∧ 0 < 2) ∧ (True ∧ (1 ≤ 1 ∧ 1 = 1) ∧ 1 ≤ 68719476736) ∧ ∀ (c : Nat), 1 ≤ c → ((Rws 9 (fun (x : Nat) => .i64) w a 2 c' fun (i j : Nat) => match List.get?Internal (match List.get?Internal [[(1 : Int), (0 : Int), (1 : Int), (0 : Int), (3 : Int), (0 : Int), (0 : Int), (0 : Int), (0 : Int)], [(2 : Int), (0 : Int), (1 : Int), (0 : Int), (3 : Int), (1 : Int), (0 : Int), (1 : Int), (0 : Int)]] (0 + i) with | some x => x | none => []) j with | some x => x | none => (0 : Int)) ∧ (0 : Int) ≤ (1 : Int) ∧ (1 : Int) < (2 : Int) ∧ 1 < 2) ∧ ((Rws 9 (fun (x : Nat) => .i64) w a 2 c' fun (i j : Nat) => match List.get?Internal (match List.get?Internal [[(1 : Int), (0 : Int), (1 : Int), (0 : Int), (3 : Int), (0 : Int), (0 : Int), (0 : Int), (0 : Int)], [(2 : Int), (0 : Int), (1 : Int), (0 : Int), (3 : Int), (1 : Int), (0 : Int), (1 : Int), (0 : Int)]] (0 + i) with | some x => x | none => []) j with | some x => x | none => (0 : Int)) ∧ 1 < 2) ∧ ((0 : Int) ≤ (0 : Int) ∧ (0 : Int) < (1 : Int) ∧ 1 ≤ c) ∧ 0 < 1 ∧ drawP Tryd.f61 16 (regOps Tryd.f61 16) 7 [HX.mk 11 [] [] [] false, HX.mk 10 [] [] [] false, HX.mk 9 [5] [] [] false, HX.mk 8 [] [] [5] false, HX.mk 7 [4] [] [] false, HX.mk 6 [] [] [4] false, HX.mk 5 [] [] [4] false, HX.mk 4 [] [] [] false, HX.mk 3 [] [] [4] false, HX.mk 2 [] [] [] false, HX.mk 1 [] [] [] false, HX.mk 0 [] [] [] false] ∧ ((0 : Int) ≤ (0 : Int) ∧ (0 : Int) < (1 : Int) ∧ 1 ≤ c) ∧ 0 < 1 ∧ ((0 : Int) ≤ (0 : Int) ∧ (0 : Int) < (1 : Int) ∧ 1 ≤ c) ∧ 0 < 1 ∧ ((0 : Int) ≤ (0 : Int) ∧ (0 : Int) < (1 : Int) ∧ 1 ≤ c) ∧ 0 < 1 ∧ drawP Tryd.f61 18 (regOps Tryd.f61 18) 7 [HX.mk 20 [] [4] [] false, HX.mk 19 [] [] [4] false, HX.mk 18 [] [] [4] false, HX.mk 17 [] [4] [] false, HX.mk 16 [] [] [4] false, HX.mk 15 [] [] [4] false, HX.mk 14 [] [4] [] false, HX.mk 13 [] [] [4] false, HX.mk 12 [] [] [4] false, HX.mk 11 [5] [] [] false, HX.mk 10 [] [] [5] false, HX.mk 9 [5] [] [] false, HX.mk 8 [] [] [5] false, HX.mk 7 [] [] [] false, HX.mk 6 [] [] [] false, HX.mk 5 [] [] [] false, HX.mk 4 [] [] [4] false, HX.mk 3 [] [] [] false, HX.mk 2 [] [] [4] false, HX.mk 1 [] [] [] false, HX.mk 0 [] [] [4] false] ∧ ((0 : Int) ≤ (1 : Int) ∧ (1 : Int) = (1 : Int) ∧ (1 : Int) ≤ (68719476736 : Int)) ∧ 1 ≤ c ∧ ((0 : Int) ≤ (0 : Int) ∧ (0 : Int) < (1 : Int) ∧ 1 ≤ c) ∧ 0 < 1 ∧ ((Rws 6 (fun (x : Nat) => .i64) w a2 1 c2 fun (i j : Nat) => match List.get?Internal (match List.get?Internal [[(0 : Int), (1 : Int), (0 : Int), (3 : Int), (1 : Int), (0 : Int)], [(1 : Int), (2 : Int), (0 : Int), (0 : Int), (1 : Int), (3 : Int)]] (0 + i) with | some x => x | none => []) j with | some x => x | none => (0 : Int)) ∧ (0 : Int) ≤ (0 : Int) ∧ (0 : Int) < (1 : Int) ∧ 0 < 1) ∧ ((Rws 6 (fun (x : Nat) => .i64) w a2 1 c2 fun (i j : Nat) => match List.get?Internal (match List.get?Internal [[(0 : Int), (1 : Int), (0 : Int), (3 : Int), (1 : Int), (0 : Int)], [(1 : Int), (2 : Int), (0 : Int), (0 : Int), (1 : Int), (3 : Int)]] (0 + i) with | some x => x | none => []) j with | some x => x | none => (0 : Int)) ∧ 0 < 1) ∧ ((0 : Int) ≤ (0 : Int) ∧ (0 : Int) < (1 : Int) ∧ 1 ≤ 1) ∧ 0 < 1 ∧ ((0 : Int) ≤ (0 : Int) ∧ (0 : Int) < (1 : Int) ∧ 1 ≤ 1) ∧ 0 < 1 ∧ ((Rws 6 (fun (x : Nat) => .i64) w a2 1 c2 fun (i j : Nat) => match List.get?Internal (match List.get?Internal [[(0 : Int), (1 : Int), (0 : Int), (3 : Int), (1 : Int), (0 : Int)], [(1 : Int), (2 : Int), (0 : Int), (0 : Int), (1 : Int), (3 : Int)]] (0 + i) with | some x => x | none => []) j with | some x => x | none => (0 : Int)) ∧ (0 : Int) ≤ (0 : Int) ∧ (0 : Int) < (1 : Int) ∧ 0 < 1) ∧ ((Rws 6 (fun (x : Nat) => .i64) w a2 1 c2 fun (i j : Nat) => match List.get?Internal (match List.get?Internal [[(0 : Int), (1 : Int), (0 : Int), (3 : Int), (1 : Int), (0 : Int)], [(1 : Int), (2 : Int), (0 : Int), (0 : Int), (1 : Int), (3 : Int)]] (0 + i) with | some x => x | none => []) j with | some x => x | none => (0 : Int)) ∧ 0 < 1) ∧ ((0 : Int) ≤ (0 : Int) ∧ (0 : Int) < (1 : Int) ∧ 1 ≤ 1) ∧ 0 < 1 ∧ 1 ≤ 1 ∧ endD conFitsA [] (fun (x : SV) (x_1 : List SB) => []) PUnit.unit (SV.o (SA.c (.v Value.nilIface))) [SB.gone, SB.cells [Seg.one (.v (.int .i64 (1 : Int))), Seg.one (.v (.int .i64 (0 : Int))), Seg.one (.v (.int .i64 (1 : Int))), Seg.one (.v (.int .i64 (0 : Int))), Seg.one (.v (.int .i64 (3 : Int))), Seg.one (.v (.int .i64 (0 : Int))), Seg.one (.v (.int .i64 (0 : Int))), Seg.one (.v (.int .i64 (0 : Int))), Seg.one (.v (.int .i64 (0 : Int)))] 70, SB.cells [Seg.one (.v (.int .i64 (10 : Int))), Seg.one (.v (.int .i64 (0 : Int)))] 100, SB.rows 120 [.int .i64, .int .i64, .int .i64, .int .i64, .int .i64, .int .i64, .int .i64, .int .i64, .int .i64] 9 1 1 fun (i j : Nat) => match List.get?Internal (match List.get?Internal [[(0 : Int), (1 : Int), (0 : Int), (3 : Int), (1 : Int), (0 : Int), (0 : Int), (0 : Int), (0 : Int)]] i with | some x => x | none => []) j with | some x => x | none => (0 : Int), SB.rows 120 [.int .i64, .int .i64, .int .i64, .int .i64, .int .i64, .int .i64, .int .i64, .int .i64, .int .i64] 9 1 c fun (i j : Nat) => bif match Nat.beq i 0 with | false => false | true => match Nat.ble 7 j with | false => false | true => Nat.ble j 8 then match List.get?Internal [(1 : Int), (0 : Int)] (match match match match match match match j with | 0 => 0 | Nat.succ a => a with | 0 => 0 | Nat.succ a => a with | 0 => 0 | Nat.succ a => a with | 0 => 0 | Nat.succ a => a with | 0 => 0 | Nat.succ a => a with | 0 => 0 | Nat.succ a => a with | 0 => 0 | Nat.succ a => a) with | some x => x | none => (0 : Int) else bif match Nat.beq i 0 with | false => false | true => match Nat.ble 6 j with | false => false | true => Nat.ble j 6 then match List.get?Internal [(1 : Int)] (match match match match match match j with | 0 => 0 | Nat.succ a => a with | 0 => 0 | Nat.succ a => a with | 0 => 0 | Nat.succ a => a with | 0 => 0 | Nat.succ a => a with | 0 => 0 | Nat.succ a => a with | 0 => 0 | Nat.succ a => a) with | some x => x | none => (0 : Int) else bif match Nat.beq i 0 with | false => false | true => match Nat.ble 5 j with | false => false | true => Nat.ble j 5 then match List.get?Internal [(2 : Int)] (match match match match match j with | 0 => 0 | Nat.succ a => a with | 0 => 0 | Nat.succ a => a with | 0 => 0 | Nat.succ a => a with | 0 => 0 | Nat.succ a => a with | 0 => 0 | Nat.succ a => a) with | some x => x | none => (0 : Int) else match List.get?Internal (match List.get?Internal [[(0 : Int), (1 : Int), (0 : Int), (3 : Int), (1 : Int), (0 : Int), (0 : Int), (0 : Int), (0 : Int)]] (0 + i) with | some x => x | none => []) j with | some x => x | none => (0 : Int), SB.cells [Seg.one (.v (.int .i64 (2 : Int))), Seg.one (.v (.int .i64 (0 : Int))), Seg.one (.v (.int .i64 (1 : Int))), Seg.one (.v (.int .i64 (0 : Int))), Seg.one (.v (.int .i64 (3 : Int))), Seg.one (.v (.int .i64 (1 : Int))), Seg.one (.v (.int .i64 (0 : Int))), Seg.one (.v (.int .i64 (1 : Int))), Seg.one (.v (.int .i64 (0 : Int)))] 70, SB.cells [Seg.one (.v (.int .i64 (10 : Int))), Seg.one (.v (.int .i64 (1 : Int)))] 100, SB.rows 3 [.int .i64] 1 1 1 fun (i j : Nat) => bif match Nat.beq i 0 with | false => false | true => Nat.ble j 0 then match List.get?Internal [(1 : Int)] j with | some x => x | none => (0 : Int) else (0 : Int), SB.cells [Seg.one (.v (.int .i64 (0 : Int))), Seg.one (.v (.int .i64 (1 : Int))), Seg.one (.v (.int .i64 (0 : Int))), Seg.one (.v (.int .i64 (3 : Int))), Seg.one (.v (.int .i64 (1 : Int))), Seg.one (.v (.int .i64 (2 : Int))), Seg.one (.v (.int .i64 (1 : Int))), Seg.one (.v (.int .i64 (1 : Int))), Seg.one (.v (.int .i64 (0 : Int)))] 120, SB.cells [Seg.one (.v (.int .i64 (0 : Int))), Seg.one (.v (.int .i64 (1 : Int))), Seg.one (.v (.int .i64 (0 : Int))), Seg.one (.v (.int .i64 (3 : Int))), Seg.one (.v (.int .i64 (1 : Int))), Seg.one (.v (.int .i64 (0 : Int)))] 38, SB.cells [Seg.one (.v (.int .i64 (0 : Int))), Seg.one (.v (.int .i64 (1 : Int))), Seg.one (.v (.int .i64 (0 : Int))), Seg.one (.v (.int .i64 (3 : Int))), Seg.one (.v (.int .i64 (1 : Int))), Seg.one (.v (.int .i64 (0 : Int)))] 38]) (by kernel_rfl) ?_
  refine ⟨⟨by_eq (q := Rws 9 (fun _ => .i64) w a 2 c' (fun i => zOf evL (0 + i))) (by kernel_rfl) hr, by decide, by decide, by decide⟩, ⟨by_eq (q := Rws 9 (fun _ => .i64) w a 2 c' (fun i => zOf evL (0 + i))) (by kernel_rfl) hr, by decide⟩, ⟨trivial, ⟨Nat.le_refl _, rfl⟩, by decide⟩, fun c hc => ?_⟩
  repeat' (first | (show Rws 9 (fun _ => .i64) w a 2 c' _; exact by_eq (q := Rws 9 (fun _ => .i64) w a 2 c' (fun i => zOf evL (0 + i))) (by kernel_rfl) hr) | (show Rws 6 (fun _ => .i64) w a2 1 c2 _; exact by_eq (q := Rws 6 (fun _ => .i64) w a2 1 c2 (fun i => zOf deL (0 + i))) (by kernel_rfl) hr2) | exact draw_of (by kernel_rfl) | exact hc | omega | refine And.intro ?_ ?_)
  exact ⟨(), trivial, rfl, rfl⟩
end Go.Proofs.YtacgihekdmoceaaDoor
end
section
namespace Go.Proofs.YtacgihekdmoceaaDoor
open Go.RowKit
set_option linter.unusedVariables false
set_option maxRecDepth 100000
set_option maxHeartbeats 4000000
def conMadeN : RCon where
  σ := Int
  χ := Unit
  pre _ := True
  args k := [.c (.v (.int .i64 k)), .c (.v (.slice none 0 0))]
  mem _ := []
  ok _ _ := True
  val _ _ := .o (cellsA (fun _ => 0))
  new _ _ := []
  len := 0
  det := some ()
  find _ _ := some []
theorem madeN_con : (Con.rd conMadeN).holds Tryd.prog 35 := by
  intro w0 S
  refine rd_of_run (AG := []) (Γ := []) Tryd.func35 rfl (by kernel_rfl) tabMd_ok tabMd_tys (fun _ _ => .nil _ _ _) conMadeN (fun x0 h s x => ⟨rfl, trivial⟩) [] (fun _ _ => []) 400 ?_
  rintro k ρ w - - -
  refine ⟨[.c (.v (.int .i64 k)), .c (.r none 0 0 0 3 (fun _ => .i64) (fun _ _ => 0))], rfl, rfl, ?_⟩
  refine by_eq (q :=
      ((0 : Int) ≤ (0 : Int) ∧ (0 : Int) ≤ (0 : Int)) ∧ endD conMadeN [] (fun (x : SV) (x_1 : List SB) => []) k (SV.o (SA.a [Seg.ints (.int .u64) 17 fun (x : Nat) => (0 : Int)])) [SB.cells [Seg.ints (.int .u64) 17 fun (x : Nat) => (0 : Int)] 27, SB.cells [Seg.ints (.int .u64) 17 fun (x : Nat) => (0 : Int)] 27]) (by kernel_rfl) ?_
  exact ⟨⟨by decide, by decide⟩, (), trivial, rfl, rfl⟩
def conJudged : PCon := ⟨fun args => match args with
  | [] => True
  | _ => False, fun _ => sv (.bool true), fun _ => none⟩
theorem judged_con (W : World) (hE : ErrType W) : (Con.pure conJudged).holdsAt Tryd.prog W (fun _ => False) 9 := by
  have hlt : 0 < W.heap.size := by
    rcases Nat.eq_zero_or_pos W.heap.size with h0 | h
    · simp [ErrType, World.cell?, h0] at hE
    · exact h
  refine pure_of_run2_at (Γ := [(34, .pure conPut), (35, .rd conMadeN), (50, .pure conIs), (12, .pure conDo), (14, .inl Tryd.f14 (Tryd.f14.body.getD .skip)), (36, .rd conTell), (37, .rd conFitsA), (37, .rd conFitsB)]) Tryd.func9 rfl (by kernel_rfl) tabJ_ok tabJ_tys
    (fun w hK => .cons (put_con w _) (.cons (madeN_con w _) (.cons (is_con w _) (.cons (do_con w _) (.cons ⟨by kernel_rfl, Tryd.func14, rfl⟩ (.cons (tell_con w ((hK.cell hlt (fun h => h)).trans hE)) (.cons (fitsA_con w _) (.cons (fitsB_con w _) (.nil _ _ _))))))))) conJudged (fun _ => []) 2000 ?_
  intro w args hp hK
  unfold conJudged at hp; dsimp only at hp; split at hp
  case h_2 => exact hp.elim
  refine ⟨rfl, ?_⟩
  refine by_eq (q :=
      True ∧ True ∧ 2 ≤ 2 ∧ ((0 : Int) ≤ (0 : Int) ∧ (0 : Int) < (2 : Int) ∧ 2 ≤ 2) ∧ 0 < 2 ∧ (17 = 17 ∧ ObjOK (1 : Int) (toN 17 fun (x : Nat) => (0 : Int))) ∧ ((0 : Int) ≤ (1 : Int) ∧ (1 : Int) < (2 : Int) ∧ 2 ≤ 2) ∧ 1 < 2 ∧ (17 = 17 ∧ ObjOK (1 : Int) (toN 17 (fL (objR (1 : Int) (toN 17 fun (x : Nat) => (0 : Int)) (1 : Int) (0 : Int) (3 : Int)).1))) ∧ ((0 : Int) ≤ (1 : Int) ∧ (1 : Int) ≤ (2 : Int) ∧ (2 : Int) ≤ (2 : Int) ∧ (0 = 0 ∨ (1 : Int) < (2 : Int))) ∧ True ∧ 1 ≤ 2 ∧ ((0 : Int) ≤ (0 : Int) ∧ (0 : Int) < (1 : Int) ∧ 2 ≤ 2) ∧ 1 < 2 ∧ (17 = 17 ∧ ObjOK (1 : Int) (toN 17 fun (x : Nat) => (0 : Int))) ∧ True ∧ True ∧ ∃ (s : Int), [SA.c (.v (Value.int .i64 (1 : Int))), SA.c (.v (Value.slice none 0 0))] = [SA.c (.v (Value.int .i64 s)), SA.c (.v (Value.slice none 0 0))] ∧ ([] : List SB) = [] ∧ True ∧ ∀ (x : Unit), True → ∃ (s : TellS), [SA.c (.i 98 15 0)] = List.map (fun (x : SA) => match x with | SA.c x => SA.c (match x with | SC.p b off => SC.p (match List.get?Internal [15] b with | some x => x | none => 0) off | SC.e b off ix => SC.e (match List.get?Internal [15] b with | some x => x | none => 0) off ix | SC.s b off n c => SC.s (match List.get?Internal [15] b with | some x => x | none => 0) off n c | SC.i t b off => SC.i t (match List.get?Internal [15] b with | some x => x | none => 0) off | SC.o b n c => SC.o (match List.get?Internal [15] b with | some x => x | none => 0) n c | SC.er b sz ix g => SC.er (match List.get?Internal [15] b with | some x => x | none => 0) sz ix g | SC.so b lo sz n c nn => SC.so (match List.get?Internal [15] b with | some x => x | none => 0) lo sz n c nn | SC.fn g cs => SC.fn g (List.map (fun (q : Nat × Nat) => (match List.get?Internal [15] q.1 with | some x => x | none => 0, q.2)) cs) | SC.m b => SC.m (match List.get?Internal [15] b with | some x => x | none => 0) | x => x) | SA.a l => SA.a (List.map (fun (x : Seg) => match x with | Seg.one x => Seg.one (match x with | SC.p b off => SC.p (match List.get?Internal [15] b with | some x => x | none => 0) off | SC.e b off ix => SC.e (match List.get?Internal [15] b with | some x => x | none => 0) off ix | SC.s b off n c => SC.s (match List.get?Internal [15] b with | some x => x | none => 0) off n c | SC.i t b off => SC.i t (match List.get?Internal [15] b with | some x => x | none => 0) off | SC.o b n c => SC.o (match List.get?Internal [15] b with | some x => x | none => 0) n c | SC.er b sz ix g => SC.er (match List.get?Internal [15] b with | some x => x | none => 0) sz ix g | SC.so b lo sz n c nn => SC.so (match List.get?Internal [15] b with | some x => x | none => 0) lo sz n c nn | SC.fn g cs => SC.fn g (List.map (fun (q : Nat × Nat) => (match List.get?Internal [15] q.1 with | some x => x | none => 0, q.2)) cs) | SC.m b => SC.m (match List.get?Internal [15] b with | some x => x | none => 0) | x => x) | s => s) l)) (match s with | TellS.no e => [SA.c (.v (Value.iface 73 (Value.int .i64 e)))] | TellS.at e p => [SA.c (.i 98 0 0)]) ∧ [SB.cells [Seg.one (.v (.int .i64 (13 : Int))), Seg.one (.v (.int .i64 (0 : Int)))] 100] = List.map (fun (x : SB) => match x with | SB.cells l t => SB.cells (List.map (fun (x : Seg) => match x with | Seg.one x => Seg.one (match x with | SC.p b off => SC.p (match List.get?Internal [15] b with | some x => x | none => 0) off | SC.e b off ix => SC.e (match List.get?Internal [15] b with | some x => x | none => 0) off ix | SC.s b off n c => SC.s (match List.get?Internal [15] b with | some x => x | none => 0) off n c | SC.i t b off => SC.i t (match List.get?Internal [15] b with | some x => x | none => 0) off | SC.o b n c => SC.o (match List.get?Internal [15] b with | some x => x | none => 0) n c | SC.er b sz ix g => SC.er (match List.get?Internal [15] b with | some x => x | none => 0) sz ix g | SC.so b lo sz n c nn => SC.so (match List.get?Internal [15] b with | some x => x | none => 0) lo sz n c nn | SC.fn g cs => SC.fn g (List.map (fun (q : Nat × Nat) => (match List.get?Internal [15] q.1 with | some x => x | none => 0, q.2)) cs) | SC.m b => SC.m (match List.get?Internal [15] b with | some x => x | none => 0) | x => x) | s => s) l) t | b => b) (match s with | TellS.no e => [] | TellS.at e p => [SB.cells [Seg.one (.v (.int .i64 e)), Seg.one (.v (.int .i64 p))] 100]) ∧ True ∧ ∀ (x : Unit), True → bif (match s with | TellS.no e => e | TellS.at e p => e) == (13 : Int) then ((0 : Int) ≤ (1 : Int) ∧ (1 : Int) ≤ (2 : Int)) ∧ ∃ (s : Unit), [SA.c (.so 17 0 9 2 2 true), SA.c (.so 0 0 6 1 2 true)] = [SA.c (.so 17 0 9 2 2 true), SA.c (.so 0 0 6 1 2 true)] ∧ [SB.rows 70 [.int .i64, .int .i64, .int .i64, .int .i64, .int .i64, .int .i64, .int .i64, .int .i64, .int .i64] 9 2 2 fun (i j : Nat) => match List.get?Internal (match List.get?Internal [[(1 : Int), (0 : Int), (1 : Int), (0 : Int), (3 : Int), (0 : Int), (0 : Int), (0 : Int), (0 : Int)], [(2 : Int), (0 : Int), (1 : Int), (0 : Int), (3 : Int), (1 : Int), (0 : Int), (1 : Int), (0 : Int)]] i with | some x => x | none => []) j with | some x => x | none => (0 : Int), SB.rows 38 [.int .i64, .int .i64, .int .i64, .int .i64, .int .i64, .int .i64] 6 2 2 fun (i j : Nat) => match List.get?Internal (match List.get?Internal [[(0 : Int), (1 : Int), (0 : Int), (3 : Int), (1 : Int), (0 : Int)], [(1 : Int), (2 : Int), (0 : Int), (0 : Int), (1 : Int), (3 : Int)]] i with | some x => x | none => []) j with | some x => x | none => (0 : Int)] = [SB.rows 70 [.int .i64, .int .i64, .int .i64, .int .i64, .int .i64, .int .i64, .int .i64, .int .i64, .int .i64] 9 2 2 fun (i j : Nat) => match List.get?Internal (match List.get?Internal [[(1 : Int), (0 : Int), (1 : Int), (0 : Int), (3 : Int), (0 : Int), (0 : Int), (0 : Int), (0 : Int)], [(2 : Int), (0 : Int), (1 : Int), (0 : Int), (3 : Int), (1 : Int), (0 : Int), (1 : Int), (0 : Int)]] i with | some x => x | none => []) j with | some x => x | none => (0 : Int), SB.rows 38 [.int .i64, .int .i64, .int .i64, .int .i64, .int .i64, .int .i64] 6 2 2 fun (i j : Nat) => match List.get?Internal (match List.get?Internal [[(0 : Int), (1 : Int), (0 : Int), (3 : Int), (1 : Int), (0 : Int)], [(1 : Int), (2 : Int), (0 : Int), (0 : Int), (1 : Int), (3 : Int)]] i with | some x => x | none => []) j with | some x => x | none => (0 : Int)] ∧ True ∧ ∀ (x : Unit), True → ∃ (s : Unit), [SA.c (.so 17 0 9 2 2 true), SA.c (.v (Value.slice none 0 0))] = [SA.c (.so 17 0 9 2 2 true), SA.c (.v (Value.slice none 0 0))] ∧ [SB.rows 70 [.int .i64, .int .i64, .int .i64, .int .i64, .int .i64, .int .i64, .int .i64, .int .i64, .int .i64] 9 2 2 fun (i j : Nat) => match List.get?Internal (match List.get?Internal [[(1 : Int), (0 : Int), (1 : Int), (0 : Int), (3 : Int), (0 : Int), (0 : Int), (0 : Int), (0 : Int)], [(2 : Int), (0 : Int), (1 : Int), (0 : Int), (3 : Int), (1 : Int), (0 : Int), (1 : Int), (0 : Int)]] i with | some x => x | none => []) j with | some x => x | none => (0 : Int)] = [SB.rows 70 [.int .i64, .int .i64, .int .i64, .int .i64, .int .i64, .int .i64, .int .i64, .int .i64, .int .i64] 9 2 2 fun (i j : Nat) => match List.get?Internal (match List.get?Internal [[(1 : Int), (0 : Int), (1 : Int), (0 : Int), (3 : Int), (0 : Int), (0 : Int), (0 : Int), (0 : Int)], [(2 : Int), (0 : Int), (1 : Int), (0 : Int), (3 : Int), (1 : Int), (0 : Int), (1 : Int), (0 : Int)]] i with | some x => x | none => []) j with | some x => x | none => (0 : Int)] ∧ True ∧ ∀ (x : Unit), True → ∃ (s : TellS), [SA.c (SC.v (Value.iface 73 (Value.int .i64 (7 : Int))))] = List.map (fun (x : SA) => match x with | SA.c x => SA.c (match x with | SC.p b off => SC.p 0 off | SC.e b off ix => SC.e 0 off ix | SC.s b off n c => SC.s 0 off n c | SC.i t b off => SC.i t 0 off | SC.o b n c => SC.o 0 n c | SC.er b sz ix g => SC.er 0 sz ix g | SC.so b lo sz n c nn => SC.so 0 lo sz n c nn | SC.fn g cs => SC.fn g (List.map (fun (q : Nat × Nat) => (0, q.2)) cs) | SC.m b => SC.m 0 | x => x) | SA.a l => SA.a (List.map (fun (x : Seg) => match x with | Seg.one x => Seg.one (match x with | SC.p b off => SC.p 0 off | SC.e b off ix => SC.e 0 off ix | SC.s b off n c => SC.s 0 off n c | SC.i t b off => SC.i t 0 off | SC.o b n c => SC.o 0 n c | SC.er b sz ix g => SC.er 0 sz ix g | SC.so b lo sz n c nn => SC.so 0 lo sz n c nn | SC.fn g cs => SC.fn g (List.map (fun (q : Nat × Nat) => (0, q.2)) cs) | SC.m b => SC.m 0 | x => x) | s => s) l)) (match s with | TellS.no e => [SA.c (SC.v (Value.iface 73 (Value.int .i64 e)))] | TellS.at e p => [SA.c (.i 98 0 0)]) ∧ [] = List.map (fun (x : SB) => match x with | SB.cells l t => SB.cells (List.map (fun (x : Seg) => match x with | Seg.one x => Seg.one (match x with | SC.p b off => SC.p 0 off | SC.e b off ix => SC.e 0 off ix | SC.s b off n c => SC.s 0 off n c | SC.i t b off => SC.i t 0 off | SC.o b n c => SC.o 0 n c | SC.er b sz ix g => SC.er 0 sz ix g | SC.so b lo sz n c nn => SC.so 0 lo sz n c nn | SC.fn g cs => SC.fn g (List.map (fun (q : Nat × Nat) => (0, q.2)) cs) | SC.m b => SC.m 0 | x => x) | s => s) l) t | b => b) (match s with | TellS.no e => [] | TellS.at e p => [SB.cells [Seg.one (.v (.int .i64 e)), Seg.one (.v (.int .i64 p))] 100]) ∧ True ∧ ∀ (x : Unit), True → drawP Tryd.f9 5 (regOps Tryd.f9 5) 18 [HX.mk 25 [] [] [] false, HX.mk 24 [] [] [] false, HX.mk 23 [] [] [] false, HX.mk 22 [] [] [] false, HX.mk 21 [17] [] [] false, HX.mk 20 [] [] [17] false, HX.mk 19 [] [] [] false, HX.mk 18 [] [] [] false, HX.mk 17 [] [] [] false, HX.mk 16 [17, 0] [] [] false, HX.mk 15 [] [] [0] false, HX.mk 14 [] [] [0] false, HX.mk 13 [] [] [17] false, HX.mk 12 [] [] [] false, HX.mk 11 [] [] [] false, HX.mk 10 [] [] [] false, HX.mk 9 [15] [] [] false, HX.mk 8 [] [] [15] false, HX.mk 7 [] [] [] false, HX.mk 6 [] [] [] false, HX.mk 5 [] [] [] false, HX.mk 4 [] [] [] false, HX.mk 3 [9] [] [] false, HX.mk 2 [] [] [] false, HX.mk 1 [] [] [] false, HX.mk 0 [] [] [] false] ∧ endP conJudged [] (SV.o (SA.c (SC.v (Value.bool ((match s with | TellS.no e => e | TellS.at e p => e) == (7 : Int)))))) [SB.rows 38 [.int .i64, .int .i64, .int .i64, .int .i64, .int .i64, .int .i64] 6 2 2 fun (i j : Nat) => match List.get?Internal (match List.get?Internal [[(0 : Int), (1 : Int), (0 : Int), (3 : Int), (1 : Int), (0 : Int)], [(1 : Int), (2 : Int), (0 : Int), (0 : Int), (1 : Int), (3 : Int)]] i with | some x => x | none => []) j with | some x => x | none => (0 : Int), SB.cells [Seg.ints (.int .u64) 17 (fL (objR (1 : Int) (toN 17 (fL (objR (1 : Int) (toN 17 fun (x : Nat) => (0 : Int)) (1 : Int) (0 : Int) (3 : Int)).1)) (2 : Int) (0 : Int) (0 : Int)).1)] 27, SB.cells [Seg.ints (.int .u64) 17 (fL (objR (1 : Int) (toN 17 (fL (objR (1 : Int) (toN 17 fun (x : Nat) => (0 : Int)) (1 : Int) (0 : Int) (3 : Int)).1)) (2 : Int) (0 : Int) (0 : Int)).1)] 27, SB.cells [Seg.one (.v (.int .i64 (0 : Int))), Seg.one (.v (.int .i64 (1 : Int))), Seg.one (.v (.int .i64 (0 : Int))), Seg.one (.v (.int .i64 (3 : Int))), Seg.one (.v (.int .i64 (1 : Int))), Seg.one (.v (.int .i64 (0 : Int)))] 38, SB.cells [Seg.ints (.int .u64) 17 (fL (objR (1 : Int) (toN 17 fun (x : Nat) => (0 : Int)) (1 : Int) (0 : Int) (3 : Int)).1)] 27, SB.cells [Seg.one (.v (.int .i64 (1 : Int))), Seg.one (.v (.int .i64 (0 : Int)))] 32, SB.cells [Seg.one (.v (.int .i64 (1 : Int))), Seg.one (.v (.int .i64 (2 : Int))), Seg.one (.v (.int .i64 (0 : Int))), Seg.one (.v (.int .i64 (0 : Int))), Seg.one (.v (.int .i64 (1 : Int))), Seg.one (.v (.int .i64 (3 : Int)))] 38, SB.cells [Seg.ints (.int .u64) 17 (fL (objR (1 : Int) (toN 17 (fL (objR (1 : Int) (toN 17 fun (x : Nat) => (0 : Int)) (1 : Int) (0 : Int) (3 : Int)).1)) (2 : Int) (0 : Int) (0 : Int)).1)] 27, SB.cells [Seg.one (.v (.int .i64 (1 : Int))), Seg.one (.v (.int .i64 (3 : Int)))] 32, SB.cells [Seg.ints (.int .u64) 17 (fL (objR (1 : Int) (toN 17 (fL (objR (1 : Int) (toN 17 fun (x : Nat) => (0 : Int)) (1 : Int) (0 : Int) (3 : Int)).1)) (2 : Int) (0 : Int) (0 : Int)).1)] 27, SB.cells [Seg.ints (.int .u64) 17 fun (x : Nat) => (0 : Int)] 27, SB.cells [Seg.ints (.int .u64) 17 fun (x : Nat) => (0 : Int)] 27, SB.cells [Seg.one (.v (.int .i64 (1 : Int))), Seg.one (.v (.int .i64 (2 : Int))), Seg.one (.v (.int .i64 (0 : Int))), Seg.one (.v (.int .i64 (0 : Int))), Seg.one (.v (.int .i64 (1 : Int))), Seg.one (.v (.int .i64 (3 : Int)))] 38, SB.cells [Seg.ints (.int .u64) 17 (fL (objR (1 : Int) (toN 17 fun (x : Nat) => (0 : Int)) (2 : Int) (0 : Int) (0 : Int)).1)] 27, SB.cells [Seg.one (.v (.int .i64 (2 : Int))), Seg.one (.v (.int .i64 (0 : Int)))] 32, SB.cells [Seg.one (.v (.int .i64 (13 : Int))), Seg.one (.v (.int .i64 (0 : Int)))] 100, SB.cells [Seg.ints (.int .u64) 17 fun (x : Nat) => (0 : Int)] 27, SB.rows 70 [.int .i64, .int .i64, .int .i64, .int .i64, .int .i64, .int .i64, .int .i64, .int .i64, .int .i64] 9 2 2 fun (i j : Nat) => match List.get?Internal (match List.get?Internal [[(1 : Int), (0 : Int), (1 : Int), (0 : Int), (3 : Int), (0 : Int), (0 : Int), (0 : Int), (0 : Int)], [(2 : Int), (0 : Int), (1 : Int), (0 : Int), (3 : Int), (1 : Int), (0 : Int), (1 : Int), (0 : Int)]] i with | some x => x | none => []) j with | some x => x | none => (0 : Int)] else drawP Tryd.f9 5 (regOps Tryd.f9 5) 18 [HX.mk 25 [] [] [] false, HX.mk 24 [] [] [] false, HX.mk 23 [] [] [] false, HX.mk 22 [] [] [] false, HX.mk 21 [] [] [] false, HX.mk 20 [] [] [] false, HX.mk 19 [] [] [] false, HX.mk 18 [] [] [] false, HX.mk 17 [] [] [] false, HX.mk 16 [] [] [] false, HX.mk 15 [] [] [] false, HX.mk 14 [] [] [] false, HX.mk 13 [] [] [] false, HX.mk 12 [] [] [] false, HX.mk 11 [] [] [] false, HX.mk 10 [] [] [] false, HX.mk 9 [15] [] [] false, HX.mk 8 [] [] [15] false, HX.mk 7 [] [] [] false, HX.mk 6 [] [] [] false, HX.mk 5 [] [] [] false, HX.mk 4 [] [] [] false, HX.mk 3 [9] [] [] false, HX.mk 2 [] [] [] false, HX.mk 1 [] [] [] false, HX.mk 0 [] [] [] false] ∧ endP conJudged [] (SV.o (SA.c (.v (Value.bool false)))) [SB.rows 38 [.int .i64, .int .i64, .int .i64, .int .i64, .int .i64, .int .i64] 6 2 2 fun (i j : Nat) => match List.get?Internal (match List.get?Internal [[(0 : Int), (1 : Int), (0 : Int), (3 : Int), (1 : Int), (0 : Int)], [(1 : Int), (2 : Int), (0 : Int), (0 : Int), (1 : Int), (3 : Int)]] i with | some x => x | none => []) j with | some x => x | none => (0 : Int), SB.cells [Seg.ints (.int .u64) 17 (fL (objR (1 : Int) (toN 17 (fL (objR (1 : Int) (toN 17 fun (x : Nat) => (0 : Int)) (1 : Int) (0 : Int) (3 : Int)).1)) (2 : Int) (0 : Int) (0 : Int)).1)] 27, SB.cells [Seg.ints (.int .u64) 17 (fL (objR (1 : Int) (toN 17 (fL (objR (1 : Int) (toN 17 fun (x : Nat) => (0 : Int)) (1 : Int) (0 : Int) (3 : Int)).1)) (2 : Int) (0 : Int) (0 : Int)).1)] 27, SB.cells [Seg.one (.v (.int .i64 (0 : Int))), Seg.one (.v (.int .i64 (1 : Int))), Seg.one (.v (.int .i64 (0 : Int))), Seg.one (.v (.int .i64 (3 : Int))), Seg.one (.v (.int .i64 (1 : Int))), Seg.one (.v (.int .i64 (0 : Int)))] 38, SB.cells [Seg.ints (.int .u64) 17 (fL (objR (1 : Int) (toN 17 fun (x : Nat) => (0 : Int)) (1 : Int) (0 : Int) (3 : Int)).1)] 27, SB.cells [Seg.one (.v (.int .i64 (1 : Int))), Seg.one (.v (.int .i64 (0 : Int)))] 32, SB.cells [Seg.one (.v (.int .i64 (1 : Int))), Seg.one (.v (.int .i64 (2 : Int))), Seg.one (.v (.int .i64 (0 : Int))), Seg.one (.v (.int .i64 (0 : Int))), Seg.one (.v (.int .i64 (1 : Int))), Seg.one (.v (.int .i64 (3 : Int)))] 38, SB.cells [Seg.ints (.int .u64) 17 (fL (objR (1 : Int) (toN 17 (fL (objR (1 : Int) (toN 17 fun (x : Nat) => (0 : Int)) (1 : Int) (0 : Int) (3 : Int)).1)) (2 : Int) (0 : Int) (0 : Int)).1)] 27, SB.cells [Seg.one (.v (.int .i64 (1 : Int))), Seg.one (.v (.int .i64 (3 : Int)))] 32, SB.cells [Seg.ints (.int .u64) 17 (fL (objR (1 : Int) (toN 17 (fL (objR (1 : Int) (toN 17 fun (x : Nat) => (0 : Int)) (1 : Int) (0 : Int) (3 : Int)).1)) (2 : Int) (0 : Int) (0 : Int)).1)] 27, SB.cells [Seg.ints (.int .u64) 17 fun (x : Nat) => (0 : Int)] 27, SB.cells [Seg.ints (.int .u64) 17 fun (x : Nat) => (0 : Int)] 27, SB.cells [Seg.one (.v (.int .i64 (1 : Int))), Seg.one (.v (.int .i64 (2 : Int))), Seg.one (.v (.int .i64 (0 : Int))), Seg.one (.v (.int .i64 (0 : Int))), Seg.one (.v (.int .i64 (1 : Int))), Seg.one (.v (.int .i64 (3 : Int)))] 38, SB.cells [Seg.ints (.int .u64) 17 (fL (objR (1 : Int) (toN 17 fun (x : Nat) => (0 : Int)) (2 : Int) (0 : Int) (0 : Int)).1)] 27, SB.cells [Seg.one (.v (.int .i64 (2 : Int))), Seg.one (.v (.int .i64 (0 : Int)))] 32, SB.cells [Seg.one (.v (.int .i64 (13 : Int))), Seg.one (.v (.int .i64 (0 : Int)))] 100, SB.cells [Seg.ints (.int .u64) 17 fun (x : Nat) => (0 : Int)] 27, SB.rows 70 [.int .i64, .int .i64, .int .i64, .int .i64, .int .i64, .int .i64, .int .i64, .int .i64, .int .i64] 9 2 2 fun (i j : Nat) => match List.get?Internal (match List.get?Internal [[(1 : Int), (0 : Int), (1 : Int), (0 : Int), (3 : Int), (0 : Int), (0 : Int), (0 : Int), (0 : Int)], [(2 : Int), (0 : Int), (1 : Int), (0 : Int), (3 : Int), (1 : Int), (0 : Int), (1 : Int), (0 : Int)]] i with | some x => x | none => []) j with | some x => x | none => (0 : Int)]) (by kernel_rfl) ?_
  have ok0 : ObjOK 1 (toN 17 fun _ => 0) := objOK_zero 1 (by decide) (by decide)
  have ok1 : ObjOK 1 (toN 17 (fL (objR 1 (toN 17 fun _ => 0) 1 0 3).1)) := by
    have := objR_ok ok0 1 0 3 rfl
    rw [toN_fL (objOK_len this)]; exact this
  refine ⟨trivial, trivial, by decide, ⟨by decide, by decide, by decide⟩, by decide, ⟨rfl, ok0⟩, ⟨by decide, by decide, by decide⟩, by decide, ⟨rfl, ok1⟩, ⟨by decide, by decide, by decide, .inl rfl⟩, trivial, by decide, ⟨by decide, by decide, by decide⟩, by decide, ⟨rfl, ok0⟩, trivial, trivial, (1 : Int), rfl, rfl, trivial, fun _ _ => ⟨TellS.at 13 0, rfl, rfl, trivial, fun _ _ => ?_⟩⟩
  refine by_beq (fun _ => ?_) (fun h => absurd rfl h)
  exact ⟨⟨by decide, by decide⟩, (), rfl, rfl, trivial, fun _ _ => ⟨(), rfl, rfl, trivial, fun _ _ => ⟨TellS.no 7, rfl, rfl, trivial, fun _ _ => ⟨draw_of (by kernel_rfl), rfl, fun ρ => rfl⟩⟩⟩⟩
end Go.Proofs.YtacgihekdmoceaaDoor
end
section
namespace Go.Proofs.YtacgihekdmoceaaDoor
set_option linter.unusedVariables false
def IdOk (l : List Ask) (t : Int) (k : Int) : Prop := (k = -1 ∧ ∀ a ∈ l, (a.t : Int) ≠ t) ∨ ∃ i : Nat, k = (i : Int) ∧ i < l.length ∧ ((l.getD i Ask.nil).t : Int) = t ∧ ∀ a ∈ l.take i, (a.t : Int) ≠ t
def hasT (l : List Ask) (t : Int) : Bool := l.any fun a => (a.t : Int) == t
theorem hasT_iff (l : List Ask) (t : Int) : hasT l t = true ↔ ∃ a ∈ l, (a.t : Int) = t := by simp [hasT]
theorem idOk_has {l : List Ask} {t k : Int} (h : IdOk l t k) : (decide (k ≥ 0)) = hasT l t := by
  rcases h with ⟨rfl, h⟩ | ⟨i, rfl, hi, h, -⟩
  · symm
    cases hb : hasT l t
    · rfl
    · obtain ⟨a, ha, e⟩ := (hasT_iff l t).1 hb
      exact absurd e (h a ha)
  · rw [(hasT_iff l t).2 ⟨_, by rw [List.getD_eq_getElem?_getD, List.getElem?_eq_getElem hi]; exact List.getElem_mem hi, h⟩]
    exact decide_eq_true (by omega)
theorem take_none {l : List Ask} {t : Int} {i : Nat} (hi : i < l.length) (h : ∀ a ∈ l.take i, (a.t : Int) ≠ t) (hn : ((l.getD i Ask.nil).t : Int) ≠ t) : ∀ a ∈ l.take (i + 1), (a.t : Int) ≠ t := by
  intro a ha
  rw [take_snoc hi] at ha
  rcases List.mem_append.1 ha with ha | ha
  · exact h a ha
  · obtain rfl := List.mem_singleton.1 ha; exact hn
/-- One ask of each thread: the first one. -/
def oneTo (l : List Ask) : Nat → List Ask
  | 0 => []
  | i + 1 => bif hasT (oneTo l i) ((l.getD i Ask.nil).t : Int) then oneTo l i else oneTo l i ++ [l.getD i Ask.nil]
theorem oneTo_len (l : List Ask) : ∀ i, (oneTo l i).length ≤ i
  | 0 => Nat.le_refl _
  | i + 1 => by
    have := oneTo_len l i
    simp only [oneTo]
    cases hasT (oneTo l i) ((l.getD i Ask.nil).t : Int)
    · rw [cond_false, List.length_append, List.length_singleton]; omega
    · rw [cond_true]; omega
theorem oneTo_ok {l : List Ask} (h : AsksOK l) : ∀ i, i ≤ l.length → AsksOK (oneTo l i) ∧ (oneTo l i).Pairwise (fun a b => a.t ≠ b.t)
  | 0, _ => ⟨fun a h => by simp [oneTo] at h, List.Pairwise.nil⟩
  | i + 1, hi => by
    have ih := oneTo_ok h i (by omega)
    simp only [oneTo]
    cases hb : hasT (oneTo l i) ((l.getD i Ask.nil).t : Int)
    · rw [cond_false]
      refine ⟨fun a ha => ?_, List.pairwise_append.2 ⟨ih.2, List.pairwise_singleton _ _, fun a ha b hb' => ?_⟩⟩
      · rcases List.mem_append.1 ha with ha | ha
        · exact ih.1 a ha
        · obtain rfl := List.mem_singleton.1 ha; exact h.get (by omega)
      · obtain rfl := List.mem_singleton.1 hb'
        intro e
        rw [(hasT_iff _ _).2 ⟨a, ha, by rw [e]⟩] at hb; cases hb
    · rw [cond_true]; exact ih
end Go.Proofs.YtacgihekdmoceaaDoor
end
section
namespace Go.Proofs.YtacgihekdmoceaaDoor
set_option linter.unusedVariables false
/-- The object behind i deeds. -/
def lgC (k : Int) (l : List Dd) : Nat → List Int
  | 0 => List.replicate 17 0
  | i + 1 => (objR k (lgC k l i) (l.getD i Dd.nil).k (l.getD i Dd.nil).key (l.getD i Dd.nil).x).1
structure LgB (k : Int) (l : List Dd) (i : Nat) : Prop where
  op : opOk (l.getD i Dd.nil).k (l.getD i Dd.nil).key (l.getD i Dd.nil).x = true
  c : (objR k (lgC k l i) (l.getD i Dd.nil).k (l.getD i Dd.nil).key (l.getD i Dd.nil).x).2.1 = (l.getD i Dd.nil).c
  v : (objR k (lgC k l i) (l.getD i Dd.nil).k (l.getD i Dd.nil).key (l.getD i Dd.nil).x).2.2 = (l.getD i Dd.nil).v
def Legal (k : Int) (l : List Dd) : Prop := ∀ i, i < l.length → LgB k l i
theorem lgC_ok {k : Int} {l : List Dd} (h1 : 1 ≤ k) (h6 : k ≤ 6) (h : Legal k l) : ∀ i, i ≤ l.length → ObjOK k (lgC k l i)
  | 0, _ => objOK_zero k h1 h6
  | i + 1, hi => objR_ok (lgC_ok h1 h6 h i (by omega)) _ _ _ (h i hi).op
theorem getD_left {α : Type} {l m : List α} {d : α} {i : Nat} (h : i < l.length) : (l ++ m).getD i d = l.getD i d := by
  simp only [List.getD_eq_getElem?_getD, List.getElem?_append_left h]
theorem getD_right {α : Type} {l m : List α} {d : α} {i : Nat} : (l ++ m).getD (l.length + i) d = m.getD i d := by
  simp only [List.getD_eq_getElem?_getD, List.getElem?_append_right (Nat.le_add_right _ _), Nat.add_sub_cancel_left]
theorem lgC_left (k : Int) (l m : List Dd) : ∀ i, i ≤ l.length → lgC k (l ++ m) i = lgC k l i
  | 0, _ => rfl
  | i + 1, hi => by simp only [lgC]; rw [lgC_left k l m i (by omega), getD_left hi]
theorem LgB.left {k : Int} {l m : List Dd} {i : Nat} (hi : i < l.length) (h : LgB k l i) : LgB k (l ++ m) i :=
  ⟨by rw [getD_left hi]; exact h.op, by rw [getD_left hi, lgC_left k l m i (by omega)]; exact h.c, by rw [getD_left hi, lgC_left k l m i (by omega)]; exact h.v⟩
/-- One deed more. -/
theorem Legal.snoc {k : Int} {l : List Dd} {d : Dd} (h : Legal k l) (ho : opOk d.k d.key d.x = true) (hc : (objR k (lgC k l l.length) d.k d.key d.x).2.1 = d.c) (hv : (objR k (lgC k l l.length) d.k d.key d.x).2.2 = d.v) :
    Legal k (l ++ [d]) ∧ lgC k (l ++ [d]) (l ++ [d]).length = (objR k (lgC k l l.length) d.k d.key d.x).1 := by
  have e : (l ++ [d]).getD l.length Dd.nil = d := by have := getD_right (l := l) (m := [d]) (d := Dd.nil) (i := 0); rw [Nat.add_zero] at this; exact this
  refine ⟨fun i hi => ?_, ?_⟩
  · rw [List.length_append, List.length_singleton] at hi
    by_cases h1 : i < l.length
    · exact (h i h1).left h1
    · obtain rfl : i = l.length := by omega
      exact ⟨by rw [e]; exact ho, by rw [e, lgC_left k l [d] _ (Nat.le_refl _)]; exact hc, by rw [e, lgC_left k l [d] _ (Nat.le_refl _)]; exact hv⟩
  · rw [List.length_append, List.length_singleton]
    simp only [lgC]
    rw [e, lgC_left k l [d] _ (Nat.le_refl _)]
/-- A beginning. -/
theorem Legal.take {k : Int} {l : List Dd} (h : Legal k l) (n : Nat) (hn : n ≤ l.length) : Legal k (l.take n) ∧ lgC k (l.take n) n = lgC k l n := by
  have hl : (l.take n).length = n := by simp; omega
  have e : l.take n ++ l.drop n = l := List.take_append_drop n l
  refine ⟨fun i hi => ?_, ?_⟩
  · rw [hl] at hi
    have hi' : i < (l.take n).length := by omega
    have h0 := h i (by omega)
    have g : l.getD i Dd.nil = (l.take n).getD i Dd.nil := by have := getD_left (m := l.drop n) (d := Dd.nil) hi'; rw [e] at this; exact this
    have c : lgC k l i = lgC k (l.take n) i := by have := lgC_left k (l.take n) (l.drop n) i (by omega); rw [e] at this; exact this
    exact ⟨by rw [← g]; exact h0.op, by rw [← g, ← c]; exact h0.c, by rw [← g, ← c]; exact h0.v⟩
  · have := lgC_left k (l.take n) (l.drop n) n (by omega); rw [e] at this; exact this.symm
/-- What JudgeJoins makes: the deeds of operations. -/
def jD (k : Int) (z : Nat → Nat → Int) : Nat → List Dd
  | 0 => []
  | i + 1 => bif opOk (z i 0) (z i 1) (z i 2) then jD k z i ++ [⟨0, z i 0, z i 1, z i 2, (objR k (mdTo k z i) (z i 0) (z i 1) (z i 2)).2.1, (objR k (mdTo k z i) (z i 0) (z i 1) (z i 2)).2.2⟩] else jD k z i
theorem jD_legal (k : Int) (z : Nat → Nat → Int) : ∀ i, Legal k (jD k z i) ∧ lgC k (jD k z i) (jD k z i).length = mdTo k z i
  | 0 => ⟨fun i hi => absurd hi (Nat.not_lt_zero _), rfl⟩
  | i + 1 => by
    obtain ⟨h1, h2⟩ := jD_legal k z i
    simp only [jD, mdTo]
    cases ho : opOk (z i 0) (z i 1) (z i 2)
    · exact ⟨h1, h2⟩
    · rw [cond_true, cond_true]
      have := h1.snoc (d := ⟨0, z i 0, z i 1, z i 2, (objR k (mdTo k z i) (z i 0) (z i 1) (z i 2)).2.1, (objR k (mdTo k z i) (z i 0) (z i 1) (z i 2)).2.2⟩) ho (by rw [h2]) (by rw [h2])
      refine ⟨this.1, this.2.trans ?_⟩
      rw [h2]
theorem jD_len (k : Int) (z : Nat → Nat → Int) : ∀ i, (jD k z i).length ≤ i
  | 0 => Nat.le_refl _
  | i + 1 => by
    have := jD_len k z i
    simp only [jD]
    cases opOk (z i 0) (z i 1) (z i 2)
    · rw [cond_false]; omega
    · rw [cond_true, List.length_append, List.length_singleton]; omega
/-- The deeds of a batch are legal behind those that came to its object. -/
theorem bStep_legal {B : Int} {r : Rec} {a : Ask} {l : List Dd} (h : RecOK B r) (ha : a.ok) (hl : Legal r.kind l) (hc : lgC r.kind l l.length = r.obj) :
    Legal r.kind (l ++ bDs r a) ∧ lgC r.kind (l ++ bDs r a) (l ++ bDs r a).length = (bStep r a).obj := by
  unfold bDs bStep
  cases bOpen r a
  · rw [cond_false, cond_false, List.append_nil]; exact ⟨hl, hc⟩
  · rw [cond_true, cond_true]
    have := hl.snoc (d := bDeed r a) ha.2.2 (by rw [hc]; rfl) (by rw [hc]; rfl)
    refine ⟨this.1, this.2.trans ?_⟩
    rw [hc]; rfl
theorem bR_legal : ∀ {m : List Ask} {B : Int} {r : Rec} {l : List Dd}, RecOK B r → AsksOK m → Legal r.kind l → lgC r.kind l l.length = r.obj →
    Legal r.kind (l ++ bD r m) ∧ lgC r.kind (l ++ bD r m) (l ++ bD r m).length = (bR r m).obj
  | [], B, r, l, _, _, hl, hc => by simp only [bD, bR, List.append_nil]; exact ⟨hl, hc⟩
  | a :: m, B, r, l, h, ha, hl, hc => by
    have h1 := bStep_legal h (ha a List.mem_cons_self) hl hc
    have h2 := bR_legal (m := m) (l := l ++ bDs r a) (bStep_ok h (ha a List.mem_cons_self)) ha.tail (by rw [bStep_kind]; exact h1.1) (by rw [bStep_kind]; exact h1.2)
    rw [bStep_kind, List.append_assoc] at h2
    exact h2
theorem bStep_cnt (r : Rec) (a : Ask) : (bStep r a).cnt = r.cnt + (bDs r a).length := by
  unfold bStep bDs
  cases bOpen r a
  · rw [cond_false, cond_false]; simp
  · rfl
theorem bR_cnt : ∀ (m : List Ask) (r : Rec), (bR r m).cnt = r.cnt + (bD r m).length
  | [], r => by simp [bR, bD]
  | a :: m, r => by
    have h1 := bR_cnt m (bStep r a)
    have h2 := bStep_cnt r a
    show (bR (bStep r a) m).cnt = r.cnt + ((bDs r a ++ bD (bStep r a) m).length : Int)
    rw [h1, h2, List.length_append]; omega
end Go.Proofs.YtacgihekdmoceaaDoor
end
section
namespace Go.Proofs.YtacgihekdmoceaaDoor
open Go.RowKit
set_option linter.unusedVariables false
set_option maxRecDepth 100000
set_option maxHeartbeats 4000000
structure LgS where
  k : Int
  l : List Dd
  lo : Nat
  m : Nat
  c : Nat
  nn : Bool
  z : Nat → Nat → Int
def conLegal : MCon := dcon LgS (fun s => (1 ≤ s.k ∧ s.k ≤ 6) ∧ Legal s.k s.l ∧ s.l.length ≤ 1000 ∧ (s.lo + s.l.length ≤ s.m ∧ s.m ≤ s.c) ∧ IsD (fun i => s.z (s.lo + i)) s.l)
  (fun s => [.c (.v (.int .i64 s.k)), .c (.so 0 s.lo 6 s.l.length s.c s.nn)]) (fun s => [rowsD s.m s.c s.z]) (fun s => .t [cellsA (fL (lgC s.k s.l s.l.length)), nilE]) (fun s => [rowsD s.m s.c s.z]) 1 (fun args _ => some (blkA args))
structure LgG (s : LgS) where
  i : Nat
  hi : i ≤ s.l.length
def annLegal (s : LgS) : Ann where
  σ := LgG s
  I g := ([(0, sv (.int .i64 s.k)), (4, .o (.c (.p 1 0))), (6, .o (.c (.p 2 0))), (17, .o (.c (.so 0 s.lo 6 s.l.length s.c s.nn))), (18, sv (.int .i64 s.l.length)), (19, sv (.int .i64 g.i))], [rowsD s.m s.c s.z, cellsB (fun _ => 0), cellsB (fL (lgC s.k s.l g.i))])
  dec g := s.l.length - g.i
  pi env _ := [0, blkE env 4, blkE env 6]
  nz := []
theorem legal_con : (Con.mem conLegal).holds Tryd.prog 14 := by
  intro w0 S
  refine mem_of_run2 (Γ := [(50, .pure conIs), (12, .pure conDo)]) (fun _ => noW) Tryd.func14 rfl (by kernel_rfl) tabB_ok tabB_tys (fun w S' _ _ => .cons (is_con w S') (.cons (do_con w S') (.nil _ _ _))) conLegal (fun s => [(14, [(0, annLegal s)])]) (fun x0 h s x => ⟨rfl, trivial⟩) (fun s ρ w _ _ _ => noW_old w _) [] (firstN 1) 400 ?_
  rintro ⟨k, l, lo, m, c, nn, z⟩ w ⟨⟨h1, h6⟩, h2, h3, ⟨h4, h5⟩, h7⟩ -
  refine ⟨rfl, ?_⟩
  dsimp only at h1 h6 h2 h3 h4 h5 h7
  refine by_eq (q :=
      True ∧ bif bif decide ((1 : Int) ≤ k ∧ k ≤ (6 : Int)) then false else true then endN conLegal [] (firstN 1) (LgS.mk k l lo m c nn z) (SV.t [SA.a [Seg.ints (.int .u64) 17 fun (x : Nat) => (0 : Int)], SA.c (.v (Value.iface 73 (Value.int .i64 (1 : Int))))]) [SB.rows 38 [.int .i64, .int .i64, .int .i64, .int .i64, .int .i64, .int .i64] 6 m c z, SB.cells [Seg.ints (.int .u64) 17 fun (x : Nat) => (0 : Int)] 27, SB.cells [Seg.ints (.int .u64) 17 fun (x : Nat) => (0 : Int)] 27] else List.length l ≤ c ∧ (∃ (s0 : Ann.σ (annLegal (LgS.mk k l lo m c nn z))), (some (SV.o (SA.c (.v (Value.int .i64 k)))) = some (SV.o (SA.c (.v (Value.int .i64 k)))) ∧ some (SV.o (SA.c (.p 1 0))) = some (SV.o (SA.c (.p 1 0))) ∧ some (SV.o (SA.c (.p 2 0))) = some (SV.o (SA.c (.p 2 0))) ∧ some (SV.o (SA.c (.so 0 lo 6 (List.length l) c nn))) = some (SV.o (SA.c (.so 0 lo 6 (List.length l) c nn))) ∧ some (SV.o (SA.c (.v (Value.int .i64 (↑(List.length l) : Int))))) = some (SV.o (SA.c (.v (Value.int .i64 (↑(List.length l) : Int))))) ∧ some (SV.o (SA.c (.v (Value.int .i64 (0 : Int))))) = some (SV.o (SA.c (.v (Value.int .i64 (↑s0.1 : Int))))) ∧ True) ∧ [SB.rows 38 [.int .i64, .int .i64, .int .i64, .int .i64, .int .i64, .int .i64] 6 m c z, SB.cells [Seg.ints (.int .u64) 17 fun (x : Nat) => (0 : Int)] 27, SB.cells [Seg.ints (.int .u64) 17 fun (x : Nat) => (0 : Int)] 27] = [SB.rows 38 [.int .i64, .int .i64, .int .i64, .int .i64, .int .i64, .int .i64] 6 m c z, SB.cells [Seg.ints (.int .u64) 17 fun (x : Nat) => (0 : Int)] 27, SB.cells [Seg.ints (.int .u64) 17 (fL (lgC k l s0.1))] 27]) ∧ ∀ (s : LgG (LgS.mk k l lo m c nn z)), bif decide ((↑s.1 : Int) < (↑(List.length l) : Int)) then ((0 : Int) ≤ (↑s.1 : Int) ∧ (↑s.1 : Int) < (↑(List.length l) : Int) ∧ lo + List.length l ≤ c) ∧ lo + Int.toNat (↑s.1 : Int) < m ∧ (17 = 17 ∧ ObjOK k (toN 17 (fL (lgC k l s.1)))) ∧ bif opOk (z (lo + Int.toNat (↑s.1 : Int)) 1) (z (lo + Int.toNat (↑s.1 : Int)) 2) (z (lo + Int.toNat (↑s.1 : Int)) 3) then bif bif bif (Prod.snd (objR k (toN 17 (fL (lgC k l s.1))) (z (lo + Int.toNat (↑s.1 : Int)) 1) (z (lo + Int.toNat (↑s.1 : Int)) 2) (z (lo + Int.toNat (↑s.1 : Int)) 3))).1 == z (lo + Int.toNat (↑s.1 : Int)) 4 then bif (Prod.snd (objR k (toN 17 (fL (lgC k l s.1))) (z (lo + Int.toNat (↑s.1 : Int)) 1) (z (lo + Int.toNat (↑s.1 : Int)) 2) (z (lo + Int.toNat (↑s.1 : Int)) 3))).2 == z (lo + Int.toNat (↑s.1 : Int)) 5 then true else false else false then false else true then stuckAt (Oper.mk (some 43) (Op.build 100 #[(0, Operand.const (Value.int .i64 (13 : Int))), (1, Operand.tmp 42)]) 100 "judge.go:20" #[Edge.mk 1 Ground.data] none) else ∃ (s' : LgG (LgS.mk k l lo m c nn z)), ((some (SV.o (SA.c (.v (Value.int .i64 k)))) = some (SV.o (SA.c (.v (Value.int .i64 k)))) ∧ some (SV.o (SA.c (.p 1 0))) = some (SV.o (SA.c (.p 1 0))) ∧ some (SV.o (SA.c (.p 2 0))) = some (SV.o (SA.c (.p 2 0))) ∧ some (SV.o (SA.c (.so 0 lo 6 (List.length l) c nn))) = some (SV.o (SA.c (.so 0 lo 6 (List.length l) c nn))) ∧ some (SV.o (SA.c (.v (Value.int .i64 (↑(List.length l) : Int))))) = some (SV.o (SA.c (.v (Value.int .i64 (↑(List.length l) : Int))))) ∧ some (SV.o (SA.c (.v (Value.int .i64 (IntKind.wrap .i64 ((↑s.1 : Int) + (1 : Int))))))) = some (SV.o (SA.c (.v (Value.int .i64 (↑s'.1 : Int))))) ∧ True) ∧ [SB.rows 38 [.int .i64, .int .i64, .int .i64, .int .i64, .int .i64, .int .i64] 6 m c z, SB.cells [Seg.ints (.int .u64) 17 fun (x : Nat) => (0 : Int)] 27, SB.cells [Seg.ints (.int .u64) 17 (fL (objR k (toN 17 (fL (lgC k l s.1))) (z (lo + Int.toNat (↑s.1 : Int)) 1) (z (lo + Int.toNat (↑s.1 : Int)) 2) (z (lo + Int.toNat (↑s.1 : Int)) 3)).1)] 27] = [SB.rows 38 [.int .i64, .int .i64, .int .i64, .int .i64, .int .i64, .int .i64] 6 m c z, SB.cells [Seg.ints (.int .u64) 17 fun (x : Nat) => (0 : Int)] 27, SB.cells [Seg.ints (.int .u64) 17 (fL (lgC k l s'.1))] 27]) ∧ List.length l - s'.1 < List.length l - s.1 else stuckAt (Oper.mk (some 43) (Op.build 100 #[(0, Operand.const (Value.int .i64 (13 : Int))), (1, Operand.tmp 42)]) 100 "judge.go:20" #[Edge.mk 1 Ground.data] none) else endN conLegal [] (firstN 1) (LgS.mk k l lo m c nn z) (SV.t [SA.a [Seg.ints (.int .u64) 17 (fL (lgC k l s.1))], SA.c (.v Value.nilIface)]) [SB.rows 38 [.int .i64, .int .i64, .int .i64, .int .i64, .int .i64, .int .i64] 6 m c z, SB.cells [Seg.ints (.int .u64) 17 (fL (lgC k l s.1))] 27, SB.cells [Seg.ints (.int .u64) 17 (fL (lgC k l s.1))] 27]) (by kernel_rfl) ?_
  refine ⟨trivial, by_ndec (fun h => absurd ⟨h1, h6⟩ h) (fun _ => ⟨by omega, ⟨⟨0, Nat.zero_le _⟩, ⟨rfl, rfl, rfl, rfl, rfl, rfl, trivial⟩, ?_⟩, ?_⟩)⟩
  · rw [show (fL (lgC k l 0)) = fun _ => 0 from funext fun i => fL_zeros 17 i]
  rintro ⟨i, hi⟩
  dsimp only at hi ⊢
  refine by_dec (fun hlt => ?_) (fun hge => ?_)
  · have hi' : i < l.length := by omega
    have hok := lgC_ok h1 h6 h2 i hi
    have e : toN 17 (fL (lgC k l i)) = lgC k l i := toN_fL (objOK_len hok)
    obtain ⟨-, z1, z2, z3, z4, z5⟩ := h7 i hi'
    have hb := h2 i hi'
    dsimp only at z1 z2 z3 z4 z5
    rw [Int.toNat_natCast, e, z1, z2, z3, z4, z5, hb.c, hb.v]
    exact ⟨⟨by omega, by omega, by omega⟩, by omega, ⟨rfl, hok⟩, by_cond (fun _ => by_nb (fun h => absurd h (by simp)) (fun _ => ⟨⟨i + 1, hi'⟩, ⟨⟨rfl, rfl, rfl, rfl, rfl, svI (sucI (by omega)), trivial⟩, rfl⟩, by dsimp only; omega⟩)) (fun h => absurd (hb.op.symm.trans h) (by decide))⟩
  · obtain rfl : i = l.length := by omega
    exact ⟨(), trivial, rfl, rfl⟩
end Go.Proofs.YtacgihekdmoceaaDoor
end
section
namespace Go.Proofs.YtacgihekdmoceaaDoor
open Go.RowKit Go.Lib
set_option linter.unusedVariables false
set_option maxRecDepth 100000
set_option maxHeartbeats 4000000
def groRen : Go.Shelf.Ren := ⟨fun | 4 => 57 | n => n, fun | 22 => 28 | 25 => 38 | 3 => 3 | 4 => 4 | 9 => 9 | 20 => 20 | 0 => 0 | n => n, fun | n => n⟩
theorem groLays : Go.Proofs.Lays8.n4 Tryd.prog groRen := {
  mixed := by kernel_rfl
  f4 := ⟨ "slices.Grow[[]gristmill/api.Deed,gristmill/api.Deed]", by decide, Tryd.func57.trans (congrArg some (by kernel_rfl))⟩
  t0 := Tryd.underlying0
  a0 := Tryd.isAgg0
  z0 := Tryd.sizeOf0
  v0 := Tryd.zeroValue0
  t3 := Tryd.underlying3
  a3 := Tryd.isAgg3
  z3 := Tryd.sizeOf3
  v3 := Tryd.zeroValue3
  t4 := Tryd.underlying4
  a4 := Tryd.isAgg4
  z4 := Tryd.sizeOf4
  v4 := Tryd.zeroValue4
  t9 := Tryd.underlying9
  a9 := Tryd.isAgg9
  z9 := Tryd.sizeOf9
  v9 := Tryd.zeroValue9
  t20 := Tryd.underlying20
  a20 := Tryd.isAgg20
  z20 := Tryd.sizeOf20
  v20 := Tryd.zeroValue20
  t22 := Tryd.underlying28
  a22 := Tryd.isAgg28
  z22 := Tryd.sizeOf28
  v22 := Tryd.zeroValue28 }
structure GrR where
  c : Nat
  nn : Bool
def conGrow : RCon where
  σ := Nat
  χ := GrR
  pre n := n ≤ 1000
  args n := [.c (.v (.slice none 0 0)), .c (.v (.int .i64 (n : Int)))]
  mem _ := []
  ok _ _ := True
  val _ x := .o (.c (.so 0 0 6 0 x.c x.nn))
  new _ x := [rowsD 0 x.c (fun _ _ => 0)]
  len := 1
  det := none
  find _ _ := some []
theorem grow_con : (Con.rd conGrow).holds Tryd.prog 57 := by
  intro w0 S
  refine ⟨by kernel_rfl, (fun x0 h => by cases h), fun ρ (n : Nat) w hp _ _ => ?_⟩
  have hn : n ≤ 1000 := hp
  rcases Nat.eq_zero_or_pos n with h0 | h0
  · subst h0
    refine (Any8.slices_Grow_room groLays none 0 0 0 w (Nat.le_refl _) (by decide) (by decide) (Nat.le_refl _)).mono fun e w' ⟨he, hw⟩ => ?_
    subst hw
    exact ⟨⟨0, false⟩, ρ, trivial, fun i hi => absurd hi (Nat.not_lt_zero _), rfl, he, ⟨Kept.refl _ _, fun f hf => by
      obtain rfl := List.mem_singleton.1 hf
      exact ⟨Nat.le_refl _, rfl, fun h => absurd h (Nat.lt_irrefl _)⟩, fun f hf g hg => by
      obtain rfl := List.mem_singleton.1 hf
      exact absurd hg.1 (Nat.lt_irrefl _), List.pairwise_singleton _ _⟩⟩
  · have hs : (Tryd.prog.info? 38).map (·.size) = some 6 := by kernel_rfl
    have hz : (Tryd.prog.info? 38).bind (·.zero) = some (.agg #[.int .i64 0, .int .i64 0, .int .i64 0, .int .i64 0, .int .i64 0, .int .i64 0]) := by kernel_rfl
    have hb : (Tryd.prog.info? 38).map (·.bytes) = some 48 := by kernel_rfl
    cases hq : Tryd.prog.info? 38 with
    | none => rw [hq] at hs; cases hs
    | some i0 =>
      rw [hq] at hs hz hb
      simp only [Option.map_some, Option.some.injEq, Option.bind_some] at hs hz hb
      refine (Any8.slices_Grow_grow groLays i0 _ hq hz (by omega) none 0 0 n [] w (Nat.le_refl _) (by omega) (by rw [hb]; omega) (by omega) (by simp) (fun _ => rfl) (fun a h => by cases h)).mono fun e w' ⟨he, hw⟩ => ?_
      have hG1 := grownCap_ge w (0 + n) 0 (groRen.t 25)
      have hG2 := grownCap_le_maxLen w (0 + n) 0 (groRen.t 25) (by unfold maxLen; omega)
      rw [hw]
      generalize grownCap w (0 + n) 0 (groRen.t 25) = G at *
      refine ⟨⟨G, true⟩, fun _ => w.heap.size, trivial, fun i hi => absurd hi (Nat.not_lt_zero _), rfl, ?_, ⟨.of_below (((Below.refl _ _).drew).alloc (Nat.le_refl _) _), fun f hf => ?_, fun f hf g hg => ?_, List.pairwise_singleton _ _⟩⟩
      · rw [he]
        have e0 : (bif (G - 0).beq 0 then (0 : Nat) else 0 * 6) = 0 := by cases (G - 0).beq 0 <;> rfl
        simp only [conGrow, SV.den, SA.den, SC.den, Bool.not_true, Bool.and_false, cond_false, e0]
        rfl
      · obtain rfl := List.mem_singleton.1 hf
        exact ⟨Nat.zero_le _, rfl, fun _ => ⟨_, Blk.newA w.drew _ _, by simp [size_zeroCells, Value.cells]; omega, rfl, hG2⟩⟩
      · obtain rfl := List.mem_singleton.1 hf
        obtain ⟨-, rfl⟩ := hg
        exact .inr (Nat.le_refl _)
theorem catG2 {n j : Nat} {a b : Int} : (bif Nat.ble (n + j + 1) n then a else b) = b := by
  cases h : Nat.ble (n + j + 1) n
  · rfl
  · exact absurd (Nat.le_of_ble_eq_true h) (by omega)
/-- Two lists, one behind the other. -/
structure CaS where
  l1 : List Dd
  m1 : Nat
  c1 : Nat
  n1 : Bool
  z1 : Nat → Nat → Int
  l2 : List Dd
  m2 : Nat
  c2 : Nat
  n2 : Bool
  z2 : Nat → Nat → Int
def tabC : Tab := [(3, .one (.int .i64 0) (.int .i64)),
  (4, .one (.bool false) .bool),
  (30, .str [.one (.v (.int .i64 0)), .one (.v (.int .i64 0)), .one (.v (.int .i64 0))] [(0, 1, false), (1, 1, false), (2, 1, false)]),
  (32, .str [.one (.v (.int .i64 0)), .one (.v (.int .i64 0))] [(0, 1, false), (1, 1, false)]),
  (38, .str [.one (.v (.int .i64 0)), .one (.v (.int .i64 0)), .one (.v (.int .i64 0)), .one (.v (.int .i64 0)), .one (.v (.int .i64 0)), .one (.v (.int .i64 0))] [(0, 1, false), (1, 3, true), (4, 2, true)]),
  (28, .one (.slice none 0 0) (.slice 38)),
  (108, .one (.slice none 0 0) (.slice 28))]
theorem tabC_ok : TabOk Tryd.prog tabC := .cons (⟨by kernel_rfl, by kernel_rfl, by kernel_rfl, by kernel_rfl, by kernel_rfl⟩) (.cons (⟨by kernel_rfl, by kernel_rfl, by kernel_rfl, by kernel_rfl, by kernel_rfl⟩) (.cons (⟨by kernel_rfl, by kernel_rfl, by kernel_rfl, by kernel_rfl⟩) (.cons (⟨by kernel_rfl, by kernel_rfl, by kernel_rfl, by kernel_rfl⟩) (.cons (⟨by kernel_rfl, by kernel_rfl, by kernel_rfl, by kernel_rfl⟩) (.cons (⟨by kernel_rfl, by kernel_rfl, by kernel_rfl, by kernel_rfl, by kernel_rfl⟩) (.cons (⟨by kernel_rfl, by kernel_rfl, by kernel_rfl, by kernel_rfl, by kernel_rfl⟩) (TabOk.nil _)))))))
theorem tabC_tys : TysOk Tryd.prog tabC := TysOk.of (by kernel_rfl) (by kernel_rfl)
def conConcat (x y : Nat) : MCon where
  σ := CaS
  χ := LstR
  pre s := (s.l1.length ≤ 100 ∧ (s.l1.length ≤ s.m1 ∧ s.m1 ≤ s.c1) ∧ IsD s.z1 s.l1) ∧ (s.l2.length ≤ 100 ∧ (s.l2.length ≤ s.m2 ∧ s.m2 ≤ s.c2) ∧ IsD s.z2 s.l2)
  args s := [.c (.s 2 0 2 2)]
  mem s := [rowsD s.m1 s.c1 s.z1, rowsD s.m2 s.c2 s.z2, .cells [.one (.so 0 0 6 s.l1.length s.c1 s.n1), .one (.so 1 0 6 s.l2.length s.c2 s.n2)] 28]
  ok s x := ((s.l1 ++ s.l2).length ≤ x.m ∧ x.m ≤ x.c) ∧ IsD x.z (s.l1 ++ s.l2)
  val s r := .o (.c (.so 3 0 6 (s.l1 ++ s.l2).length r.c r.nn))
  mem' s r := [rowsD s.m1 s.c1 s.z1, rowsD s.m2 s.c2 s.z2, .cells [.one (.so 0 0 6 s.l1.length s.c1 s.n1), .one (.so 1 0 6 s.l2.length s.c2 s.n2)] 28, rowsD r.m r.c r.z]
  k := 3
  len := 4
  det := none
  find args M := match args with
    | [.c (.s b _ _ _)] => some [x, y, b]
    | _ => none
theorem concat_con (x y : Nat) : (Con.mem (conConcat x y)).holds Tryd.prog 31 := by
  intro w0 S
  refine mem_of_run2 (Γ := [(57, .rd conGrow)]) (fun _ => noW) Tryd.func31 rfl (by kernel_rfl) tabC_ok tabC_tys (fun w S' _ _ => .cons (grow_con w S') (.nil _ _ _)) (conConcat x y) (fun s => []) (fun x0 h => by cases h) (fun s ρ w _ _ _ => noW_old w _) [nzD 0] (fun v M => match v with
    | .o (.c (.so b _ _ _ _ _)) => [0, 1, 2, b]
    | _ => []) 800 ?_
  rintro ⟨l1, m1, c1, n1, z1, l2, m2, c2, n2, z2⟩ w ⟨⟨h1, h2, h3⟩, ⟨h4, h5, h6⟩⟩ -
  refine ⟨rfl, ?_⟩
  dsimp only at h1 h2 h3 h4 h5 h6
  refine by_eq (q :=
      ((0 : Int) ≤ (0 : Int) ∧ (0 : Int) < (2 : Int)) ∧ List.length l1 ≤ c1 ∧ bif decide (IntKind.wrap .i64 ((0 : Int) + (↑(List.length l1) : Int)) < (0 : Int)) then stuckAt (Oper.mk (some 21) (Op.makeInterface 9 (Operand.const (Value.string (ByteArray.mk #[(108 : UInt8), (101 : UInt8), (110 : UInt8), (32 : UInt8), (111 : UInt8), (117 : UInt8), (116 : UInt8), (32 : UInt8), (111 : UInt8), (102 : UInt8), (32 : UInt8), (114 : UInt8), (97 : UInt8), (110 : UInt8), (103 : UInt8), (101 : UInt8)])))) 20 "slices.go:496" #[] none) else ((0 : Int) ≤ (1 : Int) ∧ (1 : Int) < (2 : Int)) ∧ List.length l2 ≤ c2 ∧ bif decide (IntKind.wrap .i64 (IntKind.wrap .i64 ((0 : Int) + (↑(List.length l1) : Int)) + (↑(List.length l2) : Int)) < (0 : Int)) then stuckAt (Oper.mk (some 21) (Op.makeInterface 9 (Operand.const (Value.string (ByteArray.mk #[(108 : UInt8), (101 : UInt8), (110 : UInt8), (32 : UInt8), (111 : UInt8), (117 : UInt8), (116 : UInt8), (32 : UInt8), (111 : UInt8), (102 : UInt8), (32 : UInt8), (114 : UInt8), (97 : UInt8), (110 : UInt8), (103 : UInt8), (101 : UInt8)])))) 20 "slices.go:496" #[] none) else ∃ (s : Nat), [SA.c (.v (Value.slice none 0 0)), SA.c (SC.v (Value.int .i64 (IntKind.wrap .i64 (IntKind.wrap .i64 ((0 : Int) + (↑(List.length l1) : Int)) + (↑(List.length l2) : Int)))))] = [SA.c (.v (Value.slice none 0 0)), SA.c (.v (Value.int .i64 (↑s : Int)))] ∧ ([] : List SB) = [] ∧ s ≤ 1000 ∧ ∀ (x_1 : GrR), True → ((0 : Int) ≤ (0 : Int) ∧ (0 : Int) < (2 : Int)) ∧ ((0 ≤ 0 ∧ x_1.1 = x_1.1) ∧ (0 + List.length l1 ≤ m1 ∧ c1 = c1) ∧ 0 + List.length l1 ≤ 68719476736) ∧ ∀ (c : Nat), 0 + List.length l1 ≤ c → ((0 : Int) ≤ (1 : Int) ∧ (1 : Int) < (2 : Int)) ∧ ((0 + List.length l1 ≤ 0 + List.length l1 ∧ c = c) ∧ (0 + List.length l2 ≤ m2 ∧ c2 = c2) ∧ 0 + List.length l1 + List.length l2 ≤ 68719476736) ∧ ∀ (c : Nat), 0 + List.length l1 + List.length l2 ≤ c → endN (conConcat x y) [nzD 0] (fun (v : SV) (M : List SB) => match v with | SV.o (SA.c (.so b lo sz n c nn)) => [0, 1, 2, b] | x => []) (CaS.mk l1 m1 c1 n1 z1 l2 m2 c2 n2 z2) (SV.o (SA.c (.so 5 0 6 (0 + List.length l1 + List.length l2) c x_1.2))) [SB.rows 38 [.int .i64, .int .i64, .int .i64, .int .i64, .int .i64, .int .i64] 6 m1 c1 z1, SB.rows 38 [.int .i64, .int .i64, .int .i64, .int .i64, .int .i64, .int .i64] 6 m2 c2 z2, SB.cells [Seg.one (SC.so 0 0 6 (List.length l1) c1 n1), Seg.one (SC.so 1 0 6 (List.length l2) c2 n2)] 28, SB.gone, SB.gone, SB.rows 38 [.int .i64, .int .i64, .int .i64, .int .i64, .int .i64, .int .i64] 6 (0 + List.length l1 + List.length l2) c fun (i j : Nat) => bif Nat.ble (i + 1) (0 + List.length l1) then z1 (0 + i) j else z2 (0 + (i - (0 + List.length l1))) j]) (by kernel_rfl) ?_
  rw [show (0 : Int) + (l1.length : Int) = (l1.length : Int) by omega, wrapI (x := (l1.length : Int)) (by omega) (by omega), wrapI (x := (l1.length : Int) + (l2.length : Int)) (by omega) (by omega), Nat.zero_add l1.length]
  refine ⟨⟨by decide, by decide⟩, by omega, by_dec (fun h => absurd h (by omega)) (fun _ => ⟨⟨by decide, by decide⟩, by omega, by_dec (fun h => absurd h (by omega)) (fun _ => ⟨l1.length + l2.length, by rw [Int.natCast_add], rfl, by show l1.length + l2.length ≤ 1000; omega, ?_⟩)⟩)⟩
  rintro ⟨c, nn⟩ -
  refine ⟨⟨by decide, by decide⟩, ⟨⟨by decide, rfl⟩, ⟨by omega, rfl⟩, by omega⟩, fun c3 hc3 => ⟨⟨by decide, by decide⟩, ⟨⟨Nat.le_refl _, rfl⟩, ⟨by omega, rfl⟩, by omega⟩, fun c4 hc4 => ?_⟩⟩
  have el : l1.length + l2.length = (l1 ++ l2).length := (List.length_append).symm
  refine endN_of (x' := .o (.c (.so 5 0 6 (l1.length + l2.length) c4 nn))) rfl ⟨l1.length + l2.length, c4, nn, _⟩ ⟨⟨Nat.le_of_eq el.symm, hc4⟩, ?_⟩ rfl (congrArg (fun q => SV.o (SA.c (SC.so 5 0 6 q c4 nn))) el) rfl
  exact h3.append h6 (fun i hi j => (catT hi).trans (by rw [Nat.zero_add])) (fun i hi j => catG2.trans (by rw [Nat.add_sub_cancel_left, Nat.zero_add]))
end Go.Proofs.YtacgihekdmoceaaDoor
end
section
namespace Go.Proofs.YtacgihekdmoceaaDoor
open Go.ChangeShapes Go.WideShapes Go.Deep Go.ChangeAt
set_option linter.unusedVariables false
set_option maxRecDepth 20000
theorem blk_lt {w : World} {b o : Nat} {v : Value} (h : w.cell? ⟨b, o, none⟩ = some v) : b < w.heap.size := by
  unfold World.cell? at h
  by_cases hb : b < w.heap.size
  · exact hb
  · simp [Array.getElem?_eq_none (Nat.le_of_not_lt hb)] at h
theorem one_int {H : Type} {enc : TypeId × Value → H} {w : World} {base : Nat} {spare : Nat → Bool} {held : Bool} {n : Nat} {t : TypeId} {k : IntKind} {v : Value} {y : Option (DataW H × List MemPlace)} (ht : Tryd.prog.underlying t = some (.int k))
    (h : DataW.trod enc Tryd.prog w base spare held n t [v] = y) (hy : y.isSome) : ∃ z, v = .int k z ∧ (Lit.int k z).wf = true := by
  obtain ⟨x, rfl⟩ := Option.isSome_iff_exists.1 hy
  obtain ⟨z, h1, -, h2⟩ := DataW.trod_int ht h
  simp at h1
  exact ⟨z, h1, h2⟩
theorem cellsOp_of {H : Type} {enc : TypeId × Value → H} {w : World} {base : Nat} {spare : Nat → Bool} {held : Bool} {n : Nat} {cs : List Value} {y : Option (DataW H × List MemPlace)}
    (h : DataW.trod enc Tryd.prog w base spare held n 30 cs = y) (hy : y.isSome) :
    ∃ z0 z1 z2 : Int, cs = [.int .i64 z0, .int .i64 z1, .int .i64 z2] ∧ (Lit.int .i64 z0).wf = true ∧ (Lit.int .i64 z1).wf = true ∧ (Lit.int .i64 z2).wf = true := by
  obtain ⟨x, rfl⟩ := Option.isSome_iff_exists.1 hy
  obtain ⟨ys, n', -, -, hlen, hyl, hf⟩ := DataW.trod_struct Tryd.underlying30 h
  have hc : Tryd.prog.cellsOf 30 = 3 := by kernel_rfl
  have hc_int : Tryd.prog.cellsOf 3 = 1 := by kernel_rfl
  rw [hc] at hlen
  match cs, hlen with
  | [v0, v1, v2], _ =>
    have hyl' : ys.length = 3 := hyl
    have g0 : DataW.trod enc Tryd.prog w base spare held n' 3 (([v0, v1, v2].drop 0).take (Tryd.prog.cellsOf 3)) = ys[0]? := hf 0 _ rfl
    rw [hc_int] at g0
    dsimp only [List.drop, List.take] at g0
    have g1 : DataW.trod enc Tryd.prog w base spare held n' 3 (([v0, v1, v2].drop 1).take (Tryd.prog.cellsOf 3)) = ys[1]? := hf 1 _ rfl
    rw [hc_int] at g1
    dsimp only [List.drop, List.take] at g1
    have g2 : DataW.trod enc Tryd.prog w base spare held n' 3 (([v0, v1, v2].drop 2).take (Tryd.prog.cellsOf 3)) = ys[2]? := hf 2 _ rfl
    rw [hc_int] at g2
    dsimp only [List.drop, List.take] at g2
    obtain ⟨z0, rfl, w0⟩ := one_int Tryd.underlying3 g0 (by simp [hyl'])
    obtain ⟨z1, rfl, w1⟩ := one_int Tryd.underlying3 g1 (by simp [hyl'])
    obtain ⟨z2, rfl, w2⟩ := one_int Tryd.underlying3 g2 (by simp [hyl'])
    exact ⟨z0, z1, z2, rfl, w0, w1, w2⟩
theorem cellsAnswer_of {H : Type} {enc : TypeId × Value → H} {w : World} {base : Nat} {spare : Nat → Bool} {held : Bool} {n : Nat} {cs : List Value} {y : Option (DataW H × List MemPlace)}
    (h : DataW.trod enc Tryd.prog w base spare held n 32 cs = y) (hy : y.isSome) :
    ∃ z0 z1 : Int, cs = [.int .i64 z0, .int .i64 z1] ∧ (Lit.int .i64 z0).wf = true ∧ (Lit.int .i64 z1).wf = true := by
  obtain ⟨x, rfl⟩ := Option.isSome_iff_exists.1 hy
  obtain ⟨ys, n', -, -, hlen, hyl, hf⟩ := DataW.trod_struct Tryd.underlying32 h
  have hc : Tryd.prog.cellsOf 32 = 2 := by kernel_rfl
  have hc_int : Tryd.prog.cellsOf 3 = 1 := by kernel_rfl
  rw [hc] at hlen
  match cs, hlen with
  | [v0, v1], _ =>
    have hyl' : ys.length = 2 := hyl
    have g0 : DataW.trod enc Tryd.prog w base spare held n' 3 (([v0, v1].drop 0).take (Tryd.prog.cellsOf 3)) = ys[0]? := hf 0 _ rfl
    rw [hc_int] at g0
    dsimp only [List.drop, List.take] at g0
    have g1 : DataW.trod enc Tryd.prog w base spare held n' 3 (([v0, v1].drop 1).take (Tryd.prog.cellsOf 3)) = ys[1]? := hf 1 _ rfl
    rw [hc_int] at g1
    dsimp only [List.drop, List.take] at g1
    obtain ⟨z0, rfl, w0⟩ := one_int Tryd.underlying3 g0 (by simp [hyl'])
    obtain ⟨z1, rfl, w1⟩ := one_int Tryd.underlying3 g1 (by simp [hyl'])
    exact ⟨z0, z1, rfl, w0, w1⟩
theorem cellsDeed_of {H : Type} {enc : TypeId × Value → H} {w : World} {base : Nat} {spare : Nat → Bool} {held : Bool} {n : Nat} {cs : List Value} {y : Option (DataW H × List MemPlace)}
    (h : DataW.trod enc Tryd.prog w base spare held n 38 cs = y) (hy : y.isSome) :
    ∃ z0 z1 z2 z3 z4 z5 : Int, cs = [.int .i64 z0, .int .i64 z1, .int .i64 z2, .int .i64 z3, .int .i64 z4, .int .i64 z5] ∧ (Lit.int .i64 z0).wf = true ∧ (Lit.int .i64 z1).wf = true ∧ (Lit.int .i64 z2).wf = true ∧ (Lit.int .i64 z3).wf = true ∧ (Lit.int .i64 z4).wf = true ∧ (Lit.int .i64 z5).wf = true := by
  obtain ⟨x, rfl⟩ := Option.isSome_iff_exists.1 hy
  obtain ⟨ys, n', -, -, hlen, hyl, hf⟩ := DataW.trod_struct Tryd.underlying38 h
  have hc : Tryd.prog.cellsOf 38 = 6 := by kernel_rfl
  have hc_int : Tryd.prog.cellsOf 3 = 1 := by kernel_rfl
  have hc_Op : Tryd.prog.cellsOf 30 = 3 := by kernel_rfl
  have hc_Answer : Tryd.prog.cellsOf 32 = 2 := by kernel_rfl
  rw [hc] at hlen
  match cs, hlen with
  | [v0, v1, v2, v3, v4, v5], _ =>
    have hyl' : ys.length = 3 := hyl
    have g0 : DataW.trod enc Tryd.prog w base spare held n' 3 (([v0, v1, v2, v3, v4, v5].drop 0).take (Tryd.prog.cellsOf 3)) = ys[0]? := hf 0 _ rfl
    rw [hc_int] at g0
    dsimp only [List.drop, List.take] at g0
    have g1 : DataW.trod enc Tryd.prog w base spare held n' 30 (([v0, v1, v2, v3, v4, v5].drop 1).take (Tryd.prog.cellsOf 30)) = ys[1]? := hf 1 _ rfl
    rw [hc_Op] at g1
    dsimp only [List.drop, List.take] at g1
    have g2 : DataW.trod enc Tryd.prog w base spare held n' 32 (([v0, v1, v2, v3, v4, v5].drop 4).take (Tryd.prog.cellsOf 32)) = ys[2]? := hf 2 _ rfl
    rw [hc_Answer] at g2
    dsimp only [List.drop, List.take] at g2
    obtain ⟨z0, rfl, w0⟩ := one_int Tryd.underlying3 g0 (by simp [hyl'])
    obtain ⟨z1, z2, z3, he1, w1, w2, w3⟩ := cellsOp_of g1 (by simp [hyl'])
    simp only [List.cons.injEq, and_true] at he1
    obtain ⟨rfl, rfl, rfl⟩ := he1
    obtain ⟨z4, z5, he2, w4, w5⟩ := cellsAnswer_of g2 (by simp [hyl'])
    simp only [List.cons.injEq, and_true] at he2
    obtain ⟨rfl, rfl⟩ := he2
    exact ⟨z0, z1, z2, z3, z4, z5, rfl, w0, w1, w2, w3, w4, w5⟩
theorem rowsDeed_of {H : Type} {enc : TypeId × Value → H} {w : World} {base : Nat} {spare : Nat → Bool} {held : Bool} {a0 : Option Addr} {len0 cap0 : Nat} {d0 : DataW H} {p0 : List MemPlace}
    (h : DataW.Trod enc Tryd.prog w base spare held 28 (.slice a0 len0 cap0) d0 p0) : ∃ f, Rws 6 (fun _ => .i64) w a0 len0 cap0 f := by
  obtain ⟨fuel, hf⟩ := h
  have hc : Tryd.prog.cellsOf 38 = 6 := by kernel_rfl
  rcases open_slice Tryd.underlying28 hf with ⟨hcs, -⟩ | ⟨a, len, cap, m, n, D, Pl, hcs, hb, hl, hm, hmm, hx, hi⟩
  · simp [Value.cells] at hcs
    obtain ⟨rfl, rfl, rfl⟩ := hcs
    exact ⟨fun _ _ => 0, Nat.le_refl _, by omega, .inl rfl⟩
  · simp [Value.cells] at hcs
    obtain ⟨rfl, rfl, rfl⟩ := hcs
    unfold maxLen at hm
    rw [hc] at hi
    have hi' : ∀ i, i < len0 → ∃ z : Nat → Int, ∀ j, j < 6 → w.cell? (a.add (i * 6 + j)) = some (.int ((fun _ => .i64) j) (z j)) ∧ (Lit.int ((fun _ => .i64) j) (z j)).wf = true := by
      intro i hil
      obtain ⟨cs, h1, h2⟩ := hi i (by rw [hmm]; split <;> omega)
      obtain ⟨z0, z1, z2, z3, z4, z5, rfl, w0, w1, w2, w3, w4, w5⟩ := cellsDeed_of h2 (by rfl)
      obtain ⟨-, -, hat⟩ := World.cells?_some h1
      refine ⟨fun j => [z0, z1, z2, z3, z4, z5].getD j 0, fun j hj => ?_⟩
      rw [← Go.Deep.add_add, hat j (by simpa using hj)]
      match j, hj with
      | 0, _ => exact ⟨rfl, w0⟩
      | 1, _ => exact ⟨rfl, w1⟩
      | 2, _ => exact ⟨rfl, w2⟩
      | 3, _ => exact ⟨rfl, w3⟩
      | 4, _ => exact ⟨rfl, w4⟩
      | 5, _ => exact ⟨rfl, w5⟩
    by_cases h0 : len0 = 0
    · subst h0; exact ⟨fun _ _ => 0, Nat.zero_le _, by omega, .inl rfl⟩
    · obtain ⟨z, hz⟩ := hi' 0 (by omega)
      obtain ⟨b, off, spot⟩ := a
      have hspot : spot = none := by simpa [Addr.add] using World.cell?_spot (hz 0 (by omega)).1
      subst hspot
      have hadd : ∀ i, (⟨b, off, none⟩ : Addr).add i = ⟨b, off + i, none⟩ := fun i => by
        unfold Addr.add; split
        · subst i; rfl
        · rfl
      classical
      let F : Nat → Nat → Int := fun i => if h : i < len0 then Classical.choose (hi' i h) else fun _ => 0
      refine ⟨F, hl, by omega, .inr ⟨b, off, rfl, ?_, fun j hj i hi0 => ?_⟩⟩
      · have := (hz 0 (by omega)).1; rw [hadd] at this; exact blk_lt this
      · have hF : F j = Classical.choose (hi' j hj) := by simp only [F, dif_pos hj]
        obtain ⟨c1, c2⟩ := Classical.choose_spec (hi' j hj) i hi0
        rw [← hF] at c1 c2
        rw [hadd, ← Nat.add_assoc] at c1
        exact ⟨c1, trivial⟩
theorem aggOp_of {H : Type} {enc : TypeId × Value → H} {w : World} {base b0 : Nat} {spare : Nat → Bool} {held : Bool} {v : Value} {d : DataW H} {p : List MemPlace}
    (hv : Value.okWide Tryd.prog w .any b0 30 v) (h : DataW.Trod enc Tryd.prog w base spare held 30 v d p) :
    ∃ z0 z1 z2 : Int, v = .agg #[.int .i64 z0, .int .i64 z1, .int .i64 z2] ∧ (Lit.int .i64 z0).wf = true ∧ (Lit.int .i64 z1).wf = true ∧ (Lit.int .i64 z2).wf = true := by
  obtain ⟨cs, rfl, hs⟩ := okWide_struct Tryd.underlying30 hv
  obtain ⟨fuel, hf⟩ := h
  obtain ⟨z0, z1, z2, hc, w0, w1, w2⟩ := cellsOp_of hf (by rfl)
  refine ⟨z0, z1, z2, ?_, w0, w1, w2⟩
  have : cs.toList = [.int .i64 z0, .int .i64 z1, .int .i64 z2] := hc
  rw [← Array.toArray_toList (xs := cs), this]
end Go.Proofs.YtacgihekdmoceaaDoor
end
