/- Laws and walks that the proof leans on, gathered: ECall, TabPlain, TabClosed, TabLaws, HeapPlain, HeapLaws, HeapMore, PuObj, PuFn, YcLst, YcLst2, Shelf, YcIns, YcDeq, YcHeap. -/
import Derived.Test.YtacgihekdmoceaaDoorProg
import Derived.Shelf.Slices.Turned
import Derived.Shelf.Slices.Reverse
import Derived.Ground.Names2Prog
import Derived.Shelf.Slices.Clone
import Derived.Shelf.Slices.Delete
import Derived.Shelf.Slices.Cells
import Derived.Shelf.Slices.Empties
import Derived.Shelf.Spec.SlicesInsertGrow
import Derived.Test.YtacgihekdmoceaaDoorLt2
section
namespace Go.Proofs.YtacgihekdmoceaaDoor
open Go.RowKit
set_option linter.unusedVariables false
theorem TysOk.of {P : Program} {T : Tab} (h : T.all (fun p => partsTy P p.1 && (!intsOnly p.2 || eqTy P p.1) && bytesOk P p.1) = true) (hm : P.follows .mixedOrders = true) : TysOk P T := by
  refine ⟨hm, fun t i hi => ?_⟩
  induction T with
  | nil => simp [lkT] at hi
  | cons p r ih =>
    simp only [List.all_cons, Bool.and_eq_true] at h
    unfold lkT at hi
    cases hb : p.1.beq t
    · rw [hb] at hi; exact ih h.2 hi
    · have := Nat.eq_of_beq_eq_true hb
      rw [hb] at hi
      simp only [cond_true, Option.some.injEq] at hi; subst hi
      rw [← this]; refine ⟨h.1.1.1, fun hi => ?_, h.1.2⟩
      have := h.1.1.2; rw [hi] at this; simpa using this
theorem by_cond {b : Bool} {A B : Prop} (h : b = true → A) (k : b = false → B) : bif b then A else B := by
  cases b
  · exact k rfl
  · exact h rfl
theorem svB {b c : Bool} (h : b = c) : SV.o (.c (.v (.bool b))) = SV.o (.c (.v (.bool c))) := by rw [h]
theorem by_eq {p q : Prop} (e : p = q) (h : q) : p := e ▸ h
def findReg (id : Nat) : Code → Option (Array Oper)
  | .region i ops _ => bif i.beq id then some ops else none
  | .seq a b => match findReg id a with
    | some x => some x
    | none => findReg id b
  | .cond _ a b => match findReg id a with
    | some x => some x
    | none => findReg id b
  | .block _ b => findReg id b
  | .loop b => findReg id b
  | .scope b => findReg id b
  | _ => none
/-- A function's region. -/
def regOps (fn : Func) (id : Nat) : Array Oper := (fn.body.bind (findReg id)).getD #[]
section
variable {P : Program} {f : FuncId} {fn : Func} {c : Code} {T : Tab} {Γ : Gam} {AG : List (Nat × Anns)} {w0 w : World} {S : Nat → Prop} {ρ : Nat → Nat} {M : List SB}
theorem calls_of_run {V : World} (hV : OldOk V w0 S) (hf : P.funcs[f]? = some fn) (hb : fn.body = some c) (hT : TabOk P T) (hT2 : TysOk P T) (hΓ : GamOk P w0 S Γ) {R : SV → List SB → Prop} (args : List SA) (k0 : Nat) (hk : k0 ≤ M.length)
    (hc : (args.length.ble fn.ntmps && sasAv (sc M.length) args && sbsAv (sc M.length) M) = true) (HM : Mem w0 S (denM ρ 0 M) w) (n : Nat)
    (h : run V T Γ AG n ⟨fn, fn.ntmps, lkAG AG f, k0, finS V T fn.results.toList R⟩ none [] [.code c] (envFrom 0 args) M) :
    Calls P f (args.map (SA.den ρ)).toArray w fun e w' => ∃ x M' ρ', R x M' ∧ (∀ i, i < k0 → ρ' i = ρ i) ∧ e = .returned (x.den ρ') ∧ Mem w0 S (denM ρ' 0 M') w' := by
  simp only [Bool.and_eq_true] at hc
  have ha := ble_t hc.1.1
  have hs := (run_sound (P := P) (w0 := w0) (S := S) (AG := AG) hV hT hT2 hΓ n).1 f fn ⟨fn, fn.ntmps, lkAG AG f, k0, finS V T fn.results.toList R⟩ (fun e w' => ∃ x M' ρ', R x M' ∧ (∀ i, i < k0 → ρ' i = ρ i) ∧ e = .returned (x.den ρ') ∧ Mem w0 S (denM ρ' 0 M') w') ρ
    [] [.code c] (envFrom 0 args) M ρ { tmps := (args.map (SA.den ρ)).toArray ++ Array.replicate (fn.ntmps - args.length) undef, defers := [] } w hf
    (fun env M ρ' a w hfin hi => by
      obtain ⟨x, hR, hr⟩ := results_ok hV hT hi.env hi.mem hfin
      exact ⟨_, hr, x, M, ρ', hR, hi.ag, rfl, hi.mem⟩) h trivial ⟨memAv_of hc.2, envFrom_av args 0 (sasAv_mem hc.1.2), env0_ok args fn.ntmps ha, HM, fun _ _ => rfl, hk⟩
  intro cs
  let b : Frame := { (default : Frame) with fn := f, kind := .normal }
  have henter : Frame.enter P f (args.map (SA.den ρ)).toArray .normal = b.at { tmps := (args.map (SA.den ρ)).toArray ++ Array.replicate (fn.ntmps - args.length) undef, defers := [] } [.code c] := by
    simp [Frame.enter, Frame.at, hf, hb, b]
  rw [henter]
  exact hs b cs rfl rfl
/-- A function that only reckons, from a world of which something is known. -/
theorem pure_of_run_at {w0 : World} {S : Nat → Prop} (hf : P.funcs[f]? = some fn) (hb : fn.body = some c) (hen : enterB P f = true) (hT : TabOk P T) (hT2 : TysOk P T) (hΓ : ∀ w, Kept S w0 w → GamOk P w (fun _ => False) Γ) (C : PCon) (n : Nat)
    (h : ∀ (w : World) args, C.pre args → (args.length.ble fn.ntmps && sasAv (sc 0) args) = true ∧ run w T Γ AG n ⟨fn, fn.ntmps, lkAG AG f, 0, finS w T fn.results.toList (fun x _ => x = C.out args ∧ x.av (sc 0) = true)⟩ none [] [.code c] (envFrom 0 args) []) : (Con.pure C).holdsAt P w0 S f := by
  refine ⟨hen, fun ρ args w hp hK => ?_⟩
  obtain ⟨h1, h2⟩ := h w args hp
  refine (calls_of_run (OldOk.self w) (ρ := ρ) (M := []) hf hb hT hT2 (hΓ w hK) args 0 (Nat.le_refl _) (by rw [show sbsAv (sc ([] : List SB).length) [] = true from rfl, Bool.and_true]; exact h1) (Mem.start w) n h2).mono ?_
  rintro e w' ⟨x, M', ρ', ⟨rfl, hx⟩, -, rfl, HM⟩
  exact ⟨by rw [SV.av_den (p := sc 0) (ρ := ρ) (ρ' := ρ') (fun i hi => by have := blt_t hi; omega) hx], HM.below⟩
/-- A function that only reckons. -/
theorem pure_of_run (hf : P.funcs[f]? = some fn) (hb : fn.body = some c) (hen : enterB P f = true) (hT : TabOk P T) (hT2 : TysOk P T) (hΓ : ∀ w, GamOk P w (fun _ => False) Γ) (C : PCon) (n : Nat)
    (h : ∀ (w : World) args, C.pre args → (args.length.ble fn.ntmps && sasAv (sc 0) args) = true ∧ run w T Γ AG n ⟨fn, fn.ntmps, lkAG AG f, 0, finS w T fn.results.toList (fun x _ => x = C.out args ∧ x.av (sc 0) = true)⟩ none [] [.code c] (envFrom 0 args) []) : (Con.pure C).holds P f :=
  fun _ _ => pure_of_run_at hf hb hen hT hT2 (fun w _ => hΓ w) C n h
/-- What a run of a function that only reckons must come to. -/
def endP (C : PCon) (args : List SA) (x : SV) (M : List SB) : Prop := x.av (sc 0) = true ∧ ∀ ρ, x.den ρ = (C.out args).den ρ
/-- The same; what is told of its loops may hang on what it is called with; its value is known by what it stands for. -/
theorem pure_of_run2_at {w0 : World} {S : Nat → Prop} (hf : P.funcs[f]? = some fn) (hb : fn.body = some c) (hen : enterB P f = true) (hT : TabOk P T) (hT2 : TysOk P T) (hΓ : ∀ w, Kept S w0 w → GamOk P w (fun _ => False) Γ) (C : PCon) (AG : List SA → List (Nat × Anns)) (n : Nat)
    (h : ∀ (w : World) args, C.pre args → Kept S w0 w → (args.length.ble fn.ntmps && sasAv (sc 0) args) = true ∧ run w T Γ (AG args) n ⟨fn, fn.ntmps, lkAG (AG args) f, 0, finS w T fn.results.toList (endP C args)⟩ none [] [.code c] (envFrom 0 args) []) : (Con.pure C).holdsAt P w0 S f := by
  refine ⟨hen, fun ρ args w hp hK => ?_⟩
  obtain ⟨h1, h2⟩ := h w args hp hK
  refine (calls_of_run (OldOk.self w) (ρ := ρ) (M := []) hf hb hT hT2 (hΓ w hK) args 0 (Nat.le_refl _) (by rw [show sbsAv (sc ([] : List SB).length) [] = true from rfl, Bool.and_true]; exact h1) (Mem.start w) n h2).mono ?_
  rintro e w' ⟨x, M', ρ', ⟨hx, hd⟩, -, rfl, HM⟩
  exact ⟨by rw [SV.av_den (p := sc 0) (ρ := ρ) (ρ' := ρ') (fun i hi => by have := blt_t hi; omega) hx, hd ρ], HM.below⟩
theorem pure_of_run2 (hf : P.funcs[f]? = some fn) (hb : fn.body = some c) (hen : enterB P f = true) (hT : TabOk P T) (hT2 : TysOk P T) (hΓ : ∀ w, GamOk P w (fun _ => False) Γ) (C : PCon) (AG : List SA → List (Nat × Anns)) (n : Nat)
    (h : ∀ (w : World) args, C.pre args → (args.length.ble fn.ntmps && sasAv (sc 0) args) = true ∧ run w T Γ (AG args) n ⟨fn, fn.ntmps, lkAG (AG args) f, 0, finS w T fn.results.toList (endP C args)⟩ none [] [.code c] (envFrom 0 args) []) : (Con.pure C).holds P f :=
  fun _ _ => pure_of_run2_at hf hb hen hT hT2 (fun w _ => hΓ w) C AG n (fun w args hp _ => h w args hp)
/-- Runs of numbers that are the same stand for the same. -/
theorem ints_congr {ρ : Nat → Nat} {k : CK} {n : Nat} {f g : Nat → Int} (h : ∀ i, i < n → f i = g i) : (SA.a [.ints k n f]).den ρ = (SA.a [.ints k n g]).den ρ := by
  simp only [SA.den, segsDen, Seg.den]
  congr 3
  exact List.map_congr_left fun i hi => by rw [h i (List.mem_range.1 hi)]
/-- A function that leaves all that there was as it was, once, from a world of which something is known. -/
theorem once_of_run (hf : P.funcs[f]? = some fn) (hb : fn.body = some c) (hT : TabOk P T) (hT2 : TysOk P T) {w : World} (hΓ : GamOk P w (fun _ => False) Γ) (args : List SA) (v : Value) (n : Nat) (ha : (args.length.ble fn.ntmps && sasAv (sc 0) args) = true)
    (h : run w T Γ AG n ⟨fn, fn.ntmps, lkAG AG f, 0, finS w T fn.results.toList (fun x _ => x = sv v)⟩ none [] [.code c] (envFrom 0 args) []) {ar : Array Value} (has : ar = (args.map (SA.den (fun _ => 0))).toArray) :
    Calls P f ar w fun e w' => e = .returned v ∧ Below w.heap.size w w' := by
  subst has
  refine (calls_of_run (OldOk.self w) (ρ := fun _ => 0) (M := []) hf hb hT hT2 hΓ args 0 (Nat.le_refl _) (by rw [show sbsAv (sc ([] : List SB).length) [] = true from rfl, Bool.and_true]; exact ha) (Mem.start w) n h).mono ?_
  rintro e w' ⟨x, M', ρ', rfl, -, rfl, HM⟩
  exact ⟨rfl, HM.below⟩
/-- What a run of a function that turns memory must come to. -/
def endR (C : MCon) (rp : SV → List SB → List Nat) (s : C.σ) (x : SV) (M : List SB) : Prop :=
  ∃ y : C.χ, C.ok s y ∧ bif nodB (rp x M) && allLt M.length (rp x M) && idB 0 C.k (rp x M) && (C.mem' s y).length.beq C.len && sbsAv (sc C.len) (C.mem' s y) && (C.val s y).av (sc C.len) then
    x = (C.val s y).ren (ofL (rp x M)) ∧ (rp x M).map (getB M) = (C.mem' s y).map (SB.ren (ofL (rp x M))) else False
def svL : SV → List SA
  | .o x => [x]
  | .t l => l
def reL (env : Env) : Nat → List SA → List SA
  | _, [] => []
  | i, x :: r => (match lk env i with
    | some (.o y) => y
    | _ => x) :: reL env (i + 1) r
def reSV (env : Env) : SV → SV
  | .o x => .o (match lk env 0 with
    | some (.o y) => y
    | _ => x)
  | .t l => .t (reL env 0 l)
/-- The same, where slices without room may be among the results or in what is left. -/
def endN (C : MCon) (nz : List NZ) (rp : SV → List SB → List Nat) (s : C.σ) (x : SV) (M : List SB) : Prop := match nz with
  | [] => endR C rp s x M
  | nz => bif sbsAv (sc M.length) M && sasAv (sc M.length) (svL x) then (match nrmS nz (envFrom 0 (svL x)) M with
    | (env', M') => endR C rp s (reSV env' x) M') else False
theorem reL_den {ρ : Nat → Nat} {env : Env} : ∀ (l : List SA) (i : Nat) (xs : Array Value), (∀ j, j < l.length → xs[i + j]? = (l[j]?).map (SA.den ρ)) → (∀ t x, lk env t = some x → xs[t]? = some (x.den ρ)) → (reL env i l).map (SA.den ρ) = l.map (SA.den ρ)
  | [], _, _, _, _ => rfl
  | x :: r, i, xs, h, he => by
    simp only [reL, List.map_cons]
    rw [reL_den r (i + 1) xs (fun j hj => by have := h (j + 1) (by simp; omega); rw [show i + 1 + j = i + (j + 1) by omega]; simpa using this) he]
    congr 1
    have h0 := h 0 (by simp)
    split
    · rename_i y hy
      have h1 := he i _ hy
      simp only [Nat.add_zero, List.getElem?_cons_zero, Option.map_some] at h0
      rw [h0] at h1
      simp only [SV.den, Option.some.injEq] at h1
      exact h1.symm
    · rfl
theorem reSV_den {ρ : Nat → Nat} {env : Env} (x : SV) (h : ∀ t y, lk env t = some y → ((svL x).map (SA.den ρ))[t]? = some (y.den ρ)) : (reSV env x).den ρ = x.den ρ := by
  have key := reL_den (ρ := ρ) (env := env) (svL x) 0 ((svL x).map (SA.den ρ)).toArray (fun j hj => by simp) (fun t y hy => by simpa using h t y hy)
  cases x with
  | t l => simp only [reSV, SV.den]; rw [show reL env 0 l = reL env 0 (svL (.t l)) from rfl, key]; rfl
  | o x =>
    simp only [svL, reL, List.map_cons, List.map_nil, List.cons.injEq, and_true] at key
    simp only [reSV, SV.den]
    exact key
/-- A function that turns memory; what is told of its loops may hang on what it is called with. -/
theorem mem_of_run2 {w0 : World} {S : Nat → Prop} (V : World → World) (hf : P.funcs[f]? = some fn) (hb : fn.body = some c) (hen : enterB P f = true) (hT : TabOk P T) (hT2 : TysOk P T) (hΓ : ∀ w S', Kept S w0 w → (∀ g, S' g → g < w.heap.size) → GamOk P w S' Γ) (C : MCon) (AG : C.σ → List (Nat × Anns)) (hdet : ∀ x0, C.det = some x0 → ∀ s x, x = x0 ∧ C.ok s x0)
    (hV : ∀ s ρ w, C.pre s → Kept S w0 w → Mem w (feet (denM ρ 0 (C.mem s))) (denM ρ 0 (C.mem s)) w → OldOk (V w) w (feet (denM ρ 0 (C.mem s)))) (nz : List NZ) (rp : SV → List SB → List Nat) (n : Nat)
    (h : ∀ (s : C.σ) (w : World), C.pre s → Kept S w0 w → ((C.args s).length.ble fn.ntmps && sasAv (sc (C.mem s).length) (C.args s) && sbsAv (sc (C.mem s).length) (C.mem s) && C.k.ble (C.mem s).length) = true ∧
      run (V w) T Γ (AG s) n ⟨fn, fn.ntmps, lkAG (AG s) f, C.k, finS (V w) T fn.results.toList (endN C nz rp s)⟩ none [] [.code c] (envFrom 0 (C.args s)) (C.mem s)) : (Con.mem C).holdsAt P w0 S f := by
  refine ⟨hen, hdet, fun ρ s w hp hK HM => ?_⟩
  obtain ⟨h1, h2⟩ := h s w hp hK
  simp only [Bool.and_eq_true] at h1
  refine (calls_of_run (hV s ρ w hp hK HM) (ρ := ρ) hf hb hT hT2 (hΓ w _ hK (fun g ⟨e, he, hg⟩ => (HM.holds e he).lt hg)) (C.args s) C.k (ble_t h1.2) (by simp only [Bool.and_eq_true]; exact h1.1) HM n h2).mono ?_
  rintro e w' ⟨x0, M0, ρ', hend, hag, rfl, HM0⟩
  obtain ⟨x, M', ⟨y, hy, hx⟩, hxd, HM'⟩ : ∃ x M', endR C rp s x M' ∧ x0.den ρ' = x.den ρ' ∧ Mem w (feet (denM ρ 0 (C.mem s))) (denM ρ' 0 M') w' := by
    cases nz with
    | nil => exact ⟨x0, M0, hend, rfl, HM0⟩
    | cons z r =>
      simp only [endN] at hend
      cases hc : (sbsAv (sc M0.length) M0 && sasAv (sc M0.length) (svL x0))
      · rw [hc] at hend; exact hend.elim
      · rw [hc] at hend
        simp only [cond_true] at hend
        simp only [Bool.and_eq_true] at hc
        have hi : Inv ρ' 0 (svL x0).length w (feet (denM ρ 0 (C.mem s))) (envFrom 0 (svL x0)) M0 ρ' { tmps := ((svL x0).map (SA.den ρ')).toArray ++ Array.replicate ((svL x0).length - (svL x0).length) undef, defers := [] } w' :=
          ⟨memAv_of hc.1, envFrom_av _ 0 (sasAv_mem hc.2), env0_ok (svL x0) _ (Nat.le_refl _), HM0, fun _ _ => rfl, Nat.zero_le _⟩
        have hi2 := nrmS_ok (z :: r) hi
        refine ⟨_, _, hend, (reSV_den x0 fun t y hy => ?_).symm, hi2.mem⟩
        have := hi2.env.get t y hy
        simpa using this
  clear hend
  rw [hxd]
  clear hxd HM0
  cases hc : (nodB (rp x M') && allLt M'.length (rp x M') && idB 0 C.k (rp x M') && (C.mem' s y).length.beq C.len && sbsAv (sc C.len) (C.mem' s y) && (C.val s y).av (sc C.len))
  · rw [hc] at hx; exact hx.elim
  · rw [hc] at hx
    simp only [cond_true] at hx
    simp only [Bool.and_eq_true] at hc
    obtain ⟨⟨⟨⟨⟨c1, c2⟩, c3⟩, c4⟩, c5⟩, c6⟩ := hc
    refine ⟨y, fun i => ρ' (ofL (rp x M') i), hy, fun i hi => ?_, Nat.eq_of_beq_eq_true c4, by rw [hx.1]; congr 1; rw [SV.ren_den, ← hx.1], ?_⟩
    · have := idB_spec C.k 0 _ c3 i hi
      show ρ' (ofL _ i) = _
      unfold ofL
      rw [List.getD_eq_getElem?_getD, this, Option.getD_some, Nat.zero_add]
      exact hag i hi
    · have hd := denT_ren (ρ := ρ') (M := M') (rp x M') (C.mem' s y) (ofL (rp x M')) 0 (fun i hi => by rw [Nat.zero_add, List.getElem?_eq_getElem hi]; simp [ofL, List.getD_eq_getElem?_getD, hi]) hx.2
      rw [← hd]
      exact (HM'.perm (denM_picks ρ' M' (rp x M') M'.length (Nat.le_refl _) (nodB_iff c1) (allLt_mem c2))).sub (List.sublist_append_left _ _)
/-- A function that turns memory. -/
theorem mem_of_run {w0 : World} {S : Nat → Prop} (V : World → World) (hf : P.funcs[f]? = some fn) (hb : fn.body = some c) (hen : enterB P f = true) (hT : TabOk P T) (hT2 : TysOk P T) (hΓ : ∀ w S', Kept S w0 w → (∀ g, S' g → g < w.heap.size) → GamOk P w S' Γ) (C : MCon) (hdet : ∀ x0, C.det = some x0 → ∀ s x, x = x0 ∧ C.ok s x0)
    (hV : ∀ s ρ w, C.pre s → Kept S w0 w → Mem w (feet (denM ρ 0 (C.mem s))) (denM ρ 0 (C.mem s)) w → OldOk (V w) w (feet (denM ρ 0 (C.mem s)))) (nz : List NZ) (rp : SV → List SB → List Nat) (n : Nat)
    (h : ∀ (s : C.σ) (w : World), C.pre s → Kept S w0 w → ((C.args s).length.ble fn.ntmps && sasAv (sc (C.mem s).length) (C.args s) && sbsAv (sc (C.mem s).length) (C.mem s) && C.k.ble (C.mem s).length) = true ∧
      run (V w) T Γ AG n ⟨fn, fn.ntmps, lkAG AG f, C.k, finS (V w) T fn.results.toList (endN C nz rp s)⟩ none [] [.code c] (envFrom 0 (C.args s)) (C.mem s)) : (Con.mem C).holdsAt P w0 S f :=
  mem_of_run2 V hf hb hen hT hT2 hΓ C (fun _ => AG) hdet hV nz rp n h
/-- What a run of a function that only reads must come to: its value names new blocks alone. -/
def endDR (C : RCon) (rp : SV → List SB → List Nat) (s : C.σ) (x : SV) (M : List SB) : Prop :=
  ∃ y : C.χ, C.ok s y ∧ bif nodB (rp x M) && allLt M.length (rp x M) && (rp x M).length.beq C.len && (C.new s y).length.beq C.len && sbsAv (fun i => (C.mem s).length.ble i) (C.new s y) && (C.val s y).av (fun i => (C.mem s).length.ble i) then
    x = (C.val s y).ren (fun i => ofL (rp x M) (i - (C.mem s).length)) ∧ (rp x M).map (getB M) = (C.new s y).map (SB.ren (fun i => ofL (rp x M) (i - (C.mem s).length))) else False
def endZ (nz : List NZ) (R : SV → List SB → Prop) (x : SV) (M : List SB) : Prop := match nz with
  | [] => R x M
  | nz => bif sbsAv (sc M.length) M && sasAv (sc M.length) (svL x) then (match nrmS nz (envFrom 0 (svL x)) M with
    | (env', M') => R (reSV env' x) M') else False
def endD (C : RCon) (nz : List NZ) (rp : SV → List SB → List Nat) (s : C.σ) (x : SV) (M : List SB) : Prop := endZ nz (endDR C rp s) x M
theorem endZ_ok {nz : List NZ} {R : SV → List SB → Prop} {x0 : SV} {M0 : List SB} {ρ' : Nat → Nat} {w w' : World} {S' : Nat → Prop} (h : endZ nz R x0 M0) (HM0 : Mem w S' (denM ρ' 0 M0) w') :
    ∃ x M', R x M' ∧ x0.den ρ' = x.den ρ' ∧ Mem w S' (denM ρ' 0 M') w' := by
  cases nz with
  | nil => exact ⟨x0, M0, h, rfl, HM0⟩
  | cons z r =>
    simp only [endZ] at h
    cases hc : (sbsAv (sc M0.length) M0 && sasAv (sc M0.length) (svL x0))
    · rw [hc] at h; exact h.elim
    · rw [hc] at h
      simp only [cond_true] at h
      simp only [Bool.and_eq_true] at hc
      have hi : Inv ρ' 0 (svL x0).length w S' (envFrom 0 (svL x0)) M0 ρ' { tmps := ((svL x0).map (SA.den ρ')).toArray ++ Array.replicate ((svL x0).length - (svL x0).length) undef, defers := [] } w' :=
        ⟨memAv_of hc.1, envFrom_av _ 0 (sasAv_mem hc.2), env0_ok (svL x0) _ (Nat.le_refl _), HM0, fun _ _ => rfl, Nat.zero_le _⟩
      have hi2 := nrmS_ok (z :: r) hi
      refine ⟨_, _, h, (reSV_den x0 fun t y hy => ?_).symm, hi2.mem⟩
      have := hi2.env.get t y hy
      simpa using this
theorem sbsAvP_den {ρ ρ' : Nat → Nat} {p : Nat → Bool} (h : ∀ i, p i = true → ρ' i = ρ i) : ∀ {m : List SB} {k : Nat}, (∀ i, k ≤ i → i < k + m.length → p i = true) → sbsAv p m = true → denM ρ' k m = denM ρ k m
  | [], _, _, _ => rfl
  | b :: r, k, hk, ha => by
    simp only [sbsAv, Bool.and_eq_true] at ha
    simp only [denM]
    rw [SB.av_den h (hk k (Nat.le_refl _) (by simp)) ha.1, sbsAvP_den h (fun i h1 h2 => hk i (by omega) (by simp; omega)) ha.2]
/-- A function that only reads: its arguments may be put otherwise, so that what it reads lies in memory from the beginning. -/
theorem rd_of_run {w0 : World} {S : Nat → Prop} (hf : P.funcs[f]? = some fn) (hb : fn.body = some c) (hen : enterB P f = true) (hT : TabOk P T) (hT2 : TysOk P T) (hΓ : ∀ w, Kept S w0 w → GamOk P w (fun _ => False) Γ) (C : RCon) (hdet : ∀ x0, C.det = some x0 → ∀ s x, x = x0 ∧ C.ok s x0)
    (nz : List NZ) (rp : SV → List SB → List Nat) (n : Nat)
    (h : ∀ (s : C.σ) (ρ : Nat → Nat) (w : World), C.pre s → Kept S w0 w → (∀ e ∈ denM ρ 0 (C.mem s), e.at w) → ∃ args : List SA, (C.args s).map (SA.den ρ) = args.map (SA.den ρ) ∧ (args.length.ble fn.ntmps && sasAv (sc 0) args) = true ∧
      run w T Γ AG n ⟨fn, fn.ntmps, lkAG AG f, 0, finS w T fn.results.toList (endD C nz rp s)⟩ none [] [.code c] (envFrom 0 args) []) : (Con.rd C).holdsAt P w0 S f := by
  refine ⟨hen, hdet, fun ρ s w hp hK hM => ?_⟩
  obtain ⟨args, ha, h1, h2⟩ := h s ρ w hp hK hM
  rw [ha]
  refine (calls_of_run (OldOk.self w) (ρ := ρ) (M := []) hf hb hT hT2 (hΓ w hK) args 0 (Nat.le_refl _) (by rw [show sbsAv (sc ([] : List SB).length) [] = true from rfl, Bool.and_true]; exact h1) (Mem.start w) n h2).mono ?_
  rintro e w' ⟨x0, M0, ρ', hend, -, rfl, HM0⟩
  obtain ⟨x, M', ⟨y, hy, hx⟩, hxd, HM'⟩ := endZ_ok hend HM0
  rw [hxd]
  cases hc : (nodB (rp x M') && allLt M'.length (rp x M') && (rp x M').length.beq C.len && (C.new s y).length.beq C.len && sbsAv (fun i => (C.mem s).length.ble i) (C.new s y) && (C.val s y).av (fun i => (C.mem s).length.ble i))
  · rw [hc] at hx; exact hx.elim
  · rw [hc] at hx
    simp only [cond_true] at hx
    simp only [Bool.and_eq_true] at hc
    obtain ⟨⟨⟨⟨⟨c1, c2⟩, c3⟩, c4⟩, c5⟩, c6⟩ := hc
    have hge : ∀ i, (C.mem s).length.ble i = true → (fun i => if i < (C.mem s).length then ρ i else ρ' (ofL (rp x M') (i - (C.mem s).length))) i = (fun i => ρ' (ofL (rp x M') (i - (C.mem s).length))) i := fun i hi => if_neg (by have := ble_t hi; omega)
    refine ⟨y, fun i => if i < (C.mem s).length then ρ i else ρ' (ofL (rp x M') (i - (C.mem s).length)), hy, fun i hi => if_pos hi, Nat.eq_of_beq_eq_true c4, ?_, ?_⟩
    · rw [hx.1]; congr 1; rw [SV.ren_den, ← hx.1]
      exact (SV.av_den hge c6).symm
    · rw [sbsAvP_den (p := fun i => (C.mem s).length.ble i) hge (fun i h1 _ => Nat.ble_eq_true_of_le h1) c5]
      have hd := denT_ren (ρ := ρ') (M := M') (rp x M') (C.new s y) (fun i => ofL (rp x M') (i - (C.mem s).length)) (C.mem s).length (fun i hi => by rw [List.getElem?_eq_getElem hi]; simp [ofL, List.getD_eq_getElem?_getD, hi]) hx.2
      rw [← hd]
      exact (HM'.perm (denM_picks ρ' M' (rp x M') M'.length (Nat.le_refl _) (nodB_iff c1) (allLt_mem c2))).sub (List.sublist_append_left _ _)
end
def nrmR (nz : List NZ) (x : SV) (M : List SB) : Option (SV × List SB) := match nz with
  | [] => some (x, M)
  | nz => bif sbsAv (sc M.length) M && sasAv (sc M.length) (svL x) then (match nrmS nz (envFrom 0 (svL x)) M with
    | (env', M') => some (reSV env' x, M')) else none
theorem endZ_of {nz : List NZ} {R : SV → List SB → Prop} {x x' : SV} {M M' : List SB} (h : nrmR nz x M = some (x', M')) (hR : R x' M') : endZ nz R x M := by
  cases nz with
  | nil =>
    simp only [nrmR, Option.some.injEq, Prod.mk.injEq] at h
    obtain ⟨rfl, rfl⟩ := h; exact hR
  | cons z r =>
    simp only [nrmR] at h
    simp only [endZ]
    cases hc : (sbsAv (sc M.length) M && sasAv (sc M.length) (svL x))
    · rw [hc] at h; cases h
    · rw [hc] at h
      simp only [cond_true, Option.some.injEq, Prod.mk.injEq] at h ⊢
      obtain ⟨rfl, rfl⟩ := h; exact hR
theorem endN_endZ {C : MCon} {nz : List NZ} {rp : SV → List SB → List Nat} {s : C.σ} {x : SV} {M : List SB} (h : endZ nz (endR C rp s) x M) : endN C nz rp s x M := by
  cases nz <;> exact h
theorem endD_of {C : RCon} {nz : List NZ} {rp : SV → List SB → List Nat} {s : C.σ} {x x' : SV} {M M' : List SB} (h : nrmR nz x M = some (x', M')) (y : C.χ) (ok : C.ok s y)
    (hc : (nodB (rp x' M') && allLt M'.length (rp x' M') && (rp x' M').length.beq C.len && (C.new s y).length.beq C.len && sbsAv (fun i => (C.mem s).length.ble i) (C.new s y) && (C.val s y).av (fun i => (C.mem s).length.ble i)) = true)
    (e1 : x' = (C.val s y).ren (fun i => ofL (rp x' M') (i - (C.mem s).length))) (e2 : (rp x' M').map (getB M') = (C.new s y).map (SB.ren (fun i => ofL (rp x' M') (i - (C.mem s).length)))) : endD C nz rp s x M :=
  endZ_of h ⟨y, ok, by rw [hc]; exact ⟨e1, e2⟩⟩
theorem endN_of {C : MCon} {nz : List NZ} {rp : SV → List SB → List Nat} {s : C.σ} {x x' : SV} {M M' : List SB} (h : nrmR nz x M = some (x', M')) (y : C.χ) (ok : C.ok s y)
    (hc : (nodB (rp x' M') && allLt M'.length (rp x' M') && idB 0 C.k (rp x' M') && (C.mem' s y).length.beq C.len && sbsAv (sc C.len) (C.mem' s y) && (C.val s y).av (sc C.len)) = true)
    (e1 : x' = (C.val s y).ren (ofL (rp x' M'))) (e2 : (rp x' M').map (getB M') = (C.mem' s y).map (SB.ren (ofL (rp x' M')))) : endN C nz rp s x M :=
  endN_endZ (endZ_of h ⟨y, ok, by rw [hc]; exact ⟨e1, e2⟩⟩)
/-- A slice of rows, seen as one that lies in memory from the beginning. -/
theorem so_view {w : World} {ρ : Nat → Nat} {b lo sz n m c : Nat} {nn : Bool} {t : TypeId} {ks : List CK} {kf : Nat → IntKind} {z : Nat → Nat → Int} (h : RowAt w (ρ b) t sz m c (rowsV (ckAt ks) sz z m)) (hk : kOk ks kf 0 = true) (hl : ks.length = sz) (hlo : lo + n ≤ m) :
    ∃ a c', (SC.so b lo sz n c nn).den ρ = .slice a n c' ∧ Rws sz kf w a n c' (fun i => z (lo + i)) ∧ a.isNone = (c.beq 0 && !nn) ∧ n ≤ c' := by
  have hmc := h.1
  simp only [SC.den]
  cases hc : (c.beq 0 && !nn)
  · refine ⟨some ⟨ρ b, bif (c - lo).beq 0 then 0 else lo * sz, none⟩, c - lo, rfl, ⟨by omega, ?_, ?_⟩, rfl, by omega⟩
    · rcases Nat.eq_zero_or_pos c with h0 | h0
      · subst h0; simp
      · obtain ⟨C, -, -, -, hmx⟩ := h.2.2 h0
        unfold maxLen at hmx; omega
    · rcases Nat.eq_zero_or_pos n with h0 | h0
      · exact .inl h0
      · obtain ⟨C, hB, hlC, ht, -⟩ := h.2.2 (by omega)
        have hz : (c - lo).beq 0 = false := by cases hq : (c - lo).beq 0; rfl; exact absurd (Nat.eq_of_beq_eq_true hq) (by omega)
        refine .inr ⟨ρ b, lo * sz, by rw [hz]; rfl, Blk.lt hB, fun j hj i hi => ⟨?_, trivial⟩⟩
        rw [hB.cell]
        have h4 := rowsV_get (ckAt ks) sz z m (lo + j) i (by omega) hi
        rw [← ht, List.getElem?_take] at h4
        split at h4
        · rw [show lo * sz + j * sz + i = (lo + j) * sz + i by rw [Nat.add_mul], h4, kOk_at hk (by omega), Nat.zero_add]
        · cases h4
  · simp only [Bool.and_eq_true] at hc
    have h0 := Nat.eq_of_beq_eq_true hc.1
    obtain rfl : n = 0 := by omega
    exact ⟨none, 0, rfl, ⟨Nat.le_refl _, by decide, .inl rfl⟩, rfl, Nat.le_refl _⟩
/-- A world without anything, of which nothing can be read. -/
def noW : World := { (default : World) with heap := #[] }
theorem noW_old (w : World) (S : Nat → Prop) : OldOk noW w S := by
  intro sz ks a m c z w' h _
  obtain ⟨h1, h2, h3⟩ := h
  refine ⟨h1, h2, ?_⟩
  rcases h3 with h3 | ⟨b, off, -, hb, -⟩
  · exact .inl h3
  · simp [noW] at hb
/-- The blocks that pointers name. -/
def blkA : List SA → List Nat
  | [] => []
  | .c (.p b _) :: r => b :: blkA r
  | .c (.o b _ _) :: r => b :: blkA r
  | .c (.so b _ _ _ _ _) :: r => b :: blkA r
  | _ :: r => blkA r
/-- A function whose outcome is known. -/
def dcon (σ : Type) (pre : σ → Prop) (args : σ → List SA) (mem : σ → List SB) (val : σ → SV) (mem' : σ → List SB) (k : Nat) (find : List SA → List SB → Option (List Nat)) : MCon :=
  { σ := σ, χ := Unit, pre := pre, args := args, mem := mem, ok := fun _ _ => True, val := fun s _ => val s, mem' := fun s _ => mem' s, k := k, len := k, det := some (), find := find }
def firstN (k : Nat) : SV → List SB → List Nat := fun _ _ => upN 0 k
/-! Proving what is left to be shown. -/
theorem by_dec {p : Prop} [Decidable p] {A B : Prop} (h : p → A) (k : ¬ p → B) : bif decide p then A else B := by
  by_cases hp : p
  · rw [decide_eq_true hp]; exact h hp
  · rw [decide_eq_false hp]; exact k hp
theorem by_beq {a b : Int} {A B : Prop} (h : a = b → A) (k : a ≠ b → B) : bif (a == b) then A else B := by
  by_cases hp : a = b
  · rw [beq_iff_eq.2 hp]; exact h hp
  · rw [show (a == b) = false from beq_eq_false_iff_ne.2 hp]; exact k hp
theorem by_bne {a b : Int} {A B : Prop} (h : a ≠ b → A) (k : a = b → B) : bif (a != b) then A else B := by
  by_cases hp : a = b
  · rw [show (a != b) = false by simp [hp]]; exact k hp
  · rw [show (a != b) = true by simpa using hp]; exact h hp
theorem by_nbeq {a b : Int} {A B : Prop} (h : a ≠ b → A) (k : a = b → B) : bif !(a == b) then A else B := by_bne h k
theorem by_tdec {p : Prop} [Decidable p] {A B : Prop} (h : p → A) (k : ¬ p → B) : bif (bif decide p then true else false) then A else B := by
  by_cases hp : p
  · rw [decide_eq_true hp]; exact h hp
  · rw [decide_eq_false hp]; exact k hp
theorem by_ndec {p : Prop} [Decidable p] {A B : Prop} (h : ¬ p → A) (k : p → B) : bif (bif decide p then false else true) then A else B := by
  by_cases hp : p
  · rw [decide_eq_true hp]; exact k hp
  · rw [decide_eq_false hp]; exact h hp
theorem by_nif {a b : Int} {A B : Prop} (h : a ≠ b → A) (k : a = b → B) : bif (bif a == b then false else true) then A else B := by
  by_cases hp : a = b
  · rw [beq_iff_eq.2 hp]; exact k hp
  · rw [show (a == b) = false from beq_eq_false_iff_ne.2 hp]; exact h hp
theorem by_nb {b : Bool} {A B : Prop} (h : b = false → A) (k : b = true → B) : bif (bif b then false else true) then A else B := by
  cases b
  · exact h rfl
  · exact k rfl
/-- The block that a slot's pointer names. -/
def blkE (env : Env) (t : Nat) : Nat := match lk env t with
  | some (.o (.c (.p b _))) => b
  | some (.o (.c (.so b _ _ _ _ _))) => b
  | _ => 0
theorem by_not {b : Bool} {A B : Prop} (h : b = false → A) (k : b = true → B) : bif !b then A else B := by
  cases b
  · exact h rfl
  · exact k rfl
theorem svI {a b : Int} (h : a = b) : some (sv (.int .i64 a)) = some (sv (.int .i64 b)) := by rw [h]
theorem svU {a b : Int} (h : a = b) : some (sv (.int .u64 a)) = some (sv (.int .u64 b)) := by rw [h]
theorem sucI {n : Nat} (h : n ≤ 1000000000) : IntKind.wrap .i64 ((n : Int) + 1) = ((n + 1 : Nat) : Int) := by
  simp only [IntKind.wrap, IntKind.bits, IntKind.signed]; simp; omega
theorem wrapI {x : Int} (h0 : -9223372036854775808 ≤ x) (h1 : x ≤ 9223372036854775807) : IntKind.wrap .i64 x = x := by
  simp only [IntKind.wrap, IntKind.bits, IntKind.signed]; simp; omega
theorem wrapU {x : Int} (h0 : 0 ≤ x) (h1 : x < 18446744073709551616) : IntKind.wrap .u64 x = x := by
  simp only [IntKind.wrap, IntKind.bits, IntKind.signed]; simp; omega
end Go.Proofs.YtacgihekdmoceaaDoor
end
section
namespace Go.Proofs.YtacgihekdmoceaaDoor
set_option linter.unusedVariables false
def tk (t : List Int) (i : Nat) : Int := t.getD (i * 2) 0
def tv (t : List Int) (i : Nat) : Int := t.getD (i * 2 + 1) 0
def slotOf (key : Int) (k : Nat) : Nat := ((key * 5 % 8 + k) % 8).toNat
def hit (t : List Int) (key : Int) (i : Nat) : Bool := tk t i == key || tk t i == 0
def atFrom (t : List Int) (key : Int) : Nat → Nat → Int
  | 0, _ => -1
  | f + 1, k => if hit t key (slotOf key k) then slotOf key k else atFrom t key f (k + 1)
def atI (t : List Int) (key : Int) : Int := atFrom t key 8 0
def cntTo (t : List Int) : Nat → Nat
  | 0 => 0
  | k + 1 => cntTo t k + if tk t k = 0 then 0 else 1
def lenT (t : List Int) : Nat := cntTo t 8
theorem cntTo_le (t : List Int) (k : Nat) : cntTo t k ≤ k := by
  induction k with
  | zero => exact Nat.le_refl _
  | succ k ih => simp only [cntTo]; split <;> omega
def setS (t : List Int) (i : Nat) (k v : Int) : List Int := (t.set (i * 2) k).set (i * 2 + 1) v
theorem setS_len (t : List Int) (i : Nat) (k v : Int) : (setS t i k v).length = t.length := by simp [setS]
theorem tk_setS (t : List Int) (i j : Nat) (k v : Int) (hl : t.length = 16) (hi : i < 8) : tk (setS t i k v) j = if j = i then k else tk t j := by
  unfold tk setS
  rw [List.getD_eq_getElem?_getD, List.getD_eq_getElem?_getD, List.getElem?_set, List.getElem?_set]
  rw [if_neg (by omega)]
  by_cases h : j = i
  · subst h; have hj : j * 2 < t.length := by omega
    simp [hj]
  · rw [if_neg (by omega), if_neg h]
theorem tv_setS (t : List Int) (i j : Nat) (k v : Int) (hl : t.length = 16) (hi : i < 8) : tv (setS t i k v) j = if j = i then v else tv t j := by
  unfold tv setS
  rw [List.getD_eq_getElem?_getD, List.getD_eq_getElem?_getD, List.getElem?_set, List.getElem?_set]
  by_cases h : j = i
  · subst h; have hj : j * 2 + 1 < t.length := by omega
    simp [hj]
  · rw [if_neg (by omega), if_neg (by omega), if_neg h]
theorem cnt_setS (t : List Int) (i : Nat) (k v : Int) (hl : t.length = 16) (hi : i < 8) (n : Nat) :
    (n ≤ i → cntTo (setS t i k v) n = cntTo t n) ∧ (i < n → cntTo (setS t i k v) n + (if tk t i = 0 then 0 else 1) = cntTo t n + (if k = 0 then 0 else 1)) := by
  induction n with
  | zero => exact ⟨fun _ => rfl, fun h => by omega⟩
  | succ n ih =>
    simp only [cntTo, tk_setS t i n k v hl hi]
    obtain ⟨h1, h2⟩ := ih
    refine ⟨fun h => ?_, fun h => ?_⟩
    · rw [if_neg (by omega : ¬ n = i), h1 (by omega)]
    · by_cases e : n = i
      · subst e; rw [if_pos rfl, h1 (Nat.le_refl _)]; omega
      · rw [if_neg e]; have := h2 (by omega); omega
theorem len_setS (t : List Int) (i : Nat) (k v : Int) (hl : t.length = 16) (hi : i < 8) :
    lenT (setS t i k v) + (if tk t i = 0 then 0 else 1) = lenT t + (if k = 0 then 0 else 1) :=
  (cnt_setS t i k v hl hi 8).2 hi
theorem cnt_all (t : List Int) (n : Nat) (h : ∀ j, j < n → tk t j ≠ 0) : cntTo t n = n := by
  induction n with
  | zero => rfl
  | succ n ih => simp only [cntTo]; rw [ih (fun j hj => h j (by omega)), if_neg (h n (by omega))]
theorem cnt_none (t : List Int) (n : Nat) (h : ∀ j, j < n → tk t j = 0) : cntTo t n = 0 := by
  induction n with
  | zero => rfl
  | succ n ih => simp only [cntTo]; rw [ih (fun j hj => h j (by omega)), if_pos (h n (by omega))]
def hm (key : Int) : Nat := (key * 5 % 8).toNat
theorem hm_lt (key : Int) : hm key < 8 := by unfold hm; omega
theorem slotOf_eq (key : Int) (k : Nat) : slotOf key k = (hm key + k) % 8 := by unfold slotOf hm; omega
theorem slotOf_lt (key : Int) (k : Nat) : slotOf key k < 8 := by rw [slotOf_eq]; omega
theorem hit_iff (t : List Int) (key : Int) (i : Nat) : hit t key i = true ↔ tk t i = key ∨ tk t i = 0 := by simp [hit]
theorem hit_no (t : List Int) (key : Int) (i : Nat) : hit t key i = false ↔ tk t i ≠ key ∧ tk t i ≠ 0 := by simp [hit]
theorem atFrom_spec (t : List Int) (key : Int) : ∀ f k,
    (∃ m, k ≤ m ∧ m < k + f ∧ atFrom t key f k = slotOf key m ∧ hit t key (slotOf key m) = true ∧ ∀ m', k ≤ m' → m' < m → hit t key (slotOf key m') = false) ∨
    (atFrom t key f k = -1 ∧ ∀ m', k ≤ m' → m' < k + f → hit t key (slotOf key m') = false)
  | 0, k => .inr ⟨rfl, fun _ _ _ => by omega⟩
  | f + 1, k => by
    simp only [atFrom]
    cases h : hit t key (slotOf key k)
    · rcases atFrom_spec t key f (k + 1) with ⟨m, h1, h2, h3, h4, h5⟩ | ⟨h1, h2⟩
      · refine .inl ⟨m, by omega, by omega, by simpa using h3, h4, fun m' a b => ?_⟩
        by_cases e : m' = k
        · subst e; exact h
        · exact h5 m' (by omega) b
      · refine .inr ⟨by simpa using h1, fun m' a b => ?_⟩
        by_cases e : m' = k
        · subst e; exact h
        · exact h2 m' (by omega) (by omega)
    · exact .inl ⟨k, Nat.le_refl _, by omega, by simp, h, fun _ _ _ => by omega⟩
/-- Where a key stands: the first slot of its row that is hit, or none. -/
theorem atI_spec (t : List Int) (key : Int) :
    (∃ m, m < 8 ∧ atI t key = slotOf key m ∧ hit t key (slotOf key m) = true ∧ ∀ m', m' < m → hit t key (slotOf key m') = false) ∨
    (atI t key = -1 ∧ ∀ j, j < 8 → hit t key j = false) := by
  rcases atFrom_spec t key 8 0 with ⟨m, h1, h2, h3, h4, h5⟩ | ⟨h1, h2⟩
  · exact .inl ⟨m, by omega, h3, h4, fun m' h => h5 m' (by omega) h⟩
  · refine .inr ⟨h1, fun j hj => ?_⟩
    have hh := hm_lt key
    have := h2 ((j + 8 - hm key) % 8) (by omega) (by omega)
    rwa [slotOf_eq, show (hm key + (j + 8 - hm key) % 8) % 8 = j by omega] at this
theorem atI_of (t : List Int) (key : Int) (m : Nat) (hm8 : m < 8) (h : hit t key (slotOf key m) = true) (h' : ∀ m', m' < m → hit t key (slotOf key m') = false) : atI t key = slotOf key m := by
  rcases atI_spec t key with ⟨m2, a, b, c, d⟩ | ⟨_, b⟩
  · have : m2 = m := by
      rcases Nat.lt_trichotomy m2 m with g | g | g
      · rw [h' m2 g] at c; cases c
      · exact g
      · rw [d m g] at h; cases h
    rw [b, this]
  · rw [b _ (slotOf_lt _ _)] at h; cases h
def dst (h j : Nat) : Nat := (j + 8 - h) % 8
theorem slot_dst (key : Int) (j : Nat) (hj : j < 8) : slotOf key (dst (hm key) j) = j := by
  have := hm_lt key; rw [slotOf_eq]; unfold dst; omega
/-- A good table. -/
structure Good (t : List Int) : Prop where
  len : t.length = 16
  few : lenT t ≤ 6
  key0 : ∀ i, i < 8 → 0 ≤ tk t i
  key1 : ∀ i, i < 8 → tk t i ≤ 1000
  val0 : ∀ i, i < 8 → 0 ≤ tv t i
  val1 : ∀ i, i < 8 → tv t i ≤ 4294967295
  none : ∀ i, i < 8 → tk t i = 0 → tv t i = 0
  once : ∀ i j, i < 8 → j < 8 → tk t i = tk t j → tk t i ≠ 0 → i = j
  path : ∀ j, j < 8 → tk t j ≠ 0 → ∀ m, m < dst (hm (tk t j)) j → tk t (slotOf (tk t j) m) ≠ 0
theorem Good.found {t : List Int} (g : Good t) (j : Nat) (hj : j < 8) (h0 : tk t j ≠ 0) : atI t (tk t j) = j := by
  have e := slot_dst (tk t j) j hj
  rw [atI_of t (tk t j) (dst (hm (tk t j)) j) (by unfold dst; omega) (by rw [e, hit_iff]; exact .inl rfl), e]
  intro m hmm
  rw [hit_no]
  refine ⟨fun h => ?_, g.path j hj h0 m hmm⟩
  have := g.once _ _ (slotOf_lt _ _) hj h (by rw [h]; exact h0)
  rw [slotOf_eq] at this
  have h1 := hm_lt (tk t j)
  unfold dst at hmm; omega
theorem Good.mk' {t : List Int} (len : t.length = 16) (few : lenT t ≤ 6) (r : ∀ i, i < 8 → 0 ≤ tk t i ∧ tk t i ≤ 1000 ∧ 0 ≤ tv t i ∧ tv t i ≤ 4294967295 ∧ (tk t i = 0 → tv t i = 0) ∧ (tk t i ≠ 0 → atI t (tk t i) = i)) : Good t := by
  refine ⟨len, few, fun i h => (r i h).1, fun i h => (r i h).2.1, fun i h => (r i h).2.2.1, fun i h => (r i h).2.2.2.1, fun i h => (r i h).2.2.2.2.1, ?_, ?_⟩
  · intro i j hi hj e h0
    have a := (r i hi).2.2.2.2.2 h0
    have b := (r j hj).2.2.2.2.2 (by rw [← e]; exact h0)
    rw [← e, a] at b; omega
  · intro j hj h0 m hmm
    have a := (r j hj).2.2.2.2.2 h0
    rcases atI_spec t (tk t j) with ⟨m2, b, c, d, e⟩ | ⟨b, _⟩
    · rw [c] at a
      have : m2 = dst (hm (tk t j)) j := by
        have a' : slotOf (tk t j) m2 = j := by omega
        rw [slotOf_eq] at a'
        have := hm_lt (tk t j)
        unfold dst; omega
      exact ((hit_no _ _ _).1 (e m (by omega))).2
    · rw [b] at a; omega
/-- Some slot is free. -/
theorem Good.free {t : List Int} (g : Good t) : ∃ z, z < 8 ∧ tk t z = 0 := by
  by_cases h : ∃ z, z < 8 ∧ tk t z = 0
  · exact h
  · have := cnt_all t 8 (fun j hj hz => h ⟨j, hj, hz⟩)
    have := g.few; unfold lenT at this; omega
theorem Good.at {t : List Int} (g : Good t) (key : Int) : ∃ i, i < 8 ∧ atI t key = (i : Nat) ∧ (tk t i = key ∨ tk t i = 0) ∧ ∃ m, m < 8 ∧ slotOf key m = i ∧ ∀ m', m' < m → tk t (slotOf key m') ≠ key ∧ tk t (slotOf key m') ≠ 0 := by
  rcases atI_spec t key with ⟨m, a, b, c, d⟩ | ⟨_, b⟩
  · exact ⟨slotOf key m, slotOf_lt _ _, b, (hit_iff _ _ _).1 c, m, a, rfl, fun m' h => (hit_no _ _ _).1 (d m' h)⟩
  · obtain ⟨z, hz, h0⟩ := g.free
    have := (hit_no _ _ _).1 (b z hz)
    exact absurd h0 this.2
/-- Whether a key stands in a table, and its value. -/
def thereB (t : List Int) (key : Int) : Bool := decide (0 ≤ atI t key) && (tk t (atI t key).toNat == key)
theorem Good.there {t : List Int} (g : Good t) (key : Int) (hk : key ≠ 0) : thereB t key = true ↔ ∃ j, j < 8 ∧ tk t j = key := by
  obtain ⟨i, hi, ha, -, -⟩ := g.at key
  constructor
  · intro h
    simp only [thereB, ha, Bool.and_eq_true, decide_eq_true_eq, beq_iff_eq, Int.toNat_natCast] at h
    exact ⟨i, hi, h.2⟩
  · rintro ⟨j, hj, rfl⟩
    have := g.found j hj hk
    simp [thereB, this]
theorem Good.val {t : List Int} (g : Good t) (j : Nat) (hj : j < 8) (h0 : tk t j ≠ 0) : tv t (atI t (tk t j)).toNat = tv t j := by
  rw [g.found j hj h0]; rfl
/-- Putting a key where it stands, or where it would stand. -/
theorem Good.put {t : List Int} (g : Good t) (key v : Int) (h1 : 1 ≤ key) (h2 : key ≤ 1000) (v0 : 0 ≤ v) (v1 : v ≤ 4294967295) (hf : thereB t key = true ∨ lenT t ≤ 5) :
    Good (setS t (atI t key).toNat key v) := by
  obtain ⟨i, hi, ha, ho, m, hm8, hsm, hb⟩ := g.at key
  rw [ha, Int.toNat_natCast]
  have e1 := fun j => tk_setS t i j key v g.len hi
  have e2 := fun j => tv_setS t i j key v g.len hi
  have hl := len_setS t i key v g.len hi
  refine ⟨by rw [setS_len]; exact g.len, ?_, ?_, ?_, ?_, ?_, ?_, ?_, ?_⟩
  · rw [if_neg (by omega : ¬ key = 0)] at hl
    rcases ho with h | h
    · rw [if_neg (by omega)] at hl; have := g.few; omega
    · rw [if_pos h] at hl
      rcases hf with hf | hf
      · simp [thereB, ha, h] at hf; omega
      · omega
  · intro j hj; rw [e1]; split
    · omega
    · exact g.key0 j hj
  · intro j hj; rw [e1]; split
    · omega
    · exact g.key1 j hj
  · intro j hj; rw [e2]; split
    · omega
    · exact g.val0 j hj
  · intro j hj; rw [e2]; split
    · omega
    · exact g.val1 j hj
  · intro j hj; rw [e1, e2]; split
    · intro; omega
    · exact g.none j hj
  · have hk : ∀ j, j < 8 → tk t j = key → j = i := by
      intro j hj hh
      have := g.found j hj (by omega)
      rw [hh, ha] at this; omega
    intro a b ha' hb' e h0
    rw [e1, e1] at e; rw [e1] at h0
    by_cases x : a = i <;> by_cases y : b = i
    · omega
    · rw [if_pos x, if_neg y] at e; exact absurd (hk b hb' e.symm) y
    · rw [if_neg x, if_pos y] at e; exact absurd (hk a ha' e) x
    · rw [if_neg x, if_neg y] at e; rw [if_neg x] at h0; exact g.once a b ha' hb' e h0
  · intro j hj h0 m2 hm2
    rw [e1] at h0 hm2 ⊢
    rw [e1]
    by_cases x : j = i
    · rw [if_pos x] at hm2 ⊢
      split
      · omega
      · have : m2 < m := by
          have := hm_lt key
          rw [slotOf_eq] at hsm; unfold dst at hm2; omega
        exact (hb m2 this).2
    · rw [if_neg x] at h0 hm2 ⊢
      split
      · omega
      · exact g.path j hj h0 m2 hm2
/-- After a put: the key has its value; all others are as before. -/
theorem Good.put_keys {t : List Int} (g : Good t) (key v : Int) (h1 : 1 ≤ key) (k : Int) (hk : k ≠ 0) (u : Int) :
    (∃ j, j < 8 ∧ tk (setS t (atI t key).toNat key v) j = k ∧ tv (setS t (atI t key).toNat key v) j = u) ↔ (k = key ∧ u = v) ∨ (k ≠ key ∧ ∃ j, j < 8 ∧ tk t j = k ∧ tv t j = u) := by
  obtain ⟨i, hi, ha, ho, m, hm8, hsm, hb⟩ := g.at key
  rw [ha, Int.toNat_natCast]
  have e1 := fun j => tk_setS t i j key v g.len hi
  have e2 := fun j => tv_setS t i j key v g.len hi
  have hkk : ∀ j, j < 8 → tk t j = key → j = i := by
    intro j hj hh
    have := g.found j hj (by omega)
    rw [hh, ha] at this; omega
  constructor
  · rintro ⟨j, hj, a, b⟩
    rw [e1] at a; rw [e2] at b
    by_cases x : j = i
    · rw [if_pos x] at a b; exact .inl ⟨a.symm, b.symm⟩
    · rw [if_neg x] at a b
      by_cases y : k = key
      · exact absurd (hkk j hj (by omega)) x
      · exact .inr ⟨y, j, hj, a, b⟩
  · rintro (⟨rfl, rfl⟩ | ⟨y, j, hj, a, b⟩)
    · exact ⟨i, hi, by rw [e1, if_pos rfl], by rw [e2, if_pos rfl]⟩
    · have x : j ≠ i := by
        rintro rfl
        rcases ho with h | h
        · omega
        · omega
      exact ⟨j, hj, by rw [e1, if_neg x]; exact a, by rw [e2, if_neg x]; exact b⟩
end Go.Proofs.YtacgihekdmoceaaDoor
end
section
namespace Go.Proofs.YtacgihekdmoceaaDoor
set_option linter.unusedVariables false
def stepC (T : List Int) (k : Nat) : List Int := setS (setS T k 0 0) (atI (setS T k 0 0) (tk T k)).toNat (tk T k) (tv T k)
def iterC (t : List Int) (i : Nat) : Nat → List Int
  | 0 => setS t i 0 0
  | n + 1 => stepC (iterC t i n) ((i + 1 + n) % 8)
def endFrom (t : List Int) (i : Nat) : Nat → Nat → Nat
  | 0, e => e
  | f + 1, e => if tk t ((i + e) % 8) = 0 then e else endFrom t i f (e + 1)
def endOff (t : List Int) (i : Nat) : Nat := endFrom t i 7 1
def closeF (t : List Int) (i : Nat) : List Int := iterC t i (endOff t i - 1)
theorem endFrom_spec (t : List Int) (i : Nat) : ∀ f e, e ≤ endFrom t i f e ∧ endFrom t i f e ≤ e + f ∧ (∀ o, e ≤ o → o < endFrom t i f e → tk t ((i + o) % 8) ≠ 0) ∧ (endFrom t i f e < e + f → tk t ((i + endFrom t i f e) % 8) = 0)
  | 0, e => ⟨Nat.le_refl _, Nat.le_refl _, fun _ _ _ => by simp only [endFrom] at *; omega, fun h => by simp only [endFrom] at h; omega⟩
  | f + 1, e => by
    simp only [endFrom]
    split
    · next h => exact ⟨Nat.le_refl _, by omega, fun _ _ _ => by omega, fun _ => h⟩
    · next h =>
      obtain ⟨a, b, c, d⟩ := endFrom_spec t i f (e + 1)
      refine ⟨by omega, by omega, fun o h1 h2 => ?_, fun h1 => d (by omega)⟩
      by_cases x : o = e
      · subst x; exact h
      · exact c o (by omega) h2
theorem endOff_spec {t : List Int} (g : Good t) (i : Nat) (hi : i < 8) (h0 : tk t i ≠ 0) : 1 ≤ endOff t i ∧ endOff t i ≤ 7 ∧ (∀ o, 1 ≤ o → o < endOff t i → tk t ((i + o) % 8) ≠ 0) ∧ tk t ((i + endOff t i) % 8) = 0 := by
  obtain ⟨a, b, c, d⟩ := endFrom_spec t i 7 1
  have hlt : endFrom t i 7 1 < 1 + 7 := by
    rcases Nat.lt_or_ge (endFrom t i 7 1) 8 with h | h
    · omega
    · exfalso
      obtain ⟨z, hz, hz0⟩ := g.free
      by_cases x : z = i
      · subst x; exact h0 hz0
      · refine c (dst i z) (by unfold dst; omega) (by unfold dst; omega) ?_
        rw [show (i + dst i z) % 8 = z by unfold dst; omega]; exact hz0
  exact ⟨a, by unfold endOff; omega, c, d hlt⟩
structure InvC (t : List Int) (i E n : Nat) (T : List Int) : Prop where
  len : T.length = 16
  cnt : lenT T + 1 = lenT t
  key0 : ∀ i, i < 8 → 0 ≤ tk T i
  key1 : ∀ i, i < 8 → tk T i ≤ 1000
  val0 : ∀ i, i < 8 → 0 ≤ tv T i
  val1 : ∀ i, i < 8 → tv T i ≤ 4294967295
  none : ∀ i, i < 8 → tk T i = 0 → tv T i = 0
  once : ∀ i j, i < 8 → j < 8 → tk T i = tk T j → tk T i ≠ 0 → i = j
  run : ∀ o, n < o → o < E → tk T ((i + o) % 8) ≠ 0
  stop : tk T ((i + E) % 8) = 0
  path : ∀ j, j < 8 → tk T j ≠ 0 → ∀ m, m < dst (hm (tk T j)) j → tk T (slotOf (tk T j) m) ≠ 0 ∨ (n < dst i j ∧ dst i j < E ∧ dst i (slotOf (tk T j) m) ≤ n)
  same : ∀ k, k ≠ 0 → ∀ u, (∃ j, j < 8 ∧ tk T j = k ∧ tv T j = u) ↔ k ≠ tk t i ∧ ∃ j, j < 8 ∧ tk t j = k ∧ tv t j = u
theorem invC_start {t : List Int} (g : Good t) (i : Nat) (hi : i < 8) (h0 : tk t i ≠ 0) : InvC t i (endOff t i) 0 (setS t i 0 0) := by
  obtain ⟨E1, E7, hr, hs⟩ := endOff_spec g i hi h0
  have e1 := fun j => tk_setS t i j 0 0 g.len hi
  have e2 := fun j => tv_setS t i j 0 0 g.len hi
  have hl := len_setS t i 0 0 g.len hi
  rw [if_neg h0, if_pos rfl] at hl
  refine ⟨by rw [setS_len]; exact g.len, by omega, ?_, ?_, ?_, ?_, ?_, ?_, ?_, ?_, ?_, ?_⟩
  · intro j hj; rw [e1]; split
    · omega
    · exact g.key0 j hj
  · intro j hj; rw [e1]; split
    · omega
    · exact g.key1 j hj
  · intro j hj; rw [e2]; split
    · omega
    · exact g.val0 j hj
  · intro j hj; rw [e2]; split
    · omega
    · exact g.val1 j hj
  · intro j hj; rw [e1, e2]; split
    · intro; rfl
    · exact g.none j hj
  · intro a b ha hb e h
    rw [e1] at h e; rw [e1] at e
    by_cases x : a = i
    · rw [if_pos x] at h; omega
    · rw [if_neg x] at h e
      by_cases y : b = i
      · rw [if_pos y] at e; exact absurd e h
      · rw [if_neg y] at e; exact g.once a b ha hb e h
  · intro o ho hoE; rw [e1, if_neg (by omega)]; exact hr o (by omega) hoE
  · rw [e1, if_neg (by omega)]; exact hs
  · intro j hj h m hmm
    by_cases x : j = i
    · rw [e1, if_pos x] at h; exact absurd rfl h
    have ej : tk (setS t i 0 0) j = tk t j := by rw [e1, if_neg x]
    rw [ej] at h hmm ⊢
    have hp := g.path j hj h m hmm
    by_cases y : slotOf (tk t j) m = i
    · by_cases z : dst i j < endOff t i
      · exact .inr ⟨by unfold dst; omega, z, by rw [y]; unfold dst; omega⟩
      · exfalso
        have hne : dst i j ≠ endOff t i := by
          intro q; refine h ?_; rw [← hs, ← q]; congr 1; unfold dst; omega
        refine g.path j hj h (m + endOff t i) ?_ ?_
        · have := hm_lt (tk t j); rw [slotOf_eq] at y; unfold dst at *; omega
        · rw [← hs]; congr 1; rw [slotOf_eq] at y ⊢; omega
    · rw [e1, if_neg y]; exact .inl hp
  · intro k hk u
    constructor
    · rintro ⟨j, hj, a, b⟩
      rw [e1] at a; rw [e2] at b
      by_cases x : j = i
      · rw [if_pos x] at a; omega
      · rw [if_neg x] at a b
        refine ⟨fun q => x (g.once j i hj hi (by omega) (by omega)), j, hj, a, b⟩
    · rintro ⟨q, j, hj, a, b⟩
      have x : j ≠ i := by rintro rfl; exact q a.symm
      exact ⟨j, hj, by rw [e1, if_neg x]; exact a, by rw [e2, if_neg x]; exact b⟩
theorem stepC_at {t : List Int} {i E n : Nat} {T : List Int} (v : InvC t i E n T) (hi : i < 8) (hn : n + 1 < E) (hE : E ≤ 7) :
    ∃ a, a < 8 ∧ atI (setS T ((i + 1 + n) % 8) 0 0) (tk T ((i + 1 + n) % 8)) = (a : Nat) ∧ tk (setS T ((i + 1 + n) % 8) 0 0) a = 0 ∧ dst i a ≤ n + 1 ∧
      ∃ m, m < 8 ∧ slotOf (tk T ((i + 1 + n) % 8)) m = a ∧ ∀ m', m' < m → tk (setS T ((i + 1 + n) % 8) 0 0) (slotOf (tk T ((i + 1 + n) % 8)) m') ≠ 0 := by
  have hrun := v.run (n + 1) (by omega) hn
  rw [show i + (n + 1) = i + 1 + n by omega] at hrun
  obtain ⟨k, hk⟩ : ∃ k, k = (i + 1 + n) % 8 := ⟨_, rfl⟩
  rw [← hk] at hrun ⊢
  have hk8 : k < 8 := by omega
  have e1 := fun j => tk_setS T k j 0 0 v.len hk8
  have hh := hm_lt (tk T k)
  have hM := slot_dst (tk T k) k hk8
  rcases atI_spec (setS T k 0 0) (tk T k) with ⟨m, a, b, c, d⟩ | ⟨_, b⟩
  · refine ⟨slotOf (tk T k) m, slotOf_lt _ _, b, ?_, ?_, m, a, rfl, fun m' h => ((hit_no _ _ _).1 (d m' h)).2⟩
    · rcases (hit_iff _ _ _).1 c with h | h
      · exfalso
        rw [e1] at h
        by_cases x : slotOf (tk T k) m = k
        · rw [if_pos x] at h; omega
        · rw [if_neg x] at h; exact x (v.once _ _ (slotOf_lt _ _) hk8 h (by omega))
      · exact h
    · by_cases x : slotOf (tk T k) m = k
      · rw [x]; unfold dst; omega
      · have hlt : m < dst (hm (tk T k)) k := by
          rcases Nat.lt_or_ge m (dst (hm (tk T k)) k) with h | h
          · exact h
          · exfalso
            by_cases y : m = dst (hm (tk T k)) k
            · rw [y] at x; exact x hM
            · have := d (dst (hm (tk T k)) k) (by omega)
              rw [hM, hit_no, e1, if_pos rfl] at this
              exact this.2 rfl
        rcases v.path k hk8 hrun m hlt with h | ⟨_, _, h⟩
        · exfalso
          rcases (hit_iff _ _ _).1 c with g | g
          · rw [e1, if_neg x] at g
            exact x (v.once _ _ (slotOf_lt _ _) hk8 g (by omega))
          · rw [e1, if_neg x] at g; exact h g
        · omega
  · exfalso
    have := (hit_no _ _ _).1 (b k hk8)
    rw [e1, if_pos rfl] at this
    exact this.2 rfl
theorem invC_step {t : List Int} {i E n : Nat} {T : List Int} (v : InvC t i E n T) (hi : i < 8) (hn : n + 1 < E) (hE : E ≤ 7) : InvC t i E (n + 1) (stepC T ((i + 1 + n) % 8)) := by
  obtain ⟨a, ha8, haI, ha0, had, m0, hm0, hsl, hbef⟩ := stepC_at v hi hn hE
  have hrun := v.run (n + 1) (by omega) hn
  rw [show i + (n + 1) = i + 1 + n by omega] at hrun
  unfold stepC
  rw [haI, Int.toNat_natCast]
  obtain ⟨k, hk⟩ : ∃ k, k = (i + 1 + n) % 8 := ⟨_, rfl⟩
  rw [← hk] at hrun ha0 hsl hbef ⊢
  have hk8 : k < 8 := by omega
  have hdk : dst i k = n + 1 := by unfold dst; omega
  have f1 := fun j => tk_setS T k j 0 0 v.len hk8
  have f2 := fun j => tv_setS T k j 0 0 v.len hk8
  have hlen1 : (setS T k 0 0).length = 16 := by rw [setS_len]; exact v.len
  have e1 : ∀ j, tk (setS (setS T k 0 0) a (tk T k) (tv T k)) j = if j = a then tk T k else if j = k then 0 else tk T j := fun j => by rw [tk_setS _ a j _ _ hlen1 ha8, f1]
  have e2 : ∀ j, tv (setS (setS T k 0 0) a (tk T k) (tv T k)) j = if j = a then tv T k else if j = k then 0 else tv T j := fun j => by rw [tv_setS _ a j _ _ hlen1 ha8, f2]
  have l1 := len_setS T k 0 0 v.len hk8
  have l2 := len_setS (setS T k 0 0) a (tk T k) (tv T k) hlen1 ha8
  rw [if_neg hrun, if_pos rfl] at l1
  rw [if_pos ha0, if_neg hrun] at l2
  have hak : a ≠ k → tk T a = 0 := fun x => by rw [f1, if_neg x] at ha0; exact ha0
  refine ⟨by rw [setS_len]; exact hlen1, by have := v.cnt; omega, ?_, ?_, ?_, ?_, ?_, ?_, ?_, ?_, ?_, ?_⟩
  · intro j hj; rw [e1]; split
    · exact v.key0 k hk8
    · split
      · omega
      · exact v.key0 j hj
  · intro j hj; rw [e1]; split
    · exact v.key1 k hk8
    · split
      · omega
      · exact v.key1 j hj
  · intro j hj; rw [e2]; split
    · exact v.val0 k hk8
    · split
      · omega
      · exact v.val0 j hj
  · intro j hj; rw [e2]; split
    · exact v.val1 k hk8
    · split
      · omega
      · exact v.val1 j hj
  · intro j hj; rw [e1, e2]; split
    · exact v.none k hk8
    · split
      · intro; rfl
      · exact v.none j hj
  · intro x y hx hy e h
    rw [e1] at h e; rw [e1] at e
    by_cases xa : x = a
    · by_cases ya : y = a
      · omega
      · rw [if_pos xa] at e h; rw [if_neg ya] at e
        by_cases yk : y = k
        · rw [if_pos yk] at e; exact absurd e h
        · rw [if_neg yk] at e; exact absurd (v.once _ _ hk8 hy e h).symm yk
    · rw [if_neg xa] at e h
      by_cases xk : x = k
      · rw [if_pos xk] at h; exact absurd rfl h
      · rw [if_neg xk] at e h
        by_cases ya : y = a
        · rw [if_pos ya] at e; exact absurd (v.once _ _ hx hk8 e h) xk
        · rw [if_neg ya] at e
          by_cases yk : y = k
          · rw [if_pos yk] at e; exact absurd e h
          · rw [if_neg yk] at e; exact v.once _ _ hx hy e h
  · intro o ho hoE
    have hd : dst i ((i + o) % 8) = o := by unfold dst; omega
    rw [e1, if_neg (by rintro rfl; omega), if_neg (by rintro rfl; omega)]
    exact v.run o (by omega) hoE
  · have hd : dst i ((i + E) % 8) = E := by unfold dst; omega
    rw [e1, if_neg (by rintro rfl; omega), if_neg (by rintro rfl; omega)]
    exact v.stop
  · intro j hj h m hmm
    by_cases xa : j = a
    · rw [e1 j, if_pos xa] at hmm ⊢
      have hlt : m < m0 := by
        have := hm_lt (tk T k)
        rw [slotOf_eq] at hsl; unfold dst at hmm; omega
      have hb := hbef m hlt
      rw [f1] at hb
      left
      rw [e1]
      split
      · exact hrun
      · exact hb
    · have xk : j ≠ k := by
        rintro rfl; rw [e1, if_neg xa, if_pos rfl] at h; exact h rfl
      rw [e1 j, if_neg xa, if_neg xk] at h hmm ⊢
      have hp := v.path j hj h m hmm
      obtain ⟨p, hp'⟩ : ∃ p, p = slotOf (tk T j) m := ⟨_, rfl⟩
      have hp8 : p < 8 := by rw [hp']; exact slotOf_lt _ _
      rw [← hp'] at hp ⊢
      rw [e1]
      by_cases pa : p = a
      · left; rw [if_pos pa]; exact hrun
      rw [if_neg pa]
      have hjk : dst i j ≠ n + 1 := by intro q; refine xk ?_; rw [hk]; unfold dst at q; omega
      by_cases pk : p = k
      · rw [if_pos pk]
        by_cases z : n < dst i j ∧ dst i j < E
        · right; rw [pk, hdk]; omega
        · exfalso
          have hne : dst i j ≠ E := by
            intro q; refine h ?_; rw [← v.stop, ← q]; congr 1; unfold dst; omega
          have hq := v.path j hj h (m + (E - n - 1)) (by
            have := hm_lt (tk T j); rw [slotOf_eq] at hp'; unfold dst at *; omega)
          rcases hq with hq | ⟨q1, q2, _⟩
          · refine hq ?_
            rw [← v.stop]; congr 1; rw [slotOf_eq] at hp' ⊢; omega
          · exact z ⟨q1, q2⟩
      · rw [if_neg pk]
        rcases hp with hp | ⟨q1, q2, q3⟩
        · exact .inl hp
        · exact .inr ⟨by omega, q2, by omega⟩
  · intro k' hk' u
    rw [← v.same k' hk' u]
    constructor
    · rintro ⟨j, hj, x, y⟩
      rw [e1] at x; rw [e2] at y
      by_cases ja : j = a
      · rw [if_pos ja] at x y; exact ⟨k, hk8, x, y⟩
      · rw [if_neg ja] at x y
        by_cases jk : j = k
        · rw [if_pos jk] at x; omega
        · rw [if_neg jk] at x y; exact ⟨j, hj, x, y⟩
    · rintro ⟨j, hj, x, y⟩
      by_cases jk : j = k
      · subst jk; exact ⟨a, ha8, by rw [e1, if_pos rfl]; exact x, by rw [e2, if_pos rfl]; exact y⟩
      · have ja : j ≠ a := by
          rintro rfl; have := hak jk; omega
        exact ⟨j, hj, by rw [e1, if_neg ja, if_neg jk]; exact x, by rw [e2, if_neg ja, if_neg jk]; exact y⟩
theorem invC_iter {t : List Int} (g : Good t) (i : Nat) (hi : i < 8) (h0 : tk t i ≠ 0) : ∀ n, n < endOff t i → InvC t i (endOff t i) n (iterC t i n)
  | 0, _ => invC_start g i hi h0
  | n + 1, h => invC_step (invC_iter g i hi h0 n (by omega)) hi h (endOff_spec g i hi h0).2.1
theorem closeF_inv {t : List Int} (g : Good t) (i : Nat) (hi : i < 8) (h0 : tk t i ≠ 0) : InvC t i (endOff t i) (endOff t i - 1) (closeF t i) :=
  invC_iter g i hi h0 _ (by have := (endOff_spec g i hi h0).1; omega)
theorem closeF_good {t : List Int} (g : Good t) (i : Nat) (hi : i < 8) (h0 : tk t i ≠ 0) : Good (closeF t i) := by
  have v := closeF_inv g i hi h0
  refine ⟨v.len, by have := v.cnt; have := g.few; omega, v.key0, v.key1, v.val0, v.val1, v.none, v.once, fun j hj h m hmm => ?_⟩
  rcases v.path j hj h m hmm with q | ⟨a, b, c⟩
  · exact q
  · omega
end Go.Proofs.YtacgihekdmoceaaDoor
end
section
namespace Go.Proofs.YtacgihekdmoceaaDoor
set_option linter.unusedVariables false
def peekA (t : List Int) (k : Int) : Int × Int := if thereB t k then (1, tv t (atI t k).toNat) else (4, 0)
def doT (t : List Int) (what key value : Int) : List Int × Int × Int :=
  if what = 6 then (t, 1, lenT t)
  else if (what ≠ 1 ∧ what ≠ 2 ∧ what ≠ 5) ∨ key < 1 ∨ 1000 < key then (t, 5, 0)
  else if what = 1 then (if thereB t key = false ∧ 6 ≤ lenT t then (t, 3, 0) else (setS t (atI t key).toNat key value, 1, 0))
  else if thereB t key = false then (t, 4, 0)
  else if what = 2 then (closeF t (atI t key).toNat, 1, tv t (atI t key).toNat) else (t, 1, tv t (atI t key).toNat)
def In (t : List Int) (k u : Int) : Prop := ∃ j, j < 8 ∧ tk t j = k ∧ tv t j = u
theorem peekA_yes {t : List Int} (g : Good t) {k u : Int} (hk : k ≠ 0) (h : In t k u) : peekA t k = (1, u) := by
  obtain ⟨j, hj, rfl, rfl⟩ := h
  unfold peekA
  rw [(g.there _ hk).2 ⟨j, hj, rfl⟩, if_pos rfl, g.val j hj hk]
theorem peekA_no {t : List Int} (g : Good t) {k : Int} (hk : k ≠ 0) (h : ∀ u, ¬ In t k u) : peekA t k = (4, 0) := by
  unfold peekA
  rw [if_neg]
  intro e
  obtain ⟨j, hj, e⟩ := (g.there _ hk).1 e
  exact h _ ⟨j, hj, e, rfl⟩
theorem peekA_or {t : List Int} (g : Good t) {k : Int} (hk : k ≠ 0) : (∃ u, In t k u ∧ peekA t k = (1, u) ∧ thereB t k = true) ∨ ((∀ u, ¬ In t k u) ∧ peekA t k = (4, 0) ∧ thereB t k = false) := by
  by_cases h : ∃ u, In t k u
  · obtain ⟨u, hu⟩ := h
    refine .inl ⟨u, hu, peekA_yes g hk hu, (g.there _ hk).2 ?_⟩
    obtain ⟨j, hj, a, _⟩ := hu
    exact ⟨j, hj, a⟩
  · have h' : ∀ u, ¬ In t k u := fun u hu => h ⟨u, hu⟩
    refine .inr ⟨h', peekA_no g hk h', ?_⟩
    cases e : thereB t k
    · rfl
    · obtain ⟨j, hj, e⟩ := (g.there _ hk).1 e
      exact absurd ⟨j, hj, e, rfl⟩ (h' _)
theorem peekA_congr {t t' : List Int} (g : Good t) (g' : Good t') {k : Int} (hk : k ≠ 0) (h : ∀ u, In t k u ↔ In t' k u) : peekA t k = peekA t' k := by
  rcases peekA_or g hk with ⟨u, a, b, _⟩ | ⟨a, b, _⟩
  · rw [b, peekA_yes g' hk ((h u).1 a)]
  · rw [b, peekA_no g' hk (fun u hu => a u ((h u).2 hu))]
theorem doT_peek {t : List Int} (k v : Int) (h1 : 1 ≤ k) (h2 : k ≤ 1000) : doT t 5 k v = (t, (peekA t k).1, (peekA t k).2) := by
  unfold doT peekA
  rw [if_neg (by omega), if_neg (by omega), if_neg (by omega)]
  cases thereB t k
  · simp
  · simp
theorem put_cases {t : List Int} (g : Good t) (k v : Int) (h1 : 1 ≤ k) (h2 : k ≤ 1000) (v0 : 0 ≤ v) (v1 : v ≤ 4294967295) :
    (doT t 1 k v = (t, 3, 0) ∧ lenT t = 6 ∧ peekA t k = (4, 0)) ∨
    (∃ u, doT t 1 k v = (u, 1, 0) ∧ Good u ∧ peekA u k = (1, v) ∧ (∀ l, l ≠ 0 → l ≠ k → peekA u l = peekA t l) ∧ ((peekA t k).1 = 4 ∧ lenT u = lenT t + 1 ∨ (peekA t k).1 = 1 ∧ lenT u = lenT t)) := by
  have hk0 : k ≠ 0 := by omega
  by_cases hf : thereB t k = false ∧ 6 ≤ lenT t
  · left
    refine ⟨?_, by have := g.few; omega, ?_⟩
    · unfold doT; rw [if_neg (by omega), if_neg (by omega), if_pos rfl, if_pos hf]
    · unfold peekA; rw [hf.1]; rfl
  · right
    have gp := g.put k v h1 h2 v0 v1 (by
      cases e : thereB t k
      · right; have : ¬ 6 ≤ lenT t := fun x => hf ⟨e, x⟩; omega
      · left; rfl)
    have ks := fun l hl u => g.put_keys k v h1 l hl u
    refine ⟨setS t (atI t k).toNat k v, ?_, gp, ?_, ?_, ?_⟩
    · unfold doT; rw [if_neg (by omega), if_neg (by omega), if_pos rfl, if_neg hf]
    · exact peekA_yes gp hk0 ((ks k hk0 v).2 (.inl ⟨rfl, rfl⟩))
    · intro l hl hlk
      refine peekA_congr gp g hl fun u => ?_
      refine (ks l hl u).trans ⟨?_, fun x => .inr ⟨hlk, x⟩⟩
      rintro (⟨x, _⟩ | ⟨_, x⟩)
      · exact absurd x hlk
      · exact x
    · obtain ⟨i, hi, ha, ho, -⟩ := g.at k
      have hl := len_setS t i k v g.len hi
      rw [if_neg hk0] at hl
      rw [ha, Int.toNat_natCast]
      by_cases e : tk t i = k
      · right
        have ht : thereB t k = true := by simp [thereB, ha, e]
        rw [if_neg (by omega)] at hl
        exact ⟨by unfold peekA; rw [ht]; rfl, by omega⟩
      · left
        have e0 : tk t i = 0 := by rcases ho with h | h; exact absurd h e; exact h
        have ht : thereB t k = false := by simp [thereB, ha, e0]; omega
        rw [if_pos e0] at hl
        exact ⟨by unfold peekA; rw [ht]; rfl, by omega⟩
theorem take_cases {t : List Int} (g : Good t) (k v : Int) (h1 : 1 ≤ k) (h2 : k ≤ 1000) :
    (peekA t k = (4, 0) ∧ doT t 2 k v = (t, 4, 0)) ∨
    (∃ u x, peekA t k = (1, x) ∧ doT t 2 k v = (u, 1, x) ∧ Good u ∧ peekA u k = (4, 0) ∧ (∀ l, l ≠ 0 → l ≠ k → peekA u l = peekA t l) ∧ lenT u + 1 = lenT t) := by
  have hk0 : k ≠ 0 := by omega
  rcases peekA_or g hk0 with ⟨x, hx, hp, ht⟩ | ⟨hx, hp, ht⟩
  · right
    obtain ⟨j, hj, rfl, rfl⟩ := hx
    have ha := g.found j hj hk0
    have gi := closeF_inv g j hj hk0
    have gc := closeF_good g j hj hk0
    refine ⟨closeF t j, tv t j, hp, ?_, gc, ?_, ?_, gi.cnt⟩
    · unfold doT; rw [if_neg (by omega), if_neg (by omega), if_neg (by omega), ht, if_neg (by simp), if_pos rfl, ha]; rfl
    · exact peekA_no gc hk0 fun u hu => ((gi.same _ hk0 u).1 hu).1 rfl
    · intro l hl hlk
      exact peekA_congr gc g hl fun u => (gi.same l hl u).trans ⟨fun h => h.2, fun h => ⟨hlk, h⟩⟩
  · left
    refine ⟨hp, ?_⟩
    unfold doT; rw [if_neg (by omega), if_neg (by omega), if_neg (by omega), if_pos ht]
theorem doT_good {t : List Int} (g : Good t) (w k v : Int) (v0 : 0 ≤ v) (v1 : v ≤ 4294967295) : Good (doT t w k v).1 := by
  by_cases h6 : w = 6
  · unfold doT; rw [if_pos h6]; exact g
  by_cases hw : (w ≠ 1 ∧ w ≠ 2 ∧ w ≠ 5) ∨ k < 1 ∨ 1000 < k
  · unfold doT; rw [if_neg h6, if_pos hw]; exact g
  by_cases w1 : w = 1
  · subst w1
    rcases put_cases g k v (by omega) (by omega) v0 v1 with ⟨e, -⟩ | ⟨u, e, gu, -⟩
    · rw [e]; exact g
    · rw [e]; exact gu
  by_cases w2 : w = 2
  · subst w2
    rcases take_cases g k v (by omega) (by omega) with ⟨-, e⟩ | ⟨u, x, -, e, gu, -⟩
    · rw [e]; exact g
    · rw [e]; exact gu
  · obtain rfl : w = 5 := by omega
    rw [doT_peek k v (by omega) (by omega)]; exact g
/-- One key more, one less, or as many; and what is not Done changes nothing. -/
theorem doT_stays {t : List Int} (g : Good t) (w k v : Int) (v0 : 0 ≤ v) (v1 : v ≤ 4294967295) :
    (lenT (doT t w k v).1 : Int) - lenT t ≤ 1 ∧ -1 ≤ (lenT (doT t w k v).1 : Int) - lenT t ∧ ((doT t w k v).2.1 = 1 ∨ (doT t w k v).1 = t) := by
  by_cases h6 : w = 6
  · unfold doT; rw [if_pos h6]; exact ⟨by dsimp only; omega, by dsimp only; omega, .inl rfl⟩
  by_cases hw : (w ≠ 1 ∧ w ≠ 2 ∧ w ≠ 5) ∨ k < 1 ∨ 1000 < k
  · unfold doT; rw [if_neg h6, if_pos hw]; exact ⟨by dsimp only; omega, by dsimp only; omega, .inr rfl⟩
  by_cases w1 : w = 1
  · subst w1
    rcases put_cases g k v (by omega) (by omega) v0 v1 with ⟨e, -⟩ | ⟨u, e, gu, -, -, h⟩
    · rw [e]; exact ⟨by dsimp only; omega, by dsimp only; omega, .inr rfl⟩
    · rw [e]; exact ⟨by dsimp only; omega, by dsimp only; omega, .inl rfl⟩
  by_cases w2 : w = 2
  · subst w2
    rcases take_cases g k v (by omega) (by omega) with ⟨-, e⟩ | ⟨u, x, -, e, gu, -, -, h⟩
    · rw [e]; exact ⟨by dsimp only; omega, by dsimp only; omega, .inr rfl⟩
    · rw [e]; exact ⟨by dsimp only; omega, by dsimp only; omega, .inl rfl⟩
  · obtain rfl : w = 5 := by omega
    rw [doT_peek k v (by omega) (by omega)]; exact ⟨by dsimp only; omega, by dsimp only; omega, .inr rfl⟩
end Go.Proofs.YtacgihekdmoceaaDoor
end
section
namespace Go.Proofs.YtacgihekdmoceaaDoor
set_option linter.unusedVariables false
def hp (xs : List Int) (i : Nat) : Int := xs.getD i 0
def swp (xs : List Int) (i j : Nat) : List Int := (xs.set i (hp xs j)).set j (hp xs i)
def upF : Nat → List Int → Nat → List Int
  | 0, xs, _ => xs
  | f + 1, xs, i => if 0 < i ∧ hp xs i < hp xs ((i - 1) / 2) then upF f (swp xs i ((i - 1) / 2)) ((i - 1) / 2) else xs
def kid (xs : List Int) (i : Nat) : Nat := if 2 * i + 2 < xs.length ∧ hp xs (2 * i + 2) < hp xs (2 * i + 1) then 2 * i + 2 else 2 * i + 1
def downF : Nat → List Int → Nat → List Int
  | 0, xs, _ => xs
  | f + 1, xs, i => if xs.length ≤ kid xs i ∨ hp xs i ≤ hp xs (kid xs i) then xs else downF f (swp xs i (kid xs i)) (kid xs i)
def IsHeap (xs : List Int) : Prop := ∀ j, 0 < j → j < xs.length → hp xs ((j - 1) / 2) ≤ hp xs j
theorem swp_length (xs : List Int) (i j : Nat) : (swp xs i j).length = xs.length := by simp [swp]
theorem hp_swp (xs : List Int) (i j k : Nat) (hi : i < xs.length) (hj : j < xs.length) : hp (swp xs i j) k = if k = j then hp xs i else if k = i then hp xs j else hp xs k := by
  unfold hp swp
  rw [List.getD_eq_getElem?_getD, List.getElem?_set, List.getElem?_set]
  by_cases h : k = j
  · subst h; simp [hj, hp]
  · rw [if_neg (fun e => h e.symm), if_neg h]
    by_cases h' : k = i
    · subst h'; simp [hi, hp]
    · rw [if_neg (fun e => h' e.symm), if_neg h', List.getD_eq_getElem?_getD]
theorem swp_perm (xs : List Int) (i j : Nat) (hi : i < xs.length) (hj : j < xs.length) : (swp xs i j).Perm xs := by
  have h := Array.swap_perm (xs := xs.toArray) (i := i) (j := j) (by simpa using hi) (by simpa using hj)
  have h2 := Array.perm_iff_toList_perm.1 h
  have e : (xs.toArray.swap i j (by simpa using hi) (by simpa using hj)).toList = swp xs i j := by
    simp [Array.swap, swp, hp, List.getD_eq_getElem?_getD, hi, hj]
  rw [e] at h2
  simpa using h2
theorem upF_length (f : Nat) : ∀ (xs : List Int) (i : Nat), (upF f xs i).length = xs.length := by
  induction f with
  | zero => intro xs i; rfl
  | succ f ih => intro xs i; simp only [upF]; split; · rw [ih, swp_length]
                 · rfl
theorem downF_length (f : Nat) : ∀ (xs : List Int) (i : Nat), (downF f xs i).length = xs.length := by
  induction f with
  | zero => intro xs i; rfl
  | succ f ih => intro xs i; simp only [downF]; split; · rfl
                 · rw [ih, swp_length]
theorem upF_perm (f : Nat) : ∀ (xs : List Int) (i : Nat), i < xs.length → (upF f xs i).Perm xs := by
  induction f with
  | zero => intro xs i _; exact List.Perm.refl _
  | succ f ih =>
    intro xs i hi
    simp only [upF]
    split
    · exact (ih _ _ (by rw [swp_length]; omega)).trans (swp_perm xs i _ hi (by omega))
    · exact List.Perm.refl _
theorem downF_perm (f : Nat) : ∀ (xs : List Int) (i : Nat), i < xs.length → (downF f xs i).Perm xs := by
  induction f with
  | zero => intro xs i _; exact List.Perm.refl _
  | succ f ih =>
    intro xs i hi
    simp only [downF]
    split
    · exact List.Perm.refl _
    · rename_i h
      exact (ih _ _ (by rw [swp_length]; omega)).trans (swp_perm xs i _ hi (by omega))
/-- The parent relation holds everywhere but at i. -/
def UpInv (xs : List Int) (i : Nat) : Prop := (∀ j, 0 < j → j < xs.length → j ≠ i → hp xs ((j - 1) / 2) ≤ hp xs j) ∧ (∀ j, 0 < j → j < xs.length → (j - 1) / 2 = i → 0 < i → hp xs ((i - 1) / 2) ≤ hp xs j)
theorem upF_heap (f : Nat) : ∀ (xs : List Int) (i : Nat), i < xs.length → i ≤ f → UpInv xs i → IsHeap (upF f xs i) := by
  induction f with
  | zero =>
    intro xs i hi hf h
    obtain rfl : i = 0 := by omega
    intro j h0 hj
    exact h.1 j h0 hj (by omega)
  | succ f ih =>
    intro xs i hi hf h
    simp only [upF]
    split
    · rename_i hc
      obtain ⟨hc0, hc1⟩ := hc
      have hp' : (i - 1) / 2 < xs.length := by omega
      refine ih _ _ (by rw [swp_length]; omega) (by omega) ⟨fun j h0 hj hne => ?_, fun j h0 hj hpar hi0 => ?_⟩
      · rw [swp_length] at hj
        rw [hp_swp _ _ _ _ hi hp', hp_swp _ _ _ _ hi hp']
        have e1 : (j = (i - 1) / 2) = False := by simp; exact hne
        simp only [e1, if_false]
        by_cases hji : j = i
        · subst hji; simp only [if_true]; omega
        · simp only [hji, if_false]
          by_cases hpi : (j - 1) / 2 = (i - 1) / 2
          · simp only [hpi, if_true]; have := h.1 j h0 hj hji; rw [hpi] at this; omega
          · simp only [hpi, if_false]
            by_cases hp2 : (j - 1) / 2 = i
            · simp only [hp2, if_true]; exact h.2 j h0 hj hp2 hc0
            · simp only [hp2, if_false]; exact h.1 j h0 hj hji
      · rw [swp_length] at hj
        rw [hp_swp _ _ _ _ hi hp', hp_swp _ _ _ _ hi hp']
        have e1 : ¬ ((i - 1) / 2 - 1) / 2 = (i - 1) / 2 := by omega
        have e2 : ¬ ((i - 1) / 2 - 1) / 2 = i := by omega
        have e3 : ¬ j = (i - 1) / 2 := by omega
        simp only [e1, e2, e3, if_false]
        have hg := h.1 ((i - 1) / 2) hi0 hp' (by omega)
        by_cases hji : j = i
        · simp only [hji, if_true]; exact hg
        · simp only [hji, if_false]
          have := h.1 j h0 hj hji
          rw [hpar] at this; omega
    · rename_i hc
      intro j h0 hj
      by_cases hji : j = i
      · subst hji; omega
      · exact h.1 j h0 hj hji
/-- The parent relation holds everywhere but under i. -/
def DownInv (xs : List Int) (i : Nat) : Prop := (∀ j, 0 < j → j < xs.length → (j - 1) / 2 ≠ i → hp xs ((j - 1) / 2) ≤ hp xs j) ∧ (∀ j, 0 < j → j < xs.length → (j - 1) / 2 = i → 0 < i → hp xs ((i - 1) / 2) ≤ hp xs j)
theorem kid_cases (xs : List Int) (i : Nat) : (kid xs i = 2 * i + 1 ∨ kid xs i = 2 * i + 2) ∧ (kid xs i < xs.length → ∀ j, 0 < j → j < xs.length → (j - 1) / 2 = i → hp xs (kid xs i) ≤ hp xs j) ∧ (xs.length ≤ kid xs i → xs.length ≤ 2 * i + 1) := by
  unfold kid
  split
  · rename_i h
    refine ⟨.inr rfl, fun _ j h0 hj hp => ?_, fun _ => by omega⟩
    obtain rfl | rfl : j = 2 * i + 1 ∨ j = 2 * i + 2 := by omega
    · omega
    · omega
  · rename_i h
    refine ⟨.inl rfl, fun _ j h0 hj hp => ?_, fun _ => by omega⟩
    obtain rfl | rfl : j = 2 * i + 1 ∨ j = 2 * i + 2 := by omega
    · omega
    · omega
theorem downF_heap (f : Nat) : ∀ (xs : List Int) (i : Nat), xs.length ≤ i + f → DownInv xs i → IsHeap (downF f xs i) := by
  induction f with
  | zero =>
    intro xs i hf h j h0 hj
    simp only [downF] at *
    exact h.1 j h0 hj (by omega)
  | succ f ih =>
    intro xs i hf h
    obtain ⟨k1, k2, k3⟩ := kid_cases xs i
    simp only [downF]
    split
    · rename_i hc
      intro j h0 hj
      by_cases hji : (j - 1) / 2 = i
      · rcases hc with hc | hc
        · have := k3 hc; omega
        · rcases Nat.lt_or_ge (kid xs i) xs.length with hk | hk
          · have := k2 hk j h0 hj hji; rw [hji]; omega
          · have := k3 hk; omega
      · exact h.1 j h0 hj hji
    · rename_i hc
      have hk : kid xs i < xs.length := by omega
      have hlt : hp xs (kid xs i) < hp xs i := by omega
      have k2 := k2 hk
      generalize kid xs i = k at *
      have hi : i < xs.length := by omega
      refine ih _ _ (by rw [swp_length]; omega) ⟨fun j h0 hj hne => ?_, fun j h0 hj hpar hk0 => ?_⟩
      · rw [swp_length] at hj
        rw [hp_swp _ _ _ _ hi hk, hp_swp _ _ _ _ hi hk]
        rw [if_neg hne]
        by_cases hjk : j = k
        · subst hjk
          rw [if_pos rfl, if_pos (by omega)]; omega
        · rw [if_neg hjk]
          by_cases hji : j = i
          · subst hji
            rw [if_pos rfl, if_neg (by omega)]
            exact h.2 k (by omega) hk (by omega) (by omega)
          · rw [if_neg hji]
            by_cases hpi : (j - 1) / 2 = i
            · rw [if_pos hpi]; exact k2 j h0 hj hpi
            · rw [if_neg hpi]; exact h.1 j h0 hj hpi
      · rw [swp_length] at hj
        rw [hp_swp _ _ _ _ hi hk, hp_swp _ _ _ _ hi hk]
        rw [if_neg (by omega), if_pos (by omega), if_neg (by omega), if_neg (by omega)]
        have := h.1 j h0 hj (by omega)
        rw [hpar] at this; exact this
end Go.Proofs.YtacgihekdmoceaaDoor
end
section
namespace Go.Proofs.YtacgihekdmoceaaDoor
set_option linter.unusedVariables false
def heapR (xs : List Int) (k x : Int) : List Int × Int × Int :=
  if k = 1 then (if 6 ≤ xs.length then (xs, 3, 0) else (upF xs.length (xs ++ [x]) xs.length, 1, 0))
  else if k = 2 ∨ k = 5 then (if xs.length = 0 then (xs, 2, 0) else if k = 5 then (xs, 1, hp xs 0) else (downF (xs.length - 1) ((xs.set 0 (hp xs (xs.length - 1))).take (xs.length - 1)) 0, 1, hp xs 0))
  else if k = 6 then (xs, 1, xs.length) else (xs, 5, 0)
theorem heap_min {xs : List Int} (h : IsHeap xs) : ∀ j, j < xs.length → hp xs 0 ≤ hp xs j := by
  intro j
  induction j using Nat.strongRecOn with
  | ind j ih =>
    intro hj
    by_cases h0 : j = 0
    · subst h0; exact Int.le_refl _
    · have h1 := h j (by omega) hj
      have h2 := ih ((j - 1) / 2) (by omega) (by omega)
      omega
theorem hp_append_left (xs ys : List Int) (j : Nat) (h : j < xs.length) : hp (xs ++ ys) j = hp xs j := by
  unfold hp; rw [List.getD_eq_getElem?_getD, List.getD_eq_getElem?_getD, List.getElem?_append_left h]
theorem put_inv {xs : List Int} (h : IsHeap xs) (x : Int) : UpInv (xs ++ [x]) xs.length := by
  refine ⟨fun j h0 hj hne => ?_, fun j h0 hj hp _ => ?_⟩
  · simp at hj
    rw [hp_append_left _ _ _ (by omega), hp_append_left _ _ _ (by omega)]
    exact h j h0 (by omega)
  · simp at hj; omega
theorem take_hp (xs : List Int) (v : Int) (n j : Nat) (hj : j < n) (h0 : 0 < j) : hp ((xs.set 0 v).take n) j = hp xs j := by
  unfold hp
  rw [List.getD_eq_getElem?_getD, List.getD_eq_getElem?_getD, List.getElem?_take, if_pos hj, List.getElem?_set, if_neg (by omega)]
theorem take_inv {xs : List Int} (h : IsHeap xs) (v : Int) (n : Nat) (hn : n ≤ xs.length) : DownInv ((xs.set 0 v).take n) 0 := by
  refine ⟨fun j h0 hj hne => ?_, fun j h0 hj hp hc => by omega⟩
  simp at hj
  rw [take_hp _ _ _ _ (by omega) (by omega), take_hp _ _ _ _ (by omega) h0]
  exact h j h0 (by omega)
theorem take_perm (xs : List Int) (hx : xs.length ≠ 0) : (hp xs 0 :: (xs.set 0 (hp xs (xs.length - 1))).take (xs.length - 1)).Perm xs := by
  cases xs with
  | nil => simp at hx
  | cons a t =>
    show (a :: _).Perm (a :: t)
    refine List.Perm.cons a ?_
    rcases List.eq_nil_or_concat t with rfl | ⟨u, b, ht⟩
    · simp
    · rw [List.concat_eq_append] at ht
      subst ht
      have e : hp (a :: (u ++ [b])) ((a :: (u ++ [b])).length - 1) = b := by simp [hp, List.getD_eq_getElem?_getD]
      rw [e]
      have e2 : ((a :: (u ++ [b])).set 0 b).take ((a :: (u ++ [b])).length - 1) = b :: u := by simp
      rw [e2]
      exact (List.perm_append_comm (l₁ := [b]) (l₂ := u))
theorem heapR_heap {xs : List Int} (h : IsHeap xs) (k x : Int) : IsHeap (heapR xs k x).1 := by
  unfold heapR
  split
  · split
    · exact h
    · exact upF_heap _ _ _ (by simp) (Nat.le_refl _) (put_inv h x)
  · split
    · split
      · exact h
      · split
        · exact h
        · exact downF_heap _ _ _ (by simp) (take_inv h _ _ (by omega))
    · split <;> exact h
theorem heapR_put (xs : List Int) (x : Int) (h : xs.length < 6) : ∃ ys, heapR xs 1 x = (ys, 1, 0) ∧ ys.Perm (x :: xs) ∧ ys.length = xs.length + 1 := by
  refine ⟨_, by unfold heapR; rw [if_pos rfl, if_neg (by omega)], (upF_perm _ _ _ (by simp)).trans (List.perm_append_comm (l₁ := xs) (l₂ := [x])), by rw [upF_length]; simp⟩
theorem heapR_take (xs : List Int) (x : Int) (h : xs.length ≠ 0) : ∃ ys, heapR xs 2 x = (ys, 1, hp xs 0) ∧ (hp xs 0 :: ys).Perm xs ∧ ys.length = xs.length - 1 := by
  refine ⟨_, by unfold heapR; rw [if_neg (by decide), if_pos (.inl rfl), if_neg h, if_neg (by decide)], ?_, by rw [downF_length]; simp⟩
  refine List.Perm.trans (List.Perm.cons _ ?_) (take_perm xs h)
  by_cases h1 : xs.length - 1 = 0
  · rw [h1]; exact List.Perm.refl _
  · exact downF_perm _ _ _ (by simp; omega)
end Go.Proofs.YtacgihekdmoceaaDoor
end
section
namespace Go.Proofs.YtacgihekdmoceaaDoor
set_option linter.unusedVariables false
theorem hp_mem {xs : List Int} (h : 0 < xs.length) : hp xs 0 ∈ xs := by
  cases xs with
  | nil => simp at h
  | cons a t => simp [hp]
theorem heap_le_mem {xs : List Int} (h : IsHeap xs) : ∀ v ∈ xs, hp xs 0 ≤ v := by
  intro v hv
  obtain ⟨j, hj, rfl⟩ := List.mem_iff_getElem.1 hv
  have := heap_min h j hj
  simpa [hp, List.getD_eq_getElem?_getD, hj] using this
theorem heap_rises {xs : List Int} (h : IsHeap xs) (hl : 2 ≤ xs.length) :
    ∃ ys zs, heapR xs 2 0 = (ys, 1, hp xs 0) ∧ ys.length = xs.length - 1 ∧ heapR ys 2 0 = (zs, 1, hp ys 0) ∧ hp xs 0 ≤ hp ys 0 := by
  obtain ⟨ys, e, p, l⟩ := heapR_take xs 0 (by omega)
  obtain ⟨zs, e2, p2, l2⟩ := heapR_take ys 0 (by omega)
  exact ⟨ys, zs, e, l, e2, heap_le_mem h _ (p.subset (List.mem_cons_of_mem _ (hp_mem (by omega))))⟩
/-- Taken from a heap that has the same numbers as a sorted list: its first one, and then its rest. -/
theorem heap_pops {xs : List Int} (h : IsHeap xs) {a : Int} {s : List Int} (hp' : xs.Perm (a :: s)) (hs : (a :: s).Pairwise (· ≤ ·)) :
    ∃ ys, heapR xs 2 0 = (ys, 1, a) ∧ IsHeap ys ∧ ys.Perm s := by
  have hl := hp'.length_eq
  obtain ⟨ys, e, p, l⟩ := heapR_take xs 0 (by simp at hl; omega)
  have h1 : hp xs 0 ≤ a := heap_le_mem h a (hp'.symm.subset List.mem_cons_self)
  have h2 : a ≤ hp xs 0 := by
    have hm := hp'.subset (hp_mem (xs := xs) (by simp at hl; omega))
    rcases List.mem_cons.1 hm with hm | hm
    · omega
    · exact (List.pairwise_cons.1 hs).1 _ hm
  have ha : hp xs 0 = a := by omega
  rw [ha] at e p
  refine ⟨ys, e, ?_, List.Perm.cons_inv (p.trans hp')⟩
  have := heapR_heap h 2 0
  rw [e] at this; exact this
end Go.Proofs.YtacgihekdmoceaaDoor
end
section
namespace Go.Proofs.YtacgihekdmoceaaDoor
set_option linter.unusedVariables false
def deqR (xs : List Int) (k x : Int) : List Int × Int × Int :=
  if k = 1 ∨ k = 3 then (if 6 ≤ xs.length then (xs, 3, 0) else if k = 1 then (xs ++ [x], 1, 0) else (x :: xs, 1, 0))
  else if k = 2 ∨ k = 4 ∨ k = 5 then (if xs.length = 0 then (xs, 2, 0) else if k = 5 then (xs, 1, xs.getD 0 0) else if k = 4 then (xs.eraseIdx (xs.length - 1), 1, xs.getD (xs.length - 1) 0) else (xs.eraseIdx 0, 1, xs.getD 0 0))
  else if k = 6 then (xs, 1, xs.length) else (xs, 5, 0)
def queR (xs : List Int) (k x : Int) : List Int × Int × Int :=
  if k = 1 then (if 6 ≤ xs.length then (xs, 3, 0) else (xs ++ [x], 1, 0))
  else if k = 2 ∨ k = 5 then (if xs.length = 0 then (xs, 2, 0) else if k = 5 then (xs, 1, xs.getD 0 0) else (xs.tail, 1, xs.getD 0 0))
  else if k = 6 then (xs, 1, xs.length) else (xs, 5, 0)
def stkR (xs : List Int) (k x : Int) : List Int × Int × Int :=
  if k = 1 then (if 6 ≤ xs.length then (xs, 3, 0) else (xs ++ [x], 1, 0))
  else if k = 2 ∨ k = 5 then (if xs.length = 0 then (xs, 2, 0) else if k = 5 then (xs, 1, xs.getD (xs.length - 1) 0) else (xs.take (xs.length - 1), 1, xs.getD (xs.length - 1) 0))
  else if k = 6 then (xs, 1, xs.length) else (xs, 5, 0)
def okAt (t : List Int) (j : Nat) : Bool := decide (0 ≤ tv t j ∧ tv t j ≤ 4294967295 ∧ (tk t j = 0 → tv t j = 0) ∧ (tk t j ≠ 0 → atI t (tk t j) = j))
def okTo (t : List Int) : Nat → Bool
  | 0 => true
  | k + 1 => okTo t k && okAt t k
def rightB (t : List Int) : Bool := decide (lenT t ≤ 6) && okTo t 8
theorem okTo_iff (t : List Int) (n : Nat) : okTo t n = true ↔ ∀ j, j < n → okAt t j = true := by
  induction n with
  | zero => simp [okTo]
  | succ n ih =>
    simp only [okTo, Bool.and_eq_true, ih]
    constructor
    · rintro ⟨a, b⟩ j hj
      by_cases h : j = n
      · subst h; exact b
      · exact a j (by omega)
    · intro h; exact ⟨fun j hj => h j (by omega), h n (by omega)⟩
theorem okTo_false (t : List Int) (k n : Nat) (h : okAt t k = false) (hk : k < n) : okTo t n = false := by
  cases e : okTo t n
  · rfl
  · have := (okTo_iff t n).1 e k hk; rw [h] at this; cases this
theorem rightB_iff (t : List Int) (hl : t.length = 16) (hk : ∀ j, j < 8 → 0 ≤ tk t j ∧ tk t j ≤ 1000) : rightB t = true ↔ Good t := by
  unfold rightB
  rw [Bool.and_eq_true, decide_eq_true_eq, okTo_iff]
  constructor
  · rintro ⟨a, b⟩
    refine Good.mk' hl a fun i hi => ?_
    have := b i hi
    simp only [okAt, decide_eq_true_eq] at this
    exact ⟨(hk i hi).1, (hk i hi).2, this.1, this.2.1, this.2.2.1, this.2.2.2⟩
  · intro g
    refine ⟨g.few, fun j hj => ?_⟩
    simp only [okAt, decide_eq_true_eq]
    exact ⟨g.val0 j hj, g.val1 j hj, g.none j hj, g.found j hj⟩
def heapTo (xs : List Int) : Nat → Bool
  | 0 => true
  | j + 1 => heapTo xs j && decide (j = 0 ∨ hp xs ((j - 1) / 2) ≤ hp xs j)
theorem heapTo_iff (xs : List Int) (n : Nat) : heapTo xs n = true ↔ ∀ j, 0 < j → j < n → hp xs ((j - 1) / 2) ≤ hp xs j := by
  induction n with
  | zero => simp [heapTo]
  | succ n ih =>
    simp only [heapTo, Bool.and_eq_true, ih, decide_eq_true_eq]
    constructor
    · rintro ⟨a, b⟩ j h0 hj
      by_cases e : j = n
      · subst e; rcases b with b | b
        · omega
        · exact b
      · exact a j h0 (by omega)
    · intro h
      exact ⟨fun j h0 hj => h j h0 (by omega), by by_cases e : n = 0; exact .inl e; exact .inr (h n (by omega) (by omega))⟩
def heapB (xs : List Int) : Bool := heapTo xs xs.length && decide (xs.length ≤ 6)
theorem heapB_iff (xs : List Int) : heapB xs = true ↔ IsHeap xs ∧ xs.length ≤ 6 := by
  unfold heapB; rw [Bool.and_eq_true, heapTo_iff, decide_eq_true_eq]; exact Iff.rfl
theorem heapTo_bad (xs : List Int) (j n : Nat) (h : heapTo xs j = false) (hj : j ≤ n) : heapTo xs n = false := by
  cases e : heapTo xs n
  · rfl
  · have := (heapTo_iff xs j).2 (fun i a b => (heapTo_iff xs n).1 e i a (by omega)); rw [h] at this; cases this
def tallyR (n k v : Int) : Int := if k = 1 then (if 4294967295 - n < v then n else n + v) else if k = 2 then (if n < v then n else n - v) else n
def tallyC (n k v : Int) : Int := if k = 1 then (if 4294967295 - n < v then 3 else 1) else if k = 2 then (if n < v then 2 else 1) else if k = 5 ∨ k = 6 then 1 else 5
def tallyV (n k v : Int) : Int := if k = 1 then (if 4294967295 - n < v then 0 else n) else if k = 2 then (if n < v then 0 else n) else if k = 5 ∨ k = 6 then n else 0
theorem tallyR_lo (n k v : Int) (h0 : 0 ≤ n) (h2 : 0 ≤ v) : 0 ≤ tallyR n k v := by unfold tallyR; split <;> split <;> omega
theorem tallyR_hi (n k v : Int) (h1 : n ≤ 4294967295) (h2 : 0 ≤ v) : tallyR n k v ≤ 4294967295 := by unfold tallyR; split <;> split <;> omega
def opOk (a b c : Int) : Bool := decide (1 ≤ a ∧ a ≤ 6 ∧ 0 ≤ b ∧ b ≤ 1000 ∧ 0 ≤ c ∧ c ≤ 4294967295)
/-- A list as seventeen words. -/
def lstC (l : List Int) : List Int := (l.length : Int) :: (l ++ List.replicate (16 - l.length) 0)
theorem lstC_len (l : List Int) (h : l.length ≤ 16) : (lstC l).length = 17 := by simp [lstC]; omega
theorem lstC_get (l : List Int) (i : Nat) (h : i < 16) (hl : l.length ≤ 16) : (lstC l)[i + 1]? = some (l.getD i 0) := by
  simp only [lstC, List.getElem?_cons_succ, List.getElem?_append, List.getElem?_replicate, List.getD_eq_getElem?_getD]
  by_cases hi : i < l.length
  · rw [if_pos hi, List.getElem?_eq_getElem hi]; rfl
  · rw [if_neg hi, if_pos (by omega), List.getElem?_eq_none (by omega)]; rfl
theorem lstC_inj {l l' : List Int} (h : lstC l = lstC l') : l = l' := by
  simp only [lstC, List.cons.injEq] at h
  have hl : l.length = l'.length := by omega
  rw [hl] at h
  exact List.append_cancel_right h.2
/-- Values that may be. -/
def InR (l : List Int) : Prop := ∀ v ∈ l, 0 ≤ v ∧ v ≤ 4294967295
def lstR (kind : Int) (xs : List Int) (k x : Int) : List Int × Int × Int :=
  if kind = 1 then queR xs k x else if kind = 2 then stkR xs k x else if kind = 3 then deqR xs k x else heapR xs k x
/-- Words that are an object of a kind. -/
def ObjOK (kind : Int) (c : List Int) : Prop :=
  (1 ≤ kind ∧ kind ≤ 4 ∧ ∃ l, c = lstC l ∧ l.length ≤ 6 ∧ InR l ∧ (kind = 4 → IsHeap l)) ∨
  (kind = 5 ∧ ∃ t, c = t ++ [0] ∧ Good t) ∨
  (kind = 6 ∧ ∃ n : Int, c = n :: List.replicate 16 0 ∧ 0 ≤ n ∧ n ≤ 4294967295)
/-- What an operation makes of an object. -/
def objR (kind : Int) (c : List Int) (k key x : Int) : List Int × Int × Int :=
  if kind = 5 then ((doT (c.take 16) k key x).1 ++ [0], (doT (c.take 16) k key x).2)
  else if kind = 6 then (tallyR (c.getD 0 0) k x :: List.replicate 16 0, tallyC (c.getD 0 0) k x, tallyV (c.getD 0 0) k x)
  else (lstC (lstR kind ((c.drop 1).take (c.getD 0 0).toNat) k x).1, (lstR kind ((c.drop 1).take (c.getD 0 0).toNat) k x).2)
theorem objR_list (kind : Int) (l : List Int) (k key x : Int) (h1 : 1 ≤ kind) (h4 : kind ≤ 4) : objR kind (lstC l) k key x = (lstC (lstR kind l k x).1, (lstR kind l k x).2) := by
  unfold objR
  rw [if_neg (by omega), if_neg (by omega)]
  have e : ((lstC l).drop 1).take ((lstC l).getD 0 0).toNat = l := by simp [lstC]
  rw [e]
theorem objR_table (t : List Int) (g : Good t) (k key x : Int) : objR 5 (t ++ [0]) k key x = ((doT t k key x).1 ++ [0], (doT t k key x).2) := by
  unfold objR
  have e : (t ++ [(0 : Int)]).take 16 = t := by rw [← g.len]; simp
  rw [if_pos rfl, e]
theorem objR_tally (n : Int) (k key x : Int) : objR 6 (n :: List.replicate 16 0) k key x = (tallyR n k x :: List.replicate 16 0, tallyC n k x, tallyV n k x) := by
  unfold objR; rw [if_neg (by decide), if_pos rfl]; rfl
theorem InR.append {l : List Int} (h : InR l) {x : Int} (h0 : 0 ≤ x) (h1 : x ≤ 4294967295) : InR (l ++ [x]) := by
  intro v hv
  rcases List.mem_append.1 hv with hv | hv
  · exact h v hv
  · simp at hv; omega
theorem InR.cons {l : List Int} (h : InR l) {x : Int} (h0 : 0 ≤ x) (h1 : x ≤ 4294967295) : InR (x :: l) := by
  intro v hv
  rcases List.mem_cons.1 hv with rfl | hv
  · exact ⟨h0, h1⟩
  · exact h v hv
theorem InR.sub {l l' : List Int} (h : InR l) (hs : ∀ v ∈ l', v ∈ l) : InR l' := fun v hv => h v (hs v hv)
theorem InR.get {l : List Int} (h : InR l) (i : Nat) (hi : i < l.length) : 0 ≤ l.getD i 0 ∧ l.getD i 0 ≤ 4294967295 := by
  rw [List.getD_eq_getElem?_getD, List.getElem?_eq_getElem hi]; exact h _ (List.getElem_mem hi)
/-- The answer fits. -/
def AnsOK (c v : Int) : Prop := 1 ≤ c ∧ c ≤ 5 ∧ 0 ≤ v ∧ v ≤ 4294967295 ∧ (c = 1 ∨ v = 0)
/-- What is the same of all lists: the answer and the size. -/
structure ListLaw (l : List Int) (k x : Int) (r : List Int × Int × Int) : Prop where
  len : r.1.length ≤ 6
  inr : InR r.1
  ans : AnsOK r.2.1 r.2.2
  same : (r.2.1 ≠ 1 ∨ k = 5 ∨ k = 6) → r.1 = l
  out : r.2.1 = 1 → (k = 2 ∨ k = 4) → r.1.length + 1 = l.length
  into : r.2.1 = 1 → (k = 1 ∨ k = 3) → r.1.length = l.length + 1
  empty : k = 2 → (r.2.1 = 2 ↔ l.length = 0)
  done2 : k = 2 → l.length ≠ 0 → r.2.1 = 1
  full : k = 1 → (r.2.1 = 3 ↔ l.length = 6)
  done1 : k = 1 → l.length ≠ 6 → r.2.1 = 1
  count : k = 6 → r.2 = (1, (l.length : Int))
theorem stk_law (l : List Int) (k x : Int) (hl : l.length ≤ 6) (hr : InR l) (h0 : 0 ≤ x) (h1 : x ≤ 4294967295) (ho : 1 ≤ k ∧ k ≤ 6) : ListLaw l k x (stkR l k x) ∧ ((stkR l k x).2.1 = 5 ↔ (k = 3 ∨ k = 4)) := by
  unfold stkR
  by_cases c1 : k = 1
  · subst c1; rw [if_pos rfl]
    by_cases c6 : 6 ≤ l.length
    · rw [if_pos c6]; exact ⟨⟨hl, hr, (by unfold AnsOK; dsimp only; omega), fun _ => rfl, by simp, by simp, by simp, by simp, fun _ => ⟨fun _ => by omega, fun _ => rfl⟩, fun _ h => by omega, by simp⟩, by simp⟩
    · rw [if_neg c6]; exact ⟨⟨by simp; omega, hr.append h0 h1, (by unfold AnsOK; dsimp only; omega), by simp, by simp, by simp, by simp, by simp, fun _ => ⟨by simp, fun h => by omega⟩, fun _ _ => rfl, by simp⟩, by simp⟩
  rw [if_neg c1]
  by_cases c2 : k = 2 ∨ k = 5
  · rw [if_pos c2]
    by_cases c0 : l.length = 0
    · rw [if_pos c0]; exact ⟨⟨hl, hr, (by unfold AnsOK; dsimp only; omega), fun _ => rfl, by simp, by simp, fun _ => ⟨fun _ => c0, fun _ => rfl⟩, fun _ h => absurd c0 h, fun h => absurd h c1, fun h => absurd h c1, fun h => by omega⟩, ⟨by simp, fun h => by omega⟩⟩
    · rw [if_neg c0]
      have hg := hr.get (l.length - 1) (by omega)
      by_cases c5 : k = 5
      · rw [if_pos c5]; exact ⟨⟨hl, hr, (by unfold AnsOK; dsimp only; omega), fun _ => rfl, fun _ h => by omega, fun _ h => by omega, fun h => by omega, fun h => by omega, fun h => by omega, fun h => by omega, fun h => by omega⟩, ⟨by simp, fun h => by omega⟩⟩
      · rw [if_neg c5]; exact ⟨⟨by simp; omega, hr.sub (fun v hv => List.mem_of_mem_take hv), (by unfold AnsOK; dsimp only; omega), fun h => by simp at h; omega, fun _ _ => by simp; omega, fun _ h => by omega, fun _ => ⟨by simp, fun h => absurd h c0⟩, fun _ _ => rfl, fun h => by omega, fun h => by omega, fun h => by omega⟩, ⟨by simp, fun h => by omega⟩⟩
  rw [if_neg c2]
  by_cases c6 : k = 6
  · rw [if_pos c6]; exact ⟨⟨hl, hr, (by unfold AnsOK; dsimp only; omega), fun _ => rfl, fun _ h => by omega, fun _ h => by omega, fun h => by omega, fun h => by omega, fun h => by omega, fun h => by omega, fun _ => rfl⟩, ⟨by simp, fun h => by omega⟩⟩
  · rw [if_neg c6]; exact ⟨⟨hl, hr, (by unfold AnsOK; dsimp only; omega), fun _ => rfl, by simp, by simp, fun h => by omega, fun h => by omega, fun h => by omega, fun h => by omega, fun h => absurd h c6⟩, ⟨fun _ => by omega, fun _ => rfl⟩⟩
theorem que_law (l : List Int) (k x : Int) (hl : l.length ≤ 6) (hr : InR l) (h0 : 0 ≤ x) (h1 : x ≤ 4294967295) (ho : 1 ≤ k ∧ k ≤ 6) : ListLaw l k x (queR l k x) ∧ ((queR l k x).2.1 = 5 ↔ (k = 3 ∨ k = 4)) := by
  unfold queR
  by_cases c1 : k = 1
  · subst c1; rw [if_pos rfl]
    by_cases c6 : 6 ≤ l.length
    · rw [if_pos c6]; exact ⟨⟨hl, hr, (by unfold AnsOK; dsimp only; omega), fun _ => rfl, by simp, by simp, by simp, by simp, fun _ => ⟨fun _ => by omega, fun _ => rfl⟩, fun _ h => by omega, by simp⟩, by simp⟩
    · rw [if_neg c6]; exact ⟨⟨by simp; omega, hr.append h0 h1, (by unfold AnsOK; dsimp only; omega), by simp, by simp, by simp, by simp, by simp, fun _ => ⟨by simp, fun h => by omega⟩, fun _ _ => rfl, by simp⟩, by simp⟩
  rw [if_neg c1]
  by_cases c2 : k = 2 ∨ k = 5
  · rw [if_pos c2]
    by_cases c0 : l.length = 0
    · rw [if_pos c0]; exact ⟨⟨hl, hr, (by unfold AnsOK; dsimp only; omega), fun _ => rfl, by simp, by simp, fun _ => ⟨fun _ => c0, fun _ => rfl⟩, fun _ h => absurd c0 h, fun h => absurd h c1, fun h => absurd h c1, fun h => by omega⟩, ⟨by simp, fun h => by omega⟩⟩
    · rw [if_neg c0]
      have hg := hr.get 0 (by omega)
      by_cases c5 : k = 5
      · rw [if_pos c5]; exact ⟨⟨hl, hr, (by unfold AnsOK; dsimp only; omega), fun _ => rfl, fun _ h => by omega, fun _ h => by omega, fun h => by omega, fun h => by omega, fun h => by omega, fun h => by omega, fun h => by omega⟩, ⟨by simp, fun h => by omega⟩⟩
      · rw [if_neg c5]; exact ⟨⟨by simp; omega, hr.sub (fun v hv => List.mem_of_mem_tail hv), (by unfold AnsOK; dsimp only; omega), fun h => by simp at h; omega, fun _ _ => by simp; omega, fun _ h => by omega, fun _ => ⟨by simp, fun h => absurd h c0⟩, fun _ _ => rfl, fun h => by omega, fun h => by omega, fun h => by omega⟩, ⟨by simp, fun h => by omega⟩⟩
  rw [if_neg c2]
  by_cases c6 : k = 6
  · rw [if_pos c6]; exact ⟨⟨hl, hr, (by unfold AnsOK; dsimp only; omega), fun _ => rfl, fun _ h => by omega, fun _ h => by omega, fun h => by omega, fun h => by omega, fun h => by omega, fun h => by omega, fun _ => rfl⟩, ⟨by simp, fun h => by omega⟩⟩
  · rw [if_neg c6]; exact ⟨⟨hl, hr, (by unfold AnsOK; dsimp only; omega), fun _ => rfl, by simp, by simp, fun h => by omega, fun h => by omega, fun h => by omega, fun h => by omega, fun h => absurd h c6⟩, ⟨fun _ => by omega, fun _ => rfl⟩⟩
theorem heap_law (l : List Int) (k x : Int) (hl : l.length ≤ 6) (hr : InR l) (h0 : 0 ≤ x) (h1 : x ≤ 4294967295) (ho : 1 ≤ k ∧ k ≤ 6) : ListLaw l k x (heapR l k x) ∧ ((heapR l k x).2.1 = 5 ↔ (k = 3 ∨ k = 4)) := by
  by_cases c1 : k = 1
  · subst c1
    by_cases c6 : 6 ≤ l.length
    · unfold heapR; rw [if_pos rfl, if_pos c6]; exact ⟨⟨hl, hr, (by unfold AnsOK; dsimp only; omega), fun _ => rfl, by simp, by simp, by simp, by simp, fun _ => ⟨fun _ => by omega, fun _ => rfl⟩, fun _ h => by omega, by simp⟩, by simp⟩
    · obtain ⟨ys, e, p, hy⟩ := heapR_put l x (by omega)
      rw [e]
      exact ⟨⟨by dsimp only; omega, (hr.cons h0 h1).sub (fun v hv => p.subset hv), (by unfold AnsOK; dsimp only; omega), by simp, by simp, fun _ _ => hy, by simp, by simp, fun _ => ⟨by simp, fun h => by omega⟩, fun _ _ => rfl, by simp⟩, by simp⟩
  by_cases c2 : k = 2
  · subst c2
    by_cases c0 : l.length = 0
    · unfold heapR; rw [if_neg c1, if_pos (.inl rfl), if_pos c0]; exact ⟨⟨hl, hr, (by unfold AnsOK; dsimp only; omega), fun _ => rfl, by simp, by simp, fun _ => ⟨fun _ => c0, fun _ => rfl⟩, fun _ h => absurd c0 h, fun h => absurd h c1, fun h => absurd h c1, fun h => by omega⟩, ⟨by simp, fun h => by omega⟩⟩
    · obtain ⟨ys, e, p, hy⟩ := heapR_take l x c0
      rw [e]
      have hg : 0 ≤ hp l 0 ∧ hp l 0 ≤ 4294967295 := hr.get 0 (by omega)
      exact ⟨⟨by dsimp only; omega, hr.sub (fun v hv => p.subset (List.mem_cons_of_mem _ hv)), (by unfold AnsOK; dsimp only; omega), fun h => by simp at h, fun _ _ => by dsimp only; omega, fun _ h => by omega, fun _ => ⟨by simp, fun h => absurd h c0⟩, fun _ _ => rfl, fun h => by omega, fun h => by omega, fun h => by omega⟩, ⟨by simp, fun h => by omega⟩⟩
  unfold heapR
  rw [if_neg c1]
  by_cases c5 : k = 5
  · subst c5
    rw [if_pos (.inr rfl)]
    by_cases c0 : l.length = 0
    · rw [if_pos c0]; exact ⟨⟨hl, hr, (by unfold AnsOK; dsimp only; omega), fun _ => rfl, by simp, by simp, fun h => absurd h c2, fun h => absurd h c2, fun h => absurd h c1, fun h => absurd h c1, fun h => by omega⟩, by simp⟩
    · rw [if_neg c0, if_pos rfl]
      have hg : 0 ≤ hp l 0 ∧ hp l 0 ≤ 4294967295 := hr.get 0 (by omega)
      exact ⟨⟨hl, hr, (by unfold AnsOK; dsimp only; omega), fun _ => rfl, fun _ h => by omega, fun _ h => by omega, fun h => by omega, fun h => by omega, fun h => by omega, fun h => by omega, fun h => by omega⟩, by simp⟩
  rw [if_neg (by omega)]
  by_cases c6 : k = 6
  · rw [if_pos c6]; exact ⟨⟨hl, hr, (by unfold AnsOK; dsimp only; omega), fun _ => rfl, fun _ h => by omega, fun _ h => by omega, fun h => by omega, fun h => by omega, fun h => by omega, fun h => by omega, fun _ => rfl⟩, ⟨by simp, fun h => by omega⟩⟩
  · rw [if_neg c6]; exact ⟨⟨hl, hr, (by unfold AnsOK; dsimp only; omega), fun _ => rfl, by simp, by simp, fun h => by omega, fun h => by omega, fun h => by omega, fun h => by omega, fun h => absurd h c6⟩, ⟨fun _ => by omega, fun _ => rfl⟩⟩
theorem deq_law (l : List Int) (k x : Int) (hl : l.length ≤ 6) (hr : InR l) (h0 : 0 ≤ x) (h1 : x ≤ 4294967295) (ho : 1 ≤ k ∧ k ≤ 6) : ListLaw l k x (deqR l k x) ∧ (deqR l k x).2.1 ≠ 5 := by
  unfold deqR
  by_cases c1 : k = 1 ∨ k = 3
  · rw [if_pos c1]
    by_cases c6 : 6 ≤ l.length
    · rw [if_pos c6]; exact ⟨⟨hl, hr, (by unfold AnsOK; dsimp only; omega), fun _ => rfl, by simp, by simp, fun h => by omega, fun h => by omega, fun _ => ⟨fun _ => by omega, fun _ => rfl⟩, fun _ h => by omega, fun h => by omega⟩, by simp⟩
    · rw [if_neg c6]
      by_cases c11 : k = 1
      · rw [if_pos c11]; exact ⟨⟨by simp; omega, hr.append h0 h1, (by unfold AnsOK; dsimp only; omega), fun h => by simp at h; omega, fun _ h => by omega, by simp, fun h => by omega, fun h => by omega, fun _ => ⟨by simp, fun h => by omega⟩, fun _ _ => rfl, fun h => by omega⟩, by simp⟩
      · rw [if_neg c11]; exact ⟨⟨by simp; omega, hr.cons h0 h1, (by unfold AnsOK; dsimp only; omega), fun h => by simp at h; omega, fun _ h => by omega, by simp, fun h => by omega, fun h => by omega, fun h => by omega, fun h => by omega, fun h => by omega⟩, by simp⟩
  rw [if_neg c1]
  by_cases c2 : k = 2 ∨ k = 4 ∨ k = 5
  · rw [if_pos c2]
    by_cases c0 : l.length = 0
    · rw [if_pos c0]; exact ⟨⟨hl, hr, (by unfold AnsOK; dsimp only; omega), fun _ => rfl, by simp, by simp, fun _ => ⟨fun _ => c0, fun _ => rfl⟩, fun _ h => absurd c0 h, fun h => by omega, fun h => by omega, fun h => by omega⟩, by simp⟩
    · rw [if_neg c0]
      have hg := hr.get (l.length - 1) (by omega)
      have hg0 := hr.get 0 (by omega)
      by_cases c5 : k = 5
      · rw [if_pos c5]; exact ⟨⟨hl, hr, (by unfold AnsOK; dsimp only; omega), fun _ => rfl, fun _ h => by omega, fun _ h => by omega, fun h => by omega, fun h => by omega, fun h => by omega, fun h => by omega, fun h => by omega⟩, by simp⟩
      · rw [if_neg c5]
        by_cases c4 : k = 4
        · rw [if_pos c4]; exact ⟨⟨by rw [List.length_eraseIdx]; split <;> omega, hr.sub (fun v hv => List.mem_of_mem_eraseIdx hv), (by unfold AnsOK; dsimp only; omega), fun h => by simp at h; omega, fun _ _ => by rw [List.length_eraseIdx, if_pos (by omega)]; omega, fun _ h => by omega, fun h => by omega, fun h => by omega, fun h => by omega, fun h => by omega, fun h => by omega⟩, by simp⟩
        · rw [if_neg c4]; exact ⟨⟨by rw [List.length_eraseIdx]; split <;> omega, hr.sub (fun v hv => List.mem_of_mem_eraseIdx hv), (by unfold AnsOK; dsimp only; omega), fun h => by simp at h; omega, fun _ _ => by rw [List.length_eraseIdx, if_pos (by omega)]; omega, fun _ h => by omega, fun _ => ⟨by simp, fun h => absurd h c0⟩, fun _ _ => rfl, fun h => by omega, fun h => by omega, fun h => by omega⟩, by simp⟩
  rw [if_neg c2]
  have c6 : k = 6 := by omega
  rw [if_pos c6]; exact ⟨⟨hl, hr, (by unfold AnsOK; dsimp only; omega), fun _ => rfl, fun _ h => by omega, fun _ h => by omega, fun h => by omega, fun h => by omega, fun h => by omega, fun h => by omega, fun _ => rfl⟩, by simp⟩
theorem lst_law (kind : Int) (l : List Int) (k x : Int) (hl : l.length ≤ 6) (hr : InR l) (h0 : 0 ≤ x) (h1 : x ≤ 4294967295) (ho : 1 ≤ k ∧ k ≤ 6) (k1 : 1 ≤ kind) (k4 : kind ≤ 4) : ListLaw l k x (lstR kind l k x) ∧ ((lstR kind l k x).2.1 = 5 ↔ (k = 3 ∨ k = 4) ∧ kind ≠ 3) := by
  unfold lstR
  by_cases c1 : kind = 1
  · rw [if_pos c1]; have := que_law l k x hl hr h0 h1 ho; exact ⟨this.1, by rw [this.2]; omega⟩
  · rw [if_neg c1]
    by_cases c2 : kind = 2
    · rw [if_pos c2]; have := stk_law l k x hl hr h0 h1 ho; exact ⟨this.1, by rw [this.2]; omega⟩
    · rw [if_neg c2]
      by_cases c3 : kind = 3
      · rw [if_pos c3]; have := deq_law l k x hl hr h0 h1 ho; exact ⟨this.1, by have := this.2; omega⟩
      · rw [if_neg c3]; have := heap_law l k x hl hr h0 h1 ho; exact ⟨this.1, by rw [this.2]; omega⟩
/-- An object stays one. -/
theorem objR_ok {kind : Int} {c : List Int} (h : ObjOK kind c) (k key x : Int) (ho : opOk k key x = true) : ObjOK kind (objR kind c k key x).1 := by
  unfold opOk at ho
  rw [decide_eq_true_eq] at ho
  rcases h with ⟨k1, k4, l, rfl, hl, hr, hh⟩ | ⟨rfl, t, rfl, g⟩ | ⟨rfl, n, rfl, h0, h1⟩
  · rw [objR_list kind l k key x k1 k4]
    have hw := (lst_law kind l k x hl hr ho.2.2.2.2.1 ho.2.2.2.2.2 ⟨ho.1, ho.2.1⟩ k1 k4).1
    refine .inl ⟨k1, k4, _, rfl, hw.len, hw.inr, fun h4 => ?_⟩
    unfold lstR
    rw [if_neg (by omega), if_neg (by omega), if_neg (by omega)]
    exact heapR_heap (hh h4) k x
  · rw [objR_table t g]
    exact .inr (.inl ⟨rfl, _, rfl, doT_good g k key x ho.2.2.2.2.1 ho.2.2.2.2.2⟩)
  · rw [objR_tally]
    exact .inr (.inr ⟨rfl, _, rfl, tallyR_lo n k x h0 ho.2.2.2.2.1, tallyR_hi n k x h1 ho.2.2.2.2.1⟩)
theorem objOK_zero (kind : Int) (h1 : 1 ≤ kind) (h6 : kind ≤ 6) : ObjOK kind (List.replicate 17 0) := by
  by_cases h5 : kind ≤ 4
  · exact .inl ⟨h1, h5, [], rfl, by decide, (fun v hv => by cases hv), (fun _ j h0 hj => by simp at hj)⟩
  · by_cases e : kind = 5
    · refine .inr (.inl ⟨e, List.replicate 16 0, rfl, ?_⟩)
      exact (rightB_iff _ rfl (by decide)).1 (by decide)
    · exact .inr (.inr ⟨by omega, 0, rfl, by decide, by decide⟩)
theorem objOK_len {kind : Int} {c : List Int} (h : ObjOK kind c) : c.length = 17 := by
  rcases h with ⟨k1, k4, l, rfl, hl, hr, hh⟩ | ⟨rfl, t, rfl, g⟩ | ⟨rfl, n, rfl, h0, h1⟩
  · exact lstC_len l (by omega)
  · simp [g.len]
  · simp
theorem tally_law (n k x : Int) (h0 : 0 ≤ n) (h1 : n ≤ 4294967295) (x0 : 0 ≤ x) (x1 : x ≤ 4294967295) (ho : 1 ≤ k ∧ k ≤ 6) :
    AnsOK (tallyC n k x) (tallyV n k x) ∧ ((tallyC n k x ≠ 1 ∨ k = 5 ∨ k = 6) → tallyR n k x = n) ∧ (tallyC n k x = 5 ↔ (k = 3 ∨ k = 4)) := by
  unfold AnsOK tallyC tallyV tallyR
  by_cases k1 : k = 1
  · subst k1; simp only [if_true]; split <;> (refine ⟨by omega, ?_, by simp⟩; intro h; simp at h <;> omega)
  · by_cases k2 : k = 2
    · subst k2; simp only [k1, if_true, if_false]; split <;> (refine ⟨by omega, ?_, by simp⟩; intro h; simp at h <;> omega)
    · simp only [k1, k2, if_false]
      by_cases k5 : k = 5 ∨ k = 6
      · rw [if_pos k5, if_pos k5]; exact ⟨by omega, fun _ => trivial, by omega⟩
      · rw [if_neg k5, if_neg k5]; exact ⟨by omega, fun _ => trivial, by omega⟩
theorem tab_law {t : List Int} (g : Good t) (k key x : Int) (x0 : 0 ≤ x) (x1 : x ≤ 4294967295) (ho : 1 ≤ k ∧ k ≤ 6) (y0 : 0 ≤ key) (y1 : key ≤ 1000) :
    AnsOK (doT t k key x).2.1 (doT t k key x).2.2 ∧ (((doT t k key x).2.1 ≠ 1 ∨ k = 5 ∨ k = 6) → (doT t k key x).1 = t) ∧ ((doT t k key x).2.1 = 5 ↔ (k ≠ 6 ∧ (k = 3 ∨ k = 4 ∨ key = 0))) := by
  by_cases h6 : k = 6
  · unfold doT; rw [if_pos h6]
    have := g.few
    exact ⟨by unfold AnsOK; dsimp only; omega, fun _ => rfl, by dsimp only; omega⟩
  by_cases hw : (k ≠ 1 ∧ k ≠ 2 ∧ k ≠ 5) ∨ key < 1 ∨ 1000 < key
  · unfold doT; rw [if_neg h6, if_pos hw]; exact ⟨by unfold AnsOK; dsimp only; omega, fun _ => rfl, ⟨fun _ => by omega, fun _ => rfl⟩⟩
  obtain ⟨i, hi, hai, -, -⟩ := g.at key
  have hv0 := g.val0 i hi
  have hv1 := g.val1 i hi
  have htv : tv t (atI t key).toNat = tv t i := by rw [hai]; rfl
  unfold doT
  rw [if_neg h6, if_neg hw, htv]
  by_cases k1 : k = 1
  · rw [if_pos k1]
    split
    · exact ⟨by unfold AnsOK; dsimp only; omega, fun _ => rfl, by dsimp only; omega⟩
    · exact ⟨by unfold AnsOK; dsimp only; omega, fun h => by dsimp only at h; omega, by dsimp only; omega⟩
  · rw [if_neg k1]
    split
    · exact ⟨by unfold AnsOK; dsimp only; omega, fun _ => rfl, by dsimp only; omega⟩
    · split
      · exact ⟨by unfold AnsOK; dsimp only; omega, fun h => by dsimp only at h; omega, by dsimp only; omega⟩
      · exact ⟨by unfold AnsOK; dsimp only; omega, fun _ => rfl, by dsimp only; omega⟩
theorem obj_law {kind : Int} {c : List Int} (h : ObjOK kind c) (k key x : Int) (ho : opOk k key x = true) :
    AnsOK (objR kind c k key x).2.1 (objR kind c k key x).2.2 ∧ (((objR kind c k key x).2.1 ≠ 1 ∨ k = 5 ∨ k = 6) → (objR kind c k key x).1 = c) ∧
    ((objR kind c k key x).2.1 = 5 ↔ (((k = 3 ∨ k = 4) ∧ kind ≠ 3) ∨ (kind = 5 ∧ k ≠ 6 ∧ (k = 3 ∨ k = 4 ∨ key = 0)))) := by
  unfold opOk at ho
  rw [decide_eq_true_eq] at ho
  obtain ⟨o1, o2, o3, o4, o5, o6⟩ := ho
  rcases h with ⟨k1, k4, l, rfl, hl, hr, hh⟩ | ⟨rfl, t, rfl, g⟩ | ⟨rfl, n, rfl, h0, h1⟩
  · rw [objR_list kind l k key x k1 k4]
    obtain ⟨a, b⟩ := lst_law kind l k x hl hr o5 o6 ⟨o1, o2⟩ k1 k4
    exact ⟨a.ans, fun h => by rw [a.same h], by dsimp only; rw [b]; omega⟩
  · rw [objR_table t g]
    obtain ⟨a, b, c⟩ := tab_law g k key x o5 o6 ⟨o1, o2⟩ o3 o4
    exact ⟨a, fun h => by rw [b h], by dsimp only; rw [c]; omega⟩
  · rw [objR_tally]
    obtain ⟨a, b, c⟩ := tally_law n k x h0 h1 o5 o6 ⟨o1, o2⟩
    exact ⟨a, fun h => by rw [b h], by dsimp only; rw [c]; omega⟩
end Go.Proofs.YtacgihekdmoceaaDoor
end
section
namespace Go.Proofs.YtacgihekdmoceaaDoor
set_option linter.unusedVariables false
def toN (n : Nat) (f : Nat → Int) : List Int := (List.range n).map f
def fL (l : List Int) : Nat → Int := fun i => l.getD i 0
theorem toN_len (n : Nat) (f : Nat → Int) : (toN n f).length = n := by simp [toN]
theorem toN_get {n : Nat} {f : Nat → Int} {i : Nat} (h : i < n) : (toN n f).getD i 0 = f i := by
  simp [toN, List.getD_eq_getElem?_getD, h]
theorem toN_fL {l : List Int} {n : Nat} (h : l.length = n) : toN n (fL l) = l := by
  subst h
  apply List.ext_getElem?
  intro i
  unfold toN fL
  by_cases hi : i < l.length
  · rw [List.getElem?_map, List.getElem?_range hi]
    simp [List.getElem?_eq_getElem hi]
  · rw [List.getElem?_eq_none (by simp; omega), List.getElem?_eq_none (by omega)]
theorem fL_toN {n : Nat} {f : Nat → Int} {i : Nat} (h : i < n) : fL (toN n f) i = f i := toN_get h
theorem toN_congr {n : Nat} {f g : Nat → Int} (h : ∀ i, i < n → f i = g i) : toN n f = toN n g :=
  List.map_congr_left fun i hi => h i (List.mem_range.1 hi)
theorem fL_cons_zero (x : Int) (l : List Int) : fL (x :: l) 0 = x := rfl
theorem fL_cons_succ (x : Int) (l : List Int) (i : Nat) : fL (x :: l) (i + 1) = fL l i := by simp [fL]
theorem fL_zeros (n i : Nat) : fL (List.replicate n 0) i = 0 := by
  simp only [fL, List.getD_eq_getElem?_getD, List.getElem?_replicate]; split <;> rfl
theorem fL_append_left {l m : List Int} {i : Nat} (h : i < l.length) : fL (l ++ m) i = fL l i := by
  simp [fL, List.getD_eq_getElem?_getD, List.getElem?_append_left h]
theorem fL_append_right {l m : List Int} {i : Nat} (h : l.length ≤ i) : fL (l ++ m) i = fL m (i - l.length) := by
  simp [fL, List.getD_eq_getElem?_getD, List.getElem?_append_right h]
theorem fL_set {l : List Int} {i j : Nat} {x : Int} (h : i < l.length) : fL (l.set i x) j = if j = i then x else fL l j := by
  simp only [fL, List.getD_eq_getElem?_getD, List.getElem?_set]
  by_cases e : i = j
  · subst e; simp [h]
  · rw [if_neg e, if_neg (fun h => e h.symm)]
theorem toN_succ (n : Nat) (f : Nat → Int) : toN (n + 1) f = toN n f ++ [f n] := by simp [toN, List.range_succ]
theorem toN_append (n m : Nat) (f : Nat → Int) : toN (n + m) f = toN n f ++ toN m (fun i => f (n + i)) := by
  induction m with
  | zero => simp [toN]
  | succ m ih => rw [← Nat.add_assoc, toN_succ, ih, toN_succ, List.append_assoc]
theorem toN_set {n : Nat} {f : Nat → Int} {i : Nat} {x : Int} : (toN n f).set i x = toN n (fun j => if j = i then x else f j) := by
  apply List.ext_getElem?
  intro j
  rw [List.getElem?_set]
  unfold toN
  by_cases e : i = j
  · subst e; simp; split <;> simp_all
  · rw [if_neg e]
    simp only [List.getElem?_map]
    by_cases hj : j < n
    · rw [List.getElem?_range hj]; simp [show ¬ j = i from fun h => e h.symm]
    · rw [List.getElem?_eq_none (by simpa using hj)]; rfl
/-- The rows are a list's. -/
def IsL (z : Nat → Nat → Int) (l : List Int) : Prop := ∀ i, i < l.length → z i 0 = l.getD i 0
theorem IsL.sub {z z' : Nat → Nat → Int} {l : List Int} (h : IsL z l) (e : ∀ i, i < l.length → z' i 0 = z i 0) : IsL z' l := fun i hi => (e i hi).trans (h i hi)
theorem IsL.snoc {z z' : Nat → Nat → Int} {l : List Int} {x : Int} (h : IsL z l) (e : ∀ i, i < l.length → z' i 0 = z i 0) (e2 : z' l.length 0 = x) : IsL z' (l ++ [x]) := by
  intro i hi
  rw [List.length_append, List.length_singleton] at hi
  rw [List.getD_eq_getElem?_getD]
  by_cases h1 : i < l.length
  · rw [List.getElem?_append_left h1, ← List.getD_eq_getElem?_getD, e i h1, h i h1]
  · obtain rfl : i = l.length := by omega
    rw [List.getElem?_append_right (Nat.le_refl _)]; simpa using e2
def upOf (l : List Int) : List Int := upF (l.length - 1) l (l.length - 1)
def downOf (l : List Int) : List Int := downF l.length l 0
/-- A list as words, as far as it was written. -/
def lstTo (l : List Int) (i : Nat) : List Int := (l.length : Int) :: (l.take i ++ List.replicate (16 - i) 0)
theorem fL_take (l : List Int) (i n k : Nat) (h : i ≤ l.length) : fL (l.take i ++ List.replicate n 0) k = if k < i then l.getD k 0 else 0 := by
  have ht : (l.take i).length = i := by simp; omega
  by_cases hk : k < i
  · rw [if_pos hk, fL_append_left (by omega)]
    simp [fL, List.getD_eq_getElem?_getD, hk]
  · rw [if_neg hk, fL_append_right (by omega), fL_zeros]
theorem lstTo_all (l : List Int) : lstTo l l.length = lstC l := by
  unfold lstTo lstC; rw [List.take_length]
theorem lstTo_zero (l : List Int) (j : Nat) : fL (lstTo l 0) j = if j = 0 then (l.length : Int) else 0 := by
  unfold lstTo
  cases j with
  | zero => rfl
  | succ k => rw [fL_cons_succ, fL_take l 0 _ _ (by omega), if_neg (by omega), if_neg (by omega)]
theorem lstTo_succ (l : List Int) (i j : Nat) (h : i < l.length) : fL (lstTo l (i + 1)) j = if j = i + 1 then l.getD i 0 else fL (lstTo l i) j := by
  unfold lstTo
  cases j with
  | zero => rw [if_neg (by omega)]; rfl
  | succ k =>
    rw [fL_cons_succ, fL_cons_succ, fL_take l _ _ _ (by omega), fL_take l _ _ _ (by omega)]
    by_cases h1 : k = i
    · subst h1; simp
    · rw [if_neg (show ¬ k + 1 = i + 1 by omega)]
      by_cases h2 : k < i
      · rw [if_pos h2, if_pos (by omega)]
      · rw [if_neg h2, if_neg (by omega)]
/-- Words that are an object of a kind, or a list's though no heap's. -/
def ObjForm (kind : Int) (c : List Int) : Prop := ObjOK kind c ∨ (kind = 4 ∧ ∃ l, c = lstC l ∧ l.length ≤ 6 ∧ InR l)
def rightV (kind : Int) (c : List Int) : Bool := bif kind == 4 then heapB ((c.drop 1).take (c.getD 0 0).toNat) else true
theorem ObjForm.list {k : Int} {c : List Int} (h : ObjForm k c) (h1 : 1 ≤ k) (h4 : k ≤ 4) : ∃ l, c = lstC l ∧ l.length ≤ 6 ∧ InR l ∧ (k = 4 → ObjOK k c → IsHeap l) := by
  rcases h with (⟨-, -, l, e, a, b, d⟩ | ⟨h5, -⟩ | ⟨h6, -⟩) | ⟨-, l, e, a, b⟩
  · exact ⟨l, e, a, b, fun h _ => d h⟩
  · omega
  · omega
  · refine ⟨l, e, a, b, fun h ho => ?_⟩
    rcases ho with ⟨-, -, l', e', -, -, d'⟩ | ⟨h5, -⟩ | ⟨h6, -⟩
    · rw [lstC_inj (e.symm.trans e')]; exact d' h
    · omega
    · omega
theorem ObjForm.tab {f : Nat → Int} (h : ObjForm 5 (toN 17 f)) : Good (toN 16 f) ∧ f 16 = 0 := by
  rcases h with (⟨-, h, -⟩ | ⟨-, t, e, g⟩ | ⟨h, -⟩) | ⟨h, -⟩
  · omega
  · rw [toN_succ] at e
    have := List.append_inj e (by rw [toN_len, g.len])
    rw [this.1]; exact ⟨g, by simpa using this.2⟩
  · omega
  · omega
theorem ObjForm.tally {f : Nat → Int} (h : ObjForm 6 (toN 17 f)) : 0 ≤ f 0 ∧ f 0 ≤ 4294967295 ∧ ∀ i, 1 ≤ i → i ≤ 16 → f i = 0 := by
  rcases h with (⟨-, h, -⟩ | ⟨h, -⟩ | ⟨-, n, e, h0, h1⟩) | ⟨h, -⟩
  · omega
  · omega
  · have g (i : Nat) (hi : i < 17) : f i = (n :: List.replicate 16 0).getD i 0 := by rw [← e, toN_get hi]
    refine ⟨by rw [g 0 (by decide)]; exact h0, by rw [g 0 (by decide)]; exact h1, fun i hi h16 => ?_⟩
    rw [g i (by omega)]
    obtain ⟨j, rfl⟩ : ∃ j, i = j + 1 := ⟨i - 1, by omega⟩
    rw [List.getD_cons_succ]; exact fL_zeros 16 j
  · omega
theorem lstC_take (l : List Int) : ((lstC l).drop 1).take ((lstC l).getD 0 0).toNat = l := by simp [lstC]
end Go.Proofs.YtacgihekdmoceaaDoor
end
section
namespace Go.Proofs.YtacgihekdmoceaaDoor
open Go.RowKit
set_option linter.unusedVariables false
set_option maxRecDepth 100000
set_option maxHeartbeats 4000000
def tabL : Tab := [(3, .one (.int .i64 0) (.int .i64)),
  (4, .one (.bool false) .bool),
  (89, .one (.slice none 0 0) (.slice 3)),
  (30, .str [.one (.v (.int .i64 0)), .one (.v (.int .i64 0)), .one (.v (.int .i64 0))] [(0, 1, false), (1, 1, false), (2, 1, false)]),
  (32, .str [.one (.v (.int .i64 0)), .one (.v (.int .i64 0))] [(0, 1, false), (1, 1, false)])]
theorem tabL_ok : TabOk Tryd.prog tabL := .cons (⟨by kernel_rfl, by kernel_rfl, by kernel_rfl, by kernel_rfl, by kernel_rfl⟩) (.cons (⟨by kernel_rfl, by kernel_rfl, by kernel_rfl, by kernel_rfl, by kernel_rfl⟩) (.cons (⟨by kernel_rfl, by kernel_rfl, by kernel_rfl, by kernel_rfl, by kernel_rfl⟩) (.cons (⟨by kernel_rfl, by kernel_rfl, by kernel_rfl, by kernel_rfl⟩) (.cons (⟨by kernel_rfl, by kernel_rfl, by kernel_rfl, by kernel_rfl⟩) (TabOk.nil _)))))
theorem tabL_tys : TysOk Tryd.prog tabL := TysOk.of (by kernel_rfl) (by kernel_rfl)
abbrev rowsI (n c : Nat) (z : Nat → Nat → Int) : SB := .rows 3 [.int .i64] 1 n c z
abbrev opA (a b c : Int) : SA := .a [.one (.v (.int .i64 a)), .one (.v (.int .i64 b)), .one (.v (.int .i64 c))]
abbrev ansA (a b : Int) : SA := .a [.one (.v (.int .i64 a)), .one (.v (.int .i64 b))]
/-- What a slice's copy is told. -/
structure CloS where
  lo : Nat
  n : Nat
  m : Nat
  c : Nat
  nn : Bool
  z : Nat → Nat → Int
structure CloR where
  c : Nat
  nn : Bool
  z : Nat → Nat → Int
def conClone : RCon where
  σ := CloS
  χ := CloR
  pre s := s.lo + s.n ≤ s.m ∧ s.n ≤ 1000
  args s := [.c (.so 0 s.lo 1 s.n s.c s.nn)]
  mem s := [rowsI s.m s.c s.z]
  ok s x := s.n ≤ x.c ∧ ((s.c.beq 0 && !s.nn) = true → x.nn = false ∧ x.c = 0) ∧ ∀ i, i < s.n → x.z i 0 = s.z (s.lo + i) 0
  val s x := .o (.c (.so 1 0 1 s.n x.c x.nn))
  new s x := [rowsI s.n x.c x.z]
  len := 1
  det := none
  find args M := some (blkA args)
def rp1 : SV → List SB → List Nat := fun x M => match x with
  | .o (.c (.so b _ _ _ _ _)) => [b]
  | _ => []
theorem clone_con : (Con.rd conClone).holds Tryd.prog 70 := by
  intro w0 S
  refine rd_of_run (AG := []) (Γ := []) Tryd.func70 rfl (by kernel_rfl) tabL_ok tabL_tys (fun _ _ => .nil _ _ _) conClone (fun x0 h => by cases h) [.tmp 0 3 1 [.int .i64]] rp1 200 ?_
  rintro ⟨lo, n, m, c, nn, z⟩ ρ w ⟨h0, h2⟩ - hM
  dsimp only at h0 h2
  have hrow : RowAt w (ρ 0) 3 1 m c (rowsV (ckAt [.int .i64]) 1 z m) := hM _ (List.mem_singleton.2 rfl)
  obtain ⟨a, c', e1, hr, ha, hnc⟩ := so_view (b := 0) (n := n) (nn := nn) (kf := fun _ => .i64) hrow rfl rfl h0
  refine ⟨[.c (.r a n c' n 1 (fun _ => .i64) (fun i => z (lo + i)))], by simp only [conClone, List.map_cons, List.map_nil, SA.den, e1]; rfl, rfl, ?_⟩
  refine by_eq (q :=
      bif Option.isNone a then endD conClone [NZ.tmp 0 3 1 [.int .i64]] rp1 (CloS.mk lo n m c nn z) (SV.o (SA.c (.v (Value.slice none 0 0)))) [] else ((0 ≤ 0 ∧ 0 = 0) ∧ ((Rws (TyI.size (TyI.one (Value.int .i64 (0 : Int)) (Kd.int .i64))) (fun (x : Nat) => .i64) w a n c' fun (i : Nat) => z (lo + i)) ∧ n ≤ n) ∧ 0 + n ≤ 68719476736) ∧ ∀ (c_1 : Nat), 0 + n ≤ c_1 → endD conClone [NZ.tmp 0 3 1 [.int .i64]] rp1 (CloS.mk lo n m c nn z) (SV.o (SA.c (.so 1 0 1 (0 + n) c_1 true))) [SB.gone, SB.rows 3 [.int .i64] 1 (0 + n) c_1 fun (i j : Nat) => z (lo + i) j]) (by kernel_rfl) ?_
  refine by_cond (fun hc => ?_) (fun hc => ⟨⟨⟨Nat.le_refl _, rfl⟩, ⟨hr, Nat.le_refl _⟩, by omega⟩, fun c1 hc1 => ?_⟩)
  · have hn : n = 0 := by
      rw [ha] at hc
      simp only [Bool.and_eq_true] at hc
      have := Nat.eq_of_beq_eq_true hc.1
      have := hrow.1
      omega
    subst hn
    exact endD_of rfl ⟨0, false, fun _ _ => 0⟩ ⟨Nat.le_refl _, fun _ => ⟨rfl, rfl⟩, fun i (hi : i < 0) => by omega⟩ rfl rfl rfl
  · rw [Nat.zero_add] at hc1 ⊢
    exact endD_of rfl ⟨c1, true, fun i j => z (lo + i) j⟩ ⟨hc1, (fun h => absurd (h.symm.trans (ha.symm.trans hc)) (by decide)), fun i _ => rfl⟩ rfl rfl rfl
/-- What is done with a list, and what comes of it. -/
structure LstS where
  l : List Int
  m : Nat
  c : Nat
  nn : Bool
  z : Nat → Nat → Int
  k : Int
  key : Int
  x : Int
structure LstR where
  m : Nat
  c : Nat
  nn : Bool
  z : Nat → Nat → Int
abbrev LstS.pre (s : LstS) : Prop := s.l.length ≤ 6 ∧ (s.l.length ≤ s.m ∧ s.m ≤ s.c) ∧ IsL s.z s.l ∧ InR s.l ∧ (1 ≤ s.k ∧ s.k ≤ 6)
def lstCon (F : List Int → Int → Int → List Int × Int × Int) : MCon where
  σ := LstS
  χ := LstR
  pre s := s.pre
  args s := [.c (.so 0 0 1 s.l.length s.c s.nn), opA s.k s.key s.x]
  mem s := [rowsI s.m s.c s.z]
  ok s x := ((F s.l s.k s.x).1.length ≤ x.m ∧ x.m ≤ x.c) ∧ IsL x.z (F s.l s.k s.x).1
  val s x := .t [.c (.so 0 0 1 (F s.l s.k s.x).1.length x.c x.nn), ansA (F s.l s.k s.x).2.1 (F s.l s.k s.x).2.2]
  mem' s x := [rowsI x.m x.c x.z]
  k := 0
  len := 1
  det := none
  find args M := some (blkA args)
abbrev nzL : List NZ := [.tmp 0 3 1 [.int .i64]]
def rpL : SV → List SB → List Nat := fun x M => match x with
  | .t (.c (.so b _ _ _ _ _) :: _) => [b]
  | .o (.c (.so b _ _ _ _ _)) => [b]
  | _ => []
theorem lst_end (F : List Int → Int → Int → List Int × Int × Int) (s : LstS) (M : List SB) (b n m c : Nat) (nn : Bool) (z : Nat → Nat → Int) (a v : Int) (hM : getB M b = rowsI m c z) (hb : b.blt M.length = true) (hav : sbsAv (sc M.length) M = true)
    (r : List Int × Int × Int) (hr : F s.l s.k s.x = r) (hn : n = r.1.length) (hm : n ≤ m) (hc : m ≤ c) (hz : IsL z r.1) (ha : a = r.2.1) (hv : v = r.2.2) : endN (lstCon F) nzL rpL s (.t [.c (.so b 0 1 n c nn), ansA a v]) M := by
  subst hr hn ha hv
  refine endN_of (x' := .t [.c (.so b 0 1 (F s.l s.k s.x).1.length c nn), ansA (F s.l s.k s.x).2.1 (F s.l s.k s.x).2.2]) (M' := M) ?_ ⟨m, c, nn, z⟩ ⟨⟨hm, hc⟩, hz⟩ ?_ rfl ?_
  · have h1 : (sbsAv (sc M.length) M && sasAv (sc M.length) (svL (.t [.c (.so b 0 1 (F s.l s.k s.x).1.length c nn), ansA (F s.l s.k s.x).2.1 (F s.l s.k s.x).2.2]))) = true := by
      rw [hav]; simp only [svL, sasAv, SA.av, SC.av, sc, hb, segsAv, Bool.and_self]
    simp only [nrmR, h1, cond_true]; rfl
  · have h2 : allLt M.length [b] = true := by simp only [allLt, hb, Bool.and_self]
    show (nodB [b] && allLt M.length [b] && true && true && true && true) = true
    rw [h2]; rfl
  · show [getB M b] = _
    rw [hM]; rfl
theorem lst_nil (F : List Int → Int → Int → List Int × Int × Int) (s : LstS) (M : List SB) (a v : Int) (hav : sbsAv (sc M.length) M = true)
    (r : List Int × Int × Int) (hr : F s.l s.k s.x = r) (hn : r.1 = []) (ha : a = r.2.1) (hv : v = r.2.2) : endN (lstCon F) nzL rpL s (.t [.c (.v (.slice none 0 0)), ansA a v]) M := by
  subst hr ha hv
  have hl : (putBs M [(M.length, .rows 3 [.int .i64] 1 0 0 (fun _ _ => 0))]).length = M.length + 1 := (putB_len _ M M.length).2.2 rfl
  refine endN_of (x' := .t [.c (.so M.length 0 1 0 0 false), ansA (F s.l s.k s.x).2.1 (F s.l s.k s.x).2.2]) (M' := putBs M [(M.length, .rows 3 [.int .i64] 1 0 0 (fun _ _ => 0))]) ?_ ⟨0, 0, false, fun _ _ => 0⟩ ⟨⟨by rw [hn]; exact Nat.le_refl _, Nat.le_refl _⟩, fun i hi => by rw [hn] at hi; exact absurd hi (by simp)⟩ ?_ ?_ ?_
  · have h1 : (sbsAv (sc M.length) M && sasAv (sc M.length) (svL (.t [.c (.v (.slice none 0 0)), ansA (F s.l s.k s.x).2.1 (F s.l s.k s.x).2.2]))) = true := by
      rw [hav]; rfl
    simp only [nrmR, h1, cond_true]; rfl
  · have h2 : allLt (putBs M [(M.length, .rows 3 [.int .i64] 1 0 0 (fun _ _ => 0))]).length [M.length] = true := by rw [hl]; simp [allLt, Nat.blt]
    show (nodB [M.length] && allLt (putBs M [(M.length, .rows 3 [.int .i64] 1 0 0 (fun _ _ => 0))]).length [M.length] && true && true && true && true) = true
    rw [h2]; rfl
  · show SV.t [.c (.so M.length 0 1 0 0 false), ansA _ _] = SV.t [.c (.so M.length 0 1 (F s.l s.k s.x).1.length 0 false), ansA _ _]
    rw [hn]; rfl
  · show [getB (putB M M.length _) M.length] = [SB.rows 3 [.int .i64] 1 0 0 (fun _ _ => 0)]
    rw [getB_putB_self]
theorem catT {i n : Nat} {a b : Int} (h : i < n) : (bif Nat.ble (i + 1) n then a else b) = a := by
  rw [show Nat.ble (i + 1) n = true from Nat.ble_eq_true_of_le h]; rfl
theorem catF {n : Nat} {a b : Int} : (bif Nat.ble (n + 1) n then a else b) = b := by
  cases h : Nat.ble (n + 1) n
  · rfl
  · exact absurd (Nat.le_of_ble_eq_true h) (by omega)
theorem len0 {l : List Int} (h : ((l.length : Int) == (0 : Int)) = true) : l = [] := List.length_eq_zero_iff.1 (by have := eq_of_beq h; omega)
theorem lenP {l : List Int} (h : ((l.length : Int) == (0 : Int)) = false) : 0 < l.length := by
  have : ¬ (l.length : Int) = 0 := by simpa using h
  omega
theorem queue_con : (Con.mem (lstCon queR)).holds Tryd.prog 45 := by
  intro w0 S
  refine mem_of_run (AG := []) (Γ := [(70, .rd conClone)]) (fun _ => noW) Tryd.func45 rfl (by kernel_rfl) tabL_ok tabL_tys (fun w S' _ _ => .cons (clone_con w S') (.nil _ _ _)) (lstCon queR) (fun x0 h => by cases h) (fun s ρ w _ _ _ => noW_old w _)
    nzL rpL 400 ?_
  rintro ⟨l, m, c, nn, z, k, key, x⟩ w ⟨h1, ⟨h2m, h2c⟩, h4, h5, h6⟩ -
  refine ⟨rfl, ?_⟩
  dsimp only at h1 h2m h2c h4 h5 h6
  have h2 := Nat.le_trans h2m h2c
  have hs : 0 + l.length ≤ m ∧ l.length ≤ 1000 := ⟨by omega, by omega⟩
  have hk : k = 1 ∨ k = 2 ∨ k = 3 ∨ k = 4 ∨ k = 5 ∨ k = 6 := by omega
  rcases hk with rfl | rfl | rfl | rfl | rfl | rfl
  ·
    refine by_eq (q :=
        List.length l ≤ c ∧ bif decide ((↑(List.length l) : Int) ≥ (6 : Int)) then ∃ (s : CloS), [SA.c (.so 0 0 1 (List.length l) c nn)] = [SA.c (.so 0 s.1 1 s.2 s.4 s.5)] ∧ [SB.rows 3 [.int .i64] 1 m c z] = [SB.rows 3 [.int .i64] 1 s.3 s.4 s.6] ∧ (s.1 + s.2 ≤ s.3 ∧ s.2 ≤ 1000) ∧ ∀ (x_1 : CloR), (s.2 ≤ x_1.1 ∧ ((match Nat.beq s.4 0 with | false => false | true => bif s.5 then false else true) = true → x_1.2 = false ∧ x_1.1 = 0) ∧ ∀ (i : Nat), i < s.2 → x_1.3 i 0 = s.6 (s.1 + i) 0) → endN (lstCon queR) nzL rpL (LstS.mk l m c nn z (1 : Int) key x) (SV.t [SA.c (.so 3 0 1 s.2 x_1.1 x_1.2), SA.a [Seg.one (.v (.int .i64 (3 : Int))), Seg.one (.v (.int .i64 (0 : Int)))]]) [SB.rows 3 [.int .i64] 1 m c z, SB.cells [Seg.one (.v (.int .i64 (1 : Int))), Seg.one (.v (.int .i64 key)), Seg.one (.v (.int .i64 x))] 30, SB.cells [Seg.one (.v (.int .i64 (3 : Int))), Seg.one (.v (.int .i64 (0 : Int)))] 32, SB.rows 3 [.int .i64] 1 s.2 x_1.1 x_1.3] else drawP Tryd.f45 5 (regOps Tryd.f45 5) 3 [HX.mk 1 [0] [4] [] true, HX.mk 6 [] [] [] false, HX.mk 4 [] [3] [3] false, HX.mk 3 [1] [] [] false, HX.mk 2 [] [] [1] false, HX.mk 0 [] [] [0] false] ∧ ∃ (s : CloS), [SA.c (.so 0 0 1 (List.length l) c nn)] = [SA.c (.so 0 s.1 1 s.2 s.4 s.5)] ∧ [SB.rows 3 [.int .i64] 1 m c z] = [SB.rows 3 [.int .i64] 1 s.3 s.4 s.6] ∧ (s.1 + s.2 ≤ s.3 ∧ s.2 ≤ 1000) ∧ ∀ (x_1 : CloR), (s.2 ≤ x_1.1 ∧ ((match Nat.beq s.4 0 with | false => false | true => bif s.5 then false else true) = true → x_1.2 = false ∧ x_1.1 = 0) ∧ ∀ (i : Nat), i < s.2 → x_1.3 i 0 = s.6 (s.1 + i) 0) → drawP Tryd.f45 5 (regOps Tryd.f45 5) 3 [HX.mk 5 [3] [4, 5] [] true, HX.mk 1 [0] [4] [4] true, HX.mk 6 [] [] [] false, HX.mk 4 [] [3] [3] false, HX.mk 3 [1] [] [] false, HX.mk 2 [] [] [1] false, HX.mk 0 [] [] [0] false] ∧ ((s.2 ≤ s.2 ∧ x_1.1 = x_1.1) ∧ (1 ≤ 1 ∧ 1 = 1) ∧ s.2 + 1 ≤ 68719476736) ∧ ∀ (c_1 : Nat), s.2 + 1 ≤ c_1 → drawP Tryd.f45 5 (regOps Tryd.f45 5) 3 [HX.mk 8 [] [2] [] false, HX.mk 7 [] [] [5] false, HX.mk 5 [3] [4, 5] [5] true, HX.mk 1 [0] [4] [4] true, HX.mk 6 [] [] [] false, HX.mk 4 [] [3] [3] false, HX.mk 3 [1] [] [] false, HX.mk 2 [] [] [1] false, HX.mk 0 [] [] [0] false] ∧ endN (lstCon queR) nzL rpL (LstS.mk l m c nn z (1 : Int) key x) (SV.t [SA.c (.so 5 0 1 (s.2 + 1) c_1 x_1.2), SA.a [Seg.one (.v (.int .i64 (1 : Int))), Seg.one (.v (.int .i64 (0 : Int)))]]) [SB.rows 3 [.int .i64] 1 m c z, SB.cells [Seg.one (.v (.int .i64 (1 : Int))), Seg.one (.v (.int .i64 key)), Seg.one (.v (.int .i64 x))] 30, SB.cells [Seg.one (.v (.int .i64 (1 : Int))), Seg.one (.v (.int .i64 (0 : Int)))] 32, SB.rows 3 [.int .i64] 1 1 1 fun (i j : Nat) => match List.get?Internal (match List.get?Internal [[x]] i with | some x => x | none => []) j with | some x => x | none => (0 : Int), SB.gone, SB.rows 3 [.int .i64] 1 (s.2 + 1) c_1 fun (i j : Nat) => bif Nat.ble (i + 1) s.2 then x_1.3 i j else match List.get?Internal (match List.get?Internal [[x]] (0 + (i - s.2)) with | some x => x | none => []) j with | some x => x | none => (0 : Int)]) (by kernel_rfl) ?_
    refine ⟨h2, by_cond (fun h => ?_) (fun h => ?_)⟩
    · have h := of_decide_eq_true h
      have e : queR l 1 x = (l, 3, 0) := by unfold queR; rw [if_pos rfl, if_pos (by omega)]
      exact ⟨⟨0, l.length, m, c, nn, z⟩, rfl, rfl, hs, fun y hy => lst_end _ _ _ _ _ _ _ _ _ _ _ rfl rfl rfl _ e rfl (Nat.le_refl _) hy.1 (h4.sub fun i hi => (hy.2.2 i hi).trans (by rw [Nat.zero_add])) rfl rfl⟩
    · have h := of_decide_eq_false h
      have e : queR l 1 x = (l ++ [x], 1, 0) := by unfold queR; rw [if_pos rfl, if_neg (by omega)]
      refine ⟨draw_of (by kernel_rfl), ⟨0, l.length, m, c, nn, z⟩, rfl, rfl, hs, fun y hy => ⟨draw_of (by kernel_rfl), ⟨⟨Nat.le_refl _, rfl⟩, ⟨Nat.le_refl _, rfl⟩, by dsimp only; omega⟩, fun c' hc' => ⟨draw_of (by kernel_rfl), ?_⟩⟩⟩
      exact lst_end _ _ _ _ _ _ _ _ _ _ _ rfl rfl rfl _ e (by simp) (Nat.le_refl _) hc' ((h4.snoc (fun i hi => (catT hi).trans ((hy.2.2 i hi).trans (by rw [Nat.zero_add]))) (catF.trans (by rw [Nat.sub_self]; rfl)))) rfl rfl
  ·
    refine by_eq (q :=
        List.length l ≤ c ∧ bif (↑(List.length l) : Int) == (0 : Int) then endN (lstCon queR) nzL rpL (LstS.mk l m c nn z (2 : Int) key x) (SV.t [SA.c (.v (Value.slice none 0 0)), SA.a [Seg.one (.v (.int .i64 (2 : Int))), Seg.one (.v (.int .i64 (0 : Int)))]]) [SB.rows 3 [.int .i64] 1 m c z, SB.cells [Seg.one (.v (.int .i64 (2 : Int))), Seg.one (.v (.int .i64 key)), Seg.one (.v (.int .i64 x))] 30, SB.cells [Seg.one (.v (.int .i64 (2 : Int))), Seg.one (.v (.int .i64 (0 : Int)))] 32] else ((0 : Int) ≤ (1 : Int) ∧ (1 : Int) ≤ (↑(List.length l) : Int) ∧ (↑(List.length l) : Int) ≤ (↑c : Int) ∧ (0 = 0 ∨ (1 : Int) < (↑c : Int))) ∧ ((0 : Int) ≤ (0 : Int) ∧ (0 : Int) < (↑(List.length l) : Int) ∧ 0 + List.length l ≤ c) ∧ 0 < m ∧ drawP Tryd.f45 12 (regOps Tryd.f45 12) 3 [HX.mk 2 [0] [3] [] true, HX.mk 6 [] [] [] false, HX.mk 5 [0] [] [] false, HX.mk 4 [] [] [0] false, HX.mk 3 [] [] [0] false, HX.mk 1 [] [] [0] false, HX.mk 0 [] [] [0] false] ∧ ∃ (s : CloS), [SA.c (SC.so 0 1 1 (match Int.toNat (↑(List.length l) : Int) with | 0 => 0 | Nat.succ a => a) c nn)] = [SA.c (.so 0 s.1 1 s.2 s.4 s.5)] ∧ [SB.rows 3 [.int .i64] 1 m c z] = [SB.rows 3 [.int .i64] 1 s.3 s.4 s.6] ∧ (s.1 + s.2 ≤ s.3 ∧ s.2 ≤ 1000) ∧ ∀ (x_1 : CloR), (s.2 ≤ x_1.1 ∧ ((match Nat.beq s.4 0 with | false => false | true => bif s.5 then false else true) = true → x_1.2 = false ∧ x_1.1 = 0) ∧ ∀ (i : Nat), i < s.2 → x_1.3 i 0 = s.6 (s.1 + i) 0) → drawP Tryd.f45 12 (regOps Tryd.f45 12) 3 [HX.mk 8 [] [2] [] false, HX.mk 7 [] [] [3] false, HX.mk 2 [0] [3] [3] true, HX.mk 6 [] [] [] false, HX.mk 5 [0] [] [] false, HX.mk 4 [] [] [0] false, HX.mk 3 [] [] [0] false, HX.mk 1 [] [] [0] false, HX.mk 0 [] [] [0] false] ∧ endN (lstCon queR) nzL rpL (LstS.mk l m c nn z (2 : Int) key x) (SV.t [SA.c (.so 3 0 1 s.2 x_1.1 x_1.2), SA.a [Seg.one (.v (.int .i64 (1 : Int))), Seg.one (.v (.int .i64 (z 0 0)))]]) [SB.rows 3 [.int .i64] 1 m c z, SB.cells [Seg.one (.v (.int .i64 (2 : Int))), Seg.one (.v (.int .i64 key)), Seg.one (.v (.int .i64 x))] 30, SB.cells [Seg.one (.v (.int .i64 (1 : Int))), Seg.one (.v (.int .i64 (z 0 0)))] 32, SB.rows 3 [.int .i64] 1 s.2 x_1.1 x_1.3]) (by kernel_rfl) ?_
    refine ⟨h2, by_cond (fun h => ?_) (fun h => ?_)⟩
    · have h := len0 h
      subst h
      exact lst_nil _ _ _ _ _ rfl _ rfl rfl rfl rfl
    · have h := lenP h
      have e : queR l 2 x = (l.tail, 1, l.getD 0 0) := by unfold queR; rw [if_neg (by decide), if_pos (.inl rfl), if_neg (by omega), if_neg (by decide)]
      refine ⟨⟨by decide, by omega, by omega, .inl rfl⟩, ⟨by decide, by omega, by omega⟩, (by omega : 0 < m), draw_of (by kernel_rfl), ⟨1, l.length - 1, m, c, nn, z⟩, by rw [Int.toNat_natCast]; rfl, rfl, (show 1 + (l.length - 1) ≤ m ∧ l.length - 1 ≤ 1000 from ⟨by omega, by omega⟩), fun y hy => ⟨draw_of (by kernel_rfl), ?_⟩⟩
      refine lst_end _ _ _ _ _ _ _ _ _ _ _ rfl rfl rfl _ e (by simp) (Nat.le_refl _) hy.1 (fun i hi => ?_) rfl (h4 0 h)
      have hi : i < l.length - 1 := by simpa using hi
      refine (hy.2.2 i hi).trans ((h4 (1 + i) (by omega)).trans ?_)
      cases l with
      | nil => simp at h
      | cons a r => simp [Nat.add_comm 1 i]
  ·
    refine by_eq (q :=
        ∃ (s : CloS), [SA.c (.so 0 0 1 (List.length l) c nn)] = [SA.c (.so 0 s.1 1 s.2 s.4 s.5)] ∧ [SB.rows 3 [.int .i64] 1 m c z] = [SB.rows 3 [.int .i64] 1 s.3 s.4 s.6] ∧ (s.1 + s.2 ≤ s.3 ∧ s.2 ≤ 1000) ∧ ∀ (x_1 : CloR), (s.2 ≤ x_1.1 ∧ ((match Nat.beq s.4 0 with | false => false | true => bif s.5 then false else true) = true → x_1.2 = false ∧ x_1.1 = 0) ∧ ∀ (i : Nat), i < s.2 → x_1.3 i 0 = s.6 (s.1 + i) 0) → endN (lstCon queR) nzL rpL (LstS.mk l m c nn z (3 : Int) key x) (SV.t [SA.c (.so 3 0 1 s.2 x_1.1 x_1.2), SA.a [Seg.one (.v (.int .i64 (5 : Int))), Seg.one (.v (.int .i64 (0 : Int)))]]) [SB.rows 3 [.int .i64] 1 m c z, SB.cells [Seg.one (.v (.int .i64 (3 : Int))), Seg.one (.v (.int .i64 key)), Seg.one (.v (.int .i64 x))] 30, SB.cells [Seg.one (.v (.int .i64 (5 : Int))), Seg.one (.v (.int .i64 (0 : Int)))] 32, SB.rows 3 [.int .i64] 1 s.2 x_1.1 x_1.3]) (by kernel_rfl) ?_
    exact ⟨⟨0, l.length, m, c, nn, z⟩, rfl, rfl, hs, fun y hy => lst_end _ _ _ _ _ _ _ _ _ _ _ rfl rfl rfl (l, 5, 0) rfl rfl (Nat.le_refl _) hy.1 (h4.sub fun i hi => (hy.2.2 i hi).trans (by rw [Nat.zero_add])) rfl rfl⟩
  ·
    refine by_eq (q :=
        ∃ (s : CloS), [SA.c (.so 0 0 1 (List.length l) c nn)] = [SA.c (.so 0 s.1 1 s.2 s.4 s.5)] ∧ [SB.rows 3 [.int .i64] 1 m c z] = [SB.rows 3 [.int .i64] 1 s.3 s.4 s.6] ∧ (s.1 + s.2 ≤ s.3 ∧ s.2 ≤ 1000) ∧ ∀ (x_1 : CloR), (s.2 ≤ x_1.1 ∧ ((match Nat.beq s.4 0 with | false => false | true => bif s.5 then false else true) = true → x_1.2 = false ∧ x_1.1 = 0) ∧ ∀ (i : Nat), i < s.2 → x_1.3 i 0 = s.6 (s.1 + i) 0) → endN (lstCon queR) nzL rpL (LstS.mk l m c nn z (4 : Int) key x) (SV.t [SA.c (.so 3 0 1 s.2 x_1.1 x_1.2), SA.a [Seg.one (.v (.int .i64 (5 : Int))), Seg.one (.v (.int .i64 (0 : Int)))]]) [SB.rows 3 [.int .i64] 1 m c z, SB.cells [Seg.one (.v (.int .i64 (4 : Int))), Seg.one (.v (.int .i64 key)), Seg.one (.v (.int .i64 x))] 30, SB.cells [Seg.one (.v (.int .i64 (5 : Int))), Seg.one (.v (.int .i64 (0 : Int)))] 32, SB.rows 3 [.int .i64] 1 s.2 x_1.1 x_1.3]) (by kernel_rfl) ?_
    exact ⟨⟨0, l.length, m, c, nn, z⟩, rfl, rfl, hs, fun y hy => lst_end _ _ _ _ _ _ _ _ _ _ _ rfl rfl rfl (l, 5, 0) rfl rfl (Nat.le_refl _) hy.1 (h4.sub fun i hi => (hy.2.2 i hi).trans (by rw [Nat.zero_add])) rfl rfl⟩
  ·
    refine by_eq (q :=
        List.length l ≤ c ∧ bif (↑(List.length l) : Int) == (0 : Int) then endN (lstCon queR) nzL rpL (LstS.mk l m c nn z (5 : Int) key x) (SV.t [SA.c (.v (Value.slice none 0 0)), SA.a [Seg.one (.v (.int .i64 (2 : Int))), Seg.one (.v (.int .i64 (0 : Int)))]]) [SB.rows 3 [.int .i64] 1 m c z, SB.cells [Seg.one (.v (.int .i64 (5 : Int))), Seg.one (.v (.int .i64 key)), Seg.one (.v (.int .i64 x))] 30, SB.cells [Seg.one (.v (.int .i64 (2 : Int))), Seg.one (.v (.int .i64 (0 : Int)))] 32] else ((0 : Int) ≤ (0 : Int) ∧ (0 : Int) < (↑(List.length l) : Int) ∧ 0 + List.length l ≤ c) ∧ 0 < m ∧ drawP Tryd.f45 11 (regOps Tryd.f45 11) 3 [HX.mk 1 [0] [3] [] true, HX.mk 5 [] [] [] false, HX.mk 4 [0] [] [] false, HX.mk 3 [] [] [0] false, HX.mk 2 [] [] [0] false, HX.mk 0 [] [] [0] false] ∧ ∃ (s : CloS), [SA.c (.so 0 0 1 (List.length l) c nn)] = [SA.c (.so 0 s.1 1 s.2 s.4 s.5)] ∧ [SB.rows 3 [.int .i64] 1 m c z] = [SB.rows 3 [.int .i64] 1 s.3 s.4 s.6] ∧ (s.1 + s.2 ≤ s.3 ∧ s.2 ≤ 1000) ∧ ∀ (x_1 : CloR), (s.2 ≤ x_1.1 ∧ ((match Nat.beq s.4 0 with | false => false | true => bif s.5 then false else true) = true → x_1.2 = false ∧ x_1.1 = 0) ∧ ∀ (i : Nat), i < s.2 → x_1.3 i 0 = s.6 (s.1 + i) 0) → drawP Tryd.f45 11 (regOps Tryd.f45 11) 3 [HX.mk 7 [] [2] [] false, HX.mk 6 [] [] [3] false, HX.mk 1 [0] [3] [3] true, HX.mk 5 [] [] [] false, HX.mk 4 [0] [] [] false, HX.mk 3 [] [] [0] false, HX.mk 2 [] [] [0] false, HX.mk 0 [] [] [0] false] ∧ endN (lstCon queR) nzL rpL (LstS.mk l m c nn z (5 : Int) key x) (SV.t [SA.c (.so 3 0 1 s.2 x_1.1 x_1.2), SA.a [Seg.one (.v (.int .i64 (1 : Int))), Seg.one (.v (.int .i64 (z 0 0)))]]) [SB.rows 3 [.int .i64] 1 m c z, SB.cells [Seg.one (.v (.int .i64 (5 : Int))), Seg.one (.v (.int .i64 key)), Seg.one (.v (.int .i64 x))] 30, SB.cells [Seg.one (.v (.int .i64 (1 : Int))), Seg.one (.v (.int .i64 (z 0 0)))] 32, SB.rows 3 [.int .i64] 1 s.2 x_1.1 x_1.3]) (by kernel_rfl) ?_
    refine ⟨h2, by_cond (fun h => ?_) (fun h => ?_)⟩
    · have h := len0 h
      subst h
      exact lst_nil _ _ _ _ _ rfl _ rfl rfl rfl rfl
    · have h := lenP h
      have e : queR l 5 x = (l, 1, l.getD 0 0) := by unfold queR; rw [if_neg (by decide), if_pos (.inr rfl), if_neg (by omega), if_pos rfl]
      refine ⟨⟨by decide, by omega, by omega⟩, (by omega : 0 < m), draw_of (by kernel_rfl), ⟨0, l.length, m, c, nn, z⟩, rfl, rfl, hs, fun y hy => ⟨draw_of (by kernel_rfl), ?_⟩⟩
      exact lst_end _ _ _ _ _ _ _ _ _ _ _ rfl rfl rfl _ e rfl (Nat.le_refl _) hy.1 (h4.sub fun i hi => (hy.2.2 i hi).trans (by rw [Nat.zero_add])) rfl (h4 0 h)
  ·
    refine by_eq (q :=
        ∃ (s : CloS), [SA.c (.so 0 0 1 (List.length l) c nn)] = [SA.c (.so 0 s.1 1 s.2 s.4 s.5)] ∧ [SB.rows 3 [.int .i64] 1 m c z] = [SB.rows 3 [.int .i64] 1 s.3 s.4 s.6] ∧ (s.1 + s.2 ≤ s.3 ∧ s.2 ≤ 1000) ∧ ∀ (x_1 : CloR), (s.2 ≤ x_1.1 ∧ ((match Nat.beq s.4 0 with | false => false | true => bif s.5 then false else true) = true → x_1.2 = false ∧ x_1.1 = 0) ∧ ∀ (i : Nat), i < s.2 → x_1.3 i 0 = s.6 (s.1 + i) 0) → List.length l ≤ c ∧ endN (lstCon queR) nzL rpL (LstS.mk l m c nn z (6 : Int) key x) (SV.t [SA.c (.so 3 0 1 s.2 x_1.1 x_1.2), SA.a [Seg.one (.v (.int .i64 (1 : Int))), Seg.one (.v (.int .i64 (↑(List.length l) : Int)))]]) [SB.rows 3 [.int .i64] 1 m c z, SB.cells [Seg.one (.v (.int .i64 (6 : Int))), Seg.one (.v (.int .i64 key)), Seg.one (.v (.int .i64 x))] 30, SB.cells [Seg.one (.v (.int .i64 (1 : Int))), Seg.one (.v (.int .i64 (↑(List.length l) : Int)))] 32, SB.rows 3 [.int .i64] 1 s.2 x_1.1 x_1.3]) (by kernel_rfl) ?_
    exact ⟨⟨0, l.length, m, c, nn, z⟩, rfl, rfl, hs, fun y hy => ⟨h2, lst_end _ _ _ _ _ _ _ _ _ _ _ rfl rfl rfl (l, 1, (l.length : Int)) rfl rfl (Nat.le_refl _) hy.1 (h4.sub fun i hi => (hy.2.2 i hi).trans (by rw [Nat.zero_add])) rfl rfl⟩⟩
end Go.Proofs.YtacgihekdmoceaaDoor
end
section
namespace Go.Proofs.YtacgihekdmoceaaDoor
open Go.RowKit
set_option linter.unusedVariables false
set_option maxRecDepth 100000
set_option maxHeartbeats 4000000
theorem lenW {n : Nat} (h : n ≤ 1000) : IntKind.wrap .i64 ((n : Int) - 1) = (n : Int) - 1 := by
  simp only [IntKind.wrap, IntKind.bits, IntKind.signed]; simp; omega
theorem stack_con : (Con.mem (lstCon stkR)).holds Tryd.prog 46 := by
  intro w0 S
  refine mem_of_run (AG := []) (Γ := [(70, .rd conClone)]) (fun _ => noW) Tryd.func46 rfl (by kernel_rfl) tabL_ok tabL_tys (fun w S' _ _ => .cons (clone_con w S') (.nil _ _ _)) (lstCon stkR) (fun x0 h => by cases h) (fun s ρ w _ _ _ => noW_old w _)
    nzL rpL 400 ?_
  rintro ⟨l, m, c, nn, z, k, key, x⟩ w ⟨h1, ⟨h2m, h2c⟩, h4, h5, h6⟩ -
  refine ⟨rfl, ?_⟩
  dsimp only at h1 h2m h2c h4 h5 h6
  have h2 := Nat.le_trans h2m h2c
  have hs : 0 + l.length ≤ m ∧ l.length ≤ 1000 := ⟨by omega, by omega⟩
  have hk : k = 1 ∨ k = 2 ∨ k = 3 ∨ k = 4 ∨ k = 5 ∨ k = 6 := by omega
  rcases hk with rfl | rfl | rfl | rfl | rfl | rfl
  ·
    refine by_eq (q :=
        ∃ (s : CloS), [SA.c (.so 0 0 1 (List.length l) c nn)] = [SA.c (.so 0 s.1 1 s.2 s.4 s.5)] ∧ [SB.rows 3 [.int .i64] 1 m c z] = [SB.rows 3 [.int .i64] 1 s.3 s.4 s.6] ∧ (s.1 + s.2 ≤ s.3 ∧ s.2 ≤ 1000) ∧ ∀ (x_1 : CloR), (s.2 ≤ x_1.1 ∧ ((match Nat.beq s.4 0 with | false => false | true => bif s.5 then false else true) = true → x_1.2 = false ∧ x_1.1 = 0) ∧ ∀ (i : Nat), i < s.2 → x_1.3 i 0 = s.6 (s.1 + i) 0) → s.2 ≤ x_1.1 ∧ s.2 ≤ x_1.1 ∧ bif decide ((↑s.2 : Int) ≥ (6 : Int)) then endN (lstCon stkR) nzL rpL (LstS.mk l m c nn z (1 : Int) key x) (SV.t [SA.c (.so 3 0 1 s.2 x_1.1 x_1.2), SA.a [Seg.one (.v (.int .i64 (3 : Int))), Seg.one (.v (.int .i64 (0 : Int)))]]) [SB.rows 3 [.int .i64] 1 m c z, SB.cells [Seg.one (.v (.int .i64 (1 : Int))), Seg.one (.v (.int .i64 key)), Seg.one (.v (.int .i64 x))] 30, SB.cells [Seg.one (.v (.int .i64 (3 : Int))), Seg.one (.v (.int .i64 (0 : Int)))] 32, SB.rows 3 [.int .i64] 1 s.2 x_1.1 x_1.3] else ((s.2 ≤ s.2 ∧ x_1.1 = x_1.1) ∧ (1 ≤ 1 ∧ 1 = 1) ∧ s.2 + 1 ≤ 68719476736) ∧ ∀ (c_1 : Nat), s.2 + 1 ≤ c_1 → endN (lstCon stkR) nzL rpL (LstS.mk l m c nn z (1 : Int) key x) (SV.t [SA.c (.so 5 0 1 (s.2 + 1) c_1 x_1.2), SA.a [Seg.one (.v (.int .i64 (1 : Int))), Seg.one (.v (.int .i64 (0 : Int)))]]) [SB.rows 3 [.int .i64] 1 m c z, SB.cells [Seg.one (.v (.int .i64 (1 : Int))), Seg.one (.v (.int .i64 key)), Seg.one (.v (.int .i64 x))] 30, SB.cells [Seg.one (.v (.int .i64 (1 : Int))), Seg.one (.v (.int .i64 (0 : Int)))] 32, SB.gone, SB.rows 3 [.int .i64] 1 1 1 fun (i j : Nat) => match List.get?Internal (match List.get?Internal [[x]] i with | some x => x | none => []) j with | some x => x | none => (0 : Int), SB.rows 3 [.int .i64] 1 (s.2 + 1) c_1 fun (i j : Nat) => bif Nat.ble (i + 1) s.2 then x_1.3 i j else match List.get?Internal (match List.get?Internal [[x]] (0 + (i - s.2)) with | some x => x | none => []) j with | some x => x | none => (0 : Int)]) (by kernel_rfl) ?_
    refine ⟨⟨0, l.length, m, c, nn, z⟩, rfl, rfl, hs, fun y hy => ⟨hy.1, hy.1, by_cond (fun h => ?_) (fun h => ?_)⟩⟩
    · have h : l.length ≥ 6 := by have := of_decide_eq_true h; dsimp only at this; omega
      have e : stkR l 1 x = (l, 3, 0) := by unfold stkR; rw [if_pos rfl, if_pos (by omega)]
      exact lst_end _ _ _ _ _ _ _ _ _ _ _ rfl rfl rfl _ e rfl (Nat.le_refl _) hy.1 (h4.sub fun i hi => (hy.2.2 i hi).trans (by rw [Nat.zero_add])) rfl rfl
    · have h : l.length < 6 := by have := of_decide_eq_false h; dsimp only at this; omega
      have e : stkR l 1 x = (l ++ [x], 1, 0) := by unfold stkR; rw [if_pos rfl, if_neg (by omega)]
      refine ⟨⟨⟨Nat.le_refl _, rfl⟩, ⟨Nat.le_refl _, rfl⟩, by dsimp only; omega⟩, fun c' hc' => ?_⟩
      exact lst_end _ _ _ _ _ _ _ _ _ _ _ rfl rfl rfl _ e (by simp) (Nat.le_refl _) hc' (h4.snoc (fun i hi => (catT hi).trans ((hy.2.2 i hi).trans (by rw [Nat.zero_add]))) (catF.trans (by rw [Nat.sub_self]; rfl))) rfl rfl
  ·
    refine by_eq (q :=
        ∃ (s : CloS), [SA.c (.so 0 0 1 (List.length l) c nn)] = [SA.c (.so 0 s.1 1 s.2 s.4 s.5)] ∧ [SB.rows 3 [.int .i64] 1 m c z] = [SB.rows 3 [.int .i64] 1 s.3 s.4 s.6] ∧ (s.1 + s.2 ≤ s.3 ∧ s.2 ≤ 1000) ∧ ∀ (x_1 : CloR), (s.2 ≤ x_1.1 ∧ ((match Nat.beq s.4 0 with | false => false | true => bif s.5 then false else true) = true → x_1.2 = false ∧ x_1.1 = 0) ∧ ∀ (i : Nat), i < s.2 → x_1.3 i 0 = s.6 (s.1 + i) 0) → s.2 ≤ x_1.1 ∧ bif decide (IntKind.wrap .i64 ((↑s.2 : Int) - (1 : Int)) < (0 : Int)) then endN (lstCon stkR) nzL rpL (LstS.mk l m c nn z (2 : Int) key x) (SV.t [SA.c (.so 3 0 1 s.2 x_1.1 x_1.2), SA.a [Seg.one (.v (.int .i64 (2 : Int))), Seg.one (.v (.int .i64 (0 : Int)))]]) [SB.rows 3 [.int .i64] 1 m c z, SB.cells [Seg.one (.v (.int .i64 (2 : Int))), Seg.one (.v (.int .i64 key)), Seg.one (.v (.int .i64 x))] 30, SB.cells [Seg.one (.v (.int .i64 (2 : Int))), Seg.one (.v (.int .i64 (0 : Int)))] 32, SB.rows 3 [.int .i64] 1 s.2 x_1.1 x_1.3] else ((0 : Int) ≤ IntKind.wrap .i64 ((↑s.2 : Int) - (1 : Int)) ∧ IntKind.wrap .i64 ((↑s.2 : Int) - (1 : Int)) ≤ (↑x_1.1 : Int)) ∧ ((0 : Int) ≤ IntKind.wrap .i64 ((↑s.2 : Int) - (1 : Int)) ∧ IntKind.wrap .i64 ((↑s.2 : Int) - (1 : Int)) < (↑s.2 : Int) ∧ 0 + s.2 ≤ x_1.1) ∧ 0 + Int.toNat (IntKind.wrap .i64 ((↑s.2 : Int) - (1 : Int))) < s.2 ∧ drawP Tryd.f46 15 (regOps Tryd.f46 15) 4 [HX.mk 9 [] [2] [] false, HX.mk 8 [] [] [3] false, HX.mk 7 [] [] [] false, HX.mk 6 [3] [] [] false, HX.mk 5 [] [] [3] false, HX.mk 4 [] [] [] false, HX.mk 3 [] [] [3] false, HX.mk 2 [] [] [3] false, HX.mk 1 [] [] [] false, HX.mk 0 [] [] [3] false] ∧ endN (lstCon stkR) nzL rpL (LstS.mk l m c nn z (2 : Int) key x) (SV.t [SA.c (.so 3 0 1 (Int.toNat (IntKind.wrap .i64 ((↑s.2 : Int) - (1 : Int)))) x_1.1 x_1.2), SA.a [Seg.one (.v (.int .i64 (1 : Int))), Seg.one (SC.v (Value.int .i64 (x_1.3 (0 + Int.toNat (IntKind.wrap .i64 ((↑s.2 : Int) - (1 : Int)))) 0)))]]) [SB.rows 3 [.int .i64] 1 m c z, SB.cells [Seg.one (.v (.int .i64 (2 : Int))), Seg.one (.v (.int .i64 key)), Seg.one (.v (.int .i64 x))] 30, SB.cells [Seg.one (.v (.int .i64 (1 : Int))), Seg.one (SC.v (Value.int .i64 (x_1.3 (0 + Int.toNat (IntKind.wrap .i64 ((↑s.2 : Int) - (1 : Int)))) 0)))] 32, SB.rows 3 [.int .i64] 1 s.2 x_1.1 x_1.3]) (by kernel_rfl) ?_
    refine ⟨⟨0, l.length, m, c, nn, z⟩, rfl, rfl, hs, fun y hy => ⟨hy.1, ?_⟩⟩
    dsimp only at hy ⊢
    rw [lenW (by omega)]
    refine by_cond (fun h => ?_) (fun h => ?_)
    · have h : l.length = 0 := by have := of_decide_eq_true h; omega
      have e : stkR l 2 x = (l, 2, 0) := by unfold stkR; rw [if_neg (by decide), if_pos (.inl rfl), if_pos h]
      exact lst_end _ _ _ _ _ _ _ _ _ _ _ rfl rfl rfl _ e rfl (Nat.le_refl _) hy.1 (h4.sub fun i hi => (hy.2.2 i hi).trans (by rw [Nat.zero_add])) rfl rfl
    · have h : 0 < l.length := by have := of_decide_eq_false h; omega
      have e : stkR l 2 x = (l.take (l.length - 1), 1, l.getD (l.length - 1) 0) := by unfold stkR; rw [if_neg (by decide), if_pos (.inl rfl), if_neg (by omega), if_neg (by decide)]
      have ht : ((l.length : Int) - 1).toNat = l.length - 1 := by omega
      rw [ht]
      refine ⟨⟨by omega, by omega⟩, ⟨by omega, by omega, by omega⟩, by omega, draw_of (by kernel_rfl), ?_⟩
      refine lst_end _ _ _ _ _ _ _ _ _ _ _ rfl rfl rfl _ e (by simp) (by omega) hy.1 (fun i hi => ?_) rfl ?_
      · have hi : i < l.length - 1 := by simp at hi; omega
        rw [hy.2.2 i (by omega), Nat.zero_add, h4 i (by omega)]
        rw [List.getD_eq_getElem?_getD, List.getD_eq_getElem?_getD, List.getElem?_take, if_pos hi]
      · rw [hy.2.2 _ (by omega), Nat.zero_add, Nat.zero_add, h4 _ (by omega)]
  ·
    refine by_eq (q :=
        ∃ (s : CloS), [SA.c (.so 0 0 1 (List.length l) c nn)] = [SA.c (.so 0 s.1 1 s.2 s.4 s.5)] ∧ [SB.rows 3 [.int .i64] 1 m c z] = [SB.rows 3 [.int .i64] 1 s.3 s.4 s.6] ∧ (s.1 + s.2 ≤ s.3 ∧ s.2 ≤ 1000) ∧ ∀ (x_1 : CloR), (s.2 ≤ x_1.1 ∧ ((match Nat.beq s.4 0 with | false => false | true => bif s.5 then false else true) = true → x_1.2 = false ∧ x_1.1 = 0) ∧ ∀ (i : Nat), i < s.2 → x_1.3 i 0 = s.6 (s.1 + i) 0) → s.2 ≤ x_1.1 ∧ endN (lstCon stkR) nzL rpL (LstS.mk l m c nn z (3 : Int) key x) (SV.t [SA.c (.so 3 0 1 s.2 x_1.1 x_1.2), SA.a [Seg.one (.v (.int .i64 (5 : Int))), Seg.one (.v (.int .i64 (0 : Int)))]]) [SB.rows 3 [.int .i64] 1 m c z, SB.cells [Seg.one (.v (.int .i64 (3 : Int))), Seg.one (.v (.int .i64 key)), Seg.one (.v (.int .i64 x))] 30, SB.cells [Seg.one (.v (.int .i64 (5 : Int))), Seg.one (.v (.int .i64 (0 : Int)))] 32, SB.rows 3 [.int .i64] 1 s.2 x_1.1 x_1.3]) (by kernel_rfl) ?_
    refine ⟨⟨0, l.length, m, c, nn, z⟩, rfl, rfl, hs, fun y hy => ⟨hy.1, ?_⟩⟩
    exact lst_end _ _ _ _ _ _ _ _ _ _ _ rfl rfl rfl (l, 5, 0) rfl rfl (Nat.le_refl _) hy.1 (h4.sub fun i hi => (hy.2.2 i hi).trans (by rw [Nat.zero_add])) rfl rfl
  ·
    refine by_eq (q :=
        ∃ (s : CloS), [SA.c (.so 0 0 1 (List.length l) c nn)] = [SA.c (.so 0 s.1 1 s.2 s.4 s.5)] ∧ [SB.rows 3 [.int .i64] 1 m c z] = [SB.rows 3 [.int .i64] 1 s.3 s.4 s.6] ∧ (s.1 + s.2 ≤ s.3 ∧ s.2 ≤ 1000) ∧ ∀ (x_1 : CloR), (s.2 ≤ x_1.1 ∧ ((match Nat.beq s.4 0 with | false => false | true => bif s.5 then false else true) = true → x_1.2 = false ∧ x_1.1 = 0) ∧ ∀ (i : Nat), i < s.2 → x_1.3 i 0 = s.6 (s.1 + i) 0) → s.2 ≤ x_1.1 ∧ endN (lstCon stkR) nzL rpL (LstS.mk l m c nn z (4 : Int) key x) (SV.t [SA.c (.so 3 0 1 s.2 x_1.1 x_1.2), SA.a [Seg.one (.v (.int .i64 (5 : Int))), Seg.one (.v (.int .i64 (0 : Int)))]]) [SB.rows 3 [.int .i64] 1 m c z, SB.cells [Seg.one (.v (.int .i64 (4 : Int))), Seg.one (.v (.int .i64 key)), Seg.one (.v (.int .i64 x))] 30, SB.cells [Seg.one (.v (.int .i64 (5 : Int))), Seg.one (.v (.int .i64 (0 : Int)))] 32, SB.rows 3 [.int .i64] 1 s.2 x_1.1 x_1.3]) (by kernel_rfl) ?_
    refine ⟨⟨0, l.length, m, c, nn, z⟩, rfl, rfl, hs, fun y hy => ⟨hy.1, ?_⟩⟩
    exact lst_end _ _ _ _ _ _ _ _ _ _ _ rfl rfl rfl (l, 5, 0) rfl rfl (Nat.le_refl _) hy.1 (h4.sub fun i hi => (hy.2.2 i hi).trans (by rw [Nat.zero_add])) rfl rfl
  ·
    refine by_eq (q :=
        ∃ (s : CloS), [SA.c (.so 0 0 1 (List.length l) c nn)] = [SA.c (.so 0 s.1 1 s.2 s.4 s.5)] ∧ [SB.rows 3 [.int .i64] 1 m c z] = [SB.rows 3 [.int .i64] 1 s.3 s.4 s.6] ∧ (s.1 + s.2 ≤ s.3 ∧ s.2 ≤ 1000) ∧ ∀ (x_1 : CloR), (s.2 ≤ x_1.1 ∧ ((match Nat.beq s.4 0 with | false => false | true => bif s.5 then false else true) = true → x_1.2 = false ∧ x_1.1 = 0) ∧ ∀ (i : Nat), i < s.2 → x_1.3 i 0 = s.6 (s.1 + i) 0) → s.2 ≤ x_1.1 ∧ bif decide (IntKind.wrap .i64 ((↑s.2 : Int) - (1 : Int)) < (0 : Int)) then endN (lstCon stkR) nzL rpL (LstS.mk l m c nn z (5 : Int) key x) (SV.t [SA.c (.so 3 0 1 s.2 x_1.1 x_1.2), SA.a [Seg.one (.v (.int .i64 (2 : Int))), Seg.one (.v (.int .i64 (0 : Int)))]]) [SB.rows 3 [.int .i64] 1 m c z, SB.cells [Seg.one (.v (.int .i64 (5 : Int))), Seg.one (.v (.int .i64 key)), Seg.one (.v (.int .i64 x))] 30, SB.cells [Seg.one (.v (.int .i64 (2 : Int))), Seg.one (.v (.int .i64 (0 : Int)))] 32, SB.rows 3 [.int .i64] 1 s.2 x_1.1 x_1.3] else ((0 : Int) ≤ IntKind.wrap .i64 ((↑s.2 : Int) - (1 : Int)) ∧ IntKind.wrap .i64 ((↑s.2 : Int) - (1 : Int)) < (↑s.2 : Int) ∧ 0 + s.2 ≤ x_1.1) ∧ 0 + Int.toNat (IntKind.wrap .i64 ((↑s.2 : Int) - (1 : Int))) < s.2 ∧ drawP Tryd.f46 14 (regOps Tryd.f46 14) 4 [HX.mk 7 [] [2] [] false, HX.mk 6 [] [] [3] false, HX.mk 5 [] [] [] false, HX.mk 4 [3] [] [] false, HX.mk 3 [] [] [3] false, HX.mk 2 [] [] [] false, HX.mk 1 [] [] [3] false, HX.mk 0 [] [] [3] false] ∧ endN (lstCon stkR) nzL rpL (LstS.mk l m c nn z (5 : Int) key x) (SV.t [SA.c (.so 3 0 1 s.2 x_1.1 x_1.2), SA.a [Seg.one (.v (.int .i64 (1 : Int))), Seg.one (SC.v (Value.int .i64 (x_1.3 (0 + Int.toNat (IntKind.wrap .i64 ((↑s.2 : Int) - (1 : Int)))) 0)))]]) [SB.rows 3 [.int .i64] 1 m c z, SB.cells [Seg.one (.v (.int .i64 (5 : Int))), Seg.one (.v (.int .i64 key)), Seg.one (.v (.int .i64 x))] 30, SB.cells [Seg.one (.v (.int .i64 (1 : Int))), Seg.one (.v (.int .i64 (x_1.3 (0 + Int.toNat (IntKind.wrap .i64 ((↑s.2 : Int) - (1 : Int)))) 0)))] 32, SB.rows 3 [.int .i64] 1 s.2 x_1.1 x_1.3]) (by kernel_rfl) ?_
    refine ⟨⟨0, l.length, m, c, nn, z⟩, rfl, rfl, hs, fun y hy => ⟨hy.1, ?_⟩⟩
    dsimp only at hy ⊢
    rw [lenW (by omega)]
    refine by_cond (fun h => ?_) (fun h => ?_)
    · have h : l.length = 0 := by have := of_decide_eq_true h; omega
      have e : stkR l 5 x = (l, 2, 0) := by unfold stkR; rw [if_neg (by decide), if_pos (.inr rfl), if_pos h]
      exact lst_end _ _ _ _ _ _ _ _ _ _ _ rfl rfl rfl _ e rfl (Nat.le_refl _) hy.1 (h4.sub fun i hi => (hy.2.2 i hi).trans (by rw [Nat.zero_add])) rfl rfl
    · have h : 0 < l.length := by have := of_decide_eq_false h; omega
      have e : stkR l 5 x = (l, 1, l.getD (l.length - 1) 0) := by unfold stkR; rw [if_neg (by decide), if_pos (.inr rfl), if_neg (by omega), if_pos rfl]
      have ht : ((l.length : Int) - 1).toNat = l.length - 1 := by omega
      rw [ht]
      refine ⟨⟨by omega, by omega, by omega⟩, by omega, draw_of (by kernel_rfl), ?_⟩
      refine lst_end _ _ _ _ _ _ _ _ _ _ _ rfl rfl rfl _ e rfl (Nat.le_refl _) hy.1 (h4.sub fun i hi => (hy.2.2 i hi).trans (by rw [Nat.zero_add])) rfl ?_
      rw [hy.2.2 _ (by omega), Nat.zero_add, Nat.zero_add, h4 _ (by omega)]
  ·
    refine by_eq (q :=
        ∃ (s : CloS), [SA.c (.so 0 0 1 (List.length l) c nn)] = [SA.c (.so 0 s.1 1 s.2 s.4 s.5)] ∧ [SB.rows 3 [.int .i64] 1 m c z] = [SB.rows 3 [.int .i64] 1 s.3 s.4 s.6] ∧ (s.1 + s.2 ≤ s.3 ∧ s.2 ≤ 1000) ∧ ∀ (x_1 : CloR), (s.2 ≤ x_1.1 ∧ ((match Nat.beq s.4 0 with | false => false | true => bif s.5 then false else true) = true → x_1.2 = false ∧ x_1.1 = 0) ∧ ∀ (i : Nat), i < s.2 → x_1.3 i 0 = s.6 (s.1 + i) 0) → s.2 ≤ x_1.1 ∧ s.2 ≤ x_1.1 ∧ endN (lstCon stkR) nzL rpL (LstS.mk l m c nn z (6 : Int) key x) (SV.t [SA.c (.so 3 0 1 s.2 x_1.1 x_1.2), SA.a [Seg.one (.v (.int .i64 (1 : Int))), Seg.one (.v (.int .i64 (↑s.2 : Int)))]]) [SB.rows 3 [.int .i64] 1 m c z, SB.cells [Seg.one (.v (.int .i64 (6 : Int))), Seg.one (.v (.int .i64 key)), Seg.one (.v (.int .i64 x))] 30, SB.cells [Seg.one (.v (.int .i64 (1 : Int))), Seg.one (.v (.int .i64 (↑s.2 : Int)))] 32, SB.rows 3 [.int .i64] 1 s.2 x_1.1 x_1.3]) (by kernel_rfl) ?_
    refine ⟨⟨0, l.length, m, c, nn, z⟩, rfl, rfl, hs, fun y hy => ⟨hy.1, hy.1, ?_⟩⟩
    exact lst_end _ _ _ _ _ _ _ _ _ _ _ rfl rfl rfl (l, 1, (l.length : Int)) rfl rfl (Nat.le_refl _) hy.1 (h4.sub fun i hi => (hy.2.2 i hi).trans (by rw [Nat.zero_add])) rfl rfl
end Go.Proofs.YtacgihekdmoceaaDoor
end
section
namespace Go.Proofs
open Go.Shelf
def Tryd.lays108_ren : Go.Shelf.Ren := ⟨fun | 108 => 84 | n => n, fun | 28 => 89 | 3 => 3 | 0 => 0 | 4 => 4 | n => n, fun | n => n⟩
theorem Tryd.lays108 : Go.Proofs.Lays.n108 Tryd.prog Tryd.lays108_ren := {
  mixed := by kernel_rfl
  f108 := Tryd.func84.trans (congrArg some (by kernel_rfl))
  t0 := Tryd.underlying0
  a0 := Tryd.isAgg0
  z0 := Tryd.sizeOf0
  v0 := Tryd.zeroValue0
  t3 := Tryd.underlying3
  a3 := Tryd.isAgg3
  z3 := Tryd.sizeOf3
  v3 := Tryd.zeroValue3
  t4 := Tryd.underlying4
  a4 := Tryd.isAgg4
  z4 := Tryd.sizeOf4
  v4 := Tryd.zeroValue4
  t28 := Tryd.underlying89
  a28 := Tryd.isAgg89
  z28 := Tryd.sizeOf89
  v28 := Tryd.zeroValue89 }
open Go.Lib in
/-- slices.Index at []int: "Index returns the index of the first occurrence of v in s, or -1 if not present.": IT RETURNS 'Lib.idxOf (the elements) v'; the world is as it was. 'zs': what the cells behind the slice's address hold (its spare capacity too, if you have it); 'zs.take n': its elements. (LAID: no walk: one application.) -/
theorem Tryd.slices_Index_int (b off n c : Nat) (zs : List Int) (x : Int) (w : World) (hz : n ≤ zs.length) (hbig : n ≤ 9223372036854775807) (hc : ∀ j, j < zs.length → w.cell? ⟨b, off + j, none⟩ = some (.int .i64 (zs.getD j 0))) :
    Calls Tryd.prog 84 #[.slice (some ⟨b, off, none⟩) n c, .int .i64 x] w fun e w' => e = .returned (.int .i64 (Lib.idxOf (zs.take n) x)) ∧ w' = w := Any.slices_Index_int Tryd.lays108 b off n c zs x w hz hbig hc
open Go.Lib in
/-- The same at a slice of length 0, a nil one too: no cell is known, none is asked for. (LAID: no walk: one application.) -/
theorem Tryd.slices_Index_int_empty (a : Option Addr) (c : Nat) (x : Int) (w : World) :
    Calls Tryd.prog 84 #[.slice a 0 c, .int .i64 x] w fun e w' => e = .returned (.int .i64 (Lib.idxOf [] x)) ∧ w' = w := Any.slices_Index_int_empty Tryd.lays108 a c x w
def Tryd.lays107_ren : Go.Shelf.Ren := ⟨fun | 107 => 64 | 108 => 84 | n => n, fun | 28 => 89 | 3 => 3 | 4 => 4 | 0 => 0 | n => n, fun | n => n⟩
theorem Tryd.lays107 : Go.Proofs.Lays.n107 Tryd.prog Tryd.lays107_ren := {
  mixed := by kernel_rfl
  f107 := Tryd.func64.trans (congrArg some (by kernel_rfl))
  f108 := Tryd.func84.trans (congrArg some (by kernel_rfl))
  t0 := Tryd.underlying0
  a0 := Tryd.isAgg0
  z0 := Tryd.sizeOf0
  v0 := Tryd.zeroValue0
  t3 := Tryd.underlying3
  a3 := Tryd.isAgg3
  z3 := Tryd.sizeOf3
  v3 := Tryd.zeroValue3
  t4 := Tryd.underlying4
  a4 := Tryd.isAgg4
  z4 := Tryd.sizeOf4
  v4 := Tryd.zeroValue4
  t28 := Tryd.underlying89
  a28 := Tryd.isAgg89
  z28 := Tryd.sizeOf89
  v28 := Tryd.zeroValue89 }
open Go.Lib in
/-- slices.Contains at []int: "Contains reports whether v is present in s.": IT RETURNS 'elements.contains v'; the world is as it was. ITS CALLEE slices.Index IS MET BY ITS OWN CONTRACT OFF THE SHELF (lay that first): no loop is walked here. (LAID: no walk: one application.) -/
theorem Tryd.slices_Contains_int (b off n c : Nat) (zs : List Int) (x : Int) (w : World) (hz : n ≤ zs.length) (hbig : n ≤ 9223372036854775807) (hc : ∀ j, j < zs.length → w.cell? ⟨b, off + j, none⟩ = some (.int .i64 (zs.getD j 0))) :
    Calls Tryd.prog 64 #[.slice (some ⟨b, off, none⟩) n c, .int .i64 x] w fun e w' => e = .returned (.bool ((zs.take n).contains x)) ∧ w' = w := Any.slices_Contains_int Tryd.lays107 b off n c zs x w hz hbig hc
open Go.Lib in
/-- The same at a slice of length 0, a nil one too. (LAID: no walk: one application.) -/
theorem Tryd.slices_Contains_int_empty (a : Option Addr) (c : Nat) (x : Int) (w : World) :
    Calls Tryd.prog 64 #[.slice a 0 c, .int .i64 x] w fun e w' => e = .returned (.bool false) ∧ w' = w := Any.slices_Contains_int_empty Tryd.lays107 a c x w
def Tryd.lays112_ren : Go.Shelf.Ren := ⟨fun | 112 => 95 | n => n, fun | 28 => 89 | 3 => 3 | 4 => 4 | 0 => 0 | n => n, fun | n => n⟩
theorem Tryd.lays112 : Go.Proofs.Lays.n112 Tryd.prog Tryd.lays112_ren := {
  mixed := by kernel_rfl
  f112 := Tryd.func95.trans (congrArg some (by kernel_rfl))
  t0 := Tryd.underlying0
  a0 := Tryd.isAgg0
  z0 := Tryd.sizeOf0
  v0 := Tryd.zeroValue0
  t3 := Tryd.underlying3
  a3 := Tryd.isAgg3
  z3 := Tryd.sizeOf3
  v3 := Tryd.zeroValue3
  t4 := Tryd.underlying4
  a4 := Tryd.isAgg4
  z4 := Tryd.sizeOf4
  v4 := Tryd.zeroValue4
  t28 := Tryd.underlying89
  a28 := Tryd.isAgg89
  z28 := Tryd.sizeOf89
  v28 := Tryd.zeroValue89 }
open Go.RowKit Go.Lib Go.Sort in
/-- slices.Reverse at []int, over an array: Go's loop from the two ends inward is walked; it makes 'Sort.reverseLoop 0 (len - 1)', which is 'Array.reverse' (Derived/Lib/SlicesMore.lean). (LAID: no walk: one application.) -/
theorem Tryd.slices_Reverse_int_arr (blk off cap : Nat) (d : Array Int) (w : World) (hH : Holds encI w blk off d) (hsz : d.size ≤ 9223372036854775807) :
    Calls Tryd.prog 95 #[.slice (some ⟨blk, off, none⟩) d.size cap] w fun e w' => e = .returned (.tuple #[]) ∧ ∃ n, w' = putRow encI (Sort.ahead w n) blk off d.reverse := Any.slices_Reverse_int_arr Tryd.lays112 blk off cap d w hH hsz
open Go.RowKit Go.Lib Go.Sort in
/-- slices.Reverse at []int: "Reverse reverses the elements of the slice in place.": THE SLICE's CELLS HOLD 'zs.reverse' BEHIND THE CALL; all else is as it was, but for the count of draws (the exchange 's[i], s[j] = s[j], s[i]' draws its order, once a round). IN THE WORDS OF slices.Sort's CONTRACT: 'Holds': the cells hold zs and none is frozen; 'putRow': the world with those cells holding another array. A slice of length 0 that is not nil is among them ('zs = []'); nil: '.._nil'. (LAID: no walk: one application.) -/
theorem Tryd.slices_Reverse_int (blk off cap : Nat) (zs : List Int) (w : World) (hH : Holds (Value.int .i64) w blk off zs.toArray) (hsz : zs.length ≤ 9223372036854775807) :
    Calls Tryd.prog 95 #[.slice (some ⟨blk, off, none⟩) zs.length cap] w fun e w' => e = .returned (.tuple #[]) ∧ ∃ n, w' = putRow (Value.int .i64) (Sort.ahead w n) blk off zs.reverse.toArray := Any.slices_Reverse_int Tryd.lays112 blk off cap zs w hH hsz
open Go.RowKit Go.Lib Go.Sort in
/-- The same at a slice of length 0, a nil one too: nothing is read, nothing written, nothing drawn. (LAID: no walk: one application.) -/
theorem Tryd.slices_Reverse_int_empty (a : Option Addr) (cap : Nat) (w : World) :
    Calls Tryd.prog 95 #[.slice a 0 cap] w fun e w' => e = .returned (.tuple #[]) ∧ w' = w := Any.slices_Reverse_int_empty Tryd.lays112 a cap w
def Tryd.laysNm215_ren : Go.Shelf.Ren := ⟨fun | 15 => 70 | n => n, fun | 22 => 89 | 3 => 3 | 4 => 4 | n => n, fun | n => n⟩
theorem Tryd.laysNm215 : Go.Proofs.Lays2.n15 Tryd.prog Tryd.laysNm215_ren := {
  mixed := by kernel_rfl
  f15 := Tryd.func70.trans (congrArg some (by kernel_rfl))
  t3 := Tryd.underlying3
  a3 := Tryd.isAgg3
  z3 := Tryd.sizeOf3
  v3 := Tryd.zeroValue3
  t4 := Tryd.underlying4
  a4 := Tryd.isAgg4
  z4 := Tryd.sizeOf4
  v4 := Tryd.zeroValue4
  t22 := Tryd.underlying89
  a22 := Tryd.isAgg89
  z22 := Tryd.sizeOf89
  v22 := Tryd.zeroValue89
  i3 := by kernel_rfl }
open Go.RowKit Go.Lib in
/-- slices.Clone at []int: "Clone returns a copy of the slice. The elements are copied using assignment, so this is a shallow clone. The result may have additional unused capacity. The result preserves the nilness of s.": OF A SLICE THAT IS NOT nil IT RETURNS A SLICE THAT IS NOT nil, OF THE SAME ELEMENTS, IN MEMORY OF THE CALL's OWN: in the how-to's words (6f): 'w'.ownsRow B e 1 v' n cells': v' begins at the head of a row among the blocks from B on (B: the heap's size at the call), not frozen, whose first cells are the elements · 'Below B w w'': below B all is as it was. The capacity is whatever the run-time gives. 'zs': what the cells behind the slice's address hold; 'zs.take n': its elements. (LAID: no walk: one application.) -/
theorem Tryd.slices_Clone_int (b off n c : Nat) (zs : List Int) (w : World) (hz : n ≤ zs.length) (hbig : n * 8 ≤ 140737488355328) (hc : ∀ j, j < zs.length → w.cell? ⟨b, off + j, none⟩ = some (.int .i64 (zs.getD j 0))) :
    Calls Tryd.prog 70 #[.slice (some ⟨b, off, none⟩) n c] w fun e w' => ∃ v', e = .returned v' ∧ w'.ownsRow w.heap.size 3 1 v' n ((zs.take n).map (Value.int .i64)) ∧ v' ≠ .slice none 0 0 ∧ Below w.heap.size w w' := Any.slices_Clone_int Tryd.laysNm215 b off n c zs w hz hbig hc
open Go.RowKit Go.Lib in
/-- The same at nil: nil comes back; the world is as it was. (LAID: no walk: one application.) -/
theorem Tryd.slices_Clone_int_nil (n c : Nat) (w : World) :
    Calls Tryd.prog 70 #[.slice none n c] w fun e w' => e = .returned (.slice none 0 0) ∧ w' = w := Any.slices_Clone_int_nil Tryd.laysNm215 n c w
open Go.RowKit Go.Lib in
/-- The same at a slice of length 0 that is not nil, WHATEVER ITS ADDRESS (no cell is asked for): a slice that is not nil and owns nothing comes back. (LAID: no walk: one application.) -/
theorem Tryd.slices_Clone_int_zero (a : Addr) (c : Nat) (w : World) :
    Calls Tryd.prog 70 #[.slice (some a) 0 c] w fun e w' => ∃ v', e = .returned v' ∧ w'.ownsRow w.heap.size 3 1 v' 0 [] ∧ v' ≠ .slice none 0 0 ∧ Below w.heap.size w w' := Any.slices_Clone_int_zero Tryd.laysNm215 a c w
def Tryd.laysNm223_ren : Go.Shelf.Ren := ⟨fun | 23 => 72 | n => n, fun | 22 => 89 | 3 => 3 | 4 => 4 | 0 => 0 | n => n, fun | n => n⟩
theorem Tryd.laysNm223 : Go.Proofs.Lays2.n23 Tryd.prog Tryd.laysNm223_ren := {
  mixed := by kernel_rfl
  f23 := Tryd.func72.trans (congrArg some (by kernel_rfl))
  t0 := Tryd.underlying0
  a0 := Tryd.isAgg0
  z0 := Tryd.sizeOf0
  v0 := Tryd.zeroValue0
  t3 := Tryd.underlying3
  a3 := Tryd.isAgg3
  z3 := Tryd.sizeOf3
  v3 := Tryd.zeroValue3
  t4 := Tryd.underlying4
  a4 := Tryd.isAgg4
  z4 := Tryd.sizeOf4
  v4 := Tryd.zeroValue4
  t22 := Tryd.underlying89
  a22 := Tryd.isAgg89
  z22 := Tryd.sizeOf89
  v22 := Tryd.zeroValue89
  i3 := by kernel_rfl }
open Go.RowKit Go.Lib Go.Sort in
/-- slices.Delete at []int, over an array. (LAID: no walk: one application.) -/
theorem Tryd.slices_Delete_int_arr (blk off cap i j : Nat) (d : Array Int) (w : World) (hH : Holds encI w blk off d) (hcap : d.size ≤ cap) (hm : cap ≤ 9223372036854775807) (hij : i ≤ j) (hj : j ≤ d.size) :
    Calls Tryd.prog 72 #[.slice (some ⟨blk, off, none⟩) d.size cap, .int .i64 i, .int .i64 j] w fun e w' => e = .returned (.slice (some ⟨blk, off, none⟩) (d.size - (j - i)) cap) ∧ ∃ q, w' = putRow encI (Sort.ahead w q) blk off (d.toList.take i ++ d.toList.drop j ++ List.replicate (j - i) 0).toArray := Any.slices_Delete_int_arr Tryd.laysNm223 blk off cap i j d w hH hcap hm hij hj
open Go.RowKit Go.Lib Go.Sort in
/-- slices.Delete at []int: "Delete modifies s in place by removing the elements s[i:j], and returns the modified slice. Delete panics if j > len(s) or s[i:j] is not a valid slice of s. Delete is O(len(s)-i), so if many items must be deleted, it is better to make a single call deleting them all together than to delete one at a time. Delete zeroes the elements s[len(s)-(j-i):len(s)]. If the result is empty, it has the same nilness as s.": FOR i ≤ j ≤ len(s) IT RETURNS THE SLICE CUT TO len(s) - (j - i) ELEMENTS; ITS CELLS HOLD what stood ahead of i, what stood from j on, then j - i zero values; all else is as it was, but for the count of draws. IN THE WORDS OF slices.Sort's CONTRACT ('Holds', 'putRow'). It asks 'zs.length ≤ cap ≤ 2^63 - 1' (every slice's). (Outside i ≤ j ≤ len(s) it panics: no contract here.) (LAID: no walk: one application.) -/
theorem Tryd.slices_Delete_int (blk off cap i j : Nat) (zs : List Int) (w : World) (hH : Holds (Value.int .i64) w blk off zs.toArray) (hcap : zs.length ≤ cap) (hm : cap ≤ 9223372036854775807) (hij : i ≤ j) (hj : j ≤ zs.length) :
    Calls Tryd.prog 72 #[.slice (some ⟨blk, off, none⟩) zs.length cap, .int .i64 i, .int .i64 j] w fun e w' => e = .returned (.slice (some ⟨blk, off, none⟩) (zs.length - (j - i)) cap) ∧ ∃ q, w' = putRow (Value.int .i64) (Sort.ahead w q) blk off (zs.take i ++ zs.drop j ++ List.replicate (j - i) 0).toArray := Any.slices_Delete_int Tryd.laysNm223 blk off cap i j zs w hH hcap hm hij hj
open Go.RowKit Go.Lib Go.Sort in
/-- slices.Reverse at []int, of an argument: the n cells hold the elements in reverse. (LAID: no walk: one application.) -/
theorem Tryd.slices_Reverse_int_cells (b off n c : Nat) (zs : List Int) (w : World) (hz : n ≤ zs.length) (hbig : n ≤ 9223372036854775807) (hc : ∀ j, j < zs.length → w.cell? ⟨b, off + j, none⟩ = some (.int .i64 (zs.getD j 0))) (hf : ∀ j, j < n → w.frozen? ⟨b, off + j, none⟩ = false) :
    Calls Tryd.prog 95 #[.slice (some ⟨b, off, none⟩) n c] w fun e w' => e = .returned (.tuple #[]) ∧ ∃ q, w' = (w.drewN q).setCells b off ((zs.take n).reverse.map (Value.int .i64)) := Any.slices_Reverse_int_cells Tryd.lays112 b off n c zs w hz hbig hc hf
open Go.RowKit Go.Lib Go.Sort in
/-- slices.Delete at []int, of an argument, for i ≤ j ≤ n: the slice cut to n - (j - i) elements; the n cells hold what stood ahead of i, what stood from j on, then zeros. (LAID: no walk: one application.) -/
theorem Tryd.slices_Delete_int_cells (b off n c i j : Nat) (zs : List Int) (w : World) (hz : n ≤ zs.length) (hcap : n ≤ c) (hm : c ≤ 9223372036854775807) (hij : i ≤ j) (hj : j ≤ n) (hc : ∀ j, j < zs.length → w.cell? ⟨b, off + j, none⟩ = some (.int .i64 (zs.getD j 0))) (hf : ∀ j, j < n → w.frozen? ⟨b, off + j, none⟩ = false) :
    Calls Tryd.prog 72 #[.slice (some ⟨b, off, none⟩) n c, .int .i64 i, .int .i64 j] w fun e w' => e = .returned (.slice (some ⟨b, off, none⟩) (n - (j - i)) c) ∧ ∃ q, w' = (w.drewN q).setCells b off (((zs.take n).take i ++ (zs.take n).drop j ++ List.replicate (j - i) 0).map (Value.int .i64)) := Any.slices_Delete_int_cells Tryd.laysNm223 b off n c i j zs w hz hcap hm hij hj hc hf
open Go.RowKit Go.Lib in
/-- slices.Delete at []int of no element ('Delete(s, 0, 0)'): s comes back; the world is as it was. (LAID: no walk: one application.) -/
theorem Tryd.slices_Delete_int_empty (a : Option Addr) (c : Nat) (w : World) :
    Calls Tryd.prog 72 #[.slice a 0 c, .int .i64 0, .int .i64 0] w fun e w' => e = .returned (.slice a 0 c) ∧ w' = w := Any.slices_Delete_int_empty Tryd.laysNm223 a c w
end Go.Proofs
end
section
namespace Go.Proofs.YtacgihekdmoceaaDoor
open Go.RowKit Go.Lib
set_option linter.unusedVariables false
set_option maxRecDepth 100000
set_option maxHeartbeats 1000000
structure InsS where
  l : List Int
  m : Nat
  c : Nat
  nn : Bool
  z : Nat → Nat → Int
  z2 : Nat → Nat → Int
def conInsert : MCon where
  σ := InsS
  χ := LstR
  pre s := s.l.length ≤ 1000 ∧ (s.l.length ≤ s.m ∧ s.m ≤ s.c) ∧ IsL s.z s.l
  args s := [.c (.so 0 0 1 s.l.length s.c s.nn), .c (.v (.int .i64 0)), .c (.so 1 0 1 1 1 true)]
  mem s := [rowsI s.m s.c s.z, rowsI 1 1 s.z2]
  ok s x := (x.m = s.l.length + 1 ∧ x.m ≤ x.c) ∧ IsL x.z (s.z2 0 0 :: s.l)
  val s x := .o (.c (.so 0 0 1 (s.l.length + 1) x.c x.nn))
  mem' s x := [rowsI x.m x.c x.z]
  k := 0
  len := 1
  det := none
  find args M := some (blkA args)
structure DelS where
  l : List Int
  m : Nat
  c : Nat
  nn : Bool
  z : Nat → Nat → Int
  i : Nat
def conDelete : MCon where
  σ := DelS
  χ := LstR
  pre s := (s.i < s.l.length ∧ s.l.length ≤ 1000) ∧ (s.l.length ≤ s.m ∧ s.m ≤ s.c) ∧ IsL s.z s.l
  args s := [.c (.so 0 0 1 s.l.length s.c s.nn), .c (.v (.int .i64 s.i)), .c (.v (.int .i64 ((s.i + 1 : Nat) : Int)))]
  mem s := [rowsI s.m s.c s.z]
  ok s x := (x.m = s.l.length - 1 ∧ x.c = s.c) ∧ IsL x.z (s.l.eraseIdx s.i)
  val s x := .o (.c (.so 0 0 1 (s.l.length - 1) x.c true))
  mem' s x := [rowsI x.m x.c x.z]
  k := 0
  len := 1
  det := none
  find args M := some (blkA args)
theorem Blk.setCells {b : Nat} {t : TypeId} : ∀ (vs : List Value) (o : Nat) (w : World) (C : List Value), Blk w b C t → o + vs.length ≤ C.length → Blk (w.setCells b o vs) b (spl C o vs) t
  | [], o, w, C, h, _ => by
    have : spl C o [] = C := by simp [spl]
    rw [this]; exact h
  | v :: r, o, w, C, h, hl => by
    simp only [List.length_cons] at hl
    have ih := Blk.setCells r (o + 1) _ _ (h.set o v) (by rw [List.length_set]; omega)
    have e : spl (C.set o v) (o + 1) r = spl C o (v :: r) := by
      unfold spl
      have h1 : (C.set o v).take (o + 1) = C.take o ++ [v] := by
        rw [List.take_succ_eq_append_getElem (by rw [List.length_set]; omega), List.getElem_set_self, List.take_set_of_le (Nat.le_refl _)]
      have h2 : (C.set o v).drop (o + 1 + r.length) = C.drop (o + (v :: r).length) := by
        rw [List.drop_set_of_lt (by omega)]
        simp only [List.length_cons]; congr 1; omega
      rw [h1, h2]; simp
    rw [e] at ih
    exact ih
theorem setCells_kept (b : Nat) : ∀ (vs : List Value) (o : Nat) (w : World), Kept (· = b) w (w.setCells b o vs)
  | [], _, w => Kept.refl _ w
  | v :: r, o, w => ((Kept.refl _ w).own o v).trans (setCells_kept b r (o + 1) _)
theorem Blk.take_cell {w : World} {g : Nat} {C : List Value} {t : TypeId} {xs : List Int} (hB : Blk w g C t) (ht : C.take xs.length = xs.map (Value.int .i64)) (j : Nat) (hj : j < xs.length) : w.cell? ⟨g, 0 + j, none⟩ = some (.int .i64 (xs.getD j 0)) := by
  rw [Nat.zero_add, hB.cell]
  have e : (C.take xs.length)[j]? = (xs.map (Value.int .i64))[j]? := by rw [ht]
  rw [List.getElem?_take, if_pos hj, List.getElem?_map, List.getElem?_eq_getElem hj] at e
  rw [e, List.getD_eq_getElem?_getD, List.getElem?_eq_getElem hj]; rfl
def insRen : Go.Shelf.Ren := ⟨fun | 21 => 71 | 27 => 86 | 28 => 87 | 35 => 94 | 39 => 95 | n => n, fun | 22 => 89 | 3 => 3 | 4 => 4 | 0 => 0 | n => n, fun | n => n⟩
theorem insLays : Go.Proofs.Lays2.n21 Tryd.prog insRen := {
  mixed := by kernel_rfl
  f21 := Tryd.func71.trans (congrArg some (by kernel_rfl))
  f27 := Tryd.func86.trans (congrArg some (by kernel_rfl))
  f28 := Tryd.func87.trans (congrArg some (by kernel_rfl))
  f35 := Tryd.func94.trans (congrArg some (by kernel_rfl))
  f39 := Tryd.func95.trans (congrArg some (by kernel_rfl))
  t0 := Tryd.underlying0
  a0 := Tryd.isAgg0
  z0 := Tryd.sizeOf0
  v0 := Tryd.zeroValue0
  t3 := Tryd.underlying3
  a3 := Tryd.isAgg3
  z3 := Tryd.sizeOf3
  v3 := Tryd.zeroValue3
  t4 := Tryd.underlying4
  a4 := Tryd.isAgg4
  z4 := Tryd.sizeOf4
  v4 := Tryd.zeroValue4
  t22 := Tryd.underlying89
  a22 := Tryd.isAgg89
  z22 := Tryd.sizeOf89
  v22 := Tryd.zeroValue89
  i3 := by kernel_rfl }
theorem Blk.newA (w : World) (A : Array Value) (t : TypeId) : Blk (w.alloc (.cells A t)) w.heap.size A.toList t := by
  have := Blk.new w A.toList t
  simpa using this
theorem Blk.drewn {w : World} {b : Nat} {C : List Value} {t : TypeId} (h : Blk w b C t) : Blk w.drew b C t := h
theorem ints_one (xs : List Int) : ∀ v ∈ xs.map (Value.int .i64), v.oneCell' = true := by
  intro v hv
  obtain ⟨z, -, rfl⟩ := List.mem_map.1 hv
  rfl
theorem cond0 (b : Bool) : (bif b then (0 : Nat) else 0) = 0 := by cases b <;> rfl
theorem below_drewN (w : World) (q : Nat) : Below w.heap.size w (w.drewN q) := ⟨rfl, rfl, rfl, Nat.le_refl _, fun _ _ => rfl⟩
theorem rowsV_isL {z : Nat → Nat → Int} {l : List Int} {m : Nat} (h : IsL z l) (hm : l.length ≤ m) : (rowsV (ckAt [.int .i64]) 1 z m).take l.length = l.map (Value.int .i64) := by
  apply List.ext_getElem?
  intro i
  rw [List.getElem?_take, List.getElem?_map]
  by_cases hi : i < l.length
  · rw [if_pos hi]
    have := rowsV_get (ckAt [.int .i64]) 1 z m i 0 (by omega) (by decide)
    rw [Nat.mul_one, Nat.add_zero] at this
    rw [this, h i hi, List.getD_eq_getElem?_getD, List.getElem?_eq_getElem hi]; rfl
  · rw [if_neg hi, List.getElem?_eq_none (by omega)]; rfl
theorem rowsV_list (l : List Int) : rowsV (ckAt [.int .i64]) 1 (fun i _ => l.getD i 0) l.length = l.map (Value.int .i64) := by
  have := rowsV_isL (z := fun i _ => l.getD i 0) (l := l) (fun i _ => rfl) (Nat.le_refl _)
  rwa [List.take_of_length_le (by rw [rowsV_len]; omega)] at this
theorem mem_row {w w' : World} {S : Nat → Prop} {d c : Nat} {C : List Value} {l : List Int} (hk : Kept S w w') (hd : S d ∨ w.heap.size ≤ d) (hB : Blk w' d C 3) (hC : C.length = c) (hn : l.length ≤ c) (hm : c ≤ maxLen)
    (ht : C.take l.length = l.map (Value.int .i64)) : Mem w S (denM (fun _ => d) 0 [rowsI l.length c (fun i _ => l.getD i 0)]) w' := by
  have e : denM (fun _ => d) 0 [rowsI l.length c (fun i _ => l.getD i 0)] = [.row d 3 1 l.length c (l.map (Value.int .i64))] := by
    show [En.row d 3 1 l.length c (rowsV (ckAt [.int .i64]) 1 (fun i _ => l.getD i 0) l.length)] = _
    rw [rowsV_list]
  rw [e]
  refine ⟨hk, fun f hf => ?_, fun f hf g hg => ?_, List.pairwise_singleton _ _⟩
  · rw [List.mem_singleton] at hf; subst hf
    exact ⟨hn, by simp, fun _ => ⟨C, hB, by omega, by rw [Nat.mul_one]; exact ht, hm⟩⟩
  · rw [List.mem_singleton] at hf; subst hf
    obtain ⟨-, rfl⟩ := hg
    exact hd
/-- What becomes of a list at whose head something is put: it lies where it lay, or anew. -/
theorem insert_row (w : World) (g n c : Nat) (nn : Bool) (xs : List Int) (x : Int) (vb : Nat) (hx : xs.length ≤ 1000) (hn : xs.length ≤ c) (hv : Blk w vb [.int .i64 x] 3) (hne : 0 < c → vb ≠ g)
    (hg : 0 < c → ∃ C, Blk w g C 3 ∧ C.length = c ∧ C.take xs.length = xs.map (Value.int .i64) ∧ c ≤ maxLen) :
    Calls Tryd.prog 71 #[bif c.beq 0 && !nn then .slice none 0 0 else .slice (some ⟨g, 0, none⟩) xs.length c, .int .i64 0, .slice (some ⟨vb, 0, none⟩) 1 1] w fun e w' =>
      ∃ d cap C, e = .returned (.slice (some ⟨d, 0, none⟩) (xs.length + 1) cap) ∧ Blk w' d C 3 ∧ C.length = cap ∧ xs.length + 1 ≤ cap ∧ cap ≤ maxLen ∧ C.take (x :: xs).length = (x :: xs).map (Value.int .i64) ∧ Kept (fun k => 0 < c ∧ k = g) w w' ∧ ((0 < c ∧ d = g) ∨ w.heap.size ≤ d) := by
  have hvs : ∀ j v, ([.int .i64 x] : List Value)[j]? = some v → w.cell? ⟨vb, 0 + j, none⟩ = some v := fun j v h => by rw [Nat.zero_add, hv.cell]; exact h
  have h1v : ∀ v ∈ ([.int .i64 x] : List Value), v.oneCell' = true := by intro v h; simp at h; subst h; rfl
  have h63b : maxLen = 9223372036854775807 := rfl
  rcases Nat.eq_zero_or_pos c with hc | hc
  · subst hc
    obtain rfl : xs = [] := List.length_eq_zero_iff.1 (by omega)
    have grow (ad : Option Addr) (hz : ad = none → True) : Calls Tryd.prog 71 #[.slice ad 0 0, .int .i64 0, .slice (some ⟨vb, 0, none⟩) 1 1] w fun e w' =>
      ∃ d cap C, e = .returned (.slice (some ⟨d, 0, none⟩) (([] : List Int).length + 1) cap) ∧ Blk w' d C 3 ∧ C.length = cap ∧ ([] : List Int).length + 1 ≤ cap ∧ cap ≤ maxLen ∧ C.take (x :: ([] : List Int)).length = (x :: ([] : List Int)).map (Value.int .i64) ∧ Kept (fun k => 0 < 0 ∧ k = g) w w' ∧ ((0 < 0 ∧ d = g) ∨ w.heap.size ≤ d) := by
      refine (Any2.slices_Insert_int_end_grow insLays ad 0 0 vb 0 1 1 [] [.int .i64 x] w (by decide) (by decide) (by decide) (by decide) rfl rfl (fun _ => rfl) (fun a h j v hv => by simp at hv) hvs h1v).mono fun e w' ⟨he, hw⟩ => ?_
      have hG1 : 1 ≤ grownCap w (0 + 1) 0 (insRen.t 3) := grownCap_ge _ _ _ _
      have hG2 := grownCap_le_maxLen w (0 + 1) 0 (insRen.t 3) (by omega)
      rw [hw]
      generalize grownCap w (0 + 1) 0 (insRen.t 3) = G at *
      refine ⟨_, G, _, he, Blk.newA w.drew _ _, by simp [size_zeroCells, Value.cells]; omega, by simpa using hG1, hG2, by simp, .of_below (((Below.refl _ _).drew).alloc (Nat.le_refl _) _), .inr (Nat.le_refl _)⟩
    cases nn
    · exact grow none (fun _ => trivial)
    · exact grow (some ⟨g, 0, none⟩) (fun _ => trivial)
  · obtain ⟨C, hB, hC, ht, hm⟩ := hg hc
    rw [show (c.beq 0 && !nn) = false by rw [nbeq (by omega)]; rfl]
    simp only [cond_false]
    have hcs : ∀ j v, (xs.map (Value.int .i64))[j]? = some v → w.cell? ⟨g, 0 + j, none⟩ = some v := fun j v h => by
      rw [List.getElem?_map] at h
      have hj : j < xs.length := by
        rcases Nat.lt_or_ge j xs.length with h' | h'
        · exact h'
        · rw [List.getElem?_eq_none h'] at h; simp at h
      rw [List.getElem?_eq_getElem hj] at h
      rw [hB.take_cell ht j hj, ← h, List.getD_eq_getElem?_getD, List.getElem?_eq_getElem hj]; rfl
    have hkS : ∀ k, k = g → (0 < c ∧ k = g) := fun k h => ⟨hc, h⟩
    by_cases hroom : xs.length + 1 ≤ c
    · by_cases h0 : xs.length = 0
      · obtain rfl : xs = [] := List.length_eq_zero_iff.1 h0
        refine (Any2.slices_Insert_int_end_room insLays g 0 0 c vb 0 1 1 [.int .i64 x] w (by decide) (by simpa using hroom) (by omega) rfl (fun j hj => by
          obtain rfl : j = 0 := by omega
          rw [hB.cell, List.getElem?_eq_getElem (by simp at hroom; omega)]; rfl) (fun j _ => hB.frozen _) hvs h1v).mono fun e w' ⟨he, hw⟩ => ?_
        rw [hw]
        have hB2 := Blk.setCells [Value.int .i64 x] 0 w C hB (by simp at hroom ⊢; omega)
        exact ⟨g, c, _, he, hB2, by rw [spl_length _ _ _ (by simp at hroom ⊢; omega)]; exact hC, by simpa using hroom, hm, by simp [spl], (setCells_kept g _ _ w).mono hkS, .inl ⟨hc, rfl⟩⟩
      · have hn0 : 0 < xs.length := by omega
        have hsh : ∀ (b : Nat) (D : List Value), Blk w b D 3 → w.shape? b = some (3, D.length) := fun b D h => by unfold Blk at h; simp [World.shape?, h]
        refine (Any2.slices_Insert_int_shift insLays g 0 xs.length c 0 vb 0 1 1 (xs.map (Value.int .i64)) [.int .i64 x] w hn0 (by decide) hroom (by omega) (hne hc) (List.length_map _) rfl hcs (fun j hj => by
          rw [Nat.zero_add, hB.cell, List.getElem?_eq_getElem (by omega)]; rfl) (fun j _ => hB.frozen _) hvs (ints_one xs) h1v 3 3 1 c (hsh _ _ hv) (by rw [hsh _ _ hB, hC]) (by omega) (hv.frozen _) (hv.frozen _)).mono fun e w' ⟨he, hw⟩ => ?_
        rw [hw]
        have hB1 := Blk.setCells (xs.map (Value.int .i64)) 1 w.drew C hB.drewn (by simp; omega)
        have hl1 : (spl C 1 (xs.map (Value.int .i64))).length = c := by rw [spl_length _ _ _ (by simp; omega)]; exact hC
        have hB2 := Blk.setCells [Value.int .i64 x] 0 _ _ hB1 (by rw [hl1]; simp; omega)
        refine ⟨g, c, _, he, hB2, by rw [spl_length _ _ _ (by rw [hl1]; simp; omega)]; exact hl1, hroom, hm, ?_, (((Kept.refl _ w).drew.trans (setCells_kept g _ _ w.drew)).trans (setCells_kept g _ _ _)).mono hkS, .inl ⟨hc, rfl⟩⟩
        have hC1 : (C.take 1).length = 1 := by simp; omega
        simp only [spl, List.take_zero, List.nil_append, List.length_singleton, Nat.zero_add]
        rw [List.append_assoc, List.drop_append_of_le_length (by omega), List.drop_of_length_le (by omega : (C.take 1).length ≤ 1), List.nil_append, List.length_cons, List.singleton_append, List.take_succ_cons, List.map_cons, List.take_append_of_le_length (by simp), List.take_of_length_le (by simp)]
    · have hroom' : c < xs.length + 1 := by omega
      have hn0 : 0 < xs.length := by omega
      refine (Any2.slices_Insert_int_grow insLays g 0 xs.length c 0 vb 0 1 1 (xs.map (Value.int .i64)) [.int .i64 x] w hn0 (by decide) hn hroom' (by omega) (List.length_map _) rfl hcs hvs (ints_one xs) h1v).mono fun e w' ⟨he, hw⟩ => ?_
      rw [hw, List.drop_zero]
      have hG1 : xs.length + 1 ≤ grownCap w (xs.length + 1) c (insRen.t 3) := grownCap_ge _ _ _ _
      have hG2 := grownCap_le_maxLen w (xs.length + 1) c (insRen.t 3) (by omega)
      generalize grownCap w (xs.length + 1) c (insRen.t 3) = G at *
      have hN := Blk.newA w (((xs.map (Value.int .i64)).take 0).toArray ++ Builtin.zeroCells (Value.int .i64 0).cells (xs.length + 1 - 0) ++ Builtin.zeroCells (Value.int .i64 0).cells (G - (xs.length + 1))) (insRen.t 3)
      have hL : (((xs.map (Value.int .i64)).take 0).toArray ++ Builtin.zeroCells (Value.int .i64 0).cells (xs.length + 1 - 0) ++ Builtin.zeroCells (Value.int .i64 0).cells (G - (xs.length + 1))).toList.length = G := by
        simp [size_zeroCells, Value.cells]; omega
      generalize (((xs.map (Value.int .i64)).take 0).toArray ++ Builtin.zeroCells (Value.int .i64 0).cells (xs.length + 1 - 0) ++ Builtin.zeroCells (Value.int .i64 0).cells (G - (xs.length + 1))) = A at *
      have hk1 : Below w.heap.size w (w.alloc (.cells A (insRen.t 3))).drew := ((Below.refl _ _).alloc (Nat.le_refl _) _).drew
      generalize A.toList = D at *
      have hB1 := Blk.setCells [Value.int .i64 x] 0 _ D hN.drewn (by simp; omega)
      have hl1 : (spl D 0 [Value.int .i64 x]).length = G := by rw [spl_length _ _ _ (by simp; omega)]; exact hL
      have hB2 := Blk.setCells (xs.map (Value.int .i64)) (0 + 1) _ _ hB1.drewn (by rw [hl1]; simp; omega)
      have hl2 : (spl (spl D 0 [Value.int .i64 x]) (0 + 1) (xs.map (Value.int .i64))).length = G := by
        rw [spl_length _ _ _ (by rw [hl1]; simp; omega)]; exact hl1
      have hk2 := hk1.trans ((((setCells_kept w.heap.size [Value.int .i64 x] 0 (w.alloc (.cells A (insRen.t 3))).drew).drew).trans (setCells_kept w.heap.size (xs.map (Value.int .i64)) (0 + 1) _)).below (B := w.heap.size) (by show w.heap.size ≤ (w.alloc _).heap.size; rw [World.size_alloc]; omega) (fun k hk => by rw [hk]; exact Nat.le_refl _))
      have ht2 : (spl (spl D 0 [Value.int .i64 x]) (0 + 1) (xs.map (Value.int .i64))).take (xs.length + 1) = (x :: xs).map (Value.int .i64) := by simp [spl]
      exact ⟨w.heap.size, G, _, he, hB2, hl2, hG1, hG2, ht2, .of_below hk2, .inr (Nat.le_refl _)⟩
theorem insert_con : (Con.mem conInsert).holds Tryd.prog 71 := by
  intro w0 S
  unfold Con.holdsAt
  refine ⟨by kernel_rfl, (fun x0 h => by cases h), ?_⟩
  intro ρ s w hp hK HM
  obtain ⟨l, m, c, nn, z, z2⟩ := s
  obtain ⟨h1, ⟨h2, h3⟩, h4⟩ := hp
  dsimp only at h1 h2 h3 h4
  have r1 : RowAt w (ρ 0) 3 1 m c (rowsV (ckAt [.int .i64]) 1 z m) := HM.holds _ List.mem_cons_self
  have r2 : RowAt w (ρ 1) 3 1 1 1 (rowsV (ckAt [.int .i64]) 1 z2 1) := HM.holds _ (List.mem_cons_of_mem _ List.mem_cons_self)
  have hd := (List.pairwise_cons.1 HM.dist).1 _ List.mem_cons_self
  obtain ⟨C2, hB2, hC2, ht2, -⟩ := r2.2.2 (by decide)
  have e2 : C2 = [.int .i64 (z2 0 0)] := by
    rw [List.take_of_length_le (by omega)] at ht2
    rw [ht2]; rfl
  subst e2
  have ha : (conInsert.args ⟨l, m, c, nn, z, z2⟩).map (SA.den ρ) = [bif c.beq 0 && !nn then .slice none 0 0 else .slice (some ⟨ρ 0, 0, none⟩) l.length c, .int .i64 0, .slice (some ⟨ρ 1, 0, none⟩) 1 1] := by
    simp only [conInsert, List.map_cons, List.map_nil, SA.den, SC.den, Nat.zero_mul, Nat.sub_zero, cond0]; rfl
  rw [ha]
  refine (insert_row w (ρ 0) l.length c nn l (z2 0 0) (ρ 1) h1 (by omega) hB2 (fun hc h => hd (ρ 0) ⟨hc, rfl⟩ ⟨by decide, h⟩) (fun hc => ?_)).mono ?_
  · obtain ⟨C, hB, hC, ht, hm⟩ := r1.2.2 hc
    refine ⟨C, hB, by omega, ?_, hm⟩
    have := rowsV_isL h4 h2
    rw [← ht, List.take_take, Nat.mul_one, Nat.min_eq_left h2] at this
    exact this
  · rintro e w' ⟨d, cap, C, rfl, hB, hC, hn, hm, ht, hk, hdd⟩
    have hS : ∀ k, (0 < c ∧ k = ρ 0) → feet (denM ρ 0 (conInsert.mem ⟨l, m, c, nn, z, z2⟩)) k := fun k ⟨hc, hk⟩ => ⟨_, List.mem_cons_self, hc, hk.symm⟩
    refine ⟨⟨l.length + 1, cap, true, fun i _ => (z2 0 0 :: l).getD i 0⟩, fun _ => d, ⟨⟨rfl, hn⟩, fun i _ => rfl⟩, fun i hi => by simp [conInsert] at hi, rfl, ?_, mem_row (l := z2 0 0 :: l) (hk.mono hS) (hdd.imp (hS d) id) hB hC hn hm ht⟩
    simp only [conInsert, SV.den, SA.den, SC.den, Bool.not_true, Bool.and_false, cond_false, Nat.zero_mul, Nat.sub_zero, cond0]
theorem delete_con : (Con.mem conDelete).holds Tryd.prog 72 := by
  intro w0 S
  unfold Con.holdsAt
  refine ⟨by kernel_rfl, (fun x0 h => by cases h), ?_⟩
  intro ρ s w hp hK HM
  obtain ⟨l, m, c, nn, z, i⟩ := s
  obtain ⟨⟨h0, h1⟩, ⟨h2, h3⟩, h4⟩ := hp
  dsimp only at h0 h1 h2 h3 h4
  have hc : 0 < c := by omega
  have r1 : RowAt w (ρ 0) 3 1 m c (rowsV (ckAt [.int .i64]) 1 z m) := HM.holds _ List.mem_cons_self
  obtain ⟨C, hB, hC, ht, hm⟩ := r1.2.2 hc
  have ht' : C.take l.length = l.map (Value.int .i64) := by
    have := rowsV_isL h4 h2
    rw [← ht, List.take_take, Nat.mul_one, Nat.min_eq_left h2] at this
    exact this
  have ha : (conDelete.args ⟨l, m, c, nn, z, i⟩).map (SA.den ρ) = [.slice (some ⟨ρ 0, 0, none⟩) l.length c, .int .i64 i, .int .i64 ((i + 1 : Nat) : Int)] := by
    simp only [conDelete, List.map_cons, List.map_nil, SA.den, SC.den, Nat.zero_mul, Nat.sub_zero, cond0, show (c.beq 0 && !nn) = false by rw [nbeq (by omega)]; rfl, cond_false]
  rw [ha]
  unfold maxLen at hm
  refine (Tryd.slices_Delete_int_cells (ρ 0) 0 l.length c i (i + 1) l w (Nat.le_refl _) (by omega) hm (by omega) (by omega) (hB.take_cell ht') (fun j _ => hB.frozen _)).mono fun e w' ⟨he, q, hw⟩ => ?_
  have hE : l.eraseIdx i = l.take i ++ l.drop (i + 1) := List.eraseIdx_eq_take_drop_succ l i
  have hlen : (l.eraseIdx i).length = l.length - 1 := by rw [List.length_eraseIdx]; simp [h0]
  have hlz : ((l.eraseIdx i ++ List.replicate 1 (0 : Int)).map (Value.int .i64)).length = l.length := by simp only [List.length_map, List.length_append, List.length_replicate, hlen]; omega
  have hB1 := Blk.setCells ((l.eraseIdx i ++ List.replicate 1 (0 : Int)).map (Value.int .i64)) 0 (w.drewN q) C hB (by rw [hlz]; omega)
  rw [List.take_of_length_le (Nat.le_refl l.length), ← hE, show i + 1 - i = 1 by omega] at hw
  have hS : ∀ k, k = ρ 0 → feet (denM ρ 0 (conDelete.mem ⟨l, m, c, nn, z, i⟩)) k := fun k hk => ⟨_, List.mem_cons_self, hc, hk.symm⟩
  have hk : Kept (feet (denM ρ 0 (conDelete.mem ⟨l, m, c, nn, z, i⟩))) w w' := by
    rw [hw]; exact ((Kept.of_below (below_drewN w q)).trans ((setCells_kept (ρ 0) _ _ _).mono hS))
  refine ⟨⟨l.length - 1, c, true, fun j _ => (l.eraseIdx i).getD j 0⟩, fun _ => ρ 0, ⟨⟨rfl, rfl⟩, fun i _ => rfl⟩, fun i hi => by simp [conDelete] at hi, rfl, ?_, ?_⟩
  · rw [he]
    simp only [conDelete, SV.den, SA.den, SC.den, Bool.not_true, Bool.and_false, cond_false, Nat.zero_mul, Nat.sub_zero, cond0]
    rw [show l.length - (i + 1 - i) = l.length - 1 by omega]
  · have := mem_row (w' := w') (l := l.eraseIdx i) (c := c) (d := ρ 0) hk (.inl (hS _ rfl)) (by rw [hw]; exact hB1) (by rw [spl_length _ _ _ (by rw [hlz]; omega)]; omega) (by omega) (by unfold maxLen; omega) (by
      simp only [spl, List.take_zero, List.nil_append, List.map_append]
      rw [List.append_assoc, List.take_append_of_le_length (by simp), List.take_of_length_le (by simp)])
    rw [hlen] at this
    exact this
end Go.Proofs.YtacgihekdmoceaaDoor
end
section
namespace Go.Proofs.YtacgihekdmoceaaDoor
open Go.RowKit
set_option linter.unusedVariables false
set_option maxRecDepth 100000
set_option maxHeartbeats 4000000
theorem deque_con : (Con.mem (lstCon deqR)).holds Tryd.prog 47 := by
  intro w0 S
  refine mem_of_run (AG := []) (Γ := [(70, .rd conClone), (71, .mem conInsert), (72, .mem conDelete)]) (fun _ => noW) Tryd.func47 rfl (by kernel_rfl) tabL_ok tabL_tys (fun w S' _ _ => .cons (clone_con w S') (.cons (insert_con w S') (.cons (delete_con w S') (.nil _ _ _)))) (lstCon deqR) (fun x0 h => by cases h) (fun s ρ w _ _ _ => noW_old w _)
    nzL rpL 400 ?_
  rintro ⟨l, m, c, nn, z, k, key, x⟩ w ⟨h1, ⟨h2m, h2c⟩, h4, h5, h6⟩ -
  refine ⟨rfl, ?_⟩
  dsimp only at h1 h2m h2c h4 h5 h6
  have h2 := Nat.le_trans h2m h2c
  have hs : 0 + l.length ≤ m ∧ l.length ≤ 1000 := ⟨by omega, by omega⟩
  have hk : k = 1 ∨ k = 2 ∨ k = 3 ∨ k = 4 ∨ k = 5 ∨ k = 6 := by omega
  rcases hk with rfl | rfl | rfl | rfl | rfl | rfl
  ·
    refine by_eq (q :=
        ∃ (s : CloS), [SA.c (.so 0 0 1 (List.length l) c nn)] = [SA.c (.so 0 s.1 1 s.2 s.4 s.5)] ∧ [SB.rows 3 [.int .i64] 1 m c z] = [SB.rows 3 [.int .i64] 1 s.3 s.4 s.6] ∧ (s.1 + s.2 ≤ s.3 ∧ s.2 ≤ 1000) ∧ ∀ (x_1 : CloR), (s.2 ≤ x_1.1 ∧ ((match Nat.beq s.4 0 with | false => false | true => bif s.5 then false else true) = true → x_1.2 = false ∧ x_1.1 = 0) ∧ ∀ (i : Nat), i < s.2 → x_1.3 i 0 = s.6 (s.1 + i) 0) → s.2 ≤ x_1.1 ∧ bif decide ((↑s.2 : Int) ≥ (6 : Int)) then endN (lstCon deqR) nzL rpL (LstS.mk l m c nn z (1 : Int) key x) (SV.t [SA.c (.so 3 0 1 s.2 x_1.1 x_1.2), SA.a [Seg.one (.v (.int .i64 (3 : Int))), Seg.one (.v (.int .i64 (0 : Int)))]]) [SB.rows 3 [.int .i64] 1 m c z, SB.cells [Seg.one (.v (.int .i64 (1 : Int))), Seg.one (.v (.int .i64 key)), Seg.one (.v (.int .i64 x))] 30, SB.cells [Seg.one (.v (.int .i64 (3 : Int))), Seg.one (.v (.int .i64 (0 : Int)))] 32, SB.rows 3 [.int .i64] 1 s.2 x_1.1 x_1.3] else ((s.2 ≤ s.2 ∧ x_1.1 = x_1.1) ∧ (1 ≤ 1 ∧ 1 = 1) ∧ s.2 + 1 ≤ 68719476736) ∧ ∀ (c_1 : Nat), s.2 + 1 ≤ c_1 → endN (lstCon deqR) nzL rpL (LstS.mk l m c nn z (1 : Int) key x) (SV.t [SA.c (.so 5 0 1 (s.2 + 1) c_1 x_1.2), SA.a [Seg.one (.v (.int .i64 (1 : Int))), Seg.one (.v (.int .i64 (0 : Int)))]]) [SB.rows 3 [.int .i64] 1 m c z, SB.cells [Seg.one (.v (.int .i64 (1 : Int))), Seg.one (.v (.int .i64 key)), Seg.one (.v (.int .i64 x))] 30, SB.cells [Seg.one (.v (.int .i64 (1 : Int))), Seg.one (.v (.int .i64 (0 : Int)))] 32, SB.gone, SB.rows 3 [.int .i64] 1 1 1 fun (i j : Nat) => match List.get?Internal (match List.get?Internal [[x]] i with | some x => x | none => []) j with | some x => x | none => (0 : Int), SB.rows 3 [.int .i64] 1 (s.2 + 1) c_1 fun (i j : Nat) => bif Nat.ble (i + 1) s.2 then x_1.3 i j else match List.get?Internal (match List.get?Internal [[x]] (0 + (i - s.2)) with | some x => x | none => []) j with | some x => x | none => (0 : Int)]) (by kernel_rfl) ?_
    refine ⟨⟨0, l.length, m, c, nn, z⟩, rfl, rfl, hs, fun y hy => ⟨hy.1, by_dec (fun h => ?_) (fun h => ?_)⟩⟩
    · have e : deqR l 1 x = (l, 3, 0) := by unfold deqR; rw [if_pos (by decide), if_pos (by dsimp only at h; omega)]
      exact lst_end _ _ _ _ _ _ _ _ _ _ _ rfl rfl rfl _ e rfl (Nat.le_refl _) hy.1 (h4.sub fun i hi => (hy.2.2 i hi).trans (by rw [Nat.zero_add])) rfl rfl
    · dsimp only at h hy ⊢
      have e : deqR l 1 x = (l ++ [x], 1, 0) := by unfold deqR; rw [if_pos (by decide), if_neg (by omega), if_pos rfl]
      refine ⟨⟨⟨Nat.le_refl _, rfl⟩, ⟨Nat.le_refl _, rfl⟩, by omega⟩, fun c' hc' => ?_⟩
      exact lst_end _ _ _ _ _ _ _ _ _ _ _ rfl rfl rfl _ e (by simp) (Nat.le_refl _) hc' (h4.snoc (fun i hi => (catT hi).trans ((hy.2.2 i hi).trans (by rw [Nat.zero_add]))) (catF.trans (by rw [Nat.sub_self]; rfl))) rfl rfl
  ·
    refine by_eq (q :=
        ∃ (s : CloS), [SA.c (.so 0 0 1 (List.length l) c nn)] = [SA.c (.so 0 s.1 1 s.2 s.4 s.5)] ∧ [SB.rows 3 [.int .i64] 1 m c z] = [SB.rows 3 [.int .i64] 1 s.3 s.4 s.6] ∧ (s.1 + s.2 ≤ s.3 ∧ s.2 ≤ 1000) ∧ ∀ (x_1 : CloR), (s.2 ≤ x_1.1 ∧ ((match Nat.beq s.4 0 with | false => false | true => bif s.5 then false else true) = true → x_1.2 = false ∧ x_1.1 = 0) ∧ ∀ (i : Nat), i < s.2 → x_1.3 i 0 = s.6 (s.1 + i) 0) → s.2 ≤ x_1.1 ∧ bif (↑s.2 : Int) == (0 : Int) then endN (lstCon deqR) nzL rpL (LstS.mk l m c nn z (2 : Int) key x) (SV.t [SA.c (.so 3 0 1 s.2 x_1.1 x_1.2), SA.a [Seg.one (.v (.int .i64 (2 : Int))), Seg.one (.v (.int .i64 (0 : Int)))]]) [SB.rows 3 [.int .i64] 1 m c z, SB.cells [Seg.one (.v (.int .i64 (2 : Int))), Seg.one (.v (.int .i64 key)), Seg.one (.v (.int .i64 x))] 30, SB.cells [Seg.one (.v (.int .i64 (2 : Int))), Seg.one (.v (.int .i64 (0 : Int)))] 32, SB.rows 3 [.int .i64] 1 s.2 x_1.1 x_1.3] else ((0 : Int) ≤ (0 : Int) ∧ (0 : Int) < (↑s.2 : Int) ∧ 0 + s.2 ≤ x_1.1) ∧ 0 < s.2 ∧ ∃ (s_1 : DelS), [SA.c (.so 3 0 1 s.2 x_1.1 x_1.2), SA.c (.v (Value.int .i64 (0 : Int))), SA.c (.v (Value.int .i64 (1 : Int)))] = [SA.c (.so 3 0 1 (List.length s_1.1) s_1.3 s_1.4), SA.c (.v (Value.int .i64 (↑s_1.6 : Int))), SA.c (.v (Value.int .i64 (↑(s_1.6 + 1) : Int)))] ∧ [SB.rows 3 [.int .i64] 1 s.2 x_1.1 x_1.3] = [SB.rows 3 [.int .i64] 1 s_1.2 s_1.3 s_1.5] ∧ ((s_1.6 < List.length s_1.1 ∧ List.length s_1.1 ≤ 1000) ∧ (List.length s_1.1 ≤ s_1.2 ∧ s_1.2 ≤ s_1.3) ∧ IsL s_1.5 s_1.1) ∧ ∀ (x_2 : LstR), ((x_2.1 = match List.length s_1.1 with | 0 => 0 | Nat.succ a => a) ∧ x_2.2 = s_1.3) ∧ IsL x_2.4 (List.eraseIdx s_1.1 s_1.6) → endN (lstCon deqR) nzL rpL (LstS.mk l m c nn z (2 : Int) key x) (SV.t [SA.c (SC.so 4 0 1 (match List.length s_1.1 with | 0 => 0 | Nat.succ a => a) x_2.2 true), SA.a [Seg.one (.v (.int .i64 (1 : Int))), Seg.one (.v (.int .i64 (x_1.3 0 0)))]]) [SB.rows 3 [.int .i64] 1 m c z, SB.cells [Seg.one (.v (.int .i64 (2 : Int))), Seg.one (.v (.int .i64 key)), Seg.one (.v (.int .i64 x))] 30, SB.cells [Seg.one (.v (.int .i64 (1 : Int))), Seg.one (.v (.int .i64 (x_1.3 0 0)))] 32, SB.gone, SB.rows 3 [.int .i64] 1 x_2.1 x_2.2 x_2.4]) (by kernel_rfl) ?_
    refine ⟨⟨0, l.length, m, c, nn, z⟩, rfl, rfl, hs, fun y hy => ⟨hy.1, by_beq (fun h => ?_) (fun h => ?_)⟩⟩
    · have e : deqR l 2 x = (l, 2, 0) := by unfold deqR; rw [if_neg (by decide), if_pos (by decide), if_pos (by dsimp only at h; omega)]
      exact lst_end _ _ _ _ _ _ _ _ _ _ _ rfl rfl rfl _ e rfl (Nat.le_refl _) hy.1 (h4.sub fun i hi => (hy.2.2 i hi).trans (by rw [Nat.zero_add])) rfl rfl
    · dsimp only at h hy ⊢
      have hn : 0 < l.length := by omega
      have e : deqR l 2 x = (l.eraseIdx 0, 1, l.getD 0 0) := by unfold deqR; rw [if_neg (by decide), if_pos (by decide), if_neg (by omega), if_neg (by decide), if_neg (by decide)]
      have hy0 (i : Nat) (hi : i < l.length) : y.3 (0 + i) 0 = l.getD i 0 := (congrArg (y.3 · 0) (Nat.zero_add i)).trans ((hy.2.2 i hi).trans ((congrArg (z · 0) (Nat.zero_add i)).trans (h4 i hi)))
      refine ⟨⟨by omega, by omega, by have := hy.1; omega⟩, hn, ⟨l, l.length, y.1, y.2, y.3, 0⟩, rfl, rfl, ⟨⟨hn, Nat.le_trans h1 (by decide)⟩, ⟨Nat.le_refl _, hy.1⟩, h4.sub fun i hi => (hy.2.2 i hi).trans (by rw [Nat.zero_add])⟩, fun q hq => ?_⟩
      exact lst_end _ _ _ _ _ _ _ _ _ _ _ rfl rfl rfl _ e (by rw [List.length_eraseIdx, if_pos hn]; rfl) (Nat.le_of_eq (show l.length - 1 = q.1 from hq.1.1.symm)) (Nat.le_trans (Nat.le_of_eq (show q.1 = l.length - 1 from hq.1.1)) (Nat.le_trans (Nat.le_trans (Nat.sub_le _ _) hy.1) (Nat.le_of_eq hq.1.2.symm))) hq.2 rfl (hy0 0 hn)
  ·
    refine by_eq (q :=
        ∃ (s : CloS), [SA.c (.so 0 0 1 (List.length l) c nn)] = [SA.c (.so 0 s.1 1 s.2 s.4 s.5)] ∧ [SB.rows 3 [.int .i64] 1 m c z] = [SB.rows 3 [.int .i64] 1 s.3 s.4 s.6] ∧ (s.1 + s.2 ≤ s.3 ∧ s.2 ≤ 1000) ∧ ∀ (x_1 : CloR), (s.2 ≤ x_1.1 ∧ ((match Nat.beq s.4 0 with | false => false | true => bif s.5 then false else true) = true → x_1.2 = false ∧ x_1.1 = 0) ∧ ∀ (i : Nat), i < s.2 → x_1.3 i 0 = s.6 (s.1 + i) 0) → s.2 ≤ x_1.1 ∧ bif decide ((↑s.2 : Int) ≥ (6 : Int)) then endN (lstCon deqR) nzL rpL (LstS.mk l m c nn z (3 : Int) key x) (SV.t [SA.c (.so 3 0 1 s.2 x_1.1 x_1.2), SA.a [Seg.one (.v (.int .i64 (3 : Int))), Seg.one (.v (.int .i64 (0 : Int)))]]) [SB.rows 3 [.int .i64] 1 m c z, SB.cells [Seg.one (.v (.int .i64 (3 : Int))), Seg.one (.v (.int .i64 key)), Seg.one (.v (.int .i64 x))] 30, SB.cells [Seg.one (.v (.int .i64 (3 : Int))), Seg.one (.v (.int .i64 (0 : Int)))] 32, SB.rows 3 [.int .i64] 1 s.2 x_1.1 x_1.3] else ∃ (s_1 : InsS), [SA.c (.so 3 0 1 s.2 x_1.1 x_1.2), SA.c (.v (Value.int .i64 (0 : Int))), SA.c (.so 4 0 1 1 1 true)] = [SA.c (.so 3 0 1 (List.length s_1.1) s_1.3 s_1.4), SA.c (.v (Value.int .i64 (0 : Int))), SA.c (.so 4 0 1 1 1 true)] ∧ [SB.rows 3 [.int .i64] 1 s.2 x_1.1 x_1.3, SB.rows 3 [.int .i64] 1 1 1 fun (i j : Nat) => match List.get?Internal (match List.get?Internal [[x]] i with | some x => x | none => []) j with | some x => x | none => (0 : Int)] = [SB.rows 3 [.int .i64] 1 s_1.2 s_1.3 s_1.5, SB.rows 3 [.int .i64] 1 1 1 s_1.6] ∧ (List.length s_1.1 ≤ 1000 ∧ (List.length s_1.1 ≤ s_1.2 ∧ s_1.2 ≤ s_1.3) ∧ IsL s_1.5 s_1.1) ∧ ∀ (x_2 : LstR), (x_2.1 = List.length s_1.1 + 1 ∧ x_2.1 ≤ x_2.2) ∧ IsL x_2.4 (s_1.6 0 0 :: s_1.1) → endN (lstCon deqR) nzL rpL (LstS.mk l m c nn z (3 : Int) key x) (SV.t [SA.c (.so 5 0 1 (List.length s_1.1 + 1) x_2.2 x_2.3), SA.a [Seg.one (.v (.int .i64 (1 : Int))), Seg.one (.v (.int .i64 (0 : Int)))]]) [SB.rows 3 [.int .i64] 1 m c z, SB.cells [Seg.one (.v (.int .i64 (3 : Int))), Seg.one (.v (.int .i64 key)), Seg.one (.v (.int .i64 x))] 30, SB.cells [Seg.one (.v (.int .i64 (1 : Int))), Seg.one (.v (.int .i64 (0 : Int)))] 32, SB.gone, SB.gone, SB.rows 3 [.int .i64] 1 x_2.1 x_2.2 x_2.4]) (by kernel_rfl) ?_
    refine ⟨⟨0, l.length, m, c, nn, z⟩, rfl, rfl, hs, fun y hy => ⟨hy.1, by_dec (fun h => ?_) (fun h => ?_)⟩⟩
    · have e : deqR l 3 x = (l, 3, 0) := by unfold deqR; rw [if_pos (by decide), if_pos (by dsimp only at h; omega)]
      exact lst_end _ _ _ _ _ _ _ _ _ _ _ rfl rfl rfl _ e rfl (Nat.le_refl _) hy.1 (h4.sub fun i hi => (hy.2.2 i hi).trans (by rw [Nat.zero_add])) rfl rfl
    · dsimp only at h hy ⊢
      have e : deqR l 3 x = (x :: l, 1, 0) := by unfold deqR; rw [if_pos (by decide), if_neg (by omega), if_neg (by decide)]
      refine ⟨⟨l, l.length, y.1, y.2, y.3, _⟩, rfl, rfl, ⟨Nat.le_trans h1 (by decide), ⟨Nat.le_refl _, hy.1⟩, h4.sub fun i hi => (hy.2.2 i hi).trans (by rw [Nat.zero_add])⟩, fun q hq => ?_⟩
      exact lst_end _ _ _ _ _ _ _ _ _ _ _ rfl rfl rfl _ e rfl (by rw [hq.1.1]; exact Nat.le_refl _) hq.1.2 hq.2 rfl rfl
  ·
    refine by_eq (q :=
        ∃ (s : CloS), [SA.c (.so 0 0 1 (List.length l) c nn)] = [SA.c (.so 0 s.1 1 s.2 s.4 s.5)] ∧ [SB.rows 3 [.int .i64] 1 m c z] = [SB.rows 3 [.int .i64] 1 s.3 s.4 s.6] ∧ (s.1 + s.2 ≤ s.3 ∧ s.2 ≤ 1000) ∧ ∀ (x_1 : CloR), (s.2 ≤ x_1.1 ∧ ((match Nat.beq s.4 0 with | false => false | true => bif s.5 then false else true) = true → x_1.2 = false ∧ x_1.1 = 0) ∧ ∀ (i : Nat), i < s.2 → x_1.3 i 0 = s.6 (s.1 + i) 0) → s.2 ≤ x_1.1 ∧ bif (↑s.2 : Int) == (0 : Int) then endN (lstCon deqR) nzL rpL (LstS.mk l m c nn z (4 : Int) key x) (SV.t [SA.c (.so 3 0 1 s.2 x_1.1 x_1.2), SA.a [Seg.one (.v (.int .i64 (2 : Int))), Seg.one (.v (.int .i64 (0 : Int)))]]) [SB.rows 3 [.int .i64] 1 m c z, SB.cells [Seg.one (.v (.int .i64 (4 : Int))), Seg.one (.v (.int .i64 key)), Seg.one (.v (.int .i64 x))] 30, SB.cells [Seg.one (.v (.int .i64 (2 : Int))), Seg.one (.v (.int .i64 (0 : Int)))] 32, SB.rows 3 [.int .i64] 1 s.2 x_1.1 x_1.3] else s.2 ≤ x_1.1 ∧ ((0 : Int) ≤ IntKind.wrap .i64 ((↑s.2 : Int) - (1 : Int)) ∧ IntKind.wrap .i64 ((↑s.2 : Int) - (1 : Int)) < (↑s.2 : Int) ∧ 0 + s.2 ≤ x_1.1) ∧ 0 + Int.toNat (IntKind.wrap .i64 ((↑s.2 : Int) - (1 : Int))) < s.2 ∧ ∃ (s_1 : DelS), [SA.c (.so 3 0 1 s.2 x_1.1 x_1.2), SA.c (.v (Value.int .i64 (IntKind.wrap .i64 ((↑s.2 : Int) - (1 : Int))))), SA.c (.v (.int .i64 (IntKind.wrap .i64 (IntKind.wrap .i64 ((↑s.2 : Int) - (1 : Int)) + (1 : Int)))))] = [SA.c (.so 3 0 1 (List.length s_1.1) s_1.3 s_1.4), SA.c (.v (Value.int .i64 (↑s_1.6 : Int))), SA.c (.v (Value.int .i64 (↑(s_1.6 + 1) : Int)))] ∧ [SB.rows 3 [.int .i64] 1 s.2 x_1.1 x_1.3] = [SB.rows 3 [.int .i64] 1 s_1.2 s_1.3 s_1.5] ∧ ((s_1.6 < List.length s_1.1 ∧ List.length s_1.1 ≤ 1000) ∧ (List.length s_1.1 ≤ s_1.2 ∧ s_1.2 ≤ s_1.3) ∧ IsL s_1.5 s_1.1) ∧ ∀ (x_2 : LstR), ((x_2.1 = match List.length s_1.1 with | 0 => 0 | Nat.succ a => a) ∧ x_2.2 = s_1.3) ∧ IsL x_2.4 (List.eraseIdx s_1.1 s_1.6) → endN (lstCon deqR) nzL rpL (LstS.mk l m c nn z (4 : Int) key x) (SV.t [SA.c (SC.so 4 0 1 (match List.length s_1.1 with | 0 => 0 | Nat.succ a => a) x_2.2 true), SA.a [Seg.one (.v (.int .i64 (1 : Int))), Seg.one (SC.v (Value.int .i64 (x_1.3 (0 + Int.toNat (IntKind.wrap .i64 ((↑s.2 : Int) - (1 : Int)))) 0)))]]) [SB.rows 3 [.int .i64] 1 m c z, SB.cells [Seg.one (.v (.int .i64 (4 : Int))), Seg.one (.v (.int .i64 key)), Seg.one (.v (.int .i64 x))] 30, SB.cells [Seg.one (.v (.int .i64 (1 : Int))), Seg.one (SC.v (Value.int .i64 (x_1.3 (0 + Int.toNat (IntKind.wrap .i64 ((↑s.2 : Int) - (1 : Int)))) 0)))] 32, SB.gone, SB.rows 3 [.int .i64] 1 x_2.1 x_2.2 x_2.4]) (by kernel_rfl) ?_
    refine ⟨⟨0, l.length, m, c, nn, z⟩, rfl, rfl, hs, fun y hy => ⟨hy.1, by_beq (fun h => ?_) (fun h => ?_)⟩⟩
    · have e : deqR l 4 x = (l, 2, 0) := by unfold deqR; rw [if_neg (by decide), if_pos (by decide), if_pos (by dsimp only at h; omega)]
      exact lst_end _ _ _ _ _ _ _ _ _ _ _ rfl rfl rfl _ e rfl (Nat.le_refl _) hy.1 (h4.sub fun i hi => (hy.2.2 i hi).trans (by rw [Nat.zero_add])) rfl rfl
    · dsimp only at h hy ⊢
      have hn : 0 < l.length := by omega
      have e : deqR l 4 x = (l.eraseIdx (l.length - 1), 1, l.getD (l.length - 1) 0) := by unfold deqR; rw [if_neg (by decide), if_pos (by decide), if_neg (by omega), if_neg (by decide), if_pos rfl]
      have hy0 (i : Nat) (hi : i < l.length) : y.3 (0 + i) 0 = l.getD i 0 := (congrArg (y.3 · 0) (Nat.zero_add i)).trans ((hy.2.2 i hi).trans ((congrArg (z · 0) (Nat.zero_add i)).trans (h4 i hi)))
      have ew : IntKind.wrap .i64 ((l.length : Int) - 1) = ((l.length - 1 : Nat) : Int) := by rw [wrapI (by omega) (by omega)]; omega
      rw [ew, sucI (by omega), Int.toNat_natCast]
      refine ⟨hy.1, ⟨by omega, by omega, by have := hy.1; omega⟩, by omega, ⟨l, l.length, y.1, y.2, y.3, l.length - 1⟩, rfl, rfl, ⟨⟨Nat.sub_lt hn (by decide), Nat.le_trans h1 (by decide)⟩, ⟨Nat.le_refl _, hy.1⟩, h4.sub fun i hi => (hy.2.2 i hi).trans (by rw [Nat.zero_add])⟩, fun q hq => ?_⟩
      exact lst_end _ _ _ _ _ _ _ _ _ _ _ rfl rfl rfl _ e (by rw [List.length_eraseIdx, if_pos (Nat.sub_lt hn (by decide))]; rfl) (Nat.le_of_eq (show l.length - 1 = q.1 from hq.1.1.symm)) (Nat.le_trans (Nat.le_of_eq (show q.1 = l.length - 1 from hq.1.1)) (Nat.le_trans (Nat.le_trans (Nat.sub_le _ _) hy.1) (Nat.le_of_eq hq.1.2.symm))) hq.2 rfl (hy0 _ (by omega))
  ·
    refine by_eq (q :=
        ∃ (s : CloS), [SA.c (.so 0 0 1 (List.length l) c nn)] = [SA.c (.so 0 s.1 1 s.2 s.4 s.5)] ∧ [SB.rows 3 [.int .i64] 1 m c z] = [SB.rows 3 [.int .i64] 1 s.3 s.4 s.6] ∧ (s.1 + s.2 ≤ s.3 ∧ s.2 ≤ 1000) ∧ ∀ (x_1 : CloR), (s.2 ≤ x_1.1 ∧ ((match Nat.beq s.4 0 with | false => false | true => bif s.5 then false else true) = true → x_1.2 = false ∧ x_1.1 = 0) ∧ ∀ (i : Nat), i < s.2 → x_1.3 i 0 = s.6 (s.1 + i) 0) → s.2 ≤ x_1.1 ∧ bif (↑s.2 : Int) == (0 : Int) then endN (lstCon deqR) nzL rpL (LstS.mk l m c nn z (5 : Int) key x) (SV.t [SA.c (.so 3 0 1 s.2 x_1.1 x_1.2), SA.a [Seg.one (.v (.int .i64 (2 : Int))), Seg.one (.v (.int .i64 (0 : Int)))]]) [SB.rows 3 [.int .i64] 1 m c z, SB.cells [Seg.one (.v (.int .i64 (5 : Int))), Seg.one (.v (.int .i64 key)), Seg.one (.v (.int .i64 x))] 30, SB.cells [Seg.one (.v (.int .i64 (2 : Int))), Seg.one (.v (.int .i64 (0 : Int)))] 32, SB.rows 3 [.int .i64] 1 s.2 x_1.1 x_1.3] else ((0 : Int) ≤ (0 : Int) ∧ (0 : Int) < (↑s.2 : Int) ∧ 0 + s.2 ≤ x_1.1) ∧ 0 < s.2 ∧ endN (lstCon deqR) nzL rpL (LstS.mk l m c nn z (5 : Int) key x) (SV.t [SA.c (.so 3 0 1 s.2 x_1.1 x_1.2), SA.a [Seg.one (.v (.int .i64 (1 : Int))), Seg.one (.v (.int .i64 (x_1.3 0 0)))]]) [SB.rows 3 [.int .i64] 1 m c z, SB.cells [Seg.one (.v (.int .i64 (5 : Int))), Seg.one (.v (.int .i64 key)), Seg.one (.v (.int .i64 x))] 30, SB.cells [Seg.one (.v (.int .i64 (1 : Int))), Seg.one (.v (.int .i64 (x_1.3 0 0)))] 32, SB.rows 3 [.int .i64] 1 s.2 x_1.1 x_1.3]) (by kernel_rfl) ?_
    refine ⟨⟨0, l.length, m, c, nn, z⟩, rfl, rfl, hs, fun y hy => ⟨hy.1, by_beq (fun h => ?_) (fun h => ?_)⟩⟩
    · have e : deqR l 5 x = (l, 2, 0) := by unfold deqR; rw [if_neg (by decide), if_pos (by decide), if_pos (by dsimp only at h; omega)]
      exact lst_end _ _ _ _ _ _ _ _ _ _ _ rfl rfl rfl _ e rfl (Nat.le_refl _) hy.1 (h4.sub fun i hi => (hy.2.2 i hi).trans (by rw [Nat.zero_add])) rfl rfl
    · dsimp only at h hy ⊢
      have hn : 0 < l.length := by omega
      have e : deqR l 5 x = (l, 1, l.getD 0 0) := by unfold deqR; rw [if_neg (by decide), if_pos (by decide), if_neg (by omega), if_pos rfl]
      have hy0 (i : Nat) (hi : i < l.length) : y.3 (0 + i) 0 = l.getD i 0 := (congrArg (y.3 · 0) (Nat.zero_add i)).trans ((hy.2.2 i hi).trans ((congrArg (z · 0) (Nat.zero_add i)).trans (h4 i hi)))
      refine ⟨⟨by omega, by omega, by have := hy.1; omega⟩, hn, ?_⟩
      exact lst_end _ _ _ _ _ _ _ _ _ _ _ rfl rfl rfl _ e rfl (Nat.le_refl _) hy.1 (h4.sub fun i hi => (hy.2.2 i hi).trans (by rw [Nat.zero_add])) rfl (hy0 0 hn)
  ·
    refine by_eq (q :=
        ∃ (s : CloS), [SA.c (.so 0 0 1 (List.length l) c nn)] = [SA.c (.so 0 s.1 1 s.2 s.4 s.5)] ∧ [SB.rows 3 [.int .i64] 1 m c z] = [SB.rows 3 [.int .i64] 1 s.3 s.4 s.6] ∧ (s.1 + s.2 ≤ s.3 ∧ s.2 ≤ 1000) ∧ ∀ (x_1 : CloR), (s.2 ≤ x_1.1 ∧ ((match Nat.beq s.4 0 with | false => false | true => bif s.5 then false else true) = true → x_1.2 = false ∧ x_1.1 = 0) ∧ ∀ (i : Nat), i < s.2 → x_1.3 i 0 = s.6 (s.1 + i) 0) → s.2 ≤ x_1.1 ∧ endN (lstCon deqR) nzL rpL (LstS.mk l m c nn z (6 : Int) key x) (SV.t [SA.c (.so 3 0 1 s.2 x_1.1 x_1.2), SA.a [Seg.one (.v (.int .i64 (1 : Int))), Seg.one (.v (.int .i64 (↑s.2 : Int)))]]) [SB.rows 3 [.int .i64] 1 m c z, SB.cells [Seg.one (.v (.int .i64 (6 : Int))), Seg.one (.v (.int .i64 key)), Seg.one (.v (.int .i64 x))] 30, SB.cells [Seg.one (.v (.int .i64 (1 : Int))), Seg.one (.v (.int .i64 (↑s.2 : Int)))] 32, SB.rows 3 [.int .i64] 1 s.2 x_1.1 x_1.3]) (by kernel_rfl) ?_
    exact ⟨⟨0, l.length, m, c, nn, z⟩, rfl, rfl, hs, fun y hy => ⟨hy.1, lst_end _ _ _ _ _ _ _ _ _ _ _ rfl rfl rfl (l, 1, (l.length : Int)) rfl rfl (Nat.le_refl _) hy.1 (h4.sub fun i hi => (hy.2.2 i hi).trans (by rw [Nat.zero_add])) rfl rfl⟩⟩
end Go.Proofs.YtacgihekdmoceaaDoor
end
section
namespace Go.Proofs.YtacgihekdmoceaaDoor
open Go.RowKit
set_option linter.unusedVariables false
set_option maxRecDepth 100000
set_option maxHeartbeats 4000000
structure UpS where
  l : List Int
  m : Nat
  c : Nat
  nn : Bool
  z : Nat → Nat → Int
abbrev UpS.pre (s : UpS) : Prop := s.l.length ≤ 1000 ∧ s.l.length ≤ s.m ∧ s.m ≤ s.c ∧ IsL s.z s.l
/-- What turns a list in its place. -/
def sinkCon (p : List Int → Prop) (F : List Int → List Int) : MCon where
  σ := UpS
  χ := Nat → Nat → Int
  pre s := s.pre ∧ p s.l
  args s := [.c (.so 0 0 1 s.l.length s.c s.nn)]
  mem s := [rowsI s.m s.c s.z]
  ok s z := IsL z (F s.l)
  val s z := .o (.c (.so 0 0 1 s.l.length s.c s.nn))
  mem' s z := [rowsI s.m s.c z]
  k := 1
  len := 1
  det := none
  find args M := some (blkA args)
theorem sink_end {p : List Int → Prop} {F : List Int → List Int} {s : UpS} {z : Nat → Nat → Int} (h : IsL z (F s.l)) : endN (sinkCon p F) [] (firstN 1) s (.o (.c (.so 0 0 1 s.l.length s.c s.nn))) [rowsI s.m s.c z] :=
  ⟨z, h, rfl, rfl⟩
structure UpG (s : UpS) where
  l : List Int
  i : Nat
  z : Nat → Nat → Int
  hl : l.length = s.l.length
  hi : i < l.length
  hz : IsL z l
  he : ∃ f, i ≤ f ∧ upF f l i = upOf s.l
def annUp (s : UpS) : Ann where
  σ := UpG s
  I g := ([(0, .o (.c (.so 0 0 1 s.l.length s.c s.nn))), (3, sv (.int .i64 g.i))], [rowsI s.m s.c g.z])
  dec g := g.i
  pi _ _ := [0]
  nz := []
/-- Two rows changed places. -/
theorem sw_get {z : Nat → Nat → Int} {a b : Nat} {u v w : Int} (j : Nat) (ha : z (0 + a) 0 = u) (hb : z (0 + b) 0 = v) (hj : z j 0 = w) :
    (bif (match Nat.beq j (0 + b) with | false => false | true => Nat.ble 0 0) then (match List.get?Internal [z (0 + a) 0] 0 with | some x => x | none => (0 : Int))
      else bif (match Nat.beq j (0 + a) with | false => false | true => Nat.ble 0 0) then (match List.get?Internal [z (0 + b) 0] 0 with | some x => x | none => (0 : Int)) else z j 0) = if j = b then u else if j = a then v else w := by
  rw [Nat.zero_add] at *
  rw [Nat.zero_add] at *
  subst ha hb hj
  by_cases h1 : j = b
  · subst h1; simp [List.get?Internal]; rfl
  · rw [show Nat.beq j b = false from nbeq h1, if_neg h1]
    by_cases h2 : j = a
    · subst h2; simp [List.get?Internal]; rfl
    · rw [show Nat.beq j a = false from nbeq h2, if_neg h2]; rfl
theorem up_con : (Con.mem (sinkCon (fun l => 0 < l.length) upOf)).holds Tryd.prog 73 := by
  intro w0 S
  refine mem_of_run2 (Γ := []) (fun _ => noW) Tryd.func73 rfl (by kernel_rfl) tabL_ok tabL_tys (fun _ _ _ _ => .nil _ _ _) (sinkCon _ upOf) (fun s => [(73, [(0, annUp s)])]) (fun x0 h => by cases h) (fun s ρ w _ _ _ => noW_old w _) [] (firstN 1) 400 ?_
  rintro ⟨l, m, c, nn, z⟩ w ⟨⟨h1, h2, h3, h4⟩, h5⟩ -
  refine ⟨rfl, ?_⟩
  dsimp only at h1 h2 h3 h4 h5
  refine by_eq (q :=
      List.length l ≤ c ∧ (∃ (s0 : Ann.σ (annUp (UpS.mk l m c nn z))), (some (SV.o (SA.c (.so 0 0 1 (List.length l) c nn))) = some (SV.o (SA.c (.so 0 0 1 (List.length l) c nn))) ∧ some (SV.o (SA.c (.v (Value.int .i64 (IntKind.wrap .i64 ((↑(List.length l) : Int) - (1 : Int))))))) = some (SV.o (SA.c (.v (Value.int .i64 (↑s0.2 : Int))))) ∧ True) ∧ [SB.rows 3 [.int .i64] 1 m c z] = [SB.rows 3 [.int .i64] 1 m c s0.3]) ∧ ∀ (s : UpG (UpS.mk l m c nn z)), bif decide ((↑s.2 : Int) > (0 : Int)) then ((0 : Int) ≤ (↑s.2 : Int) ∧ (↑s.2 : Int) < (↑(List.length l) : Int) ∧ 0 + List.length l ≤ c) ∧ 0 + Int.toNat (↑s.2 : Int) < m ∧ (2 : Int) ≠ (0 : Int) ∧ ((0 : Int) ≤ IntKind.wrap .i64 (Int.tdiv (IntKind.wrap .i64 ((↑s.2 : Int) - (1 : Int))) (2 : Int)) ∧ IntKind.wrap .i64 (Int.tdiv (IntKind.wrap .i64 ((↑s.2 : Int) - (1 : Int))) (2 : Int)) < (↑(List.length l) : Int) ∧ 0 + List.length l ≤ c) ∧ 0 + Int.toNat (IntKind.wrap .i64 (Int.tdiv (IntKind.wrap .i64 ((↑s.2 : Int) - (1 : Int))) (2 : Int))) < m ∧ drawP Tryd.f73 2 (regOps Tryd.f73 2) 1 [HX.mk 14 [] [] [] false, HX.mk 13 [] [] [] false, HX.mk 12 [0] [] [] false, HX.mk 11 [] [] [0] false, HX.mk 10 [] [] [] false, HX.mk 9 [] [] [] false, HX.mk 8 [] [] [] false, HX.mk 7 [] [] [0] false, HX.mk 6 [0] [] [] false, HX.mk 5 [] [] [0] false, HX.mk 4 [] [] [] false, HX.mk 3 [] [] [0] false, HX.mk 2 [] [] [] false, HX.mk 1 [] [] [] false, HX.mk 0 [] [] [] false] ∧ bif decide (s.3 (0 + Int.toNat (↑s.2 : Int)) 0 < s.3 (0 + Int.toNat (IntKind.wrap .i64 (Int.tdiv (IntKind.wrap .i64 ((↑s.2 : Int) - (1 : Int))) (2 : Int)))) 0) then (2 : Int) ≠ (0 : Int) ∧ (2 : Int) ≠ (0 : Int) ∧ ((0 : Int) ≤ IntKind.wrap .i64 (Int.tdiv (IntKind.wrap .i64 ((↑s.2 : Int) - (1 : Int))) (2 : Int)) ∧ IntKind.wrap .i64 (Int.tdiv (IntKind.wrap .i64 ((↑s.2 : Int) - (1 : Int))) (2 : Int)) < (↑(List.length l) : Int) ∧ 0 + List.length l ≤ c) ∧ 0 + Int.toNat (IntKind.wrap .i64 (Int.tdiv (IntKind.wrap .i64 ((↑s.2 : Int) - (1 : Int))) (2 : Int))) < m ∧ ((0 : Int) ≤ (↑s.2 : Int) ∧ (↑s.2 : Int) < (↑(List.length l) : Int) ∧ 0 + List.length l ≤ c) ∧ 0 + Int.toNat (↑s.2 : Int) < m ∧ ((0 : Int) ≤ (↑s.2 : Int) ∧ (↑s.2 : Int) < (↑(List.length l) : Int) ∧ 0 + List.length l ≤ c) ∧ 0 + Int.toNat (↑s.2 : Int) < m ∧ ((0 : Int) ≤ IntKind.wrap .i64 (Int.tdiv (IntKind.wrap .i64 ((↑s.2 : Int) - (1 : Int))) (2 : Int)) ∧ IntKind.wrap .i64 (Int.tdiv (IntKind.wrap .i64 ((↑s.2 : Int) - (1 : Int))) (2 : Int)) < (↑(List.length l) : Int) ∧ 0 + List.length l ≤ c) ∧ 0 + Int.toNat (IntKind.wrap .i64 (Int.tdiv (IntKind.wrap .i64 ((↑s.2 : Int) - (1 : Int))) (2 : Int))) < m ∧ drawP Tryd.f73 4 (regOps Tryd.f73 4) 1 [HX.mk 19 [] [0] [] false, HX.mk 18 [] [] [0] false, HX.mk 17 [] [0] [] false, HX.mk 16 [] [] [0] false, HX.mk 15 [0] [] [] false, HX.mk 14 [] [] [0] false, HX.mk 13 [] [] [] false, HX.mk 12 [] [] [0] false, HX.mk 11 [0] [] [] false, HX.mk 10 [] [] [0] false, HX.mk 9 [] [] [] false, HX.mk 8 [] [] [] false, HX.mk 7 [] [] [] false, HX.mk 6 [] [] [0] false, HX.mk 5 [] [] [] false, HX.mk 4 [] [] [] false, HX.mk 3 [] [] [] false, HX.mk 2 [] [] [0] false, HX.mk 1 [] [] [] false, HX.mk 0 [] [] [0] false] ∧ (2 : Int) ≠ (0 : Int) ∧ ∃ (s' : UpG (UpS.mk l m c nn z)), ((some (SV.o (SA.c (.so 0 0 1 (List.length l) c nn))) = some (SV.o (SA.c (.so 0 0 1 (List.length l) c nn))) ∧ some (SV.o (SA.c (SC.v (Value.int .i64 (IntKind.wrap .i64 (Int.tdiv (IntKind.wrap .i64 ((↑s.2 : Int) - (1 : Int))) (2 : Int))))))) = some (SV.o (SA.c (.v (Value.int .i64 (↑s'.2 : Int))))) ∧ True) ∧ [SB.rows 3 [.int .i64] 1 m c fun (i j : Nat) => bif match Nat.beq i (0 + Int.toNat (IntKind.wrap .i64 (Int.tdiv (IntKind.wrap .i64 ((↑s.2 : Int) - (1 : Int))) (2 : Int)))) with | false => false | true => Nat.ble j 0 then match List.get?Internal [s.3 (0 + Int.toNat (↑s.2 : Int)) 0] j with | some x => x | none => (0 : Int) else bif match Nat.beq i (0 + Int.toNat (↑s.2 : Int)) with | false => false | true => Nat.ble j 0 then match List.get?Internal [s.3 (0 + Int.toNat (IntKind.wrap .i64 (Int.tdiv (IntKind.wrap .i64 ((↑s.2 : Int) - (1 : Int))) (2 : Int)))) 0] j with | some x => x | none => (0 : Int) else s.3 i j] = [SB.rows 3 [.int .i64] 1 m c s'.3]) ∧ s'.2 < s.2 else endN (sinkCon (fun (l : List Int) => 0 < List.length l) upOf) [] (firstN 1) (UpS.mk l m c nn z) (SV.o (SA.c (.so 0 0 1 (List.length l) c nn))) [SB.rows 3 [.int .i64] 1 m c s.3] else drawP Tryd.f73 2 (regOps Tryd.f73 2) 1 [HX.mk 14 [] [] [] false, HX.mk 13 [] [] [] false, HX.mk 12 [] [] [] false, HX.mk 11 [] [] [] false, HX.mk 10 [] [] [] false, HX.mk 9 [] [] [] false, HX.mk 8 [] [] [] false, HX.mk 7 [] [] [] false, HX.mk 6 [] [] [] false, HX.mk 5 [] [] [] false, HX.mk 4 [] [] [] false, HX.mk 3 [] [] [] false, HX.mk 2 [] [] [] false, HX.mk 1 [] [] [] false, HX.mk 0 [] [] [] false] ∧ endN (sinkCon (fun (l : List Int) => 0 < List.length l) upOf) [] (firstN 1) (UpS.mk l m c nn z) (SV.o (SA.c (.so 0 0 1 (List.length l) c nn))) [SB.rows 3 [.int .i64] 1 m c s.3]) (by kernel_rfl) ?_
  refine ⟨by omega, ⟨⟨l, l.length - 1, z, rfl, by omega, h4, ⟨l.length - 1, Nat.le_refl _, rfl⟩⟩, ⟨rfl, by rw [lenW h1]; congr 5; show _ = ((l.length - 1 : Nat) : Int); omega, trivial⟩, rfl⟩, ?_⟩
  rintro ⟨l', i, z', hl, hi, hz, f, hf, he⟩
  dsimp only at hl hi hz hf he ⊢
  refine by_dec (fun hpos => ?_) (fun hn => ⟨draw_of (by kernel_rfl), sink_end ?_⟩)
  · have e : IntKind.wrap .i64 (Int.tdiv (IntKind.wrap .i64 ((i : Int) - 1)) 2) = (((i - 1) / 2 : Nat) : Int) := by
      rw [wrapI (x := (i : Int) - 1) (by omega) (by omega), Int.tdiv_eq_ediv_of_nonneg (by omega), wrapI (by omega) (by omega)]; omega
    have hz1 : z' (0 + i) 0 = hp l' i := (congrArg (z' · 0) (Nat.zero_add i)).trans (hz i hi)
    have hz2 : z' (0 + (i - 1) / 2) 0 = hp l' ((i - 1) / 2) := (congrArg (z' · 0) (Nat.zero_add _)).trans (hz ((i - 1) / 2) (by omega))
    rw [e, Int.toNat_natCast, Int.toNat_natCast]
    refine ⟨⟨by omega, by omega, by omega⟩, by omega, by decide, ⟨by omega, by omega, by omega⟩, by omega, draw_of (by kernel_rfl), by_dec (fun hlt => ?_) (fun hge => sink_end ?_)⟩
    · refine ⟨by decide, by decide, ⟨by omega, by omega, by omega⟩, by omega, ⟨by omega, by omega, by omega⟩, by omega, ⟨by omega, by omega, by omega⟩, by omega, ⟨by omega, by omega, by omega⟩, by omega, draw_of (by kernel_rfl), by decide,
        ⟨swp l' i ((i - 1) / 2), (i - 1) / 2, _, by rw [swp_length, hl], by rw [swp_length]; omega, ?_, ⟨f - 1, by omega, ?_⟩⟩, ⟨⟨rfl, rfl, trivial⟩, rfl⟩, by dsimp only; omega⟩
      · intro j hj
        rw [swp_length] at hj
        show _ = hp (swp l' i ((i - 1) / 2)) j
        rw [hp_swp _ _ _ _ hi (by omega)]
        exact sw_get j hz1 hz2 (hz j (by omega))
      · obtain ⟨f, rfl⟩ : ∃ f', f = f' + 1 := ⟨f - 1, by omega⟩
        rw [← he]; simp only [upF, Nat.add_sub_cancel]
        rw [if_pos ⟨by omega, hz1 ▸ hz2 ▸ hlt⟩]
    · rw [← he]
      cases f with
      | zero => exact hz
      | succ f => simp only [upF]; rw [if_neg (fun h => hge (by rw [hz1, hz2]; exact h.2))]; exact hz
  · rw [← he]
    cases f with
    | zero => exact hz
    | succ f => simp only [upF]; rw [if_neg (by omega)]; exact hz
structure DnG (s : UpS) where
  l : List Int
  i : Nat
  z : Nat → Nat → Int
  hl : l.length = s.l.length
  hi : i ≤ l.length
  hz : IsL z l
  he : ∃ f, l.length ≤ i + f ∧ downF f l i = downOf s.l
def annDown (s : UpS) : Ann where
  σ := DnG s
  I g := ([(0, .o (.c (.so 0 0 1 s.l.length s.c s.nn))), (3, sv (.int .i64 g.i))], [rowsI s.m s.c g.z])
  dec g := s.l.length - g.i
  pi _ _ := [0]
  nz := []
theorem down_con : (Con.mem (sinkCon (fun _ => True) downOf)).holds Tryd.prog 74 := by
  intro w0 S
  refine mem_of_run2 (Γ := []) (fun _ => noW) Tryd.func74 rfl (by kernel_rfl) tabL_ok tabL_tys (fun _ _ _ _ => .nil _ _ _) (sinkCon _ downOf) (fun s => [(74, [(0, annDown s)])]) (fun x0 h => by cases h) (fun s ρ w _ _ _ => noW_old w _) [] (firstN 1) 400 ?_
  rintro ⟨l, m, c, nn, z⟩ w ⟨⟨h1, h2, h3, h4⟩, -⟩ -
  refine ⟨rfl, ?_⟩
  dsimp only at h1 h2 h3 h4
  refine by_eq (q :=
      (∃ (s0 : Ann.σ (annDown (UpS.mk l m c nn z))), (some (SV.o (SA.c (.so 0 0 1 (List.length l) c nn))) = some (SV.o (SA.c (.so 0 0 1 (List.length l) c nn))) ∧ some (SV.o (SA.c (.v (Value.int .i64 (0 : Int))))) = some (SV.o (SA.c (.v (Value.int .i64 (↑s0.2 : Int))))) ∧ True) ∧ [SB.rows 3 [.int .i64] 1 m c z] = [SB.rows 3 [.int .i64] 1 m c s0.3]) ∧ ∀ (s : DnG (UpS.mk l m c nn z)), List.length l ≤ c ∧ bif decide (IntKind.wrap .i64 (IntKind.wrap .i64 (IntKind.wrap .i64 ((2 : Int) * (↑s.2 : Int)) + (1 : Int)) + (1 : Int)) < (↑(List.length l) : Int)) then ((0 : Int) ≤ IntKind.wrap .i64 (IntKind.wrap .i64 (IntKind.wrap .i64 ((2 : Int) * (↑s.2 : Int)) + (1 : Int)) + (1 : Int)) ∧ IntKind.wrap .i64 (IntKind.wrap .i64 (IntKind.wrap .i64 ((2 : Int) * (↑s.2 : Int)) + (1 : Int)) + (1 : Int)) < (↑(List.length l) : Int) ∧ 0 + List.length l ≤ c) ∧ 0 + Int.toNat (IntKind.wrap .i64 (IntKind.wrap .i64 (IntKind.wrap .i64 ((2 : Int) * (↑s.2 : Int)) + (1 : Int)) + (1 : Int))) < m ∧ ((0 : Int) ≤ IntKind.wrap .i64 (IntKind.wrap .i64 ((2 : Int) * (↑s.2 : Int)) + (1 : Int)) ∧ IntKind.wrap .i64 (IntKind.wrap .i64 ((2 : Int) * (↑s.2 : Int)) + (1 : Int)) < (↑(List.length l) : Int) ∧ 0 + List.length l ≤ c) ∧ 0 + Int.toNat (IntKind.wrap .i64 (IntKind.wrap .i64 ((2 : Int) * (↑s.2 : Int)) + (1 : Int))) < m ∧ drawP Tryd.f74 3 (regOps Tryd.f74 3) 1 [HX.mk 16 [] [] [] false, HX.mk 15 [] [] [] false, HX.mk 14 [0] [] [] false, HX.mk 13 [] [] [0] false, HX.mk 12 [] [] [] false, HX.mk 11 [] [] [0] false, HX.mk 10 [0] [] [] false, HX.mk 9 [] [] [0] false, HX.mk 8 [] [] [] false, HX.mk 7 [] [] [] false, HX.mk 6 [] [] [0] false, HX.mk 5 [] [] [] false, HX.mk 4 [] [] [] false, HX.mk 3 [] [] [] false, HX.mk 2 [] [] [0] false, HX.mk 1 [] [] [] false, HX.mk 0 [] [] [] false] ∧ bif decide (s.3 (0 + Int.toNat (IntKind.wrap .i64 (IntKind.wrap .i64 (IntKind.wrap .i64 ((2 : Int) * (↑s.2 : Int)) + (1 : Int)) + (1 : Int)))) 0 < s.3 (0 + Int.toNat (IntKind.wrap .i64 (IntKind.wrap .i64 ((2 : Int) * (↑s.2 : Int)) + (1 : Int)))) 0) then List.length l ≤ c ∧ bif decide (IntKind.wrap .i64 (IntKind.wrap .i64 (IntKind.wrap .i64 ((2 : Int) * (↑s.2 : Int)) + (1 : Int)) + (1 : Int)) ≥ (↑(List.length l) : Int)) then drawP Tryd.f74 5 (regOps Tryd.f74 5) 1 [HX.mk 14 [] [] [] false, HX.mk 13 [] [] [] false, HX.mk 12 [] [] [] false, HX.mk 11 [] [] [] false, HX.mk 10 [] [] [] false, HX.mk 9 [] [] [] false, HX.mk 8 [] [] [] false, HX.mk 7 [] [] [] false, HX.mk 6 [] [] [] false, HX.mk 5 [] [] [] false, HX.mk 4 [] [] [] false, HX.mk 3 [] [] [] false, HX.mk 2 [] [] [] false, HX.mk 1 [] [] [0] false, HX.mk 0 [] [] [] false] ∧ endN (sinkCon (fun (x : List Int) => True) downOf) [] (firstN 1) (UpS.mk l m c nn z) (SV.o (SA.c (.so 0 0 1 (List.length l) c nn))) [SB.rows 3 [.int .i64] 1 m c s.3] else ((0 : Int) ≤ (↑s.2 : Int) ∧ (↑s.2 : Int) < (↑(List.length l) : Int) ∧ 0 + List.length l ≤ c) ∧ 0 + Int.toNat (↑s.2 : Int) < m ∧ ((0 : Int) ≤ IntKind.wrap .i64 (IntKind.wrap .i64 (IntKind.wrap .i64 ((2 : Int) * (↑s.2 : Int)) + (1 : Int)) + (1 : Int)) ∧ IntKind.wrap .i64 (IntKind.wrap .i64 (IntKind.wrap .i64 ((2 : Int) * (↑s.2 : Int)) + (1 : Int)) + (1 : Int)) < (↑(List.length l) : Int) ∧ 0 + List.length l ≤ c) ∧ 0 + Int.toNat (IntKind.wrap .i64 (IntKind.wrap .i64 (IntKind.wrap .i64 ((2 : Int) * (↑s.2 : Int)) + (1 : Int)) + (1 : Int))) < m ∧ drawP Tryd.f74 5 (regOps Tryd.f74 5) 1 [HX.mk 14 [] [] [] false, HX.mk 13 [] [] [] false, HX.mk 12 [0] [] [] false, HX.mk 11 [] [] [0] false, HX.mk 10 [] [] [] false, HX.mk 9 [] [] [0] false, HX.mk 8 [0] [] [] false, HX.mk 7 [] [] [0] false, HX.mk 6 [] [] [] false, HX.mk 5 [] [] [0] false, HX.mk 4 [] [] [] false, HX.mk 3 [] [] [] false, HX.mk 2 [] [] [] false, HX.mk 1 [] [] [0] false, HX.mk 0 [] [] [] false] ∧ bif decide (s.3 (0 + Int.toNat (↑s.2 : Int)) 0 ≤ s.3 (0 + Int.toNat (IntKind.wrap .i64 (IntKind.wrap .i64 (IntKind.wrap .i64 ((2 : Int) * (↑s.2 : Int)) + (1 : Int)) + (1 : Int)))) 0) then endN (sinkCon (fun (x : List Int) => True) downOf) [] (firstN 1) (UpS.mk l m c nn z) (SV.o (SA.c (.so 0 0 1 (List.length l) c nn))) [SB.rows 3 [.int .i64] 1 m c s.3] else ((0 : Int) ≤ IntKind.wrap .i64 (IntKind.wrap .i64 (IntKind.wrap .i64 ((2 : Int) * (↑s.2 : Int)) + (1 : Int)) + (1 : Int)) ∧ IntKind.wrap .i64 (IntKind.wrap .i64 (IntKind.wrap .i64 ((2 : Int) * (↑s.2 : Int)) + (1 : Int)) + (1 : Int)) < (↑(List.length l) : Int) ∧ 0 + List.length l ≤ c) ∧ 0 + Int.toNat (IntKind.wrap .i64 (IntKind.wrap .i64 (IntKind.wrap .i64 ((2 : Int) * (↑s.2 : Int)) + (1 : Int)) + (1 : Int))) < m ∧ ((0 : Int) ≤ (↑s.2 : Int) ∧ (↑s.2 : Int) < (↑(List.length l) : Int) ∧ 0 + List.length l ≤ c) ∧ 0 + Int.toNat (↑s.2 : Int) < m ∧ ((0 : Int) ≤ (↑s.2 : Int) ∧ (↑s.2 : Int) < (↑(List.length l) : Int) ∧ 0 + List.length l ≤ c) ∧ 0 + Int.toNat (↑s.2 : Int) < m ∧ ((0 : Int) ≤ IntKind.wrap .i64 (IntKind.wrap .i64 (IntKind.wrap .i64 ((2 : Int) * (↑s.2 : Int)) + (1 : Int)) + (1 : Int)) ∧ IntKind.wrap .i64 (IntKind.wrap .i64 (IntKind.wrap .i64 ((2 : Int) * (↑s.2 : Int)) + (1 : Int)) + (1 : Int)) < (↑(List.length l) : Int) ∧ 0 + List.length l ≤ c) ∧ 0 + Int.toNat (IntKind.wrap .i64 (IntKind.wrap .i64 (IntKind.wrap .i64 ((2 : Int) * (↑s.2 : Int)) + (1 : Int)) + (1 : Int))) < m ∧ drawP Tryd.f74 7 (regOps Tryd.f74 7) 1 [HX.mk 15 [] [0] [] false, HX.mk 14 [] [] [0] false, HX.mk 13 [] [0] [] false, HX.mk 12 [] [] [0] false, HX.mk 11 [0] [] [] false, HX.mk 10 [] [] [0] false, HX.mk 9 [] [] [] false, HX.mk 8 [] [] [0] false, HX.mk 7 [0] [] [] false, HX.mk 6 [] [] [0] false, HX.mk 5 [] [] [] false, HX.mk 4 [] [] [0] false, HX.mk 3 [] [] [] false, HX.mk 2 [] [] [0] false, HX.mk 1 [] [] [] false, HX.mk 0 [] [] [0] false] ∧ ∃ (s' : DnG (UpS.mk l m c nn z)), ((some (SV.o (SA.c (.so 0 0 1 (List.length l) c nn))) = some (SV.o (SA.c (.so 0 0 1 (List.length l) c nn))) ∧ some (SV.o (SA.c (SC.v (Value.int .i64 (IntKind.wrap .i64 (IntKind.wrap .i64 (IntKind.wrap .i64 ((2 : Int) * (↑s.2 : Int)) + (1 : Int)) + (1 : Int))))))) = some (SV.o (SA.c (.v (Value.int .i64 (↑s'.2 : Int))))) ∧ True) ∧ [SB.rows 3 [.int .i64] 1 m c fun (i j : Nat) => bif match Nat.beq i (0 + Int.toNat (IntKind.wrap .i64 (IntKind.wrap .i64 (IntKind.wrap .i64 ((2 : Int) * (↑s.2 : Int)) + (1 : Int)) + (1 : Int)))) with | false => false | true => Nat.ble j 0 then match List.get?Internal [s.3 (0 + Int.toNat (↑s.2 : Int)) 0] j with | some x => x | none => (0 : Int) else bif match Nat.beq i (0 + Int.toNat (↑s.2 : Int)) with | false => false | true => Nat.ble j 0 then match List.get?Internal [s.3 (0 + Int.toNat (IntKind.wrap .i64 (IntKind.wrap .i64 (IntKind.wrap .i64 ((2 : Int) * (↑s.2 : Int)) + (1 : Int)) + (1 : Int)))) 0] j with | some x => x | none => (0 : Int) else s.3 i j] = [SB.rows 3 [.int .i64] 1 m c s'.3]) ∧ List.length l - s'.2 < List.length l - s.2 else List.length l ≤ c ∧ bif decide (IntKind.wrap .i64 (IntKind.wrap .i64 ((2 : Int) * (↑s.2 : Int)) + (1 : Int)) ≥ (↑(List.length l) : Int)) then drawP Tryd.f74 5 (regOps Tryd.f74 5) 1 [HX.mk 14 [] [] [] false, HX.mk 13 [] [] [] false, HX.mk 12 [] [] [] false, HX.mk 11 [] [] [] false, HX.mk 10 [] [] [] false, HX.mk 9 [] [] [] false, HX.mk 8 [] [] [] false, HX.mk 7 [] [] [] false, HX.mk 6 [] [] [] false, HX.mk 5 [] [] [] false, HX.mk 4 [] [] [] false, HX.mk 3 [] [] [] false, HX.mk 2 [] [] [] false, HX.mk 1 [] [] [0] false, HX.mk 0 [] [] [] false] ∧ endN (sinkCon (fun (x : List Int) => True) downOf) [] (firstN 1) (UpS.mk l m c nn z) (SV.o (SA.c (.so 0 0 1 (List.length l) c nn))) [SB.rows 3 [.int .i64] 1 m c s.3] else ((0 : Int) ≤ (↑s.2 : Int) ∧ (↑s.2 : Int) < (↑(List.length l) : Int) ∧ 0 + List.length l ≤ c) ∧ 0 + Int.toNat (↑s.2 : Int) < m ∧ ((0 : Int) ≤ IntKind.wrap .i64 (IntKind.wrap .i64 ((2 : Int) * (↑s.2 : Int)) + (1 : Int)) ∧ IntKind.wrap .i64 (IntKind.wrap .i64 ((2 : Int) * (↑s.2 : Int)) + (1 : Int)) < (↑(List.length l) : Int) ∧ 0 + List.length l ≤ c) ∧ 0 + Int.toNat (IntKind.wrap .i64 (IntKind.wrap .i64 ((2 : Int) * (↑s.2 : Int)) + (1 : Int))) < m ∧ drawP Tryd.f74 5 (regOps Tryd.f74 5) 1 [HX.mk 14 [] [] [] false, HX.mk 13 [] [] [] false, HX.mk 12 [0] [] [] false, HX.mk 11 [] [] [0] false, HX.mk 10 [] [] [] false, HX.mk 9 [] [] [0] false, HX.mk 8 [0] [] [] false, HX.mk 7 [] [] [0] false, HX.mk 6 [] [] [] false, HX.mk 5 [] [] [0] false, HX.mk 4 [] [] [] false, HX.mk 3 [] [] [] false, HX.mk 2 [] [] [] false, HX.mk 1 [] [] [0] false, HX.mk 0 [] [] [] false] ∧ bif decide (s.3 (0 + Int.toNat (↑s.2 : Int)) 0 ≤ s.3 (0 + Int.toNat (IntKind.wrap .i64 (IntKind.wrap .i64 ((2 : Int) * (↑s.2 : Int)) + (1 : Int)))) 0) then endN (sinkCon (fun (x : List Int) => True) downOf) [] (firstN 1) (UpS.mk l m c nn z) (SV.o (SA.c (.so 0 0 1 (List.length l) c nn))) [SB.rows 3 [.int .i64] 1 m c s.3] else ((0 : Int) ≤ IntKind.wrap .i64 (IntKind.wrap .i64 ((2 : Int) * (↑s.2 : Int)) + (1 : Int)) ∧ IntKind.wrap .i64 (IntKind.wrap .i64 ((2 : Int) * (↑s.2 : Int)) + (1 : Int)) < (↑(List.length l) : Int) ∧ 0 + List.length l ≤ c) ∧ 0 + Int.toNat (IntKind.wrap .i64 (IntKind.wrap .i64 ((2 : Int) * (↑s.2 : Int)) + (1 : Int))) < m ∧ ((0 : Int) ≤ (↑s.2 : Int) ∧ (↑s.2 : Int) < (↑(List.length l) : Int) ∧ 0 + List.length l ≤ c) ∧ 0 + Int.toNat (↑s.2 : Int) < m ∧ ((0 : Int) ≤ (↑s.2 : Int) ∧ (↑s.2 : Int) < (↑(List.length l) : Int) ∧ 0 + List.length l ≤ c) ∧ 0 + Int.toNat (↑s.2 : Int) < m ∧ ((0 : Int) ≤ IntKind.wrap .i64 (IntKind.wrap .i64 ((2 : Int) * (↑s.2 : Int)) + (1 : Int)) ∧ IntKind.wrap .i64 (IntKind.wrap .i64 ((2 : Int) * (↑s.2 : Int)) + (1 : Int)) < (↑(List.length l) : Int) ∧ 0 + List.length l ≤ c) ∧ 0 + Int.toNat (IntKind.wrap .i64 (IntKind.wrap .i64 ((2 : Int) * (↑s.2 : Int)) + (1 : Int))) < m ∧ drawP Tryd.f74 7 (regOps Tryd.f74 7) 1 [HX.mk 15 [] [0] [] false, HX.mk 14 [] [] [0] false, HX.mk 13 [] [0] [] false, HX.mk 12 [] [] [0] false, HX.mk 11 [0] [] [] false, HX.mk 10 [] [] [0] false, HX.mk 9 [] [] [] false, HX.mk 8 [] [] [0] false, HX.mk 7 [0] [] [] false, HX.mk 6 [] [] [0] false, HX.mk 5 [] [] [] false, HX.mk 4 [] [] [0] false, HX.mk 3 [] [] [] false, HX.mk 2 [] [] [0] false, HX.mk 1 [] [] [] false, HX.mk 0 [] [] [0] false] ∧ ∃ (s' : DnG (UpS.mk l m c nn z)), ((some (SV.o (SA.c (.so 0 0 1 (List.length l) c nn))) = some (SV.o (SA.c (.so 0 0 1 (List.length l) c nn))) ∧ some (SV.o (SA.c (SC.v (Value.int .i64 (IntKind.wrap .i64 (IntKind.wrap .i64 ((2 : Int) * (↑s.2 : Int)) + (1 : Int))))))) = some (SV.o (SA.c (.v (Value.int .i64 (↑s'.2 : Int))))) ∧ True) ∧ [SB.rows 3 [.int .i64] 1 m c fun (i j : Nat) => bif match Nat.beq i (0 + Int.toNat (IntKind.wrap .i64 (IntKind.wrap .i64 ((2 : Int) * (↑s.2 : Int)) + (1 : Int)))) with | false => false | true => Nat.ble j 0 then match List.get?Internal [s.3 (0 + Int.toNat (↑s.2 : Int)) 0] j with | some x => x | none => (0 : Int) else bif match Nat.beq i (0 + Int.toNat (↑s.2 : Int)) with | false => false | true => Nat.ble j 0 then match List.get?Internal [s.3 (0 + Int.toNat (IntKind.wrap .i64 (IntKind.wrap .i64 ((2 : Int) * (↑s.2 : Int)) + (1 : Int)))) 0] j with | some x => x | none => (0 : Int) else s.3 i j] = [SB.rows 3 [.int .i64] 1 m c s'.3]) ∧ List.length l - s'.2 < List.length l - s.2 else drawP Tryd.f74 3 (regOps Tryd.f74 3) 1 [HX.mk 16 [] [] [] false, HX.mk 15 [] [] [] false, HX.mk 14 [] [] [] false, HX.mk 13 [] [] [] false, HX.mk 12 [] [] [] false, HX.mk 11 [] [] [] false, HX.mk 10 [] [] [] false, HX.mk 9 [] [] [] false, HX.mk 8 [] [] [] false, HX.mk 7 [] [] [] false, HX.mk 6 [] [] [] false, HX.mk 5 [] [] [] false, HX.mk 4 [] [] [] false, HX.mk 3 [] [] [] false, HX.mk 2 [] [] [0] false, HX.mk 1 [] [] [] false, HX.mk 0 [] [] [] false] ∧ List.length l ≤ c ∧ bif decide (IntKind.wrap .i64 (IntKind.wrap .i64 ((2 : Int) * (↑s.2 : Int)) + (1 : Int)) ≥ (↑(List.length l) : Int)) then drawP Tryd.f74 5 (regOps Tryd.f74 5) 1 [HX.mk 14 [] [] [] false, HX.mk 13 [] [] [] false, HX.mk 12 [] [] [] false, HX.mk 11 [] [] [] false, HX.mk 10 [] [] [] false, HX.mk 9 [] [] [] false, HX.mk 8 [] [] [] false, HX.mk 7 [] [] [] false, HX.mk 6 [] [] [] false, HX.mk 5 [] [] [] false, HX.mk 4 [] [] [] false, HX.mk 3 [] [] [] false, HX.mk 2 [] [] [] false, HX.mk 1 [] [] [0] false, HX.mk 0 [] [] [] false] ∧ endN (sinkCon (fun (x : List Int) => True) downOf) [] (firstN 1) (UpS.mk l m c nn z) (SV.o (SA.c (.so 0 0 1 (List.length l) c nn))) [SB.rows 3 [.int .i64] 1 m c s.3] else ((0 : Int) ≤ (↑s.2 : Int) ∧ (↑s.2 : Int) < (↑(List.length l) : Int) ∧ 0 + List.length l ≤ c) ∧ 0 + Int.toNat (↑s.2 : Int) < m ∧ ((0 : Int) ≤ IntKind.wrap .i64 (IntKind.wrap .i64 ((2 : Int) * (↑s.2 : Int)) + (1 : Int)) ∧ IntKind.wrap .i64 (IntKind.wrap .i64 ((2 : Int) * (↑s.2 : Int)) + (1 : Int)) < (↑(List.length l) : Int) ∧ 0 + List.length l ≤ c) ∧ 0 + Int.toNat (IntKind.wrap .i64 (IntKind.wrap .i64 ((2 : Int) * (↑s.2 : Int)) + (1 : Int))) < m ∧ drawP Tryd.f74 5 (regOps Tryd.f74 5) 1 [HX.mk 14 [] [] [] false, HX.mk 13 [] [] [] false, HX.mk 12 [0] [] [] false, HX.mk 11 [] [] [0] false, HX.mk 10 [] [] [] false, HX.mk 9 [] [] [0] false, HX.mk 8 [0] [] [] false, HX.mk 7 [] [] [0] false, HX.mk 6 [] [] [] false, HX.mk 5 [] [] [0] false, HX.mk 4 [] [] [] false, HX.mk 3 [] [] [] false, HX.mk 2 [] [] [] false, HX.mk 1 [] [] [0] false, HX.mk 0 [] [] [] false] ∧ bif decide (s.3 (0 + Int.toNat (↑s.2 : Int)) 0 ≤ s.3 (0 + Int.toNat (IntKind.wrap .i64 (IntKind.wrap .i64 ((2 : Int) * (↑s.2 : Int)) + (1 : Int)))) 0) then endN (sinkCon (fun (x : List Int) => True) downOf) [] (firstN 1) (UpS.mk l m c nn z) (SV.o (SA.c (.so 0 0 1 (List.length l) c nn))) [SB.rows 3 [.int .i64] 1 m c s.3] else ((0 : Int) ≤ IntKind.wrap .i64 (IntKind.wrap .i64 ((2 : Int) * (↑s.2 : Int)) + (1 : Int)) ∧ IntKind.wrap .i64 (IntKind.wrap .i64 ((2 : Int) * (↑s.2 : Int)) + (1 : Int)) < (↑(List.length l) : Int) ∧ 0 + List.length l ≤ c) ∧ 0 + Int.toNat (IntKind.wrap .i64 (IntKind.wrap .i64 ((2 : Int) * (↑s.2 : Int)) + (1 : Int))) < m ∧ ((0 : Int) ≤ (↑s.2 : Int) ∧ (↑s.2 : Int) < (↑(List.length l) : Int) ∧ 0 + List.length l ≤ c) ∧ 0 + Int.toNat (↑s.2 : Int) < m ∧ ((0 : Int) ≤ (↑s.2 : Int) ∧ (↑s.2 : Int) < (↑(List.length l) : Int) ∧ 0 + List.length l ≤ c) ∧ 0 + Int.toNat (↑s.2 : Int) < m ∧ ((0 : Int) ≤ IntKind.wrap .i64 (IntKind.wrap .i64 ((2 : Int) * (↑s.2 : Int)) + (1 : Int)) ∧ IntKind.wrap .i64 (IntKind.wrap .i64 ((2 : Int) * (↑s.2 : Int)) + (1 : Int)) < (↑(List.length l) : Int) ∧ 0 + List.length l ≤ c) ∧ 0 + Int.toNat (IntKind.wrap .i64 (IntKind.wrap .i64 ((2 : Int) * (↑s.2 : Int)) + (1 : Int))) < m ∧ drawP Tryd.f74 7 (regOps Tryd.f74 7) 1 [HX.mk 15 [] [0] [] false, HX.mk 14 [] [] [0] false, HX.mk 13 [] [0] [] false, HX.mk 12 [] [] [0] false, HX.mk 11 [0] [] [] false, HX.mk 10 [] [] [0] false, HX.mk 9 [] [] [] false, HX.mk 8 [] [] [0] false, HX.mk 7 [0] [] [] false, HX.mk 6 [] [] [0] false, HX.mk 5 [] [] [] false, HX.mk 4 [] [] [0] false, HX.mk 3 [] [] [] false, HX.mk 2 [] [] [0] false, HX.mk 1 [] [] [] false, HX.mk 0 [] [] [0] false] ∧ ∃ (s' : DnG (UpS.mk l m c nn z)), ((some (SV.o (SA.c (.so 0 0 1 (List.length l) c nn))) = some (SV.o (SA.c (.so 0 0 1 (List.length l) c nn))) ∧ some (SV.o (SA.c (SC.v (Value.int .i64 (IntKind.wrap .i64 (IntKind.wrap .i64 ((2 : Int) * (↑s.2 : Int)) + (1 : Int))))))) = some (SV.o (SA.c (.v (Value.int .i64 (↑s'.2 : Int))))) ∧ True) ∧ [SB.rows 3 [.int .i64] 1 m c fun (i j : Nat) => bif match Nat.beq i (0 + Int.toNat (IntKind.wrap .i64 (IntKind.wrap .i64 ((2 : Int) * (↑s.2 : Int)) + (1 : Int)))) with | false => false | true => Nat.ble j 0 then match List.get?Internal [s.3 (0 + Int.toNat (↑s.2 : Int)) 0] j with | some x => x | none => (0 : Int) else bif match Nat.beq i (0 + Int.toNat (↑s.2 : Int)) with | false => false | true => Nat.ble j 0 then match List.get?Internal [s.3 (0 + Int.toNat (IntKind.wrap .i64 (IntKind.wrap .i64 ((2 : Int) * (↑s.2 : Int)) + (1 : Int)))) 0] j with | some x => x | none => (0 : Int) else s.3 i j] = [SB.rows 3 [.int .i64] 1 m c s'.3]) ∧ List.length l - s'.2 < List.length l - s.2) (by kernel_rfl) ?_
  refine ⟨⟨⟨l, 0, z, rfl, Nat.zero_le _, h4, ⟨l.length, by omega, rfl⟩⟩, ⟨rfl, rfl, trivial⟩, rfl⟩, ?_⟩
  rintro ⟨l', i, z', hl, hi, hz, f, hf, he⟩
  dsimp only at hl hi hz hf he ⊢
  have e1 : IntKind.wrap .i64 ((2 : Int) * (i : Int)) = ((2 * i : Nat) : Int) := by rw [wrapI (by omega) (by omega)]; omega
  have e2 : IntKind.wrap .i64 (((2 * i : Nat) : Int) + 1) = ((2 * i + 1 : Nat) : Int) := by rw [wrapI (by omega) (by omega)]; omega
  have e3 : IntKind.wrap .i64 (((2 * i + 1 : Nat) : Int) + 1) = ((2 * i + 2 : Nat) : Int) := by rw [wrapI (by omega) (by omega)]; omega
  rw [e1, e2, e3, Int.toNat_natCast, Int.toNat_natCast, Int.toNat_natCast]
  have zh (j : Nat) (hj : j < l'.length) : z' (0 + j) 0 = hp l' j := (congrArg (z' · 0) (Nat.zero_add j)).trans (hz j hj)
  have kidA (ha : 2 * i + 2 < l'.length) (hb : z' (0 + (2 * i + 2)) 0 < z' (0 + (2 * i + 1)) 0) : kid l' i = 2 * i + 2 := by
    rw [zh _ ha, zh _ (by omega)] at hb; exact if_pos ⟨ha, hb⟩
  have kidB (hb : l'.length ≤ 2 * i + 2 ∨ ¬ z' (0 + (2 * i + 2)) 0 < z' (0 + (2 * i + 1)) 0) : kid l' i = 2 * i + 1 := by
    refine if_neg (fun h => ?_)
    rcases hb with hb | hb
    · omega
    · rw [zh _ h.1, zh _ (by omega)] at hb; exact hb h.2
  have stop1 (k : Nat) (hk : kid l' i = k) (h : l'.length ≤ k) : IsL z' (downOf l) := by
    rw [← he]
    cases f with
    | zero => exact hz
    | succ f => simp only [downF]; rw [if_pos (.inl (by omega))]; exact hz
  have stop2 (k : Nat) (hk : kid l' i = k) (h0 : i < l'.length) (h1 : k < l'.length) (h : z' (0 + i) 0 ≤ z' (0 + k) 0) : IsL z' (downOf l) := by
    rw [zh _ h0, zh _ h1, ← hk] at h
    rw [← he]
    cases f with
    | zero => exact hz
    | succ f => simp only [downF]; rw [if_pos (.inr h)]; exact hz
  have go (k : Nat) (hk : kid l' i = k) (h0 : i < l'.length) (h1 : k < l'.length) (h : ¬ z' (0 + i) 0 ≤ z' (0 + k) 0) : ∃ f', (swp l' i k).length ≤ k + f' ∧ downF f' (swp l' i k) k = downOf l := by
    rw [zh _ h0, zh _ h1, ← hk] at h
    obtain ⟨f, rfl⟩ : ∃ f', f = f' + 1 := ⟨f - 1, by omega⟩
    refine ⟨f, by rw [swp_length]; omega, ?_⟩
    rw [← he]; simp only [downF]; rw [if_neg (fun hh => hh.elim (by omega) h), hk]
  repeat' (first | exact draw_of (by kernel_rfl) | refine And.intro ?_ ?_ | refine by_dec (fun _ => ?_) (fun _ => ?_))
  all_goals (try omega)
  · rename_i a b c d
    exact sink_end (stop2 _ (kidA (by omega) b) (by omega) (by omega) d)
  · rename_i a b c d
    refine ⟨⟨swp l' i (2 * i + 2), 2 * i + 2, _, by rw [swp_length, hl], by rw [swp_length]; omega, ?_, go _ (kidA (by omega) b) (by omega) (by omega) d⟩, ⟨⟨rfl, rfl, trivial⟩, rfl⟩, by dsimp only; omega⟩
    intro j hj
    rw [swp_length] at hj
    show _ = hp (swp l' i (2 * i + 2)) j
    rw [hp_swp _ _ _ _ (by omega) (by omega)]
    exact sw_get j (zh _ (by omega)) (zh _ (by omega)) (hz j hj)
  · rename_i a b c d
    exact sink_end (stop2 _ (kidB (.inr b)) (by omega) (by omega) d)
  · rename_i a b c d
    refine ⟨⟨swp l' i (2 * i + 1), 2 * i + 1, _, by rw [swp_length, hl], by rw [swp_length]; omega, ?_, go _ (kidB (.inr b)) (by omega) (by omega) d⟩, ⟨⟨rfl, rfl, trivial⟩, rfl⟩, by dsimp only; omega⟩
    intro j hj
    rw [swp_length] at hj
    show _ = hp (swp l' i (2 * i + 1)) j
    rw [hp_swp _ _ _ _ (by omega) (by omega)]
    exact sw_get j (zh _ (by omega)) (zh _ (by omega)) (hz j hj)
  · exact sink_end (stop1 _ (kidB (.inl (by omega))) (by omega))
  · rename_i a c d
    exact sink_end (stop2 _ (kidB (.inl (by omega))) (by omega) (by omega) d)
  · rename_i a c d
    refine ⟨⟨swp l' i (2 * i + 1), 2 * i + 1, _, by rw [swp_length, hl], by rw [swp_length]; omega, ?_, go _ (kidB (.inl (by omega))) (by omega) (by omega) d⟩, ⟨⟨rfl, rfl, trivial⟩, rfl⟩, by dsimp only; omega⟩
    intro j hj
    rw [swp_length] at hj
    show _ = hp (swp l' i (2 * i + 1)) j
    rw [hp_swp _ _ _ _ (by omega) (by omega)]
    exact sw_get j (zh _ (by omega)) (zh _ (by omega)) (hz j hj)
theorem heap_con : (Con.mem (lstCon heapR)).holds Tryd.prog 48 := by
  intro w0 S
  refine mem_of_run (AG := []) (Γ := [(70, .rd conClone), (73, .mem (sinkCon (fun l => 0 < l.length) upOf)), (74, .mem (sinkCon (fun _ => True) downOf))]) (fun _ => noW) Tryd.func48 rfl (by kernel_rfl) tabL_ok tabL_tys (fun w S' _ _ => .cons (clone_con w S') (.cons (up_con w S') (.cons (down_con w S') (.nil _ _ _)))) (lstCon heapR) (fun x0 h => by cases h) (fun s ρ w _ _ _ => noW_old w _)
    nzL rpL 400 ?_
  rintro ⟨l, m, c, nn, z, k, key, x⟩ w ⟨h1, ⟨h2m, h2c⟩, h4, h5, h6⟩ -
  refine ⟨rfl, ?_⟩
  dsimp only at h1 h2m h2c h4 h5 h6
  have h2 := Nat.le_trans h2m h2c
  have hs : 0 + l.length ≤ m ∧ l.length ≤ 1000 := ⟨by omega, by omega⟩
  have hk : k = 1 ∨ k = 2 ∨ k = 3 ∨ k = 4 ∨ k = 5 ∨ k = 6 := by omega
  rcases hk with rfl | rfl | rfl | rfl | rfl | rfl
  ·
    refine by_eq (q :=
        ∃ (s : CloS), [SA.c (.so 0 0 1 (List.length l) c nn)] = [SA.c (.so 0 s.1 1 s.2 s.4 s.5)] ∧ [SB.rows 3 [.int .i64] 1 m c z] = [SB.rows 3 [.int .i64] 1 s.3 s.4 s.6] ∧ (s.1 + s.2 ≤ s.3 ∧ s.2 ≤ 1000) ∧ ∀ (x_1 : CloR), (s.2 ≤ x_1.1 ∧ ((match Nat.beq s.4 0 with | false => false | true => bif s.5 then false else true) = true → x_1.2 = false ∧ x_1.1 = 0) ∧ ∀ (i : Nat), i < s.2 → x_1.3 i 0 = s.6 (s.1 + i) 0) → s.2 ≤ x_1.1 ∧ bif decide ((↑s.2 : Int) ≥ (6 : Int)) then endN (lstCon heapR) nzL rpL (LstS.mk l m c nn z (1 : Int) key x) (SV.t [SA.c (.so 3 0 1 s.2 x_1.1 x_1.2), SA.a [Seg.one (.v (.int .i64 (3 : Int))), Seg.one (.v (.int .i64 (0 : Int)))]]) [SB.rows 3 [.int .i64] 1 m c z, SB.cells [Seg.one (.v (.int .i64 (1 : Int))), Seg.one (.v (.int .i64 key)), Seg.one (.v (.int .i64 x))] 30, SB.cells [Seg.one (.v (.int .i64 (3 : Int))), Seg.one (.v (.int .i64 (0 : Int)))] 32, SB.rows 3 [.int .i64] 1 s.2 x_1.1 x_1.3] else ((s.2 ≤ s.2 ∧ x_1.1 = x_1.1) ∧ (1 ≤ 1 ∧ 1 = 1) ∧ s.2 + 1 ≤ 68719476736) ∧ ∀ (c_1 : Nat), s.2 + 1 ≤ c_1 → ∃ (s_1 : UpS), [SA.c (.so 5 0 1 (s.2 + 1) c_1 x_1.2)] = [SA.c (.so 5 0 1 (List.length s_1.1) s_1.3 s_1.4)] ∧ [SB.rows 3 [.int .i64] 1 (s.2 + 1) c_1 fun (i j : Nat) => bif Nat.ble (i + 1) s.2 then x_1.3 i j else match List.get?Internal (match List.get?Internal [[x]] (0 + (i - s.2)) with | some x => x | none => []) j with | some x => x | none => (0 : Int)] = [SB.rows 3 [.int .i64] 1 s_1.2 s_1.3 s_1.5] ∧ ((List.length s_1.1 ≤ 1000 ∧ List.length s_1.1 ≤ s_1.2 ∧ s_1.2 ≤ s_1.3 ∧ IsL s_1.5 s_1.1) ∧ 0 < List.length s_1.1) ∧ ∀ (x_2 : Nat → Nat → Int), IsL x_2 (upOf s_1.1) → endN (lstCon heapR) nzL rpL (LstS.mk l m c nn z (1 : Int) key x) (SV.t [SA.c (.so 5 0 1 (List.length s_1.1) s_1.3 s_1.4), SA.a [Seg.one (.v (.int .i64 (1 : Int))), Seg.one (.v (.int .i64 (0 : Int)))]]) [SB.rows 3 [.int .i64] 1 m c z, SB.cells [Seg.one (.v (.int .i64 (1 : Int))), Seg.one (.v (.int .i64 key)), Seg.one (.v (.int .i64 x))] 30, SB.cells [Seg.one (.v (.int .i64 (1 : Int))), Seg.one (.v (.int .i64 (0 : Int)))] 32, SB.gone, SB.rows 3 [.int .i64] 1 1 1 fun (i j : Nat) => match List.get?Internal (match List.get?Internal [[x]] i with | some x => x | none => []) j with | some x => x | none => (0 : Int), SB.rows 3 [.int .i64] 1 s_1.2 s_1.3 x_2]) (by kernel_rfl) ?_
    refine ⟨⟨0, l.length, m, c, nn, z⟩, rfl, rfl, hs, fun y hy => ⟨hy.1, by_dec (fun h => ?_) (fun h => ?_)⟩⟩
    · have e : heapR l 1 x = (l, 3, 0) := by unfold heapR; rw [if_pos rfl, if_pos (by dsimp only at h; omega)]
      exact lst_end _ _ _ _ _ _ _ _ _ _ _ rfl rfl rfl _ e rfl (Nat.le_refl _) hy.1 (h4.sub fun i hi => (hy.2.2 i hi).trans (by rw [Nat.zero_add])) rfl rfl
    · dsimp only at h hy ⊢
      have e : heapR l 1 x = (upOf (l ++ [x]), 1, 0) := by unfold heapR upOf; rw [if_pos rfl, if_neg (by omega), List.length_append]; rfl
      have hl : (l ++ [x]).length = l.length + 1 := by simp
      refine ⟨⟨⟨Nat.le_refl _, rfl⟩, ⟨Nat.le_refl _, rfl⟩, by omega⟩, fun c' hc' => ⟨⟨l ++ [x], l.length + 1, c', y.2, _⟩, by rw [hl], rfl, ⟨⟨by rw [hl]; omega, by rw [hl]; exact Nat.le_refl _, hc', ?_⟩, by rw [hl]; omega⟩, fun z' hz' => ?_⟩⟩
      · exact h4.snoc (x := x) (fun i hi => (catT hi).trans ((hy.2.2 i hi).trans (by rw [Nat.zero_add]))) (catF.trans (by rw [Nat.sub_self]; rfl))
      exact lst_end _ _ _ _ _ _ _ _ _ _ _ rfl rfl rfl _ e (upF_length _ _ _).symm (by rw [hl]; exact Nat.le_refl _) hc' hz' rfl rfl
  ·
    refine by_eq (q :=
        ∃ (s : CloS), [SA.c (.so 0 0 1 (List.length l) c nn)] = [SA.c (.so 0 s.1 1 s.2 s.4 s.5)] ∧ [SB.rows 3 [.int .i64] 1 m c z] = [SB.rows 3 [.int .i64] 1 s.3 s.4 s.6] ∧ (s.1 + s.2 ≤ s.3 ∧ s.2 ≤ 1000) ∧ ∀ (x_1 : CloR), (s.2 ≤ x_1.1 ∧ ((match Nat.beq s.4 0 with | false => false | true => bif s.5 then false else true) = true → x_1.2 = false ∧ x_1.1 = 0) ∧ ∀ (i : Nat), i < s.2 → x_1.3 i 0 = s.6 (s.1 + i) 0) → s.2 ≤ x_1.1 ∧ bif (↑s.2 : Int) == (0 : Int) then endN (lstCon heapR) nzL rpL (LstS.mk l m c nn z (2 : Int) key x) (SV.t [SA.c (.so 3 0 1 s.2 x_1.1 x_1.2), SA.a [Seg.one (.v (.int .i64 (2 : Int))), Seg.one (.v (.int .i64 (0 : Int)))]]) [SB.rows 3 [.int .i64] 1 m c z, SB.cells [Seg.one (.v (.int .i64 (2 : Int))), Seg.one (.v (.int .i64 key)), Seg.one (.v (.int .i64 x))] 30, SB.cells [Seg.one (.v (.int .i64 (2 : Int))), Seg.one (.v (.int .i64 (0 : Int)))] 32, SB.rows 3 [.int .i64] 1 s.2 x_1.1 x_1.3] else ((0 : Int) ≤ (0 : Int) ∧ (0 : Int) < (↑s.2 : Int) ∧ 0 + s.2 ≤ x_1.1) ∧ 0 < s.2 ∧ s.2 ≤ x_1.1 ∧ ((0 : Int) ≤ IntKind.wrap .i64 ((↑s.2 : Int) - (1 : Int)) ∧ IntKind.wrap .i64 ((↑s.2 : Int) - (1 : Int)) < (↑s.2 : Int) ∧ 0 + s.2 ≤ x_1.1) ∧ 0 + Int.toNat (IntKind.wrap .i64 ((↑s.2 : Int) - (1 : Int))) < s.2 ∧ ((0 : Int) ≤ (0 : Int) ∧ (0 : Int) < (↑s.2 : Int) ∧ 0 + s.2 ≤ x_1.1) ∧ 0 < s.2 ∧ ((0 : Int) ≤ IntKind.wrap .i64 ((↑s.2 : Int) - (1 : Int)) ∧ IntKind.wrap .i64 ((↑s.2 : Int) - (1 : Int)) ≤ (↑x_1.1 : Int)) ∧ ∃ (s_1 : UpS), [SA.c (.so 3 0 1 (Int.toNat (IntKind.wrap .i64 ((↑s.2 : Int) - (1 : Int)))) x_1.1 x_1.2)] = [SA.c (.so 3 0 1 (List.length s_1.1) s_1.3 s_1.4)] ∧ [SB.rows 3 [.int .i64] 1 s.2 x_1.1 fun (i j : Nat) => bif match Nat.beq i 0 with | false => false | true => Nat.ble j 0 then match List.get?Internal [x_1.3 (0 + Int.toNat (IntKind.wrap .i64 ((↑s.2 : Int) - (1 : Int)))) 0] j with | some x => x | none => (0 : Int) else x_1.3 i j] = [SB.rows 3 [.int .i64] 1 s_1.2 s_1.3 s_1.5] ∧ ((List.length s_1.1 ≤ 1000 ∧ List.length s_1.1 ≤ s_1.2 ∧ s_1.2 ≤ s_1.3 ∧ IsL s_1.5 s_1.1) ∧ True) ∧ ∀ (x_2 : Nat → Nat → Int), IsL x_2 (downOf s_1.1) → endN (lstCon heapR) nzL rpL (LstS.mk l m c nn z (2 : Int) key x) (SV.t [SA.c (.so 3 0 1 (List.length s_1.1) s_1.3 s_1.4), SA.a [Seg.one (.v (.int .i64 (1 : Int))), Seg.one (.v (.int .i64 (x_1.3 0 0)))]]) [SB.rows 3 [.int .i64] 1 m c z, SB.cells [Seg.one (.v (.int .i64 (2 : Int))), Seg.one (.v (.int .i64 key)), Seg.one (.v (.int .i64 x))] 30, SB.cells [Seg.one (.v (.int .i64 (1 : Int))), Seg.one (.v (.int .i64 (x_1.3 0 0)))] 32, SB.rows 3 [.int .i64] 1 s_1.2 s_1.3 x_2]) (by kernel_rfl) ?_
    refine ⟨⟨0, l.length, m, c, nn, z⟩, rfl, rfl, hs, fun y hy => ⟨hy.1, by_beq (fun h => ?_) (fun h => ?_)⟩⟩
    · have e : heapR l 2 x = (l, 2, 0) := by unfold heapR; rw [if_neg (by decide), if_pos (.inl rfl), if_pos (by dsimp only at h; omega)]
      exact lst_end _ _ _ _ _ _ _ _ _ _ _ rfl rfl rfl _ e rfl (Nat.le_refl _) hy.1 (h4.sub fun i hi => (hy.2.2 i hi).trans (by rw [Nat.zero_add])) rfl rfl
    · dsimp only at h hy ⊢
      have hn : 0 < l.length := by omega
      have e : heapR l 2 x = (downOf ((l.set 0 (hp l (l.length - 1))).take (l.length - 1)), 1, hp l 0) := by
        unfold heapR downOf; rw [if_neg (by decide), if_pos (.inl rfl), if_neg (by omega), if_neg (by decide)]; congr 2; simp
      have ew : IntKind.wrap .i64 ((l.length : Int) - 1) = ((l.length - 1 : Nat) : Int) := by rw [wrapI (by omega) (by omega)]; omega
      have ht : ((l.set 0 (hp l (l.length - 1))).take (l.length - 1)).length = l.length - 1 := by simp
      have hy0 (i : Nat) (hi : i < l.length) : y.3 i 0 = hp l i := (hy.2.2 i hi).trans ((congrArg (z · 0) (Nat.zero_add i)).trans (h4 i hi))
      rw [ew, Int.toNat_natCast]
      refine ⟨⟨by omega, by omega, by omega⟩, by omega, by omega, ⟨by omega, by omega, by omega⟩, by omega, ⟨by omega, by omega, by omega⟩, by omega, ⟨by omega, by omega⟩,
        ⟨(l.set 0 (hp l (l.length - 1))).take (l.length - 1), l.length, y.1, y.2, _⟩, by rw [ht], rfl, ⟨⟨by rw [ht]; omega, Nat.le_trans (Nat.le_of_eq ht) (Nat.sub_le _ _), hy.1, fun i hi => ?_⟩, trivial⟩, fun z' hz' => ?_⟩
      · rw [ht] at hi
        show _ = hp _ i
        by_cases h0 : i = 0
        · subst h0
          simp only [hp, List.getD_eq_getElem?_getD, List.getElem?_take, if_pos hi, List.getElem?_set_self hn, Option.getD_some]
          exact (congrArg (y.3 · 0) (Nat.zero_add _)).trans ((hy0 _ (by omega)).trans (by simp [hp, List.getD_eq_getElem?_getD]))
        · rw [take_hp l _ _ i hi (by omega)]; dsimp only; rw [show Nat.beq i 0 = false from nbeq h0]
          exact hy0 i (by omega)
      · exact lst_end _ _ _ _ _ _ _ _ _ _ _ rfl rfl rfl _ e (downF_length _ _ _).symm (Nat.le_trans (Nat.le_of_eq ht) (Nat.sub_le _ _)) hy.1 hz' rfl (hy0 0 hn)
  ·
    refine by_eq (q :=
        ∃ (s : CloS), [SA.c (.so 0 0 1 (List.length l) c nn)] = [SA.c (.so 0 s.1 1 s.2 s.4 s.5)] ∧ [SB.rows 3 [.int .i64] 1 m c z] = [SB.rows 3 [.int .i64] 1 s.3 s.4 s.6] ∧ (s.1 + s.2 ≤ s.3 ∧ s.2 ≤ 1000) ∧ ∀ (x_1 : CloR), (s.2 ≤ x_1.1 ∧ ((match Nat.beq s.4 0 with | false => false | true => bif s.5 then false else true) = true → x_1.2 = false ∧ x_1.1 = 0) ∧ ∀ (i : Nat), i < s.2 → x_1.3 i 0 = s.6 (s.1 + i) 0) → endN (lstCon heapR) nzL rpL (LstS.mk l m c nn z (3 : Int) key x) (SV.t [SA.c (.so 3 0 1 s.2 x_1.1 x_1.2), SA.a [Seg.one (.v (.int .i64 (5 : Int))), Seg.one (.v (.int .i64 (0 : Int)))]]) [SB.rows 3 [.int .i64] 1 m c z, SB.cells [Seg.one (.v (.int .i64 (3 : Int))), Seg.one (.v (.int .i64 key)), Seg.one (.v (.int .i64 x))] 30, SB.cells [Seg.one (.v (.int .i64 (5 : Int))), Seg.one (.v (.int .i64 (0 : Int)))] 32, SB.rows 3 [.int .i64] 1 s.2 x_1.1 x_1.3]) (by kernel_rfl) ?_
    exact ⟨⟨0, l.length, m, c, nn, z⟩, rfl, rfl, hs, fun y hy => lst_end _ _ _ _ _ _ _ _ _ _ _ rfl rfl rfl (l, 5, 0) rfl rfl (Nat.le_refl _) hy.1 (h4.sub fun i hi => (hy.2.2 i hi).trans (by rw [Nat.zero_add])) rfl rfl⟩
  ·
    refine by_eq (q :=
        ∃ (s : CloS), [SA.c (.so 0 0 1 (List.length l) c nn)] = [SA.c (.so 0 s.1 1 s.2 s.4 s.5)] ∧ [SB.rows 3 [.int .i64] 1 m c z] = [SB.rows 3 [.int .i64] 1 s.3 s.4 s.6] ∧ (s.1 + s.2 ≤ s.3 ∧ s.2 ≤ 1000) ∧ ∀ (x_1 : CloR), (s.2 ≤ x_1.1 ∧ ((match Nat.beq s.4 0 with | false => false | true => bif s.5 then false else true) = true → x_1.2 = false ∧ x_1.1 = 0) ∧ ∀ (i : Nat), i < s.2 → x_1.3 i 0 = s.6 (s.1 + i) 0) → endN (lstCon heapR) nzL rpL (LstS.mk l m c nn z (4 : Int) key x) (SV.t [SA.c (.so 3 0 1 s.2 x_1.1 x_1.2), SA.a [Seg.one (.v (.int .i64 (5 : Int))), Seg.one (.v (.int .i64 (0 : Int)))]]) [SB.rows 3 [.int .i64] 1 m c z, SB.cells [Seg.one (.v (.int .i64 (4 : Int))), Seg.one (.v (.int .i64 key)), Seg.one (.v (.int .i64 x))] 30, SB.cells [Seg.one (.v (.int .i64 (5 : Int))), Seg.one (.v (.int .i64 (0 : Int)))] 32, SB.rows 3 [.int .i64] 1 s.2 x_1.1 x_1.3]) (by kernel_rfl) ?_
    exact ⟨⟨0, l.length, m, c, nn, z⟩, rfl, rfl, hs, fun y hy => lst_end _ _ _ _ _ _ _ _ _ _ _ rfl rfl rfl (l, 5, 0) rfl rfl (Nat.le_refl _) hy.1 (h4.sub fun i hi => (hy.2.2 i hi).trans (by rw [Nat.zero_add])) rfl rfl⟩
  ·
    refine by_eq (q :=
        ∃ (s : CloS), [SA.c (.so 0 0 1 (List.length l) c nn)] = [SA.c (.so 0 s.1 1 s.2 s.4 s.5)] ∧ [SB.rows 3 [.int .i64] 1 m c z] = [SB.rows 3 [.int .i64] 1 s.3 s.4 s.6] ∧ (s.1 + s.2 ≤ s.3 ∧ s.2 ≤ 1000) ∧ ∀ (x_1 : CloR), (s.2 ≤ x_1.1 ∧ ((match Nat.beq s.4 0 with | false => false | true => bif s.5 then false else true) = true → x_1.2 = false ∧ x_1.1 = 0) ∧ ∀ (i : Nat), i < s.2 → x_1.3 i 0 = s.6 (s.1 + i) 0) → s.2 ≤ x_1.1 ∧ bif (↑s.2 : Int) == (0 : Int) then endN (lstCon heapR) nzL rpL (LstS.mk l m c nn z (5 : Int) key x) (SV.t [SA.c (.so 3 0 1 s.2 x_1.1 x_1.2), SA.a [Seg.one (.v (.int .i64 (2 : Int))), Seg.one (.v (.int .i64 (0 : Int)))]]) [SB.rows 3 [.int .i64] 1 m c z, SB.cells [Seg.one (.v (.int .i64 (5 : Int))), Seg.one (.v (.int .i64 key)), Seg.one (.v (.int .i64 x))] 30, SB.cells [Seg.one (.v (.int .i64 (2 : Int))), Seg.one (.v (.int .i64 (0 : Int)))] 32, SB.rows 3 [.int .i64] 1 s.2 x_1.1 x_1.3] else ((0 : Int) ≤ (0 : Int) ∧ (0 : Int) < (↑s.2 : Int) ∧ 0 + s.2 ≤ x_1.1) ∧ 0 < s.2 ∧ endN (lstCon heapR) nzL rpL (LstS.mk l m c nn z (5 : Int) key x) (SV.t [SA.c (.so 3 0 1 s.2 x_1.1 x_1.2), SA.a [Seg.one (.v (.int .i64 (1 : Int))), Seg.one (.v (.int .i64 (x_1.3 0 0)))]]) [SB.rows 3 [.int .i64] 1 m c z, SB.cells [Seg.one (.v (.int .i64 (5 : Int))), Seg.one (.v (.int .i64 key)), Seg.one (.v (.int .i64 x))] 30, SB.cells [Seg.one (.v (.int .i64 (1 : Int))), Seg.one (.v (.int .i64 (x_1.3 0 0)))] 32, SB.rows 3 [.int .i64] 1 s.2 x_1.1 x_1.3]) (by kernel_rfl) ?_
    refine ⟨⟨0, l.length, m, c, nn, z⟩, rfl, rfl, hs, fun y hy => ⟨hy.1, by_beq (fun h => ?_) (fun h => ?_)⟩⟩
    · have e : heapR l 5 x = (l, 2, 0) := by unfold heapR; rw [if_neg (by decide), if_pos (.inr rfl), if_pos (by dsimp only at h; omega)]
      exact lst_end _ _ _ _ _ _ _ _ _ _ _ rfl rfl rfl _ e rfl (Nat.le_refl _) hy.1 (h4.sub fun i hi => (hy.2.2 i hi).trans (by rw [Nat.zero_add])) rfl rfl
    · dsimp only at h hy ⊢
      have hn : 0 < l.length := by omega
      have e : heapR l 5 x = (l, 1, hp l 0) := by unfold heapR; rw [if_neg (by decide), if_pos (.inr rfl), if_neg (by omega), if_pos rfl]
      exact ⟨⟨by omega, by omega, by omega⟩, hn, lst_end _ _ _ _ _ _ _ _ _ _ _ rfl rfl rfl _ e rfl (Nat.le_refl _) hy.1 (h4.sub fun i hi => (hy.2.2 i hi).trans (by rw [Nat.zero_add])) rfl ((hy.2.2 0 hn).trans ((congrArg (z · 0) (Nat.zero_add 0)).trans (h4 0 hn)))⟩
  ·
    refine by_eq (q :=
        ∃ (s : CloS), [SA.c (.so 0 0 1 (List.length l) c nn)] = [SA.c (.so 0 s.1 1 s.2 s.4 s.5)] ∧ [SB.rows 3 [.int .i64] 1 m c z] = [SB.rows 3 [.int .i64] 1 s.3 s.4 s.6] ∧ (s.1 + s.2 ≤ s.3 ∧ s.2 ≤ 1000) ∧ ∀ (x_1 : CloR), (s.2 ≤ x_1.1 ∧ ((match Nat.beq s.4 0 with | false => false | true => bif s.5 then false else true) = true → x_1.2 = false ∧ x_1.1 = 0) ∧ ∀ (i : Nat), i < s.2 → x_1.3 i 0 = s.6 (s.1 + i) 0) → s.2 ≤ x_1.1 ∧ endN (lstCon heapR) nzL rpL (LstS.mk l m c nn z (6 : Int) key x) (SV.t [SA.c (.so 3 0 1 s.2 x_1.1 x_1.2), SA.a [Seg.one (.v (.int .i64 (1 : Int))), Seg.one (.v (.int .i64 (↑s.2 : Int)))]]) [SB.rows 3 [.int .i64] 1 m c z, SB.cells [Seg.one (.v (.int .i64 (6 : Int))), Seg.one (.v (.int .i64 key)), Seg.one (.v (.int .i64 x))] 30, SB.cells [Seg.one (.v (.int .i64 (1 : Int))), Seg.one (.v (.int .i64 (↑s.2 : Int)))] 32, SB.rows 3 [.int .i64] 1 s.2 x_1.1 x_1.3]) (by kernel_rfl) ?_
    exact ⟨⟨0, l.length, m, c, nn, z⟩, rfl, rfl, hs, fun y hy => ⟨hy.1, lst_end _ _ _ _ _ _ _ _ _ _ _ rfl rfl rfl (l, 1, (l.length : Int)) rfl rfl (Nat.le_refl _) hy.1 (h4.sub fun i hi => (hy.2.2 i hi).trans (by rw [Nat.zero_add])) rfl rfl⟩⟩
end Go.Proofs.YtacgihekdmoceaaDoor
end
