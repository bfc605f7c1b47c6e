/- What the proof leans on, gathered. -/
import Derived.Test.YtddbkioejhidoaaGreatDoorRows
import Derived.WalkKit
import Derived.Test.YtddbkioejhidoaaGreatDoorSk4
namespace Go.Proofs.YtddbkioejhidoaaGreatDoor
set_option linter.unusedVariables false
set_option maxRecDepth 100000
set_option maxHeartbeats 8000000
section
theorem Qoh (v : Int) : (Qq v = 8 /\ Qq (v + 1) = 40) \/ (Qq v = 40 /\ Qq (v + 1) = 8) := by unfold Qq; omega
theorem QdO (v : Int) : Qq v = 8 \/ Qq v = 40 := by unfold Qq; omega
theorem HasRec.put {f : Nat -> Int} {v : Int} {R : Rec} (h : HasRec f v R) {a : Nat} {x : Int} (ha : ∀ i, i < 32 -> a ≠ Qq v + i) : HasRec (putF f a x) v R := fun i hi => by
 rw [Qv _ _ (fun e => ha i hi e.symm)]; exact h i hi
theorem SlotOK.put {f : Nat -> Int} {b : Nat} (h : SlotOK f b) (hb : b = 8 \/ b = 40) {B : Int} {q : Rec} (hq : RecOK B q) (hB : B <= 1099511627776) {v : Int} {i : Nat} (hi : i < 32) : SlotOK (putF f (Qq v + i) (fL q.words i)) b := by
 have h1 := QdO v
 refine ⟨?_, fun t ht => ⟨?_, ?_⟩⟩
 · by_cases e : b + 26 = Qq v + i
   · obtain rfl : i = 26 := by omega
     rw [e, Xd, Qcb hq]; exact ⟨hq.g0, hq.g1⟩
   · rw [Qv _ _ e]; exact h.1
 · by_cases e : b + 18 + t = Qq v + i
   · obtain rfl : i = 18 + t := by omega
     rw [e, Xd]; exact (QfS hq hB t ht).1
   · rw [Qv _ _ e]; exact (h.2 t ht).1
 · by_cases e : b + 22 + t = Qq v + i
   · obtain rfl : i = 22 + t := by omega
     rw [e, Xd]; exact (QfS hq hB t ht).2
   · rw [Qv _ _ e]; exact (h.2 t ht).2
theorem SlotsOK.put {f : Nat -> Int} (h : SlotsOK f) {B : Int} {q : Rec} (hq : RecOK B q) (hB : B <= 1099511627776) {v : Int} {i : Nat} (hi : i < 32) : SlotsOK (putF f (Qq v + i) (fL q.words i)) :=
 ⟨h.1.put (.inl rfl) hq hB hi, h.2.put (.inr rfl) hq hB hi⟩
theorem SlotsOK.put0 {f : Nat -> Int} (h : SlotsOK f) (x : Int) : SlotsOK (putF f 0 x) := by
 refine ⟨⟨?_, fun t ht => ⟨?_, ?_⟩⟩, ⟨?_, fun t ht => ⟨?_, ?_⟩⟩⟩ <;> rw [Qv _ _ (by omega)]
 · exact h.1.1
 · exact (h.1.2 t ht).1
 · exact (h.1.2 t ht).2
 · exact h.2.1
 · exact (h.2.2 t ht).1
 · exact (h.2.2 t ht).2
theorem SlotOK.mix {f f1 f2 : Nat -> Int} {b : Nat} (h1 : SlotOK f1 b) (h2 : SlotOK f2 b) (h : ∀ i, f i = f1 i \/ f i = f2 i) : SlotOK f b := by
 refine ⟨?_, fun t ht => ⟨?_, ?_⟩⟩
 · rcases h (b + 26) with e | e <;> rw [e]
   · exact h1.1
   · exact h2.1
 · rcases h (b + 18 + t) with e | e <;> rw [e]
   · exact (h1.2 t ht).1
   · exact (h2.2 t ht).1
 · rcases h (b + 22 + t) with e | e <;> rw [e]
   · exact (h1.2 t ht).2
   · exact (h2.2 t ht).2
theorem SlotsOK.mix {f f1 f2 : Nat -> Int} (h1 : SlotsOK f1) (h2 : SlotsOK f2) (h : ∀ i, f i = f1 i \/ f i = f2 i) : SlotsOK f := ⟨h1.1.mix h2.1 h, h1.2.mix h2.2 h⟩
theorem HasRec.mix {f f1 f2 : Nat -> Int} {v : Int} {R : Rec} (h1 : HasRec f1 v R) (h2 : HasRec f2 v R) (h : ∀ i, f i = f1 i \/ f i = f2 i) : HasRec f v R := fun i hi => by
 rcases h (Qq v + i) with e | e <;> rw [e]
 · exact h1 i hi
 · exact h2 i hi
theorem QnN (s : Sto) (t n : Nat) (i : Nat) : s.firm t n i = s.good i \/ s.firm t n i = s.now i := by
 unfold Sto.firm
 cases decide (i / 8 < n) && !(s.want (9 * t + i / 8) == 0)
 · exact .inl rfl
 · exact .inr rfl
theorem Qmb (s : Sto) (t i : Nat) (h : i < 72) (hw : s.want (9 * t + i / 8) ≠ 0) : s.firm t 9 i = s.now i := by
 unfold Sto.firm
 rw [decide_eq_true (by omega), show (s.want (9 * t + i / 8) == 0) = false from beq_eq_false_iff_ne.2 hw]; rfl
section
variable {K : Int} {z z' : Sh} {g : Gh} {t : Nat}
theorem Glob.mix (G : Glob K z g) (hn : z'.s.now = z.s.now) (hg : ∀ i, z'.s.good i = z.s.good i \/ z'.s.good i = z.s.now i) (hm : z'.m 1 = z.m 1) (hd : z'.deeds = z.deeds) (hs : z.steps <= z'.steps) (f1 : 0 <= z'.s.fl) (f2 : z'.s.fl <= z'.steps) (f3 : 0 <= z'.s.fe) (f4 : z'.s.fe <= z'.steps) : Glob K z' g where
 k1 := G.k1
 k6 := G.k6
 v0 := G.v0
 vd := G.vd
 now0 := by rw [hn]; exact G.now0
 good0 := by
   rcases hg 0 with h | h <;> rw [h]
   · exact G.good0
   · exact .inr G.now0
 done := hm.trans G.done
 same := by rw [hd]; exact G.same
 sumR := by rw [hd]; exact G.sumR
 verR := G.verR
 topR := by rw [hd]; exact G.topR
 nle := by rw [hd]; exact G.nle
 sumQ := by rw [hd]; exact G.sumQ
 verQ := G.verQ
 topQ := by rw [hd]; exact G.topQ
 lateQ := by rw [hd]; exact G.lateQ
 nowR := by rw [hn]; exact G.nowR
 goodR := G.goodR.mix G.nowR hg
 nowQ := by rw [hn]; exact G.nowQ
 goodQ := G.goodQ.mix G.nowQ hg
 rNow := by rw [hn]; exact G.rNow
 rGood := G.rGood.mix G.rNow hg
 vb := Int.le_trans G.vb hs
 cb := by rw [hd]; have := G.cb; omega
 fl0 := f1
 fl1 := f2
 fe0 := f3
 fe1 := f4
theorem ShInv.holder (H : ShInv K z g) (ht : t < 4) (hh : Xx (z.w t)) {w' : Wk} {s' : Sto} {d : Int} (hd : w'.does = d) (h4 : 4 <= d) (h15 : d <= 15) (G : Glob K (z.moved t ⟨w', z.m, s'⟩) g) (e : w'.th = (z.w t).th /\ w'.tog = (z.w t).tog /\ w'.said = (z.w t).said /\ w'.k = (z.w t).k /\ w'.key = (z.w t).key /\ w'.x = (z.w t).x /\ w'.seen = (z.w t).seen) (hv : w'.v = (z.w t).v) (hi : d <= 4 \/ 10 <= d -> w'.i = 0)
   (hm : g.V = g.dv + 1 -> 12 <= d /\ d <= 14) (O : HoldOK g t (setF z.w t w') s') : ShInv K (z.moved t ⟨w', z.m, s'⟩) g := by
 have T := H.th t ht
 have ho := LockOK.one H.lk ht hh
 refine ⟨G, fun u hu => ?_, LockOK.keep H.lk ⟨fun _ => hh, fun _ => ⟨by show 4 <= w'.does; omega, by show w'.does <= 15; omega⟩⟩, fun hV => ?_, fun u hu hu' => ?_⟩
 · show ThB g u (setF z.w t w' u) (z.tog u) (z.m (2 + 2 * u)) (z.m (3 + 2 * u))
   by_cases eu : u = t
   · subst eu; rw [Ql]
     exact T.busy (by have := hh.1; omega) hh.2 e (by rw [hv]; exact ⟨T.v0, T.v1⟩) hd hi (by omega) (by omega)
   · rw [Xl _ _ eu]; exact H.th u hu
 · have h := hm hV
   exact ⟨t, ht, by show 12 <= (setF z.w t w' t).does; rw [Ql]; omega, by show (setF z.w t w' t).does <= 14; rw [Ql]; omega⟩
 · by_cases eu : u = t
   · subst eu; exact O
   · have h2 : Xx (setF z.w t w' u) := hu'
     rw [Xl _ _ eu] at h2
     exact absurd h2 (ho.2 u hu eu)
theorem Glob.save (G : Glob K z g) (hs : z.steps < 100000000) {w' : Wk} {B : Int} {q : Rec} (hq : RecOK B q) (hB : B <= 1099511627776) (hV : g.V = g.dv) {i : Nat} (hi : i < 32) : Glob K (z.moved t ⟨w', z.m, z.s.save (Qq (g.V + 1) + i) (fL q.words i)⟩) g := by
 have hb := Qoh g.V
 have hne : ∀ j, j < 32 -> Qq (g.V + 1) + i ≠ Qq g.V + j := fun j hj => by omega
 refine ⟨G.k1, G.k6, G.v0, G.vd, ?_, G.good0, G.done, G.same, G.sumR, G.verR, G.topR, G.nle, G.sumQ, G.verQ, G.topQ, G.lateQ, G.nowR.put hne, G.goodR, ?_, G.goodQ, G.rNow.put hq hB hi, G.rGood, ?_, ?_, G.fl0, ?_, G.fe0, ?_⟩
 · show putF z.s.now _ _ 0 = g.V
   rw [Qv _ _ (by omega)]; exact G.now0
 · have := G.nowQ
   refine this.put ?_
   rw [<- hV]; exact hne
 · have := G.vb; show g.V <= z.steps + 1; omega
 · have := G.cb; show (z.deeds.length : Int) <= 4 * (z.steps + 1); omega
 · have := G.fl1; show z.s.fl <= z.steps + 1; omega
 · have := G.fe1; show z.s.fe <= z.steps + 1; omega
theorem QlO (H : ShInv K z g) (ht : t < 4) (hs : z.steps < 100000000) (hd : (z.w t).does = 8) : ShInv K (z.stepped t) g := by
 have T := H.th t ht
 have hho : Xx (z.w t) := ⟨by omega, by omega⟩
 have O := H.ho t ht hho
 have hV := O.low (.inl (by omega))
 have hv := O.ver (by omega) (by omega)
 have hi := O.i0 (by omega)
 obtain ⟨hG, hD, hr, hT⟩ := O.nx (by omega) (by omega)
 obtain ⟨h32, hw⟩ := O.i8 hd
 have hN := H.gl.next hs (hG.okA H)
 have hB : ((z.deeds ++ (bD g.R (z.w t).asks).map (Vd.mk (g.V + 1))).length : Int) <= 1099511627776 := by
   have h1 := Qoj (z.w t).asks g.R
   have h2 := hG.len
   have h3 := H.gl.cb
   rw [List.length_append, List.length_map]; omega
 have e : Qg (z.wst t) = (⟨Wk.next (z.w t) 32 9, z.m, z.s.save (Qq (g.V + 1) + (z.w t).i.toNat) (fL (bDo g.R (z.w t).asks).words (z.w t).i.toNat)⟩, false) := by
   have h2 : Qg (z.wst t) = (XQ (z.wst t), false) := by simp [Qg, Sh.wst, hd]
   rw [h2]
   unfold XQ
   rw [if_pos (by exact hd)]
   show ((⟨Wk.next (z.w t) 32 9, z.m, z.s.save (Qq ((z.w t).v + 1) + (z.w t).i.toNat) ((z.w t).r (z.w t).i.toNat)⟩ : WSt), false) = _
   rw [hv, <- hV, hr _ (by omega)]
 rw [QE (by omega) e]
 have G := H.gl.save (t := t) (w' := Wk.next (z.w t) 32 9) hs hN.1.ok hB hV (i := (z.w t).i.toNat) (by omega)
 have hw' : ∀ j : Nat, (j : Int) < (z.w t).i + 1 -> putF z.s.now (Qq (g.V + 1) + (z.w t).i.toNat) (fL (bDo g.R (z.w t).asks).words (z.w t).i.toNat) (Qq (g.V + 1) + j) = fL (bDo g.R (z.w t).asks).words j := fun j hj => by
   by_cases ej : j = (z.w t).i.toNat
   · subst ej; rw [Xd]
   · rw [Qv _ _ (by omega)]; exact hw j (by omega)
 unfold Wk.next at G ⊢
 by_cases e4 : (z.w t).i + 1 = 32
 · rw [if_pos e4] at G ⊢
   refine H.holder ht hho (d := 9) rfl (by decide) (by decide) G ⟨rfl, rfl, rfl, rfl, rfl, rfl, rfl⟩ rfl (fun h => absurd h (by decide)) (fun h => absurd h (by omega)) ?_
   refine hold9 (by rw [Ql]) hV (by rw [Ql]; exact hv) (by rw [Ql]; exact Int.le_refl 0) ?_ ?_
   · unfold QdR
     rw [Ql]
     exact ⟨hG.other (Qy (d := 9) rfl (by decide) ⟨rfl, rfl, rfl, rfl, rfl⟩) (fun _ => rfl), hD, hr, ⟨hT.bit, hT.ok, hT.ans, hT.whn⟩⟩
   · rw [Ql]
     exact ⟨by show (0 : Int) < 4; decide, fun j hj => hw' j (by omega), fun l hl => by have hl : (l : Int) < 0 := hl; omega⟩
 · rw [if_neg e4] at G ⊢
   refine H.holder ht hho (d := 8) hd (by decide) (by decide) G ⟨rfl, rfl, rfl, rfl, rfl, rfl, rfl⟩ rfl (fun h => absurd h (by decide)) (fun h => absurd h (by omega)) ?_
   refine hold8 (by rw [Ql]; exact hd) hV (by rw [Ql]; exact hv) (by rw [Ql]; show 0 <= (z.w t).i + 1; omega) ?_ ?_
   · unfold QdR
     rw [Ql]
     exact ⟨hG.other (Qy (d := 8) hd (by decide) ⟨rfl, rfl, rfl, rfl, rfl⟩) (fun _ => rfl), hD, hr, ⟨hT.bit, hT.ok, hT.ans, hT.whn⟩⟩
   · rw [Ql]
     exact ⟨by show (z.w t).i + 1 < 32; omega, hw'⟩
theorem Glob.flush (G : Glob K z g) {w' : Wk} {l : Nat} : Glob K (z.moved t ⟨w', z.m, z.s.flush t l⟩) g :=
 G.mix rfl (fun _ => .inl rfl) rfl rfl (by show z.steps <= z.steps + 1; omega) (by have := G.fl0; show 0 <= z.s.fl + 1; omega) (by have := G.fl1; show z.s.fl + 1 <= z.steps + 1; omega) G.fe0 (by have := G.fe1; show z.s.fe <= z.steps + 1; omega)
theorem Glob.fence (G : Glob K z g) {w' : Wk} : Glob K (z.moved t ⟨w', z.m, z.s.fence t⟩) g :=
 G.mix rfl (fun i => QnN z.s t 9 i) rfl rfl (by show z.steps <= z.steps + 1; omega) G.fl0 (by have := G.fl1; show z.s.fl <= z.steps + 1; omega) (by have := G.fe0; show 0 <= z.s.fe + 1; omega) (by have := G.fe1; show z.s.fe + 1 <= z.steps + 1; omega)
theorem QlN (H : ShInv K z g) (ht : t < 4) (hd : (z.w t).does = 9) : ShInv K (z.stepped t) g := by
 have T := H.th t ht
 have hth := T.th
 have hho : Xx (z.w t) := ⟨by omega, by omega⟩
 have O := H.ho t ht hho
 have hV := O.low (.inl (by omega))
 have hv := O.ver (by omega) (by omega)
 have hi := O.i0 (by omega)
 obtain ⟨hG, hD, hr, hT⟩ := O.nx (by omega) (by omega)
 obtain ⟨h4, hR, hw⟩ := O.i9 hd
 have e : Qg (z.wst t) = (⟨Wk.next (z.w t) 4 10, z.m, z.s.flush t (Qq (g.V + 1) / 8 + (z.w t).i.toNat)⟩, false) := by
   have h2 : Qg (z.wst t) = (XQ (z.wst t), false) := by simp [Qg, Sh.wst, hd]
   rw [h2]
   unfold XQ
   rw [if_neg (by show ¬ (z.w t).does = 8; omega), if_pos (by exact hd)]
   show ((⟨Wk.next (z.w t) 4 10, z.m, z.s.flush (z.w t).th (Qq ((z.w t).v + 1) / 8 + (z.w t).i.toNat)⟩ : WSt), false) = _
   rw [hv, <- hV, hth]
 rw [QE (by omega) e]
 have G := H.gl.flush (t := t) (w' := Wk.next (z.w t) 4 10) (l := Qq (g.V + 1) / 8 + (z.w t).i.toNat)
 have hw' : ∀ l : Nat, (l : Int) < (z.w t).i + 1 -> putF z.s.want (9 * t + (Qq (g.V + 1) / 8 + (z.w t).i.toNat)) 1 (9 * t + (Qq (g.V + 1) / 8 + l)) ≠ 0 := fun l hl => by
   by_cases ej : l = (z.w t).i.toNat
   · subst ej; rw [Xd]; decide
   · rw [Qv _ _ (by omega)]; exact hw l (by omega)
 unfold Wk.next at G ⊢
 by_cases e4 : (z.w t).i + 1 = 4
 · rw [if_pos e4] at G ⊢
   refine H.holder ht hho (d := 10) rfl (by decide) (by decide) G ⟨rfl, rfl, rfl, rfl, rfl, rfl, rfl⟩ rfl (fun _ => rfl) (fun h => absurd h (by omega)) ?_
   refine hold10 (by rw [Ql]) hV (by rw [Ql]; exact hv) ?_ ?_
   · unfold QdR
     rw [Ql]
     exact ⟨hG.other (Qy (d := 10) rfl (by decide) ⟨rfl, rfl, rfl, rfl, rfl⟩) (fun _ => rfl), hD, hr, ⟨hT.bit, hT.ok, hT.ans, hT.whn⟩⟩
   · rw [Ql]
     exact ⟨hR, fun l hl => hw' l (by omega)⟩
 · rw [if_neg e4] at G ⊢
   refine H.holder ht hho (d := 9) hd (by decide) (by decide) G ⟨rfl, rfl, rfl, rfl, rfl, rfl, rfl⟩ rfl (fun h => absurd h (by decide)) (fun h => absurd h (by omega)) ?_
   refine hold9 (by rw [Ql]; exact hd) hV (by rw [Ql]; exact hv) (by rw [Ql]; show 0 <= (z.w t).i + 1; omega) ?_ ?_
   · unfold QdR
     rw [Ql]
     exact ⟨hG.other (Qy (d := 9) hd (by decide) ⟨rfl, rfl, rfl, rfl, rfl⟩) (fun _ => rfl), hD, hr, ⟨hT.bit, hT.ok, hT.ans, hT.whn⟩⟩
   · rw [Ql]
     exact ⟨by show (z.w t).i + 1 < 4; omega, hR, hw'⟩
theorem Qke (H : ShInv K z g) (ht : t < 4) (hd : (z.w t).does = 10) : ShInv K (z.stepped t) g := by
 have T := H.th t ht
 have hth := T.th
 have hho : Xx (z.w t) := ⟨by omega, by omega⟩
 have O := H.ho t ht hho
 have hV := O.low (.inl (by omega))
 have hv := O.ver (by omega) (by omega)
 obtain ⟨hG, hD, hr, hT⟩ := O.nx (by omega) (by omega)
 obtain ⟨hR, hw⟩ := O.i10 hd
 have e : Qg (z.wst t) = (⟨{ z.w t with does := 11 }, z.m, z.s.fence t⟩, false) := by
   simp [Qg, XQ, Sh.wst, hd, hth]
 rw [QE (by omega) e]
 refine H.holder ht hho (d := 11) rfl (by decide) (by decide) H.gl.fence ⟨rfl, rfl, rfl, rfl, rfl, rfl, rfl⟩ rfl (fun _ => T.ii (by omega)) (fun h => absurd h (by omega)) ?_
 refine hold11 (by rw [Ql]) hV (by rw [Ql]; exact hv) ?_ ?_
 · unfold QdR
   rw [Ql]
   exact ⟨hG.other (Qy (d := 11) rfl (by decide) ⟨rfl, rfl, rfl, rfl, rfl⟩) (fun _ => rfl), hD, hr, ⟨hT.bit, hT.ok, hT.ans, hT.whn⟩⟩
 · rw [Ql]
   refine ⟨hR, fun j hj => ?_⟩
   have hb := QdO (g.V + 1)
   have h8 : (Qq (g.V + 1) + j) / 8 = Qq (g.V + 1) / 8 + j / 8 := by omega
   show z.s.firm t 9 (Qq (g.V + 1) + j) = _
   rw [Qmb z.s t _ (by omega) (by rw [h8]; exact hw (j / 8) (by omega))]
   exact hR j hj
theorem Qkc (H : ShInv K z g) (ht : t < 4) (hd : (z.w t).does = 12) : ShInv K (z.stepped t) g := by
 have T := H.th t ht
 have hth := T.th
 have hho : Xx (z.w t) := ⟨by omega, by omega⟩
 have O := H.ho t ht hho
 have hV := O.mid (by omega) (by omega)
 have hv := O.ver (by omega) (by omega)
 have hT := O.told (by omega) (by omega)
 have e : Qg (z.wst t) = (⟨{ z.w t with does := 13 }, z.m, z.s.flush t 0⟩, false) := by
   simp [Qg, XQ, Sh.wst, hd, hth]
 rw [QE (by omega) e]
 refine H.holder ht hho (d := 13) rfl (by decide) (by decide) H.gl.flush ⟨rfl, rfl, rfl, rfl, rfl, rfl, rfl⟩ rfl (fun _ => T.ii (by omega)) (fun _ => ⟨by decide, by decide⟩) ?_
 refine hold13 (by rw [Ql]) hV (by rw [Ql]; exact hv) (by rw [Ql]; exact ⟨hT.bit, hT.ok, hT.ans, hT.whn⟩) ?_
 show putF z.s.want (9 * t + 0) 1 (9 * t) ≠ 0
 rw [Nat.add_zero, Xd]; decide
theorem Qkb (H : ShInv K z g) (ht : t < 4) (hd : (z.w t).does = 13) : ShInv K (z.stepped t) g := by
 have T := H.th t ht
 have hth := T.th
 have hho : Xx (z.w t) := ⟨by omega, by omega⟩
 have O := H.ho t ht hho
 have hV := O.mid (by omega) (by omega)
 have hv := O.ver (by omega) (by omega)
 have hT := O.told (by omega) (by omega)
 have e : Qg (z.wst t) = (⟨{ z.w t with does := 14 }, z.m, z.s.fence t⟩, false) := by
   simp [Qg, XQ, Sh.wst, hd, hth]
 rw [QE (by omega) e]
 refine H.holder ht hho (d := 14) rfl (by decide) (by decide) H.gl.fence ⟨rfl, rfl, rfl, rfl, rfl, rfl, rfl⟩ rfl (fun _ => T.ii (by omega)) (fun _ => ⟨by decide, by decide⟩) ?_
 refine hold14 (by rw [Ql]) hV (by rw [Ql]; exact hv) (by rw [Ql]; exact ⟨hT.bit, hT.ok, hT.ans, hT.whn⟩) ?_
 show z.s.firm t 9 0 = g.V
 rw [Qmb z.s t 0 (by decide) (by rw [show 9 * t + 0 / 8 = 9 * t by omega]; exact O.i13 hd)]
 exact H.gl.now0
theorem ThB.index {g : Gh} {u : Nat} {w : Wk} {tg mo ms : Int} (T : ThB g u w tg mo ms) {V' : Int} {R' : Rec}
   (h : (Qn R'.tog u = Qn g.R.tog u /\ R'.ans.getD u 0 = g.R.ans.getD u 0 /\ R'.whn.getD u 0 = g.R.whn.getD u 0) \/ (w.does ≠ 0 /\ w.said = true /\ Qn g.R.tog u ≠ w.tog /\ Qn R'.tog u = w.tog)) : ThB ⟨V', R', g.dv, g.Q, g.n⟩ u w tg mo ms := by
 rcases h with ⟨h1, h2, h3⟩ | ⟨h1, h2, h3, h4⟩
 · exact { T with
     idle := fun h => by rw [show (⟨V', R', g.dv, g.Q, g.n⟩ : Gh).R = R' from rfl, h1]; exact T.idle h
     qr := fun h hq => h1.trans (T.qr h hq)
     uns := fun h hs => by rw [show (⟨V', R', g.dv, g.Q, g.n⟩ : Gh).R = R' from rfl, h1]; exact T.uns h hs
     rep := fun h => ⟨(T.rep h).1, ⟨h1.trans (T.rep h).2.bit, (T.rep h).2.ok, h2.trans (T.rep h).2.ans, h3.trans (T.rep h).2.whn⟩⟩ }
 · exact { T with
     idle := fun h => absurd h h1
     qr := fun _ _ => h4
     uns := fun _ hs => by rw [h2] at hs; cases hs
     rep := fun h => absurd (T.rep h).2.bit h3 }
theorem Qdh {z : Sh} {t : Nat} {r : WSt} (hd : (z.w t).does = 11) (e : Qg (z.wst t) = (r, false)) : z.stepped t = (z.moved t r).counted r.w.deeds := by
 unfold Sh.stepped
 rw [e]
 dsimp only
 rw [if_pos hd]; rfl
theorem Qkd (H : ShInv K z g) (ht : t < 4) (hs : z.steps < 100000000) (hd : (z.w t).does = 11) : ShInv K (z.stepped t) ⟨g.V + 1, bDo g.R (z.w t).asks, g.dv, g.Q, g.n⟩ := by
 have T := H.th t ht
 have hth := T.th
 have hho : Xx (z.w t) := ⟨by omega, by omega⟩
 have O := H.ho t ht hho
 have hV := O.low (.inl (by omega))
 have hv := O.ver (by omega) (by omega)
 have hone := LockOK.one H.lk ht hho
 obtain ⟨hG, hD, hr, hT⟩ := O.nx (by omega) (by omega)
 obtain ⟨hR, hRg⟩ := O.i11 hd
 have hok := hG.okA H
 have hN := H.gl.next hs hok
 have e : Qg (z.wst t) = (⟨{ z.w t with does := 12 }, z.m, z.s.save 0 ((z.w t).v + 1)⟩, false) := by
   simp [Qg, XQ, Sh.wst, hd, hth]
 rw [Qdh hd e]
 have hn0 : putF z.s.now 0 ((z.w t).v + 1) 0 = g.V + 1 := by rw [Xd, hv, hV]
 have hdeeds : ((z.moved t ⟨{ z.w t with does := 12 }, z.m, z.s.save 0 ((z.w t).v + 1)⟩).counted (z.w t).deeds).deeds = z.deeds ++ (bD g.R (z.w t).asks).map (Vd.mk (g.V + 1)) := by
   show z.deeds ++ (z.w t).deeds.map (Vd.mk (putF z.s.now 0 ((z.w t).v + 1) 0)) = _
   rw [hn0, hD]
 have G := H.gl
 obtain ⟨hRQ, hn⟩ := G.same hV
 have hb1 := QdO (g.V + 1)
 have hb0 := QdO g.dv
 have htake : (z.deeds ++ (bD g.R (z.w t).asks).map (Vd.mk (g.V + 1))).take g.n = z.deeds.take g.n := by
   rw [hn, List.take_left', List.take_length]; rfl
 have hdrop : (z.deeds ++ (bD g.R (z.w t).asks).map (Vd.mk (g.V + 1))).drop g.n = (bD g.R (z.w t).asks).map (Vd.mk (g.V + 1)) := by
   rw [hn]; exact List.drop_left' rfl
 have hle : (bD g.R (z.w t).asks).length <= 4 := Nat.le_trans (Qoj _ _) hG.len
 refine ⟨?_, fun u hu => ?_, LockOK.keep H.lk ⟨fun _ => hho, fun _ => ⟨by show (4 : Int) <= 12; decide, by show (12 : Int) <= 15; decide⟩⟩, fun _ => ⟨t, ht, ?_, ?_⟩, fun u hu hu' => ?_⟩
 · exact
     { k1 := G.k1, k6 := G.k6, v0 := G.v0
       vd := .inr (by show g.V + 1 = g.dv + 1; omega)
       now0 := hn0
       good0 := .inl (by show z.s.good 0 = g.dv; rcases G.good0 with h | h <;> omega)
       done := G.done
       same := fun h => absurd h (by show ¬ g.V + 1 = g.dv; omega)
       sumR := by rw [hdeeds]; exact hN.1
       verR := hN.2
       topR := by
         rw [hdeeds]
         intro d hd
         show d.ver <= g.V + 1
         rcases List.mem_append.1 hd with hd | hd
         · have := G.topR d hd; omega
         · obtain ⟨x, -, rfl⟩ := List.mem_map.1 hd; exact Int.le_refl _
       nle := by rw [hdeeds, List.length_append]; show g.n <= _; omega
       sumQ := by rw [hdeeds]; show Sum K g.Q (List.take g.n _); rw [htake]; exact G.sumQ
       verQ := G.verQ
       topQ := by rw [hdeeds]; show ∀ d ∈ List.take g.n _, _; rw [htake]; exact G.topQ
       lateQ := by
         rw [hdeeds]
         show ∀ d ∈ List.drop g.n _, Vd.ver d = g.dv + 1
         rw [hdrop]
         intro d hd
         obtain ⟨x, -, rfl⟩ := List.mem_map.1 hd
         show g.V + 1 = g.dv + 1
         omega
       nowR := hR.put (fun i _ => by omega)
       goodR := hRg
       nowQ := G.nowQ.put (fun i _ => by omega)
       goodQ := G.goodQ
       rNow := G.rNow.put0 _
       rGood := G.rGood
       vb := by have := G.vb; show g.V + 1 <= z.steps + 1; omega
       cb := by
         rw [hdeeds, List.length_append, List.length_map]
         have := G.cb
         show _ <= 4 * (z.steps + 1)
         omega
       fl0 := G.fl0
       fl1 := by have := G.fl1; show z.s.fl <= z.steps + 1; omega
       fe0 := G.fe0
       fe1 := by have := G.fe1; show z.s.fe <= z.steps + 1; omega }
 · show ThB ⟨g.V + 1, bDo g.R (z.w t).asks, g.dv, g.Q, g.n⟩ u (setF z.w t { z.w t with does := 12 } u) (z.tog u) (z.m (2 + 2 * u)) (z.m (3 + 2 * u))
   have hcase : (Qn (bDo g.R (z.w t).asks).tog u = Qn g.R.tog u /\ (bDo g.R (z.w t).asks).ans.getD u 0 = g.R.ans.getD u 0 /\ (bDo g.R (z.w t).asks).whn.getD u 0 = g.R.whn.getD u 0) \/ ((z.w u).does ≠ 0 /\ (z.w u).said = true /\ Qn g.R.tog u ≠ (z.w u).tog /\ Qn (bDo g.R (z.w t).asks).tog u = (z.w u).tog) := by
     by_cases hx : ∃ a ∈ (z.w t).asks, a.t = u
     · obtain ⟨a, ha, rfl⟩ := hx
       have hw := hG.want a ha
       have h1 := Qiy G.sumR.ok hok (hG.asc.imp (fun h => Nat.ne_of_lt h)) a ha
       have h2 : Qn (bR g.R (z.w t).asks).tog a.t = a.g := by simpa [bOpen] using h1
       exact .inr ⟨hw.act, hw.said, by rw [hw.tog]; exact hw.opn, by rw [hw.tog]; exact h2⟩
     · have := QgX G.sumR.ok hok u hu (fun a ha e => hx ⟨a, ha, e⟩)
       exact .inl ⟨this.2.2, this.1, this.2.1⟩
   by_cases eu : u = t
   · subst eu
     rw [Ql]
     have h1 := T.busy (w' := { z.w u with does := 12 }) (by omega) (by omega) ⟨rfl, rfl, rfl, rfl, rfl, rfl, rfl⟩ ⟨T.v0, T.v1⟩ (d := 12) rfl (fun _ => T.ii (by omega)) (by decide) (by decide)
     refine h1.index ?_
     rcases hcase with h | ⟨a, b, c, d⟩
     · exact .inl h
     · exact .inr ⟨by show (12 : Int) ≠ 0; decide, b, c, d⟩
   · rw [Xl _ _ eu]; exact (H.th u hu).index hcase
 · show 12 <= (setF z.w t { z.w t with does := 12 } t).does
   rw [Ql]; exact Int.le_refl 12
 · show (setF z.w t { z.w t with does := 12 } t).does <= 14
   rw [Ql]; show (12 : Int) <= 14; decide
 · by_cases eu : u = t
   · subst eu
     exact hold12 (by show (setF z.w u _ u).does = 12; rw [Ql]) (by show g.V + 1 = g.dv + 1; omega) (by show (setF z.w u _ u).v = _; rw [Ql]; exact hv) (by show Told _ u (setF z.w u _ u); rw [Ql]; exact ⟨hT.bit, hT.ok, hT.ans, hT.whn⟩)
   · have h2 : Xx (setF z.w t { z.w t with does := 12 } u) := hu'
     rw [Xl _ _ eu] at h2
     exact absurd h2 (hone.2 u hu eu)
theorem ThB.tell {g : Gh} {u : Nat} {w : Wk} {tg mo ms : Int} (T : ThB g u w tg mo ms) (hV : g.V = g.dv + 1) {n : Nat} (h1 : tg = 1 -> g.R.whn.getD u 0 ≠ 0) : ThB ⟨g.V, g.R, g.V, g.R, n⟩ u w tg mo ms :=
 { T with
   one := h1
   v1 := by have := T.v1; show w.v <= g.V; omega
   idle := fun h => ⟨(T.idle h).1, (T.idle h).1, (T.idle h).2.2⟩
   qr := fun _ h => h
   uns := fun h hs => (T.uns h hs).imp id (fun h => ⟨h.1, h.2.1, h.2.1⟩)
   lk2 := fun _ h => by have := T.v1; have h : w.v = g.V := h; omega
   lk3 := fun _ h => by have := T.v1; have h : w.v = g.V := h; omega
   lk4 := fun _ h => by have := T.v1; have h : w.v = g.V := h; omega
   rep := fun h => ⟨(T.rep h).2, (T.rep h).2⟩ }
theorem Qkg (H : ShInv K z g) (ht : t < 4) (hd : (z.w t).does = 14) : ShInv K (z.stepped t) ⟨g.V, g.R, g.V, g.R, z.deeds.length⟩ := by
 have T := H.th t ht
 have hho : Xx (z.w t) := ⟨by omega, by omega⟩
 have O := H.ho t ht hho
 have hV := O.mid (by omega) (by omega)
 have hv := O.ver (by omega) (by omega)
 have hT := O.told (by omega) (by omega)
 have hg := O.i14 (by omega) (by omega)
 have hone := LockOK.one H.lk ht hho
 have e : Qg (z.wst t) = (⟨{ z.w t with does := 15 }, putF z.m 1 ((z.w t).v + 1), z.s⟩, false) := by
   simp [Qg, Qbo, Sh.wst, hd]
 rw [QE (by omega) e]
 have G := H.gl
 have hone1 : ∀ u, u < 4 -> z.tog u = 1 -> g.R.whn.getD u 0 ≠ 0 := fun u hu h1 => by
   have h2 : Sum K g.R (z.deeds.take g.n ++ z.deeds.drop g.n) := by rw [List.take_append_drop]; exact G.sumR
   exact G.sumQ.whn_mono h2 hu ((H.th u hu).one h1)
 refine ⟨?_, fun u hu => ?_, ?_, fun h => absurd h (by show ¬ g.V = g.V + 1; omega), fun u hu hu' => ?_⟩
 · exact
     { k1 := G.k1, k6 := G.k6
       v0 := by have := G.v0; show 0 <= g.V; omega
       vd := .inl rfl
       now0 := G.now0
       good0 := .inl hg
       done := by show putF z.m 1 ((z.w t).v + 1) 1 = g.V; rw [Xd]; omega
       same := fun _ => ⟨rfl, rfl⟩
       sumR := G.sumR
       verR := G.verR
       topR := G.topR
       nle := Nat.le_refl _
       sumQ := by show Sum K g.R (List.take z.deeds.length z.deeds); rw [List.take_length]; exact G.sumR
       verQ := G.verR
       topQ := by show ∀ d ∈ List.take z.deeds.length z.deeds, Vd.ver d <= g.V; rw [List.take_length]; exact G.topR
       lateQ := by show ∀ d ∈ List.drop z.deeds.length z.deeds, Vd.ver d = g.V + 1; rw [List.drop_length]; intro d hd; cases hd
       nowR := G.nowR
       goodR := G.goodR
       nowQ := G.nowR
       goodQ := G.goodR
       rNow := G.rNow
       rGood := G.rGood
       vb := by have := G.vb; show g.V <= z.steps + 1; omega
       cb := by have := G.cb; show (z.deeds.length : Int) <= 4 * (z.steps + 1); omega
       fl0 := G.fl0
       fl1 := by have := G.fl1; show z.s.fl <= z.steps + 1; omega
       fe0 := G.fe0
       fe1 := by have := G.fe1; show z.s.fe <= z.steps + 1; omega }
 · show ThB ⟨g.V, g.R, g.V, g.R, z.deeds.length⟩ u (setF z.w t { z.w t with does := 15 } u) (z.tog u) (putF z.m 1 ((z.w t).v + 1) (2 + 2 * u)) (putF z.m 1 ((z.w t).v + 1) (3 + 2 * u))
   rw [Qv _ _ (by omega), Qv _ _ (by omega)]
   by_cases eu : u = t
   · subst eu
     rw [Ql]
     exact (T.busy (w' := { z.w u with does := 15 }) (by omega) (by omega) ⟨rfl, rfl, rfl, rfl, rfl, rfl, rfl⟩ ⟨T.v0, T.v1⟩ (d := 15) rfl (fun _ => T.ii (by omega)) (by decide) (by decide)).tell hV (hone1 u hu)
   · rw [Xl _ _ eu]; exact (H.th u hu).tell hV (hone1 u hu)
 · show LockOK (putF z.m 1 ((z.w t).v + 1) 0) (setF z.w t { z.w t with does := 15 })
   rw [Qv _ _ (by decide)]
   exact LockOK.keep H.lk ⟨fun _ => hho, fun _ => ⟨by show (4 : Int) <= 15; decide, by show (15 : Int) <= 15; decide⟩⟩
 · by_cases eu : u = t
   · subst eu
     exact hold15 (by show (setF z.w u _ u).does = 15; rw [Ql]) rfl (by show Told _ u (setF z.w u _ u); rw [Ql]; exact ⟨hT.bit, hT.ok, hT.ans, hT.whn⟩) hg
   · have h2 : Xx (setF z.w t { z.w t with does := 15 } u) := hu'
     rw [Xl _ _ eu] at h2
     exact absurd h2 (hone.2 u hu eu)
theorem Qkf (H : ShInv K z g) (ht : t < 4) (hd : (z.w t).does = 15) : ShInv K (z.stepped t) g := by
 have T := H.th t ht
 have hho : Xx (z.w t) := ⟨by omega, by omega⟩
 have O := H.ho t ht hho
 have hV := O.low (.inr hd)
 have hT := O.told (by omega) (by omega)
 have hone := LockOK.one H.lk ht hho
 have e : Qg (z.wst t) = (⟨{ z.w t with does := 16 }, putF z.m 0 0, z.s⟩, false) := by
   simp [Qg, Qbo, Sh.wst, hd]
 rw [QE (by omega) e]
 have hR : g.R = g.Q := (H.gl.same hV).1
 have hT2 : Told g.R t { z.w t with does := 16 } := ⟨hT.bit, hT.ok, hT.ans, hT.whn⟩
 refine H.moved ht (Qv _ _ (by omega)) (fun u hu hne => ⟨Qv _ _ (by omega), Qv _ _ (by omega)⟩) ?_ (Qy (d := 16) rfl (by decide) ⟨rfl, rfl, rfl, rfl, rfl⟩) ?_ (by omega) (fun hh => absurd hh (Qu (d := 16) rfl (.inr (by decide))))
 · rw [Qv _ _ (show 2 + 2 * t ≠ 0 by omega), Qv _ _ (show 3 + 2 * t ≠ 0 by omega)]
   exact T.go (by omega) (d := 16) rfl ⟨by decide, by decide⟩ ⟨rfl, rfl, rfl, rfl, rfl⟩ ⟨T.v0, T.v1⟩ (fun _ => T.ii (by omega)) T.se (T.uns (by omega)) (T.sai (by omega)) (fun h => absurd h (by decide)) (fun h => absurd h (by decide)) (fun _ _ => T.s3 (by omega) (by omega)) (fun h => absurd h (by decide)) (fun h => absurd h (by decide)) (fun h => absurd h (by decide)) (fun _ => ⟨by rw [<- hR]; exact hT2, hT2⟩)
 · rw [Xd]
   refine .inl ⟨rfl, fun u hu => ?_⟩
   by_cases eu : u = t
   · subst eu; rw [Ql]; exact Qu (d := 16) rfl (.inr (by decide))
   · rw [Xl _ _ eu]; exact hone.2 u hu eu
end
end
section
theorem QeJ (k : Int) (i : Nat) (h : i < 32) : XP k 32 (8 + i) = fL (Rec.new k).words i := by
 unfold XP; rw [decide_eq_true (by omega), Nat.add_sub_cancel_left]; rfl
theorem Qcj (k : Int) (i : Nat) (h : i < 8 \/ 40 <= i) : XP k 32 i = 0 := by
 unfold XP; rw [decide_eq_false (by omega)]; rfl
theorem base0 : Qq 0 = 8 := rfl
theorem Qi1 {K : Int} (h1 : 1 <= K) (h6 : K <= 6) : SlotsOK (XP K 32) := by
 have hq := RecOK.new h1 h6
 refine ⟨⟨?_, fun t ht => ⟨?_, ?_⟩⟩, ⟨?_, fun t ht => ⟨?_, ?_⟩⟩⟩
 · rw [QeJ K 26 (by decide), Qcb hq]; exact ⟨hq.g0, hq.g1⟩
 · rw [Nat.add_assoc, QeJ K (18 + t) (by omega)]; exact (QfS hq (by decide) t ht).1
 · rw [Nat.add_assoc, QeJ K (22 + t) (by omega)]; exact (QfS hq (by decide) t ht).2
 · rw [Qcj K _ (.inr (by omega))]; decide
 · rw [Qcj K _ (.inr (by omega))]; exact ⟨by decide, by decide⟩
 · rw [Qcj K _ (.inr (by omega))]; decide
def Gh.new (K : Int) : Gh := ⟨0, Rec.new K, 0, Rec.new K, 0⟩
theorem Qpc {K : Int} (h1 : 1 <= K) (h6 : K <= 6) : ShInv K (Sh.new K) (Gh.new K) := by
 have hs := Sum.new h1 h6
 have hr : HasRec (XP K 32) 0 (Rec.new K) := fun i hi => by rw [base0]; exact QeJ K i hi
 have h0 : XP K 32 0 = 0 := Qcj K 0 (.inl (by decide))
 refine ⟨?_, fun t ht => ?_, .inl ⟨rfl, fun t _ => Qu (d := 0) rfl (.inl (by decide))⟩, fun h => absurd h (by show ¬ (0 : Int) = 0 + 1; decide), fun h _ hh => absurd hh (Qu (d := 0) rfl (.inl (by decide)))⟩
 · exact
     { k1 := h1, k6 := h6, v0 := Int.le_refl 0, vd := .inl rfl, now0 := h0, good0 := .inl h0, done := rfl, same := fun _ => ⟨rfl, rfl⟩
       sumR := hs, verR := rfl, topR := fun d hd => (by cases hd), nle := Nat.le_refl _, sumQ := hs, verQ := rfl, topQ := fun d hd => (by cases hd), lateQ := fun d hd => (by cases hd)
       nowR := hr, goodR := hr, nowQ := hr, goodQ := hr, rNow := Qi1 h1 h6, rGood := Qi1 h1 h6, vb := Int.le_refl 0, cb := Int.le_refl 0, fl0 := Int.le_refl 0, fl1 := Int.le_refl 0, fe0 := Int.le_refl 0, fe1 := Int.le_refl 0 }
 · have hb := hs.bit t ht
   exact
     { th := rfl, d0 := Int.le_refl 0, d21 := by show (0 : Int) <= 21; decide, tg01 := .inl rfl, one := fun h => absurd h (by show ¬ (0 : Int) = 1; decide), v0 := Int.le_refl 0, v1 := Int.le_refl 0, ii := fun _ => rfl
       se0 := ⟨by show (0 : Int) <= 0; decide, by show (0 : Int) < 16; decide⟩, se1 := ⟨by show (0 : Int) <= 0; decide, by show (0 : Int) < 18446744073709551616; decide⟩, se2 := ⟨by show (0 : Int) <= 0; decide, by show (0 : Int) <= 9223372036854775807; decide⟩
       idle := fun _ => ⟨hb, hb, .inl rfl⟩, op := fun h => absurd rfl h, tog := fun h => absurd rfl h, qr := fun h => absurd rfl h, uns := fun h => absurd rfl h, sai := fun h => absurd rfl h
       two := fun h => absurd h (by show ¬ (0 : Int) = 2; decide), s12 := fun h => absurd h (by show ¬ ((0 : Int) = 1 \/ (0 : Int) = 2); decide), s3 := fun h => absurd h (by show ¬ (3 : Int) <= 0; decide)
       lk2 := fun h => absurd h (by show ¬ (19 : Int) <= 0; decide), lk3 := fun h => absurd h (by show ¬ (20 : Int) <= 0; decide), lk4 := fun h => absurd h (by show ¬ (21 : Int) <= 0; decide), rep := fun h => absurd h (by show ¬ (0 : Int) = 16; decide) }
section
variable {K : Int} {z : Sh} {g : Gh} {t : Nat}
theorem Qkh (H : ShInv K z g) (ht : t < 4) (hd : (z.w t).does = 0) {k key x : Int} (ho : opOk k key x = true) : ShInv K (z.called t k key x) g := by
 have T := H.th t ht
 obtain ⟨i1, i2, i3⟩ := T.idle hd
 have hg := T.tg01
 have := H.local ht (w' := Wk.call (z.w t).th k key x (1 - z.tog t) false) (m' := z.m) (st := z.steps + 1) (hs := z.hist ++ [⟨1, t, k, key, x, 0, 0, 0, z.steps + 1⟩]) (by omega) rfl (fun u hu hne => ⟨rfl, rfl⟩) (z.tog t) ?_ (fun h => absurd hd h) (LockOK.keep H.lk ⟨fun h => absurd h (Qu (d := 1) rfl (.inl (by decide))), fun h => absurd h (Qu hd (.inl (by decide)))⟩) (by omega) (fun h => absurd h (Qu (d := 1) rfl (.inl (by decide))))
 · rw [Qhk] at this; exact this
 · exact
     { th := T.th, d0 := by show (0 : Int) <= 1; decide, d21 := by show (1 : Int) <= 21; decide, tg01 := hg, one := T.one, v0 := Int.le_refl 0, v1 := H.gl.v0, ii := fun _ => rfl
       se0 := ⟨by show (0 : Int) <= 0; decide, by show (0 : Int) < 16; decide⟩, se1 := ⟨by show (0 : Int) <= 0; decide, by show (0 : Int) < 18446744073709551616; decide⟩, se2 := ⟨by show (0 : Int) <= 0; decide, by show (0 : Int) <= 9223372036854775807; decide⟩
       idle := fun h => absurd h (by show ¬ (1 : Int) = 0; decide), op := fun _ => ho, tog := fun _ => rfl
       qr := fun _ h => absurd h (by show ¬ Qn g.Q.tog t = 1 - z.tog t; omega)
       uns := fun _ _ => i3.imp id (fun h => ⟨h, i1, i2⟩)
       sai := fun _ h => absurd h (by show ¬ false = true; decide)
       two := fun h => absurd h (by show ¬ (1 : Int) = 2; decide), s12 := fun _ => rfl, s3 := fun h => absurd h (by show ¬ (3 : Int) <= 1; decide)
       lk2 := fun h => absurd h (by show ¬ (19 : Int) <= 1; decide), lk3 := fun h => absurd h (by show ¬ (20 : Int) <= 1; decide), lk4 := fun h => absurd h (by show ¬ (21 : Int) <= 1; decide), rep := fun h => absurd h (by show ¬ (1 : Int) = 16; decide) }
theorem QnD (H : ShInv K z g) (ht : t < 4) (k key x : Int) : ShInv K (z.call t k key x) g := by
 unfold Sh.call
 split
 · rename_i h; exact Qkh H ht h.1 h.2
 · exact H
theorem HoldOK.mixS {h : Nat} {W : Nat -> Wk} {s s' : Sto} (O : HoldOK g h W s) (hn : s'.now = s.now) (hw : s'.want = s.want) (hg : ∀ i, s'.good i = s.good i \/ s'.good i = s.now i) (h0 : s.now 0 = g.V) : HoldOK g h W s' :=
 { ver := O.ver, low := O.low, mid := O.mid, i0 := O.i0, i5 := O.i5, i6 := O.i6, i7 := O.i7, nx := O.nx
   i8 := by rw [hn]; exact O.i8
   i9 := by rw [hn, hw]; exact O.i9
   i10 := by rw [hn, hw]; exact O.i10
   i11 := fun hd => by rw [hn]; exact ⟨(O.i11 hd).1, (O.i11 hd).2.mix (O.i11 hd).1 hg⟩
   told := O.told
   i13 := by rw [hw]; exact O.i13
   i14 := fun a b => by
     rcases hg 0 with h | h <;> rw [h]
     · exact O.i14 a b
     · exact h0 }
theorem QhC (s : Sto) (l i : Nat) : (s.evict l).good i = s.good i \/ (s.evict l).good i = s.now i := by
 show (bif decide (i / 8 = l) then s.now i else s.good i) = s.good i \/ (bif decide (i / 8 = l) then s.now i else s.good i) = s.now i
 cases decide (i / 8 = l)
 · exact .inl rfl
 · exact .inr rfl
theorem QlT (H : ShInv K z g) (l : Int) : ShInv K (z.evict l) g := by
 unfold Sh.evict
 split
 · have G := H.gl
   exact ⟨G.mix rfl (QhC z.s l.toNat) rfl rfl (Int.le_refl _) G.fl0 G.fl1 G.fe0 G.fe1, H.th, H.lk, H.mid, fun h hh hx => (H.ho h hh hx).mixS rfl rfl (QhC z.s l.toNat) G.now0⟩
 · exact H
theorem Qh1 {v : Int} : ∀ {a b : List Vd}, (∀ d ∈ a, d.ver <= v) -> (∀ d ∈ b, v < d.ver) -> upTo v (a ++ b) = a := by
 intro a b ha hb
 unfold upTo
 rw [List.reverse_append]
 have h1 : ∀ {c r : List Vd}, (∀ d ∈ c, v < d.ver) -> (∀ d ∈ r, d.ver <= v) -> (c ++ r).dropWhile (fun d => decide (v < d.ver)) = r := by
   intro c
   induction c with
   | nil =>
     intro r _ hr
     cases r with
     | nil => rfl
     | cons d r =>
       rw [List.nil_append, List.dropWhile_cons_of_neg]
       have := hr d List.mem_cons_self
       simp; omega
   | cons d c ih =>
     intro r hc hr
     rw [List.cons_append, List.dropWhile_cons_of_pos (by simpa using hc d List.mem_cons_self)]
     exact ih (fun x hx => hc x (List.mem_cons_of_mem _ hx)) hr
 rw [h1 (fun d hd => hb d (List.mem_reverse.1 hd)) (fun d hd => ha d (List.mem_reverse.1 hd)), List.reverse_reverse]
theorem land_mix (lands : Int) (s : Sto) (i : Nat) : Qr lands s i = s.good i \/ Qr lands s i = s.now i := by
 unfold Qr
 cases decide (i < 72) && decide (lands / 2 ^ (i / 8) % 2 = 1)
 · exact .inl rfl
 · exact .inr rfl
theorem Qep (H : ShInv K z g) (lands : Int) {V' : Int} {R' : Rec} {n' : Nat} (hl : Qr lands z.s 0 = V') (hn : n' <= z.deeds.length) (h0 : 0 <= V') (hv : g.dv <= V') (hvb : V' <= z.steps) (S : Sum K R' (z.deeds.take n')) (hver : R'.ver = V') (htop : ∀ d ∈ z.deeds.take n', d.ver <= V') (hlate : ∀ d ∈ z.deeds.drop n', V' < d.ver)
   (hN : HasRec z.s.now V' R') (hG : HasRec z.s.good V' R') (hb : ∀ u, u < 4 -> (z.w u).does = 0 -> Qn R'.tog u = z.tog u) (ho : ∀ u, u < 4 -> z.tog u = 1 -> R'.whn.getD u 0 ≠ 0) :
   ShInv K (z.crash lands) ⟨V', R', V', R', n'⟩ /\ (z.crash lands).deeds = z.deeds.take n' := by
 have G := H.gl
 have hd : (z.crash lands).deeds = z.deeds.take n' := by
   show upTo (Qr lands z.s 0) z.deeds = _
   rw [hl]
   have := Qh1 (v := V') htop hlate
   rw [List.take_append_drop] at this; exact this
 have hlen : (z.deeds.take n').length = n' := by rw [List.length_take]; omega
 have hR : HasRec (Qr lands z.s) V' R' := hG.mix hN (land_mix lands z.s)
 have hS : SlotsOK (Qr lands z.s) := G.rGood.mix G.rNow (land_mix lands z.s)
 have hnh : ∀ u, ¬ Xx ((z.w u).again) := fun u hh => by
   have h1 := hh.1
   have h2 := hh.2
   unfold Wk.again at h1 h2
   by_cases e : (z.w u).does = 0
   · rw [if_pos e] at h1; omega
   · rw [if_neg e] at h2; exact absurd h2 (by show ¬ (17 : Int) <= 15; decide)
 refine ⟨⟨?_, fun u hu => ?_, .inl ⟨?_, fun u _ => hnh u⟩, fun h => absurd h (by show ¬ V' = V' + 1; omega), fun u _ hh => absurd hh (hnh u)⟩, hd⟩
 · exact
     { k1 := G.k1, k6 := G.k6, v0 := h0, vd := .inl rfl, now0 := hl, good0 := .inl hl
       done := by show putF (fun _ => 0) 1 (Qr lands z.s 0) 1 = V'; rw [Xd]; exact hl
       same := fun _ => ⟨rfl, by rw [hd, hlen]⟩
       sumR := by rw [hd]; exact S
       verR := hver
       topR := by rw [hd]; exact htop
       nle := by rw [hd, hlen]; exact Nat.le_refl _
       sumQ := by rw [hd]; show Sum K R' (List.take n' _); rw [List.take_take, Nat.min_self]; exact S
       verQ := hver
       topQ := by rw [hd]; show ∀ d ∈ List.take n' (List.take n' z.deeds), _; rw [List.take_take, Nat.min_self]; exact htop
       lateQ := by rw [hd]; show ∀ d ∈ List.drop n' (List.take n' z.deeds), _; rw [List.drop_of_length_le (by rw [hlen]; exact Nat.le_refl _)]; intro d hd; cases hd
       nowR := hR, goodR := hR, nowQ := hR, goodQ := hR, rNow := hS, rGood := hS
       vb := by show V' <= z.steps + 1; omega
       cb := by rw [hd, hlen]; have := G.cb; show (n' : Int) <= 4 * (z.steps + 1); omega
       fl0 := G.fl0
       fl1 := by have := G.fl1; show z.s.fl <= z.steps + 1; omega
       fe0 := G.fe0
       fe1 := by have := G.fe1; show z.s.fe <= z.steps + 1; omega }
 · have T := H.th u hu
   show ThB _ u ((z.w u).again) (z.tog u) (putF (fun _ => 0) 1 (Qr lands z.s 0) (2 + 2 * u)) (putF (fun _ => 0) 1 (Qr lands z.s 0) (3 + 2 * u))
   rw [Qv _ _ (by omega), Qv _ _ (by omega)]
   unfold Wk.again
   by_cases e : (z.w u).does = 0
   · rw [if_pos e]
     exact
       { th := T.th, d0 := T.d0, d21 := T.d21, tg01 := T.tg01, one := ho u hu, v0 := T.v0, v1 := Int.le_trans T.v1 hv, ii := T.ii, se0 := T.se0, se1 := T.se1, se2 := T.se2
         idle := fun _ => ⟨hb u hu e, hb u hu e, .inl rfl⟩
         op := fun h => absurd e h, tog := fun h => absurd e h, qr := fun h => absurd e h, uns := fun h => absurd e h, sai := fun h => absurd e h
         two := by intros; omega
         s12 := by intros; omega
         s3 := by intros; omega
         lk2 := by intros; omega
         lk3 := by intros; omega
         lk4 := by intros; omega
         rep := by intros; omega }
   · rw [if_neg e]
     exact
       { th := T.th, d0 := by show (0 : Int) <= 17; decide, d21 := by show (17 : Int) <= 21; decide, tg01 := T.tg01, one := ho u hu, v0 := Int.le_refl 0, v1 := h0, ii := fun _ => rfl
         se0 := ⟨by show (0 : Int) <= 0; decide, by show (0 : Int) < 16; decide⟩, se1 := ⟨by show (0 : Int) <= 0; decide, by show (0 : Int) < 18446744073709551616; decide⟩, se2 := ⟨by show (0 : Int) <= 0; decide, by show (0 : Int) <= 9223372036854775807; decide⟩
         idle := fun h => absurd h (by show ¬ (17 : Int) = 0; decide), op := fun _ => T.op e, tog := fun _ => T.tog e, qr := fun _ h => h, uns := fun _ _ => .inl rfl
         sai := fun _ h => absurd h (by show ¬ false = true; decide)
         two := fun h => absurd h (by show ¬ (17 : Int) = 2; decide), s12 := fun _ => rfl, s3 := fun _ h => absurd h (by show ¬ (17 : Int) <= 16; decide)
         lk2 := fun h => absurd h (by show ¬ (19 : Int) <= 17; decide), lk3 := fun h => absurd h (by show ¬ (20 : Int) <= 17; decide), lk4 := fun h => absurd h (by show ¬ (21 : Int) <= 17; decide), rep := fun h => absurd h (by show ¬ (17 : Int) = 16; decide) }
 · show putF (fun _ => 0) 1 (Qr lands z.s 0) 0 = 0
   rw [Qv _ _ (by decide)]
theorem inv_crash (H : ShInv K z g) (lands : Int) :
   (Qr lands z.s 0 = g.V /\ ShInv K (z.crash lands) ⟨g.V, g.R, g.V, g.R, z.deeds.length⟩ /\ (z.crash lands).deeds = z.deeds) \/
   (Qr lands z.s 0 = g.dv /\ g.V = g.dv + 1 /\ z.s.good 0 = g.dv /\ ShInv K (z.crash lands) ⟨g.dv, g.Q, g.dv, g.Q, g.n⟩ /\ (z.crash lands).deeds = z.deeds.take g.n) := by
 have G := H.gl
 have h0 := G.v0
 have hvd := G.vd
 have hvb := G.vb
 by_cases e : Qr lands z.s 0 = g.V
 · refine .inl ⟨e, ?_⟩
   have := Qep H lands (V' := g.V) (R' := g.R) (n' := z.deeds.length) e (Nat.le_refl _) (by omega) (by omega) hvb (by rw [List.take_length]; exact G.sumR) G.verR (by rw [List.take_length]; exact G.topR) (by rw [List.drop_length]; intro d hd; cases hd) G.nowR G.goodR (fun u hu hd => ((H.th u hu).idle hd).1) (fun u hu h1 => by
     have h2 : Sum K g.R (z.deeds.take g.n ++ z.deeds.drop g.n) := by rw [List.take_append_drop]; exact G.sumR
     exact G.sumQ.whn_mono h2 hu ((H.th u hu).one h1))
   rw [List.take_length] at this; exact this
 · have h1 : Qr lands z.s 0 = g.dv /\ g.V = g.dv + 1 /\ z.s.good 0 = g.dv := by
     rcases land_mix lands z.s 0 with h | h
     · rcases G.good0 with h2 | h2
       · exact ⟨h.trans h2, by omega, h2⟩
       · exact absurd (h.trans h2) e
     · exact absurd (h.trans G.now0) e
   exact .inr ⟨h1.1, h1.2.1, h1.2.2, Qep H lands (V' := g.dv) (R' := g.Q) (n' := g.n) h1.1 G.nle h0 (Int.le_refl _) (by omega) G.sumQ G.verQ G.topQ (fun d hd => by have := G.lateQ d hd; omega) G.nowQ G.goodQ (fun u hu hd => ((H.th u hu).idle hd).2.1) (fun u hu h1 => (H.th u hu).one h1)⟩
def Gh.step (g : Gh) (z : Sh) (t : Nat) : Gh := if (z.w t).does = 11 then ⟨g.V + 1, bDo g.R (z.w t).asks, g.dv, g.Q, g.n⟩ else if (z.w t).does = 14 then ⟨g.V, g.R, g.V, g.R, z.deeds.length⟩ else g
theorem Qij (H : ShInv K z g) (ht : t < 4) (hs : z.steps < 100000000) (hn : (z.w t).does ≠ 0) : ShInv K (z.stepped t) (g.step z t) := by
 have T := H.th t ht
 have h0 := T.d0
 have h1 := T.d21
 unfold Gh.step
 by_cases e11 : (z.w t).does = 11
 · rw [if_pos e11]; exact Qkd H ht hs e11
 · rw [if_neg e11]
   by_cases e14 : (z.w t).does = 14
   · rw [if_pos e14]; exact Qkg H ht e14
   · rw [if_neg e14]
     rcases (show (z.w t).does = 1 \/ (z.w t).does = 2 \/ (z.w t).does = 3 \/ (z.w t).does = 4 \/ (z.w t).does = 5 \/ (z.w t).does = 6 \/ (z.w t).does = 7 \/ (z.w t).does = 8 \/ (z.w t).does = 9 \/ (z.w t).does = 10 \/ (z.w t).does = 12 \/ (z.w t).does = 13 \/ (z.w t).does = 15 \/ (z.w t).does = 16 \/ (z.w t).does = 17 \/ (z.w t).does = 18 \/ (z.w t).does = 19 \/ (z.w t).does = 20 \/ (z.w t).does = 21 by omega) with h | h | h | h | h | h | h | h | h | h | h | h | h | h | h | h | h | h | h
     · exact QnC H ht h
     · exact QnB H ht h
     · exact QnA H ht h
     · exact QlS H ht h
     · exact QlR H ht h
     · exact QlQ H ht hs h
     · exact QlP H ht hs h
     · exact QlO H ht hs h
     · exact QlN H ht h
     · exact Qke H ht h
     · exact Qkc H ht h
     · exact Qkb H ht h
     · exact Qkf H ht h
     · exact QlM H ht h
     · exact Qka H ht h
     · exact Qj9 H ht h
     · exact Qj8 H ht h
     · exact Qj7 H ht h
     · exact Qj6 H ht h
end
end
section
section
variable {K : Int} {z : Sh} {g : Gh} {t : Nat}
theorem Qnt (H : ShInv K z g) {u : Nat} (hu : u < 4) : 0 <= z.m (3 + 2 * u) /\ z.m (3 + 2 * u) <= 2 := by
 have T := H.th u hu
 have h1 := T.tg01
 by_cases hn : (z.w u).does = 0
 · obtain ⟨-, -, h | h⟩ := T.idle hn <;> omega
 · have h2 := T.tog hn
   cases hs : (z.w u).said
   · rcases T.uns hn hs with h | ⟨h, -⟩ <;> omega
   · have := (T.sai hn hs).1; omega
theorem rec_ok (H : ShInv K z g) (hs : z.steps < 100000000) : RecOK 1099511000000 g.R /\ g.R.ver < 1000000000 := by
 have h1 := H.gl.cb
 have h2 := H.gl.verR
 have h3 := H.gl.vb
 exact ⟨H.gl.sumR.ok.mono (by omega), by omega⟩
theorem Qjs (H : ShInv K z g) (ht : t < 4) (hs : z.steps < 100000000) (hn : (z.w t).does ≠ 0) : Qba (z.wst t) := by
 have T := H.th t ht
 have G := H.gl
 have hvb := G.vb
 have hvd := G.vd
 have hv0 := T.v0
 have hv1 := T.v1
 have hR := rec_ok H hs
 refine ⟨⟨T.d0, T.d21⟩, fun _ => ⟨T.op hn, ?_⟩, fun hd => ?_, fun hd => ?_, fun hd => ?_, fun hd => ?_⟩
 · have h1 := T.tog hn
   have h2 := T.tg01
   show (z.w t).tog = 0 \/ (z.w t).tog = 1
   omega
 · obtain ⟨d4, d7⟩ := hd
   have d4 : 4 <= (z.w t).does := d4
   have d7 : (z.w t).does <= 7 := d7
   have O := H.ho t ht ⟨d4, by omega⟩
   have hi := O.i0 (by omega)
   have hi32 : (z.w t).i < 32 := by
     rcases (show (z.w t).does = 4 \/ (z.w t).does = 5 \/ (z.w t).does = 6 \/ (z.w t).does = 7 by omega) with h | h | h | h
     · have := T.ii (by omega); omega
     · exact (O.i5 h).1
     · have := (O.i6 h).1; omega
     · have := (O.i7 h).1; omega
   refine ⟨hi, hi32, ⟨hv0, by show (z.w t).v < _; omega⟩, fun h6 => ?_, fun h7 => ?_⟩
   · obtain ⟨a, b, c⟩ := O.i6 h6
     have h26 : (z.w t).r 26 = g.R.tog := (b 26 (by decide)).trans (Qcb G.sumR.ok)
     refine ⟨a, ?_, Qnt H (by show (z.w t).i.toNat < 4; omega), c.okA H, by have := c.len; show (z.w t).asks.length <= 4; omega, g.R, hR.1, hR.2, QeW G.sumR.ok b⟩
     show 0 <= (z.w t).r 26 /\ (z.w t).r 26 < 16
     rw [h26]; exact ⟨G.sumR.ok.g0, G.sumR.ok.g1⟩
   · obtain ⟨a, b, l, hl, hG, w1, w2, w3⟩ := O.i7 h7
     have hu : (z.w t).i.toNat < 4 := by omega
     have U := H.th _ hu
     have hop := QiT (U.op w1)
     have hmo := (U.sai w1 w2).2
     refine ⟨a, ?_, ⟨l, _, hl⟩, ?_, ?_, g.R, hR.1, hR.2, QeW G.sumR.ok b⟩
     · show 0 <= z.m (2 + 2 * (z.w t).i.toNat) /\ z.m (2 + 2 * (z.w t).i.toNat) < 18446744073709551616
       rw [hmo]; exact hop.2.2.2
     · show AsksOK (Xq (z.w t).asks (z.m (2 + 2 * (z.w t).i.toNat) / 281474976710656 % 65536) (z.m (2 + 2 * (z.w t).i.toNat) / 4294967296 % 65536) (z.m (2 + 2 * (z.w t).i.toNat) % 4294967296))
       rw [hl, Qbr, hmo, hop.1, hop.2.1, hop.2.2.1]
       intro x hx
       rcases List.mem_append.1 hx with hx | hx
       · exact hG.okA H x hx
       · obtain rfl := List.mem_singleton.1 hx
         refine ⟨hu, ?_, U.op w1⟩
         have h1 := U.tog w1
         have h2 := U.tg01
         show (z.w (z.w t).i.toNat).tog = 0 \/ (z.w (z.w t).i.toNat).tog = 1
         omega
     · show (Xq (z.w t).asks _ _ _).length <= 4
       rw [hl, Qbr, List.length_append]
       have := hG.len
       show l.length + 1 <= 4
       omega
 · obtain ⟨d8, d13⟩ := hd
   have d8 : 8 <= (z.w t).does := d8
   have d13 : (z.w t).does <= 13 := d13
   have O := H.ho t ht ⟨by omega, by omega⟩
   have f0 := G.fl0
   have f1 := G.fl1
   have f2 := G.fe0
   have f3 := G.fe1
   refine ⟨⟨hv0, by show (z.w t).v < _; omega⟩, ?_, ⟨f0, by show z.s.fl < _; omega⟩, ⟨f2, by show z.s.fe < _; omega⟩⟩
   show 0 <= (z.w t).i /\ (z.w t).i < 32 /\ ((z.w t).does = 9 -> (z.w t).i < 4)
   by_cases h8 : (z.w t).does = 8
   · have := (O.i8 h8).1
     have := O.i0 (by omega)
     omega
   · by_cases h9 : (z.w t).does = 9
     · have := (O.i9 h9).1
       have := O.i0 (by omega)
       omega
     · have := T.ii (by omega)
       omega
 · exact ⟨hv0, by show (z.w t).v < _; omega⟩
 · refine ⟨⟨hv0, by show (z.w t).v < _; omega⟩, T.se0, T.se2, T.se1, fun h21 hc => ?_⟩
   have h21 : (z.w t).does = 21 := h21
   obtain ⟨c1, c2⟩ := hc
   have c1 : z.m 1 = (z.w t).v := c1
   have c2 : Qn ((z.w t).seen 0) (z.w t).th = (z.w t).tog := c2
   have hv : (z.w t).v = g.dv := by rw [<- c1]; exact G.done
   rw [T.th, T.lk2 (by omega) hv] at c2
   obtain ⟨c, v, hA, ha, -⟩ := H.toldQ ht hn c2
   show Xa ((z.w t).seen 1 / 4294967296 % 4294967296) ((z.w t).seen 1 % 4294967296) = true
   have hc := Qgc hA
   rw [T.lk3 (by omega) hv, ha, hc.1, hc.2.1]
   exact (QbQ _ _).2 hA
end
end
section
def IsR {α : Type} (n : Nat) (f : α -> Nat -> Int) (d : α) (z : Nat -> Nat -> Int) (l : List α) : Prop := ∀ i, i < l.length -> ∀ j, j < n -> z i j = f (l.getD i d) j
theorem IsR.sub {α : Type} {n : Nat} {f : α -> Nat -> Int} {d : α} {z z' : Nat -> Nat -> Int} {l : List α} (h : IsR n f d z l) (e : ∀ i, i < l.length -> ∀ j, j < n -> z' i j = z i j) : IsR n f d z' l :=
 fun i hi j hj => (e i hi j hj).trans (h i hi j hj)
theorem IsR.snoc {α : Type} {n : Nat} {f : α -> Nat -> Int} {d : α} {z z' : Nat -> Nat -> Int} {l : List α} {a : α} (h : IsR n f d z l) (e : ∀ i, i < l.length -> ∀ j, j < n -> z' i j = z i j) (e2 : ∀ j, j < n -> z' l.length j = f a j) : IsR n f d z' (l ++ [a]) := fun i hi j hj => by
 rcases getD_snoc (d := d) hi with ⟨h1, h2⟩ | ⟨rfl, h2⟩
 · rw [h2]; exact h.sub e i h1 j hj
 · rw [h2]; exact e2 j hj
theorem IsR.nil {α : Type} (n : Nat) (f : α -> Nat -> Int) (d : α) (z : Nat -> Nat -> Int) : IsR n f d z [] := fun i hi => absurd hi (Nat.not_lt_zero _)
theorem IsR.take {α : Type} {n : Nat} {f : α -> Nat -> Int} {d : α} {z : Nat -> Nat -> Int} {l : List α} (h : IsR n f d z l) (k : Nat) : IsR n f d z (l.take k) := fun i hi j hj => by
 rw [List.length_take] at hi
 rw [h i (by omega) j hj]
 congr 1
 simp only [List.getD_eq_getElem?_getD, List.getElem?_take]
 rw [if_pos (by omega)]
theorem IsR.eq {α : Type} {n : Nat} {f : α -> Nat -> Int} {d : α} {z z' : Nat -> Nat -> Int} {l : List α} (h : IsR n f d z l) (h' : IsR n f d z' l) : ∀ i, i < l.length -> ∀ j, j < n -> z i j = z' i j := fun i hi j hj => (h i hi j hj).trans (h' i hi j hj).symm
def Ev.at (e : Ev) : Nat -> Int
 | 0 => e.kind
 | 1 => e.t
 | 2 => e.k
 | 3 => e.key
 | 4 => e.x
 | 5 => e.c
 | 6 => e.v
 | 7 => e.whn
 | _ => e.step
def Dd.at (e : Dd) : Nat -> Int
 | 0 => e.t
 | 1 => e.k
 | 2 => e.key
 | 3 => e.x
 | 4 => e.c
 | _ => e.v
def Vd.at (e : Vd) : Nat -> Int
 | 0 => e.ver
 | j + 1 => e.d.at j
abbrev IsE := IsR 9 Ev.at Ev.nil
abbrev IsV := IsR 7 Vd.at Vd.nil
theorem IsD.rows {z : Nat -> Nat -> Int} {l : List Dd} (h : IsD z l) : IsR 6 Dd.at Dd.nil z l := fun i hi j hj => by
 obtain ⟨a0, a1, a2, a3, a4, a5⟩ := h i hi
 rcases (show j = 0 \/ j = 1 \/ j = 2 \/ j = 3 \/ j = 4 \/ j = 5 by omega) with rfl | rfl | rfl | rfl | rfl | rfl
 · exact a0
 · exact a1
 · exact a2
 · exact a3
 · exact a4
 · exact a5
structure WkR where
 ma : Nat
 ca : Nat
 na : Bool
 za : Nat -> Nat -> Int
 md : Nat
 cd : Nat
 nd : Bool
 zd : Nat -> Nat -> Int
structure ShS where
 z : Sh
 r : Nat -> WkR
 mh : Nat
 ch : Nat
 nh : Bool
 zh : Nat -> Nat -> Int
 mv : Nat
 cv : Nat
 nv : Bool
 zv : Nat -> Nat -> Int
end
section
open Go.RowKit
def En.feetL : En -> List Nat
 | .blk b _ _ => [b]
 | .row b _ _ _ c _ => bif c.beq 0 then [] else [b]
 | .obj b _ => [b]
 | .abs _ _ F => F
theorem En.feetL_iff (e : En) (g : Nat) : g ∈ e.feetL ↔ e.foot g := by
 cases e with
 | blk b C t => exact List.mem_singleton.trans eq_comm
 | row b t sz n c xs =>
   show g ∈ (bif c.beq 0 then [] else [b]) ↔ 0 < c /\ b = g
   cases h : c.beq 0
   · have : c ≠ 0 := fun e => by subst e; exact absurd h (by decide)
     rw [cond_false, List.mem_singleton]
     exact ⟨fun h => ⟨by omega, h.symm⟩, fun h => h.2.symm⟩
   · have := Nat.eq_of_beq_eq_true h
     rw [cond_true]
     exact ⟨fun h => (by cases h), fun h => by omega⟩
 | obj b o => exact List.mem_singleton.trans eq_comm
 | abs b A F => exact Iff.rfl
def feetL (L : List En) : List Nat := L.flatMap En.feetL
theorem feetL_iff (L : List En) (g : Nat) : g ∈ feetL L ↔ feet L g := by
 unfold feetL feet
 rw [List.mem_flatMap]
 exact ⟨fun ⟨e, h1, h2⟩ => ⟨e, h1, (e.feetL_iff g).1 h2⟩, fun ⟨e, h1, h2⟩ => ⟨e, h1, (e.feetL_iff g).2 h2⟩⟩
def Qz {X Y : Type} (L : X -> List SB) (y : X -> Y) (good : X -> Prop) (z : Y) : Abs where
 hold b F w := ∃ x ρ, y x = z /\ good x /\ ρ 0 = b /\ Mem w (feet (denM ρ 0 (L x))) (denM ρ 0 (L x)) w /\ ∀ g, feet (denM ρ 0 (L x)) g ↔ g ∈ F
 lt := fun b F w ⟨x, ρ, _, _, _, HM, hF⟩ g hg => by
   obtain ⟨e, he, hf⟩ := (hF g).2 hg
   exact (HM.holds e he).lt hf
 keep := fun b F w w' ⟨x, ρ, h1, h2, h3, HM, hF⟩ hs hh => ⟨x, ρ, h1, h2, h3, ⟨Kept.refl _ _, fun e he => (HM.holds e he).keeps hs (fun g hg => hh g ((hF g).1 ⟨e, he, hg⟩)), fun e he g hg => .inl ⟨e, he, hg⟩, HM.dist⟩, hF⟩
structure TCon (Y α χ : Type) where
 pre : Y -> α -> Prop
 args : α -> List SA
 ok : Y -> α -> χ -> Prop
 next : Y -> α -> χ -> Y
 val : Nat -> Y -> α -> χ -> SV
 new : Nat -> Y -> α -> χ -> List SB
 len : Nat
def TCon.low {X Y α χ : Type} (c : TCon Y α χ) (L : X -> List SB) (y : X -> Y) (good : X -> Prop) (n k : Nat) (find : List SA -> List SB -> Option (List Nat)) : MCon where
 σ := X × α
 χ := X × χ
 pre s := good s.1 /\ c.pre (y s.1) s.2
 args s := .c (.p 0 0) :: c.args s.2
 mem s := L s.1
 ok s r := good r.1 /\ y r.1 = c.next (y s.1) s.2 r.2 /\ c.ok (y s.1) s.2 r.2
 val s r := c.val n (y s.1) s.2 r.2
 mem' s r := L r.1 ++ c.new n (y s.1) s.2 r.2
 k := k
 len := n + c.len
 det := none
 find := find
def TCon.high {X Y α χ : Type} (c : TCon Y α χ) (L : X -> List SB) (y : X -> Y) (good : X -> Prop) : MCon where
 σ := Y × α × List Nat
 χ := List Nat × χ
 pre s := c.pre s.1 s.2.1
 args s := .c (.p 0 0) :: c.args s.2.1
 mem s := [.abs (Qz L y good s.1) s.2.2]
 ok s r := c.ok s.1 s.2.1 r.2
 val s r := c.val 1 s.1 s.2.1 r.2
 mem' s r := .abs (Qz L y good (c.next s.1 s.2.1 r.2)) r.1 :: c.new 1 s.1 s.2.1 r.2
 k := 1
 len := 1 + c.len
 det := none
 find := fun args _ => some (blkA args)
theorem TCon.lift {X Y α χ : Type} (c : TCon Y α χ) {L : X -> List SB} {y : X -> Y} {good : X -> Prop} {n k : Nat} {find : List SA -> List SB -> Option (List Nat)} {P : Program} {f : FuncId} {w0 : World} {S : Nat -> Prop}
   (h : (Con.mem (c.low L y good n k find)).holdsAt P w0 S f) (hk : 0 < k) (hn : ∀ x, good x -> (L x).length = n) (ha : ∀ a, QaI (sc 1) (c.args a) = true)
   (hv : ∀ z a r, good z -> ∀ ρ ρ' : Nat -> Nat, (∀ i, ρ' (1 + i) = ρ (n + i)) -> ρ' 0 = ρ 0 -> (c.val 1 (y z) a r).den ρ' = (c.val n (y z) a r).den ρ /\ denM ρ' 1 (c.new 1 (y z) a r) = denM ρ n (c.new n (y z) a r) /\ (c.new n (y z) a r).length = c.len /\ (c.new 1 (y z) a r).length = c.len) :
   (Con.mem (c.high L y good)).holdsAt P w0 S f := by
 refine ⟨h.1, fun x0 h => (by cases h), fun ρ s w hp hK HM => ?_⟩
 obtain ⟨z, a, F⟩ := s
 have hA := HM.holds (.abs (ρ 0) (Qz L y good z) F) (List.mem_singleton.2 rfl)
 obtain ⟨x, ρ1, rfl, hg, hρ, HM1, hF⟩ := hA
 have harg : (SA.c (.p 0 0) :: c.args a).map (SA.den ρ) = (SA.c (.p 0 0) :: c.args a).map (SA.den ρ1) := by
   refine List.map_congr_left fun v hv => ?_
   have hav : v.av (sc 1) = true := by
     rcases List.mem_cons.1 hv with rfl | hv
     · rfl
     · exact Qbe (ha a) v hv
   exact SA.av_den (fun i hi => by have := Xv hi; obtain rfl : i = 0 := (by omega); exact hρ.symm) hav
 have hfe : ∀ g, feet (denM ρ 0 [.abs (Qz L y good (y x)) F]) g ↔ feet (denM ρ1 0 (L x)) g := fun g => by
   rw [hF g]
   exact ⟨fun ⟨e, he, hf⟩ => by obtain rfl := List.mem_singleton.1 he; exact hf, fun hg => ⟨_, List.mem_singleton.2 rfl, hg⟩⟩
 have := h.2.2 ρ1 (x, a) w ⟨hg, hp⟩ hK HM1
 show Calls P f ((SA.c (.p 0 0) :: c.args a).map (SA.den ρ)).toArray w _
 rw [harg]
 refine this.mono ?_
 rintro e w' ⟨⟨x', r⟩, ρ', ⟨hg', hy', hok⟩, hag, hlen, rfl, HM'⟩
 have HM' : Mem w (feet (denM ρ1 0 (L x))) (denM ρ' 0 (L x' ++ c.new n (y x) a r)) w' := HM'
 have hl' := hn x' hg'
 rw [QeQ, hl', Nat.zero_add] at HM'
 obtain ⟨hv1, hv2, hv3, hv4⟩ := hv x a r hg ρ' (fun i => if i = 0 then ρ' 0 else ρ' (n + (i - 1))) (fun i => by rw [if_neg (by omega), show 1 + i - 1 = i by omega]) rfl
 refine ⟨(feetL (denM ρ' 0 (L x')), r), fun i => if i = 0 then ρ' 0 else ρ' (n + (i - 1)), hok, fun i hi => ?_, ?_, ?_, ?_⟩
 · have hi : i < 1 := hi
   obtain rfl : i = 0 := by omega
   show (if 0 = 0 then ρ' 0 else ρ' (n + (0 - 1))) = ρ 0
   rw [if_pos rfl, hag 0 hk]; exact hρ
 · show (c.new 1 (y x) a r).length + 1 = 1 + c.len
   omega
 · show Ending.returned ((c.val n (y x) a r).den ρ') = Ending.returned ((c.val 1 (y x) a r).den (fun i => if i = 0 then ρ' 0 else ρ' (n + (i - 1))))
   rw [hv1]
 · show Mem w _ (denM _ 0 (.abs (Qz L y good (c.next (y x) a r)) (feetL (denM ρ' 0 (L x'))) :: c.new 1 (y x) a r)) w'
   show Mem w _ ([En.abs (if 0 = 0 then ρ' 0 else ρ' (n + (0 - 1))) (Qz L y good (c.next (y x) a r)) (feetL (denM ρ' 0 (L x')))] ++ denM _ 1 (c.new 1 (y x) a r)) w'
   rw [if_pos rfl, hv2]
   have hd := List.pairwise_append.1 HM'.dist
   refine (Mem.subset (S := feet (denM ρ1 0 (L x))) ⟨HM'.kept, fun e he => ?_, fun e he g hg => ?_, List.pairwise_append.2 ⟨List.pairwise_singleton _ _, hd.2.1, fun e he f hf g hg hfg => ?_⟩⟩ (fun g hg => (hfe g).2 hg))
   · rcases List.mem_append.1 he with he | he
     · obtain rfl := List.mem_singleton.1 he
       refine ⟨x', ρ', hy', hg', rfl, ⟨Kept.refl _ _, fun e he => HM'.holds e (List.mem_append_left _ he), fun e he g hg => .inl ⟨e, he, hg⟩, hd.1⟩, fun g => (feetL_iff _ g).symm⟩
     · exact HM'.holds e (List.mem_append_right _ he)
   · rcases List.mem_append.1 he with he | he
     · obtain rfl := List.mem_singleton.1 he
       obtain ⟨e', he', hf'⟩ := (feetL_iff _ g).1 hg
       exact HM'.own e' (List.mem_append_left _ he') g hf'
     · exact HM'.own e (List.mem_append_right _ he) g hg
   · obtain rfl := List.mem_singleton.1 he
     obtain ⟨e', he', hf'⟩ := (feetL_iff _ g).1 hg
     exact hd.2.2 e' he' f hf g hf' hfg
abbrev wkS (w : Wk) (r : WkR) : WkS := ⟨w, r.ma, r.ca, r.na, r.za, r.md, r.cd, r.nd, r.zd⟩
abbrev evB (m c : Nat) (z : Nat -> Nat -> Int) : SB := .rows 72 [.int .i64, .int .i64, .int .i64, .int .i64, .int .i64, .int .i64, .int .i64, .int .i64, .int .i64] 9 m c z
abbrev vdB (m c : Nat) (z : Nat -> Nat -> Int) : SB := .rows 138 [.int .u64, .int .i64, .int .i64, .int .i64, .int .i64, .int .i64, .int .i64] 7 m c z
abbrev shC (tog : Nat -> Int) (steps : Int) (nh ch : Nat) (hn : Bool) (nv cv : Nat) (vn : Bool) : SB := .cells [.one (.p 1 0), .one (.p 2 0), .one (.p 3 0), .one (.p 4 0), .one (.p 5 0), .one (.p 6 0), .ints (.int .i64) 4 tog, .one (.v (.int .i64 steps)), .one (.so 15 0 9 nh ch hn), .one (.so 16 0 7 nv cv vn)] 134
abbrev shX (m : Nat -> Int) (t : Sto) (w : Nat -> Wk) (tog : Nat -> Int) (steps : Int) (r : Nat -> WkR) (lh mh ch : Nat) (nh : Bool) (zh : Nat -> Nat -> Int) (lv mv cv : Nat) (nv : Bool) (zv : Nat -> Nat -> Int) : List SB := [shC tog steps lh ch nh lv cv nv, ramB m, stoB t,
 wkC 7 8 (w 0) (r 0).ca (r 0).na (r 0).cd (r 0).nd, wkC 9 10 (w 1) (r 1).ca (r 1).na (r 1).cd (r 1).nd, wkC 11 12 (w 2) (r 2).ca (r 2).na (r 2).cd (r 2).nd, wkC 13 14 (w 3) (r 3).ca (r 3).na (r 3).cd (r 3).nd,
 wkA (r 0).ma (r 0).ca (r 0).za, wkD (r 0).md (r 0).cd (r 0).zd, wkA (r 1).ma (r 1).ca (r 1).za, wkD (r 1).md (r 1).cd (r 1).zd, wkA (r 2).ma (r 2).ca (r 2).za, wkD (r 2).md (r 2).cd (r 2).zd, wkA (r 3).ma (r 3).ca (r 3).za, wkD (r 3).md (r 3).cd (r 3).zd,
 evB mh ch zh, vdB mv cv zv]
def shM (s : ShS) : List SB := shX s.z.m s.z.s s.z.w s.z.tog s.z.steps s.r s.z.hist.length s.mh s.ch s.nh s.zh s.z.deeds.length s.mv s.cv s.nv s.zv
structure ShS.good (s : ShS) : Prop where
 w : ∀ t, t < 4 -> (wkS (s.z.w t) (s.r t)).good
 h1 : s.z.hist.length <= s.mh
 h2 : s.mh <= s.ch
 h : IsE s.zh s.z.hist
 v1 : s.z.deeds.length <= s.mv
 v2 : s.mv <= s.cv
 v : IsV s.zv s.z.deeds
def adB (M : List SB) (b : Nat) : List Nat := match getB M b with
 | .cells l _ => match segGet l 41, segGet l 42 with
   | some (.so x _ _ _ _ _), some (.so y _ _ _ _ _) => [x, y]
   | _, _ => []
 | _ => []
def shAt (M : List SB) (b : Nat) : List Nat := match getB M b with
 | .cells l _ => match segGet l 0, segGet l 1, segGet l 2, segGet l 3, segGet l 4, segGet l 5, segGet l 11, segGet l 12 with
   | some (.p m _), some (.p s _), some (.p w0 _), some (.p w1 _), some (.p w2 _), some (.p w3 _), some (.so h _ _ _ _ _), some (.so d _ _ _ _ _) => [b, m, s, w0, w1, w2, w3] ++ adB M w0 ++ adB M w1 ++ adB M w2 ++ adB M w3 ++ [h, d]
   | _, _, _, _, _, _, _, _ => []
 | _ => []
def Qcg : List SA -> List SB -> Option (List Nat) := fun args M => match blkA args with
 | b :: _ => some (shAt M b)
 | _ => none
theorem QoT {ρ : Nat -> Nat} {i x y : Nat} {a b : Wk} (h : a.sim b) {ca cd : Nat} {na nd : Bool} : denB ρ i (wkC x y a ca na cd nd) = denB ρ i (wkC x y b ca na cd nd) := by
 obtain ⟨h1, h2⟩ := h
 rw [<- h1]
 have hr : (List.range 32).map (fun i => mkV (.int .u64) (a.r i)) = (List.range 32).map (fun i => mkV (.int .u64) (b.r i)) := by
   refine List.map_congr_left fun j hj => ?_
   have hj := List.mem_range.1 hj
   rw [<- Q8 (f := a.r) hj, <- Q8 (f := b.r) hj, h2]
 simp only [denB, Qe, Seg.den]
 rw [hr]
theorem Qm3 {a b : Wk} (h : a.sim b) : a.asks = b.asks /\ a.deeds = b.deeds := by
 obtain ⟨h1, -⟩ := h
 rw [<- h1]; exact ⟨rfl, rfl⟩
structure QoI (s : WlS) : Prop where
 th : s.s.w.th < 4
 good : s.s.good
 pre : Qba s.z
structure RepOK (w : Wk) (x : WkR) : Prop where
 good : (wkS w x).good
def QdD : MCon where
 σ := WlS
 χ := WkR
 pre s := QoI s
 args s := [.c (.p 0 0), .c (.p 1 0), .c (.p 2 0)]
 mem s := wkM 3 4 s.s s.z
 ok s x := RepOK (Qg s.z).1.w x
 val s x := sv (.bool (Qg s.z).2)
 mem' s x := wkM 3 4 (wkS (Qg s.z).1.w x) (Qg s.z).1
 k := 3
 len := 5
 det := none
 find := Qcd
theorem Qdi : (Con.mem QdD).holds Tryz.prog 24 := by
 intro w0 S
 have h := Qm0 w0 S
 refine ⟨h.1, fun x0 h => (by cases h), fun ρ s w hp hk hm => (h.2.2 ρ s w ⟨hp.th, hp.good, hp.pre⟩ hk hm).mono ?_⟩
 rintro e w' ⟨x, ρ', ⟨hs, hg⟩, h1, h2, h3, h4⟩
 obtain ⟨w2, ma, ca, na, za, md, cd, nd, zd⟩ := x
 have hs : w2.sim (Qg s.z).1.w := hs
 refine ⟨⟨ma, ca, na, za, md, cd, nd, zd⟩, ρ', ⟨?_⟩, h1, rfl, h3, ?_⟩
 · have := Qm3 hs
   unfold WkS.good at hg
   show WkS.good _
   unfold WkS.good
   dsimp only at hg ⊢
   rw [<- this.1, <- this.2]; exact hg
 · have e : denM ρ' 0 (wkM 3 4 ⟨w2, ma, ca, na, za, md, cd, nd, zd⟩ ⟨w2, (Qg s.z).1.m, (Qg s.z).1.s⟩) = denM ρ' 0 (wkM 3 4 (wkS (Qg s.z).1.w ⟨ma, ca, na, za, md, cd, nd, zd⟩) (Qg s.z).1) := by
     unfold wkM
     simp only [denM]
     rw [QoT hs]
   show Mem w _ (denM ρ' 0 (wkM 3 4 (wkS (Qg s.z).1.w ⟨ma, ca, na, za, md, cd, nd, zd⟩) (Qg s.z).1)) w'
   rw [<- e]; exact h4
theorem XT {z : Sh} {r : Nat -> WkR} {t : Nat} {w : Wk} {x : WkR} (h : ∀ u, u < 4 -> (wkS (z.w u) (r u)).good) (hx : (wkS w x).good) : ∀ u, u < 4 -> (wkS (setF z.w t w u) (setF r t x u)).good := fun u hu => by
 by_cases e : u = t
 · subst e; rw [Ql, Ql]; exact hx
 · rw [Xl _ _ e, Xl _ _ e]; exact h u hu
theorem Qbq {m : Nat -> Int} {t : Sto} {w : Nat -> Wk} {tog : Nat -> Int} {steps : Int} {r : Nat -> WkR} {l : List Ev} {e : Ev} {D : List Vd} {mh ch : Nat} {nh : Bool} {zh : Nat -> Nat -> Int} {mv cv : Nat} {nv : Bool} {zv : Nat -> Nat -> Int} :
   shM ⟨⟨m, t, w, tog, steps, l ++ [e], D⟩, r, mh, ch, nh, zh, mv, cv, nv, zv⟩ = shX m t w tog steps r (l.length + 1) mh ch nh zh D.length mv cv nv zv := by
 unfold shM; rw [List.length_append]; rfl
abbrev wkR (x y : Nat) (w : Wk) (r : WkR) : SB := wkC x y w r.ca r.na r.cd r.nd
abbrev wkZ (x y : Nat) (w : Wk) : SB := wkC x y w 0 false 0 false
abbrev waR (r : WkR) : SB := wkA r.ma r.ca r.za
abbrev wdR (r : WkR) : SB := wkD r.md r.cd r.zd
abbrev wa0 : SB := wkA 0 0 fun _ _ => 0
abbrev wd0 : SB := wkD 0 0 fun _ _ => 0
abbrev shD (tog : Nat -> Int) (st : Int) (a lh ch : Nat) (hn : Bool) (b nv cv : Nat) (vn : Bool) : SB := .cells [.one (.p 1 0), .one (.p 2 0), .one (.p 3 0), .one (.p 4 0), .one (.p 5 0), .one (.p 6 0), .ints (.int .i64) 4 tog, .one (.v (.int .i64 st)), .one (.so a 0 9 lh ch hn), .one (.so b 0 7 nv cv vn)] 134
abbrev shZ (tog : Nat -> Int) (st : Int) (lh ch : Nat) (hn : Bool) (nv cv : Nat) (vn : Bool) (m : Nat -> Int) (s : Sto) (w0 : Wk) (r0 : WkR) (w1 : Wk) (r1 : WkR) (w2 : Wk) (r2 : WkR) (w3 : Wk) (r3 : WkR) (mh c : Nat) (zh : Nat -> Nat -> Int) (mv d : Nat) (zv : Nat -> Nat -> Int) : List SB := [shD tog st 15 lh ch hn 16 nv cv vn, ramB m, stoB s, wkR 7 8 w0 r0, wkR 9 10 w1 r1, wkR 11 12 w2 r2, wkR 13 14 w3 r3, waR r0, wdR r0, waR r1, wdR r1, waR r2, wdR r2, waR r3, wdR r3, evB mh c zh, vdB mv d zv]
abbrev shG (tog : Nat -> Int) (st : Int) (a lh ch : Nat) (hn : Bool) (b nv cv : Nat) (vn : Bool) (m : Nat -> Int) (s : Sto) (i0 j0 i1 j1 i2 j2 i3 j3 : Nat) (w : Nat -> Wk) (r : Nat -> WkR) (mh c : Nat) (zh : Nat -> Nat -> Int) (mv d : Nat) (zv : Nat -> Nat -> Int) (tl : List SB) : List SB := shD tog st a lh ch hn b nv cv vn :: ramB m :: stoB s :: wkR i0 j0 (w 0) (r 0) :: wkR i1 j1 (w 1) (r 1) :: wkR i2 j2 (w 2) (r 2) :: wkR i3 j3 (w 3) (r 3) :: waR (r 0) :: wdR (r 0) :: waR (r 1) :: wdR (r 1) :: waR (r 2) :: wdR (r 2) :: waR (r 3) :: wdR (r 3) :: evB mh c zh :: vdB mv d zv :: tl
abbrev stC (w : Nat -> Wk) (r : Nat -> WkR) : Nat -> SB := fun i => wkR (2 * i + 7) (2 * i + 8) (w i) (r i)
abbrev stA (r : Nat -> WkR) : Nat -> SB := fun i => waR (r i)
abbrev stD (r : Nat -> WkR) : Nat -> SB := fun i => wdR (r i)
abbrev shI (hd : SB) (m : Nat -> Int) (s : Sto) (C A D : Nat -> SB) (e f : SB) (tl : List SB) : List SB := hd :: ramB m :: stoB s :: C 0 :: C 1 :: C 2 :: C 3 :: A 0 :: D 0 :: A 1 :: D 1 :: A 2 :: D 2 :: A 3 :: D 3 :: e :: f :: tl
end
section
def Qca (z : Sh) (t : Nat) (i : Nat) : List Vd := z.deeds ++ ((Qg (z.wst t)).1.w.deeds.take i).map (Vd.mk ((Qg (z.wst t)).1.s.now 0))
theorem Qaf (z : Sh) (t : Nat) : Qca z t 0 = z.deeds := List.append_nil _
theorem Qag (z : Sh) (t : Nat) {i : Nat} (h : i < (Qg (z.wst t)).1.w.deeds.length) : Qca z t (i + 1) = Qca z t i ++ [⟨(Qg (z.wst t)).1.s.now 0, (Qg (z.wst t)).1.w.deeds.getD i Dd.nil⟩] := by
 unfold Qca
 rw [List.take_add_one, List.getElem?_eq_getElem h, Option.toList_some, List.map_append, List.append_assoc, List.getD_eq_getElem?_getD, List.getElem?_eq_getElem h]; rfl
theorem Qdz (z : Sh) (t : Nat) (i : Nat) : (Qca z t i).length <= z.deeds.length + i := by
 unfold Qca
 rw [List.length_append, List.length_map, List.length_take]; omega
def Qgi (z : Sh) (t : Nat) : Bool := !((z.w t).does == 0) && (Qg (z.wst t)).2
structure QkG (z : Sh) (l : Int) : Prop where
 st0 : 0 <= z.steps
 st1 : z.steps < 100000000
 h : z.hist.length <= 1000000000
 d : z.deeds.length <= 1000000000
 lu : U64 l
 v0 : 0 <= Qr l z.s 0
 v1 : Qr l z.s 0 < 1000000000
 vs : ∀ d ∈ z.deeds, 0 <= d.ver /\ d.ver < 18446744073709551616
structure stOK (z : Sh) (t : Nat) : Prop where
 st0 : 0 <= z.steps
 st1 : z.steps < 100000000
 h : z.hist.length <= 1000000000
 d : z.deeds.length <= 1000000000
 th : (z.w t).th = t
 dl : (z.w t).does = 11 -> (Qg (z.wst t)).1.w.deeds.length <= 1000000
section
variable {z : Sh} {t : Nat}
theorem Qcy (h : (z.w t).does = 0) : Qgi z t = false := by unfold Qgi; rw [show ((z.w t).does == 0) = true from beq_iff_eq.2 h]; rfl
theorem Qbp (h : (Qg (z.wst t)).2 = false) : Qgi z t = false := by unfold Qgi; rw [h, Bool.and_false]
theorem Qdk (h : (z.w t).does ≠ 0) (hb : (Qg (z.wst t)).2 = true) : Qgi z t = true := by unfold Qgi; rw [hb, show ((z.w t).does == 0) = false from beq_eq_false_iff_ne.2 h]; rfl
theorem Qdj (h : (z.w t).does = 11) : (Qg (z.wst t)).2 = false := by simp [Qg, Sh.wst, h]
theorem Qgg (h : (z.w t).does = 11) {i : Nat} (hi : i = (Qg (z.wst t)).1.w.deeds.length) : z.step t = { z with m := (Qg (z.wst t)).1.m, s := (Qg (z.wst t)).1.s, w := setF z.w t (Qg (z.wst t)).1.w, steps := z.steps + 1, deeds := Qca z t i } := by
 unfold Sh.step
 rw [if_neg (by omega)]
 have e : Qg (z.wst t) = ((Qg (z.wst t)).1, false) := by rw [<- Qdj h]
 rw [Qdh h e]
 unfold Qca Sh.counted Sh.moved
 rw [hi, List.take_length]
theorem Qgf (h : (z.w t).does ≠ 0) (h11 : (z.w t).does ≠ 11) (hb : (Qg (z.wst t)).2 = false) : z.step t = z.moved t (Qg (z.wst t)).1 := by
 unfold Sh.step
 rw [if_neg h]
 exact QE h11 (by rw [<- hb])
theorem QeF (h : (z.w t).does ≠ 0) (h11 : (z.w t).does ≠ 11) (hb : (Qg (z.wst t)).2 = true) : z.step t = (z.moved t (Qg (z.wst t)).1).answered t (Qg (z.wst t)).1.w := by
 unfold Sh.step
 rw [if_neg h]
 exact QcZ h11 (by rw [<- hb])
end
end
section
open Go.RowKit
def QJ (z : Sh) (t : Nat) : SV := .t [ansA (bif Qgi z t then (Qg (z.wst t)).1.w.oc else 0) (bif Qgi z t then (Qg (z.wst t)).1.w.ov else 0), .c (.v (.bool (Qgi z t))), .c (.v (bif (z.w t).does == 0 then .iface 108 (.int .i64 8) else .nilIface))]
def stU (t : Nat) : TCon Sh Unit Unit where
 pre z _ := stOK z t /\ ((z.w t).does ≠ 0 -> Qba (z.wst t))
 args _ := [.c (.v (.int .i64 t))]
 ok _ _ _ := True
 next z _ _ := z.step t
 val _ z _ _ := QJ z t
 new _ _ _ _ := []
 len := 0
abbrev QbK (t : Nat) : MCon := (stU t).low shM ShS.z ShS.good 17 7 Qcg
structure StpG (z : Sh) (t : Nat) where
 i : Nat
 ln : Nat
 x : WkR
 cc : Nat
 zc : Nat -> Nat -> Int
 n : Nat
 mv : Nat
 cv : Nat
 nv : Bool
 zv : Nat -> Nat -> Int
 hx : (wkS (Qg (z.wst t)).1.w x).good
 hl : ln = (Qg (z.wst t)).1.w.deeds.length
 hi : i <= (Qg (z.wst t)).1.w.deeds.length
 hc : IsR 6 Dd.at Dd.nil zc (Qg (z.wst t)).1.w.deeds
 hcc : ln <= cc
 hn : n = (Qca z t i).length
 h1 : n <= mv
 h2 : mv <= cv
 hv : IsV zv (Qca z t i)
def QhW (s : ShS) (t : Nat) : Ann where
 σ := StpG s.z t
 I g := ([(0, .o (.c (.p 0 0))), (1, sv (.int .i64 t)), (4, .o (.c (.p 17 0))), (7, .o (.c (.p (3 + t) 0))), (10, sv (.bool (Qg (s.z.wst t)).2)), (11, sv (.int .u64 ((Qg (s.z.wst t)).1.s.now 0))), (66, .o (.c (.so 18 0 6 g.ln g.cc false))), (67, sv (.int .i64 g.ln)), (68, sv (.int .i64 g.i))],
   shX (Qg (s.z.wst t)).1.m (Qg (s.z.wst t)).1.s (setF s.z.w t (Qg (s.z.wst t)).1.w) s.z.tog (s.z.steps + 1) (setF s.r t g.x) s.z.hist.length s.mh s.ch s.nh s.zh g.n g.mv g.cv g.nv g.zv ++ [.cells [.one (.v (.int .i64 0)), .one (.v (.int .i64 0))] 40, wkD g.ln g.cc g.zc])
 dec g := (Qg (s.z.wst t)).1.w.deeds.length - g.i
 pi env M := shAt M 0 ++ [blkE env 4, blkE env 66]
 nz := []
def Qem (n0 : Nat) (n1 : Nat) (n2 : Nat) (n3 : Nat) (z : Sh) (r : Nat -> WkR) (mh : Nat) (ch : Nat) (nh : Bool) (zh : Nat -> Nat -> Int) (mv : Nat) (cv : Nat) (nv : Bool) (zv : Nat -> Nat -> Int) : Prop := (iR (n0 : Int) (4 : Int)) /\ bif (Sh.w z n0).2 == (0 : Int) then endN (QbK n0) [] (fun (x : SV) (M : List SB) => shAt M 0) (ShS.mk z r mh ch nh zh mv cv nv zv, PUnit.unit) (SV.t [SA.a [sI 0, sI 0], aB false, SA.c (.v (.iface 108 (Value.int .i64 (8 : Int))))]) (shI (shD z.4 z.5 15 (List.length z.6) ch nh 16 (List.length z.7) cv nv) z.1 (Sh.s z) (stC (Sh.w z) r) (stA r) (stD r) (evB mh ch zh) (vdB mv cv zv) [SB.cells [sI 0, sI 0] 40]) else dP Tryz.f52 8 18 [⟨9, [], [n1, 1, 2, n2, n3, 18, 19], [], true⟩, ⟨8, [0], [], [2], false⟩, xF 7 0, xF 6 0, xF 5 0, ⟨4, [0], [], [1], false⟩, xF 3 0, xF 2 0, xF 1 0, xF 0 n1] /\ ∃ (s : WlS), [aP n1 0, aP 1 0, aP 2 0] = [aP n1 0, aP 1 0, aP 2 0] /\ [wkR n2 n3 (Sh.w z n0) (r n0), ramB z.1, stoB (Sh.s z), waR (r n0), wdR (r n0)] = [wkC n2 n3 (WkS.w (WlS.s s)) (WlS.s s).3 (WlS.s s).4 (WlS.s s).7 (WlS.s s).8, ramB s.2, stoB (WlS.t s), wkA (WlS.s s).2 (WlS.s s).3 (WlS.s s).5, wkD (WlS.s s).6 (WlS.s s).7 (WlS.s s).9] /\ QoI s /\ ∀ (x : WkR), RepOK (Prod.fst (Qg (WlS.z s))).1 x -> dP Tryz.f52 8 18 [xE 10, ⟨9, [], [n1, 1, 2, n2, n3, 18, 19], [18, 19], true⟩, ⟨8, [0], [], [2], false⟩, xF 7 0, xF 6 0, xF 5 0, ⟨4, [0], [], [1], false⟩, xF 3 0, xF 2 0, xF 1 0, xF 0 n1] /\ bif (Sh.w z n0).2 == (11 : Int) then ∃ (s_1 : Qt), [aP 2 0, aI 0] = [aP 2 0, aI s_1.2] /\ [stoB (WSt.s (Prod.fst (Qg (WlS.z s))))] = [stoB (Qt.s s_1)] /\ (iR s_1.2 (72 : Int)) /\ ∀ (x_1 : Unit), True -> (True /\ (0 + List.length (WSt.w (Prod.fst (Qg (WlS.z s)))).12 <= x.5 /\ x.6 = x.6) /\ 0 + List.length (WSt.w (Prod.fst (Qg (WlS.z s)))).12 <= 68719476736) /\ ∀ (c : Nat), 0 + List.length (WSt.w (Prod.fst (Qg (WlS.z s)))).12 <= c -> 0 + List.length (WSt.w (Prod.fst (Qg (WlS.z s)))).12 <= c /\ (∃ (s0 : Ann.σ (QhW (ShS.mk z r mh ch nh zh mv cv nv zv) n0)), (eS (aP 0 0) (aP 0 0) /\ eS (aI n0) (aI n0) /\ eS (aP 17 0) (aP 17 0) /\ eS (aP n1 0) (aP n1 0) /\ eS (aB (Qg (WlS.z s)).2) (aB (Qg (Sh.wst z n0)).2) /\ eS (aU ((Qt.s s_1).1 (Int.toNat s_1.2))) (aU ((WSt.s (Prod.fst (Qg (Sh.wst z n0)))).1 0)) /\ eS (SA.c (.so 20 0 6 (0 + List.length (WSt.w (Prod.fst (Qg (WlS.z s)))).12) c false)) (SA.c (.so 20 0 6 s0.2 s0.4 false)) /\ eS (aI (↑(0 + List.length (WSt.w (Prod.fst (Qg (WlS.z s)))).12) : Int)) (aI ↑s0.2) /\ eS (aI 0) (aI ↑s0.1) /\ True) /\ (shI (shD z.4 (IntKind.wrap .i64 (z.5 + (1 : Int))) 15 (List.length z.6) ch nh 16 (List.length z.7) cv nv) (Prod.fst (Qg (WlS.z s))).2 (Qt.s s_1) (setF (stC (Sh.w z) r) n0 (wkR 18 19 (WSt.w (Prod.fst (Qg (WlS.z s)))) x)) (setF (stA r) n0 (waR x)) (setF (stD r) n0 (wdR x)) (evB mh ch zh) (vdB mv cv zv) [SB.cells [sI 0, sI 0] 40, wkD (0 + List.length (WSt.w (Prod.fst (Qg (WlS.z s)))).12) c fun (i j : Nat) => x.8 (0 + i) j]) = (shI (shD z.4 (z.5 + (1 : Int)) 15 (List.length z.6) ch nh 16 s0.6 s0.8 s0.9) (Prod.fst (Qg (Sh.wst z n0))).2 (WSt.s (Prod.fst (Qg (Sh.wst z n0)))) (setF (stC (setF (Sh.w z) n0 (WSt.w (Prod.fst (Qg (Sh.wst z n0))))) (setF r n0 (StpG.x s0))) n0 (wkR 18 19 (setF (Sh.w z) n0 (WSt.w (Prod.fst (Qg (Sh.wst z n0)))) n0) (setF r n0 (StpG.x s0) n0))) (stA (setF r n0 (StpG.x s0))) (stD (setF r n0 (StpG.x s0))) (evB mh ch zh) (vdB s0.7 s0.8 s0.10) [SB.cells [sI 0, sI 0] 40, wkD s0.2 s0.4 s0.5])) /\ ∀ (s : StpG z n0), bif decide ((↑s.1 : Int) < (↑s.2 : Int)) then ((0 : Int) <= (↑s.1 : Int) /\ (↑s.1 : Int) < (↑s.2 : Int) /\ 0 + s.2 <= s.4) /\ 0 + Int.toNat (↑s.1 : Int) < s.2 /\ dP Tryz.f52 14 20 [⟨9, [20], [16, 21], [], true⟩, ⟨8, [], [20], [20], false⟩, xE 7, xR 6 19, xE 5, ⟨4, [0], [], [16], false⟩, xF 3 0, xF 2 0, xF 1 0, xF 0 0] /\ ((s.6 <= s.7 /\ s.8 = s.8) /\ (1 <= 1 /\ 1 = 1) /\ s.6 + 1 <= 68719476736) /\ ∀ (c : Nat), s.6 + 1 <= c -> dP Tryz.f52 14 20 [⟨12, [], [0], [1, 2, 3, 4, 5, 6, 15, 21], false⟩, xF 11 0, xF 10 0, ⟨9, [20], [16, 21], [21], true⟩, ⟨8, [], [20], [20], false⟩, xE 7, xR 6 19, xE 5, ⟨4, [0], [], [16], false⟩, xF 3 0, xF 2 0, xF 1 0, xF 0 0] /\ ∃ (s' : StpG z n0), ((eS (aP 0 0) (aP 0 0) /\ eS (aI n0) (aI n0) /\ eS (aP 17 0) (aP 17 0) /\ eS (aP n1 0) (aP n1 0) /\ eS (aB (Qg (Sh.wst z n0)).2) (aB (Qg (Sh.wst z n0)).2) /\ eS (aU ((WSt.s (Prod.fst (Qg (Sh.wst z n0)))).1 0)) (aU ((WSt.s (Prod.fst (Qg (Sh.wst z n0)))).1 0)) /\ eS (SA.c (.so 18 0 6 s.2 s.4 false)) (SA.c (.so 18 0 6 s'.2 s'.4 false)) /\ eS (aI ↑s.2) (aI ↑s'.2) /\ eS (aI (IntKind.wrap .i64 ((↑s.1 : Int) + (1 : Int)))) (aI ↑s'.1) /\ True) /\ (shI (shD z.4 (z.5 + (1 : Int)) 15 (List.length z.6) ch nh 21 (s.6 + 1) c s.9) (Prod.fst (Qg (Sh.wst z n0))).2 (WSt.s (Prod.fst (Qg (Sh.wst z n0)))) (stC (setF (Sh.w z) n0 (WSt.w (Prod.fst (Qg (Sh.wst z n0))))) (setF r n0 (StpG.x s))) (stA (setF r n0 (StpG.x s))) (stD (setF r n0 (StpG.x s))) (evB mh ch zh) (vdB (s.6 + 1) c fun (i j : Nat) => bif Nat.ble (i + 1) s.6 then s.10 i j else match List.get?Internal (match List.get?Internal [[(WSt.s (Prod.fst (Qg (Sh.wst z n0)))).1 0, s.5 (0 + Int.toNat (↑s.1 : Int)) 0, s.5 (0 + Int.toNat (↑s.1 : Int)) 1, s.5 (0 + Int.toNat (↑s.1 : Int)) 2, s.5 (0 + Int.toNat (↑s.1 : Int)) 3, s.5 (0 + Int.toNat (↑s.1 : Int)) 4, s.5 (0 + Int.toNat (↑s.1 : Int)) 5]] (0 + (i - s.6)) with | some x => x | none => []) j with | some x => x | none => (0 : Int)) [SB.cells [sI 0, sI 0] 40, wkD s.2 s.4 s.5]) = (shI (shD z.4 (z.5 + (1 : Int)) 15 (List.length z.6) ch nh 21 s'.6 s'.8 s'.9) (Prod.fst (Qg (Sh.wst z n0))).2 (WSt.s (Prod.fst (Qg (Sh.wst z n0)))) (stC (setF (Sh.w z) n0 (WSt.w (Prod.fst (Qg (Sh.wst z n0))))) (setF r n0 (StpG.x s'))) (stA (setF r n0 (StpG.x s'))) (stD (setF r n0 (StpG.x s'))) (evB mh ch zh) (vdB s'.7 s'.8 s'.10) [SB.cells [sI 0, sI 0] 40, wkD s'.2 s'.4 s'.5])) /\ List.length (WSt.w (Prod.fst (Qg (Sh.wst z n0)))).12 - s'.1 < List.length (WSt.w (Prod.fst (Qg (Sh.wst z n0)))).12 - s.1 else bif bif (Qg (Sh.wst z n0)).2 then false else true then endN (QbK n0) [] (fun (x : SV) (M : List SB) => shAt M 0) (ShS.mk z r mh ch nh zh mv cv nv zv, PUnit.unit) (SV.t [SA.a [sI 0, sI 0], aB false, SA.c (.v Value.nilIface)]) (shI (shD z.4 (z.5 + (1 : Int)) 15 (List.length z.6) ch nh 16 s.6 s.8 s.9) (Prod.fst (Qg (Sh.wst z n0))).2 (WSt.s (Prod.fst (Qg (Sh.wst z n0)))) (stC (setF (Sh.w z) n0 (WSt.w (Prod.fst (Qg (Sh.wst z n0))))) (setF r n0 (StpG.x s))) (stA (setF r n0 (StpG.x s))) (stD (setF r n0 (StpG.x s))) (evB mh ch zh) (vdB s.7 s.8 s.10) [SB.cells [sI 0, sI 0] 40, wkD s.2 s.4 s.5]) else dP Tryz.f25 1 20 [xE 9, ⟨8, [], [19], [], false⟩, xR 7 n1, xF 6 n1, xF 5 n1, xF 4 n1, xR 3 n1, xF 2 n1, xF 1 n1, xF 0 n1] /\ (iR (n0 : Int) (4 : Int)) /\ n0 < 4 /\ dP Tryz.f52 19 21 [⟨9, [], [0], [1, 2, 3, 4, 5, 6, 15, 16], false⟩, xF 8 0, xF 7 0, xF 6 0, xR 5 n1, xF 4 n1, xF 3 n1, xF 2 n1, xE 1, xF 0 0] /\ dP Tryz.f52 20 21 [⟨18, [21], [15, 22], [], true⟩, ⟨17, [], [21], [21], false⟩, xE 16, xR 15 0, xF 14 0, xF 13 0, xF 12 0, xE 11, xR 10 20, xR 9 n1, xF 8 n1, xF 7 n1, xF 6 n1, xE 5, ⟨4, [0], [], [15], false⟩, xF 3 0, xF 2 0, xF 1 0, xF 0 0] /\ ((List.length z.6 <= mh /\ ch = ch) /\ (1 <= 1 /\ 1 = 1) /\ List.length z.6 + 1 <= 68719476736) /\ ∀ (c : Nat), List.length z.6 + 1 <= c -> dP Tryz.f52 20 21 [⟨21, [], [0], [1, 2, 3, 4, 5, 6, 22, 16], false⟩, xF 20 0, xF 19 0, ⟨18, [21], [15, 22], [22], true⟩, ⟨17, [], [21], [21], false⟩, xE 16, xR 15 0, xF 14 0, xF 13 0, xF 12 0, xE 11, xR 10 20, xR 9 n1, xF 8 n1, xF 7 n1, xF 6 n1, xE 5, ⟨4, [0], [], [15], false⟩, xF 3 0, xF 2 0, xF 1 0, xF 0 0] /\ endN (QbK n0) [] (fun (x : SV) (M : List SB) => shAt M 0) (ShS.mk z r mh ch nh zh mv cv nv zv, PUnit.unit) (SV.t [SA.a [sI (setF (Sh.w z) n0 (WSt.w (Prod.fst (Qg (Sh.wst z n0)))) n0).14, sI (setF (Sh.w z) n0 (WSt.w (Prod.fst (Qg (Sh.wst z n0)))) n0).15], aB true, SA.c (.v Value.nilIface)]) (shI (shD (fun (i : Nat) => bif Nat.beq i n0 then (setF (Sh.w z) n0 (WSt.w (Prod.fst (Qg (Sh.wst z n0)))) n0).6 else z.4 i) (z.5 + (1 : Int)) 22 (List.length z.6 + 1) c nh 16 s.6 s.8 s.9) (Prod.fst (Qg (Sh.wst z n0))).2 (WSt.s (Prod.fst (Qg (Sh.wst z n0)))) (stC (setF (Sh.w z) n0 (WSt.w (Prod.fst (Qg (Sh.wst z n0))))) (setF r n0 (StpG.x s))) (stA (setF r n0 (StpG.x s))) (stD (setF r n0 (StpG.x s))) SB.gone (vdB s.7 s.8 s.10) [SB.cells [sI (setF (Sh.w z) n0 (WSt.w (Prod.fst (Qg (Sh.wst z n0)))) n0).14, sI (setF (Sh.w z) n0 (WSt.w (Prod.fst (Qg (Sh.wst z n0)))) n0).15] 40, wkD s.2 s.4 s.5, SB.cells [sI (setF (Sh.w z) n0 (WSt.w (Prod.fst (Qg (Sh.wst z n0)))) n0).14, sI (setF (Sh.w z) n0 (WSt.w (Prod.fst (Qg (Sh.wst z n0)))) n0).15] 40, SB.cells [sI (setF (Sh.w z) n0 (WSt.w (Prod.fst (Qg (Sh.wst z n0)))) n0).14, sI (setF (Sh.w z) n0 (WSt.w (Prod.fst (Qg (Sh.wst z n0)))) n0).15] 40, evB 1 1 fun (i j : Nat) => match List.get?Internal (match List.get?Internal [[(2 : Int), (n0 : Int), (setF (Sh.w z) n0 (WSt.w (Prod.fst (Qg (Sh.wst z n0)))) n0).3, (setF (Sh.w z) n0 (WSt.w (Prod.fst (Qg (Sh.wst z n0)))) n0).4, (setF (Sh.w z) n0 (WSt.w (Prod.fst (Qg (Sh.wst z n0)))) n0).5, (setF (Sh.w z) n0 (WSt.w (Prod.fst (Qg (Sh.wst z n0)))) n0).14, (setF (Sh.w z) n0 (WSt.w (Prod.fst (Qg (Sh.wst z n0)))) n0).15, (setF (Sh.w z) n0 (WSt.w (Prod.fst (Qg (Sh.wst z n0)))) n0).16, z.5 + (1 : Int)]] i with | some x => x | none => []) j with | some x => x | none => (0 : Int), evB (List.length z.6 + 1) c fun (i j : Nat) => bif Nat.ble (i + 1) (List.length z.6) then zh i j else match List.get?Internal (match List.get?Internal [[(2 : Int), (n0 : Int), (setF (Sh.w z) n0 (WSt.w (Prod.fst (Qg (Sh.wst z n0)))) n0).3, (setF (Sh.w z) n0 (WSt.w (Prod.fst (Qg (Sh.wst z n0)))) n0).4, (setF (Sh.w z) n0 (WSt.w (Prod.fst (Qg (Sh.wst z n0)))) n0).5, (setF (Sh.w z) n0 (WSt.w (Prod.fst (Qg (Sh.wst z n0)))) n0).14, (setF (Sh.w z) n0 (WSt.w (Prod.fst (Qg (Sh.wst z n0)))) n0).15, (setF (Sh.w z) n0 (WSt.w (Prod.fst (Qg (Sh.wst z n0)))) n0).16, z.5 + (1 : Int)]] (0 + (i - List.length z.6)) with | some x => x | none => []) j with | some x => x | none => (0 : Int)]) else bif bif (Qg (WlS.z s)).2 then false else true then endN (QbK n0) [] (fun (x : SV) (M : List SB) => shAt M 0) (ShS.mk z r mh ch nh zh mv cv nv zv, PUnit.unit) (SV.t [SA.a [sI 0, sI 0], aB false, SA.c (.v Value.nilIface)]) (shI (shD z.4 (IntKind.wrap .i64 (z.5 + (1 : Int))) 15 (List.length z.6) ch nh 16 (List.length z.7) cv nv) (Prod.fst (Qg (WlS.z s))).2 (WSt.s (Prod.fst (Qg (WlS.z s)))) (setF (stC (Sh.w z) r) n0 (wkR 18 19 (WSt.w (Prod.fst (Qg (WlS.z s)))) x)) (setF (stA r) n0 SB.gone) (setF (stD r) n0 SB.gone) (evB mh ch zh) (vdB mv cv zv) [SB.cells [sI 0, sI 0] 40, waR x, wdR x]) else dP Tryz.f25 1 21 [xE 9, ⟨8, [], [20], [], false⟩, xR 7 n1, xF 6 n1, xF 5 n1, xF 4 n1, xR 3 n1, xF 2 n1, xF 1 n1, xF 0 n1] /\ (iR (n0 : Int) (4 : Int)) /\ n0 < 4 /\ dP Tryz.f52 19 22 [⟨9, [], [0], [1, 2, 3, 4, 5, 6, 15, 16], false⟩, xF 8 0, xF 7 0, xF 6 0, xR 5 n1, xF 4 n1, xF 3 n1, xF 2 n1, xE 1, xF 0 0] /\ dP Tryz.f52 20 22 [⟨18, [22], [15, 23], [], true⟩, ⟨17, [], [22], [22], false⟩, xE 16, xR 15 0, xF 14 0, xF 13 0, xF 12 0, xE 11, xR 10 21, xR 9 n1, xF 8 n1, xF 7 n1, xF 6 n1, xE 5, ⟨4, [0], [], [15], false⟩, xF 3 0, xF 2 0, xF 1 0, xF 0 0] /\ ((List.length z.6 <= mh /\ ch = ch) /\ (1 <= 1 /\ 1 = 1) /\ List.length z.6 + 1 <= 68719476736) /\ ∀ (c : Nat), List.length z.6 + 1 <= c -> dP Tryz.f52 20 22 [⟨21, [], [0], [1, 2, 3, 4, 5, 6, 23, 16], false⟩, xF 20 0, xF 19 0, ⟨18, [22], [15, 23], [23], true⟩, ⟨17, [], [22], [22], false⟩, xE 16, xR 15 0, xF 14 0, xF 13 0, xF 12 0, xE 11, xR 10 21, xR 9 n1, xF 8 n1, xF 7 n1, xF 6 n1, xE 5, ⟨4, [0], [], [15], false⟩, xF 3 0, xF 2 0, xF 1 0, xF 0 0] /\ endN (QbK n0) [] (fun (x : SV) (M : List SB) => shAt M 0) (ShS.mk z r mh ch nh zh mv cv nv zv, PUnit.unit) (SV.t [SA.a [sI (WSt.w (Prod.fst (Qg (WlS.z s)))).14, sI (WSt.w (Prod.fst (Qg (WlS.z s)))).15], aB true, SA.c (.v Value.nilIface)]) (shI (shD (fun (i : Nat) => bif Nat.beq i n0 then (WSt.w (Prod.fst (Qg (WlS.z s)))).6 else z.4 i) (IntKind.wrap .i64 (z.5 + (1 : Int))) 23 (List.length z.6 + 1) c nh 16 (List.length z.7) cv nv) (Prod.fst (Qg (WlS.z s))).2 (WSt.s (Prod.fst (Qg (WlS.z s)))) (setF (stC (Sh.w z) r) n0 (wkR 18 19 (WSt.w (Prod.fst (Qg (WlS.z s)))) x)) (setF (stA r) n0 SB.gone) (setF (stD r) n0 SB.gone) SB.gone (vdB mv cv zv) [SB.cells [sI (WSt.w (Prod.fst (Qg (WlS.z s)))).14, sI (WSt.w (Prod.fst (Qg (WlS.z s)))).15] 40, waR x, wdR x, SB.cells [sI (WSt.w (Prod.fst (Qg (WlS.z s)))).14, sI (WSt.w (Prod.fst (Qg (WlS.z s)))).15] 40, SB.cells [sI (WSt.w (Prod.fst (Qg (WlS.z s)))).14, sI (WSt.w (Prod.fst (Qg (WlS.z s)))).15] 40, evB 1 1 fun (i j : Nat) => match List.get?Internal (match List.get?Internal [[(2 : Int), (n0 : Int), (WSt.w (Prod.fst (Qg (WlS.z s)))).3, (WSt.w (Prod.fst (Qg (WlS.z s)))).4, (WSt.w (Prod.fst (Qg (WlS.z s)))).5, (WSt.w (Prod.fst (Qg (WlS.z s)))).14, (WSt.w (Prod.fst (Qg (WlS.z s)))).15, (WSt.w (Prod.fst (Qg (WlS.z s)))).16, IntKind.wrap .i64 (z.5 + (1 : Int))]] i with | some x => x | none => []) j with | some x => x | none => (0 : Int), evB (List.length z.6 + 1) c fun (i j : Nat) => bif Nat.ble (i + 1) (List.length z.6) then zh i j else match List.get?Internal (match List.get?Internal [[(2 : Int), (n0 : Int), (WSt.w (Prod.fst (Qg (WlS.z s)))).3, (WSt.w (Prod.fst (Qg (WlS.z s)))).4, (WSt.w (Prod.fst (Qg (WlS.z s)))).5, (WSt.w (Prod.fst (Qg (WlS.z s)))).14, (WSt.w (Prod.fst (Qg (WlS.z s)))).15, (WSt.w (Prod.fst (Qg (WlS.z s)))).16, IntKind.wrap .i64 (z.5 + (1 : Int))]] (0 + (i - List.length z.6)) with | some x => x | none => []) j with | some x => x | none => (0 : Int)])
theorem QiF : (Con.mem (QbK 0)).holds Tryz.prog 52 := by
 intro w0 S
 refine Qb (Γ := [(77, .inl Tryz.f77 (Tryz.f77.body.getD .skip)), (24, .mem QdD), (26, .mem QI), (58, .inl Tryz.f58 (Tryz.f58.body.getD .skip)), (25, .inl Tryz.f25 (Tryz.f25.body.getD .skip))]) (fun _ => noW) Tryz.func52 rfl (by kernel_rfl) Qf Qc (fun w S' _ _ => .cons ⟨by kernel_rfl, rfl, rfl⟩ (.cons (Qdi w S') (.cons (QL w S') (.cons ⟨by kernel_rfl, rfl, rfl⟩ (.cons ⟨by kernel_rfl, rfl, rfl⟩ (.nil _ _ _)))))) (QbK 0) (fun s => [(52, [(0, QhW s.1 0)])]) (fun x0 h => by cases h) (fun s ρ w _ _ _ => Qh w _) [] (fun _ M => shAt M 0) 600 ?_
 rintro ⟨⟨z, r, mh, ch, nh, zh, mv, cv, nv, zv⟩, ⟨⟩⟩ W ⟨h0, h1, h2⟩ -
 refine ⟨rfl, ?_⟩
 dsimp only
 refine Qj (q := Qem 0 3 7 8 z r mh ch nh zh mv cv nv zv) (by kernel_rfl) ?_
 unfold Qem
 have h0 : (⟨z, r, mh, ch, nh, zh, mv, cv, nv, zv⟩ : ShS).good := h0
 have h1 : stOK z 0 := h1
 have h2 : (z.w 0).does ≠ 0 -> Qba (z.wst 0) := h2
 have hst0 := h1.st0
 have hst1 := h1.st1
 have hhl := h1.h
 have hdl := h1.d
 have es : IntKind.wrap .i64 (z.steps + 1) = z.steps + 1 := QC (by omega) (by omega)
 rw [es]
 refine ⟨⟨by decide, by decide⟩, Q7 (fun hd => ?_) (fun hd => ?_)⟩
 · have e0 : z.step 0 = z := if_pos hd
   refine Qi rfl ⟨⟨z, r, mh, ch, nh, zh, mv, cv, nv, zv⟩, ()⟩ ⟨h0, e0.symm, trivial⟩ rfl ?_ rfl
   show _ = (QJ z 0).ren _
   unfold QJ
   rw [Qcy hd, show ((z.w 0).does == 0) = true from beq_iff_eq.2 hd]; rfl
 · have hth : (z.w 0).th < 4 := by rw [h1.th]; decide
   refine ⟨Qd (by kernel_rfl), ⟨wkS (z.w 0) (r 0), z.m, z.s⟩, rfl, rfl, ⟨hth, h0.w 0 (by decide), h2 hd⟩, fun x hx => ⟨Qd (by kernel_rfl), ?_⟩⟩
   have hx : (wkS (Qg (z.wst 0)).1.w x).good := hx.good
   have hlen : (Qg (z.wst 0)).1.w.deeds.length <= x.md := hx.2.2.1.1
   have hgw := XT (t := 0) h0.w hx
   refine Q7 (fun h11 => ?_) (fun h11 => ?_)
   · have hdl2 := h1.dl h11
     have hL : 0 + (Qg (z.wst 0)).1.w.deeds.length = (Qg (z.wst 0)).1.w.deeds.length := Nat.zero_add _
     refine ⟨⟨(Qg (z.wst 0)).1.s, 0⟩, rfl, rfl, ⟨(by decide : (0 : Int) <= 0), (by decide : (0 : Int) < 72)⟩, fun _ _ => ⟨⟨trivial, ⟨Nat.le_trans (Nat.le_of_eq hL) hlen, rfl⟩, by show 0 + (Qg (z.wst 0)).1.w.deeds.length <= _; omega⟩, fun c hc => ⟨hc, ?_, ?_⟩⟩⟩
     · refine ⟨⟨0, 0 + (Qg (z.wst 0)).1.w.deeds.length, x, c, _, z.deeds.length, mv, cv, nv, zv, hx, hL, Nat.zero_le _, ?_, hc, by rw [Qaf], h0.v1, h0.v2, by rw [Qaf]; exact h0.v⟩, ⟨rfl, rfl, rfl, rfl, rfl, rfl, rfl, rfl, rfl, trivial⟩, rfl⟩
       exact (IsD.rows hx.2.2.2).sub (fun j hj k _ => by show x.zd (0 + j) k = x.zd j k; rw [Nat.zero_add])
     · rintro ⟨i, ln, x, cc, zc, n, mv, cv, nv, zv, hx, hl, hi, hzc, hcc, hn, hm, hmc, hzv⟩
       dsimp only at hx hl hi hzc hcc hn hm hmc hzv ⊢
       subst hl
       subst hn
       have hgw := XT (t := 0) h0.w hx
       have hlv := Qdz z 0 i
       refine Qp (fun hlt => ?_) (fun hge => ?_)
       · have hlt' : i < (Qg (z.wst 0)).1.w.deeds.length := by omega
         refine ⟨⟨by omega, by omega, by omega⟩, by omega, Qd (by kernel_rfl), ⟨⟨hm, rfl⟩, ⟨Nat.le_refl _, rfl⟩, by omega⟩, fun c hc => ⟨Qd (by kernel_rfl), ⟨i + 1, _, x, cc, zc, _, (Qca z 0 i).length + 1, c, nv, _, hx, rfl, hlt', hzc, hcc, ?_, Nat.le_refl _, hc, ?_⟩, ⟨⟨rfl, rfl, rfl, rfl, rfl, rfl, rfl, rfl, svI (sucI (by omega)), trivial⟩, rfl⟩, by dsimp only; omega⟩⟩
         · rw [Qag z 0 hlt', List.length_append]; rfl
         · rw [Qag z 0 hlt']
           refine hzv.snoc (fun j hj k _ => catT hj) (fun j hj => ?_)
           refine catF.trans ?_
           rw [Nat.sub_self, Int.toNat_natCast, Nat.zero_add]
           have hq := hzc i hlt'
           match j, hj with
           | 0, _ => rfl
           | 1, _ => exact hq 0 (by decide)
           | 2, _ => exact hq 1 (by decide)
           | 3, _ => exact hq 2 (by decide)
           | 4, _ => exact hq 3 (by decide)
           | 5, _ => exact hq 4 (by decide)
           | 6, _ => exact hq 5 (by decide)
       · have hil : i = (Qg (z.wst 0)).1.w.deeds.length := by omega
         refine Xu (fun hb => ?_) (fun hb => absurd hb (by rw [Qdj h11]; decide))
         refine Qi rfl ⟨⟨{ z with m := (Qg (z.wst 0)).1.m, s := (Qg (z.wst 0)).1.s, w := setF z.w 0 (Qg (z.wst 0)).1.w, steps := z.steps + 1, deeds := Qca z 0 i }, setF r 0 x, mh, ch, nh, zh, mv, cv, nv, zv⟩, ()⟩ ⟨⟨hgw, h0.h1, h0.h2, h0.h, hm, hmc, hzv⟩, (Qgg h11 hil).symm, trivial⟩ rfl ?_ rfl
         show _ = (QJ z 0).ren _
         unfold QJ
         rw [Qbp hb, show ((z.w 0).does == 0) = false from beq_eq_false_iff_ne.2 hd]; rfl
   · refine Xu (fun hb => ?_) (fun hb => ?_)
     · refine Qi rfl ⟨⟨z.moved 0 (Qg (z.wst 0)).1, setF r 0 x, mh, ch, nh, zh, mv, cv, nv, zv⟩, ()⟩ ⟨⟨hgw, h0.h1, h0.h2, h0.h, h0.v1, h0.v2, h0.v⟩, (Qgf hd h11 hb).symm, trivial⟩ rfl ?_ rfl
       show _ = (QJ z 0).ren _
       unfold QJ
       rw [Qbp hb, show ((z.w 0).does == 0) = false from beq_eq_false_iff_ne.2 hd]; rfl
     · refine ⟨Qd (by kernel_rfl), ⟨by decide, by decide⟩, by decide, Qd (by kernel_rfl), Qd (by kernel_rfl), ⟨⟨h0.h1, rfl⟩, ⟨Nat.le_refl _, rfl⟩, by omega⟩, fun c hc => ⟨Qd (by kernel_rfl), ?_⟩⟩
       refine' Qi rfl ⟨⟨(z.moved 0 (Qg (z.wst 0)).1).answered 0 (Qg (z.wst 0)).1.w, setF r 0 x, z.hist.length + 1, c, nh, _, mv, cv, nv, zv⟩, ()⟩ ?ok ?hc ?e1 ?e2
       case e2 =>
         show _ = (shM ⟨⟨_, _, _, _, _, z.hist ++ [_], _⟩, _, _, _, _, _, _, _, _, _⟩ ++ []).map _
         rw [Qbq]; rfl
       case hc => rfl
       case e1 =>
         show _ = (QJ z 0).ren _
         unfold QJ
         rw [Qdk hd hb, show ((z.w 0).does == 0) = false from beq_eq_false_iff_ne.2 hd]; rfl
       case ok =>
         refine ⟨⟨hgw, ?_, hc, ?_, h0.v1, h0.v2, h0.v⟩, (QeF hd h11 hb).symm, trivial⟩
         · show (z.hist ++ [_]).length <= _
           rw [List.length_append]; exact Nat.le_refl _
         · refine h0.h.snoc (fun j hj k _ => catT hj) (fun j hj => ?_)
           refine catF.trans ?_
           rw [Nat.sub_self]
           match j, hj with
           | 0, _ => rfl
           | 1, _ => rfl
           | 2, _ => rfl
           | 3, _ => rfl
           | 4, _ => rfl
           | 5, _ => rfl
           | 6, _ => rfl
           | 7, _ => rfl
           | 8, _ => rfl
theorem QmZ : (Con.mem (QbK 1)).holds Tryz.prog 52 := by
 intro w0 S
 refine Qb (Γ := [(77, .inl Tryz.f77 (Tryz.f77.body.getD .skip)), (24, .mem QdD), (26, .mem QI), (58, .inl Tryz.f58 (Tryz.f58.body.getD .skip)), (25, .inl Tryz.f25 (Tryz.f25.body.getD .skip))]) (fun _ => noW) Tryz.func52 rfl (by kernel_rfl) Qf Qc (fun w S' _ _ => .cons ⟨by kernel_rfl, rfl, rfl⟩ (.cons (Qdi w S') (.cons (QL w S') (.cons ⟨by kernel_rfl, rfl, rfl⟩ (.cons ⟨by kernel_rfl, rfl, rfl⟩ (.nil _ _ _)))))) (QbK 1) (fun s => [(52, [(0, QhW s.1 1)])]) (fun x0 h => by cases h) (fun s ρ w _ _ _ => Qh w _) [] (fun _ M => shAt M 0) 600 ?_
 rintro ⟨⟨z, r, mh, ch, nh, zh, mv, cv, nv, zv⟩, ⟨⟩⟩ W ⟨h0, h1, h2⟩ -
 refine ⟨rfl, ?_⟩
 dsimp only
 refine Qj (q := Qem 1 4 9 10 z r mh ch nh zh mv cv nv zv) (by kernel_rfl) ?_
 unfold Qem
 have h0 : (⟨z, r, mh, ch, nh, zh, mv, cv, nv, zv⟩ : ShS).good := h0
 have h1 : stOK z 1 := h1
 have h2 : (z.w 1).does ≠ 0 -> Qba (z.wst 1) := h2
 have hst0 := h1.st0
 have hst1 := h1.st1
 have hhl := h1.h
 have hdl := h1.d
 have es : IntKind.wrap .i64 (z.steps + 1) = z.steps + 1 := QC (by omega) (by omega)
 rw [es]
 refine ⟨⟨by decide, by decide⟩, Q7 (fun hd => ?_) (fun hd => ?_)⟩
 · have e0 : z.step 1 = z := if_pos hd
   refine Qi rfl ⟨⟨z, r, mh, ch, nh, zh, mv, cv, nv, zv⟩, ()⟩ ⟨h0, e0.symm, trivial⟩ rfl ?_ rfl
   show _ = (QJ z 1).ren _
   unfold QJ
   rw [Qcy hd, show ((z.w 1).does == 0) = true from beq_iff_eq.2 hd]; rfl
 · have hth : (z.w 1).th < 4 := by rw [h1.th]; decide
   refine ⟨Qd (by kernel_rfl), ⟨wkS (z.w 1) (r 1), z.m, z.s⟩, rfl, rfl, ⟨hth, h0.w 1 (by decide), h2 hd⟩, fun x hx => ⟨Qd (by kernel_rfl), ?_⟩⟩
   have hx : (wkS (Qg (z.wst 1)).1.w x).good := hx.good
   have hlen : (Qg (z.wst 1)).1.w.deeds.length <= x.md := hx.2.2.1.1
   have hgw := XT (t := 1) h0.w hx
   refine Q7 (fun h11 => ?_) (fun h11 => ?_)
   · have hdl2 := h1.dl h11
     have hL : 0 + (Qg (z.wst 1)).1.w.deeds.length = (Qg (z.wst 1)).1.w.deeds.length := Nat.zero_add _
     refine ⟨⟨(Qg (z.wst 1)).1.s, 0⟩, rfl, rfl, ⟨(by decide : (0 : Int) <= 0), (by decide : (0 : Int) < 72)⟩, fun _ _ => ⟨⟨trivial, ⟨Nat.le_trans (Nat.le_of_eq hL) hlen, rfl⟩, by show 0 + (Qg (z.wst 1)).1.w.deeds.length <= _; omega⟩, fun c hc => ⟨hc, ?_, ?_⟩⟩⟩
     · refine ⟨⟨0, 0 + (Qg (z.wst 1)).1.w.deeds.length, x, c, _, z.deeds.length, mv, cv, nv, zv, hx, hL, Nat.zero_le _, ?_, hc, by rw [Qaf], h0.v1, h0.v2, by rw [Qaf]; exact h0.v⟩, ⟨rfl, rfl, rfl, rfl, rfl, rfl, rfl, rfl, rfl, trivial⟩, rfl⟩
       exact (IsD.rows hx.2.2.2).sub (fun j hj k _ => by show x.zd (0 + j) k = x.zd j k; rw [Nat.zero_add])
     · rintro ⟨i, ln, x, cc, zc, n, mv, cv, nv, zv, hx, hl, hi, hzc, hcc, hn, hm, hmc, hzv⟩
       dsimp only at hx hl hi hzc hcc hn hm hmc hzv ⊢
       subst hl
       subst hn
       have hgw := XT (t := 1) h0.w hx
       have hlv := Qdz z 1 i
       refine Qp (fun hlt => ?_) (fun hge => ?_)
       · have hlt' : i < (Qg (z.wst 1)).1.w.deeds.length := by omega
         refine ⟨⟨by omega, by omega, by omega⟩, by omega, Qd (by kernel_rfl), ⟨⟨hm, rfl⟩, ⟨Nat.le_refl _, rfl⟩, by omega⟩, fun c hc => ⟨Qd (by kernel_rfl), ⟨i + 1, _, x, cc, zc, _, (Qca z 1 i).length + 1, c, nv, _, hx, rfl, hlt', hzc, hcc, ?_, Nat.le_refl _, hc, ?_⟩, ⟨⟨rfl, rfl, rfl, rfl, rfl, rfl, rfl, rfl, svI (sucI (by omega)), trivial⟩, rfl⟩, by dsimp only; omega⟩⟩
         · rw [Qag z 1 hlt', List.length_append]; rfl
         · rw [Qag z 1 hlt']
           refine hzv.snoc (fun j hj k _ => catT hj) (fun j hj => ?_)
           refine catF.trans ?_
           rw [Nat.sub_self, Int.toNat_natCast, Nat.zero_add]
           have hq := hzc i hlt'
           match j, hj with
           | 0, _ => rfl
           | 1, _ => exact hq 0 (by decide)
           | 2, _ => exact hq 1 (by decide)
           | 3, _ => exact hq 2 (by decide)
           | 4, _ => exact hq 3 (by decide)
           | 5, _ => exact hq 4 (by decide)
           | 6, _ => exact hq 5 (by decide)
       · have hil : i = (Qg (z.wst 1)).1.w.deeds.length := by omega
         refine Xu (fun hb => ?_) (fun hb => absurd hb (by rw [Qdj h11]; decide))
         refine Qi rfl ⟨⟨{ z with m := (Qg (z.wst 1)).1.m, s := (Qg (z.wst 1)).1.s, w := setF z.w 1 (Qg (z.wst 1)).1.w, steps := z.steps + 1, deeds := Qca z 1 i }, setF r 1 x, mh, ch, nh, zh, mv, cv, nv, zv⟩, ()⟩ ⟨⟨hgw, h0.h1, h0.h2, h0.h, hm, hmc, hzv⟩, (Qgg h11 hil).symm, trivial⟩ rfl ?_ rfl
         show _ = (QJ z 1).ren _
         unfold QJ
         rw [Qbp hb, show ((z.w 1).does == 0) = false from beq_eq_false_iff_ne.2 hd]; rfl
   · refine Xu (fun hb => ?_) (fun hb => ?_)
     · refine Qi rfl ⟨⟨z.moved 1 (Qg (z.wst 1)).1, setF r 1 x, mh, ch, nh, zh, mv, cv, nv, zv⟩, ()⟩ ⟨⟨hgw, h0.h1, h0.h2, h0.h, h0.v1, h0.v2, h0.v⟩, (Qgf hd h11 hb).symm, trivial⟩ rfl ?_ rfl
       show _ = (QJ z 1).ren _
       unfold QJ
       rw [Qbp hb, show ((z.w 1).does == 0) = false from beq_eq_false_iff_ne.2 hd]; rfl
     · refine ⟨Qd (by kernel_rfl), ⟨by decide, by decide⟩, by decide, Qd (by kernel_rfl), Qd (by kernel_rfl), ⟨⟨h0.h1, rfl⟩, ⟨Nat.le_refl _, rfl⟩, by omega⟩, fun c hc => ⟨Qd (by kernel_rfl), ?_⟩⟩
       refine' Qi rfl ⟨⟨(z.moved 1 (Qg (z.wst 1)).1).answered 1 (Qg (z.wst 1)).1.w, setF r 1 x, z.hist.length + 1, c, nh, _, mv, cv, nv, zv⟩, ()⟩ ?ok ?hc ?e1 ?e2
       case e2 =>
         show _ = (shM ⟨⟨_, _, _, _, _, z.hist ++ [_], _⟩, _, _, _, _, _, _, _, _, _⟩ ++ []).map _
         rw [Qbq]; rfl
       case hc => rfl
       case e1 =>
         show _ = (QJ z 1).ren _
         unfold QJ
         rw [Qdk hd hb, show ((z.w 1).does == 0) = false from beq_eq_false_iff_ne.2 hd]; rfl
       case ok =>
         refine ⟨⟨hgw, ?_, hc, ?_, h0.v1, h0.v2, h0.v⟩, (QeF hd h11 hb).symm, trivial⟩
         · show (z.hist ++ [_]).length <= _
           rw [List.length_append]; exact Nat.le_refl _
         · refine h0.h.snoc (fun j hj k _ => catT hj) (fun j hj => ?_)
           refine catF.trans ?_
           rw [Nat.sub_self]
           match j, hj with
           | 0, _ => rfl
           | 1, _ => rfl
           | 2, _ => rfl
           | 3, _ => rfl
           | 4, _ => rfl
           | 5, _ => rfl
           | 6, _ => rfl
           | 7, _ => rfl
           | 8, _ => rfl
theorem QmY : (Con.mem (QbK 2)).holds Tryz.prog 52 := by
 intro w0 S
 refine Qb (Γ := [(77, .inl Tryz.f77 (Tryz.f77.body.getD .skip)), (24, .mem QdD), (26, .mem QI), (58, .inl Tryz.f58 (Tryz.f58.body.getD .skip)), (25, .inl Tryz.f25 (Tryz.f25.body.getD .skip))]) (fun _ => noW) Tryz.func52 rfl (by kernel_rfl) Qf Qc (fun w S' _ _ => .cons ⟨by kernel_rfl, rfl, rfl⟩ (.cons (Qdi w S') (.cons (QL w S') (.cons ⟨by kernel_rfl, rfl, rfl⟩ (.cons ⟨by kernel_rfl, rfl, rfl⟩ (.nil _ _ _)))))) (QbK 2) (fun s => [(52, [(0, QhW s.1 2)])]) (fun x0 h => by cases h) (fun s ρ w _ _ _ => Qh w _) [] (fun _ M => shAt M 0) 600 ?_
 rintro ⟨⟨z, r, mh, ch, nh, zh, mv, cv, nv, zv⟩, ⟨⟩⟩ W ⟨h0, h1, h2⟩ -
 refine ⟨rfl, ?_⟩
 dsimp only
 refine Qj (q := Qem 2 5 11 12 z r mh ch nh zh mv cv nv zv) (by kernel_rfl) ?_
 unfold Qem
 have h0 : (⟨z, r, mh, ch, nh, zh, mv, cv, nv, zv⟩ : ShS).good := h0
 have h1 : stOK z 2 := h1
 have h2 : (z.w 2).does ≠ 0 -> Qba (z.wst 2) := h2
 have hst0 := h1.st0
 have hst1 := h1.st1
 have hhl := h1.h
 have hdl := h1.d
 have es : IntKind.wrap .i64 (z.steps + 1) = z.steps + 1 := QC (by omega) (by omega)
 rw [es]
 refine ⟨⟨by decide, by decide⟩, Q7 (fun hd => ?_) (fun hd => ?_)⟩
 · have e0 : z.step 2 = z := if_pos hd
   refine Qi rfl ⟨⟨z, r, mh, ch, nh, zh, mv, cv, nv, zv⟩, ()⟩ ⟨h0, e0.symm, trivial⟩ rfl ?_ rfl
   show _ = (QJ z 2).ren _
   unfold QJ
   rw [Qcy hd, show ((z.w 2).does == 0) = true from beq_iff_eq.2 hd]; rfl
 · have hth : (z.w 2).th < 4 := by rw [h1.th]; decide
   refine ⟨Qd (by kernel_rfl), ⟨wkS (z.w 2) (r 2), z.m, z.s⟩, rfl, rfl, ⟨hth, h0.w 2 (by decide), h2 hd⟩, fun x hx => ⟨Qd (by kernel_rfl), ?_⟩⟩
   have hx : (wkS (Qg (z.wst 2)).1.w x).good := hx.good
   have hlen : (Qg (z.wst 2)).1.w.deeds.length <= x.md := hx.2.2.1.1
   have hgw := XT (t := 2) h0.w hx
   refine Q7 (fun h11 => ?_) (fun h11 => ?_)
   · have hdl2 := h1.dl h11
     have hL : 0 + (Qg (z.wst 2)).1.w.deeds.length = (Qg (z.wst 2)).1.w.deeds.length := Nat.zero_add _
     refine ⟨⟨(Qg (z.wst 2)).1.s, 0⟩, rfl, rfl, ⟨(by decide : (0 : Int) <= 0), (by decide : (0 : Int) < 72)⟩, fun _ _ => ⟨⟨trivial, ⟨Nat.le_trans (Nat.le_of_eq hL) hlen, rfl⟩, by show 0 + (Qg (z.wst 2)).1.w.deeds.length <= _; omega⟩, fun c hc => ⟨hc, ?_, ?_⟩⟩⟩
     · refine ⟨⟨0, 0 + (Qg (z.wst 2)).1.w.deeds.length, x, c, _, z.deeds.length, mv, cv, nv, zv, hx, hL, Nat.zero_le _, ?_, hc, by rw [Qaf], h0.v1, h0.v2, by rw [Qaf]; exact h0.v⟩, ⟨rfl, rfl, rfl, rfl, rfl, rfl, rfl, rfl, rfl, trivial⟩, rfl⟩
       exact (IsD.rows hx.2.2.2).sub (fun j hj k _ => by show x.zd (0 + j) k = x.zd j k; rw [Nat.zero_add])
     · rintro ⟨i, ln, x, cc, zc, n, mv, cv, nv, zv, hx, hl, hi, hzc, hcc, hn, hm, hmc, hzv⟩
       dsimp only at hx hl hi hzc hcc hn hm hmc hzv ⊢
       subst hl
       subst hn
       have hgw := XT (t := 2) h0.w hx
       have hlv := Qdz z 2 i
       refine Qp (fun hlt => ?_) (fun hge => ?_)
       · have hlt' : i < (Qg (z.wst 2)).1.w.deeds.length := by omega
         refine ⟨⟨by omega, by omega, by omega⟩, by omega, Qd (by kernel_rfl), ⟨⟨hm, rfl⟩, ⟨Nat.le_refl _, rfl⟩, by omega⟩, fun c hc => ⟨Qd (by kernel_rfl), ⟨i + 1, _, x, cc, zc, _, (Qca z 2 i).length + 1, c, nv, _, hx, rfl, hlt', hzc, hcc, ?_, Nat.le_refl _, hc, ?_⟩, ⟨⟨rfl, rfl, rfl, rfl, rfl, rfl, rfl, rfl, svI (sucI (by omega)), trivial⟩, rfl⟩, by dsimp only; omega⟩⟩
         · rw [Qag z 2 hlt', List.length_append]; rfl
         · rw [Qag z 2 hlt']
           refine hzv.snoc (fun j hj k _ => catT hj) (fun j hj => ?_)
           refine catF.trans ?_
           rw [Nat.sub_self, Int.toNat_natCast, Nat.zero_add]
           have hq := hzc i hlt'
           match j, hj with
           | 0, _ => rfl
           | 1, _ => exact hq 0 (by decide)
           | 2, _ => exact hq 1 (by decide)
           | 3, _ => exact hq 2 (by decide)
           | 4, _ => exact hq 3 (by decide)
           | 5, _ => exact hq 4 (by decide)
           | 6, _ => exact hq 5 (by decide)
       · have hil : i = (Qg (z.wst 2)).1.w.deeds.length := by omega
         refine Xu (fun hb => ?_) (fun hb => absurd hb (by rw [Qdj h11]; decide))
         refine Qi rfl ⟨⟨{ z with m := (Qg (z.wst 2)).1.m, s := (Qg (z.wst 2)).1.s, w := setF z.w 2 (Qg (z.wst 2)).1.w, steps := z.steps + 1, deeds := Qca z 2 i }, setF r 2 x, mh, ch, nh, zh, mv, cv, nv, zv⟩, ()⟩ ⟨⟨hgw, h0.h1, h0.h2, h0.h, hm, hmc, hzv⟩, (Qgg h11 hil).symm, trivial⟩ rfl ?_ rfl
         show _ = (QJ z 2).ren _
         unfold QJ
         rw [Qbp hb, show ((z.w 2).does == 0) = false from beq_eq_false_iff_ne.2 hd]; rfl
   · refine Xu (fun hb => ?_) (fun hb => ?_)
     · refine Qi rfl ⟨⟨z.moved 2 (Qg (z.wst 2)).1, setF r 2 x, mh, ch, nh, zh, mv, cv, nv, zv⟩, ()⟩ ⟨⟨hgw, h0.h1, h0.h2, h0.h, h0.v1, h0.v2, h0.v⟩, (Qgf hd h11 hb).symm, trivial⟩ rfl ?_ rfl
       show _ = (QJ z 2).ren _
       unfold QJ
       rw [Qbp hb, show ((z.w 2).does == 0) = false from beq_eq_false_iff_ne.2 hd]; rfl
     · refine ⟨Qd (by kernel_rfl), ⟨by decide, by decide⟩, by decide, Qd (by kernel_rfl), Qd (by kernel_rfl), ⟨⟨h0.h1, rfl⟩, ⟨Nat.le_refl _, rfl⟩, by omega⟩, fun c hc => ⟨Qd (by kernel_rfl), ?_⟩⟩
       refine' Qi rfl ⟨⟨(z.moved 2 (Qg (z.wst 2)).1).answered 2 (Qg (z.wst 2)).1.w, setF r 2 x, z.hist.length + 1, c, nh, _, mv, cv, nv, zv⟩, ()⟩ ?ok ?hc ?e1 ?e2
       case e2 =>
         show _ = (shM ⟨⟨_, _, _, _, _, z.hist ++ [_], _⟩, _, _, _, _, _, _, _, _, _⟩ ++ []).map _
         rw [Qbq]; rfl
       case hc => rfl
       case e1 =>
         show _ = (QJ z 2).ren _
         unfold QJ
         rw [Qdk hd hb, show ((z.w 2).does == 0) = false from beq_eq_false_iff_ne.2 hd]; rfl
       case ok =>
         refine ⟨⟨hgw, ?_, hc, ?_, h0.v1, h0.v2, h0.v⟩, (QeF hd h11 hb).symm, trivial⟩
         · show (z.hist ++ [_]).length <= _
           rw [List.length_append]; exact Nat.le_refl _
         · refine h0.h.snoc (fun j hj k _ => catT hj) (fun j hj => ?_)
           refine catF.trans ?_
           rw [Nat.sub_self]
           match j, hj with
           | 0, _ => rfl
           | 1, _ => rfl
           | 2, _ => rfl
           | 3, _ => rfl
           | 4, _ => rfl
           | 5, _ => rfl
           | 6, _ => rfl
           | 7, _ => rfl
           | 8, _ => rfl
theorem QmX : (Con.mem (QbK 3)).holds Tryz.prog 52 := by
 intro w0 S
 refine Qb (Γ := [(77, .inl Tryz.f77 (Tryz.f77.body.getD .skip)), (24, .mem QdD), (26, .mem QI), (58, .inl Tryz.f58 (Tryz.f58.body.getD .skip)), (25, .inl Tryz.f25 (Tryz.f25.body.getD .skip))]) (fun _ => noW) Tryz.func52 rfl (by kernel_rfl) Qf Qc (fun w S' _ _ => .cons ⟨by kernel_rfl, rfl, rfl⟩ (.cons (Qdi w S') (.cons (QL w S') (.cons ⟨by kernel_rfl, rfl, rfl⟩ (.cons ⟨by kernel_rfl, rfl, rfl⟩ (.nil _ _ _)))))) (QbK 3) (fun s => [(52, [(0, QhW s.1 3)])]) (fun x0 h => by cases h) (fun s ρ w _ _ _ => Qh w _) [] (fun _ M => shAt M 0) 600 ?_
 rintro ⟨⟨z, r, mh, ch, nh, zh, mv, cv, nv, zv⟩, ⟨⟩⟩ W ⟨h0, h1, h2⟩ -
 refine ⟨rfl, ?_⟩
 dsimp only
 refine Qj (q := Qem 3 6 13 14 z r mh ch nh zh mv cv nv zv) (by kernel_rfl) ?_
 unfold Qem
 have h0 : (⟨z, r, mh, ch, nh, zh, mv, cv, nv, zv⟩ : ShS).good := h0
 have h1 : stOK z 3 := h1
 have h2 : (z.w 3).does ≠ 0 -> Qba (z.wst 3) := h2
 have hst0 := h1.st0
 have hst1 := h1.st1
 have hhl := h1.h
 have hdl := h1.d
 have es : IntKind.wrap .i64 (z.steps + 1) = z.steps + 1 := QC (by omega) (by omega)
 rw [es]
 refine ⟨⟨by decide, by decide⟩, Q7 (fun hd => ?_) (fun hd => ?_)⟩
 · have e0 : z.step 3 = z := if_pos hd
   refine Qi rfl ⟨⟨z, r, mh, ch, nh, zh, mv, cv, nv, zv⟩, ()⟩ ⟨h0, e0.symm, trivial⟩ rfl ?_ rfl
   show _ = (QJ z 3).ren _
   unfold QJ
   rw [Qcy hd, show ((z.w 3).does == 0) = true from beq_iff_eq.2 hd]; rfl
 · have hth : (z.w 3).th < 4 := by rw [h1.th]; decide
   refine ⟨Qd (by kernel_rfl), ⟨wkS (z.w 3) (r 3), z.m, z.s⟩, rfl, rfl, ⟨hth, h0.w 3 (by decide), h2 hd⟩, fun x hx => ⟨Qd (by kernel_rfl), ?_⟩⟩
   have hx : (wkS (Qg (z.wst 3)).1.w x).good := hx.good
   have hlen : (Qg (z.wst 3)).1.w.deeds.length <= x.md := hx.2.2.1.1
   have hgw := XT (t := 3) h0.w hx
   refine Q7 (fun h11 => ?_) (fun h11 => ?_)
   · have hdl2 := h1.dl h11
     have hL : 0 + (Qg (z.wst 3)).1.w.deeds.length = (Qg (z.wst 3)).1.w.deeds.length := Nat.zero_add _
     refine ⟨⟨(Qg (z.wst 3)).1.s, 0⟩, rfl, rfl, ⟨(by decide : (0 : Int) <= 0), (by decide : (0 : Int) < 72)⟩, fun _ _ => ⟨⟨trivial, ⟨Nat.le_trans (Nat.le_of_eq hL) hlen, rfl⟩, by show 0 + (Qg (z.wst 3)).1.w.deeds.length <= _; omega⟩, fun c hc => ⟨hc, ?_, ?_⟩⟩⟩
     · refine ⟨⟨0, 0 + (Qg (z.wst 3)).1.w.deeds.length, x, c, _, z.deeds.length, mv, cv, nv, zv, hx, hL, Nat.zero_le _, ?_, hc, by rw [Qaf], h0.v1, h0.v2, by rw [Qaf]; exact h0.v⟩, ⟨rfl, rfl, rfl, rfl, rfl, rfl, rfl, rfl, rfl, trivial⟩, rfl⟩
       exact (IsD.rows hx.2.2.2).sub (fun j hj k _ => by show x.zd (0 + j) k = x.zd j k; rw [Nat.zero_add])
     · rintro ⟨i, ln, x, cc, zc, n, mv, cv, nv, zv, hx, hl, hi, hzc, hcc, hn, hm, hmc, hzv⟩
       dsimp only at hx hl hi hzc hcc hn hm hmc hzv ⊢
       subst hl
       subst hn
       have hgw := XT (t := 3) h0.w hx
       have hlv := Qdz z 3 i
       refine Qp (fun hlt => ?_) (fun hge => ?_)
       · have hlt' : i < (Qg (z.wst 3)).1.w.deeds.length := by omega
         refine ⟨⟨by omega, by omega, by omega⟩, by omega, Qd (by kernel_rfl), ⟨⟨hm, rfl⟩, ⟨Nat.le_refl _, rfl⟩, by omega⟩, fun c hc => ⟨Qd (by kernel_rfl), ⟨i + 1, _, x, cc, zc, _, (Qca z 3 i).length + 1, c, nv, _, hx, rfl, hlt', hzc, hcc, ?_, Nat.le_refl _, hc, ?_⟩, ⟨⟨rfl, rfl, rfl, rfl, rfl, rfl, rfl, rfl, svI (sucI (by omega)), trivial⟩, rfl⟩, by dsimp only; omega⟩⟩
         · rw [Qag z 3 hlt', List.length_append]; rfl
         · rw [Qag z 3 hlt']
           refine hzv.snoc (fun j hj k _ => catT hj) (fun j hj => ?_)
           refine catF.trans ?_
           rw [Nat.sub_self, Int.toNat_natCast, Nat.zero_add]
           have hq := hzc i hlt'
           match j, hj with
           | 0, _ => rfl
           | 1, _ => exact hq 0 (by decide)
           | 2, _ => exact hq 1 (by decide)
           | 3, _ => exact hq 2 (by decide)
           | 4, _ => exact hq 3 (by decide)
           | 5, _ => exact hq 4 (by decide)
           | 6, _ => exact hq 5 (by decide)
       · have hil : i = (Qg (z.wst 3)).1.w.deeds.length := by omega
         refine Xu (fun hb => ?_) (fun hb => absurd hb (by rw [Qdj h11]; decide))
         refine Qi rfl ⟨⟨{ z with m := (Qg (z.wst 3)).1.m, s := (Qg (z.wst 3)).1.s, w := setF z.w 3 (Qg (z.wst 3)).1.w, steps := z.steps + 1, deeds := Qca z 3 i }, setF r 3 x, mh, ch, nh, zh, mv, cv, nv, zv⟩, ()⟩ ⟨⟨hgw, h0.h1, h0.h2, h0.h, hm, hmc, hzv⟩, (Qgg h11 hil).symm, trivial⟩ rfl ?_ rfl
         show _ = (QJ z 3).ren _
         unfold QJ
         rw [Qbp hb, show ((z.w 3).does == 0) = false from beq_eq_false_iff_ne.2 hd]; rfl
   · refine Xu (fun hb => ?_) (fun hb => ?_)
     · refine Qi rfl ⟨⟨z.moved 3 (Qg (z.wst 3)).1, setF r 3 x, mh, ch, nh, zh, mv, cv, nv, zv⟩, ()⟩ ⟨⟨hgw, h0.h1, h0.h2, h0.h, h0.v1, h0.v2, h0.v⟩, (Qgf hd h11 hb).symm, trivial⟩ rfl ?_ rfl
       show _ = (QJ z 3).ren _
       unfold QJ
       rw [Qbp hb, show ((z.w 3).does == 0) = false from beq_eq_false_iff_ne.2 hd]; rfl
     · refine ⟨Qd (by kernel_rfl), ⟨by decide, by decide⟩, by decide, Qd (by kernel_rfl), Qd (by kernel_rfl), ⟨⟨h0.h1, rfl⟩, ⟨Nat.le_refl _, rfl⟩, by omega⟩, fun c hc => ⟨Qd (by kernel_rfl), ?_⟩⟩
       refine' Qi rfl ⟨⟨(z.moved 3 (Qg (z.wst 3)).1).answered 3 (Qg (z.wst 3)).1.w, setF r 3 x, z.hist.length + 1, c, nh, _, mv, cv, nv, zv⟩, ()⟩ ?ok ?hc ?e1 ?e2
       case e2 =>
         show _ = (shM ⟨⟨_, _, _, _, _, z.hist ++ [_], _⟩, _, _, _, _, _, _, _, _, _⟩ ++ []).map _
         rw [Qbq]; rfl
       case hc => rfl
       case e1 =>
         show _ = (QJ z 3).ren _
         unfold QJ
         rw [Qdk hd hb, show ((z.w 3).does == 0) = false from beq_eq_false_iff_ne.2 hd]; rfl
       case ok =>
         refine ⟨⟨hgw, ?_, hc, ?_, h0.v1, h0.v2, h0.v⟩, (QeF hd h11 hb).symm, trivial⟩
         · show (z.hist ++ [_]).length <= _
           rw [List.length_append]; exact Nat.le_refl _
         · refine h0.h.snoc (fun j hj k _ => catT hj) (fun j hj => ?_)
           refine catF.trans ?_
           rw [Nat.sub_self]
           match j, hj with
           | 0, _ => rfl
           | 1, _ => rfl
           | 2, _ => rfl
           | 3, _ => rfl
           | 4, _ => rfl
           | 5, _ => rfl
           | 6, _ => rfl
           | 7, _ => rfl
           | 8, _ => rfl
structure Qa where
 s : WkS
 k : Int
 key : Int
 x : Int
 tog : Int
abbrev nzV : NZ := .blk 0 42 60 6 [.int .i64, .int .i64, .int .i64, .int .i64, .int .i64, .int .i64]
def Qbn (b : Bool) : MCon where
 σ := Qa
 χ := Unit
 pre s := True
 args s := [.c (.p 0 0), .a [.one (.v (.int .i64 s.k)), .one (.v (.int .i64 s.key)), .one (.v (.int .i64 s.x))], .c (.v (.int .i64 s.tog)), .c (.v (.bool b))]
 mem s := [wkC 1 2 s.s.w s.s.ca s.s.na s.s.cd s.s.nd, wkA s.s.ma s.s.ca s.s.za, wkD s.s.md s.s.cd s.s.zd]
 ok s x := True
 val _ _ := .t []
 mem' s x := [wkC 1 2 (Wk.call s.s.w.th s.k s.key s.x s.tog b) 0 false 0 false, wkA 0 0 (fun _ _ => 0), wkD 0 0 (fun _ _ => 0)]
 k := 1
 len := 3
 det := some ()
 find := Qcd
theorem QdM : (Con.mem (Qbn false)).holds Tryz.prog 23 := by
 intro w0 S
 refine Qb (Γ := []) (fun _ => noW) Tryz.func23 rfl (by kernel_rfl) Qf Qc (fun w S' _ _ => .nil _ _ _) (Qbn false) (fun _ => []) (fun x0 h s x => ⟨rfl, trivial⟩) (fun s ρ w _ _ _ => Qh w _) [nzW, nzV] (rpW 1) 400 ?_
 rintro ⟨⟨w, ma, ca, na, za, md, cd, nd, zd⟩, k1, key1, x1, tog1⟩ W - -
 refine ⟨rfl, ?_⟩
 refine Qj (q := dP Tryz.f23 1 4 [⟨9, [], [0], [], false⟩, xF 8 0, xE 7, xE 6, xR 5 3, xR 4 0, xF 3 0, xF 2 0, xF 1 0, xF 0 0] /\ endN (Qbn false) [nzW, nzV] (rpW 1) (Qa.mk (WkS.mk w ma ca na za md cd nd zd) k1 key1 x1 tog1) (SV.t []) [SB.cells [sI (↑w.1 : Int), sI 1, sI k1, sI key1, sI x1, sI tog1, sB false, sI 0, sU 0, nU 32 zF, Seg.one (.v (.slice none 0 0)), Seg.one (.v (.slice none 0 0)), nU 3 zF, sI 0, sI 0, sI 0] 42, SB.rows 154 kI5 5 ma ca za, SB.rows 60 kI6 6 md cd zd, SB.cells [sI k1, sI key1, sI x1] 32]) (by kernel_rfl) ?_
 exact ⟨Qd (by kernel_rfl), Qi rfl () trivial rfl rfl rfl⟩
theorem Qmw : (Con.mem (Qbn true)).holds Tryz.prog 23 := by
 intro w0 S
 refine Qb (Γ := []) (fun _ => noW) Tryz.func23 rfl (by kernel_rfl) Qf Qc (fun w S' _ _ => .nil _ _ _) (Qbn true) (fun _ => []) (fun x0 h s x => ⟨rfl, trivial⟩) (fun s ρ w _ _ _ => Qh w _) [nzW, nzV] (rpW 1) 400 ?_
 rintro ⟨⟨w, ma, ca, na, za, md, cd, nd, zd⟩, k1, key1, x1, tog1⟩ W - -
 refine ⟨rfl, ?_⟩
 refine Qj (q := dP Tryz.f23 1 4 [⟨9, [], [0], [], false⟩, xF 8 0, xE 7, xE 6, xR 5 3, xR 4 0, xF 3 0, xF 2 0, xF 1 0, xF 0 0] /\ endN (Qbn true) [nzW, nzV] (rpW 1) (Qa.mk (WkS.mk w ma ca na za md cd nd zd) k1 key1 x1 tog1) (SV.t []) [SB.cells [sI (↑w.1 : Int), sI 17, sI k1, sI key1, sI x1, sI tog1, sB false, sI 0, sU 0, nU 32 zF, Seg.one (.v (.slice none 0 0)), Seg.one (.v (.slice none 0 0)), nU 3 zF, sI 0, sI 0, sI 0] 42, SB.rows 154 kI5 5 ma ca za, SB.rows 60 kI6 6 md cd zd, SB.cells [sI k1, sI key1, sI x1] 32]) (by kernel_rfl) ?_
 exact ⟨Qd (by kernel_rfl), Qi rfl () trivial rfl rfl rfl⟩
abbrev wcA (s : Qa) : Wk := Wk.call s.s.w.th s.k s.key s.x s.tog true
structure OpA where
 k : Int
 key : Int
 x : Int
def clC (t : Nat) : TCon Sh OpA Unit where
 pre z _ := (0 <= z.steps /\ z.steps < 100000000) /\ z.hist.length <= 1000000000 /\ (z.tog t = 0 \/ z.tog t = 1)
 args a := [.c (.v (.int .i64 t)), .a [.one (.v (.int .i64 a.k)), .one (.v (.int .i64 a.key)), .one (.v (.int .i64 a.x))]]
 ok _ _ _ := True
 next z a _ := z.call t a.k a.key a.x
 val _ z a _ := .o (.c (.v (bif (z.w t).does == 0 then (bif opOk a.k a.key a.x then .nilIface else .iface 108 (.int .i64 1)) else .iface 108 (.int .i64 6))))
 new _ _ _ _ := []
 len := 0
abbrev Qcs (t : Nat) : MCon := (clC t).low shM ShS.z ShS.good 17 7 Qcg
theorem Qdv (w : Wk) (k key x tog : Int) (b : Bool) : (wkS (Wk.call w.th k key x tog b) ⟨0, 0, false, fun _ _ => 0, 0, 0, false, fun _ _ => 0⟩).good :=
 ⟨⟨Nat.le_refl _, Nat.le_refl _⟩, fun i hi => absurd hi (Nat.not_lt_zero _), ⟨Nat.le_refl _, Nat.le_refl _⟩, fun i hi => absurd hi (Nat.not_lt_zero _)⟩
def Qek (n0 : Nat) (n1 : Nat) (n2 : Nat) (n3 : Nat) (z : Sh) (r : Nat -> WkR) (mh : Nat) (ch : Nat) (nh : Bool) (zh : Nat -> Nat -> Int) (mv : Nat) (cv : Nat) (nv : Bool) (zv : Nat -> Nat -> Int) (k : Int) (key : Int) (x : Int) : Prop := (iR (n0 : Int) (4 : Int)) /\ bif (Sh.w z n0).2 != (0 : Int) then endN (Qcs n0) [] (fun (x : SV) (M : List SB) => shAt M 0) (ShS.mk z r mh ch nh zh mv cv nv zv, OpA.mk k key x) (SV.o (SA.c (.v (.iface 108 (Value.int .i64 (6 : Int)))))) (shI (shD z.4 z.5 15 (List.length z.6) ch nh 16 (List.length z.7) cv nv) z.1 (Sh.s z) (stC (Sh.w z) r) (stA r) (stD r) (evB mh ch zh) (vdB mv cv zv) [SB.cells [sI k, sI key, sI x] 32]) else True /\ bif bif opOk k key x then false else true then endN (Qcs n0) [] (fun (x : SV) (M : List SB) => shAt M 0) (ShS.mk z r mh ch nh zh mv cv nv zv, OpA.mk k key x) (SV.o (SA.c (.v (.iface 108 (Value.int .i64 (1 : Int)))))) (shI (shD z.4 z.5 15 (List.length z.6) ch nh 16 (List.length z.7) cv nv) z.1 (Sh.s z) (stC (Sh.w z) r) (stA r) (stD r) (evB mh ch zh) (vdB mv cv zv) [SB.cells [sI k, sI key, sI x] 32]) else (iR (n0 : Int) (4 : Int)) /\ n0 < 4 /\ ∃ (s : Qa), [aP n1 0, SA.a [sI k, sI key, sI x], aI (IntKind.wrap .i64 ((1 : Int) - z.4 n0)), aB false] = [aP n1 0, SA.a [sI s.2, sI s.3, sI s.4], aI s.5, aB false] /\ [wkR n2 n3 (Sh.w z n0) (r n0), waR (r n0), wdR (r n0)] = [wkC n2 n3 (WkS.w (Qa.s s)) (Qa.s s).3 (Qa.s s).4 (Qa.s s).7 (Qa.s s).8, wkA (Qa.s s).2 (Qa.s s).3 (Qa.s s).5, wkD (Qa.s s).6 (Qa.s s).7 (Qa.s s).9] /\ True /\ ∀ (x_1 : Unit), True -> dP Tryz.f39 8 18 [⟨9, [], [n1, n2, n3, 18, 19], [18, 19], false⟩, xE 8, xR 7 0, xF 6 0, xF 5 0, xF 4 0, xE 3, xF 2 0, xR 1 17, xF 0 n1] /\ dP Tryz.f39 10 20 [⟨13, [20], [15, 21], [], true⟩, ⟨12, [], [20], [20], false⟩, xE 11, xR 10 0, xF 9 0, xF 8 0, xF 7 0, xR 6 17, xE 5, ⟨4, [0], [], [15], false⟩, xF 3 0, xF 2 0, xF 1 0, xF 0 0] /\ ((List.length z.6 <= mh /\ ch = ch) /\ (1 <= 1 /\ 1 = 1) /\ List.length z.6 + 1 <= 68719476736) /\ ∀ (c : Nat), List.length z.6 + 1 <= c -> dP Tryz.f39 10 20 [⟨16, [], [0], [1, 2, 3, 4, 5, 6, 21, 16], false⟩, xF 15 0, xF 14 0, ⟨13, [20], [15, 21], [21], true⟩, ⟨12, [], [20], [20], false⟩, xE 11, xR 10 0, xF 9 0, xF 8 0, xF 7 0, xR 6 17, xE 5, ⟨4, [0], [], [15], false⟩, xF 3 0, xF 2 0, xF 1 0, xF 0 0] /\ endN (Qcs n0) [] (fun (x : SV) (M : List SB) => shAt M 0) (ShS.mk z r mh ch nh zh mv cv nv zv, OpA.mk k key x) (SV.o (SA.c (.v Value.nilIface))) (shI (shD z.4 (IntKind.wrap .i64 (z.5 + (1 : Int))) 21 (List.length z.6 + 1) c nh 16 (List.length z.7) cv nv) z.1 (Sh.s z) (setF (stC (Sh.w z) r) n0 (wkZ 18 19 (Wk.call (Wk.th (WkS.w (Qa.s s))) (Qa.k s) (Qa.key s) (Qa.x s) (Qa.tog s) false))) (setF (stA r) n0 SB.gone) (setF (stD r) n0 SB.gone) SB.gone (vdB mv cv zv) [SB.cells [sI k, sI key, sI x] 32, wkA 0 0 fun (x x_2 : Nat) => (0 : Int), wkD 0 0 fun (x x_2 : Nat) => (0 : Int), evB 1 1 fun (i j : Nat) => match List.get?Internal (match List.get?Internal [[(1 : Int), (n0 : Int), k, key, x, (0 : Int), (0 : Int), (0 : Int), IntKind.wrap .i64 (z.5 + (1 : Int))]] i with | some x => x | none => []) j with | some x => x | none => (0 : Int), evB (List.length z.6 + 1) c fun (i j : Nat) => bif Nat.ble (i + 1) (List.length z.6) then zh i j else match List.get?Internal (match List.get?Internal [[(1 : Int), (n0 : Int), k, key, x, (0 : Int), (0 : Int), (0 : Int), IntKind.wrap .i64 (z.5 + (1 : Int))]] (0 + (i - List.length z.6)) with | some x => x | none => []) j with | some x => x | none => (0 : Int)])
theorem Qjh : (Con.mem (Qcs 0)).holds Tryz.prog 39 := by
 intro w0 S
 refine Qb (Γ := [(77, .inl Tryz.f77 (Tryz.f77.body.getD .skip)), (23, .mem (Qbn false)), (22, .pure XM)]) (fun _ => noW) Tryz.func39 rfl (by kernel_rfl) Qf Qc (fun w S' _ _ => .cons ⟨by kernel_rfl, rfl, rfl⟩ (.cons (QdM w S') (.cons (Qaw w S') (.nil _ _ _)))) (Qcs 0) (fun _ => []) (fun x0 h => by cases h) (fun s ρ w _ _ _ => Qh w _) [] (fun _ M => shAt M 0) 600 ?_
 rintro ⟨⟨z, r, mh, ch, nh, zh, mv, cv, nv, zv⟩, ⟨k, key, x⟩⟩ W ⟨h0, ⟨hst0, hst1⟩, hhl, htg⟩ -
 refine ⟨rfl, ?_⟩
 refine Qj (q := Qek 0 3 7 8 z r mh ch nh zh mv cv nv zv k key x) (by kernel_rfl) ?_
 unfold Qek
 have h0 : (⟨z, r, mh, ch, nh, zh, mv, cv, nv, zv⟩ : ShS).good := h0
 have hst0 : 0 <= z.steps := hst0
 have hst1 : z.steps < 100000000 := hst1
 have hhl : z.hist.length <= 1000000000 := hhl
 have htg : z.tog 0 = 0 \/ z.tog 0 = 1 := htg
 have es : IntKind.wrap .i64 (z.steps + 1) = z.steps + 1 := QC (by omega) (by omega)
 have et : IntKind.wrap .i64 (1 - z.tog 0) = 1 - z.tog 0 := QC (by omega) (by omega)
 rw [es, et]
 refine ⟨⟨by decide, by decide⟩, QB (fun hd => ?_) (fun hd => ⟨trivial, Xu (fun ho => ?_) (fun ho => ?_)⟩)⟩
 · have e0 : z.call 0 k key x = z := if_neg (fun h => hd h.1)
   refine Qi rfl ⟨⟨z, r, mh, ch, nh, zh, mv, cv, nv, zv⟩, ()⟩ ⟨h0, e0.symm, trivial⟩ rfl ?_ rfl
   show _ = SV.ren _ (.o (.c (.v (bif (z.w 0).does == 0 then _ else _))))
   rw [show ((z.w 0).does == 0) = false from beq_eq_false_iff_ne.2 hd]; rfl
 · have e0 : z.call 0 k key x = z := if_neg (fun h => by rw [ho] at h; exact absurd h.2 (by decide))
   refine Qi rfl ⟨⟨z, r, mh, ch, nh, zh, mv, cv, nv, zv⟩, ()⟩ ⟨h0, e0.symm, trivial⟩ rfl ?_ rfl
   show _ = SV.ren _ (.o (.c (.v (bif (z.w 0).does == 0 then (bif opOk k key x then _ else _) else _))))
   rw [show ((z.w 0).does == 0) = true from beq_iff_eq.2 hd, ho]; rfl
 · have e0 : z.call 0 k key x = z.called 0 k key x := if_pos ⟨hd, ho⟩
   refine ⟨⟨by decide, by decide⟩, by decide, ⟨wkS (z.w 0) (r 0), k, key, x, 1 - z.tog 0⟩, rfl, rfl, trivial, fun _ _ => ⟨Qd (by kernel_rfl), Qd (by kernel_rfl), ⟨⟨h0.h1, rfl⟩, ⟨Nat.le_refl _, rfl⟩, by omega⟩, fun c hc => ⟨Qd (by kernel_rfl), ?_⟩⟩⟩
   refine' Qi rfl ⟨⟨z.called 0 k key x, setF r 0 ⟨0, 0, false, fun _ _ => 0, 0, 0, false, fun _ _ => 0⟩, z.hist.length + 1, c, nh, _, mv, cv, nv, zv⟩, ()⟩ ?ok ?hc ?e1 ?e2
   case e2 =>
     show _ = (shM ⟨⟨_, _, _, _, _, z.hist ++ [_], _⟩, _, _, _, _, _, _, _, _, _⟩ ++ []).map _
     rw [Qbq]; rfl
   case hc => rfl
   case e1 =>
     show _ = SV.ren _ (.o (.c (.v (bif (z.w 0).does == 0 then (bif opOk k key x then _ else _) else _))))
     rw [show ((z.w 0).does == 0) = true from beq_iff_eq.2 hd, ho]; rfl
   case ok =>
     refine ⟨⟨XT h0.w (Qdv _ _ _ _ _ _), ?_, hc, ?_, h0.v1, h0.v2, h0.v⟩, e0.symm, trivial⟩
     · show (z.hist ++ [_]).length <= _
       rw [List.length_append]; exact Nat.le_refl _
     · refine h0.h.snoc (fun j hj k _ => catT hj) (fun j hj => ?_)
       refine catF.trans ?_
       rw [Nat.sub_self]
       match j, hj with
       | 0, _ => rfl
       | 1, _ => rfl
       | 2, _ => rfl
       | 3, _ => rfl
       | 4, _ => rfl
       | 5, _ => rfl
       | 6, _ => rfl
       | 7, _ => rfl
       | 8, _ => rfl
theorem Qoc : (Con.mem (Qcs 1)).holds Tryz.prog 39 := by
 intro w0 S
 refine Qb (Γ := [(77, .inl Tryz.f77 (Tryz.f77.body.getD .skip)), (23, .mem (Qbn false)), (22, .pure XM)]) (fun _ => noW) Tryz.func39 rfl (by kernel_rfl) Qf Qc (fun w S' _ _ => .cons ⟨by kernel_rfl, rfl, rfl⟩ (.cons (QdM w S') (.cons (Qaw w S') (.nil _ _ _)))) (Qcs 1) (fun _ => []) (fun x0 h => by cases h) (fun s ρ w _ _ _ => Qh w _) [] (fun _ M => shAt M 0) 600 ?_
 rintro ⟨⟨z, r, mh, ch, nh, zh, mv, cv, nv, zv⟩, ⟨k, key, x⟩⟩ W ⟨h0, ⟨hst0, hst1⟩, hhl, htg⟩ -
 refine ⟨rfl, ?_⟩
 refine Qj (q := Qek 1 4 9 10 z r mh ch nh zh mv cv nv zv k key x) (by kernel_rfl) ?_
 unfold Qek
 have h0 : (⟨z, r, mh, ch, nh, zh, mv, cv, nv, zv⟩ : ShS).good := h0
 have hst0 : 0 <= z.steps := hst0
 have hst1 : z.steps < 100000000 := hst1
 have hhl : z.hist.length <= 1000000000 := hhl
 have htg : z.tog 1 = 0 \/ z.tog 1 = 1 := htg
 have es : IntKind.wrap .i64 (z.steps + 1) = z.steps + 1 := QC (by omega) (by omega)
 have et : IntKind.wrap .i64 (1 - z.tog 1) = 1 - z.tog 1 := QC (by omega) (by omega)
 rw [es, et]
 refine ⟨⟨by decide, by decide⟩, QB (fun hd => ?_) (fun hd => ⟨trivial, Xu (fun ho => ?_) (fun ho => ?_)⟩)⟩
 · have e0 : z.call 1 k key x = z := if_neg (fun h => hd h.1)
   refine Qi rfl ⟨⟨z, r, mh, ch, nh, zh, mv, cv, nv, zv⟩, ()⟩ ⟨h0, e0.symm, trivial⟩ rfl ?_ rfl
   show _ = SV.ren _ (.o (.c (.v (bif (z.w 1).does == 0 then _ else _))))
   rw [show ((z.w 1).does == 0) = false from beq_eq_false_iff_ne.2 hd]; rfl
 · have e0 : z.call 1 k key x = z := if_neg (fun h => by rw [ho] at h; exact absurd h.2 (by decide))
   refine Qi rfl ⟨⟨z, r, mh, ch, nh, zh, mv, cv, nv, zv⟩, ()⟩ ⟨h0, e0.symm, trivial⟩ rfl ?_ rfl
   show _ = SV.ren _ (.o (.c (.v (bif (z.w 1).does == 0 then (bif opOk k key x then _ else _) else _))))
   rw [show ((z.w 1).does == 0) = true from beq_iff_eq.2 hd, ho]; rfl
 · have e0 : z.call 1 k key x = z.called 1 k key x := if_pos ⟨hd, ho⟩
   refine ⟨⟨by decide, by decide⟩, by decide, ⟨wkS (z.w 1) (r 1), k, key, x, 1 - z.tog 1⟩, rfl, rfl, trivial, fun _ _ => ⟨Qd (by kernel_rfl), Qd (by kernel_rfl), ⟨⟨h0.h1, rfl⟩, ⟨Nat.le_refl _, rfl⟩, by omega⟩, fun c hc => ⟨Qd (by kernel_rfl), ?_⟩⟩⟩
   refine' Qi rfl ⟨⟨z.called 1 k key x, setF r 1 ⟨0, 0, false, fun _ _ => 0, 0, 0, false, fun _ _ => 0⟩, z.hist.length + 1, c, nh, _, mv, cv, nv, zv⟩, ()⟩ ?ok ?hc ?e1 ?e2
   case e2 =>
     show _ = (shM ⟨⟨_, _, _, _, _, z.hist ++ [_], _⟩, _, _, _, _, _, _, _, _, _⟩ ++ []).map _
     rw [Qbq]; rfl
   case hc => rfl
   case e1 =>
     show _ = SV.ren _ (.o (.c (.v (bif (z.w 1).does == 0 then (bif opOk k key x then _ else _) else _))))
     rw [show ((z.w 1).does == 0) = true from beq_iff_eq.2 hd, ho]; rfl
   case ok =>
     refine ⟨⟨XT h0.w (Qdv _ _ _ _ _ _), ?_, hc, ?_, h0.v1, h0.v2, h0.v⟩, e0.symm, trivial⟩
     · show (z.hist ++ [_]).length <= _
       rw [List.length_append]; exact Nat.le_refl _
     · refine h0.h.snoc (fun j hj k _ => catT hj) (fun j hj => ?_)
       refine catF.trans ?_
       rw [Nat.sub_self]
       match j, hj with
       | 0, _ => rfl
       | 1, _ => rfl
       | 2, _ => rfl
       | 3, _ => rfl
       | 4, _ => rfl
       | 5, _ => rfl
       | 6, _ => rfl
       | 7, _ => rfl
       | 8, _ => rfl
theorem Qob : (Con.mem (Qcs 2)).holds Tryz.prog 39 := by
 intro w0 S
 refine Qb (Γ := [(77, .inl Tryz.f77 (Tryz.f77.body.getD .skip)), (23, .mem (Qbn false)), (22, .pure XM)]) (fun _ => noW) Tryz.func39 rfl (by kernel_rfl) Qf Qc (fun w S' _ _ => .cons ⟨by kernel_rfl, rfl, rfl⟩ (.cons (QdM w S') (.cons (Qaw w S') (.nil _ _ _)))) (Qcs 2) (fun _ => []) (fun x0 h => by cases h) (fun s ρ w _ _ _ => Qh w _) [] (fun _ M => shAt M 0) 600 ?_
 rintro ⟨⟨z, r, mh, ch, nh, zh, mv, cv, nv, zv⟩, ⟨k, key, x⟩⟩ W ⟨h0, ⟨hst0, hst1⟩, hhl, htg⟩ -
 refine ⟨rfl, ?_⟩
 refine Qj (q := Qek 2 5 11 12 z r mh ch nh zh mv cv nv zv k key x) (by kernel_rfl) ?_
 unfold Qek
 have h0 : (⟨z, r, mh, ch, nh, zh, mv, cv, nv, zv⟩ : ShS).good := h0
 have hst0 : 0 <= z.steps := hst0
 have hst1 : z.steps < 100000000 := hst1
 have hhl : z.hist.length <= 1000000000 := hhl
 have htg : z.tog 2 = 0 \/ z.tog 2 = 1 := htg
 have es : IntKind.wrap .i64 (z.steps + 1) = z.steps + 1 := QC (by omega) (by omega)
 have et : IntKind.wrap .i64 (1 - z.tog 2) = 1 - z.tog 2 := QC (by omega) (by omega)
 rw [es, et]
 refine ⟨⟨by decide, by decide⟩, QB (fun hd => ?_) (fun hd => ⟨trivial, Xu (fun ho => ?_) (fun ho => ?_)⟩)⟩
 · have e0 : z.call 2 k key x = z := if_neg (fun h => hd h.1)
   refine Qi rfl ⟨⟨z, r, mh, ch, nh, zh, mv, cv, nv, zv⟩, ()⟩ ⟨h0, e0.symm, trivial⟩ rfl ?_ rfl
   show _ = SV.ren _ (.o (.c (.v (bif (z.w 2).does == 0 then _ else _))))
   rw [show ((z.w 2).does == 0) = false from beq_eq_false_iff_ne.2 hd]; rfl
 · have e0 : z.call 2 k key x = z := if_neg (fun h => by rw [ho] at h; exact absurd h.2 (by decide))
   refine Qi rfl ⟨⟨z, r, mh, ch, nh, zh, mv, cv, nv, zv⟩, ()⟩ ⟨h0, e0.symm, trivial⟩ rfl ?_ rfl
   show _ = SV.ren _ (.o (.c (.v (bif (z.w 2).does == 0 then (bif opOk k key x then _ else _) else _))))
   rw [show ((z.w 2).does == 0) = true from beq_iff_eq.2 hd, ho]; rfl
 · have e0 : z.call 2 k key x = z.called 2 k key x := if_pos ⟨hd, ho⟩
   refine ⟨⟨by decide, by decide⟩, by decide, ⟨wkS (z.w 2) (r 2), k, key, x, 1 - z.tog 2⟩, rfl, rfl, trivial, fun _ _ => ⟨Qd (by kernel_rfl), Qd (by kernel_rfl), ⟨⟨h0.h1, rfl⟩, ⟨Nat.le_refl _, rfl⟩, by omega⟩, fun c hc => ⟨Qd (by kernel_rfl), ?_⟩⟩⟩
   refine' Qi rfl ⟨⟨z.called 2 k key x, setF r 2 ⟨0, 0, false, fun _ _ => 0, 0, 0, false, fun _ _ => 0⟩, z.hist.length + 1, c, nh, _, mv, cv, nv, zv⟩, ()⟩ ?ok ?hc ?e1 ?e2
   case e2 =>
     show _ = (shM ⟨⟨_, _, _, _, _, z.hist ++ [_], _⟩, _, _, _, _, _, _, _, _, _⟩ ++ []).map _
     rw [Qbq]; rfl
   case hc => rfl
   case e1 =>
     show _ = SV.ren _ (.o (.c (.v (bif (z.w 2).does == 0 then (bif opOk k key x then _ else _) else _))))
     rw [show ((z.w 2).does == 0) = true from beq_iff_eq.2 hd, ho]; rfl
   case ok =>
     refine ⟨⟨XT h0.w (Qdv _ _ _ _ _ _), ?_, hc, ?_, h0.v1, h0.v2, h0.v⟩, e0.symm, trivial⟩
     · show (z.hist ++ [_]).length <= _
       rw [List.length_append]; exact Nat.le_refl _
     · refine h0.h.snoc (fun j hj k _ => catT hj) (fun j hj => ?_)
       refine catF.trans ?_
       rw [Nat.sub_self]
       match j, hj with
       | 0, _ => rfl
       | 1, _ => rfl
       | 2, _ => rfl
       | 3, _ => rfl
       | 4, _ => rfl
       | 5, _ => rfl
       | 6, _ => rfl
       | 7, _ => rfl
       | 8, _ => rfl
theorem Qoa : (Con.mem (Qcs 3)).holds Tryz.prog 39 := by
 intro w0 S
 refine Qb (Γ := [(77, .inl Tryz.f77 (Tryz.f77.body.getD .skip)), (23, .mem (Qbn false)), (22, .pure XM)]) (fun _ => noW) Tryz.func39 rfl (by kernel_rfl) Qf Qc (fun w S' _ _ => .cons ⟨by kernel_rfl, rfl, rfl⟩ (.cons (QdM w S') (.cons (Qaw w S') (.nil _ _ _)))) (Qcs 3) (fun _ => []) (fun x0 h => by cases h) (fun s ρ w _ _ _ => Qh w _) [] (fun _ M => shAt M 0) 600 ?_
 rintro ⟨⟨z, r, mh, ch, nh, zh, mv, cv, nv, zv⟩, ⟨k, key, x⟩⟩ W ⟨h0, ⟨hst0, hst1⟩, hhl, htg⟩ -
 refine ⟨rfl, ?_⟩
 refine Qj (q := Qek 3 6 13 14 z r mh ch nh zh mv cv nv zv k key x) (by kernel_rfl) ?_
 unfold Qek
 have h0 : (⟨z, r, mh, ch, nh, zh, mv, cv, nv, zv⟩ : ShS).good := h0
 have hst0 : 0 <= z.steps := hst0
 have hst1 : z.steps < 100000000 := hst1
 have hhl : z.hist.length <= 1000000000 := hhl
 have htg : z.tog 3 = 0 \/ z.tog 3 = 1 := htg
 have es : IntKind.wrap .i64 (z.steps + 1) = z.steps + 1 := QC (by omega) (by omega)
 have et : IntKind.wrap .i64 (1 - z.tog 3) = 1 - z.tog 3 := QC (by omega) (by omega)
 rw [es, et]
 refine ⟨⟨by decide, by decide⟩, QB (fun hd => ?_) (fun hd => ⟨trivial, Xu (fun ho => ?_) (fun ho => ?_)⟩)⟩
 · have e0 : z.call 3 k key x = z := if_neg (fun h => hd h.1)
   refine Qi rfl ⟨⟨z, r, mh, ch, nh, zh, mv, cv, nv, zv⟩, ()⟩ ⟨h0, e0.symm, trivial⟩ rfl ?_ rfl
   show _ = SV.ren _ (.o (.c (.v (bif (z.w 3).does == 0 then _ else _))))
   rw [show ((z.w 3).does == 0) = false from beq_eq_false_iff_ne.2 hd]; rfl
 · have e0 : z.call 3 k key x = z := if_neg (fun h => by rw [ho] at h; exact absurd h.2 (by decide))
   refine Qi rfl ⟨⟨z, r, mh, ch, nh, zh, mv, cv, nv, zv⟩, ()⟩ ⟨h0, e0.symm, trivial⟩ rfl ?_ rfl
   show _ = SV.ren _ (.o (.c (.v (bif (z.w 3).does == 0 then (bif opOk k key x then _ else _) else _))))
   rw [show ((z.w 3).does == 0) = true from beq_iff_eq.2 hd, ho]; rfl
 · have e0 : z.call 3 k key x = z.called 3 k key x := if_pos ⟨hd, ho⟩
   refine ⟨⟨by decide, by decide⟩, by decide, ⟨wkS (z.w 3) (r 3), k, key, x, 1 - z.tog 3⟩, rfl, rfl, trivial, fun _ _ => ⟨Qd (by kernel_rfl), Qd (by kernel_rfl), ⟨⟨h0.h1, rfl⟩, ⟨Nat.le_refl _, rfl⟩, by omega⟩, fun c hc => ⟨Qd (by kernel_rfl), ?_⟩⟩⟩
   refine' Qi rfl ⟨⟨z.called 3 k key x, setF r 3 ⟨0, 0, false, fun _ _ => 0, 0, 0, false, fun _ _ => 0⟩, z.hist.length + 1, c, nh, _, mv, cv, nv, zv⟩, ()⟩ ?ok ?hc ?e1 ?e2
   case e2 =>
     show _ = (shM ⟨⟨_, _, _, _, _, z.hist ++ [_], _⟩, _, _, _, _, _, _, _, _, _⟩ ++ []).map _
     rw [Qbq]; rfl
   case hc => rfl
   case e1 =>
     show _ = SV.ren _ (.o (.c (.v (bif (z.w 3).does == 0 then (bif opOk k key x then _ else _) else _))))
     rw [show ((z.w 3).does == 0) = true from beq_iff_eq.2 hd, ho]; rfl
   case ok =>
     refine ⟨⟨XT h0.w (Qdv _ _ _ _ _ _), ?_, hc, ?_, h0.v1, h0.v2, h0.v⟩, e0.symm, trivial⟩
     · show (z.hist ++ [_]).length <= _
       rw [List.length_append]; exact Nat.le_refl _
     · refine h0.h.snoc (fun j hj k _ => catT hj) (fun j hj => ?_)
       refine catF.trans ?_
       rw [Nat.sub_self]
       match j, hj with
       | 0, _ => rfl
       | 1, _ => rfl
       | 2, _ => rfl
       | 3, _ => rfl
       | 4, _ => rfl
       | 5, _ => rfl
       | 6, _ => rfl
       | 7, _ => rfl
       | 8, _ => rfl
def verC : TCon Sh Unit Unit where
 pre z _ := 0 <= z.s.now 0 /\ z.s.now 0 < 1000000000
 args _ := []
 ok _ _ _ := True
 next z _ _ := z
 val _ z _ _ := sv (.int .i64 (z.s.now 0))
 new _ _ _ _ := []
 len := 0
abbrev Qje : MCon := verC.low shM ShS.z ShS.good 17 7 Qcg
theorem QoK : (Con.mem Qje).holds Tryz.prog 42 := by
 intro w0 S
 refine Qb (Γ := [(26, .mem QI)]) (fun _ => noW) Tryz.func42 rfl (by kernel_rfl) Qf Qc (fun w S' _ _ => .cons (QL w S') (.nil _ _ _)) Qje (fun _ => []) (fun x0 h => by cases h) (fun s ρ w _ _ _ => Qh w _) [] (fun _ M => shAt M 0) 600 ?_
 rintro ⟨⟨z, r, mh, ch, nh, zh, mv, cv, nv, zv⟩, ⟨⟩⟩ W ⟨h0, h1, h2⟩ -
 refine ⟨rfl, ?_⟩
 refine Qj (q := ∃ (s : Qt), [aP 2 0, aI 0] = [aP 2 0, aI s.2] /\ [stoB (Sh.s z)] = [stoB (Qt.s s)] /\ (iR s.2 (72 : Int)) /\ ∀ (x : Unit), True -> endN Qje [] (fun (x : SV) (M : List SB) => shAt M 0) (ShS.mk z r mh ch nh zh mv cv nv zv, PUnit.unit) (SV.o (aI (IntKind.wrap .i64 ((Qt.s s).1 (Int.toNat s.2))))) (shI (shD z.4 z.5 15 (List.length z.6) ch nh 16 (List.length z.7) cv nv) z.1 (Qt.s s) (stC (Sh.w z) r) (stA r) (stD r) (evB mh ch zh) (vdB mv cv zv) [])) (by kernel_rfl) ?_
 have h0 : (⟨z, r, mh, ch, nh, zh, mv, cv, nv, zv⟩ : ShS).good := h0
 have h1 : 0 <= z.s.now 0 := h1
 have h2 : z.s.now 0 < 1000000000 := h2
 refine ⟨⟨z.s, 0⟩, rfl, rfl, ⟨(by decide : (0 : Int) <= 0), (by decide : (0 : Int) < 72)⟩, fun _ _ => ?_⟩
 show endN Qje [] _ _ (SV.o (SA.c (SC.v (Value.int .i64 (IntKind.wrap .i64 (z.s.now 0)))))) _
 rw [QC (by omega) (by omega)]
 exact Qi rfl ⟨⟨z, r, mh, ch, nh, zh, mv, cv, nv, zv⟩, ()⟩ ⟨h0, rfl, trivial⟩ rfl rfl rfl
theorem QoR {ρ : Nat -> Nat} {i : Nat} {a b : Sto} (h1 : ∀ j, j < 72 -> a.now j = b.now j) (h2 : ∀ j, j < 72 -> a.good j = b.good j) (h3 : ∀ j, j < 36 -> a.want j = b.want j) (h4 : a.fl = b.fl) (h5 : a.fe = b.fe) : denB ρ i (stoB a) = denB ρ i (stoB b) := by
 have e1 : (List.range 72).map (fun i => mkV (.int .u64) (a.now i)) = (List.range 72).map (fun i => mkV (.int .u64) (b.now i)) := List.map_congr_left fun j hj => by rw [h1 j (List.mem_range.1 hj)]
 have e2 : (List.range 72).map (fun i => mkV (.int .u64) (a.good i)) = (List.range 72).map (fun i => mkV (.int .u64) (b.good i)) := List.map_congr_left fun j hj => by rw [h2 j (List.mem_range.1 hj)]
 have e3 : (List.range 36).map (fun i => mkV .bool (a.want i)) = (List.range 36).map (fun i => mkV .bool (b.want i)) := List.map_congr_left fun j hj => by rw [h3 j (List.mem_range.1 hj)]
 simp only [denB, Qe, Seg.den]
 rw [e1, e2, e3, h4, h5]
structure Qby where
 s : Sto
 l : Int
def crTo (s : Qby) (n : Nat) : Sto := { s.s with now := fun j => bif decide (j / 8 < n) then Qr s.l s.s j else s.s.now j, good := fun j => bif decide (j / 8 < n) then Qr s.l s.s j else s.s.good j }
theorem Qmq (s : Qby) : crTo s 0 = s.s := by
 unfold crTo
 have e (j : Nat) : decide (j / 8 < 0) = false := decide_eq_false (Nat.not_lt_zero _)
 simp only [e, cond_false]
def lnB (i j : Nat) : Bool := Nat.ble (8 * i) j && Nat.ble j (8 * i + 1 + 1 + 1 + 1 + 1 + 1 + 1)
theorem lnB_d (i j : Nat) : lnB i j = decide (j / 8 = i) := by
 unfold lnB
 rw [QkB, QkB, <- Bool.decide_and, decide_eq_decide]; omega
theorem Qgu {f g : Nat -> Int} {i j : Nat} : (bif lnB i j then f (8 * i + (j - 8 * i)) else g j) = (bif decide (j / 8 = i) then f j else g j) := by
 rw [lnB_d]
 by_cases e : j / 8 = i
 · rw [decide_eq_true e, show 8 * i + (j - 8 * i) = j by omega]
 · rw [decide_eq_false e]; rfl
theorem Qgt (i j : Nat) : decide (j / 8 < i + 1) = (decide (j / 8 = i) || decide (j / 8 < i)) := by
 rw [<- Bool.decide_or, decide_eq_decide]; omega
theorem QnW (s : Qby) {i : Nat} (hi : i < 9) (hb : s.l / 2 ^ i % 2 = 1) (j : Nat) : (bif decide (j / 8 = i) then (crTo s i).now j else (crTo s i).good j) = (crTo s (i + 1)).good j := by
 unfold crTo
 dsimp only
 rw [Qgt]
 by_cases e : j / 8 = i
 · rw [decide_eq_true e, decide_eq_false (show ¬ j / 8 < i by omega)]
   show s.s.now j = Qr s.l s.s j
   unfold Qr
   rw [decide_eq_true (show j < 72 by omega), e, decide_eq_true hb]; rfl
 · rw [decide_eq_false e]; rfl
theorem Qpn (s : Qby) {i : Nat} (hi : i < 9) (hb : s.l / 2 ^ i % 2 = 1) (j : Nat) : (bif decide (j / 8 = i) then (crTo s (i + 1)).good j else (crTo s i).now j) = (crTo s (i + 1)).now j := by
 unfold crTo
 dsimp only
 rw [Qgt]
 by_cases e : j / 8 = i
 · rw [decide_eq_true e]; rfl
 · rw [decide_eq_false e]; rfl
theorem Qpo (s : Qby) {i : Nat} (hi : i < 9) (hb : s.l / 2 ^ i % 2 ≠ 1) (j : Nat) : (bif decide (j / 8 = i) then (crTo s i).good j else (crTo s i).now j) = (crTo s (i + 1)).now j := by
 unfold crTo
 dsimp only
 rw [Qgt]
 by_cases e : j / 8 = i
 · rw [decide_eq_true e, decide_eq_false (show ¬ j / 8 < i by omega)]
   show s.s.good j = Qr s.l s.s j
   unfold Qr
   rw [e, decide_eq_false hb, Bool.and_false]; rfl
 · rw [decide_eq_false e]; rfl
theorem QnX (s : Qby) {i : Nat} (hi : i < 9) (hb : s.l / 2 ^ i % 2 ≠ 1) (j : Nat) : (crTo s i).good j = (crTo s (i + 1)).good j := by
 unfold crTo
 dsimp only
 rw [Qgt]
 by_cases e : j / 8 = i
 · rw [decide_eq_true e, decide_eq_false (show ¬ j / 8 < i by omega)]
   show s.s.good j = Qr s.l s.s j
   unfold Qr
   rw [e, decide_eq_false hb, Bool.and_false]; rfl
 · rw [decide_eq_false e]; rfl
theorem bit_at {l : Int} (h : U64 l) {i : Nat} (hi : i < 9) : bits BinOp.and .u64 (Int.fdiv l (2 ^ min (Int.toNat (i : Int)) 64)) 1 = l / 2 ^ i % 2 := by
 have := QgC (w := l) (a := (i : Int)) (n := 1) h (by unfold Qb7; exact decide_eq_true (by omega))
 rw [show QfH 1 = 1 from rfl] at this
 rw [this]
 have ht : (l.toNat : Int) = l := by have := h.1; omega
 unfold getZ getN
 rw [Int.toNat_natCast]
 have hc : i = 0 \/ i = 1 \/ i = 2 \/ i = 3 \/ i = 4 \/ i = 5 \/ i = 6 \/ i = 7 \/ i = 8 := by omega
 rcases hc with rfl | rfl | rfl | rfl | rfl | rfl | rfl | rfl | rfl <;> (simp only [Int.toNat_one, Nat.pow_one, Nat.reducePow, Int.reducePow]; omega)
theorem QkT {a b : Sto} {n g : Nat -> Int} (h1 : n = b.now) (h2 : g = b.good) (h3 : a.want = b.want) (h4 : a.fl = b.fl) (h5 : a.fe = b.fe) : [stoB ⟨n, g, a.want, a.fl, a.fe⟩] = [stoB b] := by
 rw [h1, h2, h3, h4, h5]
def QdC (b : Bool) : MCon := dcon Qby (fun s => U64 s.l) (fun s => [.c (.p 0 0), .c (.v (.int .u64 s.l))]) (fun s => [stoB s.s]) (fun s => .t []) (fun s => [stoB (bif b then s.s.crash s.l else { crTo s 9 with want := fun _ => 0 })]) 1 (fun args _ => some (blkA args))
structure CrG where
 i : Nat
 hi : i <= 9
def annCr (s : Qby) : Ann where
 σ := CrG
 I g := ([(0, .o (.c (.p 0 0))), (1, sv (.int .u64 s.l)), (5, sv (.int .i64 g.i))], [stoB (crTo s g.i)])
 dec g := 9 - g.i
 pi env _ := [0]
 nz := []
theorem QkS : (Con.mem (QdC false)).holds Tryz.prog 85 := by
 intro w0 S
 refine Qb (Γ := []) (fun _ => noW) Tryz.func85 rfl (by kernel_rfl) Qf Qc (fun w S' _ _ => .nil _ _ _) (QdC false) (fun s => [(85, [(0, annCr s)])]) (fun x0 h s x => ⟨rfl, trivial⟩) (fun s ρ w _ _ _ => Qh w _) [] (Qm 1) 400 ?_
 rintro ⟨s, l⟩ w h0 -
 refine ⟨rfl, ?_⟩
 have h0 : U64 l := h0
 refine Qj (q := (∃ (s0 : Ann.σ (annCr (Qby.mk s l))), (eS (aP 0 0) (aP 0 0) /\ eS (aU l) (aU l) /\ eS (aI 0) (aI ↑s0.1) /\ True) /\ [SB.cells [nU 72 s.1, nU 72 s.2, nB 36 s.3, sI s.4, sI s.5] 115] = [SB.cells [nU 72 fun (j : Nat) => bif decide (j / 8 < s0.1) then Qr l s j else s.1 j, nU 72 fun (j : Nat) => bif decide (j / 8 < s0.1) then Qr l s j else s.2 j, nB 36 s.3, sI s.4, sI s.5] 115]) /\ ∀ (s_1 : CrG), bif decide ((↑s_1.1 : Int) < (9 : Int)) then (0 : Int) <= (↑s_1.1 : Int) /\ bif bits BinOp.and .u64 (Int.fdiv l ((2 : Int) ^ min (Int.toNat (↑s_1.1 : Int)) 64)) (1 : Int) == (1 : Int) then (iR (↑s_1.1 : Int) (9 : Int)) /\ t8 s_1.1 + 1 + 1 + 1 + 1 + 1 + 1 + 1 + 1 <= 72 /\ (iR (↑s_1.1 : Int) (9 : Int)) /\ t8 s_1.1 + 1 + 1 + 1 + 1 + 1 + 1 + 1 + 1 <= 72 /\ dP Tryz.f85 4 1 [⟨11, [], [0], [], false⟩, xF 10 0, xF 9 0, xF 8 0, xR 7 0, xF 6 0, xF 5 0, xF 4 0, xE 3, xF 2 0, xE 1, xF 0 0] /\ (iR (↑s_1.1 : Int) (9 : Int)) /\ t8 s_1.1 + 1 + 1 + 1 + 1 + 1 + 1 + 1 + 1 <= 72 /\ (iR (↑s_1.1 : Int) (9 : Int)) /\ t8 s_1.1 + 1 + 1 + 1 + 1 + 1 + 1 + 1 + 1 <= 72 /\ dP Tryz.f85 5 1 [⟨11, [], [0], [], false⟩, xF 10 0, xF 9 0, xF 8 0, xR 7 0, xF 6 0, xF 5 0, xF 4 0, xE 3, xF 2 0, xE 1, xF 0 0] /\ ∃ (s' : CrG), ((eS (aP 0 0) (aP 0 0) /\ eS (aU l) (aU l) /\ eS (aI (IntKind.wrap .i64 ((↑s_1.1 : Int) + (1 : Int)))) (aI ↑s'.1) /\ True) /\ [SB.cells [nU 72 fun (j : Nat) => bif match Nat.ble (t8 s_1.1) j with | false => false | true => Nat.ble j (t8 s_1.1 + 1 + 1 + 1 + 1 + 1 + 1 + 1) then bif match Nat.ble (t8 s_1.1) (t8 s_1.1 + (j - (t8 s_1.1))) with | false => false | true => Nat.ble (t8 s_1.1 + (j - (t8 s_1.1))) (t8 s_1.1 + 1 + 1 + 1 + 1 + 1 + 1 + 1) then bif decide ((t8 s_1.1 + (t8 s_1.1 + (j - (t8 s_1.1)) - (t8 s_1.1))) / 8 < s_1.1) then Qr l s (t8 s_1.1 + (t8 s_1.1 + (j - (t8 s_1.1)) - (t8 s_1.1))) else s.1 (t8 s_1.1 + (t8 s_1.1 + (j - (t8 s_1.1)) - (t8 s_1.1))) else bif decide ((t8 s_1.1 + (j - (t8 s_1.1))) / 8 < s_1.1) then Qr l s (t8 s_1.1 + (j - (t8 s_1.1))) else s.2 (t8 s_1.1 + (j - (t8 s_1.1))) else bif decide (j / 8 < s_1.1) then Qr l s j else s.1 j, nU 72 fun (j : Nat) => bif match Nat.ble (t8 s_1.1) j with | false => false | true => Nat.ble j (t8 s_1.1 + 1 + 1 + 1 + 1 + 1 + 1 + 1) then bif decide ((t8 s_1.1 + (j - (t8 s_1.1))) / 8 < s_1.1) then Qr l s (t8 s_1.1 + (j - (t8 s_1.1))) else s.1 (t8 s_1.1 + (j - (t8 s_1.1))) else bif decide (j / 8 < s_1.1) then Qr l s j else s.2 j, nB 36 s.3, sI s.4, sI s.5] 115] = [SB.cells [nU 72 fun (j : Nat) => bif decide (j / 8 < s'.1) then Qr l s j else s.1 j, nU 72 fun (j : Nat) => bif decide (j / 8 < s'.1) then Qr l s j else s.2 j, nB 36 s.3, sI s.4, sI s.5] 115]) /\ 9 - s'.1 < 9 - s_1.1 else (iR (↑s_1.1 : Int) (9 : Int)) /\ t8 s_1.1 + 1 + 1 + 1 + 1 + 1 + 1 + 1 + 1 <= 72 /\ (iR (↑s_1.1 : Int) (9 : Int)) /\ t8 s_1.1 + 1 + 1 + 1 + 1 + 1 + 1 + 1 + 1 <= 72 /\ dP Tryz.f85 5 1 [⟨11, [], [0], [], false⟩, xF 10 0, xF 9 0, xF 8 0, xR 7 0, xF 6 0, xF 5 0, xF 4 0, xE 3, xF 2 0, xE 1, xF 0 0] /\ ∃ (s' : CrG), ((eS (aP 0 0) (aP 0 0) /\ eS (aU l) (aU l) /\ eS (aI (IntKind.wrap .i64 ((↑s_1.1 : Int) + (1 : Int)))) (aI ↑s'.1) /\ True) /\ [SB.cells [nU 72 fun (j : Nat) => bif match Nat.ble (t8 s_1.1) j with | false => false | true => Nat.ble j (t8 s_1.1 + 1 + 1 + 1 + 1 + 1 + 1 + 1) then bif decide ((t8 s_1.1 + (j - (t8 s_1.1))) / 8 < s_1.1) then Qr l s (t8 s_1.1 + (j - (t8 s_1.1))) else s.2 (t8 s_1.1 + (j - (t8 s_1.1))) else bif decide (j / 8 < s_1.1) then Qr l s j else s.1 j, nU 72 fun (j : Nat) => bif decide (j / 8 < s_1.1) then Qr l s j else s.2 j, nB 36 s.3, sI s.4, sI s.5] 115] = [SB.cells [nU 72 fun (j : Nat) => bif decide (j / 8 < s'.1) then Qr l s j else s.1 j, nU 72 fun (j : Nat) => bif decide (j / 8 < s'.1) then Qr l s j else s.2 j, nB 36 s.3, sI s.4, sI s.5] 115]) /\ 9 - s'.1 < 9 - s_1.1 else endN (QdC false) [] (Qm 1) (Qby.mk s l) (SV.t []) [SB.cells [nU 72 fun (j : Nat) => bif decide (j / 8 < s_1.1) then Qr l s j else s.1 j, nU 72 fun (j : Nat) => bif decide (j / 8 < s_1.1) then Qr l s j else s.2 j, nB 36 zF, sI s.4, sI s.5] 115]) (by kernel_rfl) ?_
 unfold t8
 refine ⟨⟨⟨0, by decide⟩, ⟨rfl, rfl, rfl, trivial⟩, ?_⟩, ?_⟩
 · show [stoB s] = [stoB (crTo ⟨s, l⟩ 0)]
   rw [Qmq]
 rintro ⟨i, hi⟩
 dsimp only at hi ⊢
 refine Qp (fun hlt => ?_) (fun hge => ?_)
 · have hlt' : i < 9 := by omega
   have e8 : 0 + i + i + i + i + i + i + i + i = 8 * i := by omega
   rw [bit_at h0 hlt', Int.toNat_natCast, e8]
   refine ⟨by omega, Q7 (fun hb => ?_) (fun hb => ?_)⟩
   · refine ⟨⟨by omega, by omega⟩, by omega, ⟨by omega, by omega⟩, by omega, Qd (by kernel_rfl), ⟨by omega, by omega⟩, by omega, ⟨by omega, by omega⟩, by omega, Qd (by kernel_rfl), ⟨i + 1, hlt'⟩, ⟨⟨rfl, rfl, svI (sucI (by omega)), trivial⟩, ?_⟩, by dsimp only; omega⟩
     have hgood : (fun j => bif lnB i j then (crTo ⟨s, l⟩ i).now (8 * i + (j - 8 * i)) else (crTo ⟨s, l⟩ i).good j) = (crTo ⟨s, l⟩ (i + 1)).good := funext fun j => Qgu.trans (QnW ⟨s, l⟩ hlt' hb j)
     have hnow : (fun j => bif lnB i j then (fun j => bif lnB i j then (crTo ⟨s, l⟩ i).now (8 * i + (j - 8 * i)) else (crTo ⟨s, l⟩ i).good j) (8 * i + (j - 8 * i)) else (crTo ⟨s, l⟩ i).now j) = (crTo ⟨s, l⟩ (i + 1)).now := by
       rw [hgood]; exact funext fun j => Qgu.trans (Qpn ⟨s, l⟩ hlt' hb j)
     exact QkT (a := crTo ⟨s, l⟩ i) (b := crTo ⟨s, l⟩ (i + 1)) hnow hgood rfl rfl rfl
   · refine ⟨⟨by omega, by omega⟩, by omega, ⟨by omega, by omega⟩, by omega, Qd (by kernel_rfl), ⟨i + 1, hlt'⟩, ⟨⟨rfl, rfl, svI (sucI (by omega)), trivial⟩, ?_⟩, by dsimp only; omega⟩
     have hgood : (crTo ⟨s, l⟩ i).good = (crTo ⟨s, l⟩ (i + 1)).good := funext fun j => QnX ⟨s, l⟩ hlt' hb j
     have hnow : (fun j => bif lnB i j then (crTo ⟨s, l⟩ i).good (8 * i + (j - 8 * i)) else (crTo ⟨s, l⟩ i).now j) = (crTo ⟨s, l⟩ (i + 1)).now := funext fun j => Qgu.trans (Qpo ⟨s, l⟩ hlt' hb j)
     exact QkT (a := crTo ⟨s, l⟩ i) (b := crTo ⟨s, l⟩ (i + 1)) hnow hgood rfl rfl rfl
 · obtain rfl : i = 9 := by omega
   exact Qi rfl () trivial rfl rfl rfl
theorem Qg6 : (Con.mem (QdC true)).holds Tryz.prog 85 := by
 intro w0 S
 have h := QkS w0 S
 refine ⟨h.1, fun x0 _ s x => ⟨rfl, trivial⟩, fun ρ s w hp hk hm => (h.2.2 ρ s w hp hk hm).mono ?_⟩
 rintro e w' ⟨x, ρ', -, h1, h2, h3, h4⟩
 refine ⟨(), ρ', trivial, h1, rfl, h3, ?_⟩
 have e : denM ρ' 0 [stoB { crTo s 9 with want := fun _ => 0 }] = denM ρ' 0 [stoB (s.s.crash s.l)] := by
   simp only [denM]
   rw [QoR (a := { crTo s 9 with want := fun _ => 0 }) (b := s.s.crash s.l) (fun j hj => ?_) (fun j hj => ?_) (fun _ _ => rfl) rfl rfl]
   · show (bif decide (j / 8 < 9) then Qr s.l s.s j else s.s.now j) = Qr s.l s.s j
     rw [decide_eq_true (by omega)]; rfl
   · show (bif decide (j / 8 < 9) then Qr s.l s.s j else s.s.good j) = Qr s.l s.s j
     rw [decide_eq_true (by omega)]; rfl
 show Mem w _ (denM ρ' 0 [stoB (s.s.crash s.l)]) w'
 rw [<- e]; exact h4
structure Qcv where
 s : Sto
 l : Int
def Qbw : MCon := dcon Qcv (fun _ => True) (fun s => [.c (.p 0 0), .c (.v (.int .i64 s.l))]) (fun s => [stoB s.s]) (fun s => .o (.c (.v (bif decide (0 <= s.l /\ s.l < 9) then .nilIface else .iface 108 (.int .i64 2))))) (fun s => [stoB (bif decide (0 <= s.l /\ s.l < 9) then s.s.evict s.l.toNat else s.s)]) 1 (fun args _ => some (blkA args))
theorem Qg5 : (Con.mem Qbw).holds Tryz.prog 111 := by
 intro w0 S
 refine Qb (Γ := []) (fun _ => noW) Tryz.func111 rfl (by kernel_rfl) Qf Qc (fun w S' _ _ => .nil _ _ _) Qbw (fun s => []) (fun x0 h s x => ⟨rfl, trivial⟩) (fun s ρ w _ _ _ => Qh w _) [] (Qm 1) 400 ?_
 rintro ⟨s, l⟩ w - -
 refine ⟨rfl, ?_⟩
 refine Qj (q := bif decide (l < (0 : Int)) then endN Qbw [] (Qm 1) (Qcv.mk s l) (SV.o (SA.c (.v (.iface 108 (Value.int .i64 (2 : Int)))))) [SB.cells [nU 72 s.1, nU 72 s.2, nB 36 s.3, sI s.4, sI s.5] 115] else bif decide (l >= (9 : Int)) then endN Qbw [] (Qm 1) (Qcv.mk s l) (SV.o (SA.c (.v (.iface 108 (Value.int .i64 (2 : Int)))))) [SB.cells [nU 72 s.1, nU 72 s.2, nB 36 s.3, sI s.4, sI s.5] 115] else (iR l (9 : Int)) /\ 0 + Int.toNat l + Int.toNat l + Int.toNat l + Int.toNat l + Int.toNat l + Int.toNat l + Int.toNat l + Int.toNat l + 1 + 1 + 1 + 1 + 1 + 1 + 1 + 1 <= 72 /\ (iR l (9 : Int)) /\ 0 + Int.toNat l + Int.toNat l + Int.toNat l + Int.toNat l + Int.toNat l + Int.toNat l + Int.toNat l + Int.toNat l + 1 + 1 + 1 + 1 + 1 + 1 + 1 + 1 <= 72 /\ dP Tryz.f111 3 1 [⟨11, [], [0], [], false⟩, xF 10 0, xF 9 0, xF 8 0, xR 7 0, xF 6 0, xF 5 0, xF 4 0, xE 3, xF 2 0, xE 1, xF 0 0] /\ endN Qbw [] (Qm 1) (Qcv.mk s l) (SV.o (SA.c (.v Value.nilIface))) [SB.cells [nU 72 s.1, nU 72 fun (j : Nat) => bif match Nat.ble (0 + Int.toNat l + Int.toNat l + Int.toNat l + Int.toNat l + Int.toNat l + Int.toNat l + Int.toNat l + Int.toNat l) j with | false => false | true => Nat.ble j (0 + Int.toNat l + Int.toNat l + Int.toNat l + Int.toNat l + Int.toNat l + Int.toNat l + Int.toNat l + Int.toNat l + 1 + 1 + 1 + 1 + 1 + 1 + 1) then s.1 (0 + Int.toNat l + Int.toNat l + Int.toNat l + Int.toNat l + Int.toNat l + Int.toNat l + Int.toNat l + Int.toNat l + (j - (0 + Int.toNat l + Int.toNat l + Int.toNat l + Int.toNat l + Int.toNat l + Int.toNat l + Int.toNat l + Int.toNat l))) else s.2 j, nB 36 s.3, sI s.4, sI s.5] 115]) (by kernel_rfl) ?_
 refine Qp (fun h => ?_) (fun h => Qp (fun h2 => ?_) (fun h2 => ?_))
 · have e : decide (0 <= l /\ l < 9) = false := decide_eq_false (by omega)
   refine Qi rfl () trivial rfl ?_ ?_
   · show _ = SV.ren _ (.o (.c (.v (bif decide (0 <= l /\ l < 9) then _ else _))))
     rw [e]; rfl
   · show _ = [stoB (bif decide (0 <= l /\ l < 9) then s.evict l.toNat else s)].map _
     rw [e]; rfl
 · have e : decide (0 <= l /\ l < 9) = false := decide_eq_false (by omega)
   refine Qi rfl () trivial rfl ?_ ?_
   · show _ = SV.ren _ (.o (.c (.v (bif decide (0 <= l /\ l < 9) then _ else _))))
     rw [e]; rfl
   · show _ = [stoB (bif decide (0 <= l /\ l < 9) then s.evict l.toNat else s)].map _
     rw [e]; rfl
 · have e : decide (0 <= l /\ l < 9) = true := decide_eq_true (by omega)
   have e8 : 0 + l.toNat + l.toNat + l.toNat + l.toNat + l.toNat + l.toNat + l.toNat + l.toNat = 8 * l.toNat := by omega
   rw [e8]
   refine ⟨⟨by omega, by omega⟩, by omega, ⟨by omega, by omega⟩, by omega, Qd (by kernel_rfl), Qi rfl () trivial rfl ?_ ?_⟩
   · show _ = SV.ren _ (.o (.c (.v (bif decide (0 <= l /\ l < 9) then _ else _))))
     rw [e]; rfl
   · show [stoB ⟨s.now, fun j => bif lnB l.toNat j then s.now (8 * l.toNat + (j - 8 * l.toNat)) else s.good j, s.want, s.fl, s.fe⟩] = [stoB (bif decide (0 <= l /\ l < 9) then s.evict l.toNat else s)].map _
     rw [e, show (fun j => bif lnB l.toNat j then s.now (8 * l.toNat + (j - 8 * l.toNat)) else s.good j) = (s.evict l.toNat).good from funext fun j => Qgu]; rfl
def QeS : MCon := dcon (Nat -> Int) (fun _ => True) (fun _ => [.c (.p 0 0)]) (fun s => [ramB s]) (fun _ => .t []) (fun _ => [ramB (fun _ => 0)]) 1 (fun args _ => some (blkA args))
theorem Qmv : (Con.mem QeS).holds Tryz.prog 86 := by
 intro w0 S
 refine Qb (Γ := []) (fun _ => noW) Tryz.func86 rfl (by kernel_rfl) Qf Qc (fun w S' _ _ => .nil _ _ _) QeS (fun s => []) (fun x0 h s x => ⟨rfl, trivial⟩) (fun s ρ w _ _ _ => Qh w _) [] (Qm 1) 400 ?_
 rintro s w - -
 refine ⟨rfl, ?_⟩
 refine Qj (q := endN QeS [] (Qm 1) s (SV.t []) [SB.cells [nU 16 zF] 102]) (by kernel_rfl) ?_
 exact ⟨(), trivial, rfl, rfl⟩
def QdB : MCon where
 σ := Unit
 χ := Unit
 pre _ := True
 args _ := []
 mem _ := []
 ok _ _ := True
 val _ _ := .o (.c (.p 0 0))
 mem' _ _ := [stoB Sto.new]
 k := 0
 len := 1
 det := some ()
 find _ _ := some []
theorem Qjq : (Con.mem QdB).holds Tryz.prog 60 := by
 intro w0 S
 refine Qb (Γ := []) (fun _ => noW) Tryz.func60 rfl (by kernel_rfl) Qf Qc (fun w S' _ _ => .nil _ _ _) QdB (fun _ => []) (fun x0 h s x => ⟨rfl, trivial⟩) (fun s ρ w _ _ _ => Qh w _) [] (fun _ _ => [0]) 400 ?_
 rintro ⟨⟩ W - -
 refine ⟨rfl, ?_⟩
 refine Qj (q := endN QdB [] (fun (x : SV) (x_1 : List SB) => [0]) PUnit.unit (SV.o (aP 0 0)) [SB.cells [nU 72 zF, nU 72 zF, nB 36 zF, sI 0, sI 0] 115]) (by kernel_rfl) ?_
 exact ⟨(), trivial, rfl, rfl⟩
def Qmj (t : Nat) : TCon Sh Unit Unit where
 pre z _ := True
 args _ := [.c (.v (.int .i64 t))]
 ok _ _ _ := True
 next z _ _ := z
 val _ z _ _ := sv (.int .i64 (z.w t).does)
 new _ _ _ _ := []
 len := 0
abbrev QaT (t : Nat) : MCon := (Qmj t).low shM ShS.z ShS.good 17 7 Qcg
theorem QhF : (Con.mem (QaT 0)).holds Tryz.prog 38 := by
 intro w0 S
 refine Qb (Γ := [(77, .inl Tryz.f77 (Tryz.f77.body.getD .skip))]) (fun _ => noW) Tryz.func38 rfl (by kernel_rfl) Qf Qc (fun w S' _ _ => .cons ⟨by kernel_rfl, rfl, rfl⟩ (.nil _ _ _)) (QaT 0) (fun _ => []) (fun x0 h => by cases h) (fun s ρ w _ _ _ => Qh w _) [] (fun _ M => shAt M 0) 600 ?_
 rintro ⟨⟨z, r, mh, ch, nh, zh, mv, cv, nv, zv⟩, ⟨⟩⟩ W ⟨h0, -⟩ -
 refine ⟨rfl, ?_⟩
 refine Qj (q := i04 /\ endN (QaT 0) [] (fun (x : SV) (M : List SB) => shAt M 0) (ShS.mk z r mh ch nh zh mv cv nv zv, PUnit.unit) (SV.o (aI (Sh.w z 0).2)) (shI (shD z.4 z.5 15 (List.length z.6) ch nh 16 (List.length z.7) cv nv) z.1 (Sh.s z) (stC (Sh.w z) r) (stA r) (stD r) (evB mh ch zh) (vdB mv cv zv) [])) (by kernel_rfl) ?_
 have h0 : (⟨z, r, mh, ch, nh, zh, mv, cv, nv, zv⟩ : ShS).good := h0
 exact ⟨⟨by decide, by decide⟩, Qi rfl ⟨⟨z, r, mh, ch, nh, zh, mv, cv, nv, zv⟩, ()⟩ ⟨h0, rfl, trivial⟩ rfl rfl rfl⟩
theorem Qmm : (Con.mem (QaT 1)).holds Tryz.prog 38 := by
 intro w0 S
 refine Qb (Γ := [(77, .inl Tryz.f77 (Tryz.f77.body.getD .skip))]) (fun _ => noW) Tryz.func38 rfl (by kernel_rfl) Qf Qc (fun w S' _ _ => .cons ⟨by kernel_rfl, rfl, rfl⟩ (.nil _ _ _)) (QaT 1) (fun _ => []) (fun x0 h => by cases h) (fun s ρ w _ _ _ => Qh w _) [] (fun _ M => shAt M 0) 600 ?_
 rintro ⟨⟨z, r, mh, ch, nh, zh, mv, cv, nv, zv⟩, ⟨⟩⟩ W ⟨h0, -⟩ -
 refine ⟨rfl, ?_⟩
 refine Qj (q := (iR (1 : Int) (4 : Int)) /\ endN (QaT 1) [] (fun (x : SV) (M : List SB) => shAt M 0) (ShS.mk z r mh ch nh zh mv cv nv zv, PUnit.unit) (SV.o (aI (Sh.w z 1).2)) (shI (shD z.4 z.5 15 (List.length z.6) ch nh 16 (List.length z.7) cv nv) z.1 (Sh.s z) (stC (Sh.w z) r) (stA r) (stD r) (evB mh ch zh) (vdB mv cv zv) [])) (by kernel_rfl) ?_
 have h0 : (⟨z, r, mh, ch, nh, zh, mv, cv, nv, zv⟩ : ShS).good := h0
 exact ⟨⟨by decide, by decide⟩, Qi rfl ⟨⟨z, r, mh, ch, nh, zh, mv, cv, nv, zv⟩, ()⟩ ⟨h0, rfl, trivial⟩ rfl rfl rfl⟩
theorem Qml : (Con.mem (QaT 2)).holds Tryz.prog 38 := by
 intro w0 S
 refine Qb (Γ := [(77, .inl Tryz.f77 (Tryz.f77.body.getD .skip))]) (fun _ => noW) Tryz.func38 rfl (by kernel_rfl) Qf Qc (fun w S' _ _ => .cons ⟨by kernel_rfl, rfl, rfl⟩ (.nil _ _ _)) (QaT 2) (fun _ => []) (fun x0 h => by cases h) (fun s ρ w _ _ _ => Qh w _) [] (fun _ M => shAt M 0) 600 ?_
 rintro ⟨⟨z, r, mh, ch, nh, zh, mv, cv, nv, zv⟩, ⟨⟩⟩ W ⟨h0, -⟩ -
 refine ⟨rfl, ?_⟩
 refine Qj (q := (iR (2 : Int) (4 : Int)) /\ endN (QaT 2) [] (fun (x : SV) (M : List SB) => shAt M 0) (ShS.mk z r mh ch nh zh mv cv nv zv, PUnit.unit) (SV.o (aI (Sh.w z 2).2)) (shI (shD z.4 z.5 15 (List.length z.6) ch nh 16 (List.length z.7) cv nv) z.1 (Sh.s z) (stC (Sh.w z) r) (stA r) (stD r) (evB mh ch zh) (vdB mv cv zv) [])) (by kernel_rfl) ?_
 have h0 : (⟨z, r, mh, ch, nh, zh, mv, cv, nv, zv⟩ : ShS).good := h0
 exact ⟨⟨by decide, by decide⟩, Qi rfl ⟨⟨z, r, mh, ch, nh, zh, mv, cv, nv, zv⟩, ()⟩ ⟨h0, rfl, trivial⟩ rfl rfl rfl⟩
theorem Qmk : (Con.mem (QaT 3)).holds Tryz.prog 38 := by
 intro w0 S
 refine Qb (Γ := [(77, .inl Tryz.f77 (Tryz.f77.body.getD .skip))]) (fun _ => noW) Tryz.func38 rfl (by kernel_rfl) Qf Qc (fun w S' _ _ => .cons ⟨by kernel_rfl, rfl, rfl⟩ (.nil _ _ _)) (QaT 3) (fun _ => []) (fun x0 h => by cases h) (fun s ρ w _ _ _ => Qh w _) [] (fun _ M => shAt M 0) 600 ?_
 rintro ⟨⟨z, r, mh, ch, nh, zh, mv, cv, nv, zv⟩, ⟨⟩⟩ W ⟨h0, -⟩ -
 refine ⟨rfl, ?_⟩
 refine Qj (q := (iR (3 : Int) (4 : Int)) /\ endN (QaT 3) [] (fun (x : SV) (M : List SB) => shAt M 0) (ShS.mk z r mh ch nh zh mv cv nv zv, PUnit.unit) (SV.o (aI (Sh.w z 3).2)) (shI (shD z.4 z.5 15 (List.length z.6) ch nh 16 (List.length z.7) cv nv) z.1 (Sh.s z) (stC (Sh.w z) r) (stA r) (stD r) (evB mh ch zh) (vdB mv cv zv) [])) (by kernel_rfl) ?_
 have h0 : (⟨z, r, mh, ch, nh, zh, mv, cv, nv, zv⟩ : ShS).good := h0
 exact ⟨⟨by decide, by decide⟩, Qi rfl ⟨⟨z, r, mh, ch, nh, zh, mv, cv, nv, zv⟩, ()⟩ ⟨h0, rfl, trivial⟩ rfl rfl rfl⟩
def evC : TCon Sh Int Unit where
 pre z _ := True
 args a := [.c (.v (.int .i64 a))]
 ok _ _ _ := True
 next z a _ := z.evict a
 val _ z a _ := .o (.c (.v (bif decide (0 <= a /\ a < 9) then .nilIface else .iface 108 (.int .i64 2))))
 new _ _ _ _ := []
 len := 0
abbrev Qpr : MCon := evC.low shM ShS.z ShS.good 17 7 Qcg
theorem QnR (z : Sh) (a : Int) : z.evict a = { z with s := bif decide (0 <= a /\ a < 9) then z.s.evict a.toNat else z.s } := by
 unfold Sh.evict
 by_cases h : 0 <= a /\ a < 9
 · rw [if_pos h, decide_eq_true h]; rfl
 · rw [if_neg h, decide_eq_false h]; rfl
theorem ev_con : (Con.mem Qpr).holds Tryz.prog 112 := by
 intro w0 S
 refine Qb (Γ := [(111, .mem Qbw)]) (fun _ => noW) Tryz.func112 rfl (by kernel_rfl) Qf Qc (fun w S' _ _ => .cons (Qg5 w S') (.nil _ _ _)) Qpr (fun _ => []) (fun x0 h => by cases h) (fun s ρ w _ _ _ => Qh w _) [] (fun _ M => shAt M 0) 600 ?_
 rintro ⟨⟨z, r, mh, ch, nh, zh, mv, cv, nv, zv⟩, a⟩ W ⟨h0, -⟩ -
 refine ⟨rfl, ?_⟩
 refine Qj (q := ∃ (s : Qcv), [aP 2 0, aI a] = [aP 2 0, aI s.2] /\ [stoB (Sh.s z)] = [stoB (Qcv.s s)] /\ True /\ ∀ (x : Unit), True -> endN Qpr [] (fun (x : SV) (M : List SB) => shAt M 0) (ShS.mk z r mh ch nh zh mv cv nv zv, a) (SV.o (SA.c (.v (bif decide (iR s.2 (9 : Int)) then Value.nilIface else Value.iface 108 (Value.int .i64 (2 : Int)))))) (shI (shD z.4 z.5 15 (List.length z.6) ch nh 16 (List.length z.7) cv nv) z.1 (bif decide ((0 : Int) <= Qcv.l s /\ Qcv.l s < (9 : Int)) then Sto.evict (Qcv.s s) (Int.toNat (Qcv.l s)) else Qcv.s s) (stC (Sh.w z) r) (stA r) (stD r) (evB mh ch zh) (vdB mv cv zv) [])) (by kernel_rfl) ?_
 have h0 : (⟨z, r, mh, ch, nh, zh, mv, cv, nv, zv⟩ : ShS).good := h0
 refine ⟨⟨z.s, a⟩, rfl, rfl, trivial, fun _ _ => ?_⟩
 exact Qi rfl ⟨⟨{ z with s := bif decide (0 <= a /\ a < 9) then z.s.evict a.toNat else z.s }, r, mh, ch, nh, zh, mv, cv, nv, zv⟩, ()⟩ ⟨⟨h0.w, h0.h1, h0.h2, h0.h, h0.v1, h0.v2, h0.v⟩, (QnR z a).symm, trivial⟩ rfl rfl rfl
def recF (z : Sh) (n : Nat) : Nat -> Int := fun j => bif decide (j < n) then z.cur j else 0
def recC : TCon Sh Unit Unit where
 pre z _ := 0 <= z.s.now 0 /\ z.s.now 0 < 1000000000
 args _ := []
 ok _ _ _ := True
 next z _ _ := z
 val _ z _ _ := .o (.a [.ints (.int .u64) 32 (recF z 32)])
 new _ _ _ _ := []
 len := 0
abbrev Qms : MCon := recC.low shM ShS.z ShS.good 17 7 Qcg
structure RecG where
 i : Nat
 hi : i <= 32
def QoA (s : ShS) : Ann where
 σ := RecG
 I g := ([(0, .o (.c (.p 0 0))), (2, .o (.c (.p 17 0))), (3, .o (.c (.p 18 0))), (4, sv (.int .i64 (Qq (s.z.s.now 0) : Nat))), (13, sv (.int .i64 g.i))], shM s ++ [.cells [.ints (.int .u64) 32 (fun _ => 0)] 35, .cells [.ints (.int .u64) 32 (recF s.z g.i)] 35])
 dec g := 32 - g.i
 pi env M := shAt M 0 ++ [blkE env 2, blkE env 3]
 nz := []
theorem QoY : (Con.mem Qms).holds Tryz.prog 45 := by
 intro w0 S
 refine Qb (Γ := [(42, .inl Tryz.f42 (Tryz.f42.body.getD .skip)), (26, .mem QI)]) (fun _ => noW) Tryz.func45 rfl (by kernel_rfl) Qf Qc (fun w S' _ _ => .cons ⟨by kernel_rfl, rfl, rfl⟩ (.cons (QL w S') (.nil _ _ _))) Qms (fun s => [(45, [(0, QoA s.1)])]) (fun x0 h => by cases h) (fun s ρ w _ _ _ => Qh w _) [] (fun _ M => shAt M 0) 600 ?_
 rintro ⟨⟨z, r, mh, ch, nh, zh, mv, cv, nv, zv⟩, ⟨⟩⟩ W ⟨h0, h1, h2⟩ -
 refine ⟨rfl, ?_⟩
 dsimp only
 refine Qj (q := ∃ (s : Qt), [aP 2 0, aI 0] = [aP 2 0, aI s.2] /\ [stoB (Sh.s z)] = [stoB (Qt.s s)] /\ (iR s.2 (72 : Int)) /\ ∀ (x : Unit), True -> (2 : Int) ≠ (0 : Int) /\ (8 : Int) ≠ (0 : Int) /\ (∃ (s0 : Ann.σ (QoA (ShS.mk z r mh ch nh zh mv cv nv zv))), (eS (aP 0 0) (aP 0 0) /\ eS (aP 17 0) (aP 17 0) /\ eS (aP 18 0) (aP 18 0) /\ eS (aI (IntKind.wrap .i64 (IntKind.wrap .i64 ((1 : Int) + IntKind.wrap .i64 (Int.tdiv (IntKind.wrap .i64 (Int.tmod (IntKind.wrap .i64 ((Qt.s s).1 (Int.toNat s.2))) (2 : Int) * (32 : Int))) (8 : Int))) * (8 : Int)))) (aI (↑(Qq ((Sh.s z).1 0)) : Int)) /\ eS (aI 0) (aI ↑s0.1) /\ True) /\ (shI (shD z.4 z.5 15 (List.length z.6) ch nh 16 (List.length z.7) cv nv) z.1 (Qt.s s) (stC (Sh.w z) r) (stA r) (stD r) (evB mh ch zh) (vdB mv cv zv) [SB.cells [nU 32 zF] 35, SB.cells [nU 32 zF] 35]) = (shI (shD z.4 z.5 15 (List.length z.6) ch nh 16 (List.length z.7) cv nv) z.1 (Sh.s z) (stC (Sh.w z) r) (stA r) (stD r) (evB mh ch zh) (vdB mv cv zv) [SB.cells [nU 32 zF] 35, SB.cells [nU 32 fun (j : Nat) => bif decide (j < s0.1) then Sh.cur z j else (0 : Int)] 35])) /\ ∀ (s : RecG), bif decide ((↑s.1 : Int) < (32 : Int)) then ∃ (s_1 : Qt), [aP 2 0, aI (IntKind.wrap .i64 ((↑(Qq ((Sh.s z).1 0)) : Int) + (↑s.1 : Int)))] = [aP 2 0, aI s_1.2] /\ [stoB (Sh.s z)] = [stoB (Qt.s s_1)] /\ (iR s_1.2 (72 : Int)) /\ ∀ (x : Unit), True -> (iR (↑s.1 : Int) (32 : Int)) /\ Int.toNat (↑s.1 : Int) < 32 /\ ∃ (s' : RecG), ((eS (aP 0 0) (aP 0 0) /\ eS (aP 17 0) (aP 17 0) /\ eS (aP 18 0) (aP 18 0) /\ eS (aI (↑(Qq ((Sh.s z).1 0)) : Int)) (aI (↑(Qq ((Sh.s z).1 0)) : Int)) /\ eS (aI (IntKind.wrap .i64 ((↑s.1 : Int) + (1 : Int)))) (aI ↑s'.1) /\ True) /\ (shI (shD z.4 z.5 15 (List.length z.6) ch nh 16 (List.length z.7) cv nv) z.1 (Qt.s s_1) (stC (Sh.w z) r) (stA r) (stD r) (evB mh ch zh) (vdB mv cv zv) [SB.cells [nU 32 zF] 35, SB.cells [nU 32 fun (i : Nat) => bif Nat.beq i (Int.toNat (↑s.1 : Int)) then (Qt.s s_1).1 (Int.toNat s_1.2) else bif decide (i < s.1) then Sh.cur z i else (0 : Int)] 35]) = (shI (shD z.4 z.5 15 (List.length z.6) ch nh 16 (List.length z.7) cv nv) z.1 (Sh.s z) (stC (Sh.w z) r) (stA r) (stD r) (evB mh ch zh) (vdB mv cv zv) [SB.cells [nU 32 zF] 35, SB.cells [nU 32 fun (j : Nat) => bif decide (j < s'.1) then Sh.cur z j else (0 : Int)] 35])) /\ 32 - s'.1 < 32 - s.1 else endN Qms [] (fun (x : SV) (M : List SB) => shAt M 0) (ShS.mk z r mh ch nh zh mv cv nv zv, PUnit.unit) (SV.o (SA.a [nU 32 fun (j : Nat) => bif decide (j < s.1) then Sh.cur z j else (0 : Int)])) (shI (shD z.4 z.5 15 (List.length z.6) ch nh 16 (List.length z.7) cv nv) z.1 (Sh.s z) (stC (Sh.w z) r) (stA r) (stD r) (evB mh ch zh) (vdB mv cv zv) [SB.cells [nU 32 fun (j : Nat) => bif decide (j < s.1) then Sh.cur z j else (0 : Int)] 35, SB.cells [nU 32 fun (j : Nat) => bif decide (j < s.1) then Sh.cur z j else (0 : Int)] 35])) (by kernel_rfl) ?_
 have h0 : (⟨z, r, mh, ch, nh, zh, mv, cv, nv, zv⟩ : ShS).good := h0
 have h1 : 0 <= z.s.now 0 := h1
 have h2 : z.s.now 0 < 1000000000 := h2
 refine ⟨⟨z.s, 0⟩, rfl, rfl, ⟨(by decide : (0 : Int) <= 0), (by decide : (0 : Int) < 72)⟩, fun _ _ => ?_⟩
 have eb : IntKind.wrap .i64 (IntKind.wrap .i64 (1 + IntKind.wrap .i64 (Int.tdiv (IntKind.wrap .i64 (Int.tmod (IntKind.wrap .i64 (z.s.now (Int.toNat 0))) 2 * 32)) 8)) * 8) = ((Qq (z.s.now 0) : Nat) : Int) := by
   rw [show Int.toNat 0 = 0 from rfl, QC (x := z.s.now 0) (by omega) (by omega)]
   unfold Qq
   rw [Int.tmod_eq_emod_of_nonneg h1]
   rcases (show z.s.now 0 % 2 = 0 \/ z.s.now 0 % 2 = 1 by omega) with h | h <;> (rw [h]; rfl)
 have hb := QdO (z.s.now 0)
 refine ⟨by decide, by decide, ⟨⟨0, by decide⟩, ⟨rfl, rfl, rfl, svI eb, rfl, trivial⟩, ?_⟩, ?_⟩
 · have : recF z 0 = fun _ => 0 := funext fun j => by unfold recF; rw [decide_eq_false (Nat.not_lt_zero _)]; rfl
   exact (congrArg (fun f => shM ⟨z, r, mh, ch, nh, zh, mv, cv, nv, zv⟩ ++ [SB.cells [.ints (.int .u64) 32 (fun _ => 0)] 35, SB.cells [.ints (.int .u64) 32 f] 35]) this.symm)
 · rintro ⟨i, hi⟩
   dsimp only at hi ⊢
   refine Qp (fun hlt => ?_) (fun hge => ?_)
   · have ea : IntKind.wrap .i64 (((Qq (z.s.now 0) : Nat) : Int) + (i : Int)) = ((Qq (z.s.now 0) + i : Nat) : Int) := by rw [QC (by omega) (by omega)]; omega
     rw [ea]
     refine ⟨⟨z.s, ((Qq (z.s.now 0) + i : Nat) : Int)⟩, rfl, rfl, ⟨(by omega : (0 : Int) <= ((Qq (z.s.now 0) + i : Nat) : Int)), (by omega : ((Qq (z.s.now 0) + i : Nat) : Int) < 72)⟩, fun _ _ => ⟨⟨by omega, by omega⟩, by omega, ⟨i + 1, by omega⟩, ⟨⟨rfl, rfl, rfl, rfl, svI (sucI (by omega)), trivial⟩, ?_⟩, by dsimp only; omega⟩⟩
     have : (fun j => bif Nat.beq j i then z.s.now (((Qq (z.s.now 0) + i : Nat) : Int)).toNat else recF z i j) = recF z (i + 1) := funext fun j => by
       unfold recF Sh.cur
       by_cases e : j = i
       · subst e; rw [Nat.beq_refl, decide_eq_true (show j < j + 1 by omega), Int.toNat_natCast]; rfl
       · rw [show Nat.beq j i = false from nbeqF e, show decide (j < i + 1) = decide (j < i) from decide_eq_decide.2 (by omega)]; rfl
     exact (congrArg (fun f => shM ⟨z, r, mh, ch, nh, zh, mv, cv, nv, zv⟩ ++ [SB.cells [.ints (.int .u64) 32 (fun _ => 0)] 35, SB.cells [.ints (.int .u64) 32 f] 35]) this)
   · obtain rfl : i = 32 := by omega
     exact Qi rfl ⟨⟨z, r, mh, ch, nh, zh, mv, cv, nv, zv⟩, ()⟩ ⟨h0, rfl, trivial⟩ rfl rfl rfl
structure RwR where
 m : Nat
 c : Nat
 nn : Bool
 z : Nat -> Nat -> Int
def ddsC : TCon Sh Unit RwR where
 pre z _ := z.deeds.length <= 1000000000
 args _ := []
 ok z _ r := (z.deeds.length <= r.m /\ r.m <= r.c) /\ IsR 6 Dd.at Dd.nil r.z (z.deeds.map Vd.d)
 next z _ _ := z
 val n z _ r := .o (.c (.so n 0 6 z.deeds.length r.c r.nn))
 new _ _ _ r := [wkD r.m r.c r.z]
 len := 1
abbrev Qmu : MCon := ddsC.low shM ShS.z ShS.good 17 7 Qcg
structure DdsG (z : Sh) where
 i : Nat
 ln : Nat
 r : RwR
 hi : i <= z.deeds.length
 hl : i = ln
 h1 : i <= r.m
 h2 : r.m <= r.c
 h : IsR 6 Dd.at Dd.nil r.z ((z.deeds.take i).map Vd.d)
abbrev nzDd (t : Nat) : NZ := .tmp t 60 6 [.int .i64, .int .i64, .int .i64, .int .i64, .int .i64, .int .i64]
def QoE (s : ShS) : Ann where
 σ := DdsG s.z
 I g := ([(0, .o (.c (.p 0 0))), (3, .o (.c (.so 17 0 6 g.ln g.r.c g.r.nn))), (9, .o (.c (.so 16 0 7 s.z.deeds.length s.cv s.nv))), (10, sv (.int .i64 s.z.deeds.length)), (11, sv (.int .i64 g.i))], shM s ++ [wkD g.r.m g.r.c g.r.z])
 dec g := s.z.deeds.length - g.i
 pi env M := shAt M 0 ++ [blkE env 3]
 nz := [nzDd 3]
theorem Qpk : (Con.mem Qmu).holds Tryz.prog 43 := by
 intro w0 S
 refine Qb (Γ := []) (fun _ => noW) Tryz.func43 rfl (by kernel_rfl) Qf Qc (fun w S' _ _ => .nil _ _ _) Qmu (fun s => [(43, [(0, QoE s.1)])]) (fun x0 h => by cases h) (fun s ρ w _ _ _ => Qh w _) [] (fun x M => shAt M 0 ++ (match x with
   | .o (.c (.so b _ _ _ _ _)) => [b]
   | _ => [])) 600 ?_
 rintro ⟨⟨z, r, mh, ch, nh, zh, mv, cv, nv, zv⟩, ⟨⟩⟩ W ⟨h0, h1⟩ -
 refine ⟨rfl, ?_⟩
 dsimp only
 refine Qj (q := List.length z.7 <= cv /\ (∃ (s0 : Ann.σ (QoE (ShS.mk z r mh ch nh zh mv cv nv zv))), (eS (aP 0 0) (aP 0 0) /\ eS (SA.c (.so 17 0 6 0 0 false)) (SA.c (.so 17 0 6 s0.2 (DdsG.r s0).2 (DdsG.r s0).3)) /\ eS (SA.c (.so 16 0 7 (List.length z.7) cv nv)) (SA.c (.so 16 0 7 (List.length z.7) cv nv)) /\ eS (aI (↑(List.length z.7) : Int)) (aI (↑(List.length z.7) : Int)) /\ eS (aI 0) (aI ↑s0.1) /\ True) /\ (shI (shD z.4 z.5 15 (List.length z.6) ch nh 16 (List.length z.7) cv nv) z.1 (Sh.s z) (stC (Sh.w z) r) (stA r) (stD r) (evB mh ch zh) (vdB mv cv zv) [wd0]) = (shI (shD z.4 z.5 15 (List.length z.6) ch nh 16 (List.length z.7) cv nv) z.1 (Sh.s z) (stC (Sh.w z) r) (stA r) (stD r) (evB mh ch zh) (vdB mv cv zv) [wkD (DdsG.r s0).1 (DdsG.r s0).2 (DdsG.r s0).4])) /\ ∀ (s : DdsG z), bif decide ((↑s.1 : Int) < (↑(List.length z.7) : Int)) then ((0 : Int) <= (↑s.1 : Int) /\ (↑s.1 : Int) < (↑(List.length z.7) : Int) /\ 0 + List.length z.7 <= cv) /\ 0 + Int.toNat (↑s.1 : Int) < mv /\ ((s.2 <= (DdsG.r s).1 /\ (DdsG.r s).2 = (DdsG.r s).2) /\ (1 <= 1 /\ 1 = 1) /\ s.2 + 1 <= 68719476736) /\ ∀ (c : Nat), s.2 + 1 <= c -> ∃ (s' : DdsG z), ((eS (aP 0 0) (aP 0 0) /\ eS (SA.c (.so 20 0 6 (s.2 + 1) c (DdsG.r s).3)) (SA.c (.so 20 0 6 s'.2 (DdsG.r s').2 (DdsG.r s').3)) /\ eS (SA.c (.so 16 0 7 (List.length z.7) cv nv)) (SA.c (.so 16 0 7 (List.length z.7) cv nv)) /\ eS (aI (↑(List.length z.7) : Int)) (aI (↑(List.length z.7) : Int)) /\ eS (aI (IntKind.wrap .i64 ((↑s.1 : Int) + (1 : Int)))) (aI ↑s'.1) /\ True) /\ (shI (shD z.4 z.5 15 (List.length z.6) ch nh 16 (List.length z.7) cv nv) z.1 (Sh.s z) (stC (Sh.w z) r) (stA r) (stD r) (evB mh ch zh) (vdB mv cv zv) [wkD (s.2 + 1) c fun (i j : Nat) => bif Nat.ble (i + 1) s.2 then (DdsG.r s).4 i j else match List.get?Internal (match List.get?Internal [[zv (0 + Int.toNat (↑s.1 : Int)) 1, zv (0 + Int.toNat (↑s.1 : Int)) 2, zv (0 + Int.toNat (↑s.1 : Int)) 3, zv (0 + Int.toNat (↑s.1 : Int)) 4, zv (0 + Int.toNat (↑s.1 : Int)) 5, zv (0 + Int.toNat (↑s.1 : Int)) 6]] (0 + (i - s.2)) with | some x => x | none => []) j with | some x => x | none => (0 : Int)]) = (shI (shD z.4 z.5 15 (List.length z.6) ch nh 16 (List.length z.7) cv nv) z.1 (Sh.s z) (stC (Sh.w z) r) (stA r) (stD r) (evB mh ch zh) (vdB mv cv zv) [wkD (DdsG.r s').1 (DdsG.r s').2 (DdsG.r s').4])) /\ List.length z.7 - s'.1 < List.length z.7 - s.1 else endN Qmu [] (fun (x : SV) (M : List SB) => shAt M 0 ++ match x with | SV.o (SA.c (.so b lo sz n c nn)) => [b] | x => []) (ShS.mk z r mh ch nh zh mv cv nv zv, PUnit.unit) (SV.o (SA.c (.so 17 0 6 s.2 (DdsG.r s).2 (DdsG.r s).3))) (shI (shD z.4 z.5 15 (List.length z.6) ch nh 16 (List.length z.7) cv nv) z.1 (Sh.s z) (stC (Sh.w z) r) (stA r) (stD r) (evB mh ch zh) (vdB mv cv zv) [wkD (DdsG.r s).1 (DdsG.r s).2 (DdsG.r s).4])) (by kernel_rfl) ?_
 have h0 : (⟨z, r, mh, ch, nh, zh, mv, cv, nv, zv⟩ : ShS).good := h0
 have h1 : z.deeds.length <= 1000000000 := h1
 have hv1 := h0.v1
 have hv2 := h0.v2
 have hzv := h0.v
 dsimp only at hv1 hv2 hzv
 refine ⟨by omega, ⟨⟨0, 0, ⟨0, 0, false, fun _ _ => 0⟩, Nat.zero_le _, rfl, Nat.le_refl _, Nat.le_refl _, fun i hi => absurd hi (Nat.not_lt_zero _)⟩, ⟨rfl, rfl, rfl, rfl, rfl, trivial⟩, rfl⟩, ?_⟩
 rintro ⟨i, ln, ⟨m, c, nn, zz⟩, hi, hl, g1, g2, gz⟩
 dsimp only at hi hl g1 g2 gz ⊢
 subst hl
 refine Qp (fun hlt => ?_) (fun hge => ?_)
 · have hlt' : i < z.deeds.length := by omega
   have hx : (z.deeds.take (i + 1)).map Vd.d = (z.deeds.take i).map Vd.d ++ [(z.deeds.getD i Vd.nil).d] := by
     rw [List.take_add_one, List.getElem?_eq_getElem hlt', Option.toList_some, List.map_append, List.getD_eq_getElem?_getD, List.getElem?_eq_getElem hlt']; rfl
   have hlen : ((z.deeds.take i).map Vd.d).length = i := by rw [List.length_map, List.length_take]; omega
   refine ⟨⟨by omega, by omega, by omega⟩, by omega, ⟨⟨g1, rfl⟩, ⟨Nat.le_refl _, rfl⟩, by omega⟩, fun c' hc' => ⟨⟨i + 1, i + 1, ⟨i + 1, c', nn, _⟩, hlt', rfl, Nat.le_refl _, hc', ?_⟩, ⟨⟨rfl, rfl, rfl, rfl, svI (sucI (by omega)), trivial⟩, rfl⟩, by dsimp only; omega⟩⟩
   rw [hx]
   refine gz.snoc (fun j hj k _ => catT (by omega)) (fun j hj => ?_)
   rw [hlen]
   refine catF.trans ?_
   rw [Nat.sub_self, Int.toNat_natCast, Nat.zero_add]
   have hq := hzv i hlt'
   match j, hj with
   | 0, _ => exact hq 1 (by decide)
   | 1, _ => exact hq 2 (by decide)
   | 2, _ => exact hq 3 (by decide)
   | 3, _ => exact hq 4 (by decide)
   | 4, _ => exact hq 5 (by decide)
   | 5, _ => exact hq 6 (by decide)
 · obtain rfl : i = z.deeds.length := by omega
   rw [List.take_length] at gz
   exact Qi rfl ⟨⟨z, r, mh, ch, nh, zh, mv, cv, nv, zv⟩, ⟨m, c, nn, zz⟩⟩ ⟨h0, rfl, ⟨g1, g2⟩, gz⟩ rfl rfl rfl
def hisC : TCon Sh Unit RwR where
 pre z _ := z.hist.length <= 1000000000
 args _ := []
 ok z _ r := (z.hist.length <= r.m /\ r.m <= r.c) /\ IsE r.z z.hist
 next z _ _ := z
 val n z _ r := .o (.c (.so n 0 9 z.hist.length r.c r.nn))
 new _ _ _ r := [evB r.m r.c r.z]
 len := 1
abbrev Qmt : MCon := hisC.low shM ShS.z ShS.good 17 7 Qcg
theorem Qpd : (Con.mem Qmt).holds Tryz.prog 37 := by
 intro w0 S
 refine Qb (Γ := []) (fun _ => noW) Tryz.func37 rfl (by kernel_rfl) Qf Qc (fun w S' _ _ => .nil _ _ _) Qmt (fun s => []) (fun x0 h => by cases h) (fun s ρ w _ _ _ => Qh w _) [] (fun x M => shAt M 0 ++ (match x with
   | .o (.c (.so b _ _ _ _ _)) => [b]
   | _ => [])) 600 ?_
 rintro ⟨⟨z, r, mh, ch, nh, zh, mv, cv, nv, zv⟩, ⟨⟩⟩ W ⟨h0, h1⟩ -
 refine ⟨rfl, ?_⟩
 refine Qj (q := (True /\ (0 + List.length z.6 <= mh /\ ch = ch) /\ 0 + List.length z.6 <= 68719476736) /\ ∀ (c : Nat), 0 + List.length z.6 <= c -> endN Qmt [] (fun (x : SV) (M : List SB) => shAt M 0 ++ match x with | SV.o (SA.c (.so b lo sz n c nn)) => [b] | x => []) (ShS.mk z r mh ch nh zh mv cv nv zv, PUnit.unit) (SV.o (SA.c (.so 17 0 9 (0 + List.length z.6) c false))) (shI (shD z.4 z.5 15 (List.length z.6) ch nh 16 (List.length z.7) cv nv) z.1 (Sh.s z) (stC (Sh.w z) r) (stA r) (stD r) (evB mh ch zh) (vdB mv cv zv) [evB (0 + List.length z.6) c fun (i j : Nat) => zh (0 + i) j])) (by kernel_rfl) ?_
 have h0 : (⟨z, r, mh, ch, nh, zh, mv, cv, nv, zv⟩ : ShS).good := h0
 have h1 : z.hist.length <= 1000000000 := h1
 have hh1 := h0.h1
 have hh2 := h0.h2
 have hzh := h0.h
 dsimp only at hh1 hh2 hzh
 refine ⟨⟨trivial, ⟨by omega, rfl⟩, by omega⟩, fun c hc => ?_⟩
 rw [Nat.zero_add] at hc ⊢
 refine Qi rfl ⟨⟨z, r, mh, ch, nh, zh, mv, cv, nv, zv⟩, ⟨z.hist.length, c, false, _⟩⟩ ⟨h0, rfl, ⟨Nat.le_refl _, hc⟩, hzh.sub (fun j hj k _ => ?_)⟩ rfl rfl rfl
 show zh (0 + j) k = zh j k
 rw [Nat.zero_add]
def oneC (t : Nat) : TCon Sh Unit Unit where
 pre z _ := True
 args _ := [.c (.v (.int .i64 t))]
 ok _ _ _ := True
 next z _ _ := z
 val n z _ _ := .t [.c (.p (bif n.beq 17 then 3 + t else 0) 0), .c (.v .nilIface)]
 new _ _ _ _ := []
 len := 0
abbrev QdF (t : Nat) : MCon := (oneC t).low shM ShS.z ShS.good 17 7 Qcg
def Qel (n0 : Nat) (n1 : Nat) (z : Sh) (r : Nat -> WkR) (mh : Nat) (ch : Nat) (nh : Bool) (zh : Nat -> Nat -> Int) (mv : Nat) (cv : Nat) (nv : Bool) (zv : Nat -> Nat -> Int) : Prop := (iR (n0 : Int) (4 : Int)) /\ endN (QdF n0) [] (fun (x : SV) (M : List SB) => shAt M 0) (ShS.mk z r mh ch nh zh mv cv nv zv, PUnit.unit) (SV.t [aP n1 0, SA.c (.v Value.nilIface)]) (shI (shD z.4 z.5 15 (List.length z.6) ch nh 16 (List.length z.7) cv nv) z.1 (Sh.s z) (stC (Sh.w z) r) (stA r) (stD r) (evB mh ch zh) (vdB mv cv zv) [])
theorem QiV : (Con.mem (QdF 0)).holds Tryz.prog 77 := by
 intro w0 S
 refine Qb (Γ := []) (fun _ => noW) Tryz.func77 rfl (by kernel_rfl) Qf Qc (fun w S' _ _ => .nil _ _ _) (QdF 0) (fun _ => []) (fun x0 h => by cases h) (fun s ρ w _ _ _ => Qh w _) [] (fun _ M => shAt M 0) 600 ?_
 rintro ⟨⟨z, r, mh, ch, nh, zh, mv, cv, nv, zv⟩, ⟨⟩⟩ W ⟨h0, -⟩ -
 refine ⟨rfl, ?_⟩
 refine Qj (q := Qel 0 3 z r mh ch nh zh mv cv nv zv) (by kernel_rfl) ?_
 unfold Qel
 have h0 : (⟨z, r, mh, ch, nh, zh, mv, cv, nv, zv⟩ : ShS).good := h0
 exact ⟨⟨by decide, by decide⟩, Qi rfl ⟨⟨z, r, mh, ch, nh, zh, mv, cv, nv, zv⟩, ()⟩ ⟨h0, rfl, trivial⟩ rfl rfl rfl⟩
theorem Qnm : (Con.mem (QdF 1)).holds Tryz.prog 77 := by
 intro w0 S
 refine Qb (Γ := []) (fun _ => noW) Tryz.func77 rfl (by kernel_rfl) Qf Qc (fun w S' _ _ => .nil _ _ _) (QdF 1) (fun _ => []) (fun x0 h => by cases h) (fun s ρ w _ _ _ => Qh w _) [] (fun _ M => shAt M 0) 600 ?_
 rintro ⟨⟨z, r, mh, ch, nh, zh, mv, cv, nv, zv⟩, ⟨⟩⟩ W ⟨h0, -⟩ -
 refine ⟨rfl, ?_⟩
 refine Qj (q := Qel 1 4 z r mh ch nh zh mv cv nv zv) (by kernel_rfl) ?_
 unfold Qel
 have h0 : (⟨z, r, mh, ch, nh, zh, mv, cv, nv, zv⟩ : ShS).good := h0
 exact ⟨⟨by decide, by decide⟩, Qi rfl ⟨⟨z, r, mh, ch, nh, zh, mv, cv, nv, zv⟩, ()⟩ ⟨h0, rfl, trivial⟩ rfl rfl rfl⟩
theorem Qnl : (Con.mem (QdF 2)).holds Tryz.prog 77 := by
 intro w0 S
 refine Qb (Γ := []) (fun _ => noW) Tryz.func77 rfl (by kernel_rfl) Qf Qc (fun w S' _ _ => .nil _ _ _) (QdF 2) (fun _ => []) (fun x0 h => by cases h) (fun s ρ w _ _ _ => Qh w _) [] (fun _ M => shAt M 0) 600 ?_
 rintro ⟨⟨z, r, mh, ch, nh, zh, mv, cv, nv, zv⟩, ⟨⟩⟩ W ⟨h0, -⟩ -
 refine ⟨rfl, ?_⟩
 refine Qj (q := Qel 2 5 z r mh ch nh zh mv cv nv zv) (by kernel_rfl) ?_
 unfold Qel
 have h0 : (⟨z, r, mh, ch, nh, zh, mv, cv, nv, zv⟩ : ShS).good := h0
 exact ⟨⟨by decide, by decide⟩, Qi rfl ⟨⟨z, r, mh, ch, nh, zh, mv, cv, nv, zv⟩, ()⟩ ⟨h0, rfl, trivial⟩ rfl rfl rfl⟩
theorem Qnk : (Con.mem (QdF 3)).holds Tryz.prog 77 := by
 intro w0 S
 refine Qb (Γ := []) (fun _ => noW) Tryz.func77 rfl (by kernel_rfl) Qf Qc (fun w S' _ _ => .nil _ _ _) (QdF 3) (fun _ => []) (fun x0 h => by cases h) (fun s ρ w _ _ _ => Qh w _) [] (fun _ M => shAt M 0) 600 ?_
 rintro ⟨⟨z, r, mh, ch, nh, zh, mv, cv, nv, zv⟩, ⟨⟩⟩ W ⟨h0, -⟩ -
 refine ⟨rfl, ?_⟩
 refine Qj (q := Qel 3 6 z r mh ch nh zh mv cv nv zv) (by kernel_rfl) ?_
 unfold Qel
 have h0 : (⟨z, r, mh, ch, nh, zh, mv, cv, nv, zv⟩ : ShS).good := h0
 exact ⟨⟨by decide, by decide⟩, Qi rfl ⟨⟨z, r, mh, ch, nh, zh, mv, cv, nv, zv⟩, ()⟩ ⟨h0, rfl, trivial⟩ rfl rfl rfl⟩
theorem Qo2 (v : Value) (a : Int) (h : a < 0 \/ 4 <= a) (w : World) : Calls Tryz.prog 77 #[v, .int .i64 a] w fun e w' => e = .returned (.tuple #[.pointer none, .iface 108 (.int .i64 2)]) /\ w = w' := by
 rcases h with h | h
 · have h1 : decide (a < 0) = true := decide_eq_true h
   go_enter Tryz.func77, Tryz.ntmps77
   go_wp2
   go_ret2
   exact ⟨rfl, rfl⟩
 · have h1 : decide (a < 0) = false := decide_eq_false (by omega)
   have h2 : decide (a >= 4) = true := decide_eq_true h
   go_enter Tryz.func77, Tryz.ntmps77
   go_wp2
   go_ret2
   exact ⟨rfl, rfl⟩
def QgN : PCon := ⟨fun args => match args with
 | [.c _, .c (.v (.int .i64 a))] => a < 0 \/ 4 <= a
 | _ => False, fun args => .t [.c (.v (.pointer none)), .c (.v (.iface 108 (.int .i64 2)))], fun _ => none⟩
theorem QiU : (Con.pure QgN).holds Tryz.prog 77 := by
 intro w0 S
 refine ⟨by kernel_rfl, fun ρ args w hp hK => ?_⟩
 unfold QgN at hp; dsimp only at hp; split at hp
 case h_2 => exact hp.elim
 rename_i x a
 refine (Qo2 (x.den ρ) a hp w).mono ?_
 rintro e w' ⟨rfl, rfl⟩
 exact ⟨rfl, Below.refl _ _⟩
def calX : TCon Sh (Int × OpA) Unit where
 pre z a := a.1 < 0 \/ 4 <= a.1
 args a := [.c (.v (.int .i64 a.1)), .a [.one (.v (.int .i64 a.2.k)), .one (.v (.int .i64 a.2.key)), .one (.v (.int .i64 a.2.x))]]
 ok _ _ _ := True
 next z _ _ := z
 val n z _ _ := .o (.c (.v (.iface 108 (.int .i64 2))))
 new _ _ _ _ := []
 len := 0
abbrev Qit : MCon := calX.low shM ShS.z ShS.good 17 7 Qcg
theorem Qn9 : (Con.mem Qit).holds Tryz.prog 39 := by
 intro w0 S
 refine Qb (Γ := [(77, .pure QgN)]) (fun _ => noW) Tryz.func39 rfl (by kernel_rfl) Qf Qc (fun w S' _ _ => .cons (QiU w _) (.nil _ _ _)) Qit (fun _ => []) (fun x0 h => by cases h) (fun s ρ w _ _ _ => Qh w _) [] (fun _ M => shAt M 0) 600 ?_
 rintro ⟨⟨z, r, mh, ch, nh, zh, mv, cv, nv, zv⟩, a, k, key, x⟩ W ⟨h0, h1⟩ -
 refine ⟨rfl, ?_⟩
 refine Qj (q := (a < (0 : Int) \/ (4 : Int) <= a) /\ endN Qit [] (fun (x : SV) (M : List SB) => shAt M 0) (ShS.mk z r mh ch nh zh mv cv nv zv, a, OpA.mk k key x) (SV.o (SA.c (.v (.iface 108 (Value.int .i64 (2 : Int)))))) (shI (shD z.4 z.5 15 (List.length z.6) ch nh 16 (List.length z.7) cv nv) z.1 (Sh.s z) (stC (Sh.w z) r) (stA r) (stD r) (evB mh ch zh) (vdB mv cv zv) [SB.cells [sI k, sI key, sI x] 32])) (by kernel_rfl) ?_
 have h0 : (⟨z, r, mh, ch, nh, zh, mv, cv, nv, zv⟩ : ShS).good := h0
 exact ⟨h1, Qi rfl ⟨⟨z, r, mh, ch, nh, zh, mv, cv, nv, zv⟩, ()⟩ ⟨h0, rfl, trivial⟩ rfl rfl rfl⟩
def TCon.Does {X Y α χ : Type} (c : TCon Y α χ) (L : X -> List SB) (y : X -> Y) (good : X -> Prop) (P : Program) (w0 : World) (S : Nat -> Prop) (f : FuncId) (a : α) : Prop :=
 ∀ (ρ : Nat -> Nat) (z : Y) (F : List Nat) (w : World), c.pre z a -> Kept S w0 w -> Mem w (feet (denM ρ 0 [.abs (Qz L y good z) F])) (denM ρ 0 [.abs (Qz L y good z) F]) w ->
   Calls P f ((SA.c (.p 0 0) :: c.args a).map (SA.den ρ)).toArray w fun e w' => ∃ (x : List Nat × χ) (ρ' : Nat -> Nat), c.ok z a x.2 /\ (∀ i, i < 1 -> ρ' i = ρ i) /\ (SB.abs (Qz L y good (c.next z a x.2)) x.1 :: c.new 1 z a x.2).length = 1 + c.len /\ e = .returned ((c.val 1 z a x.2).den ρ') /\
     Mem w (feet (denM ρ 0 [.abs (Qz L y good z) F])) (denM ρ' 0 (.abs (Qz L y good (c.next z a x.2)) x.1 :: c.new 1 z a x.2)) w'
theorem TCon.high_of {X Y α χ : Type} {c : TCon Y α χ} {L : X -> List SB} {y : X -> Y} {good : X -> Prop} {P : Program} {f : FuncId} {w0 : World} {S : Nat -> Prop} (he : Qbk P f = true) (h : ∀ a, c.Does L y good P w0 S f a) : (Con.mem (c.high L y good)).holdsAt P w0 S f :=
 ⟨he, fun x0 h => (by cases h), fun ρ s w hp hK HM => h s.2.1 ρ s.1 s.2.2 w hp hK HM⟩
theorem TCon.does_of {X Y α χ α' χ' : Type} (c : TCon Y α χ) (c' : TCon Y α' χ') {L : X -> List SB} {y : X -> Y} {good : X -> Prop} {n k : Nat} {find : List SA -> List SB -> Option (List Nat)} {P : Program} {f : FuncId} {w0 : World} {S : Nat -> Prop}
   (h : (Con.mem (c.low L y good n k find)).holdsAt P w0 S f) (hk : 0 < k) (hn : ∀ x, good x -> (L x).length = n) (a : α) (a' : α') (harg : c'.args a' = c.args a) (ha : QaI (sc 1) (c.args a) = true) (hpre : ∀ z, c'.pre z a' -> c.pre z a)
   (hv : ∀ z r, c'.pre (y z) a' -> c.ok (y z) a r -> ∀ ρ ρ' : Nat -> Nat, (∀ i, ρ' (1 + i) = ρ (n + i)) -> ρ' 0 = ρ 0 -> ∃ r', c'.ok (y z) a' r' /\ c'.next (y z) a' r' = c.next (y z) a r /\ (c'.val 1 (y z) a' r').den ρ' = (c.val n (y z) a r).den ρ /\ denM ρ' 1 (c'.new 1 (y z) a' r') = denM ρ n (c.new n (y z) a r) /\ (c'.new 1 (y z) a' r').length = c'.len) : c'.Does L y good P w0 S f a' := by
 intro ρ z F w hp hK HM
 have hA := HM.holds (.abs (ρ 0) (Qz L y good z) F) (List.mem_singleton.2 rfl)
 obtain ⟨x, ρ1, rfl, hg, hρ, HM1, hF⟩ := hA
 have harg2 : (SA.c (.p 0 0) :: c'.args a').map (SA.den ρ) = (SA.c (.p 0 0) :: c.args a).map (SA.den ρ1) := by
   rw [harg]
   refine List.map_congr_left fun v hv => ?_
   have hav : v.av (sc 1) = true := by
     rcases List.mem_cons.1 hv with rfl | hv
     · rfl
     · exact Qbe ha v hv
   exact SA.av_den (fun i hi => by have := Xv hi; obtain rfl : i = 0 := (by omega); exact hρ.symm) hav
 have hfe : ∀ g, feet (denM ρ 0 [.abs (Qz L y good (y x)) F]) g ↔ feet (denM ρ1 0 (L x)) g := fun g => by
   rw [hF g]
   exact ⟨fun ⟨e, he, hf⟩ => by obtain rfl := List.mem_singleton.1 he; exact hf, fun hg => ⟨_, List.mem_singleton.2 rfl, hg⟩⟩
 have := h.2.2 ρ1 (x, a) w ⟨hg, hpre _ hp⟩ hK HM1
 rw [harg2]
 refine this.mono ?_
 rintro e w' ⟨⟨x', r⟩, ρ', ⟨hg', hy', hok⟩, hag, hlen, rfl, HM'⟩
 have HM' : Mem w (feet (denM ρ1 0 (L x))) (denM ρ' 0 (L x' ++ c.new n (y x) a r)) w' := HM'
 have hl' := hn x' hg'
 rw [QeQ, hl', Nat.zero_add] at HM'
 obtain ⟨r', hok', hnext, hv1, hv2, hv4⟩ := hv x r hp hok ρ' (fun i => if i = 0 then ρ' 0 else ρ' (n + (i - 1))) (fun i => by rw [if_neg (by omega), show 1 + i - 1 = i by omega]) rfl
 refine ⟨(feetL (denM ρ' 0 (L x')), r'), fun i => if i = 0 then ρ' 0 else ρ' (n + (i - 1)), hok', fun i hi => ?_, ?_, ?_, ?_⟩
 · obtain rfl : i = 0 := by omega
   show (if 0 = 0 then ρ' 0 else ρ' (n + (0 - 1))) = ρ 0
   rw [if_pos rfl, hag 0 hk]; exact hρ
 · show (c'.new 1 (y x) a' r').length + 1 = 1 + c'.len
   omega
 · show Ending.returned ((c.val n (y x) a r).den ρ') = Ending.returned ((c'.val 1 (y x) a' r').den (fun i => if i = 0 then ρ' 0 else ρ' (n + (i - 1))))
   rw [hv1]
 · show Mem w _ ([En.abs (if 0 = 0 then ρ' 0 else ρ' (n + (0 - 1))) (Qz L y good (c'.next (y x) a' r')) (feetL (denM ρ' 0 (L x')))] ++ denM _ 1 (c'.new 1 (y x) a' r')) w'
   rw [if_pos rfl, hv2, hnext]
   have hd := List.pairwise_append.1 HM'.dist
   refine (Mem.subset (S := feet (denM ρ1 0 (L x))) ⟨HM'.kept, fun e he => ?_, fun e he g hg => ?_, List.pairwise_append.2 ⟨List.pairwise_singleton _ _, hd.2.1, fun e he f hf g hg hfg => ?_⟩⟩ (fun g hg => (hfe g).2 hg))
   · rcases List.mem_append.1 he with he | he
     · obtain rfl := List.mem_singleton.1 he
       exact ⟨x', ρ', hy', hg', rfl, ⟨Kept.refl _ _, fun e he => HM'.holds e (List.mem_append_left _ he), fun e he g hg => .inl ⟨e, he, hg⟩, hd.1⟩, fun g => (feetL_iff _ g).symm⟩
     · exact HM'.holds e (List.mem_append_right _ he)
   · rcases List.mem_append.1 he with he | he
     · obtain rfl := List.mem_singleton.1 he
       obtain ⟨e', he', hf'⟩ := (feetL_iff _ g).1 hg
       exact HM'.own e' (List.mem_append_left _ he') g hf'
     · exact HM'.own e (List.mem_append_right _ he) g hg
   · obtain rfl := List.mem_singleton.1 he
     obtain ⟨e', he', hf'⟩ := (feetL_iff _ g).1 hg
     exact hd.2.2 e' he' f hf g hf' hfg
end
section
section
variable {z z' : Sh} {g : Gh} {of : List Nat}
end
end
section
section
variable {K : Int} {z : Sh} {g : Gh} {of : List Nat} {t : Nat}
end
end
section
section
variable {K : Int} {z : Sh} {g : Gh} {of : List Nat} {t : Nat}
theorem QfO (z : Sh) (t : Nat) : z.steps <= (z.step t).steps /\ (z.step t).steps <= z.steps + 1 := by
 unfold Sh.step
 split
 · omega
 · unfold Sh.stepped
   dsimp only
   split <;> split <;> (show z.steps <= z.steps + 1 /\ z.steps + 1 <= z.steps + 1; omega)
theorem Qdl (t : Nat) : ∀ (n : Nat) (z : Sh), z.steps <= (z.run t n).steps /\ (z.run t n).steps <= z.steps + n
 | 0, z => by show z.steps <= z.steps /\ z.steps <= z.steps + ((0 : Nat) : Int); omega
 | n + 1, z => by
   have h1 := QfO z t
   have h2 := Qdl t n (z.step t)
   show z.steps <= ((z.step t).run t n).steps /\ ((z.step t).run t n).steps <= z.steps + ((n + 1 : Nat) : Int)
   omega
end
end
section
structure SoC where
 ms : Nat -> Int
 mo : Nat -> Int
 W : Nat -> Wk
 tog : Nat -> Int
 hist : List Ev
 deeds : List Vd
 R : Rec
 V : Int
def askB (R : Rec) (ms : Nat -> Int) (u : Nat) : Bool := decide (ms u ≠ 0 /\ ms u - 1 ≠ Qn R.tog u)
def askN (R : Rec) (ms : Nat -> Int) (i : Nat) : Nat -> Nat
 | 0 => 0
 | n + 1 => (bif askB R ms i then 2 else 1) + askN R ms (i + 1) n
def left (c : SoC) (w : Wk) : Nat :=
 if w.does = 3 then 77 + askN c.R c.ms 0 4 else if w.does = 4 then 76 + askN c.R c.ms 0 4
 else if w.does = 5 then 43 + (32 - w.i.toNat) + askN c.R c.ms 0 4 else if w.does = 6 then 43 + askN c.R c.ms w.i.toNat (4 - w.i.toNat)
 else if w.does = 7 then 44 + askN c.R c.ms (w.i.toNat + 1) (3 - w.i.toNat) else if w.does = 8 then 11 + (32 - w.i.toNat)
 else if w.does = 9 then 7 + (4 - w.i.toNat) else (17 - w.does).toNat
section
variable {K : Int} {z : Sh} {g : Gh} {t : Nat} {c : SoC}
theorem QiL (t : Nat) : ∀ (n : Nat) {z : Sh}, (z.w t).does = 0 -> z.run t n = z /\ z.ran t n = 0
 | 0, z, _ => ⟨rfl, rfl⟩
 | n + 1, z, h => by
   have e : z.step t = z := if_pos h
   refine ⟨?_, if_pos h⟩
   show (z.step t).run t n = z
   rw [e]; exact (QiL t n h).1
theorem Qia (t : Nat) : ∀ (n k : Nat) (z : Sh), z.run t (n + k) = (z.run t n).run t k
 | 0, k, z => by rw [Nat.zero_add]; rfl
 | n + 1, k, z => by rw [Nat.add_right_comm]; exact Qia t n k (z.step t)
end
end
section
def inT (a : Int) : Bool := decide (0 <= a /\ a < 4)
def runB (n : Int) : Bool := decide (0 <= n /\ n <= 1000)
structure Mv where
 kind : Int
 t : Int
 k : Int
 key : Int
 x : Int
 n : Int
 l : Int
def Sh.runA (z : Sh) (t n : Int) : Sh := bif inT t then z.run t.toNat (bif runB n then n.toNat else 0) else z
def Sh.callA (z : Sh) (t k key x : Int) : Sh := bif inT t then z.call t.toNat k key x else z
def Sh.move (z : Sh) (m : Mv) : Sh :=
 if m.kind = 1 then z.callA m.t m.k m.key m.x else if m.kind = 2 then z.runA m.t m.n else if m.kind = 3 then z.evict m.n else if m.kind = 4 then z.crash m.l else z
def Qak (K : Int) (l : List Mv) : Sh := l.foldl Sh.move (Sh.new K)
theorem QfT (K : Int) (l : List Mv) (m : Mv) : Qak K (l ++ [m]) = (Qak K l).move m := by unfold Qak; rw [List.foldl_append]; rfl
theorem Qik {a : Int} (h : inT a = true) : 0 <= a /\ a < 4 /\ a.toNat < 4 := by
 have := of_decide_eq_true h
 omega
theorem Qf8 (z : Sh) (t : Nat) (k key x : Int) : z.steps <= (z.call t k key x).steps /\ (z.call t k key x).steps <= z.steps + 1 := by
 unfold Sh.call
 split
 · show z.steps <= z.steps + 1 /\ z.steps + 1 <= z.steps + 1; omega
 · omega
theorem QjN (z : Sh) (m : Mv) : z.steps <= (z.move m).steps /\ (z.move m).steps <= z.steps + 1000 := by
 unfold Sh.move
 split
 · unfold Sh.callA
   cases inT m.t
   · rw [cond_false]; omega
   · rw [cond_true]; have := Qf8 z m.t.toNat m.k m.key m.x; omega
 split
 · unfold Sh.runA
   cases inT m.t
   · rw [cond_false]; omega
   · rw [cond_true]
     have := Qdl m.t.toNat (bif runB m.n then m.n.toNat else 0) z
     cases hb : runB m.n
     · rw [hb] at this
       rw [cond_false] at this ⊢; omega
     · rw [hb] at this
       have h2 := of_decide_eq_true hb
       rw [cond_true] at this ⊢; omega
 split
 · unfold Sh.evict
   split
   · show z.steps <= z.steps /\ z.steps <= z.steps + 1000; omega
   · omega
 split
 · show z.steps <= z.steps + 1 /\ z.steps + 1 <= z.steps + 1000; omega
 · omega
section
variable {K : Int} {z : Sh} {g : Gh}
end
end
section
open Go.RowKit
abbrev TCon.sh {α χ : Type} (c : TCon Sh α χ) : MCon := c.high shM ShS.z ShS.good
theorem Xc (x : ShS) : (shM x).length = 17 := rfl
theorem verH : (Con.mem verC.sh).holds Tryz.prog 42 := fun w0 S => verC.lift (QoK w0 S) (by decide) (fun x _ => Xc x) (fun _ => rfl) (fun _ _ _ _ _ _ _ _ => ⟨rfl, rfl, rfl, rfl⟩)
theorem evH : (Con.mem evC.sh).holds Tryz.prog 112 := fun w0 S => evC.lift (ev_con w0 S) (by decide) (fun x _ => Xc x) (fun _ => rfl) (fun _ _ _ _ _ _ _ _ => ⟨rfl, rfl, rfl, rfl⟩)
theorem recH : (Con.mem recC.sh).holds Tryz.prog 45 := fun w0 S => recC.lift (QoY w0 S) (by decide) (fun x _ => Xc x) (fun _ => rfl) (fun _ _ _ _ _ _ _ _ => ⟨rfl, rfl, rfl, rfl⟩)
theorem Qk7 {ρ ρ' : Nat -> Nat} {sz l c : Nat} {nn : Bool} (h : ∀ i, ρ' (1 + i) = ρ (17 + i)) : (SV.o (.c (.so 1 0 sz l c nn))).den ρ' = (SV.o (.c (.so 17 0 sz l c nn))).den ρ := by
 simp only [SV.den, SA.den, SC.den]
 rw [show ρ' 1 = ρ 17 from h 0]
theorem Qhd {ρ ρ' : Nat -> Nat} {t : Nat} {ks : List CK} {sz m c : Nat} {z : Nat -> Nat -> Int} (h : ∀ i, ρ' (1 + i) = ρ (17 + i)) : denM ρ' 1 [.rows t ks sz m c z] = denM ρ 17 [.rows t ks sz m c z] := by
 simp only [denM, denB]
 rw [show ρ' 1 = ρ 17 from h 0]
theorem ddsH : (Con.mem ddsC.sh).holds Tryz.prog 43 := fun w0 S => ddsC.lift (Qpk w0 S) (by decide) (fun x _ => Xc x) (fun _ => rfl) (fun _ _ _ _ _ _ h _ => ⟨Qk7 h, Qhd h, rfl, rfl⟩)
theorem hisH : (Con.mem hisC.sh).holds Tryz.prog 37 := fun w0 S => hisC.lift (Qpd w0 S) (by decide) (fun x _ => Xc x) (fun _ => rfl) (fun _ _ _ _ _ _ h _ => ⟨Qk7 h, Qhd h, rfl, rfl⟩)
def Qio : TCon Sh Nat Unit where
 pre z t := t < 4
 args t := [.c (.v (.int .i64 t))]
 ok _ _ _ := True
 next z _ _ := z
 val _ z t _ := sv (.int .i64 (z.w t).does)
 new _ _ _ _ := []
 len := 0
structure StpOK (z : Sh) (t : Nat) : Prop where
 t4 : t < 4
 ok : stOK z t
 pre : (z.w t).does ≠ 0 -> Qba (z.wst t)
def Qjt : TCon Sh Nat Unit where
 pre z t := StpOK z t
 args t := [.c (.v (.int .i64 t))]
 ok _ _ _ := True
 next z t _ := z.step t
 val _ z t _ := QJ z t
 new _ _ _ _ := []
 len := 0
def oneA : TCon Sh Nat Value where
 pre z t := t < 4
 args t := [.c (.v (.int .i64 t))]
 ok _ _ _ := True
 next z _ _ := z
 val _ z t r := .t [.c (.v r), .c (.v .nilIface)]
 new _ _ _ _ := []
 len := 0
theorem lt4 {t : Nat} (h : t < 4) : t = 0 \/ t = 1 \/ t = 2 \/ t = 3 := by omega
theorem Qfc {X Y α χ : Type} {c : TCon Y α χ} {L : X -> List SB} {y : X -> Y} {good : X -> Prop} {P : Program} {w0 : World} {S : Nat -> Prop} {f : FuncId} {a : α} (h : ∀ z, ¬ c.pre z a) : c.Does L y good P w0 S f a := fun _ z _ _ hp _ _ => absurd hp (h z)
theorem doesH : (Con.mem Qio.sh).holds Tryz.prog 38 := fun w0 S => TCon.high_of (QhF w0 S).1 fun t => by
 by_cases h : t < 4
 · rcases lt4 h with rfl | rfl | rfl | rfl
   · exact (Qmj 0).does_of Qio (QhF w0 S) (by decide) (fun x _ => Xc x) () 0 rfl rfl (fun _ _ => trivial) (fun _ _ _ _ _ _ _ _ => ⟨(), trivial, rfl, rfl, rfl, rfl⟩)
   · exact (Qmj 1).does_of Qio (Qmm w0 S) (by decide) (fun x _ => Xc x) () 1 rfl rfl (fun _ _ => trivial) (fun _ _ _ _ _ _ _ _ => ⟨(), trivial, rfl, rfl, rfl, rfl⟩)
   · exact (Qmj 2).does_of Qio (Qml w0 S) (by decide) (fun x _ => Xc x) () 2 rfl rfl (fun _ _ => trivial) (fun _ _ _ _ _ _ _ _ => ⟨(), trivial, rfl, rfl, rfl, rfl⟩)
   · exact (Qmj 3).does_of Qio (Qmk w0 S) (by decide) (fun x _ => Xc x) () 3 rfl rfl (fun _ _ => trivial) (fun _ _ _ _ _ _ _ _ => ⟨(), trivial, rfl, rfl, rfl, rfl⟩)
 · exact Qfc fun _ => h
theorem stepH : (Con.mem Qjt.sh).holds Tryz.prog 52 := fun w0 S => TCon.high_of (QiF w0 S).1 fun t => by
 by_cases h : t < 4
 · rcases lt4 h with rfl | rfl | rfl | rfl
   · exact (stU 0).does_of Qjt (QiF w0 S) (by decide) (fun x _ => Xc x) () 0 rfl rfl (fun _ h => ⟨h.ok, h.pre⟩) (fun _ _ _ _ _ _ _ _ => ⟨(), trivial, rfl, rfl, rfl, rfl⟩)
   · exact (stU 1).does_of Qjt (QmZ w0 S) (by decide) (fun x _ => Xc x) () 1 rfl rfl (fun _ h => ⟨h.ok, h.pre⟩) (fun _ _ _ _ _ _ _ _ => ⟨(), trivial, rfl, rfl, rfl, rfl⟩)
   · exact (stU 2).does_of Qjt (QmY w0 S) (by decide) (fun x _ => Xc x) () 2 rfl rfl (fun _ h => ⟨h.ok, h.pre⟩) (fun _ _ _ _ _ _ _ _ => ⟨(), trivial, rfl, rfl, rfl, rfl⟩)
   · exact (stU 3).does_of Qjt (QmX w0 S) (by decide) (fun x _ => Xc x) () 3 rfl rfl (fun _ h => ⟨h.ok, h.pre⟩) (fun _ _ _ _ _ _ _ _ => ⟨(), trivial, rfl, rfl, rfl, rfl⟩)
 · exact Qfc fun _ hp => h hp.t4
theorem oneH : (Con.mem oneA.sh).holds Tryz.prog 77 := fun w0 S => TCon.high_of (QiV w0 S).1 fun t => by
 by_cases h : t < 4
 · rcases lt4 h with rfl | rfl | rfl | rfl
   · exact (oneC 0).does_of oneA (QiV w0 S) (by decide) (fun x _ => Xc x) () 0 rfl rfl (fun _ _ => trivial) (fun _ _ _ _ ρ _ _ _ => ⟨.pointer (some ⟨ρ 3, 0, none⟩), trivial, rfl, rfl, rfl, rfl⟩)
   · exact (oneC 1).does_of oneA (Qnm w0 S) (by decide) (fun x _ => Xc x) () 1 rfl rfl (fun _ _ => trivial) (fun _ _ _ _ ρ _ _ _ => ⟨.pointer (some ⟨ρ 4, 0, none⟩), trivial, rfl, rfl, rfl, rfl⟩)
   · exact (oneC 2).does_of oneA (Qnl w0 S) (by decide) (fun x _ => Xc x) () 2 rfl rfl (fun _ _ => trivial) (fun _ _ _ _ ρ _ _ _ => ⟨.pointer (some ⟨ρ 5, 0, none⟩), trivial, rfl, rfl, rfl, rfl⟩)
   · exact (oneC 3).does_of oneA (Qnk w0 S) (by decide) (fun x _ => Xc x) () 3 rfl rfl (fun _ _ => trivial) (fun _ _ _ _ ρ _ _ _ => ⟨.pointer (some ⟨ρ 6, 0, none⟩), trivial, rfl, rfl, rfl, rfl⟩)
 · exact Qfc fun _ => h
structure CallOK (z : Sh) : Prop where
 st0 : 0 <= z.steps
 st1 : z.steps < 100000000
 h : z.hist.length <= 1000000000
 tog : ∀ t, t < 4 -> z.tog t = 0 \/ z.tog t = 1
def callA : TCon Sh (Int × OpA) Unit where
 pre z a := CallOK z
 args a := [.c (.v (.int .i64 a.1)), .a [.one (.v (.int .i64 a.2.k)), .one (.v (.int .i64 a.2.key)), .one (.v (.int .i64 a.2.x))]]
 ok _ _ _ := True
 next z a _ := bif inT a.1 then z.call a.1.toNat a.2.k a.2.key a.2.x else z
 val _ z a _ := .o (.c (.v (bif inT a.1 then (bif (z.w a.1.toNat).does == 0 then (bif opOk a.2.k a.2.key a.2.x then .nilIface else .iface 108 (.int .i64 1)) else .iface 108 (.int .i64 6)) else .iface 108 (.int .i64 2))))
 new _ _ _ _ := []
 len := 0
theorem callH : (Con.mem callA.sh).holds Tryz.prog 39 := fun w0 S => TCon.high_of (Qjh w0 S).1 fun ⟨a, o⟩ => by
 by_cases h : 0 <= a /\ a < 4
 · obtain ⟨t, rfl⟩ := Int.eq_ofNat_of_zero_le h.1
   rcases lt4 (t := t) (by omega) with rfl | rfl | rfl | rfl
   · exact (clC 0).does_of callA (Qjh w0 S) (by decide) (fun x _ => Xc x) o _ rfl rfl (fun _ h => ⟨⟨h.st0, h.st1⟩, h.h, h.tog 0 (by decide)⟩) (fun _ _ _ _ _ _ _ _ => ⟨(), trivial, rfl, rfl, rfl, rfl⟩)
   · exact (clC 1).does_of callA (Qoc w0 S) (by decide) (fun x _ => Xc x) o _ rfl rfl (fun _ h => ⟨⟨h.st0, h.st1⟩, h.h, h.tog 1 (by decide)⟩) (fun _ _ _ _ _ _ _ _ => ⟨(), trivial, rfl, rfl, rfl, rfl⟩)
   · exact (clC 2).does_of callA (Qob w0 S) (by decide) (fun x _ => Xc x) o _ rfl rfl (fun _ h => ⟨⟨h.st0, h.st1⟩, h.h, h.tog 2 (by decide)⟩) (fun _ _ _ _ _ _ _ _ => ⟨(), trivial, rfl, rfl, rfl, rfl⟩)
   · exact (clC 3).does_of callA (Qoa w0 S) (by decide) (fun x _ => Xc x) o _ rfl rfl (fun _ h => ⟨⟨h.st0, h.st1⟩, h.h, h.tog 3 (by decide)⟩) (fun _ _ _ _ _ _ _ _ => ⟨(), trivial, rfl, rfl, rfl, rfl⟩)
 · have hb : inT a = false := decide_eq_false h
   refine calX.does_of callA (Qn9 w0 S) (by decide) (fun x _ => Xc x) (a, o) (a, o) rfl rfl (fun _ _ => (by show a < 0 \/ 4 <= a; omega)) (fun z _ _ _ _ _ _ _ => ⟨(), trivial, ?_, ?_, rfl, rfl⟩)
   · show (bif inT a then _ else _) = z.z
     rw [hb]; rfl
   · show (SV.o (.c (.v (bif inT a then _ else _)))).den _ = _
     rw [hb]; rfl
structure RunOK (z : Sh) (t : Nat) (n : Int) : Prop where
 ok : 0 <= n -> n <= 1000 -> ∀ k : Nat, (k : Int) < n -> stOK (z.run t k) t /\ (((z.run t k).w t).does ≠ 0 -> Qba ((z.run t k).wst t))
def runN : TCon Sh (Nat × Int) Unit where
 pre z a := a.1 < 4 /\ RunOK z a.1 a.2
 args a := [.c (.v (.int .i64 a.1)), .c (.v (.int .i64 a.2))]
 ok _ _ _ := True
 next z a _ := z.run a.1 (bif runB a.2 then a.2.toNat else 0)
 val _ z a _ := .t [.c (.v (.int .i64 (bif runB a.2 then ((z.ran a.1 a.2.toNat : Nat) : Int) else 0))), .c (.v (bif runB a.2 then .nilIface else .iface 108 (.int .i64 1)))]
 new _ _ _ _ := []
 len := 0
structure RunG (z : Sh) (t : Nat) (n : Int) where
 k : Nat
 F : List Nat
 hk : k <= n.toNat
 hr : z.ran t n.toNat = k + (z.run t k).ran t (n.toNat - k)
def Qoz (z : Sh) (t : Nat) (n : Int) : Ann where
 σ := RunG z t n
 I g := ([(0, .o (.c (.p 0 0))), (1, sv (.int .i64 t)), (2, sv (.int .i64 n)), (27, sv (.int .i64 n)), (28, sv (.int .i64 g.k))], [.abs (Qz shM ShS.z ShS.good (z.run t g.k)) g.F])
 dec g := n.toNat - g.k
 pi env M := [0]
 nz := []
theorem Qnb {z : Sh} {t : Nat} {m : Nat} (h : (z.w t).does ≠ 0) : z.ran t (m + 1) = (z.step t).ran t m + 1 := if_neg h
theorem QiK (z : Sh) (t k : Nat) : z.run t (k + 1) = (z.run t k).step t := by rw [Qia]; rfl
theorem QiM : (Con.mem runN.sh).holds Tryz.prog 40 := by
 intro w0 S
 refine Qb (Γ := [(77, .mem oneA.sh), (38, .mem Qio.sh), (52, .mem Qjt.sh)]) (fun _ => noW) Tryz.func40 rfl (by kernel_rfl) Qf Qc (fun w S' _ _ => .cons (oneH w S') (.cons (doesH w S') (.cons (stepH w S') (.nil _ _ _)))) runN.sh (fun s => [(40, [(0, Qoz s.1 s.2.1.1 s.2.1.2)])]) (fun x0 h => by cases h) (fun s ρ w _ _ _ => Qh w _) [] (fun _ M => [0]) 600 ?_
 rintro ⟨z, ⟨t, n⟩, F⟩ W ⟨ht, h1⟩ -
 refine ⟨rfl, ?_⟩
 dsimp only
 refine Qj (q := ∃ (s : Sh × Nat × List Nat), [aP 0 0, aI ↑t] = [aP 0 0, aI (↑s.2.1 : Int)] /\ [SB.abs (Qz shM ShS.z ShS.good z) F] = [SB.abs (Qz shM ShS.z ShS.good s.1) s.2.2] /\ s.2.1 < 4 /\ ∀ (x : List Nat × Value), True -> bif decide (n < (0 : Int)) then endN (TCon.sh runN) [] (fun (x : SV) (M : List SB) => [0]) (z, (t, n), F) (SV.t [aI 0, SA.c (.v (.iface 108 (Value.int .i64 (1 : Int))))]) [SB.abs (Qz shM ShS.z ShS.good s.1) x.1] else bif decide (n > (1000 : Int)) then endN (TCon.sh runN) [] (fun (x : SV) (M : List SB) => [0]) (z, (t, n), F) (SV.t [aI 0, SA.c (.v (.iface 108 (Value.int .i64 (1 : Int))))]) [SB.abs (Qz shM ShS.z ShS.good s.1) x.1] else (∃ (s0 : Ann.σ (Qoz z t n)), (eS (aP 0 0) (aP 0 0) /\ eS (aI ↑t) (aI ↑t) /\ eS (aI n) (aI n) /\ eS (aI n) (aI n) /\ eS (aI 0) (aI ↑s0.1) /\ True) /\ [SB.abs (Qz shM ShS.z ShS.good s.1) x.1] = [SB.abs (Qz shM ShS.z ShS.good (Sh.run z t s0.1)) s0.2]) /\ ∀ (s : RunG z t n), bif decide ((↑s.1 : Int) < n) then ∃ (s_1 : Sh × Nat × List Nat), [aP 0 0, aI ↑t] = [aP 0 0, aI (↑s_1.2.1 : Int)] /\ [SB.abs (Qz shM ShS.z ShS.good (Sh.run z t s.1)) s.2] = [SB.abs (Qz shM ShS.z ShS.good s_1.1) s_1.2.2] /\ s_1.2.1 < 4 /\ ∀ (x : List Nat × Unit), True -> bif (Sh.w s_1.1 s_1.2.1).2 == (0 : Int) then endN (TCon.sh runN) [] (fun (x : SV) (M : List SB) => [0]) (z, (t, n), F) (SV.t [aI ↑s.1, SA.c (.v Value.nilIface)]) [SB.abs (Qz shM ShS.z ShS.good s_1.1) x.1] else ∃ (s_2 : Sh × Nat × List Nat), [aP 0 0, aI ↑t] = [aP 0 0, aI (↑s_2.2.1 : Int)] /\ [SB.abs (Qz shM ShS.z ShS.good s_1.1) x.1] = [SB.abs (Qz shM ShS.z ShS.good s_2.1) s_2.2.2] /\ StpOK s_2.1 s_2.2.1 /\ ∀ (x : List Nat × Unit), True -> ∃ (s' : RunG z t n), ((eS (aP 0 0) (aP 0 0) /\ eS (aI ↑t) (aI ↑t) /\ eS (aI n) (aI n) /\ eS (aI n) (aI n) /\ eS (aI (IntKind.wrap .i64 ((↑s.1 : Int) + (1 : Int)))) (aI ↑s'.1) /\ True) /\ [SB.abs (Qz shM ShS.z ShS.good (Sh.step s_2.1 s_2.2.1)) x.1] = [SB.abs (Qz shM ShS.z ShS.good (Sh.run z t s'.1)) s'.2]) /\ Int.toNat n - s'.1 < Int.toNat n - s.1 else endN (TCon.sh runN) [] (fun (x : SV) (M : List SB) => [0]) (z, (t, n), F) (SV.t [aI n, SA.c (.v Value.nilIface)]) [SB.abs (Qz shM ShS.z ShS.good (Sh.run z t s.1)) s.2]) (by kernel_rfl) ?_
 have h1 : RunOK z t n := h1
 have ht : t < 4 := ht
 have bad (hb : runB n = false) (G : List Nat) : endN runN.sh [] (fun _ _ => [0]) (z, (t, n), F) (SV.t [SA.c (SC.v (.int .i64 0)), SA.c (SC.v (.iface 108 (.int .i64 1)))]) [SB.abs (Qz shM ShS.z ShS.good z) G] := by
   refine Qi rfl ⟨G, ()⟩ trivial rfl ?_ ?_
   · show _ = SV.ren _ (.t [.c (.v (.int .i64 (bif runB n then _ else _))), .c (.v (bif runB n then _ else _))])
     rw [hb]; rfl
   · show _ = [SB.abs (Qz shM ShS.z ShS.good (z.run t (bif runB n then n.toNat else 0))) G].map _
     rw [hb]; rfl
 have fin (hb : runB n = true) {k : Nat} (hk : k <= n.toNat) (hr : z.ran t n.toNat = k + (z.run t k).ran t (n.toNat - k)) (hd : k = n.toNat \/ ((z.run t k).w t).does = 0) (G : List Nat) : endN runN.sh [] (fun _ _ => [0]) (z, (t, n), F) (SV.t [SA.c (SC.v (.int .i64 (k : Int))), SA.c (SC.v .nilIface)]) [SB.abs (Qz shM ShS.z ShS.good (z.run t k)) G] := by
   have e : z.ran t n.toNat = k /\ z.run t n.toNat = z.run t k := by
     rcases hd with rfl | hd
     · rw [Nat.sub_self] at hr; exact ⟨hr, rfl⟩
     · have a := QiL t (n.toNat - k) hd
       rw [a.2] at hr
       refine ⟨hr, ?_⟩
       have b := Qia t k (n.toNat - k) z
       rw [show k + (n.toNat - k) = n.toNat by omega, a.1] at b; exact b
   refine Qi rfl ⟨G, ()⟩ trivial rfl ?_ ?_
   · show _ = SV.ren _ (.t [.c (.v (.int .i64 (bif runB n then ((z.ran t n.toNat : Nat) : Int) else _))), .c (.v (bif runB n then _ else _))])
     rw [hb, e.1]; rfl
   · show _ = [SB.abs (Qz shM ShS.z ShS.good (z.run t (bif runB n then n.toNat else 0))) G].map _
     rw [hb]
     show _ = [SB.abs (Qz shM ShS.z ShS.good (z.run t n.toNat)) G].map _
     rw [e.2]; rfl
 refine ⟨(z, t, F), rfl, rfl, ht, fun x _ => Qp (fun hlt => bad (decide_eq_false (by omega)) x.1) (fun hge => Qp (fun hgt => bad (decide_eq_false (by omega)) x.1) (fun hle => ?_))⟩
 have hb : runB n = true := decide_eq_true (by omega)
 refine ⟨⟨⟨0, x.1, Nat.zero_le _, (by rw [Nat.zero_add, Nat.sub_zero]; rfl)⟩, ⟨rfl, rfl, rfl, rfl, rfl, trivial⟩, rfl⟩, ?_⟩
 rintro ⟨k, G, hk, hr⟩
 dsimp only at hk hr ⊢
 refine Qp (fun hlt => ?_) (fun hge => ?_)
 · refine ⟨(z.run t k, t, G), rfl, rfl, ht, fun x1 _ => Q7 (fun hd => fin hb hk hr (.inr hd) x1.1) (fun hd => ?_)⟩
   have hok := h1.ok (by omega) (by omega) k (by omega)
   have hr' : z.ran t n.toNat = k + 1 + (z.run t (k + 1)).ran t (n.toNat - (k + 1)) := by
     rw [hr, QiK, show n.toNat - k = (n.toNat - (k + 1)) + 1 by omega, Qnb (z := z.run t k) (t := t) hd]; omega
   exact ⟨(z.run t k, t, x1.1), rfl, rfl, ⟨ht, hok.1, hok.2⟩, fun x2 _ => ⟨⟨k + 1, x2.1, by omega, hr'⟩, ⟨⟨rfl, rfl, rfl, rfl, svI (sucI (by omega)), trivial⟩, congrArg (fun s => [SB.abs (Qz shM ShS.z ShS.good s) x2.1]) (QiK z t k).symm⟩, by dsimp only; omega⟩⟩
 · obtain hkn : k = n.toNat := by omega
   have := fin hb hk hr (.inl hkn) G
   rw [show (k : Int) = n by omega] at this; exact this
def Qld : TCon Sh (Int × Int) Unit where
 pre z a := inT a.1 = true -> RunOK z a.1.toNat a.2
 args a := [.c (.v (.int .i64 a.1)), .c (.v (.int .i64 a.2))]
 ok _ _ _ := True
 next z a _ := z.runA a.1 a.2
 val _ z a _ := .t [.c (.v (.int .i64 (bif inT a.1 then (bif runB a.2 then ((z.ran a.1.toNat a.2.toNat : Nat) : Int) else 0) else 0))), .c (.v (bif inT a.1 then (bif runB a.2 then .nilIface else .iface 108 (.int .i64 1)) else .iface 108 (.int .i64 2)))]
 new _ _ _ _ := []
 len := 0
def runX : TCon Sh (Int × Int) Unit where
 pre z a := a.1 < 0 \/ 4 <= a.1
 args a := [.c (.v (.int .i64 a.1)), .c (.v (.int .i64 a.2))]
 ok _ _ _ := True
 next z a _ := z
 val _ z a _ := .t [.c (.v (.int .i64 0)), .c (.v (.iface 108 (.int .i64 2)))]
 new _ _ _ _ := []
 len := 0
theorem Qm7 : (Con.mem runX.sh).holds Tryz.prog 40 := by
 intro w0 S
 refine Qb (Γ := [(77, .pure QgN)]) (fun _ => noW) Tryz.func40 rfl (by kernel_rfl) Qf Qc (fun w S' _ _ => .cons (QiU w _) (.nil _ _ _)) runX.sh (fun s => []) (fun x0 h => by cases h) (fun s ρ w _ _ _ => Qh w _) [] (fun _ M => [0]) 600 ?_
 rintro ⟨z, ⟨a, n⟩, F⟩ W h1 -
 refine ⟨rfl, ?_⟩
 refine Qj (q := (a < (0 : Int) \/ (4 : Int) <= a) /\ endN (TCon.sh runX) [] (fun (x : SV) (M : List SB) => [0]) (z, (a, n), F) (SV.t [aI 0, SA.c (.v (.iface 108 (Value.int .i64 (2 : Int))))]) [SB.abs (Qz shM ShS.z ShS.good z) F]) (by kernel_rfl) ?_
 have h1 : a < 0 \/ 4 <= a := h1
 exact ⟨h1, Qi rfl ⟨F, ()⟩ trivial rfl rfl rfl⟩
theorem runH : (Con.mem Qld.sh).holds Tryz.prog 40 := fun w0 S => TCon.high_of (QiM w0 S).1 fun ⟨a, n⟩ => by
 intro ρ z F w hp hK HM
 by_cases h : 0 <= a /\ a < 4
 · have hb : inT a = true := decide_eq_true h
   obtain ⟨t, rfl⟩ := Int.eq_ofNat_of_zero_le h.1
   have ht : t < 4 := by omega
   have hp' : RunOK z t n := by have := hp hb; rw [Int.toNat_natCast] at this; exact this
   have := (QiM w0 S).2.2 ρ (z, (t, n), F) w ⟨ht, hp'⟩ hK HM
   have e1 : z.runA t n = z.run t (bif runB n then n.toNat else 0) := by unfold Sh.runA; rw [hb, Int.toNat_natCast]; rfl
   have e2 : Qld.val 1 z ((t : Int), n) () = runN.val 1 z (t, n) () := by
     show SV.t [.c (.v (.int .i64 (bif inT t then (bif runB n then ((z.ran (t : Int).toNat n.toNat : Nat) : Int) else 0) else 0))), .c (.v (bif inT t then _ else _))] = _
     rw [hb, Int.toNat_natCast]; rfl
   refine this.mono ?_
   rintro e w' ⟨⟨G, ⟨⟩⟩, ρ', h1, h2, h3, h4, h5⟩
   refine ⟨⟨G, ()⟩, ρ', trivial, h2, rfl, ?_, ?_⟩
   · rw [e2]; exact h4
   · show Mem w _ (denM ρ' 0 (.abs (Qz shM ShS.z ShS.good (z.runA t n)) G :: [])) w'
     rw [e1]; exact h5
 · have hb : inT a = false := decide_eq_false h
   have := (Qm7 w0 S).2.2 ρ (z, (a, n), F) w (by show a < 0 \/ 4 <= a; omega) hK HM
   have e1 : z.runA a n = z := by unfold Sh.runA; rw [hb]; rfl
   have e2 : Qld.val 1 z (a, n) () = runX.val 1 z (a, n) () := by
     show SV.t [.c (.v (.int .i64 (bif inT a then _ else 0))), .c (.v (bif inT a then _ else _))] = _
     rw [hb]; rfl
   refine this.mono ?_
   rintro e w' ⟨⟨G, ⟨⟩⟩, ρ', h1, h2, h3, h4, h5⟩
   refine ⟨⟨G, ()⟩, ρ', trivial, h2, rfl, ?_, ?_⟩
   · rw [e2]; exact h4
   · show Mem w _ (denM ρ' 0 (.abs (Qz shM ShS.z ShS.good (z.runA a n)) G :: [])) w'
     rw [e1]; exact h5
end
section
open Go.RowKit
structure NewS where
 k : Int
def QgP : MCon where
 σ := NewS
 χ := ShS
 pre s := 1 <= s.k /\ s.k <= 6
 args s := [.c (.v (.int .i64 s.k))]
 mem _ := []
 ok s x := x.good /\ x.z = Sh.new s.k
 val _ _ := .t [.c (.p 0 0), .c (.v .nilIface)]
 mem' _ x := shM x
 k := 0
 len := 17
 det := none
 find _ _ := some []
def msAt (M : List SB) (b : Nat) : List Nat := match getB M b with
 | .cells l _ => match segGet l 0, segGet l 1 with
   | some (.p m _), some (.p s _) => [b, m, s]
   | _, _ => []
 | _ => []
def newM (k : Int) (f : Nat -> Int) : List SB := [.cells [.one (.p 1 0), .one (.p 2 0), .one (.v (.pointer none)), .one (.v (.pointer none)), .one (.v (.pointer none)), .one (.v (.pointer none)), .ints (.int .i64) 4 (fun _ => 0), .one (.v (.int .i64 0)), .one (.v (.slice none 0 0)), .one (.v (.slice none 0 0))] 134, ramB (fun _ => 0), stoB { Sto.new with now := f }, .cells [.ints (.int .u64) 32 (fL (Rec.new k).words)] 35]
structure NewG where
 i : Nat
 hi : i <= 32
def QoB (k : Int) : Ann where
 σ := NewG
 I g := ([(4, .o (.c (.p 3 0))), (6, .o (.c (.p 0 0))), (24, .o (.a [.ints (.int .u64) 32 (fL (Rec.new k).words)])), (25, sv (.int .i64 g.i))],
   [.cells [.one (.p 1 0), .one (.p 2 0), .one (.v (.pointer none)), .one (.v (.pointer none)), .one (.v (.pointer none)), .one (.v (.pointer none)), .ints (.int .i64) 4 (fun _ => 0), .one (.v (.int .i64 0)), .one (.v (.slice none 0 0)), .one (.v (.slice none 0 0))] 134, ramB (fun _ => 0), stoB { Sto.new with now := XP k g.i }, .cells [.ints (.int .u64) 32 (fL (Rec.new k).words)] 35])
 dec g := 32 - g.i
 pi env M := msAt M (blkE env 6) ++ [blkE env 4]
 nz := []
abbrev nzE (b : Nat) : NZ := .blk b 11 72 9 [.int .i64, .int .i64, .int .i64, .int .i64, .int .i64, .int .i64, .int .i64, .int .i64, .int .i64]
abbrev nzVd (b : Nat) : NZ := .blk b 12 138 7 [.int .u64, .int .i64, .int .i64, .int .i64, .int .i64, .int .i64, .int .i64]
abbrev nzWA (b : Nat) : NZ := .blk b 41 154 5 [.int .i64, .int .i64, .int .i64, .int .i64, .int .i64]
abbrev nzWD (b : Nat) : NZ := .blk b 42 60 6 [.int .i64, .int .i64, .int .i64, .int .i64, .int .i64, .int .i64]
structure QaP where
 s : Sto
 n : Nat
def QhI : MCon := dcon QaP (fun s => s.n < 9) (fun s => [.c (.p 0 0), .c (.v (.int .i64 (s.n : Int)))]) (fun s => [stoB s.s]) (fun s => .o (.c (.v .nilIface))) (fun s => [stoB (s.s.evict s.n)]) 1 (fun args _ => some (blkA args))
theorem Qjr : (Con.mem QhI).holds Tryz.prog 111 := by
 intro w0 S
 have h := Qg5 w0 S
 refine ⟨h.1, fun x0 hx s x => ⟨rfl, trivial⟩, fun ρ ⟨s, n⟩ w hp hK HM => (h.2.2 ρ ⟨s, n⟩ w trivial hK HM).mono ?_⟩
 have hp : n < 9 := hp
 have e1 : decide ((0 : Int) <= (n : Int) /\ (n : Int) < 9) = true := decide_eq_true (by omega)
 have ev : Qbw.val ⟨s, n⟩ () = .o (.c (.v .nilIface)) := by
   show SV.o (.c (.v (bif decide ((0 : Int) <= (n : Int) /\ (n : Int) < 9) then _ else _))) = _
   rw [e1]; rfl
 have em : Qbw.mem' ⟨s, n⟩ () = [stoB (s.evict n)] := by
   show [stoB (bif decide ((0 : Int) <= (n : Int) /\ (n : Int) < 9) then s.evict (n : Int).toNat else s)] = _
   rw [e1, Int.toNat_natCast]; rfl
 rintro e w' ⟨⟨⟩, ρ', h1, h2, h3, h4, h5⟩
 refine ⟨(), ρ', trivial, h2, rfl, ?_, ?_⟩
 · rw [h4, ev]; rfl
 · rw [em] at h5; exact h5
theorem evict4 (k : Int) {A : Sto} (hA : A = { Sto.new with now := XP k 32 }) : (((A.evict 1).evict 2).evict 3).evict 4 = { Sto.new with now := XP k 32, good := XP k 32 } := by
 have e2 : ((((A.evict 1).evict 2).evict 3).evict 4).good = XP k 32 := funext fun j => by
   subst hA
   show (bif decide (j / 8 = 4) then XP k 32 j else bif decide (j / 8 = 3) then XP k 32 j else bif decide (j / 8 = 2) then XP k 32 j else bif decide (j / 8 = 1) then XP k 32 j else 0) = XP k 32 j
   by_cases h : 8 <= j /\ j < 40
   · rcases (show j / 8 = 1 \/ j / 8 = 2 \/ j / 8 = 3 \/ j / 8 = 4 by omega) with h | h | h | h <;> rw [h] <;> rfl
   · rw [Qcj k j (by omega), decide_eq_false (show ¬ j / 8 = 4 by omega), decide_eq_false (show ¬ j / 8 = 3 by omega), decide_eq_false (show ¬ j / 8 = 2 by omega), decide_eq_false (show ¬ j / 8 = 1 by omega)]; rfl
 show (⟨A.now, ((((A.evict 1).evict 2).evict 3).evict 4).good, A.want, A.fl, A.fe⟩ : Sto) = _
 rw [e2, hA]
def QoV : SV -> List SB -> List Nat
 | .t [.c (.p b _), _], M => shAt M b
 | _, _ => []
def newS0 (k : Int) : ShS := ⟨Sh.new k, fun _ => ⟨0, 0, false, fun _ _ => 0, 0, 0, false, fun _ _ => 0⟩, 0, 0, false, fun _ _ => 0, 0, 0, false, fun _ _ => 0⟩
theorem QjM (k : Int) : (newS0 k).good := ⟨fun t _ => ⟨⟨Nat.le_refl _, Nat.le_refl _⟩, fun i hi => absurd hi (Nat.not_lt_zero _), ⟨Nat.le_refl _, Nat.le_refl _⟩, fun i hi => absurd hi (Nat.not_lt_zero _)⟩, Nat.le_refl _, Nat.le_refl _, IsR.nil _ _ _ _, Nat.le_refl _, Nat.le_refl _, IsR.nil _ _ _ _⟩
attribute [local irreducible] endN
theorem Qnq (k : Int) {S : Sto} (hS : S = { Sto.new with now := XP k 32, good := XP k 32 }) : endN QgP [nzE 0, nzVd 0, nzWA 4, nzWD 4, nzWA 5, nzWD 5, nzWA 6, nzWD 6, nzWA 7, nzWD 7] QoV ⟨k⟩ (.t [.c (.p 0 0), .c (.v .nilIface)])
   [.cells [.one (.p 1 0), .one (.p 2 0), .one (.p 4 0), .one (.p 5 0), .one (.p 6 0), .one (.p 7 0), .ints (.int .i64) 4 (fun _ => 0), .one (.v (.int .i64 0)), .one (.v (.slice none 0 0)), .one (.v (.slice none 0 0))] 134, ramB (fun _ => 0), stoB S, .cells [.ints (.int .u64) 32 (fL (Rec.new k).words)] 35, .cells [.one (.v (.int .i64 0)), .one (.v (.int .i64 0)), .one (.v (.int .i64 0)), .one (.v (.int .i64 0)), .one (.v (.int .i64 0)), .one (.v (.int .i64 0)), .one (.v (.bool false)), .one (.v (.int .i64 0)), .one (.v (.int .u64 0)), .ints (.int .u64) 32 (fun _ => 0), .one (.v (.slice none 0 0)), .one (.v (.slice none 0 0)), .ints (.int .u64) 3 (fun _ => 0), .one (.v (.int .i64 0)), .one (.v (.int .i64 0)), .one (.v (.int .i64 0))] 42, .cells [.one (.v (.int .i64 1)), .one (.v (.int .i64 0)), .one (.v (.int .i64 0)), .one (.v (.int .i64 0)), .one (.v (.int .i64 0)), .one (.v (.int .i64 0)), .one (.v (.bool false)), .one (.v (.int .i64 0)), .one (.v (.int .u64 0)), .ints (.int .u64) 32 (fun _ => 0), .one (.v (.slice none 0 0)), .one (.v (.slice none 0 0)), .ints (.int .u64) 3 (fun _ => 0), .one (.v (.int .i64 0)), .one (.v (.int .i64 0)), .one (.v (.int .i64 0))] 42, .cells [.one (.v (.int .i64 2)), .one (.v (.int .i64 0)), .one (.v (.int .i64 0)), .one (.v (.int .i64 0)), .one (.v (.int .i64 0)), .one (.v (.int .i64 0)), .one (.v (.bool false)), .one (.v (.int .i64 0)), .one (.v (.int .u64 0)), .ints (.int .u64) 32 (fun _ => 0), .one (.v (.slice none 0 0)), .one (.v (.slice none 0 0)), .ints (.int .u64) 3 (fun _ => 0), .one (.v (.int .i64 0)), .one (.v (.int .i64 0)), .one (.v (.int .i64 0))] 42, .cells [.one (.v (.int .i64 3)), .one (.v (.int .i64 0)), .one (.v (.int .i64 0)), .one (.v (.int .i64 0)), .one (.v (.int .i64 0)), .one (.v (.int .i64 0)), .one (.v (.bool false)), .one (.v (.int .i64 0)), .one (.v (.int .u64 0)), .ints (.int .u64) 32 (fun _ => 0), .one (.v (.slice none 0 0)), .one (.v (.slice none 0 0)), .ints (.int .u64) 3 (fun _ => 0), .one (.v (.int .i64 0)), .one (.v (.int .i64 0)), .one (.v (.int .i64 0))] 42] := by
 refine Qi (x' := .t [.c (.p 0 0), .c (.v .nilIface)]) (M' := [.cells [.one (.p 1 0), .one (.p 2 0), .one (.p 4 0), .one (.p 5 0), .one (.p 6 0), .one (.p 7 0), .ints (.int .i64) 4 (fun _ => 0), .one (.v (.int .i64 0)), .one (.so 8 0 9 0 0 false), .one (.so 9 0 7 0 0 false)] 134, ramB (fun _ => 0), stoB S, .cells [.ints (.int .u64) 32 (fL (Rec.new k).words)] 35, .cells [.one (.v (.int .i64 0)), .one (.v (.int .i64 0)), .one (.v (.int .i64 0)), .one (.v (.int .i64 0)), .one (.v (.int .i64 0)), .one (.v (.int .i64 0)), .one (.v (.bool false)), .one (.v (.int .i64 0)), .one (.v (.int .u64 0)), .ints (.int .u64) 32 (fun _ => 0), .one (.so 10 0 5 0 0 false), .one (.so 11 0 6 0 0 false), .ints (.int .u64) 3 (fun _ => 0), .one (.v (.int .i64 0)), .one (.v (.int .i64 0)), .one (.v (.int .i64 0))] 42, .cells [.one (.v (.int .i64 1)), .one (.v (.int .i64 0)), .one (.v (.int .i64 0)), .one (.v (.int .i64 0)), .one (.v (.int .i64 0)), .one (.v (.int .i64 0)), .one (.v (.bool false)), .one (.v (.int .i64 0)), .one (.v (.int .u64 0)), .ints (.int .u64) 32 (fun _ => 0), .one (.so 12 0 5 0 0 false), .one (.so 13 0 6 0 0 false), .ints (.int .u64) 3 (fun _ => 0), .one (.v (.int .i64 0)), .one (.v (.int .i64 0)), .one (.v (.int .i64 0))] 42, .cells [.one (.v (.int .i64 2)), .one (.v (.int .i64 0)), .one (.v (.int .i64 0)), .one (.v (.int .i64 0)), .one (.v (.int .i64 0)), .one (.v (.int .i64 0)), .one (.v (.bool false)), .one (.v (.int .i64 0)), .one (.v (.int .u64 0)), .ints (.int .u64) 32 (fun _ => 0), .one (.so 14 0 5 0 0 false), .one (.so 15 0 6 0 0 false), .ints (.int .u64) 3 (fun _ => 0), .one (.v (.int .i64 0)), .one (.v (.int .i64 0)), .one (.v (.int .i64 0))] 42, .cells [.one (.v (.int .i64 3)), .one (.v (.int .i64 0)), .one (.v (.int .i64 0)), .one (.v (.int .i64 0)), .one (.v (.int .i64 0)), .one (.v (.int .i64 0)), .one (.v (.bool false)), .one (.v (.int .i64 0)), .one (.v (.int .u64 0)), .ints (.int .u64) 32 (fun _ => 0), .one (.so 16 0 5 0 0 false), .one (.so 17 0 6 0 0 false), .ints (.int .u64) 3 (fun _ => 0), .one (.v (.int .i64 0)), .one (.v (.int .i64 0)), .one (.v (.int .i64 0))] 42, evB 0 0 (fun _ _ => 0), vdB 0 0 (fun _ _ => 0), wkA 0 0 (fun _ _ => 0), wkD 0 0 (fun _ _ => 0), wkA 0 0 (fun _ _ => 0), wkD 0 0 (fun _ _ => 0), wkA 0 0 (fun _ _ => 0), wkD 0 0 (fun _ _ => 0), wkA 0 0 (fun _ _ => 0), wkD 0 0 (fun _ _ => 0)]) (by kernel_rfl) (newS0 k) ⟨QjM k, rfl⟩ (by kernel_rfl) (by kernel_rfl) ?_
 subst hS
 kernel_rfl
theorem Qnr : (Con.mem QgP).holds Tryz.prog 75 := by
 intro w0 S
 refine Qb (Γ := [(59, .pure Qcp), (60, .mem QdB), (61, .mem Xo), (111, .mem QhI)]) (fun _ => noW) Tryz.func75 rfl (by kernel_rfl) Qf Qc (fun w S' _ _ => .cons (QiP w _) (.cons (Qjq w S') (.cons (XU w S') (.cons (Qjr w S') (.nil _ _ _))))) QgP (fun s => [(75, [(0, QoB s.k)])]) (fun x0 h => by cases h) (fun s ρ w _ _ _ => Qh w _) [nzE 0, nzVd 0, nzWA 4, nzWD 4, nzWA 5, nzWD 5, nzWA 6, nzWD 6, nzWA 7, nzWD 7] QoV 900 ?_
 rintro ⟨k⟩ W ⟨h1, h6⟩ -
 refine ⟨rfl, ?_⟩
 refine Qj (q := ((1 : Int) <= k /\ k <= (6 : Int)) /\ ∃ (s : Unit), ([] : List SA) = [] /\ eN /\ True /\ ∀ (x : Unit), True -> (∃ (s0 : Ann.σ (QoB k)), (eS (aP 0 0) (aP 0 0) /\ eS (aP 3 0) (aP 3 0) /\ eS (SA.a [nU 32 (fL (Rec.words (Rec.new k)))]) (SA.a [nU 32 (fL (Rec.words (Rec.new k)))]) /\ eS (aI 0) (aI ↑s0.1) /\ True) /\ [SB.cells [sP 1 0, sP 2 0, Seg.one (.v (.pointer none)), Seg.one (.v (.pointer none)), Seg.one (.v (.pointer none)), Seg.one (.v (.pointer none)), nI 4 zF, sI 0, Seg.one (.v (.slice none 0 0)), Seg.one (.v (.slice none 0 0))] 134, SB.cells [nU 16 zF] 102, SB.cells [nU 72 Sto.new.1, nU 72 Sto.new.2, nB 36 Sto.new.3, sI 0, sI 0] 115, SB.cells [nU 32 (fL (Rec.words (Rec.new k)))] 35] = [SB.cells [sP 1 0, sP 2 0, Seg.one (.v (.pointer none)), Seg.one (.v (.pointer none)), Seg.one (.v (.pointer none)), Seg.one (.v (.pointer none)), nI 4 zF, sI 0, Seg.one (.v (.slice none 0 0)), Seg.one (.v (.slice none 0 0))] 134, SB.cells [nU 16 zF] 102, SB.cells [nU 72 (XP k s0.1), nU 72 Sto.new.2, nB 36 Sto.new.3, sI 0, sI 0] 115, SB.cells [nU 32 (fL (Rec.words (Rec.new k)))] 35]) /\ ∀ (s : NewG), bif decide ((↑s.1 : Int) < (32 : Int)) then (iR (↑s.1 : Int) (32 : Int)) /\ ∃ (s_1 : Xf), [aP 2 0, aI (IntKind.wrap .i64 ((8 : Int) + (↑s.1 : Int))), aU (fL (Rec.words (Rec.new k)) (Int.toNat (↑s.1 : Int)))] = [aP 2 0, aI s_1.2, aU s_1.3] /\ [SB.cells [nU 72 (XP k s.1), nU 72 Sto.new.2, nB 36 Sto.new.3, sI 0, sI 0] 115] = [stoB (Xf.s s_1)] /\ (iR s_1.2 (72 : Int)) /\ ∀ (x : Unit), True -> ∃ (s' : NewG), ((eS (aP 3 0) (aP 3 0) /\ eS (aP 0 0) (aP 0 0) /\ eS (SA.a [nU 32 (fL (Rec.words (Rec.new k)))]) (SA.a [nU 32 (fL (Rec.words (Rec.new k)))]) /\ eS (aI (IntKind.wrap .i64 ((↑s.1 : Int) + (1 : Int)))) (aI ↑s'.1) /\ True) /\ [SB.cells [sP 1 0, sP 2 0, Seg.one (.v (.pointer none)), Seg.one (.v (.pointer none)), Seg.one (.v (.pointer none)), Seg.one (.v (.pointer none)), nI 4 zF, sI 0, Seg.one (.v (.slice none 0 0)), Seg.one (.v (.slice none 0 0))] 134, SB.cells [nU 16 zF] 102, stoB (Sto.save (Xf.s s_1) (Int.toNat (Xf.a s_1)) (Xf.x s_1)), SB.cells [nU 32 (fL (Rec.words (Rec.new k)))] 35] = [SB.cells [sP 1 0, sP 2 0, Seg.one (.v (.pointer none)), Seg.one (.v (.pointer none)), Seg.one (.v (.pointer none)), Seg.one (.v (.pointer none)), nI 4 zF, sI 0, Seg.one (.v (.slice none 0 0)), Seg.one (.v (.slice none 0 0))] 134, SB.cells [nU 16 zF] 102, SB.cells [nU 72 (XP k s'.1), nU 72 Sto.new.2, nB 36 Sto.new.3, sI 0, sI 0] 115, SB.cells [nU 32 (fL (Rec.words (Rec.new k)))] 35]) /\ 32 - s'.1 < 32 - s.1 else ∃ (s_1 : QaP), [aP 2 0, aI 1] = [aP 2 0, aI ↑s_1.2] /\ [SB.cells [nU 72 (XP k s.1), nU 72 Sto.new.2, nB 36 Sto.new.3, sI 0, sI 0] 115] = [stoB (QaP.s s_1)] /\ s_1.2 < 9 /\ ∀ (x : Unit), True -> ∃ (s : QaP), [aP 2 0, aI 2] = [aP 2 0, aI ↑s.2] /\ [stoB (Sto.evict (QaP.s s_1) (QaP.n s_1))] = [stoB (QaP.s s)] /\ s.2 < 9 /\ ∀ (x : Unit), True -> ∃ (s_2 : QaP), [aP 2 0, aI 3] = [aP 2 0, aI ↑s_2.2] /\ [stoB (Sto.evict (QaP.s s) (QaP.n s))] = [stoB (QaP.s s_2)] /\ s_2.2 < 9 /\ ∀ (x : Unit), True -> ∃ (s : QaP), [aP 2 0, aI 4] = [aP 2 0, aI ↑s.2] /\ [stoB (Sto.evict (QaP.s s_2) (QaP.n s_2))] = [stoB (QaP.s s)] /\ s.2 < 9 /\ ∀ (x : Unit), True -> i04 /\ (iR (1 : Int) (4 : Int)) /\ (iR (2 : Int) (4 : Int)) /\ (iR (3 : Int) (4 : Int)) /\ endN QgP [nzE 0, nzVd 0, nzWA 4, nzWD 4, nzWA 5, nzWD 5, nzWA 6, nzWD 6, nzWA 7, nzWD 7] QoV (NewS.mk k) (SV.t [aP 0 0, SA.c (.v Value.nilIface)]) [SB.cells [sP 1 0, sP 2 0, sP 4 0, sP 5 0, sP 6 0, sP 7 0, nI 4 zF, sI 0, Seg.one (.v (.slice none 0 0)), Seg.one (.v (.slice none 0 0))] 134, SB.cells [nU 16 zF] 102, stoB (Sto.evict (QaP.s s) (QaP.n s)), SB.cells [nU 32 (fL (Rec.words (Rec.new k)))] 35, SB.cells [sI 0, sI 0, sI 0, sI 0, sI 0, sI 0, sB false, sI 0, sU 0, nU 32 zF, Seg.one (.v (.slice none 0 0)), Seg.one (.v (.slice none 0 0)), nU 3 zF, sI 0, sI 0, sI 0] 42, SB.cells [sI 1, sI 0, sI 0, sI 0, sI 0, sI 0, sB false, sI 0, sU 0, nU 32 zF, Seg.one (.v (.slice none 0 0)), Seg.one (.v (.slice none 0 0)), nU 3 zF, sI 0, sI 0, sI 0] 42, SB.cells [sI 2, sI 0, sI 0, sI 0, sI 0, sI 0, sB false, sI 0, sU 0, nU 32 zF, Seg.one (.v (.slice none 0 0)), Seg.one (.v (.slice none 0 0)), nU 3 zF, sI 0, sI 0, sI 0] 42, SB.cells [sI 3, sI 0, sI 0, sI 0, sI 0, sI 0, sB false, sI 0, sU 0, nU 32 zF, Seg.one (.v (.slice none 0 0)), Seg.one (.v (.slice none 0 0)), nU 3 zF, sI 0, sI 0, sI 0] 42]) (by kernel_rfl) ?_
 have h1 : 1 <= k := h1
 have h6 : k <= 6 := h6
 refine ⟨⟨h1, h6⟩, (), rfl, rfl, trivial, fun _ _ => ⟨⟨⟨0, by decide⟩, ⟨rfl, rfl, rfl, rfl, trivial⟩, ?_⟩, ?_⟩⟩
 · exact congrArg (newM k) (QjX k).symm
 rintro ⟨i, hi⟩
 dsimp only at hi ⊢
 refine Qp (fun hlt => ?_) (fun hge => ?_)
 · have ea : IntKind.wrap .i64 (8 + (i : Int)) = ((8 + i : Nat) : Int) := by rw [QC (by omega) (by omega)]; omega
   rw [ea]
   exact ⟨⟨by omega, by omega⟩, ⟨{ Sto.new with now := XP k i }, ((8 + i : Nat) : Int), fL (Rec.new k).words i⟩, rfl, rfl, ⟨(by omega : (0 : Int) <= ((8 + i : Nat) : Int)), (by omega : ((8 + i : Nat) : Int) < 72)⟩, fun _ _ => ⟨⟨i + 1, by omega⟩, ⟨⟨rfl, rfl, rfl, svI (sucI (by omega)), trivial⟩, congrArg (newM k) (QjY k i)⟩, by dsimp only; omega⟩⟩
 · obtain rfl : i = 32 := by omega
   obtain ⟨A, hA⟩ : ∃ A : Sto, A = { Sto.new with now := XP k 32 } := ⟨_, rfl⟩
   exact ⟨⟨A, 1⟩, rfl, by rw [hA]; rfl, (by decide : 1 < 9), fun _ _ => ⟨⟨A.evict 1, 2⟩, rfl, rfl, (by decide : 2 < 9), fun _ _ => ⟨⟨(A.evict 1).evict 2, 3⟩, rfl, rfl, (by decide : 3 < 9), fun _ _ => ⟨⟨((A.evict 1).evict 2).evict 3, 4⟩, rfl, rfl, (by decide : 4 < 9), fun _ _ => ⟨⟨by decide, by decide⟩, ⟨by decide, by decide⟩, ⟨by decide, by decide⟩, ⟨by decide, by decide⟩, Qnq k (evict4 k hA)⟩⟩⟩⟩⟩
def Qis : MCon where
 σ := NewS
 χ := List Nat
 pre s := 1 <= s.k /\ s.k <= 6
 args s := [.c (.v (.int .i64 s.k))]
 mem _ := []
 ok _ _ := True
 val _ _ := .t [.c (.p 0 0), .c (.v .nilIface)]
 mem' s F := [.abs (Qz shM ShS.z ShS.good (Sh.new s.k)) F]
 k := 0
 len := 1
 det := none
 find _ _ := some []
theorem newH : (Con.mem Qis).holds Tryz.prog 75 := by
 intro w0 S
 have h := Qnr w0 S
 refine ⟨h.1, fun x0 h => (by cases h), fun ρ s w hp hK HM => (h.2.2 ρ s w hp hK HM).mono ?_⟩
 rintro e w' ⟨x, ρ', ⟨hg, hz⟩, hag, hlen, rfl, HM'⟩
 have HM' : Mem w (feet (denM ρ 0 [])) (denM ρ' 0 (shM x)) w' := HM'
 refine ⟨feetL (denM ρ' 0 (shM x)), ρ', trivial, fun i hi => absurd hi (Nat.not_lt_zero _), rfl, rfl, ?_⟩
 show Mem w (feet (denM ρ 0 [])) [En.abs (ρ' 0) (Qz shM ShS.z ShS.good (Sh.new s.k)) (feetL (denM ρ' 0 (shM x)))] w'
 refine ⟨HM'.kept, fun e he => ?_, fun e he g hg => ?_, List.pairwise_singleton _ _⟩
 · obtain rfl := List.mem_singleton.1 he
   exact ⟨x, ρ', hz, hg, rfl, ⟨Kept.refl _ _, fun e he => HM'.holds e he, fun e he g hg => .inl ⟨e, he, hg⟩, HM'.dist⟩, fun g => (feetL_iff _ g).symm⟩
 · obtain rfl := List.mem_singleton.1 he
   obtain ⟨e', he', hf'⟩ := (feetL_iff _ g).1 hg
   exact HM'.own e' he' g hf'
end
section
open Go.RowKit
def craC : TCon Sh Int Unit where
 pre z l := QkG z l
 args l := [.c (.v (.int .u64 l))]
 ok _ _ _ := True
 next z l _ := z.crash l
 val _ _ _ _ := .t []
 new _ _ _ _ := []
 len := 0
abbrev QZ : MCon := craC.low shM ShS.z ShS.good 17 7 Qcg
structure CraG (z : Sh) (l : Int) where
 n : Nat
 mh : Nat
 ch : Nat
 nh : Bool
 zh : Nat -> Nat -> Int
 hn : n <= z.deeds.length
 hu : upTo (Qr l z.s 0) (z.deeds.take n) = upTo (Qr l z.s 0) z.deeds
 lh : Nat
 hl : lh = z.hist.length + 1
 h1 : lh <= mh
 h2 : mh <= ch
 h : IsE zh (z.hist ++ [⟨3, 0, 0, 0, 0, 0, 0, 0, z.steps + 1⟩])
def QoF (s : ShS) (l : Int) : Ann where
 σ := CraG s.z l
 I g := ([(0, .o (.c (.p 0 0))), (4, sv (.int .i64 (Qr l s.z.s 0))), (5, sv (.int .i64 ((g.n : Int) - 1)))],
   shX (putF (fun _ => 0) 1 (Qr l s.z.s 0)) (s.z.s.crash l) s.z.w s.z.tog (s.z.steps + 1) s.r g.lh g.mh g.ch g.nh g.zh g.n s.mv s.cv s.nv s.zv)
 dec g := g.n
 pi env M := shAt M 0
 nz := []
theorem QkO {l : List Vd} {n : Nat} (h0 : 0 < n) (hn : n <= l.length) : l.take n = l.take (n - 1) ++ [l.getD (n - 1) Vd.nil] := by
 obtain ⟨m, rfl⟩ : ∃ m, n = m + 1 := ⟨n - 1, by omega⟩
 rw [Nat.add_sub_cancel, List.take_add_one, List.getElem?_eq_getElem (by omega), Option.toList_some, List.getD_eq_getElem?_getD, List.getElem?_eq_getElem (by omega)]; rfl
theorem QoM {v : Int} {l : List Vd} {d : Vd} (h : v < d.ver) : upTo v (l ++ [d]) = upTo v l := by
 unfold upTo
 rw [List.reverse_append]
 show (List.dropWhile _ (d :: l.reverse)).reverse = _
 rw [List.dropWhile_cons_of_pos (by simpa using h)]
theorem QoL {v : Int} {l : List Vd} {d : Vd} (h : ¬ v < d.ver) : upTo v (l ++ [d]) = l ++ [d] := by
 unfold upTo
 rw [List.reverse_append]
 show (List.dropWhile _ (d :: l.reverse)).reverse = _
 rw [List.dropWhile_cons_of_neg (by simpa using h), List.reverse_cons, List.reverse_reverse]
def agW (a : Bool) (w : Wk) : Wk := bif a then Wk.call w.th w.k w.key w.x w.tog true else w
def agR (a : Bool) (r : WkR) : WkR := bif a then ⟨0, 0, false, fun _ _ => 0, 0, 0, false, fun _ _ => 0⟩ else r
def agH (a : Bool) (w : Wk) : Prop := if a then w.does ≠ 0 else w.does = 0
theorem Qey {a : Bool} {w : Wk} (h : agH a w) : w.again = agW a w := by
 unfold Wk.again
 cases a
 · exact if_pos h
 · exact if_neg h
theorem QeT {a : Bool} {w : Wk} {r : WkR} (h : (wkS w r).good) : (wkS (agW a w) (agR a r)).good := by
 cases a
 · exact h
 · exact ⟨⟨Nat.le_refl _, Nat.le_refl _⟩, fun i hi => absurd hi (Nat.not_lt_zero _), ⟨Nat.le_refl _, Nat.le_refl _⟩, fun i hi => absurd hi (Nat.not_lt_zero _)⟩
def sel4 {α : Type} (x0 x1 x2 x3 : α) : Nat -> α
 | 0 => x0
 | 1 => x1
 | 2 => x2
 | _ => x3
theorem QA {z : Sh} {r : Nat -> WkR} {mh ch : Nat} {nh : Bool} {zh : Nat -> Nat -> Int} {mv cv : Nat} {nv : Bool} {zv : Nat -> Nat -> Int} {l : Int} (h0 : (⟨z, r, mh, ch, nh, zh, mv, cv, nv, zv⟩ : ShS).good)
   {n lh mh' ch' : Nat} {nh' : Bool} {zh' : Nat -> Nat -> Int} (hn : n <= z.deeds.length) (hz : z.deeds.take n = upTo (Qr l z.s 0) z.deeds) (hl : lh = z.hist.length + 1) (g1 : lh <= mh') (g2 : mh' <= ch') (g3 : IsE zh' (z.hist ++ [⟨3, 0, 0, 0, 0, 0, 0, 0, z.steps + 1⟩]))
   {a0 a1 a2 a3 : Bool} {M : List SB} (hc : (nodB (shAt M 0) && QaU M.length (shAt M 0) && idB 0 7 (shAt M 0)) = true)
   (hM : (shAt M 0).map (getB M) = (shX (putF (fun _ => 0) 1 (Qr l z.s 0)) (z.s.crash l) (sel4 (agW a0 (z.w 0)) (agW a1 (z.w 1)) (agW a2 (z.w 2)) (agW a3 (z.w 3))) z.tog (z.steps + 1) (sel4 (agR a0 (r 0)) (agR a1 (r 1)) (agR a2 (r 2)) (agR a3 (r 3))) lh mh' ch' nh' zh' n mv cv nv zv).map (SB.ren (ofL (shAt M 0))))
   (e0 : agH a0 (z.w 0)) (e1 : agH a1 (z.w 1)) (e2 : agH a2 (z.w 2)) (e3 : agH a3 (z.w 3)) :
   endN QZ [] (fun (x : SV) (M : List SB) => shAt M 0) (⟨z, r, mh, ch, nh, zh, mv, cv, nv, zv⟩, l) (SV.t []) M := by
 have hw := h0.w
 have v1 := h0.v1
 have v2 := h0.v2
 dsimp only at hw v1 v2
 refine Qi rfl ⟨⟨z.crash l, sel4 (agR a0 (r 0)) (agR a1 (r 1)) (agR a2 (r 2)) (agR a3 (r 3)), mh', ch', nh', zh', mv, cv, nv, zv⟩, ()⟩ ⟨⟨fun t ht => ?_, ?_, g2, g3, ?_, v2, ?_⟩, rfl, trivial⟩ ?_ rfl ?_
 · rcases (show t = 0 \/ t = 1 \/ t = 2 \/ t = 3 by omega) with rfl | rfl | rfl | rfl
   · show (wkS ((z.w 0).again) (agR a0 (r 0))).good
     rw [Qey e0]; exact QeT (hw 0 (by decide))
   · show (wkS ((z.w 1).again) (agR a1 (r 1))).good
     rw [Qey e1]; exact QeT (hw 1 (by decide))
   · show (wkS ((z.w 2).again) (agR a2 (r 2))).good
     rw [Qey e2]; exact QeT (hw 2 (by decide))
   · show (wkS ((z.w 3).again) (agR a3 (r 3))).good
     rw [Qey e3]; exact QeT (hw 3 (by decide))
 · show (z.hist ++ [_]).length <= mh'
   rw [List.length_append]
   show z.hist.length + 1 <= mh'
   omega
 · show (upTo (Qr l z.s 0) z.deeds).length <= mv
   rw [<- hz, List.length_take]; omega
 · show IsV zv (upTo (Qr l z.s 0) z.deeds)
   rw [<- hz]; exact IsR.take h0.v n
 · simp only [Bool.and_eq_true] at hc ⊢
   exact ⟨⟨⟨hc, rfl⟩, rfl⟩, rfl⟩
 · refine hM.trans (congrArg (List.map _) ?_)
   show _ = shX (putF (fun _ => 0) 1 (Qr l z.s 0)) (z.s.crash l) (fun t => (z.w t).again) z.tog (z.steps + 1) (sel4 (agR a0 (r 0)) (agR a1 (r 1)) (agR a2 (r 2)) (agR a3 (r 3))) (z.hist ++ [_]).length mh' ch' nh' zh' (upTo (Qr l z.s 0) z.deeds).length mv cv nv zv ++ []
   rw [<- hz, List.length_take, Nat.min_eq_left hn, List.length_append, List.append_nil, hl]
   dsimp only [shX]
   rw [Qey e0, Qey e1, Qey e2, Qey e3]; rfl
theorem Qpm : (Con.mem QZ).holds Tryz.prog 50 := by
 intro w0 S
 refine Qb (Γ := [(85, .mem (QdC true)), (86, .mem QeS), (42, .inl Tryz.f42 (Tryz.f42.body.getD .skip)), (26, .mem QI), (87, .mem Xh), (23, .mem (Qbn true))]) (fun _ => noW) Tryz.func50 rfl (by kernel_rfl) Qf Qc (fun w S' _ _ => .cons (Qg6 w S') (.cons (Qmv w S') (.cons ⟨by kernel_rfl, rfl, rfl⟩ (.cons (QL w S') (.cons (XW w S') (.cons (Qmw w S') (.nil _ _ _))))))) QZ (fun s => [(50, [(0, QoF s.1 s.2)])]) (fun x0 h => by cases h) (fun s ρ w _ _ _ => Qh w _) [] (fun _ M => shAt M 0) 600 ?_
 rintro ⟨⟨z, r, mh, ch, nh, zh, mv, cv, nv, zv⟩, l⟩ W ⟨h0, h1⟩ -
 refine ⟨rfl, ?_⟩
 dsimp only
 refine Qj (q := dP Tryz.f50 1 17 [⟨11, [17], [15, 18], [], true⟩, ⟨10, [], [17], [17], false⟩, xE 9, xR 8 0, xF 7 0, xF 6 0, xF 5 0, ⟨4, [0], [], [15], false⟩, xF 3 0, xF 2 0, xF 1 0, xF 0 0] /\ ((List.length z.6 <= mh /\ ch = ch) /\ (1 <= 1 /\ 1 = 1) /\ List.length z.6 + 1 <= 68719476736) /\ ∀ (c : Nat), List.length z.6 + 1 <= c -> dP Tryz.f50 1 17 [⟨14, [], [0], [1, 2, 3, 4, 5, 6, 18, 16], false⟩, xF 13 0, xF 12 0, ⟨11, [17], [15, 18], [18], true⟩, ⟨10, [], [17], [17], false⟩, xE 9, xR 8 0, xF 7 0, xF 6 0, xF 5 0, ⟨4, [0], [], [15], false⟩, xF 3 0, xF 2 0, xF 1 0, xF 0 0] /\ ∃ (s : Qby), [aP 2 0, aU l] = [aP 2 0, aU s.2] /\ [stoB (Sh.s z)] = [stoB (Qby.s s)] /\ U64 s.2 /\ ∀ (x : Unit), True -> ∃ (s_1 : Nat -> Int), [aP 1 0] = [aP 1 0] /\ [ramB z.1] = [ramB s_1] /\ True /\ ∀ (x : Unit), True -> ∃ (s_2 : Qt), [aP 2 0, aI 0] = [aP 2 0, aI s_2.2] /\ [stoB (bif true then Sto.crash (Qby.s s) (Qby.l s) else have __src := crTo s 9; Sto.mk (Sto.now __src) (Sto.good __src) (zF) (Sto.fl __src) (Sto.fe __src))] = [stoB (Qt.s s_2)] /\ (iR s_2.2 (72 : Int)) /\ ∀ (x : Unit), True -> ∃ (s : QaZ), [aP 1 0, aI 1, aU (IntKind.wrap .u64 (IntKind.wrap .i64 ((Qt.s s_2).1 (Int.toNat s_2.2))))] = [aP 1 0, aI s.2, aU s.3] /\ [SB.cells [nU 16 zF] 102] = [ramB s.1] /\ (iR s.2 (16 : Int)) /\ ∀ (x : Unit), True -> List.length z.7 <= cv /\ (∃ (s0 : Ann.σ (QoF (ShS.mk z r mh ch nh zh mv cv nv zv) l)), (eS (aP 0 0) (aP 0 0) /\ eS (aI (IntKind.wrap .i64 ((Qt.s s_2).1 (Int.toNat s_2.2)))) (aI (Qr l z.2 0)) /\ eS (aI (IntKind.wrap .i64 ((↑(List.length z.7) : Int) - (1 : Int)))) (aI ((↑s0.1 : Int) - (1 : Int))) /\ True) /\ (shI (shD z.4 (IntKind.wrap .i64 (z.5 + (1 : Int))) 18 (List.length z.6 + 1) c nh 16 (List.length z.7) cv nv) (putF s.1 (Int.toNat s.2) s.3) (Qt.s s_2) (stC (Sh.w z) r) (stA r) (stD r) (evB (List.length z.6 + 1) c fun (i j : Nat) => bif Nat.ble (i + 1) (List.length z.6) then zh i j else match List.get?Internal (match List.get?Internal [[(3 : Int), (0 : Int), (0 : Int), (0 : Int), (0 : Int), (0 : Int), (0 : Int), (0 : Int), IntKind.wrap .i64 (z.5 + (1 : Int))]] (0 + (i - List.length z.6)) with | some x => x | none => []) j with | some x => x | none => (0 : Int)) (vdB mv cv zv) []) = (shI (shD z.4 (z.5 + (1 : Int)) 18 s0.8 s0.3 s0.4 16 s0.1 cv nv) (putF (zF) 1 (Qr l z.2 0)) (Sto.crash (Sh.s z) l) (stC (Sh.w z) r) (stA r) (stD r) (evB s0.2 s0.3 s0.5) (vdB mv cv zv) [])) /\ ∀ (s : CraG z l), bif decide ((↑s.1 : Int) - (1 : Int) >= (0 : Int)) then ((0 : Int) <= (↑s.1 : Int) - (1 : Int) /\ (↑s.1 : Int) - (1 : Int) < (↑s.1 : Int) /\ 0 + s.1 <= cv) /\ 0 + Int.toNat ((↑s.1 : Int) - (1 : Int)) < mv /\ bif decide (zv (0 + Int.toNat ((↑s.1 : Int) - (1 : Int))) 0 > IntKind.wrap .u64 (Qr l z.2 0)) then ((0 : Int) <= (↑s.1 : Int) - (1 : Int) /\ (↑s.1 : Int) - (1 : Int) <= (↑cv : Int)) /\ ∃ (s' : CraG z l), ((eS (aP 0 0) (aP 0 0) /\ eS (aI (Qr l z.2 0)) (aI (Qr l z.2 0)) /\ eS (aI (IntKind.wrap .i64 ((↑s.1 : Int) - (1 : Int) - (1 : Int)))) (aI ((↑s'.1 : Int) - (1 : Int))) /\ True) /\ (shI (shD z.4 (z.5 + (1 : Int)) 15 s.8 s.3 s.4 16 (Int.toNat ((↑s.1 : Int) - (1 : Int))) cv nv) (putF (zF) 1 (Qr l z.2 0)) (Sto.crash (Sh.s z) l) (stC (Sh.w z) r) (stA r) (stD r) (evB s.2 s.3 s.5) (vdB mv cv zv) []) = (shI (shD z.4 (z.5 + (1 : Int)) 15 s'.8 s'.3 s'.4 16 s'.1 cv nv) (putF (zF) 1 (Qr l z.2 0)) (Sto.crash (Sh.s z) l) (stC (Sh.w z) r) (stA r) (stD r) (evB s'.2 s'.3 s'.5) (vdB mv cv zv) [])) /\ s'.1 < s.1 else i04 /\ bif (Sh.w z 0).2 != (0 : Int) then ∃ (s_3 : Qa), [aP 3 0, SA.a [sI (Sh.w z 0).3, sI (Sh.w z 0).4, sI (Sh.w z 0).5], aI (Sh.w z 0).6, aB true] = [aP 3 0, SA.a [sI s_3.2, sI s_3.3, sI s_3.4], aI s_3.5, aB true] /\ [wkR 7 8 (Sh.w z 0) (r 0), waR (r 0), wdR (r 0)] = [wkC 7 8 (WkS.w (Qa.s s_3)) (Qa.s s_3).3 (Qa.s s_3).4 (Qa.s s_3).7 (Qa.s s_3).8, wkA (Qa.s s_3).2 (Qa.s s_3).3 (Qa.s s_3).5, wkD (Qa.s s_3).6 (Qa.s s_3).7 (Qa.s s_3).9] /\ True /\ ∀ (x : Unit), True -> dP Tryz.f50 14 17 [⟨9, [], [3, 7, 8, 17, 18], [17, 18], false⟩, xR 8 3, xF 7 3, xF 6 3, xF 5 3, xR 4 3, xF 3 3, xF 2 3, xF 1 3, xF 0 3] /\ (iR (1 : Int) (4 : Int)) /\ bif (Sh.w z 1).2 != (0 : Int) then ∃ (s_4 : Qa), [aP 4 0, SA.a [sI (Sh.w z 1).3, sI (Sh.w z 1).4, sI (Sh.w z 1).5], aI (Sh.w z 1).6, aB true] = [aP 4 0, SA.a [sI s_4.2, sI s_4.3, sI s_4.4], aI s_4.5, aB true] /\ [wkR 9 10 (Sh.w z 1) (r 1), waR (r 1), wdR (r 1)] = [wkC 9 10 (WkS.w (Qa.s s_4)) (Qa.s s_4).3 (Qa.s s_4).4 (Qa.s s_4).7 (Qa.s s_4).8, wkA (Qa.s s_4).2 (Qa.s s_4).3 (Qa.s s_4).5, wkD (Qa.s s_4).6 (Qa.s s_4).7 (Qa.s s_4).9] /\ True /\ ∀ (x : Unit), True -> dP Tryz.f50 14 19 [⟨9, [], [4, 9, 10, 19, 20], [19, 20], false⟩, xR 8 4, xF 7 4, xF 6 4, xF 5 4, xR 4 4, xF 3 4, xF 2 4, xF 1 4, xF 0 4] /\ (iR (2 : Int) (4 : Int)) /\ bif (Sh.w z 2).2 != (0 : Int) then ∃ (s_5 : Qa), [aP 5 0, SA.a [sI (Sh.w z 2).3, sI (Sh.w z 2).4, sI (Sh.w z 2).5], aI (Sh.w z 2).6, aB true] = [aP 5 0, SA.a [sI s_5.2, sI s_5.3, sI s_5.4], aI s_5.5, aB true] /\ [wkR 11 12 (Sh.w z 2) (r 2), waR (r 2), wdR (r 2)] = [wkC 11 12 (WkS.w (Qa.s s_5)) (Qa.s s_5).3 (Qa.s s_5).4 (Qa.s s_5).7 (Qa.s s_5).8, wkA (Qa.s s_5).2 (Qa.s s_5).3 (Qa.s s_5).5, wkD (Qa.s s_5).6 (Qa.s s_5).7 (Qa.s s_5).9] /\ True /\ ∀ (x : Unit), True -> dP Tryz.f50 14 21 [⟨9, [], [5, 11, 12, 21, 22], [21, 22], false⟩, xR 8 5, xF 7 5, xF 6 5, xF 5 5, xR 4 5, xF 3 5, xF 2 5, xF 1 5, xF 0 5] /\ (iR (3 : Int) (4 : Int)) /\ bif (Sh.w z 3).2 != (0 : Int) then ∃ (s_6 : Qa), [aP 6 0, SA.a [sI (Sh.w z 3).3, sI (Sh.w z 3).4, sI (Sh.w z 3).5], aI (Sh.w z 3).6, aB true] = [aP 6 0, SA.a [sI s_6.2, sI s_6.3, sI s_6.4], aI s_6.5, aB true] /\ [wkR 13 14 (Sh.w z 3) (r 3), waR (r 3), wdR (r 3)] = [wkC 13 14 (WkS.w (Qa.s s_6)) (Qa.s s_6).3 (Qa.s s_6).4 (Qa.s s_6).7 (Qa.s s_6).8, wkA (Qa.s s_6).2 (Qa.s s_6).3 (Qa.s s_6).5, wkD (Qa.s s_6).6 (Qa.s s_6).7 (Qa.s s_6).9] /\ True /\ ∀ (x : Unit), True -> dP Tryz.f50 14 23 [⟨9, [], [6, 13, 14, 23, 24], [23, 24], false⟩, xR 8 6, xF 7 6, xF 6 6, xF 5 6, xR 4 6, xF 3 6, xF 2 6, xF 1 6, xF 0 6] /\ endN QZ [] (fun (x : SV) (M : List SB) => shAt M 0) (ShS.mk z r mh ch nh zh mv cv nv zv, l) (SV.t []) (shI (shD z.4 (z.5 + (1 : Int)) 15 s.8 s.3 s.4 16 s.1 cv nv) (putF (zF) 1 (Qr l z.2 0)) (Sto.crash (Sh.s z) l) (setF (setF (setF (setF (stC (Sh.w z) r) 0 (wkZ 17 18 (wcA s_3))) 1 (wkZ 19 20 (wcA s_4))) 2 (wkZ 21 22 (wcA s_5))) 3 (wkZ 23 24 (wcA s_6))) (setF (setF (setF (setF (stA r) 0 SB.gone) 1 SB.gone) 2 SB.gone) 3 SB.gone) (setF (setF (setF (setF (stD r) 0 SB.gone) 1 SB.gone) 2 SB.gone) 3 SB.gone) (evB s.2 s.3 s.5) (vdB mv cv zv) [wa0, wd0, wa0, wd0, wa0, wd0, wa0, wd0]) else endN QZ [] (fun (x : SV) (M : List SB) => shAt M 0) (ShS.mk z r mh ch nh zh mv cv nv zv, l) (SV.t []) (shI (shD z.4 (z.5 + (1 : Int)) 15 s.8 s.3 s.4 16 s.1 cv nv) (putF (zF) 1 (Qr l z.2 0)) (Sto.crash (Sh.s z) l) (setF (setF (setF (stC (Sh.w z) r) 0 (wkZ 17 18 (wcA s_3))) 1 (wkZ 19 20 (wcA s_4))) 2 (wkZ 21 22 (wcA s_5))) (setF (setF (setF (stA r) 0 SB.gone) 1 SB.gone) 2 SB.gone) (setF (setF (setF (stD r) 0 SB.gone) 1 SB.gone) 2 SB.gone) (evB s.2 s.3 s.5) (vdB mv cv zv) [wa0, wd0, wa0, wd0, wa0, wd0]) else (iR (3 : Int) (4 : Int)) /\ bif (Sh.w z 3).2 != (0 : Int) then ∃ (s_5 : Qa), [aP 6 0, SA.a [sI (Sh.w z 3).3, sI (Sh.w z 3).4, sI (Sh.w z 3).5], aI (Sh.w z 3).6, aB true] = [aP 6 0, SA.a [sI s_5.2, sI s_5.3, sI s_5.4], aI s_5.5, aB true] /\ [wkR 13 14 (Sh.w z 3) (r 3), waR (r 3), wdR (r 3)] = [wkC 13 14 (WkS.w (Qa.s s_5)) (Qa.s s_5).3 (Qa.s s_5).4 (Qa.s s_5).7 (Qa.s s_5).8, wkA (Qa.s s_5).2 (Qa.s s_5).3 (Qa.s s_5).5, wkD (Qa.s s_5).6 (Qa.s s_5).7 (Qa.s s_5).9] /\ True /\ ∀ (x : Unit), True -> dP Tryz.f50 14 21 [⟨9, [], [6, 13, 14, 21, 22], [21, 22], false⟩, xR 8 6, xF 7 6, xF 6 6, xF 5 6, xR 4 6, xF 3 6, xF 2 6, xF 1 6, xF 0 6] /\ endN QZ [] (fun (x : SV) (M : List SB) => shAt M 0) (ShS.mk z r mh ch nh zh mv cv nv zv, l) (SV.t []) (shI (shD z.4 (z.5 + (1 : Int)) 15 s.8 s.3 s.4 16 s.1 cv nv) (putF (zF) 1 (Qr l z.2 0)) (Sto.crash (Sh.s z) l) (setF (setF (setF (stC (Sh.w z) r) 0 (wkZ 17 18 (wcA s_3))) 1 (wkZ 19 20 (wcA s_4))) 3 (wkZ 21 22 (wcA s_5))) (setF (setF (setF (stA r) 0 SB.gone) 1 SB.gone) 3 SB.gone) (setF (setF (setF (stD r) 0 SB.gone) 1 SB.gone) 3 SB.gone) (evB s.2 s.3 s.5) (vdB mv cv zv) [wa0, wd0, wa0, wd0, wa0, wd0]) else endN QZ [] (fun (x : SV) (M : List SB) => shAt M 0) (ShS.mk z r mh ch nh zh mv cv nv zv, l) (SV.t []) (shI (shD z.4 (z.5 + (1 : Int)) 15 s.8 s.3 s.4 16 s.1 cv nv) (putF (zF) 1 (Qr l z.2 0)) (Sto.crash (Sh.s z) l) (setF (setF (stC (Sh.w z) r) 0 (wkZ 17 18 (wcA s_3))) 1 (wkZ 19 20 (wcA s_4))) (setF (setF (stA r) 0 SB.gone) 1 SB.gone) (setF (setF (stD r) 0 SB.gone) 1 SB.gone) (evB s.2 s.3 s.5) (vdB mv cv zv) [wa0, wd0, wa0, wd0]) else (iR (2 : Int) (4 : Int)) /\ bif (Sh.w z 2).2 != (0 : Int) then ∃ (s_4 : Qa), [aP 5 0, SA.a [sI (Sh.w z 2).3, sI (Sh.w z 2).4, sI (Sh.w z 2).5], aI (Sh.w z 2).6, aB true] = [aP 5 0, SA.a [sI s_4.2, sI s_4.3, sI s_4.4], aI s_4.5, aB true] /\ [wkR 11 12 (Sh.w z 2) (r 2), waR (r 2), wdR (r 2)] = [wkC 11 12 (WkS.w (Qa.s s_4)) (Qa.s s_4).3 (Qa.s s_4).4 (Qa.s s_4).7 (Qa.s s_4).8, wkA (Qa.s s_4).2 (Qa.s s_4).3 (Qa.s s_4).5, wkD (Qa.s s_4).6 (Qa.s s_4).7 (Qa.s s_4).9] /\ True /\ ∀ (x : Unit), True -> dP Tryz.f50 14 19 [⟨9, [], [5, 11, 12, 19, 20], [19, 20], false⟩, xR 8 5, xF 7 5, xF 6 5, xF 5 5, xR 4 5, xF 3 5, xF 2 5, xF 1 5, xF 0 5] /\ (iR (3 : Int) (4 : Int)) /\ bif (Sh.w z 3).2 != (0 : Int) then ∃ (s_5 : Qa), [aP 6 0, SA.a [sI (Sh.w z 3).3, sI (Sh.w z 3).4, sI (Sh.w z 3).5], aI (Sh.w z 3).6, aB true] = [aP 6 0, SA.a [sI s_5.2, sI s_5.3, sI s_5.4], aI s_5.5, aB true] /\ [wkR 13 14 (Sh.w z 3) (r 3), waR (r 3), wdR (r 3)] = [wkC 13 14 (WkS.w (Qa.s s_5)) (Qa.s s_5).3 (Qa.s s_5).4 (Qa.s s_5).7 (Qa.s s_5).8, wkA (Qa.s s_5).2 (Qa.s s_5).3 (Qa.s s_5).5, wkD (Qa.s s_5).6 (Qa.s s_5).7 (Qa.s s_5).9] /\ True /\ ∀ (x : Unit), True -> dP Tryz.f50 14 21 [⟨9, [], [6, 13, 14, 21, 22], [21, 22], false⟩, xR 8 6, xF 7 6, xF 6 6, xF 5 6, xR 4 6, xF 3 6, xF 2 6, xF 1 6, xF 0 6] /\ endN QZ [] (fun (x : SV) (M : List SB) => shAt M 0) (ShS.mk z r mh ch nh zh mv cv nv zv, l) (SV.t []) (shI (shD z.4 (z.5 + (1 : Int)) 15 s.8 s.3 s.4 16 s.1 cv nv) (putF (zF) 1 (Qr l z.2 0)) (Sto.crash (Sh.s z) l) (setF (setF (setF (stC (Sh.w z) r) 0 (wkZ 17 18 (wcA s_3))) 2 (wkZ 19 20 (wcA s_4))) 3 (wkZ 21 22 (wcA s_5))) (setF (setF (setF (stA r) 0 SB.gone) 2 SB.gone) 3 SB.gone) (setF (setF (setF (stD r) 0 SB.gone) 2 SB.gone) 3 SB.gone) (evB s.2 s.3 s.5) (vdB mv cv zv) [wa0, wd0, wa0, wd0, wa0, wd0]) else endN QZ [] (fun (x : SV) (M : List SB) => shAt M 0) (ShS.mk z r mh ch nh zh mv cv nv zv, l) (SV.t []) (shI (shD z.4 (z.5 + (1 : Int)) 15 s.8 s.3 s.4 16 s.1 cv nv) (putF (zF) 1 (Qr l z.2 0)) (Sto.crash (Sh.s z) l) (setF (setF (stC (Sh.w z) r) 0 (wkZ 17 18 (wcA s_3))) 2 (wkZ 19 20 (wcA s_4))) (setF (setF (stA r) 0 SB.gone) 2 SB.gone) (setF (setF (stD r) 0 SB.gone) 2 SB.gone) (evB s.2 s.3 s.5) (vdB mv cv zv) [wa0, wd0, wa0, wd0]) else (iR (3 : Int) (4 : Int)) /\ bif (Sh.w z 3).2 != (0 : Int) then ∃ (s_4 : Qa), [aP 6 0, SA.a [sI (Sh.w z 3).3, sI (Sh.w z 3).4, sI (Sh.w z 3).5], aI (Sh.w z 3).6, aB true] = [aP 6 0, SA.a [sI s_4.2, sI s_4.3, sI s_4.4], aI s_4.5, aB true] /\ [wkR 13 14 (Sh.w z 3) (r 3), waR (r 3), wdR (r 3)] = [wkC 13 14 (WkS.w (Qa.s s_4)) (Qa.s s_4).3 (Qa.s s_4).4 (Qa.s s_4).7 (Qa.s s_4).8, wkA (Qa.s s_4).2 (Qa.s s_4).3 (Qa.s s_4).5, wkD (Qa.s s_4).6 (Qa.s s_4).7 (Qa.s s_4).9] /\ True /\ ∀ (x : Unit), True -> dP Tryz.f50 14 19 [⟨9, [], [6, 13, 14, 19, 20], [19, 20], false⟩, xR 8 6, xF 7 6, xF 6 6, xF 5 6, xR 4 6, xF 3 6, xF 2 6, xF 1 6, xF 0 6] /\ endN QZ [] (fun (x : SV) (M : List SB) => shAt M 0) (ShS.mk z r mh ch nh zh mv cv nv zv, l) (SV.t []) (shI (shD z.4 (z.5 + (1 : Int)) 15 s.8 s.3 s.4 16 s.1 cv nv) (putF (zF) 1 (Qr l z.2 0)) (Sto.crash (Sh.s z) l) (setF (setF (stC (Sh.w z) r) 0 (wkZ 17 18 (wcA s_3))) 3 (wkZ 19 20 (wcA s_4))) (setF (setF (stA r) 0 SB.gone) 3 SB.gone) (setF (setF (stD r) 0 SB.gone) 3 SB.gone) (evB s.2 s.3 s.5) (vdB mv cv zv) [wa0, wd0, wa0, wd0]) else endN QZ [] (fun (x : SV) (M : List SB) => shAt M 0) (ShS.mk z r mh ch nh zh mv cv nv zv, l) (SV.t []) (shI (shD z.4 (z.5 + (1 : Int)) 15 s.8 s.3 s.4 16 s.1 cv nv) (putF (zF) 1 (Qr l z.2 0)) (Sto.crash (Sh.s z) l) (setF (stC (Sh.w z) r) 0 (wkZ 17 18 (wcA s_3))) (setF (stA r) 0 SB.gone) (setF (stD r) 0 SB.gone) (evB s.2 s.3 s.5) (vdB mv cv zv) [wa0, wd0]) else (iR (1 : Int) (4 : Int)) /\ bif (Sh.w z 1).2 != (0 : Int) then ∃ (s_3 : Qa), [aP 4 0, SA.a [sI (Sh.w z 1).3, sI (Sh.w z 1).4, sI (Sh.w z 1).5], aI (Sh.w z 1).6, aB true] = [aP 4 0, SA.a [sI s_3.2, sI s_3.3, sI s_3.4], aI s_3.5, aB true] /\ [wkR 9 10 (Sh.w z 1) (r 1), waR (r 1), wdR (r 1)] = [wkC 9 10 (WkS.w (Qa.s s_3)) (Qa.s s_3).3 (Qa.s s_3).4 (Qa.s s_3).7 (Qa.s s_3).8, wkA (Qa.s s_3).2 (Qa.s s_3).3 (Qa.s s_3).5, wkD (Qa.s s_3).6 (Qa.s s_3).7 (Qa.s s_3).9] /\ True /\ ∀ (x : Unit), True -> dP Tryz.f50 14 17 [⟨9, [], [4, 9, 10, 17, 18], [17, 18], false⟩, xR 8 4, xF 7 4, xF 6 4, xF 5 4, xR 4 4, xF 3 4, xF 2 4, xF 1 4, xF 0 4] /\ (iR (2 : Int) (4 : Int)) /\ bif (Sh.w z 2).2 != (0 : Int) then ∃ (s_4 : Qa), [aP 5 0, SA.a [sI (Sh.w z 2).3, sI (Sh.w z 2).4, sI (Sh.w z 2).5], aI (Sh.w z 2).6, aB true] = [aP 5 0, SA.a [sI s_4.2, sI s_4.3, sI s_4.4], aI s_4.5, aB true] /\ [wkR 11 12 (Sh.w z 2) (r 2), waR (r 2), wdR (r 2)] = [wkC 11 12 (WkS.w (Qa.s s_4)) (Qa.s s_4).3 (Qa.s s_4).4 (Qa.s s_4).7 (Qa.s s_4).8, wkA (Qa.s s_4).2 (Qa.s s_4).3 (Qa.s s_4).5, wkD (Qa.s s_4).6 (Qa.s s_4).7 (Qa.s s_4).9] /\ True /\ ∀ (x : Unit), True -> dP Tryz.f50 14 19 [⟨9, [], [5, 11, 12, 19, 20], [19, 20], false⟩, xR 8 5, xF 7 5, xF 6 5, xF 5 5, xR 4 5, xF 3 5, xF 2 5, xF 1 5, xF 0 5] /\ (iR (3 : Int) (4 : Int)) /\ bif (Sh.w z 3).2 != (0 : Int) then ∃ (s_5 : Qa), [aP 6 0, SA.a [sI (Sh.w z 3).3, sI (Sh.w z 3).4, sI (Sh.w z 3).5], aI (Sh.w z 3).6, aB true] = [aP 6 0, SA.a [sI s_5.2, sI s_5.3, sI s_5.4], aI s_5.5, aB true] /\ [wkR 13 14 (Sh.w z 3) (r 3), waR (r 3), wdR (r 3)] = [wkC 13 14 (WkS.w (Qa.s s_5)) (Qa.s s_5).3 (Qa.s s_5).4 (Qa.s s_5).7 (Qa.s s_5).8, wkA (Qa.s s_5).2 (Qa.s s_5).3 (Qa.s s_5).5, wkD (Qa.s s_5).6 (Qa.s s_5).7 (Qa.s s_5).9] /\ True /\ ∀ (x : Unit), True -> dP Tryz.f50 14 21 [⟨9, [], [6, 13, 14, 21, 22], [21, 22], false⟩, xR 8 6, xF 7 6, xF 6 6, xF 5 6, xR 4 6, xF 3 6, xF 2 6, xF 1 6, xF 0 6] /\ endN QZ [] (fun (x : SV) (M : List SB) => shAt M 0) (ShS.mk z r mh ch nh zh mv cv nv zv, l) (SV.t []) (shI (shD z.4 (z.5 + (1 : Int)) 15 s.8 s.3 s.4 16 s.1 cv nv) (putF (zF) 1 (Qr l z.2 0)) (Sto.crash (Sh.s z) l) (setF (setF (setF (stC (Sh.w z) r) 1 (wkZ 17 18 (wcA s_3))) 2 (wkZ 19 20 (wcA s_4))) 3 (wkZ 21 22 (wcA s_5))) (setF (setF (setF (stA r) 1 SB.gone) 2 SB.gone) 3 SB.gone) (setF (setF (setF (stD r) 1 SB.gone) 2 SB.gone) 3 SB.gone) (evB s.2 s.3 s.5) (vdB mv cv zv) [wa0, wd0, wa0, wd0, wa0, wd0]) else endN QZ [] (fun (x : SV) (M : List SB) => shAt M 0) (ShS.mk z r mh ch nh zh mv cv nv zv, l) (SV.t []) (shI (shD z.4 (z.5 + (1 : Int)) 15 s.8 s.3 s.4 16 s.1 cv nv) (putF (zF) 1 (Qr l z.2 0)) (Sto.crash (Sh.s z) l) (setF (setF (stC (Sh.w z) r) 1 (wkZ 17 18 (wcA s_3))) 2 (wkZ 19 20 (wcA s_4))) (setF (setF (stA r) 1 SB.gone) 2 SB.gone) (setF (setF (stD r) 1 SB.gone) 2 SB.gone) (evB s.2 s.3 s.5) (vdB mv cv zv) [wa0, wd0, wa0, wd0]) else (iR (3 : Int) (4 : Int)) /\ bif (Sh.w z 3).2 != (0 : Int) then ∃ (s_4 : Qa), [aP 6 0, SA.a [sI (Sh.w z 3).3, sI (Sh.w z 3).4, sI (Sh.w z 3).5], aI (Sh.w z 3).6, aB true] = [aP 6 0, SA.a [sI s_4.2, sI s_4.3, sI s_4.4], aI s_4.5, aB true] /\ [wkR 13 14 (Sh.w z 3) (r 3), waR (r 3), wdR (r 3)] = [wkC 13 14 (WkS.w (Qa.s s_4)) (Qa.s s_4).3 (Qa.s s_4).4 (Qa.s s_4).7 (Qa.s s_4).8, wkA (Qa.s s_4).2 (Qa.s s_4).3 (Qa.s s_4).5, wkD (Qa.s s_4).6 (Qa.s s_4).7 (Qa.s s_4).9] /\ True /\ ∀ (x : Unit), True -> dP Tryz.f50 14 19 [⟨9, [], [6, 13, 14, 19, 20], [19, 20], false⟩, xR 8 6, xF 7 6, xF 6 6, xF 5 6, xR 4 6, xF 3 6, xF 2 6, xF 1 6, xF 0 6] /\ endN QZ [] (fun (x : SV) (M : List SB) => shAt M 0) (ShS.mk z r mh ch nh zh mv cv nv zv, l) (SV.t []) (shI (shD z.4 (z.5 + (1 : Int)) 15 s.8 s.3 s.4 16 s.1 cv nv) (putF (zF) 1 (Qr l z.2 0)) (Sto.crash (Sh.s z) l) (setF (setF (stC (Sh.w z) r) 1 (wkZ 17 18 (wcA s_3))) 3 (wkZ 19 20 (wcA s_4))) (setF (setF (stA r) 1 SB.gone) 3 SB.gone) (setF (setF (stD r) 1 SB.gone) 3 SB.gone) (evB s.2 s.3 s.5) (vdB mv cv zv) [wa0, wd0, wa0, wd0]) else endN QZ [] (fun (x : SV) (M : List SB) => shAt M 0) (ShS.mk z r mh ch nh zh mv cv nv zv, l) (SV.t []) (shI (shD z.4 (z.5 + (1 : Int)) 15 s.8 s.3 s.4 16 s.1 cv nv) (putF (zF) 1 (Qr l z.2 0)) (Sto.crash (Sh.s z) l) (setF (stC (Sh.w z) r) 1 (wkZ 17 18 (wcA s_3))) (setF (stA r) 1 SB.gone) (setF (stD r) 1 SB.gone) (evB s.2 s.3 s.5) (vdB mv cv zv) [wa0, wd0]) else (iR (2 : Int) (4 : Int)) /\ bif (Sh.w z 2).2 != (0 : Int) then ∃ (s_3 : Qa), [aP 5 0, SA.a [sI (Sh.w z 2).3, sI (Sh.w z 2).4, sI (Sh.w z 2).5], aI (Sh.w z 2).6, aB true] = [aP 5 0, SA.a [sI s_3.2, sI s_3.3, sI s_3.4], aI s_3.5, aB true] /\ [wkR 11 12 (Sh.w z 2) (r 2), waR (r 2), wdR (r 2)] = [wkC 11 12 (WkS.w (Qa.s s_3)) (Qa.s s_3).3 (Qa.s s_3).4 (Qa.s s_3).7 (Qa.s s_3).8, wkA (Qa.s s_3).2 (Qa.s s_3).3 (Qa.s s_3).5, wkD (Qa.s s_3).6 (Qa.s s_3).7 (Qa.s s_3).9] /\ True /\ ∀ (x : Unit), True -> dP Tryz.f50 14 17 [⟨9, [], [5, 11, 12, 17, 18], [17, 18], false⟩, xR 8 5, xF 7 5, xF 6 5, xF 5 5, xR 4 5, xF 3 5, xF 2 5, xF 1 5, xF 0 5] /\ (iR (3 : Int) (4 : Int)) /\ bif (Sh.w z 3).2 != (0 : Int) then ∃ (s_4 : Qa), [aP 6 0, SA.a [sI (Sh.w z 3).3, sI (Sh.w z 3).4, sI (Sh.w z 3).5], aI (Sh.w z 3).6, aB true] = [aP 6 0, SA.a [sI s_4.2, sI s_4.3, sI s_4.4], aI s_4.5, aB true] /\ [wkR 13 14 (Sh.w z 3) (r 3), waR (r 3), wdR (r 3)] = [wkC 13 14 (WkS.w (Qa.s s_4)) (Qa.s s_4).3 (Qa.s s_4).4 (Qa.s s_4).7 (Qa.s s_4).8, wkA (Qa.s s_4).2 (Qa.s s_4).3 (Qa.s s_4).5, wkD (Qa.s s_4).6 (Qa.s s_4).7 (Qa.s s_4).9] /\ True /\ ∀ (x : Unit), True -> dP Tryz.f50 14 19 [⟨9, [], [6, 13, 14, 19, 20], [19, 20], false⟩, xR 8 6, xF 7 6, xF 6 6, xF 5 6, xR 4 6, xF 3 6, xF 2 6, xF 1 6, xF 0 6] /\ endN QZ [] (fun (x : SV) (M : List SB) => shAt M 0) (ShS.mk z r mh ch nh zh mv cv nv zv, l) (SV.t []) (shI (shD z.4 (z.5 + (1 : Int)) 15 s.8 s.3 s.4 16 s.1 cv nv) (putF (zF) 1 (Qr l z.2 0)) (Sto.crash (Sh.s z) l) (setF (setF (stC (Sh.w z) r) 2 (wkZ 17 18 (wcA s_3))) 3 (wkZ 19 20 (wcA s_4))) (setF (setF (stA r) 2 SB.gone) 3 SB.gone) (setF (setF (stD r) 2 SB.gone) 3 SB.gone) (evB s.2 s.3 s.5) (vdB mv cv zv) [wa0, wd0, wa0, wd0]) else endN QZ [] (fun (x : SV) (M : List SB) => shAt M 0) (ShS.mk z r mh ch nh zh mv cv nv zv, l) (SV.t []) (shI (shD z.4 (z.5 + (1 : Int)) 15 s.8 s.3 s.4 16 s.1 cv nv) (putF (zF) 1 (Qr l z.2 0)) (Sto.crash (Sh.s z) l) (setF (stC (Sh.w z) r) 2 (wkZ 17 18 (wcA s_3))) (setF (stA r) 2 SB.gone) (setF (stD r) 2 SB.gone) (evB s.2 s.3 s.5) (vdB mv cv zv) [wa0, wd0]) else (iR (3 : Int) (4 : Int)) /\ bif (Sh.w z 3).2 != (0 : Int) then ∃ (s_3 : Qa), [aP 6 0, SA.a [sI (Sh.w z 3).3, sI (Sh.w z 3).4, sI (Sh.w z 3).5], aI (Sh.w z 3).6, aB true] = [aP 6 0, SA.a [sI s_3.2, sI s_3.3, sI s_3.4], aI s_3.5, aB true] /\ [wkR 13 14 (Sh.w z 3) (r 3), waR (r 3), wdR (r 3)] = [wkC 13 14 (WkS.w (Qa.s s_3)) (Qa.s s_3).3 (Qa.s s_3).4 (Qa.s s_3).7 (Qa.s s_3).8, wkA (Qa.s s_3).2 (Qa.s s_3).3 (Qa.s s_3).5, wkD (Qa.s s_3).6 (Qa.s s_3).7 (Qa.s s_3).9] /\ True /\ ∀ (x : Unit), True -> dP Tryz.f50 14 17 [⟨9, [], [6, 13, 14, 17, 18], [17, 18], false⟩, xR 8 6, xF 7 6, xF 6 6, xF 5 6, xR 4 6, xF 3 6, xF 2 6, xF 1 6, xF 0 6] /\ endN QZ [] (fun (x : SV) (M : List SB) => shAt M 0) (ShS.mk z r mh ch nh zh mv cv nv zv, l) (SV.t []) (shI (shD z.4 (z.5 + (1 : Int)) 15 s.8 s.3 s.4 16 s.1 cv nv) (putF (zF) 1 (Qr l z.2 0)) (Sto.crash (Sh.s z) l) (setF (stC (Sh.w z) r) 3 (wkZ 17 18 (wcA s_3))) (setF (stA r) 3 SB.gone) (setF (stD r) 3 SB.gone) (evB s.2 s.3 s.5) (vdB mv cv zv) [wa0, wd0]) else endN QZ [] (fun (x : SV) (M : List SB) => shAt M 0) (ShS.mk z r mh ch nh zh mv cv nv zv, l) (SV.t []) (shI (shD z.4 (z.5 + (1 : Int)) 15 s.8 s.3 s.4 16 s.1 cv nv) (putF (zF) 1 (Qr l z.2 0)) (Sto.crash (Sh.s z) l) (stC (Sh.w z) r) (stA r) (stD r) (evB s.2 s.3 s.5) (vdB mv cv zv) []) else i04 /\ bif (Sh.w z 0).2 != (0 : Int) then ∃ (s_3 : Qa), [aP 3 0, SA.a [sI (Sh.w z 0).3, sI (Sh.w z 0).4, sI (Sh.w z 0).5], aI (Sh.w z 0).6, aB true] = [aP 3 0, SA.a [sI s_3.2, sI s_3.3, sI s_3.4], aI s_3.5, aB true] /\ [wkR 7 8 (Sh.w z 0) (r 0), waR (r 0), wdR (r 0)] = [wkC 7 8 (WkS.w (Qa.s s_3)) (Qa.s s_3).3 (Qa.s s_3).4 (Qa.s s_3).7 (Qa.s s_3).8, wkA (Qa.s s_3).2 (Qa.s s_3).3 (Qa.s s_3).5, wkD (Qa.s s_3).6 (Qa.s s_3).7 (Qa.s s_3).9] /\ True /\ ∀ (x : Unit), True -> dP Tryz.f50 14 17 [⟨9, [], [3, 7, 8, 17, 18], [17, 18], false⟩, xR 8 3, xF 7 3, xF 6 3, xF 5 3, xR 4 3, xF 3 3, xF 2 3, xF 1 3, xF 0 3] /\ (iR (1 : Int) (4 : Int)) /\ bif (Sh.w z 1).2 != (0 : Int) then ∃ (s_4 : Qa), [aP 4 0, SA.a [sI (Sh.w z 1).3, sI (Sh.w z 1).4, sI (Sh.w z 1).5], aI (Sh.w z 1).6, aB true] = [aP 4 0, SA.a [sI s_4.2, sI s_4.3, sI s_4.4], aI s_4.5, aB true] /\ [wkR 9 10 (Sh.w z 1) (r 1), waR (r 1), wdR (r 1)] = [wkC 9 10 (WkS.w (Qa.s s_4)) (Qa.s s_4).3 (Qa.s s_4).4 (Qa.s s_4).7 (Qa.s s_4).8, wkA (Qa.s s_4).2 (Qa.s s_4).3 (Qa.s s_4).5, wkD (Qa.s s_4).6 (Qa.s s_4).7 (Qa.s s_4).9] /\ True /\ ∀ (x : Unit), True -> dP Tryz.f50 14 19 [⟨9, [], [4, 9, 10, 19, 20], [19, 20], false⟩, xR 8 4, xF 7 4, xF 6 4, xF 5 4, xR 4 4, xF 3 4, xF 2 4, xF 1 4, xF 0 4] /\ (iR (2 : Int) (4 : Int)) /\ bif (Sh.w z 2).2 != (0 : Int) then ∃ (s_5 : Qa), [aP 5 0, SA.a [sI (Sh.w z 2).3, sI (Sh.w z 2).4, sI (Sh.w z 2).5], aI (Sh.w z 2).6, aB true] = [aP 5 0, SA.a [sI s_5.2, sI s_5.3, sI s_5.4], aI s_5.5, aB true] /\ [wkR 11 12 (Sh.w z 2) (r 2), waR (r 2), wdR (r 2)] = [wkC 11 12 (WkS.w (Qa.s s_5)) (Qa.s s_5).3 (Qa.s s_5).4 (Qa.s s_5).7 (Qa.s s_5).8, wkA (Qa.s s_5).2 (Qa.s s_5).3 (Qa.s s_5).5, wkD (Qa.s s_5).6 (Qa.s s_5).7 (Qa.s s_5).9] /\ True /\ ∀ (x : Unit), True -> dP Tryz.f50 14 21 [⟨9, [], [5, 11, 12, 21, 22], [21, 22], false⟩, xR 8 5, xF 7 5, xF 6 5, xF 5 5, xR 4 5, xF 3 5, xF 2 5, xF 1 5, xF 0 5] /\ (iR (3 : Int) (4 : Int)) /\ bif (Sh.w z 3).2 != (0 : Int) then ∃ (s_6 : Qa), [aP 6 0, SA.a [sI (Sh.w z 3).3, sI (Sh.w z 3).4, sI (Sh.w z 3).5], aI (Sh.w z 3).6, aB true] = [aP 6 0, SA.a [sI s_6.2, sI s_6.3, sI s_6.4], aI s_6.5, aB true] /\ [wkR 13 14 (Sh.w z 3) (r 3), waR (r 3), wdR (r 3)] = [wkC 13 14 (WkS.w (Qa.s s_6)) (Qa.s s_6).3 (Qa.s s_6).4 (Qa.s s_6).7 (Qa.s s_6).8, wkA (Qa.s s_6).2 (Qa.s s_6).3 (Qa.s s_6).5, wkD (Qa.s s_6).6 (Qa.s s_6).7 (Qa.s s_6).9] /\ True /\ ∀ (x : Unit), True -> dP Tryz.f50 14 23 [⟨9, [], [6, 13, 14, 23, 24], [23, 24], false⟩, xR 8 6, xF 7 6, xF 6 6, xF 5 6, xR 4 6, xF 3 6, xF 2 6, xF 1 6, xF 0 6] /\ endN QZ [] (fun (x : SV) (M : List SB) => shAt M 0) (ShS.mk z r mh ch nh zh mv cv nv zv, l) (SV.t []) (shI (shD z.4 (z.5 + (1 : Int)) 15 s.8 s.3 s.4 16 s.1 cv nv) (putF (zF) 1 (Qr l z.2 0)) (Sto.crash (Sh.s z) l) (setF (setF (setF (setF (stC (Sh.w z) r) 0 (wkZ 17 18 (wcA s_3))) 1 (wkZ 19 20 (wcA s_4))) 2 (wkZ 21 22 (wcA s_5))) 3 (wkZ 23 24 (wcA s_6))) (setF (setF (setF (setF (stA r) 0 SB.gone) 1 SB.gone) 2 SB.gone) 3 SB.gone) (setF (setF (setF (setF (stD r) 0 SB.gone) 1 SB.gone) 2 SB.gone) 3 SB.gone) (evB s.2 s.3 s.5) (vdB mv cv zv) [wa0, wd0, wa0, wd0, wa0, wd0, wa0, wd0]) else endN QZ [] (fun (x : SV) (M : List SB) => shAt M 0) (ShS.mk z r mh ch nh zh mv cv nv zv, l) (SV.t []) (shI (shD z.4 (z.5 + (1 : Int)) 15 s.8 s.3 s.4 16 s.1 cv nv) (putF (zF) 1 (Qr l z.2 0)) (Sto.crash (Sh.s z) l) (setF (setF (setF (stC (Sh.w z) r) 0 (wkZ 17 18 (wcA s_3))) 1 (wkZ 19 20 (wcA s_4))) 2 (wkZ 21 22 (wcA s_5))) (setF (setF (setF (stA r) 0 SB.gone) 1 SB.gone) 2 SB.gone) (setF (setF (setF (stD r) 0 SB.gone) 1 SB.gone) 2 SB.gone) (evB s.2 s.3 s.5) (vdB mv cv zv) [wa0, wd0, wa0, wd0, wa0, wd0]) else (iR (3 : Int) (4 : Int)) /\ bif (Sh.w z 3).2 != (0 : Int) then ∃ (s_5 : Qa), [aP 6 0, SA.a [sI (Sh.w z 3).3, sI (Sh.w z 3).4, sI (Sh.w z 3).5], aI (Sh.w z 3).6, aB true] = [aP 6 0, SA.a [sI s_5.2, sI s_5.3, sI s_5.4], aI s_5.5, aB true] /\ [wkR 13 14 (Sh.w z 3) (r 3), waR (r 3), wdR (r 3)] = [wkC 13 14 (WkS.w (Qa.s s_5)) (Qa.s s_5).3 (Qa.s s_5).4 (Qa.s s_5).7 (Qa.s s_5).8, wkA (Qa.s s_5).2 (Qa.s s_5).3 (Qa.s s_5).5, wkD (Qa.s s_5).6 (Qa.s s_5).7 (Qa.s s_5).9] /\ True /\ ∀ (x : Unit), True -> dP Tryz.f50 14 21 [⟨9, [], [6, 13, 14, 21, 22], [21, 22], false⟩, xR 8 6, xF 7 6, xF 6 6, xF 5 6, xR 4 6, xF 3 6, xF 2 6, xF 1 6, xF 0 6] /\ endN QZ [] (fun (x : SV) (M : List SB) => shAt M 0) (ShS.mk z r mh ch nh zh mv cv nv zv, l) (SV.t []) (shI (shD z.4 (z.5 + (1 : Int)) 15 s.8 s.3 s.4 16 s.1 cv nv) (putF (zF) 1 (Qr l z.2 0)) (Sto.crash (Sh.s z) l) (setF (setF (setF (stC (Sh.w z) r) 0 (wkZ 17 18 (wcA s_3))) 1 (wkZ 19 20 (wcA s_4))) 3 (wkZ 21 22 (wcA s_5))) (setF (setF (setF (stA r) 0 SB.gone) 1 SB.gone) 3 SB.gone) (setF (setF (setF (stD r) 0 SB.gone) 1 SB.gone) 3 SB.gone) (evB s.2 s.3 s.5) (vdB mv cv zv) [wa0, wd0, wa0, wd0, wa0, wd0]) else endN QZ [] (fun (x : SV) (M : List SB) => shAt M 0) (ShS.mk z r mh ch nh zh mv cv nv zv, l) (SV.t []) (shI (shD z.4 (z.5 + (1 : Int)) 15 s.8 s.3 s.4 16 s.1 cv nv) (putF (zF) 1 (Qr l z.2 0)) (Sto.crash (Sh.s z) l) (setF (setF (stC (Sh.w z) r) 0 (wkZ 17 18 (wcA s_3))) 1 (wkZ 19 20 (wcA s_4))) (setF (setF (stA r) 0 SB.gone) 1 SB.gone) (setF (setF (stD r) 0 SB.gone) 1 SB.gone) (evB s.2 s.3 s.5) (vdB mv cv zv) [wa0, wd0, wa0, wd0]) else (iR (2 : Int) (4 : Int)) /\ bif (Sh.w z 2).2 != (0 : Int) then ∃ (s_4 : Qa), [aP 5 0, SA.a [sI (Sh.w z 2).3, sI (Sh.w z 2).4, sI (Sh.w z 2).5], aI (Sh.w z 2).6, aB true] = [aP 5 0, SA.a [sI s_4.2, sI s_4.3, sI s_4.4], aI s_4.5, aB true] /\ [wkR 11 12 (Sh.w z 2) (r 2), waR (r 2), wdR (r 2)] = [wkC 11 12 (WkS.w (Qa.s s_4)) (Qa.s s_4).3 (Qa.s s_4).4 (Qa.s s_4).7 (Qa.s s_4).8, wkA (Qa.s s_4).2 (Qa.s s_4).3 (Qa.s s_4).5, wkD (Qa.s s_4).6 (Qa.s s_4).7 (Qa.s s_4).9] /\ True /\ ∀ (x : Unit), True -> dP Tryz.f50 14 19 [⟨9, [], [5, 11, 12, 19, 20], [19, 20], false⟩, xR 8 5, xF 7 5, xF 6 5, xF 5 5, xR 4 5, xF 3 5, xF 2 5, xF 1 5, xF 0 5] /\ (iR (3 : Int) (4 : Int)) /\ bif (Sh.w z 3).2 != (0 : Int) then ∃ (s_5 : Qa), [aP 6 0, SA.a [sI (Sh.w z 3).3, sI (Sh.w z 3).4, sI (Sh.w z 3).5], aI (Sh.w z 3).6, aB true] = [aP 6 0, SA.a [sI s_5.2, sI s_5.3, sI s_5.4], aI s_5.5, aB true] /\ [wkR 13 14 (Sh.w z 3) (r 3), waR (r 3), wdR (r 3)] = [wkC 13 14 (WkS.w (Qa.s s_5)) (Qa.s s_5).3 (Qa.s s_5).4 (Qa.s s_5).7 (Qa.s s_5).8, wkA (Qa.s s_5).2 (Qa.s s_5).3 (Qa.s s_5).5, wkD (Qa.s s_5).6 (Qa.s s_5).7 (Qa.s s_5).9] /\ True /\ ∀ (x : Unit), True -> dP Tryz.f50 14 21 [⟨9, [], [6, 13, 14, 21, 22], [21, 22], false⟩, xR 8 6, xF 7 6, xF 6 6, xF 5 6, xR 4 6, xF 3 6, xF 2 6, xF 1 6, xF 0 6] /\ endN QZ [] (fun (x : SV) (M : List SB) => shAt M 0) (ShS.mk z r mh ch nh zh mv cv nv zv, l) (SV.t []) (shI (shD z.4 (z.5 + (1 : Int)) 15 s.8 s.3 s.4 16 s.1 cv nv) (putF (zF) 1 (Qr l z.2 0)) (Sto.crash (Sh.s z) l) (setF (setF (setF (stC (Sh.w z) r) 0 (wkZ 17 18 (wcA s_3))) 2 (wkZ 19 20 (wcA s_4))) 3 (wkZ 21 22 (wcA s_5))) (setF (setF (setF (stA r) 0 SB.gone) 2 SB.gone) 3 SB.gone) (setF (setF (setF (stD r) 0 SB.gone) 2 SB.gone) 3 SB.gone) (evB s.2 s.3 s.5) (vdB mv cv zv) [wa0, wd0, wa0, wd0, wa0, wd0]) else endN QZ [] (fun (x : SV) (M : List SB) => shAt M 0) (ShS.mk z r mh ch nh zh mv cv nv zv, l) (SV.t []) (shI (shD z.4 (z.5 + (1 : Int)) 15 s.8 s.3 s.4 16 s.1 cv nv) (putF (zF) 1 (Qr l z.2 0)) (Sto.crash (Sh.s z) l) (setF (setF (stC (Sh.w z) r) 0 (wkZ 17 18 (wcA s_3))) 2 (wkZ 19 20 (wcA s_4))) (setF (setF (stA r) 0 SB.gone) 2 SB.gone) (setF (setF (stD r) 0 SB.gone) 2 SB.gone) (evB s.2 s.3 s.5) (vdB mv cv zv) [wa0, wd0, wa0, wd0]) else (iR (3 : Int) (4 : Int)) /\ bif (Sh.w z 3).2 != (0 : Int) then ∃ (s_4 : Qa), [aP 6 0, SA.a [sI (Sh.w z 3).3, sI (Sh.w z 3).4, sI (Sh.w z 3).5], aI (Sh.w z 3).6, aB true] = [aP 6 0, SA.a [sI s_4.2, sI s_4.3, sI s_4.4], aI s_4.5, aB true] /\ [wkR 13 14 (Sh.w z 3) (r 3), waR (r 3), wdR (r 3)] = [wkC 13 14 (WkS.w (Qa.s s_4)) (Qa.s s_4).3 (Qa.s s_4).4 (Qa.s s_4).7 (Qa.s s_4).8, wkA (Qa.s s_4).2 (Qa.s s_4).3 (Qa.s s_4).5, wkD (Qa.s s_4).6 (Qa.s s_4).7 (Qa.s s_4).9] /\ True /\ ∀ (x : Unit), True -> dP Tryz.f50 14 19 [⟨9, [], [6, 13, 14, 19, 20], [19, 20], false⟩, xR 8 6, xF 7 6, xF 6 6, xF 5 6, xR 4 6, xF 3 6, xF 2 6, xF 1 6, xF 0 6] /\ endN QZ [] (fun (x : SV) (M : List SB) => shAt M 0) (ShS.mk z r mh ch nh zh mv cv nv zv, l) (SV.t []) (shI (shD z.4 (z.5 + (1 : Int)) 15 s.8 s.3 s.4 16 s.1 cv nv) (putF (zF) 1 (Qr l z.2 0)) (Sto.crash (Sh.s z) l) (setF (setF (stC (Sh.w z) r) 0 (wkZ 17 18 (wcA s_3))) 3 (wkZ 19 20 (wcA s_4))) (setF (setF (stA r) 0 SB.gone) 3 SB.gone) (setF (setF (stD r) 0 SB.gone) 3 SB.gone) (evB s.2 s.3 s.5) (vdB mv cv zv) [wa0, wd0, wa0, wd0]) else endN QZ [] (fun (x : SV) (M : List SB) => shAt M 0) (ShS.mk z r mh ch nh zh mv cv nv zv, l) (SV.t []) (shI (shD z.4 (z.5 + (1 : Int)) 15 s.8 s.3 s.4 16 s.1 cv nv) (putF (zF) 1 (Qr l z.2 0)) (Sto.crash (Sh.s z) l) (setF (stC (Sh.w z) r) 0 (wkZ 17 18 (wcA s_3))) (setF (stA r) 0 SB.gone) (setF (stD r) 0 SB.gone) (evB s.2 s.3 s.5) (vdB mv cv zv) [wa0, wd0]) else (iR (1 : Int) (4 : Int)) /\ bif (Sh.w z 1).2 != (0 : Int) then ∃ (s_3 : Qa), [aP 4 0, SA.a [sI (Sh.w z 1).3, sI (Sh.w z 1).4, sI (Sh.w z 1).5], aI (Sh.w z 1).6, aB true] = [aP 4 0, SA.a [sI s_3.2, sI s_3.3, sI s_3.4], aI s_3.5, aB true] /\ [wkR 9 10 (Sh.w z 1) (r 1), waR (r 1), wdR (r 1)] = [wkC 9 10 (WkS.w (Qa.s s_3)) (Qa.s s_3).3 (Qa.s s_3).4 (Qa.s s_3).7 (Qa.s s_3).8, wkA (Qa.s s_3).2 (Qa.s s_3).3 (Qa.s s_3).5, wkD (Qa.s s_3).6 (Qa.s s_3).7 (Qa.s s_3).9] /\ True /\ ∀ (x : Unit), True -> dP Tryz.f50 14 17 [⟨9, [], [4, 9, 10, 17, 18], [17, 18], false⟩, xR 8 4, xF 7 4, xF 6 4, xF 5 4, xR 4 4, xF 3 4, xF 2 4, xF 1 4, xF 0 4] /\ (iR (2 : Int) (4 : Int)) /\ bif (Sh.w z 2).2 != (0 : Int) then ∃ (s_4 : Qa), [aP 5 0, SA.a [sI (Sh.w z 2).3, sI (Sh.w z 2).4, sI (Sh.w z 2).5], aI (Sh.w z 2).6, aB true] = [aP 5 0, SA.a [sI s_4.2, sI s_4.3, sI s_4.4], aI s_4.5, aB true] /\ [wkR 11 12 (Sh.w z 2) (r 2), waR (r 2), wdR (r 2)] = [wkC 11 12 (WkS.w (Qa.s s_4)) (Qa.s s_4).3 (Qa.s s_4).4 (Qa.s s_4).7 (Qa.s s_4).8, wkA (Qa.s s_4).2 (Qa.s s_4).3 (Qa.s s_4).5, wkD (Qa.s s_4).6 (Qa.s s_4).7 (Qa.s s_4).9] /\ True /\ ∀ (x : Unit), True -> dP Tryz.f50 14 19 [⟨9, [], [5, 11, 12, 19, 20], [19, 20], false⟩, xR 8 5, xF 7 5, xF 6 5, xF 5 5, xR 4 5, xF 3 5, xF 2 5, xF 1 5, xF 0 5] /\ (iR (3 : Int) (4 : Int)) /\ bif (Sh.w z 3).2 != (0 : Int) then ∃ (s_5 : Qa), [aP 6 0, SA.a [sI (Sh.w z 3).3, sI (Sh.w z 3).4, sI (Sh.w z 3).5], aI (Sh.w z 3).6, aB true] = [aP 6 0, SA.a [sI s_5.2, sI s_5.3, sI s_5.4], aI s_5.5, aB true] /\ [wkR 13 14 (Sh.w z 3) (r 3), waR (r 3), wdR (r 3)] = [wkC 13 14 (WkS.w (Qa.s s_5)) (Qa.s s_5).3 (Qa.s s_5).4 (Qa.s s_5).7 (Qa.s s_5).8, wkA (Qa.s s_5).2 (Qa.s s_5).3 (Qa.s s_5).5, wkD (Qa.s s_5).6 (Qa.s s_5).7 (Qa.s s_5).9] /\ True /\ ∀ (x : Unit), True -> dP Tryz.f50 14 21 [⟨9, [], [6, 13, 14, 21, 22], [21, 22], false⟩, xR 8 6, xF 7 6, xF 6 6, xF 5 6, xR 4 6, xF 3 6, xF 2 6, xF 1 6, xF 0 6] /\ endN QZ [] (fun (x : SV) (M : List SB) => shAt M 0) (ShS.mk z r mh ch nh zh mv cv nv zv, l) (SV.t []) (shI (shD z.4 (z.5 + (1 : Int)) 15 s.8 s.3 s.4 16 s.1 cv nv) (putF (zF) 1 (Qr l z.2 0)) (Sto.crash (Sh.s z) l) (setF (setF (setF (stC (Sh.w z) r) 1 (wkZ 17 18 (wcA s_3))) 2 (wkZ 19 20 (wcA s_4))) 3 (wkZ 21 22 (wcA s_5))) (setF (setF (setF (stA r) 1 SB.gone) 2 SB.gone) 3 SB.gone) (setF (setF (setF (stD r) 1 SB.gone) 2 SB.gone) 3 SB.gone) (evB s.2 s.3 s.5) (vdB mv cv zv) [wa0, wd0, wa0, wd0, wa0, wd0]) else endN QZ [] (fun (x : SV) (M : List SB) => shAt M 0) (ShS.mk z r mh ch nh zh mv cv nv zv, l) (SV.t []) (shI (shD z.4 (z.5 + (1 : Int)) 15 s.8 s.3 s.4 16 s.1 cv nv) (putF (zF) 1 (Qr l z.2 0)) (Sto.crash (Sh.s z) l) (setF (setF (stC (Sh.w z) r) 1 (wkZ 17 18 (wcA s_3))) 2 (wkZ 19 20 (wcA s_4))) (setF (setF (stA r) 1 SB.gone) 2 SB.gone) (setF (setF (stD r) 1 SB.gone) 2 SB.gone) (evB s.2 s.3 s.5) (vdB mv cv zv) [wa0, wd0, wa0, wd0]) else (iR (3 : Int) (4 : Int)) /\ bif (Sh.w z 3).2 != (0 : Int) then ∃ (s_4 : Qa), [aP 6 0, SA.a [sI (Sh.w z 3).3, sI (Sh.w z 3).4, sI (Sh.w z 3).5], aI (Sh.w z 3).6, aB true] = [aP 6 0, SA.a [sI s_4.2, sI s_4.3, sI s_4.4], aI s_4.5, aB true] /\ [wkR 13 14 (Sh.w z 3) (r 3), waR (r 3), wdR (r 3)] = [wkC 13 14 (WkS.w (Qa.s s_4)) (Qa.s s_4).3 (Qa.s s_4).4 (Qa.s s_4).7 (Qa.s s_4).8, wkA (Qa.s s_4).2 (Qa.s s_4).3 (Qa.s s_4).5, wkD (Qa.s s_4).6 (Qa.s s_4).7 (Qa.s s_4).9] /\ True /\ ∀ (x : Unit), True -> dP Tryz.f50 14 19 [⟨9, [], [6, 13, 14, 19, 20], [19, 20], false⟩, xR 8 6, xF 7 6, xF 6 6, xF 5 6, xR 4 6, xF 3 6, xF 2 6, xF 1 6, xF 0 6] /\ endN QZ [] (fun (x : SV) (M : List SB) => shAt M 0) (ShS.mk z r mh ch nh zh mv cv nv zv, l) (SV.t []) (shI (shD z.4 (z.5 + (1 : Int)) 15 s.8 s.3 s.4 16 s.1 cv nv) (putF (zF) 1 (Qr l z.2 0)) (Sto.crash (Sh.s z) l) (setF (setF (stC (Sh.w z) r) 1 (wkZ 17 18 (wcA s_3))) 3 (wkZ 19 20 (wcA s_4))) (setF (setF (stA r) 1 SB.gone) 3 SB.gone) (setF (setF (stD r) 1 SB.gone) 3 SB.gone) (evB s.2 s.3 s.5) (vdB mv cv zv) [wa0, wd0, wa0, wd0]) else endN QZ [] (fun (x : SV) (M : List SB) => shAt M 0) (ShS.mk z r mh ch nh zh mv cv nv zv, l) (SV.t []) (shI (shD z.4 (z.5 + (1 : Int)) 15 s.8 s.3 s.4 16 s.1 cv nv) (putF (zF) 1 (Qr l z.2 0)) (Sto.crash (Sh.s z) l) (setF (stC (Sh.w z) r) 1 (wkZ 17 18 (wcA s_3))) (setF (stA r) 1 SB.gone) (setF (stD r) 1 SB.gone) (evB s.2 s.3 s.5) (vdB mv cv zv) [wa0, wd0]) else (iR (2 : Int) (4 : Int)) /\ bif (Sh.w z 2).2 != (0 : Int) then ∃ (s_3 : Qa), [aP 5 0, SA.a [sI (Sh.w z 2).3, sI (Sh.w z 2).4, sI (Sh.w z 2).5], aI (Sh.w z 2).6, aB true] = [aP 5 0, SA.a [sI s_3.2, sI s_3.3, sI s_3.4], aI s_3.5, aB true] /\ [wkR 11 12 (Sh.w z 2) (r 2), waR (r 2), wdR (r 2)] = [wkC 11 12 (WkS.w (Qa.s s_3)) (Qa.s s_3).3 (Qa.s s_3).4 (Qa.s s_3).7 (Qa.s s_3).8, wkA (Qa.s s_3).2 (Qa.s s_3).3 (Qa.s s_3).5, wkD (Qa.s s_3).6 (Qa.s s_3).7 (Qa.s s_3).9] /\ True /\ ∀ (x : Unit), True -> dP Tryz.f50 14 17 [⟨9, [], [5, 11, 12, 17, 18], [17, 18], false⟩, xR 8 5, xF 7 5, xF 6 5, xF 5 5, xR 4 5, xF 3 5, xF 2 5, xF 1 5, xF 0 5] /\ (iR (3 : Int) (4 : Int)) /\ bif (Sh.w z 3).2 != (0 : Int) then ∃ (s_4 : Qa), [aP 6 0, SA.a [sI (Sh.w z 3).3, sI (Sh.w z 3).4, sI (Sh.w z 3).5], aI (Sh.w z 3).6, aB true] = [aP 6 0, SA.a [sI s_4.2, sI s_4.3, sI s_4.4], aI s_4.5, aB true] /\ [wkR 13 14 (Sh.w z 3) (r 3), waR (r 3), wdR (r 3)] = [wkC 13 14 (WkS.w (Qa.s s_4)) (Qa.s s_4).3 (Qa.s s_4).4 (Qa.s s_4).7 (Qa.s s_4).8, wkA (Qa.s s_4).2 (Qa.s s_4).3 (Qa.s s_4).5, wkD (Qa.s s_4).6 (Qa.s s_4).7 (Qa.s s_4).9] /\ True /\ ∀ (x : Unit), True -> dP Tryz.f50 14 19 [⟨9, [], [6, 13, 14, 19, 20], [19, 20], false⟩, xR 8 6, xF 7 6, xF 6 6, xF 5 6, xR 4 6, xF 3 6, xF 2 6, xF 1 6, xF 0 6] /\ endN QZ [] (fun (x : SV) (M : List SB) => shAt M 0) (ShS.mk z r mh ch nh zh mv cv nv zv, l) (SV.t []) (shI (shD z.4 (z.5 + (1 : Int)) 15 s.8 s.3 s.4 16 s.1 cv nv) (putF (zF) 1 (Qr l z.2 0)) (Sto.crash (Sh.s z) l) (setF (setF (stC (Sh.w z) r) 2 (wkZ 17 18 (wcA s_3))) 3 (wkZ 19 20 (wcA s_4))) (setF (setF (stA r) 2 SB.gone) 3 SB.gone) (setF (setF (stD r) 2 SB.gone) 3 SB.gone) (evB s.2 s.3 s.5) (vdB mv cv zv) [wa0, wd0, wa0, wd0]) else endN QZ [] (fun (x : SV) (M : List SB) => shAt M 0) (ShS.mk z r mh ch nh zh mv cv nv zv, l) (SV.t []) (shI (shD z.4 (z.5 + (1 : Int)) 15 s.8 s.3 s.4 16 s.1 cv nv) (putF (zF) 1 (Qr l z.2 0)) (Sto.crash (Sh.s z) l) (setF (stC (Sh.w z) r) 2 (wkZ 17 18 (wcA s_3))) (setF (stA r) 2 SB.gone) (setF (stD r) 2 SB.gone) (evB s.2 s.3 s.5) (vdB mv cv zv) [wa0, wd0]) else (iR (3 : Int) (4 : Int)) /\ bif (Sh.w z 3).2 != (0 : Int) then ∃ (s_3 : Qa), [aP 6 0, SA.a [sI (Sh.w z 3).3, sI (Sh.w z 3).4, sI (Sh.w z 3).5], aI (Sh.w z 3).6, aB true] = [aP 6 0, SA.a [sI s_3.2, sI s_3.3, sI s_3.4], aI s_3.5, aB true] /\ [wkR 13 14 (Sh.w z 3) (r 3), waR (r 3), wdR (r 3)] = [wkC 13 14 (WkS.w (Qa.s s_3)) (Qa.s s_3).3 (Qa.s s_3).4 (Qa.s s_3).7 (Qa.s s_3).8, wkA (Qa.s s_3).2 (Qa.s s_3).3 (Qa.s s_3).5, wkD (Qa.s s_3).6 (Qa.s s_3).7 (Qa.s s_3).9] /\ True /\ ∀ (x : Unit), True -> dP Tryz.f50 14 17 [⟨9, [], [6, 13, 14, 17, 18], [17, 18], false⟩, xR 8 6, xF 7 6, xF 6 6, xF 5 6, xR 4 6, xF 3 6, xF 2 6, xF 1 6, xF 0 6] /\ endN QZ [] (fun (x : SV) (M : List SB) => shAt M 0) (ShS.mk z r mh ch nh zh mv cv nv zv, l) (SV.t []) (shI (shD z.4 (z.5 + (1 : Int)) 15 s.8 s.3 s.4 16 s.1 cv nv) (putF (zF) 1 (Qr l z.2 0)) (Sto.crash (Sh.s z) l) (setF (stC (Sh.w z) r) 3 (wkZ 17 18 (wcA s_3))) (setF (stA r) 3 SB.gone) (setF (stD r) 3 SB.gone) (evB s.2 s.3 s.5) (vdB mv cv zv) [wa0, wd0]) else endN QZ [] (fun (x : SV) (M : List SB) => shAt M 0) (ShS.mk z r mh ch nh zh mv cv nv zv, l) (SV.t []) (shI (shD z.4 (z.5 + (1 : Int)) 15 s.8 s.3 s.4 16 s.1 cv nv) (putF (zF) 1 (Qr l z.2 0)) (Sto.crash (Sh.s z) l) (stC (Sh.w z) r) (stA r) (stD r) (evB s.2 s.3 s.5) (vdB mv cv zv) [])) (by kernel_rfl) ?_
 have h0 : (⟨z, r, mh, ch, nh, zh, mv, cv, nv, zv⟩ : ShS).good := h0
 have h1 : QkG z l := h1
 have hst0 := h1.st0
 have hst1 := h1.st1
 have hhl := h1.h
 have hdl := h1.d
 have hv0 := h1.v0
 have hv1 := h1.v1
 have q1 := h0.h1
 have q2 := h0.h2
 have p1 := h0.v1
 have p2 := h0.v2
 dsimp only at q1 q2 p1 p2
 have es : IntKind.wrap .i64 (z.steps + 1) = z.steps + 1 := QC (by omega) (by omega)
 have ev : IntKind.wrap .i64 ((z.s.crash l).now (Int.toNat 0)) = Qr l z.s 0 := QC (by show -9223372036854775808 <= Qr l z.s 0; omega) (by show Qr l z.s 0 <= 9223372036854775807; omega)
 have eu : IntKind.wrap .u64 (Qr l z.s 0) = Qr l z.s 0 := QaG (by omega) (by omega)
 rw [es]
 refine ⟨Qd (by kernel_rfl), ⟨⟨q1, rfl⟩, ⟨Nat.le_refl _, rfl⟩, by omega⟩, fun c hc => ⟨Qd (by kernel_rfl), ⟨z.s, l⟩, rfl, rfl, h1.lu, fun _ _ => ⟨z.m, rfl, rfl, trivial, fun _ _ => ⟨⟨z.s.crash l, 0⟩, rfl, rfl, ⟨(by decide : (0 : Int) <= 0), (by decide : (0 : Int) < 72)⟩, fun _ _ => ?_⟩⟩⟩⟩
 dsimp only
 rw [ev, eu]
 refine ⟨⟨fun _ => 0, 1, Qr l z.s 0⟩, rfl, rfl, ⟨(by decide : (0 : Int) <= 1), (by decide : (1 : Int) < 16)⟩, fun _ _ => ⟨Nat.le_trans p1 p2, ⟨⟨z.deeds.length, z.hist.length + 1, c, nh, _, Nat.le_refl _, by rw [List.take_length], z.hist.length + 1, rfl, Nat.le_refl _, hc, ?_⟩, ⟨rfl, rfl, svI (QC (by omega) (by omega)), trivial⟩, rfl⟩, ?_⟩⟩
 · refine h0.h.snoc (fun j hj k _ => catT hj) (fun j hj => ?_)
   refine catF.trans ?_
   rw [Nat.sub_self]
   match j, hj with
   | 0, _ => rfl
   | 1, _ => rfl
   | 2, _ => rfl
   | 3, _ => rfl
   | 4, _ => rfl
   | 5, _ => rfl
   | 6, _ => rfl
   | 7, _ => rfl
   | 8, _ => rfl
 rintro ⟨n, mh', ch', nh', zh', hn, hu, lh, hl, g1, g2, g3⟩
 dsimp only at hn hu hl g1 g2 g3 ⊢
 refine Qp (fun hge => ?_) (fun hlt => ?_)
 · have en : ((n : Int) - 1).toNat = n - 1 := by omega
   have hz0 : zv (0 + ((n : Int) - 1).toNat) 0 = (z.deeds.getD (n - 1) Vd.nil).ver := by rw [Nat.zero_add, en]; exact h0.v (n - 1) (by show n - 1 < z.deeds.length; omega) 0 (by decide)
   have ht := QkO (l := z.deeds) (n := n) (by omega) hn
   refine ⟨⟨by omega, by omega, by omega⟩, by omega, Qp (fun hgt => ?_) (fun hle => ?_)⟩
   · rw [hz0] at hgt
     refine ⟨⟨by omega, by omega⟩, ⟨((n : Int) - 1).toNat, mh', ch', nh', zh', by omega, ?_, lh, hl, g1, g2, g3⟩, ⟨⟨rfl, rfl, svI (show IntKind.wrap .i64 ((n : Int) - 1 - 1) = (((n : Int) - 1).toNat : Int) - 1 by rw [QC (by omega) (by omega)]; omega), trivial⟩, rfl⟩, by dsimp only; omega⟩
     rw [en, <- hu, ht, QoM hgt]
   · rw [hz0] at hle
     have hz : z.deeds.take n = upTo (Qr l z.s 0) z.deeds := by rw [<- hu, ht]; exact (QoL (by omega)).symm
     exact ⟨⟨by decide, by decide⟩, QB (fun k0 => ⟨⟨wkS (z.w 0) (r 0), (z.w 0).k, (z.w 0).key, (z.w 0).x, (z.w 0).tog⟩, rfl, rfl, trivial, fun _ _ => ⟨Qd (by kernel_rfl), ⟨⟨by decide, by decide⟩, QB (fun k1 => ⟨⟨wkS (z.w 1) (r 1), (z.w 1).k, (z.w 1).key, (z.w 1).x, (z.w 1).tog⟩, rfl, rfl, trivial, fun _ _ => ⟨Qd (by kernel_rfl), ⟨⟨by decide, by decide⟩, QB (fun k2 => ⟨⟨wkS (z.w 2) (r 2), (z.w 2).k, (z.w 2).key, (z.w 2).x, (z.w 2).tog⟩, rfl, rfl, trivial, fun _ _ => ⟨Qd (by kernel_rfl), ⟨⟨by decide, by decide⟩, QB (fun k3 => ⟨⟨wkS (z.w 3) (r 3), (z.w 3).k, (z.w 3).key, (z.w 3).x, (z.w 3).tog⟩, rfl, rfl, trivial, fun _ _ => ⟨Qd (by kernel_rfl), QA h0 hn hz hl g1 g2 g3 (a0 := true) (a1 := true) (a2 := true) (a3 := true) rfl rfl k0 k1 k2 k3⟩⟩) (fun k3 => QA h0 hn hz hl g1 g2 g3 (a0 := true) (a1 := true) (a2 := true) (a3 := false) rfl rfl k0 k1 k2 k3)⟩⟩⟩) (fun k2 => ⟨⟨by decide, by decide⟩, QB (fun k3 => ⟨⟨wkS (z.w 3) (r 3), (z.w 3).k, (z.w 3).key, (z.w 3).x, (z.w 3).tog⟩, rfl, rfl, trivial, fun _ _ => ⟨Qd (by kernel_rfl), QA h0 hn hz hl g1 g2 g3 (a0 := true) (a1 := true) (a2 := false) (a3 := true) rfl rfl k0 k1 k2 k3⟩⟩) (fun k3 => QA h0 hn hz hl g1 g2 g3 (a0 := true) (a1 := true) (a2 := false) (a3 := false) rfl rfl k0 k1 k2 k3)⟩)⟩⟩⟩) (fun k1 => ⟨⟨by decide, by decide⟩, QB (fun k2 => ⟨⟨wkS (z.w 2) (r 2), (z.w 2).k, (z.w 2).key, (z.w 2).x, (z.w 2).tog⟩, rfl, rfl, trivial, fun _ _ => ⟨Qd (by kernel_rfl), ⟨⟨by decide, by decide⟩, QB (fun k3 => ⟨⟨wkS (z.w 3) (r 3), (z.w 3).k, (z.w 3).key, (z.w 3).x, (z.w 3).tog⟩, rfl, rfl, trivial, fun _ _ => ⟨Qd (by kernel_rfl), QA h0 hn hz hl g1 g2 g3 (a0 := true) (a1 := false) (a2 := true) (a3 := true) rfl rfl k0 k1 k2 k3⟩⟩) (fun k3 => QA h0 hn hz hl g1 g2 g3 (a0 := true) (a1 := false) (a2 := true) (a3 := false) rfl rfl k0 k1 k2 k3)⟩⟩⟩) (fun k2 => ⟨⟨by decide, by decide⟩, QB (fun k3 => ⟨⟨wkS (z.w 3) (r 3), (z.w 3).k, (z.w 3).key, (z.w 3).x, (z.w 3).tog⟩, rfl, rfl, trivial, fun _ _ => ⟨Qd (by kernel_rfl), QA h0 hn hz hl g1 g2 g3 (a0 := true) (a1 := false) (a2 := false) (a3 := true) rfl rfl k0 k1 k2 k3⟩⟩) (fun k3 => QA h0 hn hz hl g1 g2 g3 (a0 := true) (a1 := false) (a2 := false) (a3 := false) rfl rfl k0 k1 k2 k3)⟩)⟩)⟩⟩⟩) (fun k0 => ⟨⟨by decide, by decide⟩, QB (fun k1 => ⟨⟨wkS (z.w 1) (r 1), (z.w 1).k, (z.w 1).key, (z.w 1).x, (z.w 1).tog⟩, rfl, rfl, trivial, fun _ _ => ⟨Qd (by kernel_rfl), ⟨⟨by decide, by decide⟩, QB (fun k2 => ⟨⟨wkS (z.w 2) (r 2), (z.w 2).k, (z.w 2).key, (z.w 2).x, (z.w 2).tog⟩, rfl, rfl, trivial, fun _ _ => ⟨Qd (by kernel_rfl), ⟨⟨by decide, by decide⟩, QB (fun k3 => ⟨⟨wkS (z.w 3) (r 3), (z.w 3).k, (z.w 3).key, (z.w 3).x, (z.w 3).tog⟩, rfl, rfl, trivial, fun _ _ => ⟨Qd (by kernel_rfl), QA h0 hn hz hl g1 g2 g3 (a0 := false) (a1 := true) (a2 := true) (a3 := true) rfl rfl k0 k1 k2 k3⟩⟩) (fun k3 => QA h0 hn hz hl g1 g2 g3 (a0 := false) (a1 := true) (a2 := true) (a3 := false) rfl rfl k0 k1 k2 k3)⟩⟩⟩) (fun k2 => ⟨⟨by decide, by decide⟩, QB (fun k3 => ⟨⟨wkS (z.w 3) (r 3), (z.w 3).k, (z.w 3).key, (z.w 3).x, (z.w 3).tog⟩, rfl, rfl, trivial, fun _ _ => ⟨Qd (by kernel_rfl), QA h0 hn hz hl g1 g2 g3 (a0 := false) (a1 := true) (a2 := false) (a3 := true) rfl rfl k0 k1 k2 k3⟩⟩) (fun k3 => QA h0 hn hz hl g1 g2 g3 (a0 := false) (a1 := true) (a2 := false) (a3 := false) rfl rfl k0 k1 k2 k3)⟩)⟩⟩⟩) (fun k1 => ⟨⟨by decide, by decide⟩, QB (fun k2 => ⟨⟨wkS (z.w 2) (r 2), (z.w 2).k, (z.w 2).key, (z.w 2).x, (z.w 2).tog⟩, rfl, rfl, trivial, fun _ _ => ⟨Qd (by kernel_rfl), ⟨⟨by decide, by decide⟩, QB (fun k3 => ⟨⟨wkS (z.w 3) (r 3), (z.w 3).k, (z.w 3).key, (z.w 3).x, (z.w 3).tog⟩, rfl, rfl, trivial, fun _ _ => ⟨Qd (by kernel_rfl), QA h0 hn hz hl g1 g2 g3 (a0 := false) (a1 := false) (a2 := true) (a3 := true) rfl rfl k0 k1 k2 k3⟩⟩) (fun k3 => QA h0 hn hz hl g1 g2 g3 (a0 := false) (a1 := false) (a2 := true) (a3 := false) rfl rfl k0 k1 k2 k3)⟩⟩⟩) (fun k2 => ⟨⟨by decide, by decide⟩, QB (fun k3 => ⟨⟨wkS (z.w 3) (r 3), (z.w 3).k, (z.w 3).key, (z.w 3).x, (z.w 3).tog⟩, rfl, rfl, trivial, fun _ _ => ⟨Qd (by kernel_rfl), QA h0 hn hz hl g1 g2 g3 (a0 := false) (a1 := false) (a2 := false) (a3 := true) rfl rfl k0 k1 k2 k3⟩⟩) (fun k3 => QA h0 hn hz hl g1 g2 g3 (a0 := false) (a1 := false) (a2 := false) (a3 := false) rfl rfl k0 k1 k2 k3)⟩)⟩)⟩)⟩
 · obtain rfl : n = 0 := by omega
   have hz : z.deeds.take 0 = upTo (Qr l z.s 0) z.deeds := by rw [<- hu]; rfl
   exact ⟨⟨by decide, by decide⟩, QB (fun k0 => ⟨⟨wkS (z.w 0) (r 0), (z.w 0).k, (z.w 0).key, (z.w 0).x, (z.w 0).tog⟩, rfl, rfl, trivial, fun _ _ => ⟨Qd (by kernel_rfl), ⟨⟨by decide, by decide⟩, QB (fun k1 => ⟨⟨wkS (z.w 1) (r 1), (z.w 1).k, (z.w 1).key, (z.w 1).x, (z.w 1).tog⟩, rfl, rfl, trivial, fun _ _ => ⟨Qd (by kernel_rfl), ⟨⟨by decide, by decide⟩, QB (fun k2 => ⟨⟨wkS (z.w 2) (r 2), (z.w 2).k, (z.w 2).key, (z.w 2).x, (z.w 2).tog⟩, rfl, rfl, trivial, fun _ _ => ⟨Qd (by kernel_rfl), ⟨⟨by decide, by decide⟩, QB (fun k3 => ⟨⟨wkS (z.w 3) (r 3), (z.w 3).k, (z.w 3).key, (z.w 3).x, (z.w 3).tog⟩, rfl, rfl, trivial, fun _ _ => ⟨Qd (by kernel_rfl), QA h0 hn hz hl g1 g2 g3 (a0 := true) (a1 := true) (a2 := true) (a3 := true) rfl rfl k0 k1 k2 k3⟩⟩) (fun k3 => QA h0 hn hz hl g1 g2 g3 (a0 := true) (a1 := true) (a2 := true) (a3 := false) rfl rfl k0 k1 k2 k3)⟩⟩⟩) (fun k2 => ⟨⟨by decide, by decide⟩, QB (fun k3 => ⟨⟨wkS (z.w 3) (r 3), (z.w 3).k, (z.w 3).key, (z.w 3).x, (z.w 3).tog⟩, rfl, rfl, trivial, fun _ _ => ⟨Qd (by kernel_rfl), QA h0 hn hz hl g1 g2 g3 (a0 := true) (a1 := true) (a2 := false) (a3 := true) rfl rfl k0 k1 k2 k3⟩⟩) (fun k3 => QA h0 hn hz hl g1 g2 g3 (a0 := true) (a1 := true) (a2 := false) (a3 := false) rfl rfl k0 k1 k2 k3)⟩)⟩⟩⟩) (fun k1 => ⟨⟨by decide, by decide⟩, QB (fun k2 => ⟨⟨wkS (z.w 2) (r 2), (z.w 2).k, (z.w 2).key, (z.w 2).x, (z.w 2).tog⟩, rfl, rfl, trivial, fun _ _ => ⟨Qd (by kernel_rfl), ⟨⟨by decide, by decide⟩, QB (fun k3 => ⟨⟨wkS (z.w 3) (r 3), (z.w 3).k, (z.w 3).key, (z.w 3).x, (z.w 3).tog⟩, rfl, rfl, trivial, fun _ _ => ⟨Qd (by kernel_rfl), QA h0 hn hz hl g1 g2 g3 (a0 := true) (a1 := false) (a2 := true) (a3 := true) rfl rfl k0 k1 k2 k3⟩⟩) (fun k3 => QA h0 hn hz hl g1 g2 g3 (a0 := true) (a1 := false) (a2 := true) (a3 := false) rfl rfl k0 k1 k2 k3)⟩⟩⟩) (fun k2 => ⟨⟨by decide, by decide⟩, QB (fun k3 => ⟨⟨wkS (z.w 3) (r 3), (z.w 3).k, (z.w 3).key, (z.w 3).x, (z.w 3).tog⟩, rfl, rfl, trivial, fun _ _ => ⟨Qd (by kernel_rfl), QA h0 hn hz hl g1 g2 g3 (a0 := true) (a1 := false) (a2 := false) (a3 := true) rfl rfl k0 k1 k2 k3⟩⟩) (fun k3 => QA h0 hn hz hl g1 g2 g3 (a0 := true) (a1 := false) (a2 := false) (a3 := false) rfl rfl k0 k1 k2 k3)⟩)⟩)⟩⟩⟩) (fun k0 => ⟨⟨by decide, by decide⟩, QB (fun k1 => ⟨⟨wkS (z.w 1) (r 1), (z.w 1).k, (z.w 1).key, (z.w 1).x, (z.w 1).tog⟩, rfl, rfl, trivial, fun _ _ => ⟨Qd (by kernel_rfl), ⟨⟨by decide, by decide⟩, QB (fun k2 => ⟨⟨wkS (z.w 2) (r 2), (z.w 2).k, (z.w 2).key, (z.w 2).x, (z.w 2).tog⟩, rfl, rfl, trivial, fun _ _ => ⟨Qd (by kernel_rfl), ⟨⟨by decide, by decide⟩, QB (fun k3 => ⟨⟨wkS (z.w 3) (r 3), (z.w 3).k, (z.w 3).key, (z.w 3).x, (z.w 3).tog⟩, rfl, rfl, trivial, fun _ _ => ⟨Qd (by kernel_rfl), QA h0 hn hz hl g1 g2 g3 (a0 := false) (a1 := true) (a2 := true) (a3 := true) rfl rfl k0 k1 k2 k3⟩⟩) (fun k3 => QA h0 hn hz hl g1 g2 g3 (a0 := false) (a1 := true) (a2 := true) (a3 := false) rfl rfl k0 k1 k2 k3)⟩⟩⟩) (fun k2 => ⟨⟨by decide, by decide⟩, QB (fun k3 => ⟨⟨wkS (z.w 3) (r 3), (z.w 3).k, (z.w 3).key, (z.w 3).x, (z.w 3).tog⟩, rfl, rfl, trivial, fun _ _ => ⟨Qd (by kernel_rfl), QA h0 hn hz hl g1 g2 g3 (a0 := false) (a1 := true) (a2 := false) (a3 := true) rfl rfl k0 k1 k2 k3⟩⟩) (fun k3 => QA h0 hn hz hl g1 g2 g3 (a0 := false) (a1 := true) (a2 := false) (a3 := false) rfl rfl k0 k1 k2 k3)⟩)⟩⟩⟩) (fun k1 => ⟨⟨by decide, by decide⟩, QB (fun k2 => ⟨⟨wkS (z.w 2) (r 2), (z.w 2).k, (z.w 2).key, (z.w 2).x, (z.w 2).tog⟩, rfl, rfl, trivial, fun _ _ => ⟨Qd (by kernel_rfl), ⟨⟨by decide, by decide⟩, QB (fun k3 => ⟨⟨wkS (z.w 3) (r 3), (z.w 3).k, (z.w 3).key, (z.w 3).x, (z.w 3).tog⟩, rfl, rfl, trivial, fun _ _ => ⟨Qd (by kernel_rfl), QA h0 hn hz hl g1 g2 g3 (a0 := false) (a1 := false) (a2 := true) (a3 := true) rfl rfl k0 k1 k2 k3⟩⟩) (fun k3 => QA h0 hn hz hl g1 g2 g3 (a0 := false) (a1 := false) (a2 := true) (a3 := false) rfl rfl k0 k1 k2 k3)⟩⟩⟩) (fun k2 => ⟨⟨by decide, by decide⟩, QB (fun k3 => ⟨⟨wkS (z.w 3) (r 3), (z.w 3).k, (z.w 3).key, (z.w 3).x, (z.w 3).tog⟩, rfl, rfl, trivial, fun _ _ => ⟨Qd (by kernel_rfl), QA h0 hn hz hl g1 g2 g3 (a0 := false) (a1 := false) (a2 := false) (a3 := true) rfl rfl k0 k1 k2 k3⟩⟩) (fun k3 => QA h0 hn hz hl g1 g2 g3 (a0 := false) (a1 := false) (a2 := false) (a3 := false) rfl rfl k0 k1 k2 k3)⟩)⟩)⟩)⟩
end
section
def PosV (z : Sh) : Prop := ∀ d ∈ z.deeds, 0 <= d.ver
theorem QmT {v : Int} {l : List Vd} {d : Vd} (h : d ∈ upTo v l) : d ∈ l := by
 unfold upTo at h
 rw [List.mem_reverse] at h
 exact List.mem_reverse.1 ((List.dropWhile_sublist _).subset h)
section
variable {K : Int} {z : Sh} {g : Gh} {t : Nat}
end
end
section
section
variable {K : Int} {z : Sh} {g : Gh} {t : Nat}
end
end
section
def mvAt (z : Nat -> Nat -> Int) (i : Nat) : Mv := ⟨z i 0, z i 1, z i 2, z i 3, z i 4, z i 5, z i 6⟩
def mvL (z : Nat -> Nat -> Int) (n : Nat) : List Mv := (List.range n).map (mvAt z)
theorem Qns (z : Nat -> Nat -> Int) (i : Nat) : mvL z (i + 1) = mvL z i ++ [mvAt z i] := by unfold mvL; rw [List.range_succ, List.map_append]; rfl
theorem Qo9 (z : Nat -> Nat -> Int) (n : Nat) : (mvL z n).length = n := by unfold mvL; rw [List.length_map, List.length_range]
end
section
open Go.RowKit
def mvK : Nat -> IntKind := fun j => bif Nat.beq j 6 then .u64 else .i64
def MvIn (W : World) (a : Option Addr) (n c : Nat) (z : Nat -> Nat -> Int) : Prop := Rws 7 mvK W a n c z /\ ∀ i, i < n -> U64 (z i 6)
end
section
structure FinI (K : Int) (z : Sh) (g : Gh) : Prop where
 i : ShInv K z g
 p : PosV z
 s : (z.hist.length : Int) <= z.steps
section
variable {K : Int} {z : Sh} {g : Gh} {t : Nat}
theorem ShInv.now (I : ShInv K z g) : 0 <= z.s.now 0 := by
 have h1 := I.gl.now0
 have h2 := I.gl.v0
 have h3 := I.gl.vd
 omega
theorem Qpf (F : FinI K z g) (ht : t < 4) (hs : z.steps < 100000000) : ∃ g', FinI K (z.step t) g' := by
 unfold Sh.step
 split
 · exact ⟨g, F⟩
 · rename_i hn
   have I' := Qij F.i ht hs hn
   have h0 := I'.now
   have e : (z.stepped t).s = (Qg (z.wst t)).1.s := by
     unfold Sh.stepped
     dsimp only
     split <;> split <;> rfl
   rw [e] at h0
   have e2 : (z.stepped t).deeds = z.deeds \/ (z.stepped t).deeds = z.deeds ++ (Qg (z.wst t)).1.w.deeds.map (Vd.mk ((Qg (z.wst t)).1.s.now 0)) := by
     unfold Sh.stepped
     dsimp only
     split <;> split <;> first | exact .inl rfl | exact .inr rfl
   have e3 : (z.stepped t).steps = z.steps + 1 := by
     unfold Sh.stepped
     dsimp only
     split <;> split <;> rfl
   have e4 : (z.stepped t).hist.length <= z.hist.length + 1 := by
     unfold Sh.stepped
     dsimp only
     split <;> split <;> first | exact Nat.le_succ _ | (show (z.hist ++ [_]).length <= _; rw [List.length_append]; exact Nat.le_refl _)
   refine ⟨_, I', fun d hd => ?_, by have := F.s; omega⟩
   rcases e2 with e2 | e2
   · rw [e2] at hd; exact F.p d hd
   · rw [e2] at hd
     rcases List.mem_append.1 hd with hd | hd
     · exact F.p d hd
     · obtain ⟨x, -, rfl⟩ := List.mem_map.1 hd
       exact h0
theorem Qja (ht : t < 4) : ∀ (n : Nat) {z : Sh} {g : Gh}, FinI K z g -> z.steps + n < 100000000 -> ∃ g', FinI K (z.run t n) g'
 | 0, z, g, F, _ => ⟨g, F⟩
 | n + 1, z, g, F, hs => by
   obtain ⟨g', F'⟩ := Qpf F ht (by omega)
   have := (QfO z t).2
   exact Qja ht n F' (by omega)
theorem Qme (F : FinI K z g) (ht : t < 4) (k key x : Int) : FinI K (z.call t k key x) g := by
 refine ⟨QnD F.i ht k key x, ?_, ?_⟩
 · unfold Sh.call
   split <;> exact F.p
 · have := F.s
   unfold Sh.call
   split
   · show ((z.hist ++ [_]).length : Int) <= z.steps + 1
     rw [List.length_append, List.length_singleton]; omega
   · exact F.s
theorem QnP (F : FinI K z g) (l : Int) : FinI K (z.evict l) g := by
 refine ⟨QlT F.i l, ?_, ?_⟩
 · unfold Sh.evict
   split <;> exact F.p
 · unfold Sh.evict
   split <;> exact F.s
theorem QnQ (F : FinI K z g) (l : Int) : ∃ g', FinI K (z.crash l) g' := by
 have hp : PosV (z.crash l) := fun d hd => F.p d (QmT hd)
 have hs : ((z.crash l).hist.length : Int) <= (z.crash l).steps := by
   have := F.s
   show ((z.hist ++ [_]).length : Int) <= z.steps + 1
   rw [List.length_append, List.length_singleton]; omega
 rcases inv_crash F.i l with ⟨-, h, -⟩ | ⟨-, -, -, h, -⟩
 · exact ⟨_, h, hp, hs⟩
 · exact ⟨_, h, hp, hs⟩
theorem Qpg (F : FinI K z g) (hs : z.steps < 90000000) (t n : Int) : ∃ g', FinI K (z.runA t n) g' := by
 unfold Sh.runA
 cases hb : inT t
 · exact ⟨g, F⟩
 · rw [cond_true]
   cases hc : runB n
   · exact ⟨g, F⟩
   · have h2 := of_decide_eq_true hc
     exact Qja (Qik hb).2.2 n.toNat F (by omega)
theorem Qph (F : FinI K z g) (hs : z.steps < 90000000) (m : Mv) : ∃ g', FinI K (z.move m) g' := by
 unfold Sh.move
 split
 · unfold Sh.callA
   cases hb : inT m.t
   · exact ⟨g, F⟩
   · exact ⟨g, Qme F (Qik hb).2.2 _ _ _⟩
 split
 · exact Qpg F hs _ _
 split
 · exact ⟨g, QnP F _⟩
 split
 · exact QnQ F _
 · exact ⟨g, F⟩
theorem Qov {K : Int} (h1 : 1 <= K) (h6 : K <= 6) : FinI K (Sh.new K) (Gh.new K) := ⟨Qpc h1 h6, fun d hd => (by cases hd), Int.le_refl 0⟩
theorem Qjb {K : Int} (h1 : 1 <= K) (h6 : K <= 6) : ∀ (n : Nat) (l : List Mv), l.length = n -> n <= 80000 -> ∃ g, FinI K (Qak K l) g /\ (Qak K l).steps <= 1000 * (n : Int)
 | 0, l, hl, _ => by
   have := List.length_eq_zero_iff.1 hl
   subst this
   exact ⟨_, Qov h1 h6, Int.le_refl 0⟩
 | n + 1, l, hl, hn => by
   obtain ⟨l', m, rfl⟩ : ∃ l' m, l = l' ++ [m] := ⟨l.dropLast, l.getLast (by intro h; rw [h] at hl; cases hl), (List.dropLast_concat_getLast _).symm⟩
   rw [List.length_append, List.length_singleton] at hl
   obtain ⟨g, F, hs⟩ := Qjb h1 h6 n l' (by omega) (by omega)
   rw [QfT]
   obtain ⟨g', F'⟩ := Qph F (by omega) m
   have := QjN (Qak K l') m
   exact ⟨g', F', by omega⟩
theorem FinI.steps0 (F : FinI K z g) : 0 <= z.steps := by have := F.s; omega
theorem FinI.lens (F : FinI K z g) (hs : z.steps < 100000000) : z.hist.length <= 1000000000 /\ z.deeds.length <= 1000000000 := by
 have h1 := F.s
 have h2 := F.i.gl.cb
 omega
theorem Qoy : ∀ (l : List Ask) (r : Rec), (bD r l).length <= l.length
 | [], r => Nat.le_refl _
 | a :: l, r => by
   show (bDs r a ++ bD (Xz r a) l).length <= l.length + 1
   rw [List.length_append]
   have := Qoy l (Xz r a)
   have h2 : (bDs r a).length <= 1 := by
     unfold bDs
     cases bOpen r a
     · exact Nat.zero_le _
     · exact Nat.le_refl _
   omega
theorem FinI.stOK (F : FinI K z g) (ht : t < 4) (hs : z.steps < 100000000) : stOK z t := by
 have hl := F.lens hs
 refine ⟨F.steps0, hs, hl.1, hl.2, (F.i.th t ht).th, fun h11 => ?_⟩
 have O := F.i.ho t ht ⟨by omega, by omega⟩
 obtain ⟨hG, hD, -, -⟩ := O.nx (by omega) (by omega)
 have e : (Qg (z.wst t)).1.w.deeds = (z.w t).deeds := by simp [Qg, XQ, Sh.wst, h11]
 rw [e, hD]
 have h4 := hG.len
 have := Qoy (z.w t).asks g.R
 omega
theorem FinI.craOK (F : FinI K z g) (hs : z.steps < 100000000) {l : Int} (hu : U64 l) : QkG z l := by
 have hl := F.lens hs
 have G := F.i.gl
 have h0 := G.v0
 have hd := G.vd
 have hv : Qr l z.s 0 = g.dv \/ Qr l z.s 0 = g.V := by
   rcases land_mix l z.s 0 with h | h
   · rw [h]; exact G.good0
   · rw [h]; exact .inr G.now0
 have hb := G.vb
 exact ⟨F.steps0, hs, hl.1, hl.2, hu, by omega, by omega, fun d hd => ⟨F.p d hd, by have := G.topR d hd; omega⟩⟩
end
end
end Go.Proofs.YtddbkioejhidoaaGreatDoor
