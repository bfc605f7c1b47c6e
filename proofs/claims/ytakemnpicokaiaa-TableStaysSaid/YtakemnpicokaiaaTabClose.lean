/- The contract of table.closed: a table without what stands in a slot. -/
import Derived.Test.YtakemnpicokaiaaTab
import Derived.Test.YtakemnpicokaiaaResOps
import Derived.StillTailTactics
namespace Go.Proofs.Ytakemnpicokaiaa
open Go.RowKit
set_option linter.unusedVariables false
theorem int_val {k : IntKind} {a b : Int} (h : a = b) : Value.int k a = Value.int k b := by rw [h]
def tcells (t : List Int) : List Value := t.map (Value.int .i64)
theorem tcells_len (t : List Int) : (tcells t).length = t.length := List.length_map _
theorem tcells_one (t : List Int) : ∀ v ∈ tcells t, v.oneCell' = true := by
  intro v hv
  obtain ⟨x, _, rfl⟩ := List.mem_map.1 hv
  rfl
theorem tcells_get (t : List Int) (i : Nat) (h : i < t.length) : (tcells t)[i]? = some (.int .i64 (t.getD i 0)) := by
  unfold tcells; rw [List.getElem?_map, List.getElem?_eq_getElem h, List.getD_eq_getElem?_getD, List.getElem?_eq_getElem h]; rfl
theorem TabAt.put {w : World} {b : Nat} {t : List Int} (h : TabAt w b t) (i : Nat) (k v : Int) : TabAt ((w.setCell ⟨b, i * 2, none⟩ (.int .i64 k)).setCell ⟨b, i * 2 + 1, none⟩ (.int .i64 v)) b (setS t i k v) := by
  refine ⟨by rw [setS_len]; exact h.1, ?_⟩
  have := (h.2.set (i * 2) (.int .i64 k)).set (i * 2 + 1) (.int .i64 v)
  rwa [← List.map_set, ← List.map_set] at this
theorem TabAt.drew {w : World} {b : Nat} {t : List Int} (h : TabAt w b t) : TabAt w.drew b t := h
theorem TabAt.below {w w' : World} {b : Nat} {t : List Int} (h : TabAt w b t) (k : Below w.heap.size w w') : TabAt w' b t := ⟨h.1, h.2.below k⟩
theorem TabAt.other {w : World} {b : Nat} {t : List Int} {p : Addr} (h : TabAt w b t) (v : Value) (hp : b ≠ p.block) : TabAt (w.setCell p v) b t := ⟨h.1, h.2.other v hp⟩
theorem Blk.drew {w : World} {b : Nat} {C : List Value} {t : TypeId} (h : Blk w b C t) : Blk w.drew b C t := h
theorem TabAt.c0 {w : World} {b : Nat} {t : List Int} (h : TabAt w b t) (i : Nat) (hi : i < 8) : w.cell? ⟨b, i * 2, none⟩ = some (.int .i64 (tk t i)) := h.cell _ (by omega)
theorem TabAt.c1 {w : World} {b : Nat} {t : List Int} (h : TabAt w b t) (i : Nat) (hi : i < 8) : w.cell? ⟨b, i * 2 + 1, none⟩ = some (.int .i64 (tv t i)) := h.cell _ (by omega)
theorem TabAt.f {w : World} {b : Nat} {t : List Int} (h : TabAt w b t) (i : Nat) : w.frozen? ⟨b, i, none⟩ = false := h.2.frozen i
theorem TabAt.new (w : World) (t : List Int) (h : t.length = 16) : TabAt (w.alloc (.cells (tcells t).toArray 27)) w.heap.size t := ⟨h, Blk.new _ _ _⟩
set_option maxHeartbeats 4000000 in
theorem closed_any (w : World) (t : List Int) (i : Nat) (g : Good t) (hi : i < 8) (h0 : tk t i ≠ 0) :
    Calls Try.prog 43 #[.agg (tcells t).toArray, .int .i64 i] w fun e w' => e = .returned (.agg (tcells (closeF t i)).toArray) ∧ Below w.heap.size w w' := by
  obtain ⟨E1, E7, -, -⟩ := endOff_spec g i hi h0
  have HI := Lib.hid (invC_iter g i hi h0)
  have HE : Hid (closeF t i = iterC t i (endOff t i - 1)) := Lib.hid rfl
  have H16 := Lib.hid g.len
  generalize endOff t i = E at *
  have q0 : (tcells t)[i * 2]? = some (.int .i64 (tk t i)) := tcells_get t (i * 2) (by have := g.len; omega)
  have q1 : (tcells t)[i * 2 + 1]? = some (.int .i64 (tv t i)) := tcells_get t (i * 2 + 1) (by have := g.len; omega)
  have hset : ((tcells t).set (i * 2) (.int .i64 0)).set (i * 2 + 1) (.int .i64 0) = tcells (iterC t i 0) := by
    show _ = tcells (setS t i 0 0)
    simp [tcells, setS, List.map_set]
  have HSET := Lib.hid hset
  have HL0 := Lib.hid (HI.out 0 (by omega)).len
  clear g h0 hset
  generalize tk t i = x0 at *
  generalize tv t i = x1 at *
  go_enter Try.func43, Try.ntmps43
  go_wp2_with fail
  rw [HSET.out]
  clear q0 q1 HSET
  have HB := Lib.hid (Below.refl w.heap.size w)
  have hb1 := balloc (Below.refl _ w) (Obj.cells (tcells (iterC t i 0)).toArray 27)
  have HT := Lib.hid (TabAt.new w (iterC t i 0) HL0.out)
  have Z1 : Hid ((w.alloc (Obj.cells (tcells (iterC t i 0)).toArray 27)).heap.size = w.heap.size + 1) := World.size_alloc _ _
  replace HB := Lib.hid (bcall HB.out hb1)
  clear hb1
  generalize w.alloc (Obj.cells (tcells (iterC t i 0)).toArray 27) = w1 at *
  have hb2 := balloc (Below.refl _ w1) (Obj.cells (tcells [0, 0, 0, 0, 0, 0, 0, 0, 0, 0, 0, 0, 0, 0, 0, 0]).toArray 27)
  have HR := Lib.hid (TabAt.new w1 [0, 0, 0, 0, 0, 0, 0, 0, 0, 0, 0, 0, 0, 0, 0, 0] rfl)
  replace HT := Lib.hid (HT.out.below hb2)
  replace HB := Lib.hid (bcall HB.out hb2)
  rw [Z1.out] at HR
  clear hb2 Z1
  change Hid (TabAt (w1.alloc (Obj.cells #[.int .i64 0, .int .i64 0, .int .i64 0, .int .i64 0, .int .i64 0, .int .i64 0, .int .i64 0, .int .i64 0, .int .i64 0, .int .i64 0, .int .i64 0, .int .i64 0, .int .i64 0, .int .i64 0, .int .i64 0, .int .i64 0] 27)) _ _) at HR
  change Hid (TabAt (w1.alloc (Obj.cells #[.int .i64 0, .int .i64 0, .int .i64 0, .int .i64 0, .int .i64 0, .int .i64 0, .int .i64 0, .int .i64 0, .int .i64 0, .int .i64 0, .int .i64 0, .int .i64 0, .int .i64 0, .int .i64 0, .int .i64 0, .int .i64 0] 27)) _ _) at HT
  change Hid (Below _ _ (w1.alloc (Obj.cells #[.int .i64 0, .int .i64 0, .int .i64 0, .int .i64 0, .int .i64 0, .int .i64 0, .int .i64 0, .int .i64 0, .int .i64 0, .int .i64 0, .int .i64 0, .int .i64 0, .int .i64 0, .int .i64 0, .int .i64 0, .int .i64 0] 27))) at HB
  generalize w1.alloc (Obj.cells #[.int .i64 0, .int .i64 0, .int .i64 0, .int .i64 0, .int .i64 0, .int .i64 0, .int .i64 0, .int .i64 0, .int .i64 0, .int .i64 0, .int .i64 0, .int .i64 0, .int .i64 0, .int .i64 0, .int .i64 0, .int .i64 0] 27) = w2 at *
  go_loopw [5] (fun kk wr => ∃ n K : Nat, n < E ∧ K = (i + 1 + n) % 8 ∧ kk = .int .i64 K ∧ Below w.heap.size w wr ∧ TabAt wr w.heap.size (iterC t i n) ∧ TabAt wr (w.heap.size + 1) [0, 0, 0, 0, 0, 0, 0, 0, 0, 0, 0, 0, 0, 0, 0, 0])
    (fun kk _ => 8 - (((intOf kk).toNat + 15 - i) % 8))
  case atStart => exact ⟨0, (i + 1) % 8, by omega, by omega, int_val (by omega), HB.out, HT.out, HR.out⟩
  case round =>
    clear HB HT HR
    obtain ⟨n, K, hn, hK, rfl, hb, ht, hr⟩ := hrel
    have HB := Lib.hid hb
    have HT := Lib.hid ht
    have HR := Lib.hid hr
    clear hb ht hr
    have hK8 : K < 8 := by omega
    have hv := HI.out n hn
    by_cases hend : n + 1 = E
    · have hcl : closeF t i = iterC t i n := by rw [HE.out, ← hend, Nat.add_sub_cancel]
      have hz : tk (iterC t i n) K = 0 := by rw [← hv.stop]; congr 1; omega
      have HCL := Lib.hid hcl
      have c0 := HT.out.c0 K hK8
      rw [hz] at c0
      have HLT : Hid ((tcells (iterC t i n)).length = 16) := Lib.hid (by rw [tcells_len]; exact hv.len)
      have HONE := Lib.hid (tcells_one (iterC t i n))
      have HCT : Hid ((((tcells (iterC t i n)).drop 0).take 16).toArray = (tcells (iterC t i n)).toArray) := Lib.hid (by rw [List.drop_zero, List.take_of_length_le (by rw [HLT.out]; decide)])
      clear hcl hz hv HE HI hK hend
      generalize iterC t i n = T at *
      go_wp2_with (first | (refine wpList_load_part rfl 27 _ rfl w.heap.size 0 16 rfl 27 (tcells T) _ HT.out.2 (by rw [HLT.out]; decide) Try.underlying27 rfl (by kernel_rfl) ?_; rw [HCT.out]) | (refine wpList_store_part rfl 27 _ _ rfl (w.heap.size + 1) 0 16 (tcells T) rfl rfl 27 (tcells [0, 0, 0, 0, 0, 0, 0, 0, 0, 0, 0, 0, 0, 0, 0, 0]) HR.out.2 HLT.out (by decide) (by kernel_rfl) HONE.out ?_))
      have hsp : spl (tcells [0, 0, 0, 0, 0, 0, 0, 0, 0, 0, 0, 0, 0, 0, 0, 0]) 0 (tcells T) = tcells T := by
        unfold spl
        rw [HLT.out, List.take_zero, List.nil_append, List.drop_of_length_le (by decide), List.append_nil]
      rw [hsp]
      have hR2 : Blk (setBlk wr (w.heap.size + 1) (tcells T)) (w.heap.size + 1) (tcells T) 27 := HR.out.2.setBlk _
      have hB2 : Below w.heap.size w (setBlk wr (w.heap.size + 1) (tcells T)) := bsetBlk HB.out (by omega) _
      refine bodyPost_ret (v := .agg (tcells T).toArray) (results1_cell _ _ rfl (w.heap.size + 1) (tcells T) 27 _ rfl hR2 Try.underlying27 rfl (by rw [HLT.out]; kernel_rfl)) rfl ⟨by rw [HCL.out], hB2⟩
    · have hlt : n + 1 < E := by omega
      have hz : tk (iterC t i n) K ≠ 0 := by
        have := hv.run (n + 1) (by omega) hlt
        rwa [show (i + (n + 1)) % 8 = K by omega] at this
      obtain ⟨a, ha8, haI, ha0, -, -⟩ := stepC_at hv hi hlt E7
      rw [← hK] at haI
      have hk0 := hv.key0 K hK8
      have hk1 := hv.key1 K hK8
      have hstep : setS (setS (iterC t i n) K 0 0) a (tk (iterC t i n) K) (tv (iterC t i n) K) = iterC t i (n + 1) := by
        show _ = stepC (iterC t i n) ((i + 1 + n) % 8)
        rw [← hK]; unfold stepC; rw [haI, Int.toNat_natCast]
      have HST := Lib.hid hstep
      have HAI := Lib.hid haI
      have b0 : (tk (iterC t i n) K != 0) = true := by simp [hz]
      have HL := Lib.hid hv.len
      have HK := Lib.hid hK
      clear hstep haI ha0 hv hz HE HI hK hend
      generalize iterC t i n = T at *
      have c0 := HT.out.c0 K hK8
      have c1 := HT.out.c1 K hK8
      have f0 := HT.out.f (K * 2)
      have f1 := HT.out.f (K * 2 + 1)
      have hwz := HR.out.2.lt
      have hwz0 := HT.out.2.lt
      generalize tk T K = key at *
      generalize tv T K = val at *
      go_wp2_with fail
      have HT4 := HT.out.put K 0 0
      have HR4 : TabAt (((wr.setCell ⟨w.heap.size, K * 2, none⟩ (.int .i64 0)).setCell ⟨w.heap.size, K * 2 + 1, none⟩ (.int .i64 0))) _ _ := (HR.out.other (p := ⟨w.heap.size, K * 2, none⟩) (.int .i64 0) (by show w.heap.size + 1 ≠ w.heap.size; omega)).other (p := ⟨w.heap.size, K * 2 + 1, none⟩) (.int .i64 0) (by show w.heap.size + 1 ≠ w.heap.size; omega)
      have HB4 : Below w.heap.size w (((wr.setCell ⟨w.heap.size, K * 2, none⟩ (.int .i64 0)).setCell ⟨w.heap.size, K * 2 + 1, none⟩ (.int .i64 0))) := bstore (bstore HB.out (Nat.le_refl _) _) (Nat.le_refl _) _
      have hsz : (((wr.setCell ⟨w.heap.size, K * 2, none⟩ (.int .i64 0)).setCell ⟨w.heap.size, K * 2 + 1, none⟩ (.int .i64 0))).heap.size = wr.heap.size := by simp [World.setCell]
      have hb := balloc (Below.refl _ (((wr.setCell ⟨w.heap.size, K * 2, none⟩ (.int .i64 0)).setCell ⟨w.heap.size, K * 2 + 1, none⟩ (.int .i64 0)))) (Obj.cells #[.int .i64 key, .int .i64 val] 25)
      have HX5 := Blk.new (((wr.setCell ⟨w.heap.size, K * 2, none⟩ (.int .i64 0)).setCell ⟨w.heap.size, K * 2 + 1, none⟩ (.int .i64 0))) [.int .i64 key, .int .i64 val] 25
      rw [hsz] at HX5
      replace HX5 : Hid (Blk ((((wr.setCell ⟨w.heap.size, K * 2, none⟩ (.int .i64 0)).setCell ⟨w.heap.size, K * 2 + 1, none⟩ (.int .i64 0))).alloc (Obj.cells #[.int .i64 key, .int .i64 val] 25)) _ _ _) := Lib.hid HX5
      have HT5 := Lib.hid (HT4.below hb)
      have HR5 := Lib.hid (HR4.below hb)
      have HB5 := Lib.hid (bcall HB4 hb)
      clear hb HT HR HB c0 c1 f0 f1 HT4 HR4 HB4 hsz
      generalize (((wr.setCell ⟨w.heap.size, K * 2, none⟩ (.int .i64 0)).setCell ⟨w.heap.size, K * 2 + 1, none⟩ (.int .i64 0))).alloc (Obj.cells #[.int .i64 key, .int .i64 val] 25) = w5 at *
      generalize wr.heap.size = c at *
      refine wp_region_still_tail 5 (by kernel_rfl) (by kernel_rfl) ?_
      rw [show ({ w5 with drawn := w5.drawn + 1 } : World) = w5.drew from rfl]
      replace HX5 := Lib.hid (Blk.drew HX5.out)
      replace HT5 := Lib.hid (TabAt.drew HT5.out)
      replace HR5 := Lib.hid (TabAt.drew HR5.out)
      replace HB5 := Lib.hid HB5.out.drew
      generalize w5.drew = w6 at *
      have HC : Hid (Calls Try.prog 42 #[.pointer (some ⟨w.heap.size, 0, none⟩), .int .i64 key] w6 (fun e w'' => e = .returned (.int .i64 (a : Nat)) ∧ w'' = w6)) :=
        Lib.hid ((at_any key _ w.heap.size (setS T K 0 0) HT5.out hk0 hk1).mono (fun _ _ h => ⟨by rw [h.1, HAI.out], h.2.symm⟩))
      have x0' := HX5.out.cell 0
      have x1' := HX5.out.cell 1
      have y0 := HT5.out.c0 a ha8
      have y1 := HT5.out.c1 a ha8
      have g0 := HT5.out.f (a * 2)
      have g1 := HT5.out.f (a * 2 + 1)
      have ha0 : (0 : Int) ≤ (a : Int) := Int.natCast_nonneg _
      have ha7 : (a : Int) < 8 := by omega
      generalize tk (setS T K 0 0) a = z0 at *
      generalize tv (setS T K 0 0) a = z1 at *
      simp only [List.take_succ_cons, List.take_zero, List.drop_succ_cons, List.drop_zero]
      still_step
      still_step
      still_call HC.out
      still_step
      still_step
      refine wpStill_nil ?_
      go_wp2_with fail
      go_roundw
      case rel =>
        have hT := HT5.out.put a key val
        rw [HST.out] at hT
        exact ⟨n + 1, (K + 1) % 8, hlt, by have := HK.out; omega, int_val (by omega), bstore (bstore HB5.out (Nat.le_refl _) _) (Nat.le_refl _) _, hT, (HR5.out.other (p := ⟨w.heap.size, a * 2, none⟩) (.int .i64 key) (by show w.heap.size + 1 ≠ w.heap.size; omega)).other (p := ⟨w.heap.size, a * 2 + 1, none⟩) (.int .i64 val) (by show w.heap.size + 1 ≠ w.heap.size; omega)⟩
      case measure =>
        have := HK.out
        simp only [intOf]; omega
end Go.Proofs.Ytakemnpicokaiaa
