/- Contracts of the library at this dump, out of the shelf. -/
import Derived.Shelf.Strings.Builder1
import Derived.Shelf.Strings.BuilderF
import Derived.Shelf.Strings.BuilderK
import Derived.Shelf.Utf8.RuneCount
import Derived.Shelf.Strconv.Itoa0
import Derived.Shelf.Strconv.Itoa1
import Derived.Shelf.LaysM
import Derived.Shelf.Strconv.Itoa2
import Derived.Shelf.Strconv.Itoa3
import Derived.Shelf.Strings.Search1
import Derived.Shelf.Strings.Search2
import Derived.Shelf.Strings.Search3
import Derived.Shelf.Strings.Count
import Derived.Shelf.Strings.Shaped
import Derived.Shelf.Strings.Split
import Derived.Shelf.Strings.SplitShaped
import Derived.Shelf.Unicode.Decode
import Derived.Shelf.Strings.RuneCount
import Derived.Shelf.Strings.Explode
import Derived.Shelf.Unicode.DecodeSlow
import Derived.Shelf.Unicode.DecodeAny
import Derived.Shelf.Strings.BuilderCap
import Derived.Shelf.Slices.Turned
import Derived.Shelf.Slices.Reverse
import Derived.Ground.Names2Prog
import Derived.Shelf.Slices.Clone
import Derived.Shelf.Slices.Delete
import Derived.Shelf.Slices.Cells
import Derived.Shelf.Slices.Empties
import Derived.Ground.SlgnProg
import Derived.Shelf.SlicesE.Reverse
import Derived.Shelf.SlicesE.Delete
import Derived.Shelf.SlicesE.Clone
import Derived.Test.YtflgoaogcenmpaaGreatDoorProg
namespace Go.Proofs
open Go.Shelf
def Tryz.lays169_ren : Go.Shelf.Ren := ⟨fun | 169 => 58 | n => n, fun | 70 => 124 | 9 => 9 | 0 => 0 | 72 => 127 | 37 => 125 | 127 => 184 | 3 => 3 | 5 => 5 | n => n, fun | n => n⟩
theorem Tryz.lays169 : Go.Proofs.Lays.n169 Tryz.prog Tryz.lays169_ren := {
  mixed := by kernel_rfl
  f169 := Tryz.func58.trans (congrArg some (by kernel_rfl))
  t0 := Tryz.underlying0
  a0 := Tryz.isAgg0
  z0 := Tryz.sizeOf0
  v0 := Tryz.zeroValue0
  t3 := Tryz.underlying3
  a3 := Tryz.isAgg3
  z3 := Tryz.sizeOf3
  v3 := Tryz.zeroValue3
  t9 := Tryz.underlying9
  a9 := Tryz.isAgg9
  z9 := Tryz.sizeOf9
  v9 := Tryz.zeroValue9
  t37 := Tryz.underlying125
  a37 := Tryz.isAgg125
  z37 := Tryz.sizeOf125
  v37 := Tryz.zeroValue125
  t70 := Tryz.underlying124
  a70 := Tryz.isAgg124
  z70 := Tryz.sizeOf124
  v70 := Tryz.zeroValue124
  t72 := Tryz.underlying127
  a72 := Tryz.isAgg127
  z72 := Tryz.sizeOf127
  v72 := Tryz.zeroValue127
  t127 := Tryz.underlying184
  a127 := Tryz.isAgg184
  z127 := Tryz.sizeOf184
  v127 := Tryz.zeroValue184 }
theorem Tryz.Builder_Extra_169 : Builder.Extra Tryz.prog Tryz.lays169_ren := {
  sizeBuilder := by kernel_rfl
  liesBuilder := by kernel_rfl
  t5 := Tryz.underlying5
  a5 := Tryz.isAgg5
  z5 := Tryz.sizeOf5
  v5 := Tryz.zeroValue5
  infoByte := by kernel_rfl
  cellsByte := by kernel_rfl
  sizeByte := by kernel_rfl
  neB5 := by decide }
open Go.RowKit in
theorem Tryz.Builder_String_any_f (B b : Nat) (l : List UInt8) (w : World) (h : Lib.IsBuilderF 127 5 B b (Lib.byteCells l) w) (hBw : B ≤ w.heap.size) :
    Calls Tryz.prog 58 #[.pointer (some ⟨b, 0, none⟩)] w fun e w' => e = .returned (.string ⟨l.toArray⟩) ∧ (Lib.IsBuilderF 127 5 B b (Lib.byteCells l) w' ∧ Below B w w') := Any.Builder_String_any_f Tryz.lays169 Tryz.Builder_Extra_169 B b l w h hBw
def Tryz.laysM171_ren : Go.Shelf.Ren := ⟨fun | 171 => 59 | 243 => 99 | 246 => 126 | 283 => 143 | 284 => 144 | 285 => 145 | 286 => 146 | 129 => 155 | 317 => 154 | 318 => 156 | 319 => 157 | 320 => 158 | 337 => 160 | 338 => 161 | n => n, fun | 3 => 3 | 9 => 9 | 2 => 2 | 4 => 4 | 171 => 247 | 0 => 0 | 53 => 33 | 37 => 125 | 5 => 5 | 173 => 249 | 212 => 262 | 51 => 258 | 20 => 20 | 213 => 263 | 46 => 79 | 232 => 267 | 233 => 268 | n => n, fun | 17 => 6 | 18 => 7 | 19 => 8 | n => n⟩
theorem Tryz.laysM171 : Go.Proofs.LaysM.n171 Tryz.prog Tryz.laysM171_ren := {
  mixed := by kernel_rfl
  f129 := Tryz.func155.trans (congrArg some (by kernel_rfl))
  f171 := Tryz.func59.trans (congrArg some (by kernel_rfl))
  f243 := Tryz.func99.trans (congrArg some (by kernel_rfl))
  f246 := Tryz.func126.trans (congrArg some (by kernel_rfl))
  f283 := Tryz.func143.trans (congrArg some (by kernel_rfl))
  f284 := Tryz.func144.trans (congrArg some (by kernel_rfl))
  f285 := Tryz.func145.trans (congrArg some (by kernel_rfl))
  f286 := Tryz.func146.trans (congrArg some (by kernel_rfl))
  f317 := Tryz.func154.trans (congrArg some (by kernel_rfl))
  f318 := Tryz.func156.trans (congrArg some (by kernel_rfl))
  f319 := Tryz.func157.trans (congrArg some (by kernel_rfl))
  f320 := Tryz.func158.trans (congrArg some (by kernel_rfl))
  f337 := Tryz.func160.trans (congrArg some (by kernel_rfl))
  f338 := Tryz.func161.trans (congrArg some (by kernel_rfl))
  t0 := Tryz.underlying0
  a0 := Tryz.isAgg0
  z0 := Tryz.sizeOf0
  v0 := Tryz.zeroValue0
  t2 := Tryz.underlying2
  a2 := Tryz.isAgg2
  z2 := Tryz.sizeOf2
  v2 := Tryz.zeroValue2
  t3 := Tryz.underlying3
  a3 := Tryz.isAgg3
  z3 := Tryz.sizeOf3
  v3 := Tryz.zeroValue3
  t4 := Tryz.underlying4
  a4 := Tryz.isAgg4
  z4 := Tryz.sizeOf4
  v4 := Tryz.zeroValue4
  t5 := Tryz.underlying5
  a5 := Tryz.isAgg5
  z5 := Tryz.sizeOf5
  v5 := Tryz.zeroValue5
  t9 := Tryz.underlying9
  a9 := Tryz.isAgg9
  z9 := Tryz.sizeOf9
  v9 := Tryz.zeroValue9
  t20 := Tryz.underlying20
  a20 := Tryz.isAgg20
  z20 := Tryz.sizeOf20
  v20 := Tryz.zeroValue20
  t37 := Tryz.underlying125
  a37 := Tryz.isAgg125
  z37 := Tryz.sizeOf125
  v37 := Tryz.zeroValue125
  t46 := Tryz.underlying79
  a46 := Tryz.isAgg79
  z46 := Tryz.sizeOf79
  v46 := Tryz.zeroValue79
  t51 := Tryz.underlying258
  a51 := Tryz.isAgg258
  z51 := Tryz.sizeOf258
  v51 := Tryz.zeroValue258
  t53 := Tryz.underlying33
  a53 := Tryz.isAgg33
  z53 := Tryz.sizeOf33
  v53 := Tryz.zeroValue33
  t171 := Tryz.underlying247
  a171 := Tryz.isAgg247
  z171 := Tryz.sizeOf247
  v171 := Tryz.zeroValue247
  t173 := Tryz.underlying249
  a173 := Tryz.isAgg249
  z173 := Tryz.sizeOf249
  v173 := Tryz.zeroValue249
  t212 := Tryz.underlying262
  a212 := Tryz.isAgg262
  z212 := Tryz.sizeOf262
  v212 := Tryz.zeroValue262
  t213 := Tryz.underlying263
  a213 := Tryz.isAgg263
  z213 := Tryz.sizeOf263
  t232 := Tryz.underlying267
  a232 := Tryz.isAgg267
  z232 := Tryz.sizeOf267
  v232 := Tryz.zeroValue267
  t233 := Tryz.underlying268
  a233 := Tryz.isAgg268
  z233 := Tryz.sizeOf268
  v233 := Tryz.zeroValue268
  g17 := by kernel_rfl
  g18 := by kernel_rfl
  g19 := by kernel_rfl
  i0 := by kernel_rfl
  i2 := by kernel_rfl
  i3 := by kernel_rfl
  i4 := by kernel_rfl
  i5 := by kernel_rfl
  i9 := by kernel_rfl
  i20 := by kernel_rfl
  i37 := by kernel_rfl
  i46 := by kernel_rfl
  i51 := by kernel_rfl
  i53 := by kernel_rfl
  i171 := by kernel_rfl
  i173 := by kernel_rfl
  i212 := by kernel_rfl
  i232 := by kernel_rfl
  i233 := by kernel_rfl
  m17 := by kernel_rfl
  m18 := by kernel_rfl
  m19 := by kernel_rfl }
open Go.RowKit Go.Sort Go.Lib in
theorem Tryz.strconv_Itoa (n : Int) (h0 : -9223372036854775808 ≤ n) (h1 : n ≤ 9223372036854775807) (w : World) (htab : Lib.TabIs Tryz.prog w "internal/strconv.uint64pow10" .u64 Lib.pow10Tab) :
    Calls Tryz.prog 59 #[.int .i64 n] w fun e w' => e = .returned (.string ⟨(Lib.itoa n).toArray⟩) ∧ ∃ k os, w' = grow (w.drewN k) os := Any.strconv_Itoa Tryz.laysM171 n h0 h1 w htab
def Tryz.lays146_ren : Go.Shelf.Ren := ⟨fun | 146 => 28 | 221 => 56 | 268 => 95 | 138 => 96 | 143 => 97 | 195 => 121 | 197 => 122 | 218 => 123 | 219 => 124 | 260 => 138 | 217 => 139 | 225 => 140 | 224 => 141 | 267 => 142 | 266 => 152 | 314 => 153 | n => n, fun | 9 => 9 | 31 => 71 | 3 => 3 | 4 => 4 | 0 => 0 | 105 => 221 | 21 => 21 | 5 => 5 | 46 => 79 | 119 => 254 | 139 => 257 | 138 => 256 | 146 => 259 | 51 => 258 | n => n, fun | 1 => 3 | 3 => 4 | 4 => 5 | n => n⟩
theorem Tryz.lays146 : Go.Proofs.Lays.n146 Tryz.prog Tryz.lays146_ren := {
  mixed := by kernel_rfl
  f138 := Tryz.func96.trans (congrArg some (by kernel_rfl))
  f143 := Tryz.func97.trans (congrArg some (by kernel_rfl))
  f146 := Tryz.func28.trans (congrArg some (by kernel_rfl))
  f195 := Tryz.func121.trans (congrArg some (by kernel_rfl))
  f197 := Tryz.func122.trans (congrArg some (by kernel_rfl))
  f217 := Tryz.func139.trans (congrArg some (by kernel_rfl))
  f218 := Tryz.func123.trans (congrArg some (by kernel_rfl))
  f219 := Tryz.func124.trans (congrArg some (by kernel_rfl))
  f221 := Tryz.func56.trans (congrArg some (by kernel_rfl))
  f224 := Tryz.func141.trans (congrArg some (by kernel_rfl))
  f225 := Tryz.func140.trans (congrArg some (by kernel_rfl))
  f260 := Tryz.func138.trans (congrArg some (by kernel_rfl))
  f266 := Tryz.func152.trans (congrArg some (by kernel_rfl))
  f267 := Tryz.func142.trans (congrArg some (by kernel_rfl))
  f268 := Tryz.func95.trans (congrArg some (by kernel_rfl))
  f314 := Tryz.func153.trans (congrArg some (by kernel_rfl))
  t0 := Tryz.underlying0
  a0 := Tryz.isAgg0
  z0 := Tryz.sizeOf0
  v0 := Tryz.zeroValue0
  t3 := Tryz.underlying3
  a3 := Tryz.isAgg3
  z3 := Tryz.sizeOf3
  v3 := Tryz.zeroValue3
  t4 := Tryz.underlying4
  a4 := Tryz.isAgg4
  z4 := Tryz.sizeOf4
  v4 := Tryz.zeroValue4
  t5 := Tryz.underlying5
  a5 := Tryz.isAgg5
  z5 := Tryz.sizeOf5
  v5 := Tryz.zeroValue5
  t9 := Tryz.underlying9
  a9 := Tryz.isAgg9
  z9 := Tryz.sizeOf9
  v9 := Tryz.zeroValue9
  t21 := Tryz.underlying21
  a21 := Tryz.isAgg21
  z21 := Tryz.sizeOf21
  v21 := Tryz.zeroValue21
  t31 := Tryz.underlying71
  a31 := Tryz.isAgg71
  z31 := Tryz.sizeOf71
  v31 := Tryz.zeroValue71
  t46 := Tryz.underlying79
  a46 := Tryz.isAgg79
  z46 := Tryz.sizeOf79
  v46 := Tryz.zeroValue79
  t51 := Tryz.underlying258
  a51 := Tryz.isAgg258
  z51 := Tryz.sizeOf258
  v51 := Tryz.zeroValue258
  t105 := Tryz.underlying221
  a105 := Tryz.isAgg221
  z105 := Tryz.sizeOf221
  v105 := Tryz.zeroValue221
  t119 := Tryz.underlying254
  a119 := Tryz.isAgg254
  z119 := Tryz.sizeOf254
  t138 := Tryz.underlying256
  a138 := Tryz.isAgg256
  z138 := Tryz.sizeOf256
  v138 := Tryz.zeroValue256
  t139 := Tryz.underlying257
  a139 := Tryz.isAgg257
  z139 := Tryz.sizeOf257
  v139 := Tryz.zeroValue257
  t146 := Tryz.underlying259
  a146 := Tryz.isAgg259
  z146 := Tryz.sizeOf259
  v146 := Tryz.zeroValue259
  g1 := by kernel_rfl
  g3 := by kernel_rfl
  g4 := by kernel_rfl }
open Go.RowKit Go.Lib in
theorem Tryz.strings_Split (s sep : ByteArray) (m : Int) (w : World) (hs : s.size < 4294967281) (hm : w.cell? ⟨3, 0, none⟩ = some (.int .i64 m)) (h1 : 1 ≤ sep.size) :
    Calls Tryz.prog 28 #[.string s, .string sep] w fun e w' =>
      e = .returned (.slice (some ⟨w.heap.size, 0, none⟩) (Lib.countB s sep + 1) (Lib.countB s sep + 1)) ∧ w' = w.alloc (.cells ((Lib.splitB sep 0 (Lib.countB s sep) s).map Value.string).toArray 9) := Any.strings_Split Tryz.lays146 (by kernel_rfl) s sep m w hs hm h1
def Tryz.laysM146_ren : Go.Shelf.Ren := ⟨fun | 146 => 28 | 221 => 56 | 268 => 95 | 138 => 96 | 143 => 97 | 195 => 121 | 197 => 122 | 218 => 123 | 219 => 124 | 260 => 138 | 217 => 139 | 225 => 140 | 224 => 141 | 267 => 142 | 266 => 152 | 314 => 153 | n => n, fun | 9 => 9 | 31 => 71 | 3 => 3 | 4 => 4 | 0 => 0 | 105 => 221 | 21 => 21 | 5 => 5 | 46 => 79 | 119 => 254 | 139 => 257 | 138 => 256 | 146 => 259 | 51 => 258 | n => n, fun | 1 => 3 | 3 => 4 | 4 => 5 | n => n⟩
theorem Tryz.laysM146 : Go.Proofs.LaysM.n146 Tryz.prog Tryz.laysM146_ren := {
  mixed := by kernel_rfl
  f138 := Tryz.func96.trans (congrArg some (by kernel_rfl))
  f143 := Tryz.func97.trans (congrArg some (by kernel_rfl))
  f146 := Tryz.func28.trans (congrArg some (by kernel_rfl))
  f195 := Tryz.func121.trans (congrArg some (by kernel_rfl))
  f197 := Tryz.func122.trans (congrArg some (by kernel_rfl))
  f217 := Tryz.func139.trans (congrArg some (by kernel_rfl))
  f218 := Tryz.func123.trans (congrArg some (by kernel_rfl))
  f219 := Tryz.func124.trans (congrArg some (by kernel_rfl))
  f221 := Tryz.func56.trans (congrArg some (by kernel_rfl))
  f224 := Tryz.func141.trans (congrArg some (by kernel_rfl))
  f225 := Tryz.func140.trans (congrArg some (by kernel_rfl))
  f260 := Tryz.func138.trans (congrArg some (by kernel_rfl))
  f266 := Tryz.func152.trans (congrArg some (by kernel_rfl))
  f267 := Tryz.func142.trans (congrArg some (by kernel_rfl))
  f268 := Tryz.func95.trans (congrArg some (by kernel_rfl))
  f314 := Tryz.func153.trans (congrArg some (by kernel_rfl))
  t0 := Tryz.underlying0
  a0 := Tryz.isAgg0
  z0 := Tryz.sizeOf0
  v0 := Tryz.zeroValue0
  t3 := Tryz.underlying3
  a3 := Tryz.isAgg3
  z3 := Tryz.sizeOf3
  v3 := Tryz.zeroValue3
  t4 := Tryz.underlying4
  a4 := Tryz.isAgg4
  z4 := Tryz.sizeOf4
  v4 := Tryz.zeroValue4
  t5 := Tryz.underlying5
  a5 := Tryz.isAgg5
  z5 := Tryz.sizeOf5
  v5 := Tryz.zeroValue5
  t9 := Tryz.underlying9
  a9 := Tryz.isAgg9
  z9 := Tryz.sizeOf9
  v9 := Tryz.zeroValue9
  t21 := Tryz.underlying21
  a21 := Tryz.isAgg21
  z21 := Tryz.sizeOf21
  v21 := Tryz.zeroValue21
  t31 := Tryz.underlying71
  a31 := Tryz.isAgg71
  z31 := Tryz.sizeOf71
  v31 := Tryz.zeroValue71
  t46 := Tryz.underlying79
  a46 := Tryz.isAgg79
  z46 := Tryz.sizeOf79
  v46 := Tryz.zeroValue79
  t51 := Tryz.underlying258
  a51 := Tryz.isAgg258
  z51 := Tryz.sizeOf258
  v51 := Tryz.zeroValue258
  t105 := Tryz.underlying221
  a105 := Tryz.isAgg221
  z105 := Tryz.sizeOf221
  v105 := Tryz.zeroValue221
  t119 := Tryz.underlying254
  a119 := Tryz.isAgg254
  z119 := Tryz.sizeOf254
  t138 := Tryz.underlying256
  a138 := Tryz.isAgg256
  z138 := Tryz.sizeOf256
  v138 := Tryz.zeroValue256
  t139 := Tryz.underlying257
  a139 := Tryz.isAgg257
  z139 := Tryz.sizeOf257
  v139 := Tryz.zeroValue257
  t146 := Tryz.underlying259
  a146 := Tryz.isAgg259
  z146 := Tryz.sizeOf259
  v146 := Tryz.zeroValue259
  g1 := by kernel_rfl
  g3 := by kernel_rfl
  g4 := by kernel_rfl
  i0 := by kernel_rfl
  i3 := by kernel_rfl
  i4 := by kernel_rfl
  i5 := by kernel_rfl
  i9 := by kernel_rfl
  i21 := by kernel_rfl
  i31 := by kernel_rfl
  i46 := by kernel_rfl
  i51 := by kernel_rfl
  i105 := by kernel_rfl
  i138 := by kernel_rfl
  i139 := by kernel_rfl
  i146 := by kernel_rfl
  m1 := by kernel_rfl
  s1_3 := fun w h => Go.Proofs.cell_of_shapedOpen_int (zero := #[.int .i64 0]) (t := 3) h (of_decide_eq_true (by kernel_rfl)) (by kernel_rfl) rfl (by kernel_rfl) (by kernel_rfl) Tryz.underlying3
  m3 := by kernel_rfl
  m4 := by kernel_rfl }
def Tryz.laysNm223_ren : Go.Shelf.Ren := ⟨fun | 23 => 118 | n => n, fun | 22 => 151 | 3 => 3 | 4 => 4 | 0 => 0 | n => n, fun | n => n⟩
theorem Tryz.laysNm223 : Go.Proofs.Lays2.n23 Tryz.prog Tryz.laysNm223_ren := {
  mixed := by kernel_rfl
  f23 := Tryz.func118.trans (congrArg some (by kernel_rfl))
  t0 := Tryz.underlying0
  a0 := Tryz.isAgg0
  z0 := Tryz.sizeOf0
  v0 := Tryz.zeroValue0
  t3 := Tryz.underlying3
  a3 := Tryz.isAgg3
  z3 := Tryz.sizeOf3
  v3 := Tryz.zeroValue3
  t4 := Tryz.underlying4
  a4 := Tryz.isAgg4
  z4 := Tryz.sizeOf4
  v4 := Tryz.zeroValue4
  t22 := Tryz.underlying151
  a22 := Tryz.isAgg151
  z22 := Tryz.sizeOf151
  v22 := Tryz.zeroValue151
  i3 := by kernel_rfl }
open Go.RowKit Go.Lib Go.Sort in
theorem Tryz.slices_Delete_int_cells (b off n c i j : Nat) (zs : List Int) (w : World) (hz : n ≤ zs.length) (hcap : n ≤ c) (hm : c ≤ 9223372036854775807) (hij : i ≤ j) (hj : j ≤ n) (hc : ∀ j, j < zs.length → w.cell? ⟨b, off + j, none⟩ = some (.int .i64 (zs.getD j 0))) (hf : ∀ j, j < n → w.frozen? ⟨b, off + j, none⟩ = false) :
    Calls Tryz.prog 118 #[.slice (some ⟨b, off, none⟩) n c, .int .i64 i, .int .i64 j] w fun e w' => e = .returned (.slice (some ⟨b, off, none⟩) (n - (j - i)) c) ∧ ∃ q, w' = (w.drewN q).setCells b off (((zs.take n).take i ++ (zs.take n).drop j ++ List.replicate (j - i) 0).map (Value.int .i64)) := Any.slices_Delete_int_cells Tryz.laysNm223 b off n c i j zs w hz hcap hm hij hj hc hf
end Go.Proofs

