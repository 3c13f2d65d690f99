/- Part 5: Shelf, Sort. -/
import Derived.Ground.SlsfProg
import Derived.Shelf.SlSortCmp.NoneTotal
import Derived.Shelf.SlGeneric
import Derived.Shelf.Small.Bits
import Derived.Shelf.Small.Strs
import Derived.Shelf.Small.Wraps
import Derived.Shelf.Utf8.RuneCount
import Derived.Shelf.Strconv.Itoa0
import Derived.Shelf.Strings.Search1
import Derived.Shelf.Strings.Search2
import Derived.Shelf.Strings.Search3
import Derived.Shelf.Strings.Count
import Derived.Shelf.LaysM
import Derived.Shelf.Strings.Shaped
import Derived.Shelf.Sort.Plain
import Derived.Shelf.Strings.Split
import Derived.Shelf.Strings.SplitShaped
import Derived.Shelf.Unicode.Decode
import Derived.Shelf.Strings.RuneCount
import Derived.Shelf.Strings.Explode
import Derived.Shelf.Unicode.DecodeSlow
import Derived.Shelf.Unicode.DecodeAny
import Derived.Shelf.Slices.Turned
import Derived.Ground.Names2Prog
import Derived.Shelf.Slices.CompactI
import Derived.Shelf.Slices.SearchI
import Derived.Shelf.Slices.Cells
import Derived.Shelf.Slices.In.SortNone
import Derived.Ground.SlgnProg
import Derived.Shelf.SlicesE.Index
import Derived.Shelf.SlicesE.Compact
import Derived.Ground.SlgfProg
import Derived.Shelf.SlicesE.IndexFunc
import Derived.Test.YtkdjnegfnhldpaaGreatDoorProg
import Derived.Test.YtkdjnegfnhldpaaGreatDoorH03
import Derived.Sort.OwnSorted
set_option linter.unusedVariables false
set_option maxRecDepth 100000
set_option linter.unusedSimpArgs false
section
namespace Go.Proofs
open Go.Shelf
open Go.RowKit in
open Go.RowKit in
open Go.RowKit in
open Go.RowKit in
open Go.RowKit Go.Lib in
open Go.RowKit Go.Lib in
open Go.RowKit Go.Lib in
open Go.RowKit Go.Lib in
open Go.RowKit Go.Lib in
open Go.RowKit Go.Lib in
open Go.RowKit Go.Lib in
open Go.RowKit Go.Lib in
open Go.RowKit Go.Lib in
open Go.RowKit Go.Lib in
open Go.RowKit Go.Lib in
open Go.RowKit Go.Lib in
open Go.RowKit Go.Lib in
def Tryz.lays189_ren : Go.Shelf.Ren := ⟨fun | 189 => 172 | 125 => 198 | 257 => 209 | 128 => 232 | 129 => 233 | 294 => 237 | 295 => 238 | 296 => 239 | 297 => 240 | 298 => 241 | 299 => 242 | 216 => 243 | 300 => 244 | 301 => 245 | 328 => 259 | 329 => 253 | 330 => 254 | 331 => 260 | 332 => 261 | 215 => 214 | 343 => 268 | n => n, fun | 28 => 24 | 3 => 3 | 46 => 235 | 0 => 0 | 51 => 262 | 53 => 264 | 4 => 4 | 183 => 256 | 182 => 255 | 131 => 76 | 5 => 5 | 9 => 9 | 218 => 274 | 222 => 278 | 228 => 286 | 229 => 287 | n => n, fun | n => n⟩
theorem Tryz.lays189 : Go.Proofs.Lays.n189 Tryz.prog Tryz.lays189_ren := {
  mixed := by kernel_rfl
  f125 := Tryz.func198.trans (congrArg some (by kernel_rfl))
  f128 := Tryz.func232.trans (congrArg some (by kernel_rfl))
  f129 := Tryz.func233.trans (congrArg some (by kernel_rfl))
  f189 := Tryz.func172.trans (congrArg some (by kernel_rfl))
  f215 := Tryz.func214.trans (congrArg some (by kernel_rfl))
  f216 := Tryz.func243.trans (congrArg some (by kernel_rfl))
  f257 := Tryz.func209.trans (congrArg some (by kernel_rfl))
  f294 := Tryz.func237.trans (congrArg some (by kernel_rfl))
  f295 := Tryz.func238.trans (congrArg some (by kernel_rfl))
  f296 := Tryz.func239.trans (congrArg some (by kernel_rfl))
  f297 := Tryz.func240.trans (congrArg some (by kernel_rfl))
  f298 := Tryz.func241.trans (congrArg some (by kernel_rfl))
  f299 := Tryz.func242.trans (congrArg some (by kernel_rfl))
  f300 := Tryz.func244.trans (congrArg some (by kernel_rfl))
  f301 := Tryz.func245.trans (congrArg some (by kernel_rfl))
  f328 := Tryz.func259.trans (congrArg some (by kernel_rfl))
  f329 := Tryz.func253.trans (congrArg some (by kernel_rfl))
  f330 := Tryz.func254.trans (congrArg some (by kernel_rfl))
  f331 := Tryz.func260.trans (congrArg some (by kernel_rfl))
  f332 := Tryz.func261.trans (congrArg some (by kernel_rfl))
  f343 := Tryz.func268.trans (congrArg some (by kernel_rfl))
  t0 := Tryz.underlying0
  a0 := Tryz.isAgg0
  z0 := Tryz.sizeOf0
  v0 := Tryz.zeroValue0
  t3 := Tryz.underlying3
  a3 := Tryz.isAgg3
  z3 := Tryz.sizeOf3
  v3 := Tryz.zeroValue3
  t4 := Tryz.underlying4
  a4 := Tryz.isAgg4
  z4 := Tryz.sizeOf4
  v4 := Tryz.zeroValue4
  t5 := Tryz.underlying5
  a5 := Tryz.isAgg5
  z5 := Tryz.sizeOf5
  v5 := Tryz.zeroValue5
  t9 := Tryz.underlying9
  a9 := Tryz.isAgg9
  z9 := Tryz.sizeOf9
  v9 := Tryz.zeroValue9
  t28 := Tryz.underlying24
  a28 := Tryz.isAgg24
  z28 := Tryz.sizeOf24
  v28 := Tryz.zeroValue24
  t46 := Tryz.underlying235
  a46 := Tryz.isAgg235
  z46 := Tryz.sizeOf235
  v46 := Tryz.zeroValue235
  t51 := Tryz.underlying262
  a51 := Tryz.isAgg262
  z51 := Tryz.sizeOf262
  v51 := Tryz.zeroValue262
  t53 := Tryz.underlying264
  a53 := Tryz.isAgg264
  z53 := Tryz.sizeOf264
  v53 := Tryz.zeroValue264
  t131 := Tryz.underlying76
  a131 := Tryz.isAgg76
  z131 := Tryz.sizeOf76
  v131 := Tryz.zeroValue76
  t182 := Tryz.underlying255
  a182 := Tryz.isAgg255
  z182 := Tryz.sizeOf255
  v182 := Tryz.zeroValue255
  t183 := Tryz.underlying256
  a183 := Tryz.isAgg256
  z183 := Tryz.sizeOf256
  v183 := Tryz.zeroValue256
  t218 := Tryz.underlying274
  a218 := Tryz.isAgg274
  z218 := Tryz.sizeOf274
  v218 := Tryz.zeroValue274
  t222 := Tryz.underlying278
  a222 := Tryz.isAgg278
  z222 := Tryz.sizeOf278
  v222 := Tryz.zeroValue278
  t228 := Tryz.underlying286
  a228 := Tryz.isAgg286
  z228 := Tryz.sizeOf286
  v228 := Tryz.zeroValue286
  t229 := Tryz.underlying287
  a229 := Tryz.isAgg287
  z229 := Tryz.sizeOf287
  v229 := Tryz.zeroValue287 }
open Go.Sort Go.RowKit in
theorem Tryz.slices_Sort_int (blk off cap : Nat) (zs : List Int) (w : World) (hH : Holds (Value.int .i64) w blk off zs.toArray) (hblk : blk < w.heap.size) (hsz : zs.length < 4611686018427387904) :
    Calls Tryz.prog 172 #[.slice (some ⟨blk, off, none⟩) zs.length cap] w fun e w' =>
      e = .returned (.tuple #[]) ∧ ∃ n os, w' = grow (putRow (Value.int .i64) (Sort.ahead w n) blk off (zs.mergeSort fun x y => decide (x ≤ y)).toArray) os := Any.slices_Sort_int Tryz.lays189 blk off cap zs w hH hblk hsz
open Go.RowKit Go.Lib in
open Go.RowKit Go.Lib in
def Tryz.lays146_ren : Go.Shelf.Ren := ⟨fun | 146 => 267 | 221 => 270 | 268 => 272 | 138 => 273 | 143 => 274 | 195 => 275 | 197 => 276 | 218 => 277 | 219 => 278 | 260 => 279 | 217 => 269 | 225 => 280 | 224 => 281 | 267 => 282 | 266 => 271 | 314 => 283 | n => n, fun | 9 => 9 | 31 => 72 | 3 => 3 | 4 => 4 | 0 => 0 | 105 => 293 | 21 => 21 | 5 => 5 | 46 => 235 | 119 => 295 | 139 => 298 | 138 => 297 | 146 => 299 | 51 => 262 | n => n, fun | 1 => 0 | 3 => 1 | 4 => 2 | n => n⟩
theorem Tryz.lays146 : Go.Proofs.Lays.n146 Tryz.prog Tryz.lays146_ren := {
  mixed := by kernel_rfl
  f138 := Tryz.func273.trans (congrArg some (by kernel_rfl))
  f143 := Tryz.func274.trans (congrArg some (by kernel_rfl))
  f146 := Tryz.func267.trans (congrArg some (by kernel_rfl))
  f195 := Tryz.func275.trans (congrArg some (by kernel_rfl))
  f197 := Tryz.func276.trans (congrArg some (by kernel_rfl))
  f217 := Tryz.func269.trans (congrArg some (by kernel_rfl))
  f218 := Tryz.func277.trans (congrArg some (by kernel_rfl))
  f219 := Tryz.func278.trans (congrArg some (by kernel_rfl))
  f221 := Tryz.func270.trans (congrArg some (by kernel_rfl))
  f224 := Tryz.func281.trans (congrArg some (by kernel_rfl))
  f225 := Tryz.func280.trans (congrArg some (by kernel_rfl))
  f260 := Tryz.func279.trans (congrArg some (by kernel_rfl))
  f266 := Tryz.func271.trans (congrArg some (by kernel_rfl))
  f267 := Tryz.func282.trans (congrArg some (by kernel_rfl))
  f268 := Tryz.func272.trans (congrArg some (by kernel_rfl))
  f314 := Tryz.func283.trans (congrArg some (by kernel_rfl))
  t0 := Tryz.underlying0
  a0 := Tryz.isAgg0
  z0 := Tryz.sizeOf0
  v0 := Tryz.zeroValue0
  t3 := Tryz.underlying3
  a3 := Tryz.isAgg3
  z3 := Tryz.sizeOf3
  v3 := Tryz.zeroValue3
  t4 := Tryz.underlying4
  a4 := Tryz.isAgg4
  z4 := Tryz.sizeOf4
  v4 := Tryz.zeroValue4
  t5 := Tryz.underlying5
  a5 := Tryz.isAgg5
  z5 := Tryz.sizeOf5
  v5 := Tryz.zeroValue5
  t9 := Tryz.underlying9
  a9 := Tryz.isAgg9
  z9 := Tryz.sizeOf9
  v9 := Tryz.zeroValue9
  t21 := Tryz.underlying21
  a21 := Tryz.isAgg21
  z21 := Tryz.sizeOf21
  v21 := Tryz.zeroValue21
  t31 := Tryz.underlying72
  a31 := Tryz.isAgg72
  z31 := Tryz.sizeOf72
  v31 := Tryz.zeroValue72
  t46 := Tryz.underlying235
  a46 := Tryz.isAgg235
  z46 := Tryz.sizeOf235
  v46 := Tryz.zeroValue235
  t51 := Tryz.underlying262
  a51 := Tryz.isAgg262
  z51 := Tryz.sizeOf262
  v51 := Tryz.zeroValue262
  t105 := Tryz.underlying293
  a105 := Tryz.isAgg293
  z105 := Tryz.sizeOf293
  v105 := Tryz.zeroValue293
  t119 := Tryz.underlying295
  a119 := Tryz.isAgg295
  z119 := Tryz.sizeOf295
  t138 := Tryz.underlying297
  a138 := Tryz.isAgg297
  z138 := Tryz.sizeOf297
  v138 := Tryz.zeroValue297
  t139 := Tryz.underlying298
  a139 := Tryz.isAgg298
  z139 := Tryz.sizeOf298
  v139 := Tryz.zeroValue298
  t146 := Tryz.underlying299
  a146 := Tryz.isAgg299
  z146 := Tryz.sizeOf299
  v146 := Tryz.zeroValue299
  g1 := by kernel_rfl
  g3 := by kernel_rfl
  g4 := by kernel_rfl }
open Go.RowKit Go.Lib in
theorem Tryz.strings_Split (s sep : ByteArray) (m : Int) (w : World) (hs : s.size < 4294967281) (hm : w.cell? ⟨0, 0, none⟩ = some (.int .i64 m)) (h1 : 1 ≤ sep.size) :
    Calls Tryz.prog 267 #[.string s, .string sep] w fun e w' =>
      e = .returned (.slice (some ⟨w.heap.size, 0, none⟩) (Lib.countB s sep + 1) (Lib.countB s sep + 1)) ∧ w' = w.alloc (.cells ((Lib.splitB sep 0 (Lib.countB s sep) s).map Value.string).toArray 9) := Any.strings_Split Tryz.lays146 (by kernel_rfl) s sep m w hs hm h1
def Tryz.laysM146_ren : Go.Shelf.Ren := ⟨fun | 146 => 267 | 221 => 270 | 268 => 272 | 138 => 273 | 143 => 274 | 195 => 275 | 197 => 276 | 218 => 277 | 219 => 278 | 260 => 279 | 217 => 269 | 225 => 280 | 224 => 281 | 267 => 282 | 266 => 271 | 314 => 283 | n => n, fun | 9 => 9 | 31 => 72 | 3 => 3 | 4 => 4 | 0 => 0 | 105 => 293 | 21 => 21 | 5 => 5 | 46 => 235 | 119 => 295 | 139 => 298 | 138 => 297 | 146 => 299 | 51 => 262 | n => n, fun | 1 => 0 | 3 => 1 | 4 => 2 | n => n⟩
theorem Tryz.laysM146 : Go.Proofs.LaysM.n146 Tryz.prog Tryz.laysM146_ren := {
  mixed := by kernel_rfl
  f138 := Tryz.func273.trans (congrArg some (by kernel_rfl))
  f143 := Tryz.func274.trans (congrArg some (by kernel_rfl))
  f146 := Tryz.func267.trans (congrArg some (by kernel_rfl))
  f195 := Tryz.func275.trans (congrArg some (by kernel_rfl))
  f197 := Tryz.func276.trans (congrArg some (by kernel_rfl))
  f217 := Tryz.func269.trans (congrArg some (by kernel_rfl))
  f218 := Tryz.func277.trans (congrArg some (by kernel_rfl))
  f219 := Tryz.func278.trans (congrArg some (by kernel_rfl))
  f221 := Tryz.func270.trans (congrArg some (by kernel_rfl))
  f224 := Tryz.func281.trans (congrArg some (by kernel_rfl))
  f225 := Tryz.func280.trans (congrArg some (by kernel_rfl))
  f260 := Tryz.func279.trans (congrArg some (by kernel_rfl))
  f266 := Tryz.func271.trans (congrArg some (by kernel_rfl))
  f267 := Tryz.func282.trans (congrArg some (by kernel_rfl))
  f268 := Tryz.func272.trans (congrArg some (by kernel_rfl))
  f314 := Tryz.func283.trans (congrArg some (by kernel_rfl))
  t0 := Tryz.underlying0
  a0 := Tryz.isAgg0
  z0 := Tryz.sizeOf0
  v0 := Tryz.zeroValue0
  t3 := Tryz.underlying3
  a3 := Tryz.isAgg3
  z3 := Tryz.sizeOf3
  v3 := Tryz.zeroValue3
  t4 := Tryz.underlying4
  a4 := Tryz.isAgg4
  z4 := Tryz.sizeOf4
  v4 := Tryz.zeroValue4
  t5 := Tryz.underlying5
  a5 := Tryz.isAgg5
  z5 := Tryz.sizeOf5
  v5 := Tryz.zeroValue5
  t9 := Tryz.underlying9
  a9 := Tryz.isAgg9
  z9 := Tryz.sizeOf9
  v9 := Tryz.zeroValue9
  t21 := Tryz.underlying21
  a21 := Tryz.isAgg21
  z21 := Tryz.sizeOf21
  v21 := Tryz.zeroValue21
  t31 := Tryz.underlying72
  a31 := Tryz.isAgg72
  z31 := Tryz.sizeOf72
  v31 := Tryz.zeroValue72
  t46 := Tryz.underlying235
  a46 := Tryz.isAgg235
  z46 := Tryz.sizeOf235
  v46 := Tryz.zeroValue235
  t51 := Tryz.underlying262
  a51 := Tryz.isAgg262
  z51 := Tryz.sizeOf262
  v51 := Tryz.zeroValue262
  t105 := Tryz.underlying293
  a105 := Tryz.isAgg293
  z105 := Tryz.sizeOf293
  v105 := Tryz.zeroValue293
  t119 := Tryz.underlying295
  a119 := Tryz.isAgg295
  z119 := Tryz.sizeOf295
  t138 := Tryz.underlying297
  a138 := Tryz.isAgg297
  z138 := Tryz.sizeOf297
  v138 := Tryz.zeroValue297
  t139 := Tryz.underlying298
  a139 := Tryz.isAgg298
  z139 := Tryz.sizeOf298
  v139 := Tryz.zeroValue298
  t146 := Tryz.underlying299
  a146 := Tryz.isAgg299
  z146 := Tryz.sizeOf299
  v146 := Tryz.zeroValue299
  g1 := by kernel_rfl
  g3 := by kernel_rfl
  g4 := by kernel_rfl
  i0 := by kernel_rfl
  i3 := by kernel_rfl
  i4 := by kernel_rfl
  i5 := by kernel_rfl
  i9 := by kernel_rfl
  i21 := by kernel_rfl
  i31 := by kernel_rfl
  i46 := by kernel_rfl
  i51 := by kernel_rfl
  i105 := by kernel_rfl
  i138 := by kernel_rfl
  i139 := by kernel_rfl
  i146 := by kernel_rfl
  m1 := by kernel_rfl
  s1_3 := fun w h => Go.Proofs.cell_of_shapedOpen_int (zero := #[.int .i64 0]) (t := 3) h (of_decide_eq_true (by kernel_rfl)) (by kernel_rfl) rfl (by kernel_rfl) (by kernel_rfl) Tryz.underlying3
  m3 := by kernel_rfl
  m4 := by kernel_rfl }
open Go.RowKit Go.Lib in
open Go.RowKit Go.Lib in
open Go.RowKit Go.Lib in
open Go.RowKit Go.Lib in
open Go.RowKit Go.Lib in
open Go.RowKit Go.Lib in
open Go.RowKit Go.Lib in
open Go.RowKit Go.Lib in
def Tryz.lays108_ren : Go.Shelf.Ren := ⟨fun | 108 => 67 | n => n, fun | 28 => 24 | 3 => 3 | 0 => 0 | 4 => 4 | n => n, fun | n => n⟩
theorem Tryz.lays108 : Go.Proofs.Lays.n108 Tryz.prog Tryz.lays108_ren := {
  mixed := by kernel_rfl
  f108 := Tryz.func67.trans (congrArg some (by kernel_rfl))
  t0 := Tryz.underlying0
  a0 := Tryz.isAgg0
  z0 := Tryz.sizeOf0
  v0 := Tryz.zeroValue0
  t3 := Tryz.underlying3
  a3 := Tryz.isAgg3
  z3 := Tryz.sizeOf3
  v3 := Tryz.zeroValue3
  t4 := Tryz.underlying4
  a4 := Tryz.isAgg4
  z4 := Tryz.sizeOf4
  v4 := Tryz.zeroValue4
  t28 := Tryz.underlying24
  a28 := Tryz.isAgg24
  z28 := Tryz.sizeOf24
  v28 := Tryz.zeroValue24 }
open Go.Lib in
theorem Tryz.slices_Index_int (b off n c : Nat) (zs : List Int) (x : Int) (w : World) (hz : n ≤ zs.length) (hbig : n ≤ 9223372036854775807) (hc : ∀ j, j < zs.length → w.cell? ⟨b, off + j, none⟩ = some (.int .i64 (zs.getD j 0))) :
    Calls Tryz.prog 67 #[.slice (some ⟨b, off, none⟩) n c, .int .i64 x] w fun e w' => e = .returned (.int .i64 (Lib.idxOf (zs.take n) x)) ∧ w' = w := Any.slices_Index_int Tryz.lays108 b off n c zs x w hz hbig hc
open Go.Lib in
theorem Tryz.slices_Index_int_empty (a : Option Addr) (c : Nat) (x : Int) (w : World) :
    Calls Tryz.prog 67 #[.slice a 0 c, .int .i64 x] w fun e w' => e = .returned (.int .i64 (Lib.idxOf [] x)) ∧ w' = w := Any.slices_Index_int_empty Tryz.lays108 a c x w
def Tryz.lays107_ren : Go.Shelf.Ren := ⟨fun | 107 => 183 | 108 => 67 | n => n, fun | 28 => 24 | 3 => 3 | 4 => 4 | 0 => 0 | n => n, fun | n => n⟩
theorem Tryz.lays107 : Go.Proofs.Lays.n107 Tryz.prog Tryz.lays107_ren := {
  mixed := by kernel_rfl
  f107 := Tryz.func183.trans (congrArg some (by kernel_rfl))
  f108 := Tryz.func67.trans (congrArg some (by kernel_rfl))
  t0 := Tryz.underlying0
  a0 := Tryz.isAgg0
  z0 := Tryz.sizeOf0
  v0 := Tryz.zeroValue0
  t3 := Tryz.underlying3
  a3 := Tryz.isAgg3
  z3 := Tryz.sizeOf3
  v3 := Tryz.zeroValue3
  t4 := Tryz.underlying4
  a4 := Tryz.isAgg4
  z4 := Tryz.sizeOf4
  v4 := Tryz.zeroValue4
  t28 := Tryz.underlying24
  a28 := Tryz.isAgg24
  z28 := Tryz.sizeOf24
  v28 := Tryz.zeroValue24 }
open Go.Lib in
theorem Tryz.slices_Contains_int (b off n c : Nat) (zs : List Int) (x : Int) (w : World) (hz : n ≤ zs.length) (hbig : n ≤ 9223372036854775807) (hc : ∀ j, j < zs.length → w.cell? ⟨b, off + j, none⟩ = some (.int .i64 (zs.getD j 0))) :
    Calls Tryz.prog 183 #[.slice (some ⟨b, off, none⟩) n c, .int .i64 x] w fun e w' => e = .returned (.bool ((zs.take n).contains x)) ∧ w' = w := Any.slices_Contains_int Tryz.lays107 b off n c zs x w hz hbig hc
open Go.Lib in
theorem Tryz.slices_Contains_int_empty (a : Option Addr) (c : Nat) (x : Int) (w : World) :
    Calls Tryz.prog 183 #[.slice a 0 c, .int .i64 x] w fun e w' => e = .returned (.bool false) ∧ w' = w := Any.slices_Contains_int_empty Tryz.lays107 a c x w
def Tryz.lays109_ren : Go.Shelf.Ren := ⟨fun | 109 => 251 | n => n, fun | 31 => 72 | 9 => 9 | 3 => 3 | 0 => 0 | 4 => 4 | n => n, fun | n => n⟩
theorem Tryz.lays109 : Go.Proofs.Lays.n109 Tryz.prog Tryz.lays109_ren := {
  mixed := by kernel_rfl
  f109 := Tryz.func251.trans (congrArg some (by kernel_rfl))
  t0 := Tryz.underlying0
  a0 := Tryz.isAgg0
  z0 := Tryz.sizeOf0
  v0 := Tryz.zeroValue0
  t3 := Tryz.underlying3
  a3 := Tryz.isAgg3
  z3 := Tryz.sizeOf3
  v3 := Tryz.zeroValue3
  t4 := Tryz.underlying4
  a4 := Tryz.isAgg4
  z4 := Tryz.sizeOf4
  v4 := Tryz.zeroValue4
  t9 := Tryz.underlying9
  a9 := Tryz.isAgg9
  z9 := Tryz.sizeOf9
  v9 := Tryz.zeroValue9
  t31 := Tryz.underlying72
  a31 := Tryz.isAgg72
  z31 := Tryz.sizeOf72
  v31 := Tryz.zeroValue72 }
open Go.Lib in
theorem Tryz.slices_Index_string (b off n c : Nat) (zs : List ByteArray) (x : ByteArray) (w : World) (hz : n ≤ zs.length) (hbig : n ≤ 9223372036854775807) (hc : ∀ j, j < zs.length → w.cell? ⟨b, off + j, none⟩ = some (.string (zs.getD j ByteArray.empty))) :
    Calls Tryz.prog 251 #[.slice (some ⟨b, off, none⟩) n c, .string x] w fun e w' => e = .returned (.int .i64 (Lib.idxOfS (zs.take n) x)) ∧ w' = w := Any.slices_Index_string Tryz.lays109 b off n c zs x w hz hbig hc
open Go.Lib in
def Tryz.lays110_ren : Go.Shelf.Ren := ⟨fun | 110 => 222 | 109 => 251 | n => n, fun | 31 => 72 | 9 => 9 | 4 => 4 | 3 => 3 | 0 => 0 | n => n, fun | n => n⟩
theorem Tryz.lays110 : Go.Proofs.Lays.n110 Tryz.prog Tryz.lays110_ren := {
  mixed := by kernel_rfl
  f109 := Tryz.func251.trans (congrArg some (by kernel_rfl))
  f110 := Tryz.func222.trans (congrArg some (by kernel_rfl))
  t0 := Tryz.underlying0
  a0 := Tryz.isAgg0
  z0 := Tryz.sizeOf0
  v0 := Tryz.zeroValue0
  t3 := Tryz.underlying3
  a3 := Tryz.isAgg3
  z3 := Tryz.sizeOf3
  v3 := Tryz.zeroValue3
  t4 := Tryz.underlying4
  a4 := Tryz.isAgg4
  z4 := Tryz.sizeOf4
  v4 := Tryz.zeroValue4
  t9 := Tryz.underlying9
  a9 := Tryz.isAgg9
  z9 := Tryz.sizeOf9
  v9 := Tryz.zeroValue9
  t31 := Tryz.underlying72
  a31 := Tryz.isAgg72
  z31 := Tryz.sizeOf72
  v31 := Tryz.zeroValue72 }
open Go.Lib in
theorem Tryz.slices_Contains_string (b off n c : Nat) (zs : List ByteArray) (x : ByteArray) (w : World) (hz : n ≤ zs.length) (hbig : n ≤ 9223372036854775807) (hc : ∀ j, j < zs.length → w.cell? ⟨b, off + j, none⟩ = some (.string (zs.getD j ByteArray.empty))) :
    Calls Tryz.prog 222 #[.slice (some ⟨b, off, none⟩) n c, .string x] w fun e w' => e = .returned (.bool (Lib.containsS (zs.take n) x)) ∧ w' = w := Any.slices_Contains_string Tryz.lays110 b off n c zs x w hz hbig hc
open Go.Lib in
theorem Tryz.slices_Contains_string_empty (a : Option Addr) (c : Nat) (x : ByteArray) (w : World) :
    Calls Tryz.prog 222 #[.slice a 0 c, .string x] w fun e w' => e = .returned (.bool false) ∧ w' = w := Any.slices_Contains_string_empty Tryz.lays110 a c x w
def Tryz.laysNm220_ren : Go.Shelf.Ren := ⟨fun | 20 => 126 | n => n, fun | 22 => 24 | 3 => 3 | 4 => 4 | 0 => 0 | n => n, fun | n => n⟩
theorem Tryz.laysNm220 : Go.Proofs.Lays2.n20 Tryz.prog Tryz.laysNm220_ren := {
  mixed := by kernel_rfl
  f20 := Tryz.func126.trans (congrArg some (by kernel_rfl))
  t0 := Tryz.underlying0
  a0 := Tryz.isAgg0
  z0 := Tryz.sizeOf0
  v0 := Tryz.zeroValue0
  t3 := Tryz.underlying3
  a3 := Tryz.isAgg3
  z3 := Tryz.sizeOf3
  v3 := Tryz.zeroValue3
  t4 := Tryz.underlying4
  a4 := Tryz.isAgg4
  z4 := Tryz.sizeOf4
  v4 := Tryz.zeroValue4
  t22 := Tryz.underlying24
  a22 := Tryz.isAgg24
  z22 := Tryz.sizeOf24
  v22 := Tryz.zeroValue24
  i3 := by kernel_rfl }
open Go.RowKit Go.Lib Go.Sort in
open Go.RowKit Go.Lib Go.Sort in
theorem Tryz.slices_Compact_int (blk off cap : Nat) (zs : List Int) (w : World) (hH : Holds (Value.int .i64) w blk off zs.toArray) (hsz : zs.length ≤ 9223372036854775807) (hcap : zs.length ≤ cap) :
    Calls Tryz.prog 126 #[.slice (some ⟨blk, off, none⟩) zs.length cap] w fun e w' => e = .returned (.slice (some ⟨blk, off, none⟩) (Lib.compact zs).length cap) ∧ ∃ q, w' = putRow (Value.int .i64) (Sort.ahead w q) blk off (Lib.compact zs ++ List.replicate (zs.length - (Lib.compact zs).length) 0).toArray := Any.slices_Compact_int Tryz.laysNm220 blk off cap zs w hH hsz hcap
open Go.RowKit Go.Lib Go.Sort in
theorem Tryz.slices_Compact_int_empty (a : Option Addr) (cap : Nat) (w : World) :
    Calls Tryz.prog 126 #[.slice a 0 cap] w fun e w' => e = .returned (.slice a 0 cap) ∧ w' = w := Any.slices_Compact_int_empty Tryz.laysNm220 a cap w
open Go.RowKit Go.Lib in
open Go.RowKit Go.Lib in
open Go.RowKit Go.Lib Go.Sort in
open Go.RowKit Go.Sort in
theorem Tryz.slices_Sort_int_none (p : Option Addr) (cap : Nat) (w : World) :
    Calls Tryz.prog 172 #[.slice p 0 cap] w fun e w' => e = .returned (.tuple #[]) ∧ w' = w := Any.slices_Sort_int_none Tryz.lays189 p cap w
open Go.Lib in
open Go.Lib in
open Go.Lib in
open Go.Lib in
open Go.Lib in
open Go.Lib in
open Go.Lib in
open Go.Lib in
open Go.RowKit Go.Lib Go.Sort in
open Go.RowKit Go.Lib in
open Go.RowKit Go.Lib in
open Go.RowKit Go.Lib in
open Go.RowKit Go.Lib in
def Tryz.laysSlH8_f122_ren : Go.Shelf.Ren := ⟨fun | 8 => 122 | 6 => 170 | n => n, fun | 22 => 24 | 23 => 3 | 25 => 175 | 4 => 4 | 3 => 3 | 0 => 0 | n => n, fun | n => n⟩
theorem Tryz.laysSlH8_f122 : Go.Proofs.SlLaysH.n8 Tryz.prog Tryz.laysSlH8_f122_ren := {
  mixed := by kernel_rfl
  f6 := ⟨Tryz.f170.name, by decide, Tryz.func170.trans (congrArg some (by kernel_rfl))⟩
  f8 := ⟨Tryz.f122.name, by decide, Tryz.func122.trans (congrArg some (by kernel_rfl))⟩
  t0 := Tryz.underlying0
  a0 := Tryz.isAgg0
  z0 := Tryz.sizeOf0
  v0 := Tryz.zeroValue0
  t3 := Tryz.underlying3
  a3 := Tryz.isAgg3
  z3 := Tryz.sizeOf3
  v3 := Tryz.zeroValue3
  t4 := Tryz.underlying4
  a4 := Tryz.isAgg4
  z4 := Tryz.sizeOf4
  v4 := Tryz.zeroValue4
  t22 := Tryz.underlying24
  a22 := Tryz.isAgg24
  z22 := Tryz.sizeOf24
  v22 := Tryz.zeroValue24
  a23 := Tryz.isAgg3
  z23 := Tryz.sizeOf3
  t25 := Tryz.underlying175
  a25 := Tryz.isAgg175
  z25 := Tryz.sizeOf175
  v25 := Tryz.zeroValue175 }
open Go.RowKit Go.Lib in
theorem Tryz.slices_ContainsFunc_f122 {α : Type} [Inhabited α] (enc : α → Value) (p : α → Bool) (g : Nat) (lb : Array Value) (eg : ∀ args w, (callFunc g args).run Tryz.prog w = .ok (.enter g args) w) (b off n c : Nat) (zs : List α) (w : World) (hp : PredAt Tryz.prog g lb enc p w) (hz : n ≤ zs.length) (hbig : n ≤ 9223372036854775807) (hc : ∀ j, j < zs.length → w.cell? ⟨b, off + j, none⟩ = some (enc zs[j]!)) :
    Calls Tryz.prog 122 #[.slice (some ⟨b, off, none⟩) n c, .func (.func g) #[] lb] w fun e w' => e = .returned (.bool ((zs.take n).any p)) ∧ ∃ q, w' = w.drewN q := AnyE.slices_ContainsFunc Tryz.laysSlH8_f122 enc p g lb eg b off n c zs w hp hz hbig hc
open Go.RowKit Go.Lib in
open Go.RowKit Go.Lib in
theorem Tryz.slices_ContainsFunc_empty_f122 {α : Type} [Inhabited α] (a : Option Addr) (c : Nat) (fv : Value) (w : World) :
    Calls Tryz.prog 122 #[.slice a 0 c, fv] w fun e w' => e = .returned (.bool false) ∧ w' = w := AnyE.slices_ContainsFunc_empty Tryz.laysSlH8_f122 a c fv w
open Go.RowKit Go.Lib in
def Tryz.sortAtoms_ren : Go.Shelf.Ren := ⟨fun | 6 => 145 | 15 => 198 | 14 => 197 | 28 => 232 | 29 => 233 | 20 => 224 | 21 => 225 | 22 => 226 | 23 => 227 | 24 => 228 | 25 => 229 | 26 => 230 | 27 => 231 | 46 => 252 | 47 => 253 | 48 => 254 | 49 => 255 | 50 => 256 | 57 => 266 | n => n, fun | 22 => 25 | 24 => 59 | 25 => 181 | 3 => 3 | 39 => 235 | 0 => 0 | 53 => 262 | 55 => 264 | 4 => 4 | 46 => 256 | 45 => 255 | 50 => 76 | 5 => 5 | 9 => 9 | 66 => 274 | 70 => 278 | 76 => 286 | 77 => 287 | n => n, fun | n => n⟩
theorem Tryz.sortAtoms : Go.Proofs.SlLaysF0.n6 Tryz.prog Tryz.sortAtoms_ren := {
  mixed := by kernel_rfl
  f6 := ⟨Tryz.f145.name, by decide, Tryz.func145.trans (congrArg some (by kernel_rfl))⟩
  f14 := ⟨Tryz.f197.name, by decide, Tryz.func197.trans (congrArg some (by kernel_rfl))⟩
  f15 := Tryz.func198.trans (congrArg some (by kernel_rfl))
  f20 := ⟨Tryz.f224.name, by decide, Tryz.func224.trans (congrArg some (by kernel_rfl))⟩
  f21 := ⟨Tryz.f225.name, by decide, Tryz.func225.trans (congrArg some (by kernel_rfl))⟩
  f22 := ⟨Tryz.f226.name, by decide, Tryz.func226.trans (congrArg some (by kernel_rfl))⟩
  f23 := ⟨Tryz.f227.name, by decide, Tryz.func227.trans (congrArg some (by kernel_rfl))⟩
  f24 := ⟨Tryz.f228.name, by decide, Tryz.func228.trans (congrArg some (by kernel_rfl))⟩
  f25 := ⟨Tryz.f229.name, by decide, Tryz.func229.trans (congrArg some (by kernel_rfl))⟩
  f26 := ⟨Tryz.f230.name, by decide, Tryz.func230.trans (congrArg some (by kernel_rfl))⟩
  f27 := ⟨Tryz.f231.name, by decide, Tryz.func231.trans (congrArg some (by kernel_rfl))⟩
  f28 := Tryz.func232.trans (congrArg some (by kernel_rfl))
  f29 := Tryz.func233.trans (congrArg some (by kernel_rfl))
  f46 := ⟨Tryz.f252.name, by decide, Tryz.func252.trans (congrArg some (by kernel_rfl))⟩
  f47 := Tryz.func253.trans (congrArg some (by kernel_rfl))
  f48 := Tryz.func254.trans (congrArg some (by kernel_rfl))
  f49 := ⟨Tryz.f255.name, by decide, Tryz.func255.trans (congrArg some (by kernel_rfl))⟩
  f50 := ⟨Tryz.f256.name, by decide, Tryz.func256.trans (congrArg some (by kernel_rfl))⟩
  f57 := ⟨Tryz.f266.name, by decide, Tryz.func266.trans (congrArg some (by kernel_rfl))⟩
  t0 := Tryz.underlying0
  a0 := Tryz.isAgg0
  z0 := Tryz.sizeOf0
  v0 := Tryz.zeroValue0
  t3 := Tryz.underlying3
  a3 := Tryz.isAgg3
  z3 := Tryz.sizeOf3
  v3 := Tryz.zeroValue3
  t4 := Tryz.underlying4
  a4 := Tryz.isAgg4
  z4 := Tryz.sizeOf4
  v4 := Tryz.zeroValue4
  t5 := Tryz.underlying5
  a5 := Tryz.isAgg5
  z5 := Tryz.sizeOf5
  v5 := Tryz.zeroValue5
  t9 := Tryz.underlying9
  a9 := Tryz.isAgg9
  z9 := Tryz.sizeOf9
  v9 := Tryz.zeroValue9
  t22 := Tryz.underlying25
  a22 := Tryz.isAgg25
  z22 := Tryz.sizeOf25
  v22 := Tryz.zeroValue25
  t25 := Tryz.underlying181
  a25 := Tryz.isAgg181
  z25 := Tryz.sizeOf181
  v25 := Tryz.zeroValue181
  t39 := Tryz.underlying235
  a39 := Tryz.isAgg235
  z39 := Tryz.sizeOf235
  v39 := Tryz.zeroValue235
  t45 := Tryz.underlying255
  a45 := Tryz.isAgg255
  z45 := Tryz.sizeOf255
  v45 := Tryz.zeroValue255
  t46 := Tryz.underlying256
  a46 := Tryz.isAgg256
  z46 := Tryz.sizeOf256
  v46 := Tryz.zeroValue256
  t50 := Tryz.underlying76
  a50 := Tryz.isAgg76
  z50 := Tryz.sizeOf76
  v50 := Tryz.zeroValue76
  t53 := Tryz.underlying262
  a53 := Tryz.isAgg262
  z53 := Tryz.sizeOf262
  v53 := Tryz.zeroValue262
  t55 := Tryz.underlying264
  a55 := Tryz.isAgg264
  z55 := Tryz.sizeOf264
  v55 := Tryz.zeroValue264
  t66 := Tryz.underlying274
  a66 := Tryz.isAgg274
  z66 := Tryz.sizeOf274
  v66 := Tryz.zeroValue274
  t70 := Tryz.underlying278
  a70 := Tryz.isAgg278
  z70 := Tryz.sizeOf278
  v70 := Tryz.zeroValue278
  t76 := Tryz.underlying286
  a76 := Tryz.isAgg286
  z76 := Tryz.sizeOf286
  v76 := Tryz.zeroValue286
  t77 := Tryz.underlying287
  a77 := Tryz.isAgg287
  z77 := Tryz.sizeOf287
  v77 := Tryz.zeroValue287 }
end Go.Proofs
end
section
namespace Go.Proofs.YtkdjnegfnhldpaaGreatDoor
open Go.RowKit Go.Sort Go.Lib
theorem holds_vals {w : World} {g : Nat} {cur : Array Value} {e : TypeId} {ss : List Value} (hb : w.heap[g]? = some (.cells cur e (0, 0))) (ht : cur.toList.take ss.length = ss) : Holds id w g 0 ss.toArray := by
  intro j hj
  have hj' : j < ss.length := by simpa using hj
  refine ⟨?_, by simp [World.frozen?, hb]⟩
  have h1 : (cur.toList.take ss.length)[j]? = ss[j]? := by rw [ht]
  rw [List.getElem?_take_of_lt hj'] at h1
  simp only [World.cell?, hb, Nat.zero_add]
  simp only [Option.isSome_none, Bool.false_eq_true, if_false]
  rw [← Array.getElem?_toList, h1]
  simp [hj']
theorem take_putVals (cur : Array Value) (ts : List Value) (h : ts.length ≤ cur.size) : (putCells id 0 ts.toArray cur).toList.take ts.length = ts := by
  apply List.ext_getElem?
  intro j
  by_cases hj : j < ts.length
  · rw [List.getElem?_take_of_lt hj, Array.getElem?_toList]
    simp [putCells, hj, show j < cur.size by omega]
  · rw [List.getElem?_take_eq_none (by omega), List.getElem?_eq_none (by omega)]
theorem heap_putVals {w : World} {g n : Nat} {os : Array Obj} {cur : Array Value} {e : TypeId} {fr : Nat × Nat} (d : Array Value) (hb : w.heap[g]? = some (.cells cur e fr)) :
    (grow (putRow id (Sort.ahead w n) g 0 d) os).heap[g]? = some (.cells (putCells id 0 d cur) e fr) := by
  have hg : g < w.heap.size := (Array.getElem?_eq_some_iff.1 hb).1
  rw [heap_grow_old _ _ (by simpa using hg)]
  simp [putRow, mapBlock, Sort.ahead, Array.getElem?_modify, hb, onCells]
theorem grownBy_putVals {w : World} {g n : Nat} {os : Array Obj} (d : Array Value) : w.grownBy (grow (putRow id (Sort.ahead w n) g 0 d) os) (some g) := by
  refine ⟨rfl, rfl, rfl, by simp, fun k hk hne => ?_⟩
  rw [heap_grow_old _ _ (by simpa using hk)]
  have : g ≠ k := fun e => hne (by rw [e])
  simp [putRow, mapBlock, Sort.ahead, Array.getElem?_modify, this]
section
variable {α : Type} [Inhabited α]
theorem flatK_list {enc : α → List Value} {k : Nat} (hk : ∀ x, (enc x).length = k) (hk0 : 0 < k) (d : Array α) : flatK enc k d = (d.toList.flatMap enc).toArray := by
  apply Array.ext
  · simp only [size_flatK, List.size_toArray, flat_length hk, Array.length_toList]
  · intro t h1 h2
    have ht : t < d.size * k := by simpa using h1
    have hq : t / k < d.size := Nat.div_lt_of_lt_mul (by rwa [Nat.mul_comm])
    have hr : t % k < k := Nat.mod_lt _ hk0
    have hx : d.toList[t / k]? = some d[t / k]! := by
      rw [List.getElem?_eq_getElem (by simpa using hq)]; simp [hq]
    have hf := flat_get hk d.toList (t / k) _ (t % k) hx hr
    rw [show t / k * k + t % k = t from Nat.div_add_mod' t k] at hf
    rw [← getElem!_pos (flatK enc k d) t h1, get_flatK enc k d t ht]
    have e2 : (enc d[t / k]!)[t % k]! = (enc d[t / k]!)[t % k]'(by rw [hk]; exact hr) := getElem!_pos _ _ (by rw [hk]; exact hr)
    rw [e2]
    have e3 : (enc d[t / k]!)[t % k]? = some ((enc d[t / k]!)[t % k]'(by rw [hk]; exact hr)) := List.getElem?_eq_getElem (by rw [hk]; exact hr)
    rw [e3] at hf
    have := (List.getElem?_eq_some_iff.1 hf).2
    simpa using this.symm
theorem OwnE.holdsK {enc : α → List Value} {k : Nat} (hk : ∀ x, (enc x).length = k) (hk0 : 0 < k) {w : World} {base e n : Nat} {g cap : Nat} {l : List α} (h : OwnE enc k w base e (.slice (some ⟨g, 0, none⟩) n cap) n l) :
    HoldsK enc k w g 0 l.toArray ∧ g < w.heap.size := by
  rcases h.2 with ⟨h0, _⟩ | ⟨g', cap', cur, hv, hb, hg, hn, hm, hs, ht⟩
  · cases h0
  · cases hv
    refine ⟨?_, (Array.getElem?_eq_some_iff.1 hg).1⟩
    unfold HoldsK
    rw [flatK_list hk hk0]
    refine holds_vals hg ?_
    rw [h.1]; exact ht
theorem OwnE.sorted {enc : α → List Value} {k : Nat} (hk : ∀ x, (enc x).length = k) (hk0 : 0 < k) {w : World} {base e n : Nat} {g cap : Nat} {l l' : List α} (h : OwnE enc k w base e (.slice (some ⟨g, 0, none⟩) n cap) n l) (hl : l'.length = l.length) (m : Nat) (os : Array Obj) :
    OwnE enc k (sortWorldK enc k w g 0 m l'.toArray os) base e (.slice (some ⟨g, 0, none⟩) n cap) n l' ∧ w.grownBy (sortWorldK enc k w g 0 m l'.toArray os) (some g) := by
  rcases h.2 with ⟨h0, _⟩ | ⟨g', cap', cur, hv, hb, hg, hn, hm, hs, ht⟩
  · cases h0
  · cases hv
    have hlen : (l'.flatMap enc).length = n * k := by rw [flat_length hk, hl, ← flat_length hk, h.1]
    unfold sortWorldK putRowK
    rw [flatK_list hk hk0]
    refine ⟨⟨hlen, .inr ⟨g, cap, _, rfl, hb, heap_putVals _ hg, hn, hm, by simp [putCells, hs], ?_⟩⟩, grownBy_putVals _⟩
    rw [← hlen]
    refine take_putVals cur _ ?_
    rw [hlen, hs]
    exact Nat.mul_le_mul_right k hn
end
theorem cmpA_lt (a b : Atom) : decide (cmpA a b < 0) = Atom.lt a b := by
  unfold cmpA cmpZ cmpS Atom.lt
  rcases (by omega : a.kind < b.kind ∨ b.kind < a.kind ∨ a.kind = b.kind) with h | h | h
  · have : ¬ a.kind = b.kind := by omega
    simp [h, this]
  · have h1 : ¬ a.kind < b.kind := by omega
    have h2 : ¬ a.kind = b.kind := by omega
    simp [h, h1, h2]
  · have h1 : ¬ a.kind < b.kind := by omega
    have h2 : ¬ b.kind < a.kind := by omega
    rcases (by omega : a.rho < b.rho ∨ b.rho < a.rho ∨ a.rho = b.rho) with g | g | g
    · have : ¬ a.rho = b.rho := by omega
      simp [h, g, this]
    · have g1 : ¬ a.rho < b.rho := by omega
      have g2 : ¬ a.rho = b.rho := by omega
      simp [h, g, g1, g2]
    · cases hb : Op.bytesLess a.exn.toList b.exn.toList
      · cases hb' : Op.bytesLess b.exn.toList a.exn.toList <;> simp [h, g, hb, hb']
      · simp [h, g, hb]
theorem ltOf_cmpA : ltOf cmpA = Atom.lt := by funext a b; exact cmpA_lt a b
theorem swoA : SWO (ltOf cmpA) := by
  rw [ltOf_cmpA]
  refine ⟨Atom.lt_irrefl, fun _ _ _ => Atom.lt_trans, fun x y z h h' => ?_⟩
  cases hxz : Atom.lt x z with
  | false => rfl
  | true =>
    cases hyx : Atom.lt y x with
    | true => rw [Atom.lt_trans hyx hxz] at h'; cases h'
    | false =>
      have := Atom.lt_tri h hyx
      subst this
      rw [hxz] at h'; cases h'
theorem cmpLaysA (blk off size : Nat) (w : World) : CmpLays Tryz.prog 128 #[] encA 3 cmpA blk off size w :=
  fun _ _ _ _ x y => compare_any x y _
def msort (l : List Atom) : List Atom := l.mergeSort (fun x y => !Atom.lt y x)
theorem sortFunc_any (g cap n : Nat) (l : List Atom) (base : Nat) (w : World) (h : OwnE encA 3 w base 59 (.slice (some ⟨g, 0, none⟩) n cap) n l) (hn : n < 4611686018427387904) :
    Calls Tryz.prog 145 #[.slice (some ⟨g, 0, none⟩) n cap, .func (.func 128) #[] #[]] w fun e w' =>
      e = .returned (.tuple #[]) ∧ OwnE encA 3 w' base 59 (.slice (some ⟨g, 0, none⟩) n cap) n (msort l) ∧ w.grownBy w' (some g) := by
  obtain ⟨hH, hblk⟩ := h.holdsK encA_len (by omega)
  have hl : l.length = n := h.len encA_len (by omega)
  have eg : ∀ args w, (callFunc 128 args).run Tryz.prog w = .ok (.enter 128 args) w := enters_of Tryz.func128 (by kernel_rfl) rfl
  have hc := AnyQ.slices_SortFunc_total Tryz.sortAtoms 3 Tryz.isAgg59 Tryz.sizeOf59 encA encA_len encA_one cmpA swoA 128 #[] g 0 cap l.toArray w eg (cmpLaysA g 0 _ w) hH hblk (by simp; omega)
    (by rw [ltOf_cmpA]; exact fun _ _ => Atom.lt_tri)
  have es : l.toArray.size = n := by simpa using hl
  rw [es] at hc
  refine hc.mono ?_
  rintro e w' ⟨he, m, os, rfl⟩
  have hs := h.sorted encA_len (by omega) (l' := msort l) (by simp [msort]) m os
  refine ⟨he, ?_, ?_⟩
  · have := hs.1
    rw [show msort l = l.mergeSort (fun x y => !ltOf cmpA y x) from by rw [ltOf_cmpA]; rfl] at this ⊢
    exact this
  · have := hs.2
    rw [show msort l = l.mergeSort (fun x y => !ltOf cmpA y x) from by rw [ltOf_cmpA]; rfl] at this
    exact this
end Go.Proofs.YtkdjnegfnhldpaaGreatDoor
end
