/- Part 04. -/
import Derived.Ground.SlsfProg
import Derived.Shelf.SlSortCmp.NoneTotal
import Derived.Shelf.SlGeneric
import Derived.Shelf.Small.Bits
import Derived.Shelf.Small.Strs
import Derived.Shelf.Small.Wraps
import Derived.Shelf.Utf8.RuneCount
import Derived.Shelf.Strconv.Itoa0
import Derived.Shelf.Strings.Search1
import Derived.Shelf.Strings.Search2
import Derived.Shelf.Strings.Search3
import Derived.Shelf.Strings.Count
import Derived.Shelf.LaysM
import Derived.Shelf.Strings.Shaped
import Derived.Shelf.Sort.Plain
import Derived.Shelf.Strings.Split
import Derived.Shelf.Strings.SplitShaped
import Derived.Shelf.Unicode.Decode
import Derived.Shelf.Strings.RuneCount
import Derived.Shelf.Strings.Explode
import Derived.Shelf.Unicode.DecodeSlow
import Derived.Shelf.Unicode.DecodeAny
import Derived.Shelf.Slices.Turned
import Derived.Ground.Names2Prog
import Derived.Shelf.Slices.CompactI
import Derived.Shelf.Slices.SearchI
import Derived.Shelf.Slices.Cells
import Derived.Shelf.Slices.In.SortNone
import Derived.Ground.SlgnProg
import Derived.Shelf.SlicesE.Index
import Derived.Shelf.SlicesE.Compact
import Derived.Ground.SlgfProg
import Derived.Shelf.SlicesE.IndexFunc
import Derived.Test.YtkdjnegfnhldpaaGreatDoorProg
import Derived.Sort.OwnSorted
import Derived.Test.YtkdjnegfnhldpaaGreatDoorK03
set_option linter.unusedVariables false
set_option maxRecDepth 100000
set_option linter.unusedSimpArgs false
set_option maxHeartbeats 40000000
namespace Go.Proofs.YtkdjnegfnhldpaaGreatDoor
open Go.Proofs.Tryz Go.RowKit
section
open Go.Shelf
open Go.Lib in
open Go.Lib in
open Go.Lib in
open Go.Lib in
open Go.Lib in
open Go.Lib in
open Go.Lib in
open Go.Lib in
open Go.Lib in
open Go.Lib in
open Go.Lib in
open Go.Lib in
open Go.Lib in
def OI:Go.Shelf.Ren:=⟨fun|189=>172|125=>198|257=>209|128=>232|129=>233|294=>237|295=>238|296=>239|297=>240|298=>241|299=>242|216=>243|300=>244|301=>245|328=>259|329=>253|330=>254|331=>260|332=>261|215=>214|343=>268|n=>n,fun|28=>24|3=>3|46=>235|0=>0|51=>262|53=>264|4=>4|183=>256|182=>255|131=>76|5=>5|9=>9|218=>274|222=>278|228=>286|229=>287|n=>n,fun|n=>n⟩
theorem Qk:Go.Proofs.Lays.n189 prog OI:={
 mixed:=by kernel_rfl
 f125:=func198.trans (congrArg some (by kernel_rfl))
 f128:=func232.trans (congrArg some (by kernel_rfl))
 f129:=func233.trans (congrArg some (by kernel_rfl))
 f189:=func172.trans (congrArg some (by kernel_rfl))
 f215:=func214.trans (congrArg some (by kernel_rfl))
 f216:=func243.trans (congrArg some (by kernel_rfl))
 f257:=func209.trans (congrArg some (by kernel_rfl))
 f294:=func237.trans (congrArg some (by kernel_rfl))
 f295:=func238.trans (congrArg some (by kernel_rfl))
 f296:=func239.trans (congrArg some (by kernel_rfl))
 f297:=func240.trans (congrArg some (by kernel_rfl))
 f298:=func241.trans (congrArg some (by kernel_rfl))
 f299:=func242.trans (congrArg some (by kernel_rfl))
 f300:=func244.trans (congrArg some (by kernel_rfl))
 f301:=func245.trans (congrArg some (by kernel_rfl))
 f328:=func259.trans (congrArg some (by kernel_rfl))
 f329:=func253.trans (congrArg some (by kernel_rfl))
 f330:=func254.trans (congrArg some (by kernel_rfl))
 f331:=func260.trans (congrArg some (by kernel_rfl))
 f332:=func261.trans (congrArg some (by kernel_rfl))
 f343:=func268.trans (congrArg some (by kernel_rfl))
 t0:=underlying0
 a0:=isAgg0
 z0:=sizeOf0
 v0:=zeroValue0
 t3:=underlying3
 a3:=isAgg3
 z3:=sizeOf3
 v3:=zeroValue3
 t4:=underlying4
 a4:=isAgg4
 z4:=sizeOf4
 v4:=zeroValue4
 t5:=underlying5
 a5:=isAgg5
 z5:=sizeOf5
 v5:=zeroValue5
 t9:=underlying9
 a9:=isAgg9
 z9:=sizeOf9
 v9:=zeroValue9
 t28:=underlying24
 a28:=isAgg24
 z28:=sizeOf24
 v28:=zeroValue24
 t46:=underlying235
 a46:=isAgg235
 z46:=sizeOf235
 v46:=zeroValue235
 t51:=underlying262
 a51:=isAgg262
 z51:=sizeOf262
 v51:=zeroValue262
 t53:=underlying264
 a53:=isAgg264
 z53:=sizeOf264
 v53:=zeroValue264
 t131:=underlying76
 a131:=isAgg76
 z131:=sizeOf76
 v131:=zeroValue76
 t182:=underlying255
 a182:=isAgg255
 z182:=sizeOf255
 v182:=zeroValue255
 t183:=underlying256
 a183:=isAgg256
 z183:=sizeOf256
 v183:=zeroValue256
 t218:=underlying274
 a218:=isAgg274
 z218:=sizeOf274
 v218:=zeroValue274
 t222:=underlying278
 a222:=isAgg278
 z222:=sizeOf278
 v222:=zeroValue278
 t228:=underlying286
 a228:=isAgg286
 z228:=sizeOf286
 v228:=zeroValue286
 t229:=underlying287
 a229:=isAgg287
 z229:=sizeOf287
 v229:=zeroValue287 }
open Go.Sort Go.RowKit in
theorem slices_Sort_int(blk off cap:Nat)(zs:List Int)(w:World)(hH:Holds (Value.int .i64) w blk off zs.toArray)(eW:blk<w.heap.size)(aL:zs.length<4611686018427387904) :
 Calls prog 172 #[.slice (some ⟨blk,off,none⟩) zs.length cap] w fun e w'=>e=.returned (.tuple #[])∧∃n os,w'=grow (putRow (Value.int .i64) (Sort.ahead w n) blk off (zs.mergeSort fun x y=>decide (x≤y)).toArray) os:=Any.slices_Sort_int Qk blk off cap zs w hH eW aL
open Go.Lib in
open Go.Lib in
def OH:Go.Shelf.Ren:=⟨fun|146=>267|221=>270|268=>272|138=>273|143=>274|195=>275|197=>276|218=>277|219=>278|260=>279|217=>269|225=>280|224=>281|267=>282|266=>271|314=>283|n=>n,fun|9=>9|31=>72|3=>3|4=>4|0=>0|105=>293|21=>21|5=>5|46=>235|119=>295|139=>298|138=>297|146=>299|51=>262|n=>n,fun|1=>0|3=>1|4=>2|n=>n⟩
theorem UV:Go.Proofs.Lays.n146 prog OH:={
 mixed:=by kernel_rfl
 f138:=func273.trans (congrArg some (by kernel_rfl))
 f143:=func274.trans (congrArg some (by kernel_rfl))
 f146:=func267.trans (congrArg some (by kernel_rfl))
 f195:=func275.trans (congrArg some (by kernel_rfl))
 f197:=func276.trans (congrArg some (by kernel_rfl))
 f217:=func269.trans (congrArg some (by kernel_rfl))
 f218:=func277.trans (congrArg some (by kernel_rfl))
 f219:=func278.trans (congrArg some (by kernel_rfl))
 f221:=func270.trans (congrArg some (by kernel_rfl))
 f224:=func281.trans (congrArg some (by kernel_rfl))
 f225:=func280.trans (congrArg some (by kernel_rfl))
 f260:=func279.trans (congrArg some (by kernel_rfl))
 f266:=func271.trans (congrArg some (by kernel_rfl))
 f267:=func282.trans (congrArg some (by kernel_rfl))
 f268:=func272.trans (congrArg some (by kernel_rfl))
 f314:=func283.trans (congrArg some (by kernel_rfl))
 t0:=underlying0
 a0:=isAgg0
 z0:=sizeOf0
 v0:=zeroValue0
 t3:=underlying3
 a3:=isAgg3
 z3:=sizeOf3
 v3:=zeroValue3
 t4:=underlying4
 a4:=isAgg4
 z4:=sizeOf4
 v4:=zeroValue4
 t5:=underlying5
 a5:=isAgg5
 z5:=sizeOf5
 v5:=zeroValue5
 t9:=underlying9
 a9:=isAgg9
 z9:=sizeOf9
 v9:=zeroValue9
 t21:=underlying21
 a21:=isAgg21
 z21:=sizeOf21
 v21:=zeroValue21
 t31:=underlying72
 a31:=isAgg72
 z31:=sizeOf72
 v31:=zeroValue72
 t46:=underlying235
 a46:=isAgg235
 z46:=sizeOf235
 v46:=zeroValue235
 t51:=underlying262
 a51:=isAgg262
 z51:=sizeOf262
 v51:=zeroValue262
 t105:=underlying293
 a105:=isAgg293
 z105:=sizeOf293
 v105:=zeroValue293
 t119:=underlying295
 a119:=isAgg295
 z119:=sizeOf295
 t138:=underlying297
 a138:=isAgg297
 z138:=sizeOf297
 v138:=zeroValue297
 t139:=underlying298
 a139:=isAgg298
 z139:=sizeOf298
 v139:=zeroValue298
 t146:=underlying299
 a146:=isAgg299
 z146:=sizeOf299
 v146:=zeroValue299
 g1:=by kernel_rfl
 g3:=by kernel_rfl
 g4:=by kernel_rfl }
open Go.Lib in
theorem strings_Split(s sep:ByteArray)(m:Int)(w:World)(hs:s.size<4294967281)(hm:w.cell? ⟨0,0,none⟩=some (.int .i64 m))(h1:1≤sep.size) :
 Calls prog 267 #[.string s,.string sep] w fun e w'=>e=.returned (.slice (some ⟨w.heap.size,0,none⟩) (Lib.countB s sep+1) (Lib.countB s sep+1))∧w'=w.alloc (.cells ((Lib.splitB sep 0 (Lib.countB s sep) s).map Value.string).toArray 9):=Any.strings_Split UV (by kernel_rfl) s sep m w hs hm h1
def Mt:Go.Shelf.Ren:=⟨fun|146=>267|221=>270|268=>272|138=>273|143=>274|195=>275|197=>276|218=>277|219=>278|260=>279|217=>269|225=>280|224=>281|267=>282|266=>271|314=>283|n=>n,fun|9=>9|31=>72|3=>3|4=>4|0=>0|105=>293|21=>21|5=>5|46=>235|119=>295|139=>298|138=>297|146=>299|51=>262|n=>n,fun|1=>0|3=>1|4=>2|n=>n⟩
theorem S5:Go.Proofs.LaysM.n146 prog Mt:={
 mixed:=by kernel_rfl
 f138:=func273.trans (congrArg some (by kernel_rfl))
 f143:=func274.trans (congrArg some (by kernel_rfl))
 f146:=func267.trans (congrArg some (by kernel_rfl))
 f195:=func275.trans (congrArg some (by kernel_rfl))
 f197:=func276.trans (congrArg some (by kernel_rfl))
 f217:=func269.trans (congrArg some (by kernel_rfl))
 f218:=func277.trans (congrArg some (by kernel_rfl))
 f219:=func278.trans (congrArg some (by kernel_rfl))
 f221:=func270.trans (congrArg some (by kernel_rfl))
 f224:=func281.trans (congrArg some (by kernel_rfl))
 f225:=func280.trans (congrArg some (by kernel_rfl))
 f260:=func279.trans (congrArg some (by kernel_rfl))
 f266:=func271.trans (congrArg some (by kernel_rfl))
 f267:=func282.trans (congrArg some (by kernel_rfl))
 f268:=func272.trans (congrArg some (by kernel_rfl))
 f314:=func283.trans (congrArg some (by kernel_rfl))
 t0:=underlying0
 a0:=isAgg0
 z0:=sizeOf0
 v0:=zeroValue0
 t3:=underlying3
 a3:=isAgg3
 z3:=sizeOf3
 v3:=zeroValue3
 t4:=underlying4
 a4:=isAgg4
 z4:=sizeOf4
 v4:=zeroValue4
 t5:=underlying5
 a5:=isAgg5
 z5:=sizeOf5
 v5:=zeroValue5
 t9:=underlying9
 a9:=isAgg9
 z9:=sizeOf9
 v9:=zeroValue9
 t21:=underlying21
 a21:=isAgg21
 z21:=sizeOf21
 v21:=zeroValue21
 t31:=underlying72
 a31:=isAgg72
 z31:=sizeOf72
 v31:=zeroValue72
 t46:=underlying235
 a46:=isAgg235
 z46:=sizeOf235
 v46:=zeroValue235
 t51:=underlying262
 a51:=isAgg262
 z51:=sizeOf262
 v51:=zeroValue262
 t105:=underlying293
 a105:=isAgg293
 z105:=sizeOf293
 v105:=zeroValue293
 t119:=underlying295
 a119:=isAgg295
 z119:=sizeOf295
 t138:=underlying297
 a138:=isAgg297
 z138:=sizeOf297
 v138:=zeroValue297
 t139:=underlying298
 a139:=isAgg298
 z139:=sizeOf298
 v139:=zeroValue298
 t146:=underlying299
 a146:=isAgg299
 z146:=sizeOf299
 v146:=zeroValue299
 g1:=by kernel_rfl
 g3:=by kernel_rfl
 g4:=by kernel_rfl
 i0:=by kernel_rfl
 i3:=by kernel_rfl
 i4:=by kernel_rfl
 i5:=by kernel_rfl
 i9:=by kernel_rfl
 i21:=by kernel_rfl
 i31:=by kernel_rfl
 i46:=by kernel_rfl
 i51:=by kernel_rfl
 i105:=by kernel_rfl
 i138:=by kernel_rfl
 i139:=by kernel_rfl
 i146:=by kernel_rfl
 m1:=by kernel_rfl
 s1_3:=fun w h=>Go.Proofs.cell_of_shapedOpen_int (zero:=#[.int .i64 0]) (t:=3) h (of_decide_eq_true (by kernel_rfl)) (by kernel_rfl) rfl (by kernel_rfl) (by kernel_rfl) underlying3
 m3:=by kernel_rfl
 m4:=by kernel_rfl }
open Go.Lib in
open Go.Lib in
open Go.Lib in
open Go.Lib in
open Go.Lib in
open Go.Lib in
open Go.Lib in
open Go.Lib in
def OE:Go.Shelf.Ren:=⟨fun|108=>67|n=>n,fun|28=>24|3=>3|0=>0|4=>4|n=>n,fun|n=>n⟩
theorem Qi:Go.Proofs.Lays.n108 prog OE:={
 mixed:=by kernel_rfl
 f108:=func67.trans (congrArg some (by kernel_rfl))
 t0:=underlying0
 a0:=isAgg0
 z0:=sizeOf0
 v0:=zeroValue0
 t3:=underlying3
 a3:=isAgg3
 z3:=sizeOf3
 v3:=zeroValue3
 t4:=underlying4
 a4:=isAgg4
 z4:=sizeOf4
 v4:=zeroValue4
 t28:=underlying24
 a28:=isAgg24
 z28:=sizeOf24
 v28:=zeroValue24 }
open Go.Lib in
theorem slices_Index_int(b off n c:Nat)(zs:List Int)(x:Int)(w:World)(hz:n≤zs.length)(dO:n≤9223372036854775807)(hc:∀j,j<zs.length→w.cell? ⟨b,off+j,none⟩=some (.int .i64 (zs.getD j 0))):Calls prog 67 #[.slice (some ⟨b,off,none⟩) n c,.int .i64 x] w fun e w'=>e=.returned (.int .i64 (Lib.idxOf (zs.take n) x))∧w'=w:=Any.slices_Index_int Qi b off n c zs x w hz dO hc
open Go.Lib in
theorem slices_Index_int_empty(a:Option Addr)(c:Nat)(x:Int)(w:World):Calls prog 67 #[.slice a 0 c,.int .i64 x] w fun e w'=>e=.returned (.int .i64 (Lib.idxOf [] x))∧w'=w:=Any.slices_Index_int_empty Qi a c x w
def OD:Go.Shelf.Ren:=⟨fun|107=>183|108=>67|n=>n,fun|28=>24|3=>3|4=>4|0=>0|n=>n,fun|n=>n⟩
theorem Qh:Go.Proofs.Lays.n107 prog OD:={
 mixed:=by kernel_rfl
 f107:=func183.trans (congrArg some (by kernel_rfl))
 f108:=func67.trans (congrArg some (by kernel_rfl))
 t0:=underlying0
 a0:=isAgg0
 z0:=sizeOf0
 v0:=zeroValue0
 t3:=underlying3
 a3:=isAgg3
 z3:=sizeOf3
 v3:=zeroValue3
 t4:=underlying4
 a4:=isAgg4
 z4:=sizeOf4
 v4:=zeroValue4
 t28:=underlying24
 a28:=isAgg24
 z28:=sizeOf24
 v28:=zeroValue24 }
open Go.Lib in
theorem slices_Contains_int(b off n c:Nat)(zs:List Int)(x:Int)(w:World)(hz:n≤zs.length)(dO:n≤9223372036854775807)(hc:∀j,j<zs.length→w.cell? ⟨b,off+j,none⟩=some (.int .i64 (zs.getD j 0))):Calls prog 183 #[.slice (some ⟨b,off,none⟩) n c,.int .i64 x] w fun e w'=>e=.returned (.bool ((zs.take n).contains x))∧w'=w:=Any.slices_Contains_int Qh b off n c zs x w hz dO hc
open Go.Lib in
theorem slices_Contains_int_empty(a:Option Addr)(c:Nat)(x:Int)(w:World):Calls prog 183 #[.slice a 0 c,.int .i64 x] w fun e w'=>e=.returned (.bool false)∧w'=w:=Any.slices_Contains_int_empty Qh a c x w
def OF:Go.Shelf.Ren:=⟨fun|109=>251|n=>n,fun|31=>72|9=>9|3=>3|0=>0|4=>4|n=>n,fun|n=>n⟩
theorem UU:Go.Proofs.Lays.n109 prog OF:={
 mixed:=by kernel_rfl
 f109:=func251.trans (congrArg some (by kernel_rfl))
 t0:=underlying0
 a0:=isAgg0
 z0:=sizeOf0
 v0:=zeroValue0
 t3:=underlying3
 a3:=isAgg3
 z3:=sizeOf3
 v3:=zeroValue3
 t4:=underlying4
 a4:=isAgg4
 z4:=sizeOf4
 v4:=zeroValue4
 t9:=underlying9
 a9:=isAgg9
 z9:=sizeOf9
 v9:=zeroValue9
 t31:=underlying72
 a31:=isAgg72
 z31:=sizeOf72
 v31:=zeroValue72 }
open Go.Lib in
theorem slices_Index_string(b off n c:Nat)(zs:List ByteArray)(x:ByteArray)(w:World)(hz:n≤zs.length)(dO:n≤9223372036854775807)(hc:∀j,j<zs.length→w.cell? ⟨b,off+j,none⟩=some (.string (zs.getD j ByteArray.empty))):Calls prog 251 #[.slice (some ⟨b,off,none⟩) n c,.string x] w fun e w'=>e=.returned (.int .i64 (Lib.idxOfS (zs.take n) x))∧w'=w:=Any.slices_Index_string UU b off n c zs x w hz dO hc
open Go.Lib in
def OG:Go.Shelf.Ren:=⟨fun|110=>222|109=>251|n=>n,fun|31=>72|9=>9|4=>4|3=>3|0=>0|n=>n,fun|n=>n⟩
theorem Qj:Go.Proofs.Lays.n110 prog OG:={
 mixed:=by kernel_rfl
 f109:=func251.trans (congrArg some (by kernel_rfl))
 f110:=func222.trans (congrArg some (by kernel_rfl))
 t0:=underlying0
 a0:=isAgg0
 z0:=sizeOf0
 v0:=zeroValue0
 t3:=underlying3
 a3:=isAgg3
 z3:=sizeOf3
 v3:=zeroValue3
 t4:=underlying4
 a4:=isAgg4
 z4:=sizeOf4
 v4:=zeroValue4
 t9:=underlying9
 a9:=isAgg9
 z9:=sizeOf9
 v9:=zeroValue9
 t31:=underlying72
 a31:=isAgg72
 z31:=sizeOf72
 v31:=zeroValue72 }
open Go.Lib in
theorem slices_Contains_string(b off n c:Nat)(zs:List ByteArray)(x:ByteArray)(w:World)(hz:n≤zs.length)(dO:n≤9223372036854775807)(hc:∀j,j<zs.length→w.cell? ⟨b,off+j,none⟩=some (.string (zs.getD j ByteArray.empty))):Calls prog 222 #[.slice (some ⟨b,off,none⟩) n c,.string x] w fun e w'=>e=.returned (.bool (Lib.containsS (zs.take n) x))∧w'=w:=Any.slices_Contains_string Qj b off n c zs x w hz dO hc
open Go.Lib in
theorem slices_Contains_string_empty(a:Option Addr)(c:Nat)(x:ByteArray)(w:World):Calls prog 222 #[.slice a 0 c,.string x] w fun e w'=>e=.returned (.bool false)∧w'=w:=Any.slices_Contains_string_empty Qj a c x w
def LT:Go.Shelf.Ren:=⟨fun|20=>126|n=>n,fun|22=>24|3=>3|4=>4|0=>0|n=>n,fun|n=>n⟩
theorem L3:Go.Proofs.Lays2.n20 prog LT:={
 mixed:=by kernel_rfl
 f20:=func126.trans (congrArg some (by kernel_rfl))
 t0:=underlying0
 a0:=isAgg0
 z0:=sizeOf0
 v0:=zeroValue0
 t3:=underlying3
 a3:=isAgg3
 z3:=sizeOf3
 v3:=zeroValue3
 t4:=underlying4
 a4:=isAgg4
 z4:=sizeOf4
 v4:=zeroValue4
 t22:=underlying24
 a22:=isAgg24
 z22:=sizeOf24
 v22:=zeroValue24
 i3:=by kernel_rfl }
open Go.Lib Go.Sort in
open Go.Lib Go.Sort in
theorem slices_Compact_int(blk off cap:Nat)(zs:List Int)(w:World)(hH:Holds (Value.int .i64) w blk off zs.toArray)(aL:zs.length≤9223372036854775807)(ci:zs.length≤cap):Calls prog 126 #[.slice (some ⟨blk,off,none⟩) zs.length cap] w fun e w'=>e=.returned (.slice (some ⟨blk,off,none⟩) (Lib.compact zs).length cap)∧∃q,w'=putRow (Value.int .i64) (Sort.ahead w q) blk off (Lib.compact zs++List.replicate (zs.length-(Lib.compact zs).length) 0).toArray:=Any.slices_Compact_int L3 blk off cap zs w hH aL ci
open Go.Lib Go.Sort in
theorem slices_Compact_int_empty(a:Option Addr)(cap:Nat)(w:World):Calls prog 126 #[.slice a 0 cap] w fun e w'=>e=.returned (.slice a 0 cap)∧w'=w:=Any.slices_Compact_int_empty L3 a cap w
open Go.Lib in
open Go.Lib in
open Go.Lib Go.Sort in
open Go.Sort in
theorem slices_Sort_int_none(p:Option Addr)(cap:Nat)(w:World):Calls prog 172 #[.slice p 0 cap] w fun e w'=>e=.returned (.tuple #[])∧w'=w:=Any.slices_Sort_int_none Qk p cap w
open Go.Lib in
open Go.Lib in
open Go.Lib in
open Go.Lib in
open Go.Lib in
open Go.Lib in
open Go.Lib in
open Go.Lib in
open Go.Lib Go.Sort in
open Go.Lib in
open Go.Lib in
open Go.Lib in
open Go.Lib in
def IT:Go.Shelf.Ren:=⟨fun|8=>122|6=>170|n=>n,fun|22=>24|23=>3|25=>175|4=>4|3=>3|0=>0|n=>n,fun|n=>n⟩
theorem G3:Go.Proofs.SlLaysH.n8 prog IT:={
 mixed:=by kernel_rfl
 f6:=⟨f170.name,by decide,func170.trans (congrArg some (by kernel_rfl))⟩
 f8:=⟨f122.name,by decide,func122.trans (congrArg some (by kernel_rfl))⟩
 t0:=underlying0
 a0:=isAgg0
 z0:=sizeOf0
 v0:=zeroValue0
 t3:=underlying3
 a3:=isAgg3
 z3:=sizeOf3
 v3:=zeroValue3
 t4:=underlying4
 a4:=isAgg4
 z4:=sizeOf4
 v4:=zeroValue4
 t22:=underlying24
 a22:=isAgg24
 z22:=sizeOf24
 v22:=zeroValue24
 a23:=isAgg3
 z23:=sizeOf3
 t25:=underlying175
 a25:=isAgg175
 z25:=sizeOf175
 v25:=zeroValue175 }
open Go.Lib in
theorem DG{α:Type} [Inhabited α] (enc:α→Value) (p:α→Bool) (g:Nat) (lb:Array Value) (eg:∀args w,(callFunc g args).run prog w=.ok (.enter g args) w) (b off n c:Nat) (zs:List α) (w:World) (hp:PredAt prog g lb enc p w) (hz:n≤zs.length) (dO:n≤9223372036854775807) (hc:∀j,j<zs.length→w.cell? ⟨b,off+j,none⟩=some (enc zs[j]!)):Calls prog 122 #[.slice (some ⟨b,off,none⟩) n c,.func (.func g) #[] lb] w fun e w'=>e=.returned (.bool ((zs.take n).any p))∧∃q,w'=w.drewN q:=AnyE.slices_ContainsFunc G3 enc p g lb eg b off n c zs w hp hz dO hc
open Go.Lib in
open Go.Lib in
theorem CJ{α:Type} [Inhabited α] (a:Option Addr) (c:Nat) (fv:Value) (w:World):Calls prog 122 #[.slice a 0 c,fv] w fun e w'=>e=.returned (.bool false)∧w'=w:=AnyE.slices_ContainsFunc_empty G3 a c fv w
open Go.Lib in
def Lg:Go.Shelf.Ren:=⟨fun|6=>145|15=>198|14=>197|28=>232|29=>233|20=>224|21=>225|22=>226|23=>227|24=>228|25=>229|26=>230|27=>231|46=>252|47=>253|48=>254|49=>255|50=>256|57=>266|n=>n,fun|22=>25|24=>59|25=>181|3=>3|39=>235|0=>0|53=>262|55=>264|4=>4|46=>256|45=>255|50=>76|5=>5|9=>9|66=>274|70=>278|76=>286|77=>287|n=>n,fun|n=>n⟩
theorem MD:Go.Proofs.SlLaysF0.n6 prog Lg:={
 mixed:=by kernel_rfl
 f6:=⟨f145.name,by decide,func145.trans (congrArg some (by kernel_rfl))⟩
 f14:=⟨f197.name,by decide,func197.trans (congrArg some (by kernel_rfl))⟩
 f15:=func198.trans (congrArg some (by kernel_rfl))
 f20:=⟨f224.name,by decide,func224.trans (congrArg some (by kernel_rfl))⟩
 f21:=⟨f225.name,by decide,func225.trans (congrArg some (by kernel_rfl))⟩
 f22:=⟨f226.name,by decide,func226.trans (congrArg some (by kernel_rfl))⟩
 f23:=⟨f227.name,by decide,func227.trans (congrArg some (by kernel_rfl))⟩
 f24:=⟨f228.name,by decide,func228.trans (congrArg some (by kernel_rfl))⟩
 f25:=⟨f229.name,by decide,func229.trans (congrArg some (by kernel_rfl))⟩
 f26:=⟨f230.name,by decide,func230.trans (congrArg some (by kernel_rfl))⟩
 f27:=⟨f231.name,by decide,func231.trans (congrArg some (by kernel_rfl))⟩
 f28:=func232.trans (congrArg some (by kernel_rfl))
 f29:=func233.trans (congrArg some (by kernel_rfl))
 f46:=⟨f252.name,by decide,func252.trans (congrArg some (by kernel_rfl))⟩
 f47:=func253.trans (congrArg some (by kernel_rfl))
 f48:=func254.trans (congrArg some (by kernel_rfl))
 f49:=⟨f255.name,by decide,func255.trans (congrArg some (by kernel_rfl))⟩
 f50:=⟨f256.name,by decide,func256.trans (congrArg some (by kernel_rfl))⟩
 f57:=⟨f266.name,by decide,func266.trans (congrArg some (by kernel_rfl))⟩
 t0:=underlying0
 a0:=isAgg0
 z0:=sizeOf0
 v0:=zeroValue0
 t3:=underlying3
 a3:=isAgg3
 z3:=sizeOf3
 v3:=zeroValue3
 t4:=underlying4
 a4:=isAgg4
 z4:=sizeOf4
 v4:=zeroValue4
 t5:=underlying5
 a5:=isAgg5
 z5:=sizeOf5
 v5:=zeroValue5
 t9:=underlying9
 a9:=isAgg9
 z9:=sizeOf9
 v9:=zeroValue9
 t22:=underlying25
 a22:=isAgg25
 z22:=sizeOf25
 v22:=zeroValue25
 t25:=underlying181
 a25:=isAgg181
 z25:=sizeOf181
 v25:=zeroValue181
 t39:=underlying235
 a39:=isAgg235
 z39:=sizeOf235
 v39:=zeroValue235
 t45:=underlying255
 a45:=isAgg255
 z45:=sizeOf255
 v45:=zeroValue255
 t46:=underlying256
 a46:=isAgg256
 z46:=sizeOf256
 v46:=zeroValue256
 t50:=underlying76
 a50:=isAgg76
 z50:=sizeOf76
 v50:=zeroValue76
 t53:=underlying262
 a53:=isAgg262
 z53:=sizeOf262
 v53:=zeroValue262
 t55:=underlying264
 a55:=isAgg264
 z55:=sizeOf264
 v55:=zeroValue264
 t66:=underlying274
 a66:=isAgg274
 z66:=sizeOf274
 v66:=zeroValue274
 t70:=underlying278
 a70:=isAgg278
 z70:=sizeOf278
 v70:=zeroValue278
 t76:=underlying286
 a76:=isAgg286
 z76:=sizeOf286
 v76:=zeroValue286
 t77:=underlying287
 a77:=isAgg287
 z77:=sizeOf287
 v77:=zeroValue287 }
end
section
open Go.Sort Go.Lib
theorem Pi{w:World}{g:Nat}{cur:Array Value}{e:TypeId}{ss:List Value}(hb:w.heap[g]?=some (.cells cur e (0,0)))(ht:cur.toList.take ss.length=ss):Holds id w g 0 ss.toArray:=by
 intro j hj;have eC:j<ss.length:=by simpa using hj
 refine⟨?_,by simp [World.frozen?,hb]⟩;have h1:(cur.toList.take ss.length)[j]?=ss[j]?:=by rw [ht]
 rw [List.getElem?_take_of_lt eC] at h1;simp only [World.cell?,hb,Nat.zero_add];simp only [Option.isSome_none,Bool.false_eq_true,if_false];rw [←Array.getElem?_toList,h1];simp [eC]
theorem NH(cur:Array Value)(ts:List Value)(h:ts.length≤cur.size):(putCells id 0 ts.toArray cur).toList.take ts.length=ts:=by
 apply List.ext_getElem?;intro j;by_cases hj:j<ts.length
 ·rw [List.getElem?_take_of_lt hj,Array.getElem?_toList];simp [putCells,hj,show j<cur.size by omega]
 ·rw [List.getElem?_take_eq_none (by omega),List.getElem?_eq_none (by omega)]
theorem Mm{w:World}{g n:Nat}{os:Array Obj}{cur:Array Value}{e:TypeId}{fr:Nat×Nat}(d:Array Value)(hb:w.heap[g]?=some (.cells cur e fr)):(grow (putRow id (Sort.ahead w n) g 0 d) os).heap[g]?=some (.cells (putCells id 0 d cur) e fr):=by have hg:g<w.heap.size:=(Array.getElem?_eq_some_iff.1 hb).1;rw [heap_grow_old _ _ (by simpa using hg)];simp [putRow,mapBlock,Sort.ahead,Array.getElem?_modify,hb,onCells]
theorem Jp{w:World}{g n:Nat}{os:Array Obj}(d:Array Value):w.grownBy (grow (putRow id (Sort.ahead w n) g 0 d) os) (some g):=by refine⟨rfl,rfl,rfl,by simp,fun k hk aR=>?_⟩;rw [heap_grow_old _ _ (by simpa using hk)];have:g≠k:=fun e=>aR (by rw [e]);simp [putRow,mapBlock,Sort.ahead,Array.getElem?_modify,this]
section
variable {α:Type} [Inhabited α]
theorem KX{enc:α→List Value}{k:Nat}(hk:∀x,(enc x).length=k)(bC:0<k)(d:Array α):flatK enc k d=(d.toList.flatMap enc).toArray:=by
 apply Array.ext
 ·simp only [size_flatK,List.size_toArray,Aj hk,Array.length_toList]
 ·intro t h1 h2;have ht:t<d.size * k:=by simpa using h1
  have hq:t / k<d.size:=Nat.div_lt_of_lt_mul (by rwa [Nat.mul_comm]);have hr:t % k<k:=Nat.mod_lt _ bC;have hx:d.toList[t / k]?=some d[t / k]!:=by rw [List.getElem?_eq_getElem (by simpa using hq)];simp [hq]
  have hf:=CY hk d.toList (t / k) _ (t % k) hx hr;rw [show t / k * k+t % k=t from Nat.div_add_mod' t k] at hf;rw [←getElem!_pos (flatK enc k d) t h1,get_flatK enc k d t ht];have e2:(enc d[t / k]!)[t % k]! = (enc d[t / k]!)[t % k]'(by rw [hk];exact hr):=getElem!_pos _ _ (by rw [hk];exact hr);rw [e2];have e3:(enc d[t / k]!)[t % k]?=some ((enc d[t / k]!)[t % k]'(by rw [hk];exact hr)):=List.getElem?_eq_getElem (by rw [hk];exact hr);rw [e3] at hf;have:=(List.getElem?_eq_some_iff.1 hf).2;simpa using this.symm
theorem AI.holdsK{enc:α→List Value}{k:Nat}(hk:∀x,(enc x).length=k)(bC:0<k){w:World}{base e n:Nat}{g cap:Nat}{l:List α}(h:AI enc k w base e (.slice (some ⟨g,0,none⟩) n cap) n l):HoldsK enc k w g 0 l.toArray∧g<w.heap.size:=by
 rcases h.2 with⟨h0,_⟩|⟨g',cap',cur,hv,hb,hg,hn,hm,hs,ht⟩
 ·cases h0
 ·cases hv
  refine⟨?_,(Array.getElem?_eq_some_iff.1 hg).1⟩;unfold HoldsK;rw [KX hk bC];refine Pi hg ?_;rw [h.1];exact ht
theorem AI.sorted{enc:α→List Value}{k:Nat}(hk:∀x,(enc x).length=k)(bC:0<k){w:World}{base e n:Nat}{g cap:Nat}{l l':List α}(h:AI enc k w base e (.slice (some ⟨g,0,none⟩) n cap) n l)(hl:l'.length=l.length)(m:Nat)(os:Array Obj):AI enc k (sortWorldK enc k w g 0 m l'.toArray os) base e (.slice (some ⟨g,0,none⟩) n cap) n l'∧w.grownBy (sortWorldK enc k w g 0 m l'.toArray os) (some g):=by
 rcases h.2 with⟨h0,_⟩|⟨g',cap',cur,hv,hb,hg,hn,hm,hs,ht⟩
 ·cases h0
 ·cases hv
  have aJ:(l'.flatMap enc).length=n * k:=by rw [Aj hk,hl,←Aj hk,h.1]
  unfold sortWorldK putRowK;rw [KX hk bC];refine⟨⟨aJ,.inr ⟨g,cap,_,rfl,hb,Mm _ hg,hn,hm,by simp [putCells,hs],?_⟩⟩,Jp _⟩;rw [←aJ];refine NH cur _ ?_;rw [aJ,hs];exact Nat.mul_le_mul_right k hn
end
theorem Qb(a b:AB):decide (KN a b<0)=AB.lt a b:=by
 unfold KN Dn Iu AB.lt;rcases (by omega:a.kind<b.kind∨b.kind<a.kind∨a.kind=b.kind) with h|h|h
 ·have:¬a.kind=b.kind:=by omega
  simp [h,this]
 ·have h1:¬a.kind<b.kind:=by omega
  have h2:¬a.kind=b.kind:=by omega
  simp [h,h1,h2]
 ·have h1:¬a.kind<b.kind:=by omega
  have h2:¬b.kind<a.kind:=by omega
  rcases (by omega:a.rho<b.rho∨b.rho<a.rho∨a.rho=b.rho) with g|g|g
  ·have:¬a.rho=b.rho:=by omega
   simp [h,g,this]
  ·have g1:¬a.rho<b.rho:=by omega
   have g2:¬a.rho=b.rho:=by omega
   simp [h,g,g1,g2]
  ·cases hb:Op.bytesLess a.exn.toList b.exn.toList
   ·cases bB:Op.bytesLess b.exn.toList a.exn.toList<;>simp [h,g,hb,bB]
   ·simp [h,g,hb]
theorem Gp:ltOf KN=AB.lt:=by funext a b;exact Qb a b
theorem V1:SWO (ltOf KN):=by
 rw [Gp];refine⟨AB.lt_irrefl,fun _ _ _=>AB.lt_trans,fun x y z h h'=>?_⟩;cases ni:AB.lt x z with
 |false=>rfl
 |true=>
  cases dr:AB.lt y x with
  |true=>rw [AB.lt_trans dr ni] at h';cases h'
  |false=>
   have:=AB.lt_tri h dr;subst this;rw [ni] at h';cases h'
theorem Sg(blk off size:Nat)(w:World):CmpLays prog 128 #[] AP 3 KN blk off size w:=fun _ _ _ _ x y=>JO x y _
def GT(l:List AB):List AB:=l.mergeSort (fun x y=>!AB.lt y x)
theorem NB(g cap n:Nat)(l:List AB)(base:Nat)(w:World)(h:AI AP 3 w base 59 (.slice (some ⟨g,0,none⟩) n cap) n l)(hn:n<4611686018427387904) :
 Calls prog 145 #[.slice (some ⟨g,0,none⟩) n cap,.func (.func 128) #[] #[]] w fun e w'=>e=.returned (.tuple #[])∧AI AP 3 w' base 59 (.slice (some ⟨g,0,none⟩) n cap) n (GT l)∧w.grownBy w' (some g):=by
 obtain⟨hH,eW⟩:=h.holdsK AC (by omega)
 have hl:l.length=n:=h.len AC (by omega)
 have eg:∀args w,(callFunc 128 args).run prog w=.ok (.enter 128 args) w:=enters_of func128 (by kernel_rfl) rfl
 have hc:=AnyQ.slices_SortFunc_total MD 3 isAgg59 sizeOf59 AP AC AZ KN V1 128 #[] g 0 cap l.toArray w eg (Sg g 0 _ w) hH eW (by simp;omega)
  (by rw [Gp];exact fun _ _=>AB.lt_tri)
 have es:l.toArray.size=n:=by simpa using hl
 rw [es] at hc
 refine hc.mono ?_
 rintro e w' ⟨he,m,os,rfl⟩
 have hs:=h.sorted AC (by omega) (l':=GT l) (by simp [GT]) m os
 refine⟨he,?_,?_⟩
 ·have:=hs.1;rw [show GT l=l.mergeSort (fun x y=>!ltOf KN y x) from by rw [Gp];rfl] at this ⊢;exact this
 ·have:=hs.2;rw [show GT l=l.mergeSort (fun x y=>!ltOf KN y x) from by rw [Gp];rfl] at this;exact this
end
end Go.Proofs.YtkdjnegfnhldpaaGreatDoor
