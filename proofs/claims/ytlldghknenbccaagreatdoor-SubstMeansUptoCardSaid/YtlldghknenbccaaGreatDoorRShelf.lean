/- The library's contracts at this program's numbers, as the kit's tools lay-shelf.mjs and lay-plain.mjs print th. -/
import Derived.Shelf.Small.Bits
import Derived.Shelf.Small.Wraps
import Derived.Shelf.Strconv.Itoa3
import Derived.Shelf.Sort.Plain
import Derived.Shelf.Strconv.AppendIntPublic10
import Derived.Shelf.Slices.Clone
import Derived.Shelf.Slices.SearchI
import Derived.Shelf.Slices.Cells
import Derived.Shelf.Slices.In.SortNone
import Derived.Test.YtlldghknenbccaaGreatDoorProg
set_option linter.unusedSimpArgs false
set_option linter.unusedVariables false
namespace Go.Proofs
open Go.Shelf
def Tryz.aOI:Go.Shelf.Ren:=⟨fun|133=>138|128=>170|n=>n,fun|51=>112|3=>3|4=>4|46=>113|5=>5|9=>9|n=>n,fun|n=>n⟩
theorem Tryz.bAB:Go.Proofs.Lays.n133 Tryz.prog Tryz.aOI:={
 mixed:=by kernel_rfl
 f128:=Tryz.func170.trans (congrArg some (by kernel_rfl))
 f133:=Tryz.func138.trans (congrArg some (by kernel_rfl))
 t3:=Tryz.underlying3
 a3:=Tryz.isAgg3
 z3:=Tryz.sizeOf3
 v3:=Tryz.zeroValue3
 t4:=Tryz.underlying4
 a4:=Tryz.isAgg4
 z4:=Tryz.sizeOf4
 v4:=Tryz.zeroValue4
 t5:=Tryz.underlying5
 a5:=Tryz.isAgg5
 z5:=Tryz.sizeOf5
 v5:=Tryz.zeroValue5
 t9:=Tryz.underlying9
 a9:=Tryz.isAgg9
 z9:=Tryz.sizeOf9
 v9:=Tryz.zeroValue9
 t46:=Tryz.underlying113
 a46:=Tryz.isAgg113
 z46:=Tryz.sizeOf113
 v46:=Tryz.zeroValue113
 t51:=Tryz.underlying112
 a51:=Tryz.isAgg112
 z51:=Tryz.sizeOf112
 v51:=Tryz.zeroValue112 }
theorem Tryz.bits_LeadingZeros32 (x:Int) (w:World) (h0:0≤x) (h1:x≤4294967295) :
  Calls Tryz.prog 138 #[.int .u32 x] w fun e w'=>e=.returned (.int .i64 (32-(Lib.bitLen x.toNat:Int)))∧w'=w:=Any.bits_LeadingZeros32 Tryz.bAB x w h0 h1
def Tryz.aOU:Go.Shelf.Ren:=⟨fun|283=>240|n=>n,fun|3=>3|9=>9|4=>4|n=>n,fun|n=>n⟩
theorem Tryz.bAZ:Go.Proofs.Lays.n283 Tryz.prog Tryz.aOU:={
 mixed:=by kernel_rfl
 f283:=Tryz.func240.trans (congrArg some (by kernel_rfl))
 t3:=Tryz.underlying3
 a3:=Tryz.isAgg3
 z3:=Tryz.sizeOf3
 v3:=Tryz.zeroValue3
 t4:=Tryz.underlying4
 a4:=Tryz.isAgg4
 z4:=Tryz.sizeOf4
 v4:=Tryz.zeroValue4
 t9:=Tryz.underlying9
 a9:=Tryz.isAgg9
 z9:=Tryz.sizeOf9
 v9:=Tryz.zeroValue9 }
open Go.Lib in
theorem Tryz.internal_strconv_small (i:Nat) (h:i<100) (w:World) :
  Calls Tryz.prog 240 #[.int .i64 i] w fun e w'=>e=.returned (.string ⟨(Lib.decDigits i).toArray⟩)∧w'=w:=Any.internal_strconv_small Tryz.bAZ i h w
def Tryz.aNV:Go.Shelf.Ren:=⟨fun|284=>241|129=>171|317=>249|318=>250|n=>n,fun|53=>111|3=>3|212=>262|0=>0|4=>4|46=>113|5=>5|9=>9|n=>n,fun|17=>0|n=>n⟩
theorem Tryz.aYK:Go.Proofs.LaysM.n284 Tryz.prog Tryz.aNV:={
 mixed:=by kernel_rfl
 f129:=Tryz.func171.trans (congrArg some (by kernel_rfl))
 f284:=Tryz.func241.trans (congrArg some (by kernel_rfl))
 f317:=Tryz.func249.trans (congrArg some (by kernel_rfl))
 f318:=Tryz.func250.trans (congrArg some (by kernel_rfl))
 t0:=Tryz.underlying0
 a0:=Tryz.isAgg0
 z0:=Tryz.sizeOf0
 v0:=Tryz.zeroValue0
 t3:=Tryz.underlying3
 a3:=Tryz.isAgg3
 z3:=Tryz.sizeOf3
 v3:=Tryz.zeroValue3
 t4:=Tryz.underlying4
 a4:=Tryz.isAgg4
 z4:=Tryz.sizeOf4
 v4:=Tryz.zeroValue4
 t5:=Tryz.underlying5
 a5:=Tryz.isAgg5
 z5:=Tryz.sizeOf5
 v5:=Tryz.zeroValue5
 t9:=Tryz.underlying9
 a9:=Tryz.isAgg9
 z9:=Tryz.sizeOf9
 v9:=Tryz.zeroValue9
 t46:=Tryz.underlying113
 a46:=Tryz.isAgg113
 z46:=Tryz.sizeOf113
 v46:=Tryz.zeroValue113
 t53:=Tryz.underlying111
 a53:=Tryz.isAgg111
 z53:=Tryz.sizeOf111
 v53:=Tryz.zeroValue111
 t212:=Tryz.underlying262
 a212:=Tryz.isAgg262
 z212:=Tryz.sizeOf262
 v212:=Tryz.zeroValue262
 g17:=by kernel_rfl
 i0:=by kernel_rfl
 i3:=by kernel_rfl
 i4:=by kernel_rfl
 i5:=by kernel_rfl
 i9:=by kernel_rfl
 i46:=by kernel_rfl
 i53:=by kernel_rfl
 i212:=by kernel_rfl
 m17:=by kernel_rfl }
open Go.Lib in
theorem Tryz.internal_strconv_numDigits (u:Nat) (h1:1≤u) (h2:u<18446744073709551616) (w:World) (htab:Lib.TabIs Tryz.prog w "internal/strconv.uint64pow10" .u64 Lib.pow10Tab) :
  Calls Tryz.prog 241 #[.int .u64 u] w fun e w'=>e=.returned (.int .i64 (Lib.nDigits u))∧w'=w:=Any.internal_strconv_numDigits Tryz.aYK u h1 h2 w htab
def Tryz.aOL:Go.Shelf.Ren:=⟨fun|285=>242|n=>n,fun|37=>211|53=>111|3=>3|4=>4|51=>112|9=>9|5=>5|0=>0|n=>n,fun|n=>n⟩
theorem Tryz.bAJ:Go.Proofs.Lays.n285 Tryz.prog Tryz.aOL:={
 mixed:=by kernel_rfl
 f285:=Tryz.func242.trans (congrArg some (by kernel_rfl))
 t0:=Tryz.underlying0
 a0:=Tryz.isAgg0
 z0:=Tryz.sizeOf0
 v0:=Tryz.zeroValue0
 t3:=Tryz.underlying3
 a3:=Tryz.isAgg3
 z3:=Tryz.sizeOf3
 v3:=Tryz.zeroValue3
 t4:=Tryz.underlying4
 a4:=Tryz.isAgg4
 z4:=Tryz.sizeOf4
 v4:=Tryz.zeroValue4
 t5:=Tryz.underlying5
 a5:=Tryz.isAgg5
 z5:=Tryz.sizeOf5
 v5:=Tryz.zeroValue5
 t9:=Tryz.underlying9
 a9:=Tryz.isAgg9
 z9:=Tryz.sizeOf9
 v9:=Tryz.zeroValue9
 t37:=Tryz.underlying211
 a37:=Tryz.isAgg211
 z37:=Tryz.sizeOf211
 v37:=Tryz.zeroValue211
 t51:=Tryz.underlying112
 a51:=Tryz.isAgg112
 z51:=Tryz.sizeOf112
 v51:=Tryz.zeroValue112
 t53:=Tryz.underlying111
 a53:=Tryz.isAgg111
 z53:=Tryz.sizeOf111
 v53:=Tryz.zeroValue111 }
open Go.RowKit Go.Sort Go.Lib in
theorem Tryz.internal_strconv_formatBase10 (blk off cap:Nat) (u:Nat) (d:Array UInt8) (w:World) (hH:Holds (fun (b:UInt8)=>Value.int .u8 (b.toNat:Int)) w blk off d) (hu:u<10 ^ d.size) (hu64:u<18446744073709551616) (hsz:d.size<4611686018427387904) :
  Calls Tryz.prog 242 #[.slice (some ⟨blk,off,none⟩) d.size cap,.int .u64 u] w fun e w'=>
   e=.returned (.tuple #[])∧∃(n v':Nat) (dk:Array UInt8),w'=(putRow (fun (b:UInt8)=>Value.int .u8 (b.toNat:Int)) w blk off dk).drewN n∧FmtInv d.size u 0 v' dk:=Any.internal_strconv_formatBase10 Tryz.bAJ blk off cap u d w hH hu hu64 hsz
def Tryz.aNZ:Go.Shelf.Ren:=⟨fun|171=>178|243=>204|246=>226|283=>240|284=>241|285=>242|286=>243|129=>171|317=>249|318=>250|319=>251|320=>252|337=>254|338=>255|n=>n,fun|3=>3|9=>9|2=>2|4=>4|171=>254|0=>0|53=>111|37=>211|5=>5|173=>256|212=>262|51=>112|20=>20|213=>263|46=>113|232=>265|233=>266|n=>n,fun|17=>0|18=>1|19=>2|n=>n⟩
theorem Tryz.aXF:Go.Proofs.LaysM.n171 Tryz.prog Tryz.aNZ:={
 mixed:=by kernel_rfl
 f129:=Tryz.func171.trans (congrArg some (by kernel_rfl))
 f171:=Tryz.func178.trans (congrArg some (by kernel_rfl))
 f243:=Tryz.func204.trans (congrArg some (by kernel_rfl))
 f246:=Tryz.func226.trans (congrArg some (by kernel_rfl))
 f283:=Tryz.func240.trans (congrArg some (by kernel_rfl))
 f284:=Tryz.func241.trans (congrArg some (by kernel_rfl))
 f285:=Tryz.func242.trans (congrArg some (by kernel_rfl))
 f286:=Tryz.func243.trans (congrArg some (by kernel_rfl))
 f317:=Tryz.func249.trans (congrArg some (by kernel_rfl))
 f318:=Tryz.func250.trans (congrArg some (by kernel_rfl))
 f319:=Tryz.func251.trans (congrArg some (by kernel_rfl))
 f320:=Tryz.func252.trans (congrArg some (by kernel_rfl))
 f337:=Tryz.func254.trans (congrArg some (by kernel_rfl))
 f338:=Tryz.func255.trans (congrArg some (by kernel_rfl))
 t0:=Tryz.underlying0
 a0:=Tryz.isAgg0
 z0:=Tryz.sizeOf0
 v0:=Tryz.zeroValue0
 t2:=Tryz.underlying2
 a2:=Tryz.isAgg2
 z2:=Tryz.sizeOf2
 v2:=Tryz.zeroValue2
 t3:=Tryz.underlying3
 a3:=Tryz.isAgg3
 z3:=Tryz.sizeOf3
 v3:=Tryz.zeroValue3
 t4:=Tryz.underlying4
 a4:=Tryz.isAgg4
 z4:=Tryz.sizeOf4
 v4:=Tryz.zeroValue4
 t5:=Tryz.underlying5
 a5:=Tryz.isAgg5
 z5:=Tryz.sizeOf5
 v5:=Tryz.zeroValue5
 t9:=Tryz.underlying9
 a9:=Tryz.isAgg9
 z9:=Tryz.sizeOf9
 v9:=Tryz.zeroValue9
 t20:=Tryz.underlying20
 a20:=Tryz.isAgg20
 z20:=Tryz.sizeOf20
 v20:=Tryz.zeroValue20
 t37:=Tryz.underlying211
 a37:=Tryz.isAgg211
 z37:=Tryz.sizeOf211
 v37:=Tryz.zeroValue211
 t46:=Tryz.underlying113
 a46:=Tryz.isAgg113
 z46:=Tryz.sizeOf113
 v46:=Tryz.zeroValue113
 t51:=Tryz.underlying112
 a51:=Tryz.isAgg112
 z51:=Tryz.sizeOf112
 v51:=Tryz.zeroValue112
 t53:=Tryz.underlying111
 a53:=Tryz.isAgg111
 z53:=Tryz.sizeOf111
 v53:=Tryz.zeroValue111
 t171:=Tryz.underlying254
 a171:=Tryz.isAgg254
 z171:=Tryz.sizeOf254
 v171:=Tryz.zeroValue254
 t173:=Tryz.underlying256
 a173:=Tryz.isAgg256
 z173:=Tryz.sizeOf256
 v173:=Tryz.zeroValue256
 t212:=Tryz.underlying262
 a212:=Tryz.isAgg262
 z212:=Tryz.sizeOf262
 v212:=Tryz.zeroValue262
 t213:=Tryz.underlying263
 a213:=Tryz.isAgg263
 z213:=Tryz.sizeOf263
 t232:=Tryz.underlying265
 a232:=Tryz.isAgg265
 z232:=Tryz.sizeOf265
 v232:=Tryz.zeroValue265
 t233:=Tryz.underlying266
 a233:=Tryz.isAgg266
 z233:=Tryz.sizeOf266
 v233:=Tryz.zeroValue266
 g17:=by kernel_rfl
 g18:=by kernel_rfl
 g19:=by kernel_rfl
 i0:=by kernel_rfl
 i2:=by kernel_rfl
 i3:=by kernel_rfl
 i4:=by kernel_rfl
 i5:=by kernel_rfl
 i9:=by kernel_rfl
 i20:=by kernel_rfl
 i37:=by kernel_rfl
 i46:=by kernel_rfl
 i51:=by kernel_rfl
 i53:=by kernel_rfl
 i171:=by kernel_rfl
 i173:=by kernel_rfl
 i212:=by kernel_rfl
 i232:=by kernel_rfl
 i233:=by kernel_rfl
 m17:=by kernel_rfl
 m18:=by kernel_rfl
 m19:=by kernel_rfl }
open Go.RowKit Go.Sort Go.Lib in
theorem Tryz.strconv_Itoa (n:Int) (h0:-9223372036854775808≤n) (h1:n≤9223372036854775807) (w:World) (htab:Lib.TabIs Tryz.prog w "internal/strconv.uint64pow10" .u64 Lib.pow10Tab) :
  Calls Tryz.prog 178 #[.int .i64 n] w fun e w'=>e=.returned (.string ⟨(Lib.itoa n).toArray⟩)∧∃k os,w'=grow (w.drewN k) os:=Any.strconv_Itoa Tryz.aXF n h0 h1 w htab
def Tryz.aOY:Go.Shelf.Ren:=⟨fun|189=>72|125=>118|257=>117|128=>170|129=>171|294=>161|295=>162|296=>163|297=>164|298=>165|299=>166|216=>167|300=>168|301=>169|328=>198|329=>199|330=>200|331=>201|332=>202|215=>203|343=>225|n=>n,fun|28=>56|3=>3|46=>113|0=>0|51=>112|53=>111|4=>4|183=>197|182=>196|131=>144|5=>5|9=>9|218=>225|222=>229|228=>244|229=>245|n=>n,fun|n=>n⟩
theorem Tryz.aJG:Go.Proofs.Lays.n189 Tryz.prog Tryz.aOY:={
 mixed:=by kernel_rfl
 f125:=Tryz.func118.trans (congrArg some (by kernel_rfl))
 f128:=Tryz.func170.trans (congrArg some (by kernel_rfl))
 f129:=Tryz.func171.trans (congrArg some (by kernel_rfl))
 f189:=Tryz.func72.trans (congrArg some (by kernel_rfl))
 f215:=Tryz.func203.trans (congrArg some (by kernel_rfl))
 f216:=Tryz.func167.trans (congrArg some (by kernel_rfl))
 f257:=Tryz.func117.trans (congrArg some (by kernel_rfl))
 f294:=Tryz.func161.trans (congrArg some (by kernel_rfl))
 f295:=Tryz.func162.trans (congrArg some (by kernel_rfl))
 f296:=Tryz.func163.trans (congrArg some (by kernel_rfl))
 f297:=Tryz.func164.trans (congrArg some (by kernel_rfl))
 f298:=Tryz.func165.trans (congrArg some (by kernel_rfl))
 f299:=Tryz.func166.trans (congrArg some (by kernel_rfl))
 f300:=Tryz.func168.trans (congrArg some (by kernel_rfl))
 f301:=Tryz.func169.trans (congrArg some (by kernel_rfl))
 f328:=Tryz.func198.trans (congrArg some (by kernel_rfl))
 f329:=Tryz.func199.trans (congrArg some (by kernel_rfl))
 f330:=Tryz.func200.trans (congrArg some (by kernel_rfl))
 f331:=Tryz.func201.trans (congrArg some (by kernel_rfl))
 f332:=Tryz.func202.trans (congrArg some (by kernel_rfl))
 f343:=Tryz.func225.trans (congrArg some (by kernel_rfl))
 t0:=Tryz.underlying0
 a0:=Tryz.isAgg0
 z0:=Tryz.sizeOf0
 v0:=Tryz.zeroValue0
 t3:=Tryz.underlying3
 a3:=Tryz.isAgg3
 z3:=Tryz.sizeOf3
 v3:=Tryz.zeroValue3
 t4:=Tryz.underlying4
 a4:=Tryz.isAgg4
 z4:=Tryz.sizeOf4
 v4:=Tryz.zeroValue4
 t5:=Tryz.underlying5
 a5:=Tryz.isAgg5
 z5:=Tryz.sizeOf5
 v5:=Tryz.zeroValue5
 t9:=Tryz.underlying9
 a9:=Tryz.isAgg9
 z9:=Tryz.sizeOf9
 v9:=Tryz.zeroValue9
 t28:=Tryz.underlying56
 a28:=Tryz.isAgg56
 z28:=Tryz.sizeOf56
 v28:=Tryz.zeroValue56
 t46:=Tryz.underlying113
 a46:=Tryz.isAgg113
 z46:=Tryz.sizeOf113
 v46:=Tryz.zeroValue113
 t51:=Tryz.underlying112
 a51:=Tryz.isAgg112
 z51:=Tryz.sizeOf112
 v51:=Tryz.zeroValue112
 t53:=Tryz.underlying111
 a53:=Tryz.isAgg111
 z53:=Tryz.sizeOf111
 v53:=Tryz.zeroValue111
 t131:=Tryz.underlying144
 a131:=Tryz.isAgg144
 z131:=Tryz.sizeOf144
 v131:=Tryz.zeroValue144
 t182:=Tryz.underlying196
 a182:=Tryz.isAgg196
 z182:=Tryz.sizeOf196
 v182:=Tryz.zeroValue196
 t183:=Tryz.underlying197
 a183:=Tryz.isAgg197
 z183:=Tryz.sizeOf197
 v183:=Tryz.zeroValue197
 t218:=Tryz.underlying225
 a218:=Tryz.isAgg225
 z218:=Tryz.sizeOf225
 v218:=Tryz.zeroValue225
 t222:=Tryz.underlying229
 a222:=Tryz.isAgg229
 z222:=Tryz.sizeOf229
 v222:=Tryz.zeroValue229
 t228:=Tryz.underlying244
 a228:=Tryz.isAgg244
 z228:=Tryz.sizeOf244
 v228:=Tryz.zeroValue244
 t229:=Tryz.underlying245
 a229:=Tryz.isAgg245
 z229:=Tryz.sizeOf245
 v229:=Tryz.zeroValue245 }
open Go.Sort Go.RowKit in
theorem Tryz.slices_Sort_int (blk off cap:Nat) (zs:List Int) (w:World) (hH:Holds (Value.int .i64) w blk off zs.toArray) (hblk:blk<w.heap.size) (hsz:zs.length<4611686018427387904) :
  Calls Tryz.prog 72 #[.slice (some ⟨blk,off,none⟩) zs.length cap] w fun e w'=>
   e=.returned (.tuple #[])∧∃n os,w'=grow (putRow (Value.int .i64) (Sort.ahead w n) blk off (zs.mergeSort fun x y=>decide (x≤y)).toArray) os:=Any.slices_Sort_int Tryz.aJG blk off cap zs w hH hblk hsz
def Tryz.aMS:Go.Shelf.Ren:=⟨fun|15=>75|n=>n,fun|22=>56|3=>3|4=>4|n=>n,fun|n=>n⟩
theorem Tryz.UU:Go.Proofs.Lays2.n15 Tryz.prog Tryz.aMS:={
 mixed:=by kernel_rfl
 f15:=Tryz.func75.trans (congrArg some (by kernel_rfl))
 t3:=Tryz.underlying3
 a3:=Tryz.isAgg3
 z3:=Tryz.sizeOf3
 v3:=Tryz.zeroValue3
 t4:=Tryz.underlying4
 a4:=Tryz.isAgg4
 z4:=Tryz.sizeOf4
 v4:=Tryz.zeroValue4
 t22:=Tryz.underlying56
 a22:=Tryz.isAgg56
 z22:=Tryz.sizeOf56
 v22:=Tryz.zeroValue56
 i3:=by kernel_rfl }
open Go.RowKit Go.Lib in
theorem Tryz.slices_Clone_int (b off n c:Nat) (zs:List Int) (w:World) (hz:n≤zs.length) (hbig:n*8≤140737488355328) (hc:∀j,j<zs.length→w.cell? ⟨b,off+j,none⟩=some (.int .i64 (zs.getD j 0))) :
  Calls Tryz.prog 75 #[.slice (some ⟨b,off,none⟩) n c] w fun e w'=>∃v',e=.returned v'∧w'.ownsRow w.heap.size 3 1 v' n ((zs.take n).map (Value.int .i64))∧v'≠.slice none 0 0∧Below w.heap.size w w':=Any.slices_Clone_int Tryz.UU b off n c zs w hz hbig hc
open Go.RowKit Go.Lib in
theorem Tryz.slices_Clone_int_nil (n c:Nat) (w:World) :
  Calls Tryz.prog 75 #[.slice none n c] w fun e w'=>e=.returned (.slice none 0 0)∧w'=w:=Any.slices_Clone_int_nil Tryz.UU n c w
open Go.RowKit Go.Lib in
theorem Tryz.slices_Clone_int_zero (a:Addr) (c:Nat) (w:World) :
  Calls Tryz.prog 75 #[.slice (some a) 0 c] w fun e w'=>∃v',e=.returned v'∧w'.ownsRow w.heap.size 3 1 v' 0 []∧v'≠.slice none 0 0∧Below w.heap.size w w':=Any.slices_Clone_int_zero Tryz.UU a c w
def Tryz.aMQ:Go.Shelf.Ren:=⟨fun|20=>99|n=>n,fun|22=>56|3=>3|4=>4|0=>0|n=>n,fun|n=>n⟩
theorem Tryz.aET:Go.Proofs.Lays2.n20 Tryz.prog Tryz.aMQ:={
 mixed:=by kernel_rfl
 f20:=Tryz.func99.trans (congrArg some (by kernel_rfl))
 t0:=Tryz.underlying0
 a0:=Tryz.isAgg0
 z0:=Tryz.sizeOf0
 v0:=Tryz.zeroValue0
 t3:=Tryz.underlying3
 a3:=Tryz.isAgg3
 z3:=Tryz.sizeOf3
 v3:=Tryz.zeroValue3
 t4:=Tryz.underlying4
 a4:=Tryz.isAgg4
 z4:=Tryz.sizeOf4
 v4:=Tryz.zeroValue4
 t22:=Tryz.underlying56
 a22:=Tryz.isAgg56
 z22:=Tryz.sizeOf56
 v22:=Tryz.zeroValue56
 i3:=by kernel_rfl }
open Go.RowKit Go.Lib Go.Sort in
theorem Tryz.slices_Compact_int (blk off cap:Nat) (zs:List Int) (w:World) (hH:Holds (Value.int .i64) w blk off zs.toArray) (hsz:zs.length≤9223372036854775807) (hcap:zs.length≤cap) :
  Calls Tryz.prog 99 #[.slice (some ⟨blk,off,none⟩) zs.length cap] w fun e w'=>e=.returned (.slice (some ⟨blk,off,none⟩) (Lib.compact zs).length cap)∧∃q,w'=putRow (Value.int .i64) (Sort.ahead w q) blk off (Lib.compact zs++List.replicate (zs.length-(Lib.compact zs).length) 0).toArray:=Any.slices_Compact_int Tryz.aET blk off cap zs w hH hsz hcap
open Go.RowKit Go.Lib Go.Sort in
theorem Tryz.slices_Compact_int_empty (a:Option Addr) (cap:Nat) (w:World) :
  Calls Tryz.prog 99 #[.slice a 0 cap] w fun e w'=>e=.returned (.slice a 0 cap)∧w'=w:=Any.slices_Compact_int_empty Tryz.aET a cap w
open Go.RowKit Go.Sort in
theorem Tryz.slices_Sort_int_none (p:Option Addr) (cap:Nat) (w:World) :
  Calls Tryz.prog 72 #[.slice p 0 cap] w fun e w'=>e=.returned (.tuple #[])∧w'=w:=Any.slices_Sort_int_none Tryz.aJG p cap w
end Go.Proofs
