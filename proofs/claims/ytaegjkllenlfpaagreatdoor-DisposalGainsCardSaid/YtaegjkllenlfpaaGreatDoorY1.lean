/- The seat's texts, part Y1. -/
import Derived.Test.YtaegjkllenlfpaaGreatDoorY0
import Derived.Shelf.Small.Utf8
import Derived.Shelf.Small.Wraps
import Derived.Shelf.Strconv.Itoa3
import Derived.Shelf.Strconv.ErrVar
import Derived.Shelf.Strconv.ErrVarAll
import Derived.Shelf.Strconv.ErrVarParseInt
import Derived.Shelf.Pu.ErrVarParseUint
import Derived.Shelf.Strings.Shaped
import Derived.Shelf.Unicode.Decode
import Derived.Shelf.Strings.Repeat
import Derived.Shelf.Unicode.DecodeSlow
import Derived.Shelf.Strings.BuilderCap
import Derived.Shelf.Slices.Turned
import Derived.Shelf.SlSortCmp.HeapSort1
import Derived.Shelf.SlSortCmp.Insertion1
import Derived.Shelf.SlSortCmp.Pivot1
import Derived.Shelf.SlSortCmp.ReverseRange1
import Derived.Shelf.SlSortCmp.PartialInsertion1
import Derived.Shelf.SlSortCmp.PartitionEqual1
import Derived.Shelf.SlSortCmp.Partition1
import Derived.Test.YtaegjkllenlfpaaGreatDoorProg
import Derived.Shelf.Strings.SlTrimAscii
set_option maxRecDepth 100000
set_option maxHeartbeats 8000000
namespace Go.Proofs
open Go.Shelf
def Tryz.lays169_ren:Go.Shelf.Ren:=⟨fun | 169=>147|n=>n,fun | 70=>180 | 9=>9 | 0=>0 | 72=>182 | 37=>159 | 127=>249 | 3=>3 | 5=>5|n=>n,fun|n=>n⟩
theorem Tryz.lays169:Go.Proofs.Lays.n169 Tryz.prog Tryz.lays169_ren:={
 mixed:=by kernel_rfl
 f169:=Tryz.func147.trans (congrArg some (by kernel_rfl))
 t0:=Tryz.underlying0
 a0:=Tryz.isAgg0
 z0:=Tryz.sizeOf0
 v0:=Tryz.zeroValue0
 t3:=Tryz.underlying3
 a3:=Tryz.isAgg3
 z3:=Tryz.sizeOf3
 v3:=Tryz.zeroValue3
 t9:=Tryz.underlying9
 a9:=Tryz.isAgg9
 z9:=Tryz.sizeOf9
 v9:=Tryz.zeroValue9
 t37:=Tryz.underlying159
 a37:=Tryz.isAgg159
 z37:=Tryz.sizeOf159
 v37:=Tryz.zeroValue159
 t70:=Tryz.underlying180
 a70:=Tryz.isAgg180
 z70:=Tryz.sizeOf180
 v70:=Tryz.zeroValue180
 t72:=Tryz.underlying182
 a72:=Tryz.isAgg182
 z72:=Tryz.sizeOf182
 v72:=Tryz.zeroValue182
 t127:=Tryz.underlying249
 a127:=Tryz.isAgg249
 z127:=Tryz.sizeOf249
 v127:=Tryz.zeroValue249 }
theorem Tryz.Builder_Extra_169:Builder.Extra Tryz.prog Tryz.lays169_ren:={
 sizeBuilder:=by kernel_rfl
 liesBuilder:=by kernel_rfl
 t5:=Tryz.underlying5
 a5:=Tryz.isAgg5
 z5:=Tryz.sizeOf5
 v5:=Tryz.zeroValue5
 infoByte:=by kernel_rfl
 cellsByte:=by kernel_rfl
 sizeByte:=by kernel_rfl
 neB5:=by decide }
def Tryz.lays161_ren:Go.Shelf.Ren:=⟨fun | 161=>208 | 231=>278 | 227=>280 | 233=>281 | 235=>283 | 228=>334 | 197=>335 | 151=>336 | 260=>360 | 152=>361 | 137=>378 | 119=>379 | 224=>358 | 225=>357 | 217=>356 | 266=>376|n=>n,fun | 9=>9 | 4=>4 | 3=>3 | 5=>5 | 117=>280 | 116=>279 | 0=>0 | 124=>283 | 105=>316 | 21=>21 | 119=>351 | 46=>243 | 139=>354 | 138=>353|n=>n,fun | 3=>4 | 4=>5|n=>n⟩
theorem Tryz.lays161:Go.Proofs.Lays.n161 Tryz.prog Tryz.lays161_ren:={
 mixed:=by kernel_rfl
 f119:=Tryz.func379.trans (congrArg some (by kernel_rfl))
 f137:=Tryz.func378.trans (congrArg some (by kernel_rfl))
 f151:=Tryz.func336.trans (congrArg some (by kernel_rfl))
 f152:=Tryz.func361.trans (congrArg some (by kernel_rfl))
 f161:=Tryz.func208.trans (congrArg some (by kernel_rfl))
 f197:=Tryz.func335.trans (congrArg some (by kernel_rfl))
 f217:=Tryz.func356.trans (congrArg some (by kernel_rfl))
 f224:=Tryz.func358.trans (congrArg some (by kernel_rfl))
 f225:=Tryz.func357.trans (congrArg some (by kernel_rfl))
 f227:=Tryz.func280.trans (congrArg some (by kernel_rfl))
 f228:=Tryz.func334.trans (congrArg some (by kernel_rfl))
 f231:=Tryz.func278.trans (congrArg some (by kernel_rfl))
 f233:=Tryz.func281.trans (congrArg some (by kernel_rfl))
 f235:=Tryz.func283.trans (congrArg some (by kernel_rfl))
 f260:=Tryz.func360.trans (congrArg some (by kernel_rfl))
 f266:=Tryz.func376.trans (congrArg some (by kernel_rfl))
 t0:=Tryz.underlying0
 a0:=Tryz.isAgg0
 z0:=Tryz.sizeOf0
 v0:=Tryz.zeroValue0
 t3:=Tryz.underlying3
 a3:=Tryz.isAgg3
 z3:=Tryz.sizeOf3
 v3:=Tryz.zeroValue3
 t4:=Tryz.underlying4
 a4:=Tryz.isAgg4
 z4:=Tryz.sizeOf4
 v4:=Tryz.zeroValue4
 t5:=Tryz.underlying5
 a5:=Tryz.isAgg5
 z5:=Tryz.sizeOf5
 v5:=Tryz.zeroValue5
 t9:=Tryz.underlying9
 a9:=Tryz.isAgg9
 z9:=Tryz.sizeOf9
 v9:=Tryz.zeroValue9
 t21:=Tryz.underlying21
 a21:=Tryz.isAgg21
 z21:=Tryz.sizeOf21
 v21:=Tryz.zeroValue21
 t46:=Tryz.underlying243
 a46:=Tryz.isAgg243
 z46:=Tryz.sizeOf243
 v46:=Tryz.zeroValue243
 t105:=Tryz.underlying316
 a105:=Tryz.isAgg316
 z105:=Tryz.sizeOf316
 v105:=Tryz.zeroValue316
 t116:=Tryz.underlying279
 a116:=Tryz.isAgg279
 z116:=Tryz.sizeOf279
 t117:=Tryz.underlying280
 a117:=Tryz.isAgg280
 z117:=Tryz.sizeOf280
 v117:=Tryz.zeroValue280
 t119:=Tryz.underlying351
 a119:=Tryz.isAgg351
 z119:=Tryz.sizeOf351
 t124:=Tryz.underlying283
 a124:=Tryz.isAgg283
 z124:=Tryz.sizeOf283
 v124:=Tryz.zeroValue283
 t138:=Tryz.underlying353
 a138:=Tryz.isAgg353
 z138:=Tryz.sizeOf353
 v138:=Tryz.zeroValue353
 t139:=Tryz.underlying354
 a139:=Tryz.isAgg354
 z139:=Tryz.sizeOf354
 v139:=Tryz.zeroValue354
 g3:=by kernel_rfl
 g4:=by kernel_rfl }
open Go.RowKit in
theorem Tryz.strings_TrimLeft_one(s:ByteArray)(c:UInt8)(hc:c.toNat<128)(w:World) :
  Calls Tryz.prog 208 #[.string s,.string ⟨#[c]⟩] w fun e w'=>e = .returned (.string ⟨(Lib.trimLeftB s.data.toList c).toArray⟩)∧w'=w:=Any.strings_TrimLeft_one Tryz.lays161 s c hc w
def Tryz.lays160_ren:Go.Shelf.Ren:=⟨fun | 160=>203 | 232=>279 | 231=>278 | 227=>280 | 234=>282 | 233=>281 | 236=>284 | 235=>283 | 228=>334 | 271=>337 | 151=>336 | 197=>335 | 120=>362 | 152=>361 | 260=>360 | 137=>378 | 119=>379 | 224=>358 | 225=>357 | 217=>356 | 266=>376|n=>n,fun | 9=>9 | 4=>4 | 3=>3 | 5=>5 | 117=>280 | 116=>279 | 0=>0 | 124=>283 | 21=>21 | 105=>316 | 46=>243 | 119=>351 | 139=>354 | 138=>353|n=>n,fun | 3=>4 | 4=>5|n=>n⟩
theorem Tryz.lays160:Go.Proofs.Lays.n160 Tryz.prog Tryz.lays160_ren:={
 mixed:=by kernel_rfl
 f119:=Tryz.func379.trans (congrArg some (by kernel_rfl))
 f120:=Tryz.func362.trans (congrArg some (by kernel_rfl))
 f137:=Tryz.func378.trans (congrArg some (by kernel_rfl))
 f151:=Tryz.func336.trans (congrArg some (by kernel_rfl))
 f152:=Tryz.func361.trans (congrArg some (by kernel_rfl))
 f160:=Tryz.func203.trans (congrArg some (by kernel_rfl))
 f197:=Tryz.func335.trans (congrArg some (by kernel_rfl))
 f217:=Tryz.func356.trans (congrArg some (by kernel_rfl))
 f224:=Tryz.func358.trans (congrArg some (by kernel_rfl))
 f225:=Tryz.func357.trans (congrArg some (by kernel_rfl))
 f227:=Tryz.func280.trans (congrArg some (by kernel_rfl))
 f228:=Tryz.func334.trans (congrArg some (by kernel_rfl))
 f231:=Tryz.func278.trans (congrArg some (by kernel_rfl))
 f232:=Tryz.func279.trans (congrArg some (by kernel_rfl))
 f233:=Tryz.func281.trans (congrArg some (by kernel_rfl))
 f234:=Tryz.func282.trans (congrArg some (by kernel_rfl))
 f235:=Tryz.func283.trans (congrArg some (by kernel_rfl))
 f236:=Tryz.func284.trans (congrArg some (by kernel_rfl))
 f260:=Tryz.func360.trans (congrArg some (by kernel_rfl))
 f266:=Tryz.func376.trans (congrArg some (by kernel_rfl))
 f271:=Tryz.func337.trans (congrArg some (by kernel_rfl))
 t0:=Tryz.underlying0
 a0:=Tryz.isAgg0
 z0:=Tryz.sizeOf0
 v0:=Tryz.zeroValue0
 t3:=Tryz.underlying3
 a3:=Tryz.isAgg3
 z3:=Tryz.sizeOf3
 v3:=Tryz.zeroValue3
 t4:=Tryz.underlying4
 a4:=Tryz.isAgg4
 z4:=Tryz.sizeOf4
 v4:=Tryz.zeroValue4
 t5:=Tryz.underlying5
 a5:=Tryz.isAgg5
 z5:=Tryz.sizeOf5
 v5:=Tryz.zeroValue5
 t9:=Tryz.underlying9
 a9:=Tryz.isAgg9
 z9:=Tryz.sizeOf9
 v9:=Tryz.zeroValue9
 t21:=Tryz.underlying21
 a21:=Tryz.isAgg21
 z21:=Tryz.sizeOf21
 v21:=Tryz.zeroValue21
 t46:=Tryz.underlying243
 a46:=Tryz.isAgg243
 z46:=Tryz.sizeOf243
 v46:=Tryz.zeroValue243
 t105:=Tryz.underlying316
 a105:=Tryz.isAgg316
 z105:=Tryz.sizeOf316
 v105:=Tryz.zeroValue316
 t116:=Tryz.underlying279
 a116:=Tryz.isAgg279
 z116:=Tryz.sizeOf279
 t117:=Tryz.underlying280
 a117:=Tryz.isAgg280
 z117:=Tryz.sizeOf280
 v117:=Tryz.zeroValue280
 t119:=Tryz.underlying351
 a119:=Tryz.isAgg351
 z119:=Tryz.sizeOf351
 t124:=Tryz.underlying283
 a124:=Tryz.isAgg283
 z124:=Tryz.sizeOf283
 v124:=Tryz.zeroValue283
 t138:=Tryz.underlying353
 a138:=Tryz.isAgg353
 z138:=Tryz.sizeOf353
 v138:=Tryz.zeroValue353
 t139:=Tryz.underlying354
 a139:=Tryz.isAgg354
 z139:=Tryz.sizeOf354
 v139:=Tryz.zeroValue354
 g3:=by kernel_rfl
 g4:=by kernel_rfl }
def Tryz.lays210_ren:Go.Shelf.Ren:=⟨fun | 210=>285 | 206=>299|n=>n,fun | 9=>9 | 4=>4 | 3=>3|n=>n,fun|n=>n⟩
def Tryz.lays103_ren:Go.Shelf.Ren:=⟨fun | 103=>207 | 210=>285 | 206=>299|n=>n,fun | 9=>9 | 4=>4 | 24=>171 | 3=>3|n=>n,fun|n=>n⟩
theorem Tryz.lays103:Go.Proofs.Lays.n103 Tryz.prog Tryz.lays103_ren:={
 mixed:=by kernel_rfl
 f103:=Tryz.func207.trans (congrArg some (by kernel_rfl))
 f206:=Tryz.func299.trans (congrArg some (by kernel_rfl))
 f210:=Tryz.func285.trans (congrArg some (by kernel_rfl))
 t3:=Tryz.underlying3
 a3:=Tryz.isAgg3
 z3:=Tryz.sizeOf3
 v3:=Tryz.zeroValue3
 t4:=Tryz.underlying4
 a4:=Tryz.isAgg4
 z4:=Tryz.sizeOf4
 v4:=Tryz.zeroValue4
 t9:=Tryz.underlying9
 a9:=Tryz.isAgg9
 z9:=Tryz.sizeOf9
 v9:=Tryz.zeroValue9
 t24:=Tryz.underlying171
 a24:=Tryz.isAgg171
 z24:=Tryz.sizeOf171
 v24:=Tryz.zeroValue171 }
open Go.RowKit in
theorem Tryz.strings_CutPrefix(s p:ByteArray)(w:World) :
  Calls Tryz.prog 207 #[.string s,.string p] w fun e w'=>e = .returned (.tuple #[.string ⟨(Lib.trimPrefix s.data.toList p.data.toList).toArray⟩,.bool (Lib.hasPrefix s.data.toList p.data.toList)])∧w'=w:=Any.strings_CutPrefix Tryz.lays103 s p w
def Tryz.lays215_ren:Go.Shelf.Ren:=⟨fun | 215=>348|n=>n,fun | 3=>3 | 4=>4|n=>n,fun|n=>n⟩
def Tryz.lays122_ren:Go.Shelf.Ren:=⟨fun | 122=>304 | 215=>348|n=>n,fun | 3=>3 | 4=>4|n=>n,fun|n=>n⟩
theorem Tryz.lays122:Go.Proofs.Lays.n122 Tryz.prog Tryz.lays122_ren:={
 mixed:=by kernel_rfl
 f122:=Tryz.func304.trans (congrArg some (by kernel_rfl))
 f215:=Tryz.func348.trans (congrArg some (by kernel_rfl))
 t3:=Tryz.underlying3
 a3:=Tryz.isAgg3
 z3:=Tryz.sizeOf3
 v3:=Tryz.zeroValue3
 t4:=Tryz.underlying4
 a4:=Tryz.isAgg4
 z4:=Tryz.sizeOf4
 v4:=Tryz.zeroValue4 }
open Go.RowKit in
theorem Tryz.cmp_Compare_int(x y:Int)(w:World) :
  Calls Tryz.prog 304 #[.int .i64 x,.int .i64 y] w fun e w'=>e = .returned (.int .i64 (Lib.compareInt x y))∧w'=w:=Any.cmp_Compare_int Tryz.lays122 x y w
open Go.RowKit in
theorem Tryz.Builder_String_any_f(B b:Nat)(l:List UInt8)(w:World)(h:Lib.IsBuilderF 182 5 B b (Lib.byteCells l) w)(hBw:B<=w.heap.size) :
  Calls Tryz.prog 147 #[.pointer (some ⟨b,0,none⟩)] w fun e w'=>e = .returned (.string ⟨l.toArray⟩)∧(Lib.IsBuilderF 182 5 B b (Lib.byteCells l) w'∧Below B w w'):=Any.Builder_String_any_f Tryz.lays169 Tryz.Builder_Extra_169 B b l w h hBw
def Tryz.lays172_ren:Go.Shelf.Ren:=⟨fun | 172=>186 | 244=>270 | 245=>210 | 247=>329 | 279=>288 | 280=>289 | 281=>290 | 282=>291 | 287=>209 | 316=>338 | 171=>187 | 205=>339 | 321=>286 | 322=>287 | 243=>271 | 246=>330 | 283=>293 | 284=>294 | 285=>295 | 286=>296 | 129=>341 | 317=>340 | 318=>342 | 319=>343 | 320=>344 | 337=>363 | 338=>364|n=>n,fun | 9=>9 | 3=>3 | 75=>175 | 76=>184 | 4=>4 | 5=>5 | 167=>284 | 37=>159 | 0=>0 | 85=>310 | 2=>2 | 168=>286 | 53=>173 | 175=>176 | 46=>243 | 210=>321 | 127=>249 | 145=>340 | 143=>338 | 21=>21 | 171=>291 | 173=>294 | 212=>325 | 51=>296 | 20=>20 | 213=>326 | 232=>356 | 233=>357 | 80=>188|n=>n,fun | 15=>0 | 16=>1 | 17=>2 | 18=>6 | 19=>7|n=>n⟩
def Tryz.lays283_ren:Go.Shelf.Ren:=⟨fun | 283=>293|n=>n,fun | 3=>3 | 9=>9 | 4=>4|n=>n,fun|n=>n⟩
theorem Tryz.lays283:Go.Proofs.Lays.n283 Tryz.prog Tryz.lays283_ren:={
 mixed:=by kernel_rfl
 f283:=Tryz.func293.trans (congrArg some (by kernel_rfl))
 t3:=Tryz.underlying3
 a3:=Tryz.isAgg3
 z3:=Tryz.sizeOf3
 v3:=Tryz.zeroValue3
 t4:=Tryz.underlying4
 a4:=Tryz.isAgg4
 z4:=Tryz.sizeOf4
 v4:=Tryz.zeroValue4
 t9:=Tryz.underlying9
 a9:=Tryz.isAgg9
 z9:=Tryz.sizeOf9
 v9:=Tryz.zeroValue9 }
open Go.Lib in
theorem Tryz.internal_strconv_small(i:Nat)(h:i<100)(w:World) :
  Calls Tryz.prog 293 #[.int .i64 i] w fun e w'=>e = .returned (.string ⟨(Lib.decDigits i).toArray⟩)∧w'=w:=Any.internal_strconv_small Tryz.lays283 i h w
def Tryz.laysM284_ren:Go.Shelf.Ren:=⟨fun | 284=>294 | 129=>341 | 317=>340 | 318=>342|n=>n,fun | 53=>173 | 3=>3 | 212=>325 | 0=>0 | 4=>4 | 46=>243 | 5=>5 | 9=>9|n=>n,fun | 17=>2|n=>n⟩
theorem Tryz.laysM284:Go.Proofs.LaysM.n284 Tryz.prog Tryz.laysM284_ren:={
 mixed:=by kernel_rfl
 f129:=Tryz.func341.trans (congrArg some (by kernel_rfl))
 f284:=Tryz.func294.trans (congrArg some (by kernel_rfl))
 f317:=Tryz.func340.trans (congrArg some (by kernel_rfl))
 f318:=Tryz.func342.trans (congrArg some (by kernel_rfl))
 t0:=Tryz.underlying0
 a0:=Tryz.isAgg0
 z0:=Tryz.sizeOf0
 v0:=Tryz.zeroValue0
 t3:=Tryz.underlying3
 a3:=Tryz.isAgg3
 z3:=Tryz.sizeOf3
 v3:=Tryz.zeroValue3
 t4:=Tryz.underlying4
 a4:=Tryz.isAgg4
 z4:=Tryz.sizeOf4
 v4:=Tryz.zeroValue4
 t5:=Tryz.underlying5
 a5:=Tryz.isAgg5
 z5:=Tryz.sizeOf5
 v5:=Tryz.zeroValue5
 t9:=Tryz.underlying9
 a9:=Tryz.isAgg9
 z9:=Tryz.sizeOf9
 v9:=Tryz.zeroValue9
 t46:=Tryz.underlying243
 a46:=Tryz.isAgg243
 z46:=Tryz.sizeOf243
 v46:=Tryz.zeroValue243
 t53:=Tryz.underlying173
 a53:=Tryz.isAgg173
 z53:=Tryz.sizeOf173
 v53:=Tryz.zeroValue173
 t212:=Tryz.underlying325
 a212:=Tryz.isAgg325
 z212:=Tryz.sizeOf325
 v212:=Tryz.zeroValue325
 g17:=by kernel_rfl
 i0:=by kernel_rfl
 i3:=by kernel_rfl
 i4:=by kernel_rfl
 i5:=by kernel_rfl
 i9:=by kernel_rfl
 i46:=by kernel_rfl
 i53:=by kernel_rfl
 i212:=by kernel_rfl
 m17:=by kernel_rfl }
open Go.Lib in
theorem Tryz.internal_strconv_numDigits(u:Nat)(h1:1<=u)(h2:u<18446744073709551616)(w:World)(htab:Lib.TabIs Tryz.prog w "internal/strconv.uint64pow10" .u64 Lib.pow10Tab) :
  Calls Tryz.prog 294 #[.int .u64 u] w fun e w'=>e = .returned (.int .i64 (Lib.nDigits u))∧w'=w:=Any.internal_strconv_numDigits Tryz.laysM284 u h1 h2 w htab
def Tryz.lays285_ren:Go.Shelf.Ren:=⟨fun | 285=>295|n=>n,fun | 37=>159 | 53=>173 | 3=>3 | 4=>4 | 51=>296 | 9=>9 | 5=>5 | 0=>0|n=>n,fun|n=>n⟩
theorem Tryz.lays285:Go.Proofs.Lays.n285 Tryz.prog Tryz.lays285_ren:={
 mixed:=by kernel_rfl
 f285:=Tryz.func295.trans (congrArg some (by kernel_rfl))
 t0:=Tryz.underlying0
 a0:=Tryz.isAgg0
 z0:=Tryz.sizeOf0
 v0:=Tryz.zeroValue0
 t3:=Tryz.underlying3
 a3:=Tryz.isAgg3
 z3:=Tryz.sizeOf3
 v3:=Tryz.zeroValue3
 t4:=Tryz.underlying4
 a4:=Tryz.isAgg4
 z4:=Tryz.sizeOf4
 v4:=Tryz.zeroValue4
 t5:=Tryz.underlying5
 a5:=Tryz.isAgg5
 z5:=Tryz.sizeOf5
 v5:=Tryz.zeroValue5
 t9:=Tryz.underlying9
 a9:=Tryz.isAgg9
 z9:=Tryz.sizeOf9
 v9:=Tryz.zeroValue9
 t37:=Tryz.underlying159
 a37:=Tryz.isAgg159
 z37:=Tryz.sizeOf159
 v37:=Tryz.zeroValue159
 t51:=Tryz.underlying296
 a51:=Tryz.isAgg296
 z51:=Tryz.sizeOf296
 v51:=Tryz.zeroValue296
 t53:=Tryz.underlying173
 a53:=Tryz.isAgg173
 z53:=Tryz.sizeOf173
 v53:=Tryz.zeroValue173 }
open Go.RowKit Go.Sort Go.Lib in
theorem Tryz.internal_strconv_formatBase10(blk off cap:Nat)(u:Nat)(d:Array UInt8)(w:World)(hH:Holds (fun(b:UInt8)=>Value.int .u8 (b.toNat:Int)) w blk off d)(hu:u<10 ^ d.size)(hu64:u<18446744073709551616)(hsz:d.size<4611686018427387904) :
  Calls Tryz.prog 295 #[.slice (some ⟨blk,off,none⟩) d.size cap,.int .u64 u] w fun e w' =>
   e = .returned (.tuple #[])∧∃(n v':Nat) (dk:Array UInt8),w'=(putRow (fun(b:UInt8)=>Value.int .u8 (b.toNat:Int)) w blk off dk).drewN n∧FmtInv d.size u 0 v' dk:=Any.internal_strconv_formatBase10 Tryz.lays285 blk off cap u d w hH hu hu64 hsz
def Tryz.laysM246_ren:Go.Shelf.Ren:=⟨fun | 246=>330 | 283=>293 | 284=>294 | 285=>295 | 286=>296 | 129=>341 | 317=>340 | 318=>342 | 319=>343 | 320=>344 | 337=>363 | 338=>364|n=>n,fun | 2=>2 | 3=>3 | 9=>9 | 4=>4 | 171=>291 | 0=>0 | 53=>173 | 37=>159 | 5=>5 | 173=>294 | 212=>325 | 51=>296 | 20=>20 | 213=>326 | 46=>243 | 232=>356 | 233=>357|n=>n,fun | 17=>2 | 18=>6 | 19=>7|n=>n⟩
def Tryz.laysM243_ren:Go.Shelf.Ren:=⟨fun | 243=>271 | 246=>330 | 283=>293 | 284=>294 | 285=>295 | 286=>296 | 129=>341 | 317=>340 | 318=>342 | 319=>343 | 320=>344 | 337=>363 | 338=>364|n=>n,fun | 3=>3 | 9=>9 | 2=>2 | 4=>4 | 171=>291 | 0=>0 | 53=>173 | 37=>159 | 5=>5 | 173=>294 | 212=>325 | 51=>296 | 20=>20 | 213=>326 | 46=>243 | 232=>356 | 233=>357|n=>n,fun | 17=>2 | 18=>6 | 19=>7|n=>n⟩
def Tryz.laysM171_ren:Go.Shelf.Ren:=⟨fun | 171=>187 | 243=>271 | 246=>330 | 283=>293 | 284=>294 | 285=>295 | 286=>296 | 129=>341 | 317=>340 | 318=>342 | 319=>343 | 320=>344 | 337=>363 | 338=>364|n=>n,fun | 3=>3 | 9=>9 | 2=>2 | 4=>4 | 171=>291 | 0=>0 | 53=>173 | 37=>159 | 5=>5 | 173=>294 | 212=>325 | 51=>296 | 20=>20 | 213=>326 | 46=>243 | 232=>356 | 233=>357|n=>n,fun | 17=>2 | 18=>6 | 19=>7|n=>n⟩
theorem Tryz.laysM171:Go.Proofs.LaysM.n171 Tryz.prog Tryz.laysM171_ren:={
 mixed:=by kernel_rfl
 f129:=Tryz.func341.trans (congrArg some (by kernel_rfl))
 f171:=Tryz.func187.trans (congrArg some (by kernel_rfl))
 f243:=Tryz.func271.trans (congrArg some (by kernel_rfl))
 f246:=Tryz.func330.trans (congrArg some (by kernel_rfl))
 f283:=Tryz.func293.trans (congrArg some (by kernel_rfl))
 f284:=Tryz.func294.trans (congrArg some (by kernel_rfl))
 f285:=Tryz.func295.trans (congrArg some (by kernel_rfl))
 f286:=Tryz.func296.trans (congrArg some (by kernel_rfl))
 f317:=Tryz.func340.trans (congrArg some (by kernel_rfl))
 f318:=Tryz.func342.trans (congrArg some (by kernel_rfl))
 f319:=Tryz.func343.trans (congrArg some (by kernel_rfl))
 f320:=Tryz.func344.trans (congrArg some (by kernel_rfl))
 f337:=Tryz.func363.trans (congrArg some (by kernel_rfl))
 f338:=Tryz.func364.trans (congrArg some (by kernel_rfl))
 t0:=Tryz.underlying0
 a0:=Tryz.isAgg0
 z0:=Tryz.sizeOf0
 v0:=Tryz.zeroValue0
 t2:=Tryz.underlying2
 a2:=Tryz.isAgg2
 z2:=Tryz.sizeOf2
 v2:=Tryz.zeroValue2
 t3:=Tryz.underlying3
 a3:=Tryz.isAgg3
 z3:=Tryz.sizeOf3
 v3:=Tryz.zeroValue3
 t4:=Tryz.underlying4
 a4:=Tryz.isAgg4
 z4:=Tryz.sizeOf4
 v4:=Tryz.zeroValue4
 t5:=Tryz.underlying5
 a5:=Tryz.isAgg5
 z5:=Tryz.sizeOf5
 v5:=Tryz.zeroValue5
 t9:=Tryz.underlying9
 a9:=Tryz.isAgg9
 z9:=Tryz.sizeOf9
 v9:=Tryz.zeroValue9
 t20:=Tryz.underlying20
 a20:=Tryz.isAgg20
 z20:=Tryz.sizeOf20
 v20:=Tryz.zeroValue20
 t37:=Tryz.underlying159
 a37:=Tryz.isAgg159
 z37:=Tryz.sizeOf159
 v37:=Tryz.zeroValue159
 t46:=Tryz.underlying243
 a46:=Tryz.isAgg243
 z46:=Tryz.sizeOf243
 v46:=Tryz.zeroValue243
 t51:=Tryz.underlying296
 a51:=Tryz.isAgg296
 z51:=Tryz.sizeOf296
 v51:=Tryz.zeroValue296
 t53:=Tryz.underlying173
 a53:=Tryz.isAgg173
 z53:=Tryz.sizeOf173
 v53:=Tryz.zeroValue173
 t171:=Tryz.underlying291
 a171:=Tryz.isAgg291
 z171:=Tryz.sizeOf291
 v171:=Tryz.zeroValue291
 t173:=Tryz.underlying294
 a173:=Tryz.isAgg294
 z173:=Tryz.sizeOf294
 v173:=Tryz.zeroValue294
 t212:=Tryz.underlying325
 a212:=Tryz.isAgg325
 z212:=Tryz.sizeOf325
 v212:=Tryz.zeroValue325
 t213:=Tryz.underlying326
 a213:=Tryz.isAgg326
 z213:=Tryz.sizeOf326
 t232:=Tryz.underlying356
 a232:=Tryz.isAgg356
 z232:=Tryz.sizeOf356
 v232:=Tryz.zeroValue356
 t233:=Tryz.underlying357
 a233:=Tryz.isAgg357
 z233:=Tryz.sizeOf357
 v233:=Tryz.zeroValue357
 g17:=by kernel_rfl
 g18:=by kernel_rfl
 g19:=by kernel_rfl
 i0:=by kernel_rfl
 i2:=by kernel_rfl
 i3:=by kernel_rfl
 i4:=by kernel_rfl
 i5:=by kernel_rfl
 i9:=by kernel_rfl
 i20:=by kernel_rfl
 i37:=by kernel_rfl
 i46:=by kernel_rfl
 i51:=by kernel_rfl
 i53:=by kernel_rfl
 i171:=by kernel_rfl
 i173:=by kernel_rfl
 i212:=by kernel_rfl
 i232:=by kernel_rfl
 i233:=by kernel_rfl
 m17:=by kernel_rfl
 m18:=by kernel_rfl
 m19:=by kernel_rfl }
open Go.RowKit Go.Sort Go.Lib in
theorem Tryz.strconv_Itoa(n:Int)(h0 : -9223372036854775808<=n)(h1:n<=9223372036854775807)(w:World)(htab:Lib.TabIs Tryz.prog w "internal/strconv.uint64pow10" .u64 Lib.pow10Tab) :
  Calls Tryz.prog 187 #[.int .i64 n] w fun e w'=>e = .returned (.string ⟨(Lib.itoa n).toArray⟩)∧∃k os,w'=grow (w.drewN k) os:=Any.strconv_Itoa Tryz.laysM171 n h0 h1 w htab
def Tryz.laysC172_ren:Go.Shelf.Ren:=⟨fun | 172=>186 | 244=>270 | 245=>210 | 247=>329 | 279=>288 | 280=>289 | 281=>290 | 282=>291 | 287=>209 | 316=>338 | 171=>187 | 205=>339 | 321=>286 | 322=>287 | 243=>271 | 246=>330 | 283=>293 | 284=>294 | 285=>295 | 286=>296 | 129=>341 | 317=>340 | 318=>342 | 319=>343 | 320=>344 | 337=>363 | 338=>364|n=>n,fun | 9=>9 | 3=>3 | 75=>175 | 76=>184 | 4=>4 | 5=>5 | 167=>284 | 37=>159 | 0=>0 | 85=>310 | 2=>2 | 168=>286 | 53=>173 | 175=>176 | 46=>243 | 210=>321 | 127=>249 | 145=>340 | 143=>338 | 21=>21 | 171=>291 | 173=>294 | 212=>325 | 51=>296 | 20=>20 | 213=>326 | 232=>356 | 233=>357 | 80=>188|n=>n,fun | 15=>0 | 16=>1 | 17=>2 | 18=>6 | 19=>7|n=>n⟩
theorem Tryz.laysC172:Go.Proofs.LaysC.n172 Tryz.prog Tryz.laysC172_ren:={
 mixed:=by kernel_rfl
 f129:=Tryz.func341.trans (congrArg some (by kernel_rfl))
 f171:=Tryz.func187.trans (congrArg some (by kernel_rfl))
 f172:=Tryz.func186.trans (congrArg some (by kernel_rfl))
 f205:=Tryz.func339.trans (congrArg some (by kernel_rfl))
 f243:=Tryz.func271.trans (congrArg some (by kernel_rfl))
 f244:=Tryz.func270.trans (congrArg some (by kernel_rfl))
 f245:=Tryz.func210.trans (congrArg some (by kernel_rfl))
 f246:=Tryz.func330.trans (congrArg some (by kernel_rfl))
 f247:=Tryz.func329.trans (congrArg some (by kernel_rfl))
 f279:=Tryz.func288.trans (congrArg some (by kernel_rfl))
 f280:=Tryz.func289.trans (congrArg some (by kernel_rfl))
 f281:=Tryz.func290.trans (congrArg some (by kernel_rfl))
 f282:=Tryz.func291.trans (congrArg some (by kernel_rfl))
 f283:=Tryz.func293.trans (congrArg some (by kernel_rfl))
 f284:=Tryz.func294.trans (congrArg some (by kernel_rfl))
 f285:=Tryz.func295.trans (congrArg some (by kernel_rfl))
 f286:=Tryz.func296.trans (congrArg some (by kernel_rfl))
 f287:=Tryz.func209.trans (congrArg some (by kernel_rfl))
 f316:=Tryz.func338.trans (congrArg some (by kernel_rfl))
 f317:=Tryz.func340.trans (congrArg some (by kernel_rfl))
 f318:=Tryz.func342.trans (congrArg some (by kernel_rfl))
 f319:=Tryz.func343.trans (congrArg some (by kernel_rfl))
 f320:=Tryz.func344.trans (congrArg some (by kernel_rfl))
 f321:=Tryz.func286.trans (congrArg some (by kernel_rfl))
 f322:=Tryz.func287.trans (congrArg some (by kernel_rfl))
 f337:=Tryz.func363.trans (congrArg some (by kernel_rfl))
 f338:=Tryz.func364.trans (congrArg some (by kernel_rfl))
 t0:=Tryz.underlying0
 a0:=Tryz.isAgg0
 z0:=Tryz.sizeOf0
 v0:=Tryz.zeroValue0
 t2:=Tryz.underlying2
 a2:=Tryz.isAgg2
 z2:=Tryz.sizeOf2
 v2:=Tryz.zeroValue2
 t3:=Tryz.underlying3
 a3:=Tryz.isAgg3
 z3:=Tryz.sizeOf3
 v3:=Tryz.zeroValue3
 t4:=Tryz.underlying4
 a4:=Tryz.isAgg4
 z4:=Tryz.sizeOf4
 v4:=Tryz.zeroValue4
 t5:=Tryz.underlying5
 a5:=Tryz.isAgg5
 z5:=Tryz.sizeOf5
 v5:=Tryz.zeroValue5
 t9:=Tryz.underlying9
 a9:=Tryz.isAgg9
 z9:=Tryz.sizeOf9
 v9:=Tryz.zeroValue9
 t20:=Tryz.underlying20
 a20:=Tryz.isAgg20
 z20:=Tryz.sizeOf20
 v20:=Tryz.zeroValue20
 t21:=Tryz.underlying21
 a21:=Tryz.isAgg21
 z21:=Tryz.sizeOf21
 v21:=Tryz.zeroValue21
 t37:=Tryz.underlying159
 a37:=Tryz.isAgg159
 z37:=Tryz.sizeOf159
 v37:=Tryz.zeroValue159
 t46:=Tryz.underlying243
 a46:=Tryz.isAgg243
 z46:=Tryz.sizeOf243
 v46:=Tryz.zeroValue243
 t51:=Tryz.underlying296
 a51:=Tryz.isAgg296
 z51:=Tryz.sizeOf296
 v51:=Tryz.zeroValue296
 t53:=Tryz.underlying173
 a53:=Tryz.isAgg173
 z53:=Tryz.sizeOf173
 v53:=Tryz.zeroValue173
 t75:=Tryz.underlying175
 a75:=Tryz.isAgg175
 z75:=Tryz.sizeOf175
 v75:=Tryz.zeroValue175
 t76:=Tryz.underlying184
 a76:=Tryz.isAgg184
 z76:=Tryz.sizeOf184
 v76:=Tryz.zeroValue184
 t85:=Tryz.underlying310
 a85:=Tryz.isAgg310
 z85:=Tryz.sizeOf310
 v85:=Tryz.zeroValue310
 t127:=Tryz.underlying249
 a127:=Tryz.isAgg249
 z127:=Tryz.sizeOf249
 v127:=Tryz.zeroValue249
 t143:=Tryz.underlying338
 a143:=Tryz.isAgg338
 z143:=Tryz.sizeOf338
 v143:=Tryz.zeroValue338
 t145:=Tryz.underlying340
 a145:=Tryz.isAgg340
 z145:=Tryz.sizeOf340
 v145:=Tryz.zeroValue340
 t167:=Tryz.underlying284
 a167:=Tryz.isAgg284
 z167:=Tryz.sizeOf284
 v167:=Tryz.zeroValue284
 t168:=Tryz.underlying286
 a168:=Tryz.isAgg286
 z168:=Tryz.sizeOf286
 v168:=Tryz.zeroValue286
 t171:=Tryz.underlying291
 a171:=Tryz.isAgg291
 z171:=Tryz.sizeOf291
 v171:=Tryz.zeroValue291
 t173:=Tryz.underlying294
 a173:=Tryz.isAgg294
 z173:=Tryz.sizeOf294
 v173:=Tryz.zeroValue294
 t175:=Tryz.underlying176
 a175:=Tryz.isAgg176
 z175:=Tryz.sizeOf176
 v175:=Tryz.zeroValue176
 t210:=Tryz.underlying321
 a210:=Tryz.isAgg321
 z210:=Tryz.sizeOf321
 v210:=Tryz.zeroValue321
 t212:=Tryz.underlying325
 a212:=Tryz.isAgg325
 z212:=Tryz.sizeOf325
 v212:=Tryz.zeroValue325
 t213:=Tryz.underlying326
 a213:=Tryz.isAgg326
 z213:=Tryz.sizeOf326
 t232:=Tryz.underlying356
 a232:=Tryz.isAgg356
 z232:=Tryz.sizeOf356
 v232:=Tryz.zeroValue356
 t233:=Tryz.underlying357
 a233:=Tryz.isAgg357
 z233:=Tryz.sizeOf357
 v233:=Tryz.zeroValue357
 g15:=by kernel_rfl
 g16:=by kernel_rfl
 g17:=by kernel_rfl
 g18:=by kernel_rfl
 g19:=by kernel_rfl
 t80:=Tryz.underlying188
 a80:=Tryz.isAgg188
 z80:=Tryz.sizeOf188
 v80:=Tryz.zeroValue188
 i0:=by kernel_rfl
 i2:=by kernel_rfl
 i3:=by kernel_rfl
 i4:=by kernel_rfl
 i5:=by kernel_rfl
 i9:=by kernel_rfl
 i20:=by kernel_rfl
 i21:=by kernel_rfl
 i37:=by kernel_rfl
 i46:=by kernel_rfl
 i51:=by kernel_rfl
 i53:=by kernel_rfl
 i75:=by kernel_rfl
 i76:=by kernel_rfl
 i80:=by kernel_rfl
 i85:=by kernel_rfl
 i127:=by kernel_rfl
 i143:=by kernel_rfl
 i145:=by kernel_rfl
 i167:=by kernel_rfl
 i168:=by kernel_rfl
 i171:=by kernel_rfl
 i173:=by kernel_rfl
 i175:=by kernel_rfl
 i210:=by kernel_rfl
 i212:=by kernel_rfl
 i232:=by kernel_rfl
 i233:=by kernel_rfl
 m15:=by kernel_rfl
 m16:=by kernel_rfl
 m17:=by kernel_rfl
 m18:=by kernel_rfl
 m19:=by kernel_rfl
 c0:=by kernel_rfl
 c2:=by kernel_rfl
 c3:=by kernel_rfl
 c4:=by kernel_rfl
 c5:=by kernel_rfl
 c9:=by kernel_rfl
 c20:=by kernel_rfl
 c21:=by kernel_rfl
 c37:=by kernel_rfl
 c46:=by kernel_rfl
 c51:=by kernel_rfl
 c53:=by kernel_rfl
 c75:=by kernel_rfl
 c76:=by kernel_rfl
 c80:=by kernel_rfl
 c85:=by kernel_rfl
 c127:=by kernel_rfl
 c143:=by kernel_rfl
 c145:=by kernel_rfl
 c167:=by kernel_rfl
 c168:=by kernel_rfl
 c171:=by kernel_rfl
 c173:=by kernel_rfl
 c175:=by kernel_rfl
 c210:=by kernel_rfl
 c212:=by kernel_rfl
 c213:=by kernel_rfl
 c232:=by kernel_rfl
 c233:=by kernel_rfl }
open Go.RowKit in
theorem Tryz.strconv_Atoi_ok(s:ByteArray)(hmax:s.size<=9223372036854775806)(v:Int)(h:Lib.atoiAll s.data.toList = .ok v)(w:World) :
  Calls Tryz.prog 186 #[.string s] w fun e w'=>e = .returned (.tuple #[.int .i64 v,.nilIface])∧(w'=w∨∃t,w'=Lib.bytesWorld w 5 t):=Any.strconv_Atoi_ok Tryz.laysC172 s hmax v h w
open Go.RowKit in
theorem Tryz.strconv_Atoi_range(s:ByteArray)(hlim:s.size<=281474976710656)(h:Lib.atoiAll s.data.toList = .range)(ev:Value)(w:World)(hv:w.cell? ⟨1,0,none⟩=some ev)(hev:ev = .nilIface∨∃te pe,ev = .iface te pe) :
  Calls Tryz.prog 186 #[.string s] w fun e w'=>∃N,e = .returned (.tuple #[.int .i64 (Lib.atoiSat s.data.toList),.iface 286 (.pointer (some ⟨N,0,none⟩))])∧w.heap.size<=N∧w'.heap[N]? = some (.cells #[.string ⟨#[65,116,111,105]⟩,.string s,ev] 321 (0,0))∧Below w.heap.size w w':=Any.strconv_Atoi_range Tryz.laysC172 s hlim h ev w hv hev
def Tryz.laysC174_ren:Go.Shelf.Ren:=⟨fun | 174=>349 | 247=>329 | 245=>210 | 287=>209 | 279=>288 | 280=>289 | 281=>290 | 282=>291 | 321=>286 | 322=>287 | 316=>338 | 171=>187 | 205=>339 | 243=>271 | 246=>330 | 283=>293 | 284=>294 | 285=>295 | 286=>296 | 129=>341 | 317=>340 | 318=>342 | 319=>343 | 320=>344 | 337=>363 | 338=>364|n=>n,fun | 9=>9 | 3=>3 | 2=>2 | 75=>175 | 85=>310 | 4=>4 | 167=>284 | 5=>5 | 53=>173 | 175=>176 | 46=>243 | 168=>286 | 37=>159 | 0=>0 | 210=>321 | 21=>21 | 127=>249 | 145=>340 | 143=>338 | 171=>291 | 173=>294 | 212=>325 | 51=>296 | 20=>20 | 213=>326 | 232=>356 | 233=>357 | 80=>188|n=>n,fun | 15=>0 | 16=>1 | 17=>2 | 18=>6 | 19=>7|n=>n⟩
theorem Tryz.laysC174:Go.Proofs.LaysC.n174 Tryz.prog Tryz.laysC174_ren:={
 mixed:=by kernel_rfl
 f129:=Tryz.func341.trans (congrArg some (by kernel_rfl))
 f171:=Tryz.func187.trans (congrArg some (by kernel_rfl))
 f174:=Tryz.func349.trans (congrArg some (by kernel_rfl))
 f205:=Tryz.func339.trans (congrArg some (by kernel_rfl))
 f243:=Tryz.func271.trans (congrArg some (by kernel_rfl))
 f245:=Tryz.func210.trans (congrArg some (by kernel_rfl))
 f246:=Tryz.func330.trans (congrArg some (by kernel_rfl))
 f247:=Tryz.func329.trans (congrArg some (by kernel_rfl))
 f279:=Tryz.func288.trans (congrArg some (by kernel_rfl))
 f280:=Tryz.func289.trans (congrArg some (by kernel_rfl))
 f281:=Tryz.func290.trans (congrArg some (by kernel_rfl))
 f282:=Tryz.func291.trans (congrArg some (by kernel_rfl))
 f283:=Tryz.func293.trans (congrArg some (by kernel_rfl))
 f284:=Tryz.func294.trans (congrArg some (by kernel_rfl))
 f285:=Tryz.func295.trans (congrArg some (by kernel_rfl))
 f286:=Tryz.func296.trans (congrArg some (by kernel_rfl))
 f287:=Tryz.func209.trans (congrArg some (by kernel_rfl))
 f316:=Tryz.func338.trans (congrArg some (by kernel_rfl))
 f317:=Tryz.func340.trans (congrArg some (by kernel_rfl))
 f318:=Tryz.func342.trans (congrArg some (by kernel_rfl))
 f319:=Tryz.func343.trans (congrArg some (by kernel_rfl))
 f320:=Tryz.func344.trans (congrArg some (by kernel_rfl))
 f321:=Tryz.func286.trans (congrArg some (by kernel_rfl))
 f322:=Tryz.func287.trans (congrArg some (by kernel_rfl))
 f337:=Tryz.func363.trans (congrArg some (by kernel_rfl))
 f338:=Tryz.func364.trans (congrArg some (by kernel_rfl))
 t0:=Tryz.underlying0
 a0:=Tryz.isAgg0
 z0:=Tryz.sizeOf0
 v0:=Tryz.zeroValue0
 t2:=Tryz.underlying2
 a2:=Tryz.isAgg2
 z2:=Tryz.sizeOf2
 v2:=Tryz.zeroValue2
 t3:=Tryz.underlying3
 a3:=Tryz.isAgg3
 z3:=Tryz.sizeOf3
 v3:=Tryz.zeroValue3
 t4:=Tryz.underlying4
 a4:=Tryz.isAgg4
 z4:=Tryz.sizeOf4
 v4:=Tryz.zeroValue4
 t5:=Tryz.underlying5
 a5:=Tryz.isAgg5
 z5:=Tryz.sizeOf5
 v5:=Tryz.zeroValue5
 t9:=Tryz.underlying9
 a9:=Tryz.isAgg9
 z9:=Tryz.sizeOf9
 v9:=Tryz.zeroValue9
 t20:=Tryz.underlying20
 a20:=Tryz.isAgg20
 z20:=Tryz.sizeOf20
 v20:=Tryz.zeroValue20
 t21:=Tryz.underlying21
 a21:=Tryz.isAgg21
 z21:=Tryz.sizeOf21
 v21:=Tryz.zeroValue21
 t37:=Tryz.underlying159
 a37:=Tryz.isAgg159
 z37:=Tryz.sizeOf159
 v37:=Tryz.zeroValue159
 t46:=Tryz.underlying243
 a46:=Tryz.isAgg243
 z46:=Tryz.sizeOf243
 v46:=Tryz.zeroValue243
 t51:=Tryz.underlying296
 a51:=Tryz.isAgg296
 z51:=Tryz.sizeOf296
 v51:=Tryz.zeroValue296
 t53:=Tryz.underlying173
 a53:=Tryz.isAgg173
 z53:=Tryz.sizeOf173
 v53:=Tryz.zeroValue173
 t75:=Tryz.underlying175
 a75:=Tryz.isAgg175
 z75:=Tryz.sizeOf175
 v75:=Tryz.zeroValue175
 t85:=Tryz.underlying310
 a85:=Tryz.isAgg310
 z85:=Tryz.sizeOf310
 v85:=Tryz.zeroValue310
 t127:=Tryz.underlying249
 a127:=Tryz.isAgg249
 z127:=Tryz.sizeOf249
 v127:=Tryz.zeroValue249
 t143:=Tryz.underlying338
 a143:=Tryz.isAgg338
 z143:=Tryz.sizeOf338
 v143:=Tryz.zeroValue338
 t145:=Tryz.underlying340
 a145:=Tryz.isAgg340
 z145:=Tryz.sizeOf340
 v145:=Tryz.zeroValue340
 t167:=Tryz.underlying284
 a167:=Tryz.isAgg284
 z167:=Tryz.sizeOf284
 v167:=Tryz.zeroValue284
 t168:=Tryz.underlying286
 a168:=Tryz.isAgg286
 z168:=Tryz.sizeOf286
 v168:=Tryz.zeroValue286
 t171:=Tryz.underlying291
 a171:=Tryz.isAgg291
 z171:=Tryz.sizeOf291
 v171:=Tryz.zeroValue291
 t173:=Tryz.underlying294
 a173:=Tryz.isAgg294
 z173:=Tryz.sizeOf294
 v173:=Tryz.zeroValue294
 t175:=Tryz.underlying176
 a175:=Tryz.isAgg176
 z175:=Tryz.sizeOf176
 v175:=Tryz.zeroValue176
 t210:=Tryz.underlying321
 a210:=Tryz.isAgg321
 z210:=Tryz.sizeOf321
 v210:=Tryz.zeroValue321
 t212:=Tryz.underlying325
 a212:=Tryz.isAgg325
 z212:=Tryz.sizeOf325
 v212:=Tryz.zeroValue325
 t213:=Tryz.underlying326
 a213:=Tryz.isAgg326
 z213:=Tryz.sizeOf326
 t232:=Tryz.underlying356
 a232:=Tryz.isAgg356
 z232:=Tryz.sizeOf356
 v232:=Tryz.zeroValue356
 t233:=Tryz.underlying357
 a233:=Tryz.isAgg357
 z233:=Tryz.sizeOf357
 v233:=Tryz.zeroValue357
 g15:=by kernel_rfl
 g16:=by kernel_rfl
 g17:=by kernel_rfl
 g18:=by kernel_rfl
 g19:=by kernel_rfl
 t80:=Tryz.underlying188
 a80:=Tryz.isAgg188
 z80:=Tryz.sizeOf188
 v80:=Tryz.zeroValue188
 i0:=by kernel_rfl
 i2:=by kernel_rfl
 i3:=by kernel_rfl
 i4:=by kernel_rfl
 i5:=by kernel_rfl
 i9:=by kernel_rfl
 i20:=by kernel_rfl
 i21:=by kernel_rfl
 i37:=by kernel_rfl
 i46:=by kernel_rfl
 i51:=by kernel_rfl
 i53:=by kernel_rfl
 i75:=by kernel_rfl
 i80:=by kernel_rfl
 i85:=by kernel_rfl
 i127:=by kernel_rfl
 i143:=by kernel_rfl
 i145:=by kernel_rfl
 i167:=by kernel_rfl
 i168:=by kernel_rfl
 i171:=by kernel_rfl
 i173:=by kernel_rfl
 i175:=by kernel_rfl
 i210:=by kernel_rfl
 i212:=by kernel_rfl
 i232:=by kernel_rfl
 i233:=by kernel_rfl
 m15:=by kernel_rfl
 m16:=by kernel_rfl
 m17:=by kernel_rfl
 m18:=by kernel_rfl
 m19:=by kernel_rfl
 c0:=by kernel_rfl
 c2:=by kernel_rfl
 c3:=by kernel_rfl
 c4:=by kernel_rfl
 c5:=by kernel_rfl
 c9:=by kernel_rfl
 c20:=by kernel_rfl
 c21:=by kernel_rfl
 c37:=by kernel_rfl
 c46:=by kernel_rfl
 c51:=by kernel_rfl
 c53:=by kernel_rfl
 c75:=by kernel_rfl
 c80:=by kernel_rfl
 c85:=by kernel_rfl
 c127:=by kernel_rfl
 c143:=by kernel_rfl
 c145:=by kernel_rfl
 c167:=by kernel_rfl
 c168:=by kernel_rfl
 c171:=by kernel_rfl
 c173:=by kernel_rfl
 c175:=by kernel_rfl
 c210:=by kernel_rfl
 c212:=by kernel_rfl
 c213:=by kernel_rfl
 c232:=by kernel_rfl
 c233:=by kernel_rfl }
open Go.RowKit in
theorem Tryz.strconv_ParseInt_10_at64_ok(s:ByteArray)(hmax:s.size<=9223372036854775806)(v:Int)(h:Lib.parseIntB 64 s.data.toList = .ok v)(w:World) :
  Calls Tryz.prog 349 #[.string s,.int .i64 10,.int .i64 64] w fun e w'=>e = .returned (.tuple #[.int .i64 v,.nilIface])∧(w'=w∨∃t,w'=Lib.bytesWorld w 5 t):=Any.strconv_ParseInt_10_at64_ok Tryz.laysC174 s hmax v h w
def Tryz.laysPu14_ren:Go.Shelf.Ren:=⟨fun | 14=>139 | 16=>209 | 17=>210 | 19=>286 | 20=>287 | 21=>288 | 22=>289 | 23=>290 | 24=>291 | 25=>338 | 27=>187 | 26=>339 | 28=>271 | 29=>330 | 30=>293 | 31=>294 | 32=>295 | 33=>296 | 35=>341 | 34=>340 | 36=>342 | 37=>343 | 38=>344 | 39=>363 | 40=>364|n=>n,fun | 9=>9 | 3=>3 | 22=>173 | 24=>175 | 25=>176 | 4=>4 | 34=>284 | 5=>5 | 36=>243 | 37=>159 | 0=>0 | 39=>286 | 21=>21 | 44=>321 | 47=>249 | 50=>340 | 48=>338 | 2=>2 | 52=>291 | 55=>294 | 59=>325 | 60=>296 | 20=>20 | 61=>326 | 65=>356 | 66=>357 | 67=>188|n=>n,fun | 0=>0 | 1=>1 | 2=>2 | 3=>6 | 4=>7|n=>n⟩
theorem Tryz.laysPu14:Go.Proofs.LaysPu.n14 Tryz.prog Tryz.laysPu14_ren:={
 mixed:=by kernel_rfl
 f14:=Tryz.func139.trans (congrArg some (by kernel_rfl))
 f16:=Tryz.func209.trans (congrArg some (by kernel_rfl))
 f17:=Tryz.func210.trans (congrArg some (by kernel_rfl))
 f19:=Tryz.func286.trans (congrArg some (by kernel_rfl))
 f20:=Tryz.func287.trans (congrArg some (by kernel_rfl))
 f21:=Tryz.func288.trans (congrArg some (by kernel_rfl))
 f22:=Tryz.func289.trans (congrArg some (by kernel_rfl))
 f23:=Tryz.func290.trans (congrArg some (by kernel_rfl))
 f24:=Tryz.func291.trans (congrArg some (by kernel_rfl))
 f25:=Tryz.func338.trans (congrArg some (by kernel_rfl))
 f26:=Tryz.func339.trans (congrArg some (by kernel_rfl))
 f27:=Tryz.func187.trans (congrArg some (by kernel_rfl))
 f28:=Tryz.func271.trans (congrArg some (by kernel_rfl))
 f29:=Tryz.func330.trans (congrArg some (by kernel_rfl))
 f30:=Tryz.func293.trans (congrArg some (by kernel_rfl))
 f31:=Tryz.func294.trans (congrArg some (by kernel_rfl))
 f32:=Tryz.func295.trans (congrArg some (by kernel_rfl))
 f33:=Tryz.func296.trans (congrArg some (by kernel_rfl))
 f34:=Tryz.func340.trans (congrArg some (by kernel_rfl))
 f35:=Tryz.func341.trans (congrArg some (by kernel_rfl))
 f36:=Tryz.func342.trans (congrArg some (by kernel_rfl))
 f37:=Tryz.func343.trans (congrArg some (by kernel_rfl))
 f38:=Tryz.func344.trans (congrArg some (by kernel_rfl))
 f39:=Tryz.func363.trans (congrArg some (by kernel_rfl))
 f40:=Tryz.func364.trans (congrArg some (by kernel_rfl))
 t0:=Tryz.underlying0
 a0:=Tryz.isAgg0
 z0:=Tryz.sizeOf0
 v0:=Tryz.zeroValue0
 i0:=by kernel_rfl
 t2:=Tryz.underlying2
 a2:=Tryz.isAgg2
 z2:=Tryz.sizeOf2
 v2:=Tryz.zeroValue2
 i2:=by kernel_rfl
 t3:=Tryz.underlying3
 a3:=Tryz.isAgg3
 z3:=Tryz.sizeOf3
 v3:=Tryz.zeroValue3
 i3:=by kernel_rfl
 t4:=Tryz.underlying4
 a4:=Tryz.isAgg4
 z4:=Tryz.sizeOf4
 v4:=Tryz.zeroValue4
 i4:=by kernel_rfl
 t5:=Tryz.underlying5
 a5:=Tryz.isAgg5
 z5:=Tryz.sizeOf5
 v5:=Tryz.zeroValue5
 i5:=by kernel_rfl
 t9:=Tryz.underlying9
 a9:=Tryz.isAgg9
 z9:=Tryz.sizeOf9
 v9:=Tryz.zeroValue9
 i9:=by kernel_rfl
 t20:=Tryz.underlying20
 a20:=Tryz.isAgg20
 z20:=Tryz.sizeOf20
 v20:=Tryz.zeroValue20
 i20:=by kernel_rfl
 t21:=Tryz.underlying21
 a21:=Tryz.isAgg21
 z21:=Tryz.sizeOf21
 v21:=Tryz.zeroValue21
 i21:=by kernel_rfl
 t22:=Tryz.underlying173
 a22:=Tryz.isAgg173
 z22:=Tryz.sizeOf173
 v22:=Tryz.zeroValue173
 i22:=by kernel_rfl
 t24:=Tryz.underlying175
 a24:=Tryz.isAgg175
 z24:=Tryz.sizeOf175
 v24:=Tryz.zeroValue175
 i24:=by kernel_rfl
 t25:=Tryz.underlying176
 a25:=Tryz.isAgg176
 z25:=Tryz.sizeOf176
 v25:=Tryz.zeroValue176
 i25:=by kernel_rfl
 t34:=Tryz.underlying284
 a34:=Tryz.isAgg284
 z34:=Tryz.sizeOf284
 v34:=Tryz.zeroValue284
 i34:=by kernel_rfl
 c34:=by kernel_rfl
 t36:=Tryz.underlying243
 a36:=Tryz.isAgg243
 z36:=Tryz.sizeOf243
 v36:=Tryz.zeroValue243
 i36:=by kernel_rfl
 t37:=Tryz.underlying159
 a37:=Tryz.isAgg159
 z37:=Tryz.sizeOf159
 v37:=Tryz.zeroValue159
 i37:=by kernel_rfl
 t39:=Tryz.underlying286
 a39:=Tryz.isAgg286
 z39:=Tryz.sizeOf286
 v39:=Tryz.zeroValue286
 i39:=by kernel_rfl
 t44:=Tryz.underlying321
 a44:=Tryz.isAgg321
 z44:=Tryz.sizeOf321
 v44:=Tryz.zeroValue321
 i44:=by kernel_rfl
 t47:=Tryz.underlying249
 a47:=Tryz.isAgg249
 z47:=Tryz.sizeOf249
 v47:=Tryz.zeroValue249
 i47:=by kernel_rfl
 t48:=Tryz.underlying338
 a48:=Tryz.isAgg338
 z48:=Tryz.sizeOf338
 v48:=Tryz.zeroValue338
 i48:=by kernel_rfl
 t50:=Tryz.underlying340
 a50:=Tryz.isAgg340
 z50:=Tryz.sizeOf340
 v50:=Tryz.zeroValue340
 i50:=by kernel_rfl
 t52:=Tryz.underlying291
 a52:=Tryz.isAgg291
 z52:=Tryz.sizeOf291
 v52:=Tryz.zeroValue291
 i52:=by kernel_rfl
 t55:=Tryz.underlying294
 a55:=Tryz.isAgg294
 z55:=Tryz.sizeOf294
 v55:=Tryz.zeroValue294
 i55:=by kernel_rfl
 t59:=Tryz.underlying325
 a59:=Tryz.isAgg325
 z59:=Tryz.sizeOf325
 v59:=Tryz.zeroValue325
 i59:=by kernel_rfl
 t60:=Tryz.underlying296
 a60:=Tryz.isAgg296
 z60:=Tryz.sizeOf296
 v60:=Tryz.zeroValue296
 i60:=by kernel_rfl
 t61:=Tryz.underlying326
 a61:=Tryz.isAgg326
 z61:=Tryz.sizeOf326
 t65:=Tryz.underlying356
 a65:=Tryz.isAgg356
 z65:=Tryz.sizeOf356
 v65:=Tryz.zeroValue356
 i65:=by kernel_rfl
 t66:=Tryz.underlying357
 a66:=Tryz.isAgg357
 z66:=Tryz.sizeOf357
 v66:=Tryz.zeroValue357
 i66:=by kernel_rfl
 t67:=Tryz.underlying188
 a67:=Tryz.isAgg188
 z67:=Tryz.sizeOf188
 v67:=Tryz.zeroValue188
 i67:=by kernel_rfl
 g0:=by kernel_rfl
 m0:=by kernel_rfl
 g1:=by kernel_rfl
 m1:=by kernel_rfl
 g2:=by kernel_rfl
 m2:=by kernel_rfl
 g3:=by kernel_rfl
 m3:=by kernel_rfl
 g4:=by kernel_rfl
 m4:=by kernel_rfl }
open Go.RowKit in
theorem Tryz.strconv_ParseUint_10_at64_ok(s:ByteArray)(hmax:s.size<=9223372036854775806)(u:Nat)(h:Lib.parseUintB 64 s.data.toList = .ok u)(w:World) :
  Calls Tryz.prog 139 #[.string s,.int .i64 10,.int .i64 64] w fun e w'=>e = .returned (.tuple #[.int .u64 u,.nilIface])∧(w'=w∨w'=Lib.bytesWorld w 5 s):=Any.strconv_ParseUint_10_at64_ok Tryz.laysPu14 s hmax u h w
def Tryz.lays219_ren:Go.Shelf.Ren:=⟨fun | 219=>328 | 217=>356 | 225=>357 | 224=>358 | 267=>359 | 266=>376 | 314=>377|n=>n,fun | 9=>9 | 3=>3 | 4=>4 | 5=>5 | 46=>243 | 146=>297 | 51=>296|n=>n,fun | 1=>3|n=>n⟩
def Tryz.lays145_ren:Go.Shelf.Ren:=⟨fun | 145=>185 | 220=>269 | 219=>328 | 217=>356 | 225=>357 | 224=>358 | 267=>359 | 266=>376 | 314=>377|n=>n,fun | 9=>9 | 4=>4 | 59=>224 | 3=>3 | 5=>5 | 46=>243 | 146=>297 | 51=>296|n=>n,fun | 1=>3|n=>n⟩
theorem Tryz.lays145:Go.Proofs.Lays.n145 Tryz.prog Tryz.lays145_ren:={
 mixed:=by kernel_rfl
 f145:=Tryz.func185.trans (congrArg some (by kernel_rfl))
 f217:=Tryz.func356.trans (congrArg some (by kernel_rfl))
 f219:=Tryz.func328.trans (congrArg some (by kernel_rfl))
 f220:=Tryz.func269.trans (congrArg some (by kernel_rfl))
 f224:=Tryz.func358.trans (congrArg some (by kernel_rfl))
 f225:=Tryz.func357.trans (congrArg some (by kernel_rfl))
 f266:=Tryz.func376.trans (congrArg some (by kernel_rfl))
 f267:=Tryz.func359.trans (congrArg some (by kernel_rfl))
 f314:=Tryz.func377.trans (congrArg some (by kernel_rfl))
 t3:=Tryz.underlying3
 a3:=Tryz.isAgg3
 z3:=Tryz.sizeOf3
 v3:=Tryz.zeroValue3
 t4:=Tryz.underlying4
 a4:=Tryz.isAgg4
 z4:=Tryz.sizeOf4
 v4:=Tryz.zeroValue4
 t5:=Tryz.underlying5
 a5:=Tryz.isAgg5
 z5:=Tryz.sizeOf5
 v5:=Tryz.zeroValue5
 t9:=Tryz.underlying9
 a9:=Tryz.isAgg9
 z9:=Tryz.sizeOf9
 v9:=Tryz.zeroValue9
 t46:=Tryz.underlying243
 a46:=Tryz.isAgg243
 z46:=Tryz.sizeOf243
 v46:=Tryz.zeroValue243
 t51:=Tryz.underlying296
 a51:=Tryz.isAgg296
 z51:=Tryz.sizeOf296
 v51:=Tryz.zeroValue296
 t59:=Tryz.underlying224
 a59:=Tryz.isAgg224
 z59:=Tryz.sizeOf224
 v59:=Tryz.zeroValue224
 t146:=Tryz.underlying297
 a146:=Tryz.isAgg297
 z146:=Tryz.sizeOf297
 v146:=Tryz.zeroValue297
 g1:=by kernel_rfl }
open Go.RowKit Go.Lib in
theorem Tryz.strings_Cut(s sep:ByteArray)(m:Int)(w:World)(hs:s.size<4294967281)(hm:w.cell? ⟨3,0,none⟩=some (.int .i64 m)) :
  Calls Tryz.prog 185 #[.string s,.string sep] w fun e w'=>e = .returned (.tuple #[.string ⟨(Lib.cut s.data.toList sep.data.toList).1.toArray⟩,.string ⟨(Lib.cut s.data.toList sep.data.toList).2.1.toArray⟩,.bool (Lib.cut s.data.toList sep.data.toList).2.2])∧∃n,w'=w.drewN n:=Any.strings_Cut Tryz.lays145 s sep m w hs hm
def Tryz.lays101_ren:Go.Shelf.Ren:=⟨fun | 101=>277 | 208=>333 | 206=>299|n=>n,fun | 9=>9 | 4=>4 | 3=>3|n=>n,fun|n=>n⟩
theorem Tryz.lays101:Go.Proofs.Lays.n101 Tryz.prog Tryz.lays101_ren:={
 mixed:=by kernel_rfl
 f101:=Tryz.func277.trans (congrArg some (by kernel_rfl))
 f206:=Tryz.func299.trans (congrArg some (by kernel_rfl))
 f208:=Tryz.func333.trans (congrArg some (by kernel_rfl))
 t3:=Tryz.underlying3
 a3:=Tryz.isAgg3
 z3:=Tryz.sizeOf3
 v3:=Tryz.zeroValue3
 t4:=Tryz.underlying4
 a4:=Tryz.isAgg4
 z4:=Tryz.sizeOf4
 v4:=Tryz.zeroValue4
 t9:=Tryz.underlying9
 a9:=Tryz.isAgg9
 z9:=Tryz.sizeOf9
 v9:=Tryz.zeroValue9 }
open Go.RowKit Go.Lib in
theorem Tryz.strings_TrimPrefix(s p:ByteArray)(w:World) :
  Calls Tryz.prog 277 #[.string s,.string p] w fun e w'=>e = .returned (.string ⟨(Lib.trimPrefix s.data.toList p.data.toList).toArray⟩)∧w'=w:=Any.strings_TrimPrefix Tryz.lays101 s p w
def Tryz.lays105_ren:Go.Shelf.Ren:=⟨fun | 105=>146 | 212=>214 | 99=>215 | 165=>216 | 166=>144 | 170=>217 | 169=>147 | 263=>297 | 264=>298 | 206=>299 | 240=>212 | 241=>300 | 276=>292 | 277=>345|n=>n,fun | 9=>9 | 3=>3 | 4=>4 | 20=>20 | 0=>0 | 46=>243 | 109=>244 | 5=>5 | 72=>182 | 76=>184 | 51=>296 | 146=>297 | 53=>173 | 148=>299 | 70=>180 | 37=>159 | 75=>175 | 127=>249 | 164=>289 | 80=>188|n=>n,fun|n=>n⟩
theorem Tryz.lays105:Go.Proofs.Lays.n105 Tryz.prog Tryz.lays105_ren:={
 mixed:=by kernel_rfl
 f99:=Tryz.func215.trans (congrArg some (by kernel_rfl))
 f105:=Tryz.func146.trans (congrArg some (by kernel_rfl))
 f165:=Tryz.func216.trans (congrArg some (by kernel_rfl))
 f166:=Tryz.func144.trans (congrArg some (by kernel_rfl))
 f169:=Tryz.func147.trans (congrArg some (by kernel_rfl))
 f170:=Tryz.func217.trans (congrArg some (by kernel_rfl))
 f206:=Tryz.func299.trans (congrArg some (by kernel_rfl))
 f212:=Tryz.func214.trans (congrArg some (by kernel_rfl))
 f240:=Tryz.func212.trans (congrArg some (by kernel_rfl))
 f241:=Tryz.func300.trans (congrArg some (by kernel_rfl))
 f263:=Tryz.func297.trans (congrArg some (by kernel_rfl))
 f264:=Tryz.func298.trans (congrArg some (by kernel_rfl))
 f276:=Tryz.func292.trans (congrArg some (by kernel_rfl))
 f277:=Tryz.func345.trans (congrArg some (by kernel_rfl))
 t0:=Tryz.underlying0
 a0:=Tryz.isAgg0
 z0:=Tryz.sizeOf0
 v0:=Tryz.zeroValue0
 t3:=Tryz.underlying3
 a3:=Tryz.isAgg3
 z3:=Tryz.sizeOf3
 v3:=Tryz.zeroValue3
 t4:=Tryz.underlying4
 a4:=Tryz.isAgg4
 z4:=Tryz.sizeOf4
 v4:=Tryz.zeroValue4
 t5:=Tryz.underlying5
 a5:=Tryz.isAgg5
 z5:=Tryz.sizeOf5
 v5:=Tryz.zeroValue5
 t9:=Tryz.underlying9
 a9:=Tryz.isAgg9
 z9:=Tryz.sizeOf9
 v9:=Tryz.zeroValue9
 t20:=Tryz.underlying20
 a20:=Tryz.isAgg20
 z20:=Tryz.sizeOf20
 v20:=Tryz.zeroValue20
 t37:=Tryz.underlying159
 a37:=Tryz.isAgg159
 z37:=Tryz.sizeOf159
 v37:=Tryz.zeroValue159
 t46:=Tryz.underlying243
 a46:=Tryz.isAgg243
 z46:=Tryz.sizeOf243
 v46:=Tryz.zeroValue243
 t51:=Tryz.underlying296
 a51:=Tryz.isAgg296
 z51:=Tryz.sizeOf296
 v51:=Tryz.zeroValue296
 t53:=Tryz.underlying173
 a53:=Tryz.isAgg173
 z53:=Tryz.sizeOf173
 v53:=Tryz.zeroValue173
 t70:=Tryz.underlying180
 a70:=Tryz.isAgg180
 z70:=Tryz.sizeOf180
 v70:=Tryz.zeroValue180
 t72:=Tryz.underlying182
 a72:=Tryz.isAgg182
 z72:=Tryz.sizeOf182
 v72:=Tryz.zeroValue182
 t75:=Tryz.underlying175
 a75:=Tryz.isAgg175
 z75:=Tryz.sizeOf175
 v75:=Tryz.zeroValue175
 t76:=Tryz.underlying184
 a76:=Tryz.isAgg184
 z76:=Tryz.sizeOf184
 v76:=Tryz.zeroValue184
 t109:=Tryz.underlying244
 a109:=Tryz.isAgg244
 z109:=Tryz.sizeOf244
 v109:=Tryz.zeroValue244
 t127:=Tryz.underlying249
 a127:=Tryz.isAgg249
 z127:=Tryz.sizeOf249
 v127:=Tryz.zeroValue249
 t146:=Tryz.underlying297
 a146:=Tryz.isAgg297
 z146:=Tryz.sizeOf297
 v146:=Tryz.zeroValue297
 t148:=Tryz.underlying299
 a148:=Tryz.isAgg299
 z148:=Tryz.sizeOf299
 v148:=Tryz.zeroValue299
 t164:=Tryz.underlying289
 a164:=Tryz.isAgg289
 z164:=Tryz.sizeOf289
 v164:=Tryz.zeroValue289 }
theorem Tryz.Builder_Extra_105:Builder.Extra Tryz.prog Tryz.lays105_ren:={
 sizeBuilder:=by kernel_rfl
 liesBuilder:=by kernel_rfl
 t5:=Tryz.underlying5
 a5:=Tryz.isAgg5
 z5:=Tryz.sizeOf5
 v5:=Tryz.zeroValue5
 infoByte:=by kernel_rfl
 cellsByte:=by kernel_rfl
 sizeByte:=by kernel_rfl
 neB5:=by decide }
open Go.RowKit Go.Lib in
theorem Tryz.strings_Repeat(s:ByteArray)(c:Nat)(w:World)(hc:c<=9223372036854775807)(hlen:s.size*c<=140737488355328) :
  Calls Tryz.prog 146 #[.string s,.int .i64 c] w fun e w'=>e = .returned (.string ⟨(Lib.repeatL s.data.toList c).toArray⟩)∧Below w.heap.size w w':=Any.strings_Repeat Tryz.lays105 Tryz.Builder_Extra_105 s c w hc hlen
end Go.Proofs
namespace Go.Proofs.YtaegjkllenlfpaaGreatDoor
open Tryz
abbrev M3:=@underlying30
abbrev Nd:=@underlying9
abbrev NG:=@underlying24
abbrev NS:=@underlying22
abbrev Oc:=@underlying110
abbrev Pa:=@underlying101
abbrev Pe:=@ntmps51
abbrev Pn:=@underlying35
abbrev Pv:=@func51
abbrev Pw:=@underlying3
abbrev PG:=@underlying23
abbrev PO:=@ntmps62
abbrev P8:=@func62
abbrev Qj:=@ntmps64
abbrev Qt:=@underlying165
abbrev Qy:=@func64
abbrev Q8:=@underlying103
abbrev Rq:=@underlying27
section
open Go.RowKit Go.Shelf
attribute [local go_sem] size_bs toList_bs extract_bs get_bs append_bs lit_append append_lit
theorem noZeros_drop(l:Bs):l.dropWhile (· == 48)=noZeros l:=by
 induction l with
 |nil=>rfl
 |cons c r ih =>
  unfold noZeros;rw[List.dropWhile_cons];by_cases h:c=48
  ·simp[h];exact ih
  ·simp[h]
def trimD(l:Bs):Bs:=Lib.trimS l [48,49,50,51,52,53,54,55,56,57]
theorem isD_mem(c:UInt8):([48,49,50,51,52,53,54,55,56,57]:Bs).contains c=isD c:=by
 have h:∀n:Fin 256,([48,49,50,51,52,53,54,55,56,57]:Bs).contains (UInt8.ofNat n.val)=isD (UInt8.ofNat n.val):=by decide +kernel
 have hc:=h ⟨c.toNat,c.toNat_lt⟩;simpa using hc
theorem dropWhile_nil_iff(p:UInt8->Bool)(l:Bs):l.dropWhile p=[]↔l.all p=true:=by
 induction l with
 |nil=>simp
 |cons c r ih =>
  rw[List.dropWhile_cons];by_cases h:p c=true
  ·simp only[h,if_true,NH,Oq];exact ih
  ·simp[h]
theorem trimD_nil(l:Bs):trimD l=[]↔l.all isD=true:=by
 unfold trimD Lib.trimS Lib.trimLeftS Lib.trimRightS;have he:(fun x=>([48,49,50,51,52,53,54,55,56,57]:Bs).contains x)=isD:=funext isD_mem;rw[he,dropWhile_nil_iff,Qc];constructor
 ·intro h;by_cases hn:l.reverse.dropWhile isD=[]
  ·rw[dropWhile_nil_iff,Qc]at hn;exact hn
  ·exfalso
   obtain⟨c,r,hcr⟩:=OM hn;have hd:=List.head_dropWhile_not isD hn;rw[hcr]at h;simp only[NH,MJ]at h;simp only[hcr,List.head_cons]at hd;rw[h.1]at hd;simp at hd
 ·intro h;have hn:l.reverse.dropWhile isD=[]:=by rw[dropWhile_nil_iff,Qc];exact h
  rw[hn];rfl
theorem cutMinus(l:Bs)(w:World) :
  Calls prog 207 #[.string (bs l),.string ⟨#[45]⟩] w fun e w'=>e = .returned (.tuple #[.string (bs (strip l)),.bool (isMin l)])∧w=w':=by
 refine(strings_CutPrefix (bs l) ⟨#[45]⟩ w).mono ?_;rintro e w'⟨rfl,rfl⟩;refine⟨?_,rfl⟩;rw[data_bs]
 have h1:Lib.hasPrefix l [45]=isMin l:=by
  unfold Lib.hasPrefix isMin
  cases l with
  |nil=>rfl
  |cons c r=>show(45 == c && true)=(c == 45);rw[Qn];exact BEq.comm
 have h2:Lib.trimPrefix l [45]=strip l:=by
  unfold Lib.trimPrefix strip;rw[h1];by_cases h:isMin l=true
  ·simp[h]
  ·simp[h]
 show Ending.returned (.tuple #[.string ⟨(Lib.trimPrefix l [45]).toArray⟩,.bool (Lib.hasPrefix l [45])])=_;rw[h1,h2];rfl
theorem trimDigits(l:Bs)(w:World)(hs:l.length<=1000000000) :
  Calls prog 203 #[.string (bs l),.string ⟨#[48,49,50,51,52,53,54,55,56,57]⟩] w fun e w'=>e = .returned (.string (bs (trimD l)))∧Ext w w':=by
 refine(Any.strings_Trim_laid lays160 (by kernel_rfl) (bs l) ⟨#[48,49,50,51,52,53,54,55,56,57]⟩ w (by rw[size_bs];omega) (by decide) (ascii_of_all (by decide))).mono ?_;rintro e w'⟨rfl,hb⟩;exact⟨by rw[data_bs];rfl,hb⟩
theorem trimZeros(l:Bs)(w:World) :
  Calls prog 208 #[.string (bs l),.string ⟨#[48]⟩] w fun e w'=>e = .returned (.string (bs (noZeros l)))∧w=w':=by
 refine(strings_TrimLeft_one (bs l) 48 (by decide) w).mono ?_;rintro e w'⟨rfl,rfl⟩;exact⟨by rw[data_bs,Lib.trimLeftB,noZeros_drop];rfl,rfl⟩
theorem mag_of_good{l:Bs}(h:trimD (strip l)=[]):mag l=noZeros (strip l):=magT_good _ ((trimD_nil _).1 h)
theorem mag_of_bad{l:Bs}(h:trimD (strip l)≠[]):mag l=[]:=by
 unfold mag magT;rw[Mj (fun hh=>h ((trimD_nil _).2 hh))]
theorem neg_of_bad{l:Bs}(h:trimD (strip l)≠[]):neg l=false:=by
 have:=mag_of_bad h;unfold mag at this;unfold neg negT;rw[this];simp
theorem neg_of_mag(l:Bs):neg l=(isMin l && !(mag l).isEmpty):=rfl
theorem intDigits(l:Bs)(w:World)(hs:l.length<=1000000000) :
  Calls prog 138 #[.string (bs l)] w fun e w'=>e = .returned (.tuple #[.string (bs (mag l)),.bool (neg l)])∧Ext w w':=by
 have hl:=strip_le l;have HS:=ME (Mx hl hs);clear hs hl;go_enter func138,ntmps138;go_wp2_with fail;refine(cutMinus l _).mono ?_;rintro e w1⟨rfl,rfl⟩;go_wp2_with fail;refine(trimDigits _ _ HS.out).mono ?_;rintro e w1⟨rfl,hx⟩;by_cases ht:trimD (strip l)=[]
 ·have hb:(!(trimD (strip l)).isEmpty)=false:=by rw[ht];rfl
  have HT:=ME ht;clear ht;go_wp2_with fail;refine(trimZeros _ _).mono ?_;rintro e w2⟨rfl,rfl⟩;go_wp2_with fail
  all_goals
   go_ret2;refine⟨?_,hx⟩;rw[neg_of_mag,mag_of_good HT.out];simp[*]
 ·have hb:(!(trimD (strip l)).isEmpty)=true:=by simp[ht]
  have HT:=ME ht;clear ht;go_wp2_with fail;go_ret2;exact⟨by rw[mag_of_bad HT.out,neg_of_bad HT.out];rfl,hx⟩
theorem intCanonical(l:Bs)(w:World)(hs:l.length<=1000000000) :
  Calls prog 150 #[.string (bs l)] w fun e w'=>e = .returned (.string (bs (canon l)))∧Ext w w':=by
 have hm:=mag_le l;go_enter func150,ntmps150;go_wp2_with fail;refine(intDigits l _ hs).mono ?_;rintro e w1⟨rfl,hx⟩;by_cases hn:neg l=true
 ·go_wp2_with fail;go_ret;exact⟨by unfold canon;rw[Mq hn];rfl,hx⟩
 ·have hnb:neg l=false:=by simpa using hn
  go_wp2_with fail;go_ret;exact⟨by unfold canon;rw[Mj hn];rfl,hx⟩
theorem intCheck(l:Bs)(w:World)(hs:l.length<=1000000000) :
  Calls prog 72 #[.string (bs l)] w fun e w'=>e = .returned (.int .i64 (checkI l))∧Ext w w':=by
 have HS:=ME hs;clear hs;go_enter func72,ntmps72;go_wp2_with fail;refine(intCanonical l _ HS.out).mono ?_;rintro e w1⟨rfl,hx⟩;by_cases hn:canon l=l
 ·have hb:(l == canon l)=true:=Np.2 hn.symm;have HN:=ME hn;clear hn;go_wp2_with fail;go_ret;exact⟨by unfold checkI;rw[Mq HN.out];rfl,hx⟩
 ·have hb:(l == canon l)=false:=Mt.2 (fun h=>hn h.symm);have HN:=ME hn;clear hn;go_wp2_with fail;go_ret;exact⟨by unfold checkI;rw[Mj HN.out];rfl,hx⟩
theorem intPrint(l:Bs)(w:World)(hs:l.length<=1000000000) :
  Calls prog 350 #[.string (bs l)] w fun e w'=>e = .returned (.string (bs (printI l)))∧Ext w w':=by
 have HS:=ME hs;clear hs;go_enter func350,ntmps350;go_wp2_with fail;refine(intCanonical l _ HS.out).mono ?_;rintro e w1⟨rfl,hx⟩;by_cases hn:canon l=[]
 ·have hb:(!(canon l).isEmpty)=false:=by simp[hn]
  have HN:=ME hn;clear hn;go_wp2_with fail;go_ret;exact⟨by unfold printI;rw[Mq HN.out];rfl,hx⟩
 ·have hb:(!(canon l).isEmpty)=true:=by simpa using hn
  have HN:=ME hn;clear hn;go_wp2_with fail;go_ret;exact⟨by unfold printI;rw[Mj HN.out];rfl,hx⟩
end
end Go.Proofs.YtaegjkllenlfpaaGreatDoor
