/- The seat's texts, part P1. -/
import Derived.Shelf.Strings.Builder1
import Derived.Shelf.Strings.Builder2
import Derived.Shelf.Strings.Trim
import Derived.Shelf.Small.Utf8
import Derived.Shelf.Small.Bits
import Derived.Shelf.Small.Strs
import Derived.Shelf.Small.Wraps
import Derived.Shelf.Strings.BuilderF
import Derived.Shelf.Strings.BuilderK
import Derived.Shelf.Strings.Builder2Cap
import Derived.Shelf.Strconv.Atoi
import Derived.Shelf.Strconv.Itoa0
import Derived.Shelf.Strconv.Itoa1
import Derived.Shelf.LaysM
import Derived.Shelf.Strconv.Itoa2
import Derived.Shelf.Strconv.Itoa3
import Derived.Shelf.Strconv.AtoiErrFast
import Derived.Shelf.Strconv.ParseIntEmpty
import Derived.Shelf.Strconv.AtoiFail
import Derived.Shelf.Strconv.Clone
import Derived.Shelf.Strconv.SyntaxError
import Derived.Shelf.LaysC
import Derived.Shelf.Strconv.ToError
import Derived.Shelf.Strconv.AtoiErr
import Derived.Shelf.Strconv.ErrVar
import Derived.Shelf.Strconv.Lower
import Derived.Shelf.Strconv.ParseUint10
import Derived.Shelf.Strconv.ParseUint10Empty
import Derived.Shelf.Strconv.ParseUint10Any
import Derived.Shelf.Strconv.ParseInt10
import Derived.Shelf.Strconv.AtoiLong
import Derived.Shelf.Strconv.AtoiInnerAll
import Derived.Shelf.Strconv.RangeError
import Derived.Shelf.Strconv.ToErrorRange
import Derived.Shelf.Strconv.AtoiAll
import Derived.Shelf.Strconv.ErrVarAll
import Derived.Shelf.Strconv.ParseUintEmpty
import Derived.Shelf.Strconv.ParseUint10b64
import Derived.Shelf.Strconv.ParseUint10b32
import Derived.Shelf.Strconv.ParseUint10b16
import Derived.Shelf.Strconv.ParseUint10b8
import Derived.Shelf.Strconv.ParseUint10At
import Derived.Shelf.Strconv.ParseInt10At64
import Derived.Shelf.Strconv.ParseInt10At32
import Derived.Shelf.Strconv.ParseInt10At16
import Derived.Shelf.Strconv.ParseInt10At8
import Derived.Shelf.Strconv.ParseInt10All
import Derived.Shelf.Strconv.ParseIntPublic10
import Derived.Shelf.Strconv.ErrVarParseInt
import Derived.Ground.MpProg
import Derived.Shelf.Pu.ParseUintPublic10
import Derived.Shelf.Pu.ErrVarParseUint
import Derived.Shelf.Strings.Search1
import Derived.Shelf.Strings.Search2
import Derived.Shelf.Strings.Cut
import Derived.Shelf.Strings.Shaped
import Derived.Shelf.Strings.Prefix
import Derived.Shelf.Unicode.Decode
import Derived.Shelf.Strings.Runes
import Derived.Shelf.Strings.AsciiSet
import Derived.Shelf.Bits.Mul64
import Derived.Shelf.Strings.Repeat
import Derived.Shelf.Unicode.DecodeSlow
import Derived.Shelf.Strings.BuilderCap
import Derived.Ground.SlsfProg
import Derived.Shelf.SlSortCmp.Insertion
import Derived.Shelf.SlSortCmp.Insertion1
import Derived.Test.YthgpheopnhajaaaGreatDoorProg
set_option maxRecDepth 100000
set_option maxHeartbeats 8000000
namespace Go.Proofs
open Go.Shelf
def Tryz.lays169_ren:Go.Shelf.Ren:=⟨fun | 169=>140|n=>n,fun | 70=>190 | 9=>9 | 0=>0 | 72=>193 | 37=>191 | 127=>244 | 3=>3 | 5=>5|n=>n,fun|n=>n⟩
theorem Tryz.lays169:Go.Proofs.Lays.n169 Tryz.prog Tryz.lays169_ren:={
 mixed:=by kernel_rfl
 f169:=Tryz.func140.trans (congrArg some (by kernel_rfl))
 t0:=Tryz.underlying0
 a0:=Tryz.isAgg0
 z0:=Tryz.sizeOf0
 v0:=Tryz.zeroValue0
 t3:=Tryz.underlying3
 a3:=Tryz.isAgg3
 z3:=Tryz.sizeOf3
 v3:=Tryz.zeroValue3
 t9:=Tryz.underlying9
 a9:=Tryz.isAgg9
 z9:=Tryz.sizeOf9
 v9:=Tryz.zeroValue9
 t37:=Tryz.underlying191
 a37:=Tryz.isAgg191
 z37:=Tryz.sizeOf191
 v37:=Tryz.zeroValue191
 t70:=Tryz.underlying190
 a70:=Tryz.isAgg190
 z70:=Tryz.sizeOf190
 v70:=Tryz.zeroValue190
 t72:=Tryz.underlying193
 a72:=Tryz.isAgg193
 z72:=Tryz.sizeOf193
 v72:=Tryz.zeroValue193
 t127:=Tryz.underlying244
 a127:=Tryz.isAgg244
 z127:=Tryz.sizeOf244
 v127:=Tryz.zeroValue244 }
theorem Tryz.Builder_Extra_169:Builder.Extra Tryz.prog Tryz.lays169_ren:={
 sizeBuilder:=by kernel_rfl
 liesBuilder:=by kernel_rfl
 t5:=Tryz.underlying5
 a5:=Tryz.isAgg5
 z5:=Tryz.sizeOf5
 v5:=Tryz.zeroValue5
 infoByte:=by kernel_rfl
 cellsByte:=by kernel_rfl
 sizeByte:=by kernel_rfl
 neB5:=by decide }
def Tryz.lays161_ren:Go.Shelf.Ren:=⟨fun | 161=>203 | 231=>256 | 227=>258 | 233=>259 | 235=>261 | 228=>299 | 197=>300 | 151=>301 | 260=>318 | 152=>319 | 137=>330 | 119=>331 | 224=>323 | 225=>322 | 217=>321 | 266=>332|n=>n,fun | 9=>9 | 4=>4 | 3=>3 | 5=>5 | 117=>269 | 116=>268 | 0=>0 | 124=>272 | 105=>300 | 21=>21 | 119=>326 | 46=>238 | 139=>329 | 138=>328|n=>n,fun | 3=>6 | 4=>7|n=>n⟩
theorem Tryz.lays161:Go.Proofs.Lays.n161 Tryz.prog Tryz.lays161_ren:={
 mixed:=by kernel_rfl
 f119:=Tryz.func331.trans (congrArg some (by kernel_rfl))
 f137:=Tryz.func330.trans (congrArg some (by kernel_rfl))
 f151:=Tryz.func301.trans (congrArg some (by kernel_rfl))
 f152:=Tryz.func319.trans (congrArg some (by kernel_rfl))
 f161:=Tryz.func203.trans (congrArg some (by kernel_rfl))
 f197:=Tryz.func300.trans (congrArg some (by kernel_rfl))
 f217:=Tryz.func321.trans (congrArg some (by kernel_rfl))
 f224:=Tryz.func323.trans (congrArg some (by kernel_rfl))
 f225:=Tryz.func322.trans (congrArg some (by kernel_rfl))
 f227:=Tryz.func258.trans (congrArg some (by kernel_rfl))
 f228:=Tryz.func299.trans (congrArg some (by kernel_rfl))
 f231:=Tryz.func256.trans (congrArg some (by kernel_rfl))
 f233:=Tryz.func259.trans (congrArg some (by kernel_rfl))
 f235:=Tryz.func261.trans (congrArg some (by kernel_rfl))
 f260:=Tryz.func318.trans (congrArg some (by kernel_rfl))
 f266:=Tryz.func332.trans (congrArg some (by kernel_rfl))
 t0:=Tryz.underlying0
 a0:=Tryz.isAgg0
 z0:=Tryz.sizeOf0
 v0:=Tryz.zeroValue0
 t3:=Tryz.underlying3
 a3:=Tryz.isAgg3
 z3:=Tryz.sizeOf3
 v3:=Tryz.zeroValue3
 t4:=Tryz.underlying4
 a4:=Tryz.isAgg4
 z4:=Tryz.sizeOf4
 v4:=Tryz.zeroValue4
 t5:=Tryz.underlying5
 a5:=Tryz.isAgg5
 z5:=Tryz.sizeOf5
 v5:=Tryz.zeroValue5
 t9:=Tryz.underlying9
 a9:=Tryz.isAgg9
 z9:=Tryz.sizeOf9
 v9:=Tryz.zeroValue9
 t21:=Tryz.underlying21
 a21:=Tryz.isAgg21
 z21:=Tryz.sizeOf21
 v21:=Tryz.zeroValue21
 t46:=Tryz.underlying238
 a46:=Tryz.isAgg238
 z46:=Tryz.sizeOf238
 v46:=Tryz.zeroValue238
 t105:=Tryz.underlying300
 a105:=Tryz.isAgg300
 z105:=Tryz.sizeOf300
 v105:=Tryz.zeroValue300
 t116:=Tryz.underlying268
 a116:=Tryz.isAgg268
 z116:=Tryz.sizeOf268
 t117:=Tryz.underlying269
 a117:=Tryz.isAgg269
 z117:=Tryz.sizeOf269
 v117:=Tryz.zeroValue269
 t119:=Tryz.underlying326
 a119:=Tryz.isAgg326
 z119:=Tryz.sizeOf326
 t124:=Tryz.underlying272
 a124:=Tryz.isAgg272
 z124:=Tryz.sizeOf272
 v124:=Tryz.zeroValue272
 t138:=Tryz.underlying328
 a138:=Tryz.isAgg328
 z138:=Tryz.sizeOf328
 v138:=Tryz.zeroValue328
 t139:=Tryz.underlying329
 a139:=Tryz.isAgg329
 z139:=Tryz.sizeOf329
 v139:=Tryz.zeroValue329
 g3:=by kernel_rfl
 g4:=by kernel_rfl }
open Go.RowKit in
theorem Tryz.strings_TrimLeft_one(s:ByteArray)(c:UInt8)(hc:c.toNat<128)(w:World) :
  Calls Tryz.prog 203 #[.string s,.string ⟨#[c]⟩] w fun e w'=>e = .returned (.string ⟨(Lib.trimLeftB s.data.toList c).toArray⟩)∧w'=w:=Any.strings_TrimLeft_one Tryz.lays161 s c hc w
def Tryz.lays160_ren:Go.Shelf.Ren:=⟨fun | 160=>202 | 232=>257 | 231=>256 | 227=>258 | 234=>260 | 233=>259 | 236=>262 | 235=>261 | 228=>299 | 271=>302 | 151=>301 | 197=>300 | 120=>320 | 152=>319 | 260=>318 | 137=>330 | 119=>331 | 224=>323 | 225=>322 | 217=>321 | 266=>332|n=>n,fun | 9=>9 | 4=>4 | 3=>3 | 5=>5 | 117=>269 | 116=>268 | 0=>0 | 124=>272 | 21=>21 | 105=>300 | 46=>238 | 119=>326 | 139=>329 | 138=>328|n=>n,fun | 3=>6 | 4=>7|n=>n⟩
theorem Tryz.lays160:Go.Proofs.Lays.n160 Tryz.prog Tryz.lays160_ren:={
 mixed:=by kernel_rfl
 f119:=Tryz.func331.trans (congrArg some (by kernel_rfl))
 f120:=Tryz.func320.trans (congrArg some (by kernel_rfl))
 f137:=Tryz.func330.trans (congrArg some (by kernel_rfl))
 f151:=Tryz.func301.trans (congrArg some (by kernel_rfl))
 f152:=Tryz.func319.trans (congrArg some (by kernel_rfl))
 f160:=Tryz.func202.trans (congrArg some (by kernel_rfl))
 f197:=Tryz.func300.trans (congrArg some (by kernel_rfl))
 f217:=Tryz.func321.trans (congrArg some (by kernel_rfl))
 f224:=Tryz.func323.trans (congrArg some (by kernel_rfl))
 f225:=Tryz.func322.trans (congrArg some (by kernel_rfl))
 f227:=Tryz.func258.trans (congrArg some (by kernel_rfl))
 f228:=Tryz.func299.trans (congrArg some (by kernel_rfl))
 f231:=Tryz.func256.trans (congrArg some (by kernel_rfl))
 f232:=Tryz.func257.trans (congrArg some (by kernel_rfl))
 f233:=Tryz.func259.trans (congrArg some (by kernel_rfl))
 f234:=Tryz.func260.trans (congrArg some (by kernel_rfl))
 f235:=Tryz.func261.trans (congrArg some (by kernel_rfl))
 f236:=Tryz.func262.trans (congrArg some (by kernel_rfl))
 f260:=Tryz.func318.trans (congrArg some (by kernel_rfl))
 f266:=Tryz.func332.trans (congrArg some (by kernel_rfl))
 f271:=Tryz.func302.trans (congrArg some (by kernel_rfl))
 t0:=Tryz.underlying0
 a0:=Tryz.isAgg0
 z0:=Tryz.sizeOf0
 v0:=Tryz.zeroValue0
 t3:=Tryz.underlying3
 a3:=Tryz.isAgg3
 z3:=Tryz.sizeOf3
 v3:=Tryz.zeroValue3
 t4:=Tryz.underlying4
 a4:=Tryz.isAgg4
 z4:=Tryz.sizeOf4
 v4:=Tryz.zeroValue4
 t5:=Tryz.underlying5
 a5:=Tryz.isAgg5
 z5:=Tryz.sizeOf5
 v5:=Tryz.zeroValue5
 t9:=Tryz.underlying9
 a9:=Tryz.isAgg9
 z9:=Tryz.sizeOf9
 v9:=Tryz.zeroValue9
 t21:=Tryz.underlying21
 a21:=Tryz.isAgg21
 z21:=Tryz.sizeOf21
 v21:=Tryz.zeroValue21
 t46:=Tryz.underlying238
 a46:=Tryz.isAgg238
 z46:=Tryz.sizeOf238
 v46:=Tryz.zeroValue238
 t105:=Tryz.underlying300
 a105:=Tryz.isAgg300
 z105:=Tryz.sizeOf300
 v105:=Tryz.zeroValue300
 t116:=Tryz.underlying268
 a116:=Tryz.isAgg268
 z116:=Tryz.sizeOf268
 t117:=Tryz.underlying269
 a117:=Tryz.isAgg269
 z117:=Tryz.sizeOf269
 v117:=Tryz.zeroValue269
 t119:=Tryz.underlying326
 a119:=Tryz.isAgg326
 z119:=Tryz.sizeOf326
 t124:=Tryz.underlying272
 a124:=Tryz.isAgg272
 z124:=Tryz.sizeOf272
 v124:=Tryz.zeroValue272
 t138:=Tryz.underlying328
 a138:=Tryz.isAgg328
 z138:=Tryz.sizeOf328
 v138:=Tryz.zeroValue328
 t139:=Tryz.underlying329
 a139:=Tryz.isAgg329
 z139:=Tryz.sizeOf329
 v139:=Tryz.zeroValue329
 g3:=by kernel_rfl
 g4:=by kernel_rfl }
def Tryz.lays210_ren:Go.Shelf.Ren:=⟨fun | 210=>255 | 206=>272|n=>n,fun | 9=>9 | 4=>4 | 3=>3|n=>n,fun|n=>n⟩
def Tryz.lays103_ren:Go.Shelf.Ren:=⟨fun | 103=>201 | 210=>255 | 206=>272|n=>n,fun | 9=>9 | 4=>4 | 24=>181 | 3=>3|n=>n,fun|n=>n⟩
theorem Tryz.lays103:Go.Proofs.Lays.n103 Tryz.prog Tryz.lays103_ren:={
 mixed:=by kernel_rfl
 f103:=Tryz.func201.trans (congrArg some (by kernel_rfl))
 f206:=Tryz.func272.trans (congrArg some (by kernel_rfl))
 f210:=Tryz.func255.trans (congrArg some (by kernel_rfl))
 t3:=Tryz.underlying3
 a3:=Tryz.isAgg3
 z3:=Tryz.sizeOf3
 v3:=Tryz.zeroValue3
 t4:=Tryz.underlying4
 a4:=Tryz.isAgg4
 z4:=Tryz.sizeOf4
 v4:=Tryz.zeroValue4
 t9:=Tryz.underlying9
 a9:=Tryz.isAgg9
 z9:=Tryz.sizeOf9
 v9:=Tryz.zeroValue9
 t24:=Tryz.underlying181
 a24:=Tryz.isAgg181
 z24:=Tryz.sizeOf181
 v24:=Tryz.zeroValue181 }
open Go.RowKit in
theorem Tryz.strings_CutPrefix(s p:ByteArray)(w:World) :
  Calls Tryz.prog 201 #[.string s,.string p] w fun e w'=>e = .returned (.tuple #[.string ⟨(Lib.trimPrefix s.data.toList p.data.toList).toArray⟩,.bool (Lib.hasPrefix s.data.toList p.data.toList)])∧w'=w:=Any.strings_CutPrefix Tryz.lays103 s p w
def Tryz.lays215_ren:Go.Shelf.Ren:=⟨fun | 215=>327|n=>n,fun | 3=>3 | 4=>4|n=>n,fun|n=>n⟩
def Tryz.lays122_ren:Go.Shelf.Ren:=⟨fun | 122=>314 | 215=>327|n=>n,fun | 3=>3 | 4=>4|n=>n,fun|n=>n⟩
theorem Tryz.lays122:Go.Proofs.Lays.n122 Tryz.prog Tryz.lays122_ren:={
 mixed:=by kernel_rfl
 f122:=Tryz.func314.trans (congrArg some (by kernel_rfl))
 f215:=Tryz.func327.trans (congrArg some (by kernel_rfl))
 t3:=Tryz.underlying3
 a3:=Tryz.isAgg3
 z3:=Tryz.sizeOf3
 v3:=Tryz.zeroValue3
 t4:=Tryz.underlying4
 a4:=Tryz.isAgg4
 z4:=Tryz.sizeOf4
 v4:=Tryz.zeroValue4 }
open Go.RowKit in
theorem Tryz.cmp_Compare_int(x y:Int)(w:World) :
  Calls Tryz.prog 314 #[.int .i64 x,.int .i64 y] w fun e w'=>e = .returned (.int .i64 (Lib.compareInt x y))∧w'=w:=Any.cmp_Compare_int Tryz.lays122 x y w
open Go.RowKit in
theorem Tryz.Builder_String_any_f(B b:Nat)(l:List UInt8)(w:World)(h:Lib.IsBuilderF 193 5 B b (Lib.byteCells l) w)(hBw:B≤w.heap.size) :
  Calls Tryz.prog 140 #[.pointer (some ⟨b,0,none⟩)] w fun e w'=>e = .returned (.string ⟨l.toArray⟩)∧(Lib.IsBuilderF 193 5 B b (Lib.byteCells l) w'∧Below B w w'):=Any.Builder_String_any_f Tryz.lays169 Tryz.Builder_Extra_169 B b l w h hBw
def Tryz.lays172_ren:Go.Shelf.Ren:=⟨fun | 172=>215 | 244=>276 | 245=>205 | 247=>307 | 279=>265 | 280=>266 | 281=>267 | 282=>268 | 287=>204 | 316=>303 | 171=>56 | 205=>304 | 321=>263 | 322=>264 | 243=>112 | 246=>176 | 283=>237 | 284=>238 | 285=>239 | 286=>240 | 129=>293 | 317=>292 | 318=>294 | 319=>295 | 320=>296 | 337=>316 | 338=>317|n=>n,fun | 9=>9 | 3=>3 | 75=>185 | 76=>195 | 4=>4 | 5=>5 | 167=>273 | 37=>191 | 0=>0 | 85=>309 | 2=>2 | 168=>275 | 53=>183 | 175=>186 | 46=>238 | 210=>305 | 127=>244 | 145=>321 | 143=>319 | 21=>21 | 171=>254 | 173=>257 | 212=>295 | 51=>280 | 20=>20 | 213=>296 | 232=>324 | 233=>325 | 80=>198|n=>n,fun | 15=>1 | 16=>2 | 17=>0 | 18=>4 | 19=>5|n=>n⟩
def Tryz.lays283_ren:Go.Shelf.Ren:=⟨fun | 283=>237|n=>n,fun | 3=>3 | 9=>9 | 4=>4|n=>n,fun|n=>n⟩
theorem Tryz.lays283:Go.Proofs.Lays.n283 Tryz.prog Tryz.lays283_ren:={
 mixed:=by kernel_rfl
 f283:=Tryz.func237.trans (congrArg some (by kernel_rfl))
 t3:=Tryz.underlying3
 a3:=Tryz.isAgg3
 z3:=Tryz.sizeOf3
 v3:=Tryz.zeroValue3
 t4:=Tryz.underlying4
 a4:=Tryz.isAgg4
 z4:=Tryz.sizeOf4
 v4:=Tryz.zeroValue4
 t9:=Tryz.underlying9
 a9:=Tryz.isAgg9
 z9:=Tryz.sizeOf9
 v9:=Tryz.zeroValue9 }
open Go.Lib in
theorem Tryz.internal_strconv_small(i:Nat)(h:i<100)(w:World) :
  Calls Tryz.prog 237 #[.int .i64 i] w fun e w'=>e = .returned (.string ⟨(Lib.decDigits i).toArray⟩)∧w'=w:=Any.internal_strconv_small Tryz.lays283 i h w
def Tryz.laysM284_ren:Go.Shelf.Ren:=⟨fun | 284=>238 | 129=>293 | 317=>292 | 318=>294|n=>n,fun | 53=>183 | 3=>3 | 212=>295 | 0=>0 | 4=>4 | 46=>238 | 5=>5 | 9=>9|n=>n,fun | 17=>0|n=>n⟩
theorem Tryz.laysM284:Go.Proofs.LaysM.n284 Tryz.prog Tryz.laysM284_ren:={
 mixed:=by kernel_rfl
 f129:=Tryz.func293.trans (congrArg some (by kernel_rfl))
 f284:=Tryz.func238.trans (congrArg some (by kernel_rfl))
 f317:=Tryz.func292.trans (congrArg some (by kernel_rfl))
 f318:=Tryz.func294.trans (congrArg some (by kernel_rfl))
 t0:=Tryz.underlying0
 a0:=Tryz.isAgg0
 z0:=Tryz.sizeOf0
 v0:=Tryz.zeroValue0
 t3:=Tryz.underlying3
 a3:=Tryz.isAgg3
 z3:=Tryz.sizeOf3
 v3:=Tryz.zeroValue3
 t4:=Tryz.underlying4
 a4:=Tryz.isAgg4
 z4:=Tryz.sizeOf4
 v4:=Tryz.zeroValue4
 t5:=Tryz.underlying5
 a5:=Tryz.isAgg5
 z5:=Tryz.sizeOf5
 v5:=Tryz.zeroValue5
 t9:=Tryz.underlying9
 a9:=Tryz.isAgg9
 z9:=Tryz.sizeOf9
 v9:=Tryz.zeroValue9
 t46:=Tryz.underlying238
 a46:=Tryz.isAgg238
 z46:=Tryz.sizeOf238
 v46:=Tryz.zeroValue238
 t53:=Tryz.underlying183
 a53:=Tryz.isAgg183
 z53:=Tryz.sizeOf183
 v53:=Tryz.zeroValue183
 t212:=Tryz.underlying295
 a212:=Tryz.isAgg295
 z212:=Tryz.sizeOf295
 v212:=Tryz.zeroValue295
 g17:=by kernel_rfl
 i0:=by kernel_rfl
 i3:=by kernel_rfl
 i4:=by kernel_rfl
 i5:=by kernel_rfl
 i9:=by kernel_rfl
 i46:=by kernel_rfl
 i53:=by kernel_rfl
 i212:=by kernel_rfl
 m17:=by kernel_rfl }
open Go.Lib in
theorem Tryz.internal_strconv_numDigits(u:Nat)(h1:1≤u)(h2:u<18446744073709551616)(w:World)(htab:Lib.TabIs Tryz.prog w "internal/strconv.uint64pow10" .u64 Lib.pow10Tab) :
  Calls Tryz.prog 238 #[.int .u64 u] w fun e w'=>e = .returned (.int .i64 (Lib.nDigits u))∧w'=w:=Any.internal_strconv_numDigits Tryz.laysM284 u h1 h2 w htab
def Tryz.lays285_ren:Go.Shelf.Ren:=⟨fun | 285=>239|n=>n,fun | 37=>191 | 53=>183 | 3=>3 | 4=>4 | 51=>280 | 9=>9 | 5=>5 | 0=>0|n=>n,fun|n=>n⟩
theorem Tryz.lays285:Go.Proofs.Lays.n285 Tryz.prog Tryz.lays285_ren:={
 mixed:=by kernel_rfl
 f285:=Tryz.func239.trans (congrArg some (by kernel_rfl))
 t0:=Tryz.underlying0
 a0:=Tryz.isAgg0
 z0:=Tryz.sizeOf0
 v0:=Tryz.zeroValue0
 t3:=Tryz.underlying3
 a3:=Tryz.isAgg3
 z3:=Tryz.sizeOf3
 v3:=Tryz.zeroValue3
 t4:=Tryz.underlying4
 a4:=Tryz.isAgg4
 z4:=Tryz.sizeOf4
 v4:=Tryz.zeroValue4
 t5:=Tryz.underlying5
 a5:=Tryz.isAgg5
 z5:=Tryz.sizeOf5
 v5:=Tryz.zeroValue5
 t9:=Tryz.underlying9
 a9:=Tryz.isAgg9
 z9:=Tryz.sizeOf9
 v9:=Tryz.zeroValue9
 t37:=Tryz.underlying191
 a37:=Tryz.isAgg191
 z37:=Tryz.sizeOf191
 v37:=Tryz.zeroValue191
 t51:=Tryz.underlying280
 a51:=Tryz.isAgg280
 z51:=Tryz.sizeOf280
 v51:=Tryz.zeroValue280
 t53:=Tryz.underlying183
 a53:=Tryz.isAgg183
 z53:=Tryz.sizeOf183
 v53:=Tryz.zeroValue183 }
open Go.RowKit Go.Sort Go.Lib in
theorem Tryz.internal_strconv_formatBase10(blk off cap:Nat)(u:Nat)(d:Array UInt8)(w:World)(hH:Holds (fun(b:UInt8)=>Value.int .u8 (b.toNat:Int)) w blk off d)(hu:u<10 ^ d.size)(hu64:u<18446744073709551616)(hsz:d.size<4611686018427387904) :
  Calls Tryz.prog 239 #[.slice (some ⟨blk,off,none⟩) d.size cap,.int .u64 u] w fun e w' =>
   e = .returned (.tuple #[])∧∃(n v':Nat) (dk:Array UInt8),w'=(putRow (fun(b:UInt8)=>Value.int .u8 (b.toNat:Int)) w blk off dk).drewN n∧FmtInv d.size u 0 v' dk:=Any.internal_strconv_formatBase10 Tryz.lays285 blk off cap u d w hH hu hu64 hsz
def Tryz.laysM246_ren:Go.Shelf.Ren:=⟨fun | 246=>176 | 283=>237 | 284=>238 | 285=>239 | 286=>240 | 129=>293 | 317=>292 | 318=>294 | 319=>295 | 320=>296 | 337=>316 | 338=>317|n=>n,fun | 2=>2 | 3=>3 | 9=>9 | 4=>4 | 171=>254 | 0=>0 | 53=>183 | 37=>191 | 5=>5 | 173=>257 | 212=>295 | 51=>280 | 20=>20 | 213=>296 | 46=>238 | 232=>324 | 233=>325|n=>n,fun | 17=>0 | 18=>4 | 19=>5|n=>n⟩
def Tryz.laysM243_ren:Go.Shelf.Ren:=⟨fun | 243=>112 | 246=>176 | 283=>237 | 284=>238 | 285=>239 | 286=>240 | 129=>293 | 317=>292 | 318=>294 | 319=>295 | 320=>296 | 337=>316 | 338=>317|n=>n,fun | 3=>3 | 9=>9 | 2=>2 | 4=>4 | 171=>254 | 0=>0 | 53=>183 | 37=>191 | 5=>5 | 173=>257 | 212=>295 | 51=>280 | 20=>20 | 213=>296 | 46=>238 | 232=>324 | 233=>325|n=>n,fun | 17=>0 | 18=>4 | 19=>5|n=>n⟩
def Tryz.laysM171_ren:Go.Shelf.Ren:=⟨fun | 171=>56 | 243=>112 | 246=>176 | 283=>237 | 284=>238 | 285=>239 | 286=>240 | 129=>293 | 317=>292 | 318=>294 | 319=>295 | 320=>296 | 337=>316 | 338=>317|n=>n,fun | 3=>3 | 9=>9 | 2=>2 | 4=>4 | 171=>254 | 0=>0 | 53=>183 | 37=>191 | 5=>5 | 173=>257 | 212=>295 | 51=>280 | 20=>20 | 213=>296 | 46=>238 | 232=>324 | 233=>325|n=>n,fun | 17=>0 | 18=>4 | 19=>5|n=>n⟩
theorem Tryz.laysM171:Go.Proofs.LaysM.n171 Tryz.prog Tryz.laysM171_ren:={
 mixed:=by kernel_rfl
 f129:=Tryz.func293.trans (congrArg some (by kernel_rfl))
 f171:=Tryz.func56.trans (congrArg some (by kernel_rfl))
 f243:=Tryz.func112.trans (congrArg some (by kernel_rfl))
 f246:=Tryz.func176.trans (congrArg some (by kernel_rfl))
 f283:=Tryz.func237.trans (congrArg some (by kernel_rfl))
 f284:=Tryz.func238.trans (congrArg some (by kernel_rfl))
 f285:=Tryz.func239.trans (congrArg some (by kernel_rfl))
 f286:=Tryz.func240.trans (congrArg some (by kernel_rfl))
 f317:=Tryz.func292.trans (congrArg some (by kernel_rfl))
 f318:=Tryz.func294.trans (congrArg some (by kernel_rfl))
 f319:=Tryz.func295.trans (congrArg some (by kernel_rfl))
 f320:=Tryz.func296.trans (congrArg some (by kernel_rfl))
 f337:=Tryz.func316.trans (congrArg some (by kernel_rfl))
 f338:=Tryz.func317.trans (congrArg some (by kernel_rfl))
 t0:=Tryz.underlying0
 a0:=Tryz.isAgg0
 z0:=Tryz.sizeOf0
 v0:=Tryz.zeroValue0
 t2:=Tryz.underlying2
 a2:=Tryz.isAgg2
 z2:=Tryz.sizeOf2
 v2:=Tryz.zeroValue2
 t3:=Tryz.underlying3
 a3:=Tryz.isAgg3
 z3:=Tryz.sizeOf3
 v3:=Tryz.zeroValue3
 t4:=Tryz.underlying4
 a4:=Tryz.isAgg4
 z4:=Tryz.sizeOf4
 v4:=Tryz.zeroValue4
 t5:=Tryz.underlying5
 a5:=Tryz.isAgg5
 z5:=Tryz.sizeOf5
 v5:=Tryz.zeroValue5
 t9:=Tryz.underlying9
 a9:=Tryz.isAgg9
 z9:=Tryz.sizeOf9
 v9:=Tryz.zeroValue9
 t20:=Tryz.underlying20
 a20:=Tryz.isAgg20
 z20:=Tryz.sizeOf20
 v20:=Tryz.zeroValue20
 t37:=Tryz.underlying191
 a37:=Tryz.isAgg191
 z37:=Tryz.sizeOf191
 v37:=Tryz.zeroValue191
 t46:=Tryz.underlying238
 a46:=Tryz.isAgg238
 z46:=Tryz.sizeOf238
 v46:=Tryz.zeroValue238
 t51:=Tryz.underlying280
 a51:=Tryz.isAgg280
 z51:=Tryz.sizeOf280
 v51:=Tryz.zeroValue280
 t53:=Tryz.underlying183
 a53:=Tryz.isAgg183
 z53:=Tryz.sizeOf183
 v53:=Tryz.zeroValue183
 t171:=Tryz.underlying254
 a171:=Tryz.isAgg254
 z171:=Tryz.sizeOf254
 v171:=Tryz.zeroValue254
 t173:=Tryz.underlying257
 a173:=Tryz.isAgg257
 z173:=Tryz.sizeOf257
 v173:=Tryz.zeroValue257
 t212:=Tryz.underlying295
 a212:=Tryz.isAgg295
 z212:=Tryz.sizeOf295
 v212:=Tryz.zeroValue295
 t213:=Tryz.underlying296
 a213:=Tryz.isAgg296
 z213:=Tryz.sizeOf296
 t232:=Tryz.underlying324
 a232:=Tryz.isAgg324
 z232:=Tryz.sizeOf324
 v232:=Tryz.zeroValue324
 t233:=Tryz.underlying325
 a233:=Tryz.isAgg325
 z233:=Tryz.sizeOf325
 v233:=Tryz.zeroValue325
 g17:=by kernel_rfl
 g18:=by kernel_rfl
 g19:=by kernel_rfl
 i0:=by kernel_rfl
 i2:=by kernel_rfl
 i3:=by kernel_rfl
 i4:=by kernel_rfl
 i5:=by kernel_rfl
 i9:=by kernel_rfl
 i20:=by kernel_rfl
 i37:=by kernel_rfl
 i46:=by kernel_rfl
 i51:=by kernel_rfl
 i53:=by kernel_rfl
 i171:=by kernel_rfl
 i173:=by kernel_rfl
 i212:=by kernel_rfl
 i232:=by kernel_rfl
 i233:=by kernel_rfl
 m17:=by kernel_rfl
 m18:=by kernel_rfl
 m19:=by kernel_rfl }
open Go.RowKit Go.Sort Go.Lib in
theorem Tryz.strconv_Itoa(n:Int)(h0 : -9223372036854775808≤n)(h1:n≤9223372036854775807)(w:World)(htab:Lib.TabIs Tryz.prog w "internal/strconv.uint64pow10" .u64 Lib.pow10Tab) :
  Calls Tryz.prog 56 #[.int .i64 n] w fun e w'=>e = .returned (.string ⟨(Lib.itoa n).toArray⟩)∧∃k os,w'=grow (w.drewN k) os:=Any.strconv_Itoa Tryz.laysM171 n h0 h1 w htab
def Tryz.laysC172_ren:Go.Shelf.Ren:=⟨fun | 172=>215 | 244=>276 | 245=>205 | 247=>307 | 279=>265 | 280=>266 | 281=>267 | 282=>268 | 287=>204 | 316=>303 | 171=>56 | 205=>304 | 321=>263 | 322=>264 | 243=>112 | 246=>176 | 283=>237 | 284=>238 | 285=>239 | 286=>240 | 129=>293 | 317=>292 | 318=>294 | 319=>295 | 320=>296 | 337=>316 | 338=>317|n=>n,fun | 9=>9 | 3=>3 | 75=>185 | 76=>195 | 4=>4 | 5=>5 | 167=>273 | 37=>191 | 0=>0 | 85=>309 | 2=>2 | 168=>275 | 53=>183 | 175=>186 | 46=>238 | 210=>305 | 127=>244 | 145=>321 | 143=>319 | 21=>21 | 171=>254 | 173=>257 | 212=>295 | 51=>280 | 20=>20 | 213=>296 | 232=>324 | 233=>325 | 80=>198|n=>n,fun | 15=>1 | 16=>2 | 17=>0 | 18=>4 | 19=>5|n=>n⟩
theorem Tryz.laysC172:Go.Proofs.LaysC.n172 Tryz.prog Tryz.laysC172_ren:={
 mixed:=by kernel_rfl
 f129:=Tryz.func293.trans (congrArg some (by kernel_rfl))
 f171:=Tryz.func56.trans (congrArg some (by kernel_rfl))
 f172:=Tryz.func215.trans (congrArg some (by kernel_rfl))
 f205:=Tryz.func304.trans (congrArg some (by kernel_rfl))
 f243:=Tryz.func112.trans (congrArg some (by kernel_rfl))
 f244:=Tryz.func276.trans (congrArg some (by kernel_rfl))
 f245:=Tryz.func205.trans (congrArg some (by kernel_rfl))
 f246:=Tryz.func176.trans (congrArg some (by kernel_rfl))
 f247:=Tryz.func307.trans (congrArg some (by kernel_rfl))
 f279:=Tryz.func265.trans (congrArg some (by kernel_rfl))
 f280:=Tryz.func266.trans (congrArg some (by kernel_rfl))
 f281:=Tryz.func267.trans (congrArg some (by kernel_rfl))
 f282:=Tryz.func268.trans (congrArg some (by kernel_rfl))
 f283:=Tryz.func237.trans (congrArg some (by kernel_rfl))
 f284:=Tryz.func238.trans (congrArg some (by kernel_rfl))
 f285:=Tryz.func239.trans (congrArg some (by kernel_rfl))
 f286:=Tryz.func240.trans (congrArg some (by kernel_rfl))
 f287:=Tryz.func204.trans (congrArg some (by kernel_rfl))
 f316:=Tryz.func303.trans (congrArg some (by kernel_rfl))
 f317:=Tryz.func292.trans (congrArg some (by kernel_rfl))
 f318:=Tryz.func294.trans (congrArg some (by kernel_rfl))
 f319:=Tryz.func295.trans (congrArg some (by kernel_rfl))
 f320:=Tryz.func296.trans (congrArg some (by kernel_rfl))
 f321:=Tryz.func263.trans (congrArg some (by kernel_rfl))
 f322:=Tryz.func264.trans (congrArg some (by kernel_rfl))
 f337:=Tryz.func316.trans (congrArg some (by kernel_rfl))
 f338:=Tryz.func317.trans (congrArg some (by kernel_rfl))
 t0:=Tryz.underlying0
 a0:=Tryz.isAgg0
 z0:=Tryz.sizeOf0
 v0:=Tryz.zeroValue0
 t2:=Tryz.underlying2
 a2:=Tryz.isAgg2
 z2:=Tryz.sizeOf2
 v2:=Tryz.zeroValue2
 t3:=Tryz.underlying3
 a3:=Tryz.isAgg3
 z3:=Tryz.sizeOf3
 v3:=Tryz.zeroValue3
 t4:=Tryz.underlying4
 a4:=Tryz.isAgg4
 z4:=Tryz.sizeOf4
 v4:=Tryz.zeroValue4
 t5:=Tryz.underlying5
 a5:=Tryz.isAgg5
 z5:=Tryz.sizeOf5
 v5:=Tryz.zeroValue5
 t9:=Tryz.underlying9
 a9:=Tryz.isAgg9
 z9:=Tryz.sizeOf9
 v9:=Tryz.zeroValue9
 t20:=Tryz.underlying20
 a20:=Tryz.isAgg20
 z20:=Tryz.sizeOf20
 v20:=Tryz.zeroValue20
 t21:=Tryz.underlying21
 a21:=Tryz.isAgg21
 z21:=Tryz.sizeOf21
 v21:=Tryz.zeroValue21
 t37:=Tryz.underlying191
 a37:=Tryz.isAgg191
 z37:=Tryz.sizeOf191
 v37:=Tryz.zeroValue191
 t46:=Tryz.underlying238
 a46:=Tryz.isAgg238
 z46:=Tryz.sizeOf238
 v46:=Tryz.zeroValue238
 t51:=Tryz.underlying280
 a51:=Tryz.isAgg280
 z51:=Tryz.sizeOf280
 v51:=Tryz.zeroValue280
 t53:=Tryz.underlying183
 a53:=Tryz.isAgg183
 z53:=Tryz.sizeOf183
 v53:=Tryz.zeroValue183
 t75:=Tryz.underlying185
 a75:=Tryz.isAgg185
 z75:=Tryz.sizeOf185
 v75:=Tryz.zeroValue185
 t76:=Tryz.underlying195
 a76:=Tryz.isAgg195
 z76:=Tryz.sizeOf195
 v76:=Tryz.zeroValue195
 t85:=Tryz.underlying309
 a85:=Tryz.isAgg309
 z85:=Tryz.sizeOf309
 v85:=Tryz.zeroValue309
 t127:=Tryz.underlying244
 a127:=Tryz.isAgg244
 z127:=Tryz.sizeOf244
 v127:=Tryz.zeroValue244
 t143:=Tryz.underlying319
 a143:=Tryz.isAgg319
 z143:=Tryz.sizeOf319
 v143:=Tryz.zeroValue319
 t145:=Tryz.underlying321
 a145:=Tryz.isAgg321
 z145:=Tryz.sizeOf321
 v145:=Tryz.zeroValue321
 t167:=Tryz.underlying273
 a167:=Tryz.isAgg273
 z167:=Tryz.sizeOf273
 v167:=Tryz.zeroValue273
 t168:=Tryz.underlying275
 a168:=Tryz.isAgg275
 z168:=Tryz.sizeOf275
 v168:=Tryz.zeroValue275
 t171:=Tryz.underlying254
 a171:=Tryz.isAgg254
 z171:=Tryz.sizeOf254
 v171:=Tryz.zeroValue254
 t173:=Tryz.underlying257
 a173:=Tryz.isAgg257
 z173:=Tryz.sizeOf257
 v173:=Tryz.zeroValue257
 t175:=Tryz.underlying186
 a175:=Tryz.isAgg186
 z175:=Tryz.sizeOf186
 v175:=Tryz.zeroValue186
 t210:=Tryz.underlying305
 a210:=Tryz.isAgg305
 z210:=Tryz.sizeOf305
 v210:=Tryz.zeroValue305
 t212:=Tryz.underlying295
 a212:=Tryz.isAgg295
 z212:=Tryz.sizeOf295
 v212:=Tryz.zeroValue295
 t213:=Tryz.underlying296
 a213:=Tryz.isAgg296
 z213:=Tryz.sizeOf296
 t232:=Tryz.underlying324
 a232:=Tryz.isAgg324
 z232:=Tryz.sizeOf324
 v232:=Tryz.zeroValue324
 t233:=Tryz.underlying325
 a233:=Tryz.isAgg325
 z233:=Tryz.sizeOf325
 v233:=Tryz.zeroValue325
 g15:=by kernel_rfl
 g16:=by kernel_rfl
 g17:=by kernel_rfl
 g18:=by kernel_rfl
 g19:=by kernel_rfl
 t80:=Tryz.underlying198
 a80:=Tryz.isAgg198
 z80:=Tryz.sizeOf198
 v80:=Tryz.zeroValue198
 i0:=by kernel_rfl
 i2:=by kernel_rfl
 i3:=by kernel_rfl
 i4:=by kernel_rfl
 i5:=by kernel_rfl
 i9:=by kernel_rfl
 i20:=by kernel_rfl
 i21:=by kernel_rfl
 i37:=by kernel_rfl
 i46:=by kernel_rfl
 i51:=by kernel_rfl
 i53:=by kernel_rfl
 i75:=by kernel_rfl
 i76:=by kernel_rfl
 i80:=by kernel_rfl
 i85:=by kernel_rfl
 i127:=by kernel_rfl
 i143:=by kernel_rfl
 i145:=by kernel_rfl
 i167:=by kernel_rfl
 i168:=by kernel_rfl
 i171:=by kernel_rfl
 i173:=by kernel_rfl
 i175:=by kernel_rfl
 i210:=by kernel_rfl
 i212:=by kernel_rfl
 i232:=by kernel_rfl
 i233:=by kernel_rfl
 m15:=by kernel_rfl
 m16:=by kernel_rfl
 m17:=by kernel_rfl
 m18:=by kernel_rfl
 m19:=by kernel_rfl
 c0:=by kernel_rfl
 c2:=by kernel_rfl
 c3:=by kernel_rfl
 c4:=by kernel_rfl
 c5:=by kernel_rfl
 c9:=by kernel_rfl
 c20:=by kernel_rfl
 c21:=by kernel_rfl
 c37:=by kernel_rfl
 c46:=by kernel_rfl
 c51:=by kernel_rfl
 c53:=by kernel_rfl
 c75:=by kernel_rfl
 c76:=by kernel_rfl
 c80:=by kernel_rfl
 c85:=by kernel_rfl
 c127:=by kernel_rfl
 c143:=by kernel_rfl
 c145:=by kernel_rfl
 c167:=by kernel_rfl
 c168:=by kernel_rfl
 c171:=by kernel_rfl
 c173:=by kernel_rfl
 c175:=by kernel_rfl
 c210:=by kernel_rfl
 c212:=by kernel_rfl
 c213:=by kernel_rfl
 c232:=by kernel_rfl
 c233:=by kernel_rfl }
open Go.RowKit in
theorem Tryz.strconv_Atoi_ok(s:ByteArray)(hmax:s.size≤9223372036854775806)(v:Int)(h:Lib.atoiAll s.data.toList = .ok v)(w:World) :
  Calls Tryz.prog 215 #[.string s] w fun e w'=>e = .returned (.tuple #[.int .i64 v,.nilIface])∧(w'=w∨∃t,w'=Lib.bytesWorld w 5 t):=Any.strconv_Atoi_ok Tryz.laysC172 s hmax v h w
open Go.RowKit in
theorem Tryz.strconv_Atoi_range(s:ByteArray)(hlim:s.size≤281474976710656)(h:Lib.atoiAll s.data.toList = .range)(ev:Value)(w:World)(hv:w.cell? ⟨2,0,none⟩=some ev)(hev:ev = .nilIface∨∃te pe,ev = .iface te pe) :
  Calls Tryz.prog 215 #[.string s] w fun e w'=>∃N,e = .returned (.tuple #[.int .i64 (Lib.atoiSat s.data.toList),.iface 275 (.pointer (some ⟨N,0,none⟩))])∧w.heap.size≤N∧w'.heap[N]? = some (.cells #[.string ⟨#[65,116,111,105]⟩,.string s,ev] 305 (0,0))∧Below w.heap.size w w':=Any.strconv_Atoi_range Tryz.laysC172 s hlim h ev w hv hev
def Tryz.laysC174_ren:Go.Shelf.Ren:=⟨fun | 174=>328 | 247=>307 | 245=>205 | 287=>204 | 279=>265 | 280=>266 | 281=>267 | 282=>268 | 321=>263 | 322=>264 | 316=>303 | 171=>56 | 205=>304 | 243=>112 | 246=>176 | 283=>237 | 284=>238 | 285=>239 | 286=>240 | 129=>293 | 317=>292 | 318=>294 | 319=>295 | 320=>296 | 337=>316 | 338=>317|n=>n,fun | 9=>9 | 3=>3 | 2=>2 | 75=>185 | 85=>309 | 4=>4 | 167=>273 | 5=>5 | 53=>183 | 175=>186 | 46=>238 | 168=>275 | 37=>191 | 0=>0 | 210=>305 | 21=>21 | 127=>244 | 145=>321 | 143=>319 | 171=>254 | 173=>257 | 212=>295 | 51=>280 | 20=>20 | 213=>296 | 232=>324 | 233=>325 | 80=>198|n=>n,fun | 15=>1 | 16=>2 | 17=>0 | 18=>4 | 19=>5|n=>n⟩
theorem Tryz.laysC174:Go.Proofs.LaysC.n174 Tryz.prog Tryz.laysC174_ren:={
 mixed:=by kernel_rfl
 f129:=Tryz.func293.trans (congrArg some (by kernel_rfl))
 f171:=Tryz.func56.trans (congrArg some (by kernel_rfl))
 f174:=Tryz.func328.trans (congrArg some (by kernel_rfl))
 f205:=Tryz.func304.trans (congrArg some (by kernel_rfl))
 f243:=Tryz.func112.trans (congrArg some (by kernel_rfl))
 f245:=Tryz.func205.trans (congrArg some (by kernel_rfl))
 f246:=Tryz.func176.trans (congrArg some (by kernel_rfl))
 f247:=Tryz.func307.trans (congrArg some (by kernel_rfl))
 f279:=Tryz.func265.trans (congrArg some (by kernel_rfl))
 f280:=Tryz.func266.trans (congrArg some (by kernel_rfl))
 f281:=Tryz.func267.trans (congrArg some (by kernel_rfl))
 f282:=Tryz.func268.trans (congrArg some (by kernel_rfl))
 f283:=Tryz.func237.trans (congrArg some (by kernel_rfl))
 f284:=Tryz.func238.trans (congrArg some (by kernel_rfl))
 f285:=Tryz.func239.trans (congrArg some (by kernel_rfl))
 f286:=Tryz.func240.trans (congrArg some (by kernel_rfl))
 f287:=Tryz.func204.trans (congrArg some (by kernel_rfl))
 f316:=Tryz.func303.trans (congrArg some (by kernel_rfl))
 f317:=Tryz.func292.trans (congrArg some (by kernel_rfl))
 f318:=Tryz.func294.trans (congrArg some (by kernel_rfl))
 f319:=Tryz.func295.trans (congrArg some (by kernel_rfl))
 f320:=Tryz.func296.trans (congrArg some (by kernel_rfl))
 f321:=Tryz.func263.trans (congrArg some (by kernel_rfl))
 f322:=Tryz.func264.trans (congrArg some (by kernel_rfl))
 f337:=Tryz.func316.trans (congrArg some (by kernel_rfl))
 f338:=Tryz.func317.trans (congrArg some (by kernel_rfl))
 t0:=Tryz.underlying0
 a0:=Tryz.isAgg0
 z0:=Tryz.sizeOf0
 v0:=Tryz.zeroValue0
 t2:=Tryz.underlying2
 a2:=Tryz.isAgg2
 z2:=Tryz.sizeOf2
 v2:=Tryz.zeroValue2
 t3:=Tryz.underlying3
 a3:=Tryz.isAgg3
 z3:=Tryz.sizeOf3
 v3:=Tryz.zeroValue3
 t4:=Tryz.underlying4
 a4:=Tryz.isAgg4
 z4:=Tryz.sizeOf4
 v4:=Tryz.zeroValue4
 t5:=Tryz.underlying5
 a5:=Tryz.isAgg5
 z5:=Tryz.sizeOf5
 v5:=Tryz.zeroValue5
 t9:=Tryz.underlying9
 a9:=Tryz.isAgg9
 z9:=Tryz.sizeOf9
 v9:=Tryz.zeroValue9
 t20:=Tryz.underlying20
 a20:=Tryz.isAgg20
 z20:=Tryz.sizeOf20
 v20:=Tryz.zeroValue20
 t21:=Tryz.underlying21
 a21:=Tryz.isAgg21
 z21:=Tryz.sizeOf21
 v21:=Tryz.zeroValue21
 t37:=Tryz.underlying191
 a37:=Tryz.isAgg191
 z37:=Tryz.sizeOf191
 v37:=Tryz.zeroValue191
 t46:=Tryz.underlying238
 a46:=Tryz.isAgg238
 z46:=Tryz.sizeOf238
 v46:=Tryz.zeroValue238
 t51:=Tryz.underlying280
 a51:=Tryz.isAgg280
 z51:=Tryz.sizeOf280
 v51:=Tryz.zeroValue280
 t53:=Tryz.underlying183
 a53:=Tryz.isAgg183
 z53:=Tryz.sizeOf183
 v53:=Tryz.zeroValue183
 t75:=Tryz.underlying185
 a75:=Tryz.isAgg185
 z75:=Tryz.sizeOf185
 v75:=Tryz.zeroValue185
 t85:=Tryz.underlying309
 a85:=Tryz.isAgg309
 z85:=Tryz.sizeOf309
 v85:=Tryz.zeroValue309
 t127:=Tryz.underlying244
 a127:=Tryz.isAgg244
 z127:=Tryz.sizeOf244
 v127:=Tryz.zeroValue244
 t143:=Tryz.underlying319
 a143:=Tryz.isAgg319
 z143:=Tryz.sizeOf319
 v143:=Tryz.zeroValue319
 t145:=Tryz.underlying321
 a145:=Tryz.isAgg321
 z145:=Tryz.sizeOf321
 v145:=Tryz.zeroValue321
 t167:=Tryz.underlying273
 a167:=Tryz.isAgg273
 z167:=Tryz.sizeOf273
 v167:=Tryz.zeroValue273
 t168:=Tryz.underlying275
 a168:=Tryz.isAgg275
 z168:=Tryz.sizeOf275
 v168:=Tryz.zeroValue275
 t171:=Tryz.underlying254
 a171:=Tryz.isAgg254
 z171:=Tryz.sizeOf254
 v171:=Tryz.zeroValue254
 t173:=Tryz.underlying257
 a173:=Tryz.isAgg257
 z173:=Tryz.sizeOf257
 v173:=Tryz.zeroValue257
 t175:=Tryz.underlying186
 a175:=Tryz.isAgg186
 z175:=Tryz.sizeOf186
 v175:=Tryz.zeroValue186
 t210:=Tryz.underlying305
 a210:=Tryz.isAgg305
 z210:=Tryz.sizeOf305
 v210:=Tryz.zeroValue305
 t212:=Tryz.underlying295
 a212:=Tryz.isAgg295
 z212:=Tryz.sizeOf295
 v212:=Tryz.zeroValue295
 t213:=Tryz.underlying296
 a213:=Tryz.isAgg296
 z213:=Tryz.sizeOf296
 t232:=Tryz.underlying324
 a232:=Tryz.isAgg324
 z232:=Tryz.sizeOf324
 v232:=Tryz.zeroValue324
 t233:=Tryz.underlying325
 a233:=Tryz.isAgg325
 z233:=Tryz.sizeOf325
 v233:=Tryz.zeroValue325
 g15:=by kernel_rfl
 g16:=by kernel_rfl
 g17:=by kernel_rfl
 g18:=by kernel_rfl
 g19:=by kernel_rfl
 t80:=Tryz.underlying198
 a80:=Tryz.isAgg198
 z80:=Tryz.sizeOf198
 v80:=Tryz.zeroValue198
 i0:=by kernel_rfl
 i2:=by kernel_rfl
 i3:=by kernel_rfl
 i4:=by kernel_rfl
 i5:=by kernel_rfl
 i9:=by kernel_rfl
 i20:=by kernel_rfl
 i21:=by kernel_rfl
 i37:=by kernel_rfl
 i46:=by kernel_rfl
 i51:=by kernel_rfl
 i53:=by kernel_rfl
 i75:=by kernel_rfl
 i80:=by kernel_rfl
 i85:=by kernel_rfl
 i127:=by kernel_rfl
 i143:=by kernel_rfl
 i145:=by kernel_rfl
 i167:=by kernel_rfl
 i168:=by kernel_rfl
 i171:=by kernel_rfl
 i173:=by kernel_rfl
 i175:=by kernel_rfl
 i210:=by kernel_rfl
 i212:=by kernel_rfl
 i232:=by kernel_rfl
 i233:=by kernel_rfl
 m15:=by kernel_rfl
 m16:=by kernel_rfl
 m17:=by kernel_rfl
 m18:=by kernel_rfl
 m19:=by kernel_rfl
 c0:=by kernel_rfl
 c2:=by kernel_rfl
 c3:=by kernel_rfl
 c4:=by kernel_rfl
 c5:=by kernel_rfl
 c9:=by kernel_rfl
 c20:=by kernel_rfl
 c21:=by kernel_rfl
 c37:=by kernel_rfl
 c46:=by kernel_rfl
 c51:=by kernel_rfl
 c53:=by kernel_rfl
 c75:=by kernel_rfl
 c80:=by kernel_rfl
 c85:=by kernel_rfl
 c127:=by kernel_rfl
 c143:=by kernel_rfl
 c145:=by kernel_rfl
 c167:=by kernel_rfl
 c168:=by kernel_rfl
 c171:=by kernel_rfl
 c173:=by kernel_rfl
 c175:=by kernel_rfl
 c210:=by kernel_rfl
 c212:=by kernel_rfl
 c213:=by kernel_rfl
 c232:=by kernel_rfl
 c233:=by kernel_rfl }
open Go.RowKit in
theorem Tryz.strconv_ParseInt_10_at64_ok(s:ByteArray)(hmax:s.size≤9223372036854775806)(v:Int)(h:Lib.parseIntB 64 s.data.toList = .ok v)(w:World) :
  Calls Tryz.prog 328 #[.string s,.int .i64 10,.int .i64 64] w fun e w'=>e = .returned (.tuple #[.int .i64 v,.nilIface])∧(w'=w∨∃t,w'=Lib.bytesWorld w 5 t):=Any.strconv_ParseInt_10_at64_ok Tryz.laysC174 s hmax v h w
def Tryz.laysPu14_ren:Go.Shelf.Ren:=⟨fun | 14=>132 | 16=>204 | 17=>205 | 19=>263 | 20=>264 | 21=>265 | 22=>266 | 23=>267 | 24=>268 | 25=>303 | 27=>56 | 26=>304 | 28=>112 | 29=>176 | 30=>237 | 31=>238 | 32=>239 | 33=>240 | 35=>293 | 34=>292 | 36=>294 | 37=>295 | 38=>296 | 39=>316 | 40=>317|n=>n,fun | 9=>9 | 3=>3 | 22=>183 | 24=>185 | 25=>186 | 4=>4 | 34=>273 | 5=>5 | 36=>238 | 37=>191 | 0=>0 | 39=>275 | 21=>21 | 44=>305 | 47=>244 | 50=>321 | 48=>319 | 2=>2 | 52=>254 | 55=>257 | 59=>295 | 60=>280 | 20=>20 | 61=>296 | 65=>324 | 66=>325 | 67=>198|n=>n,fun | 0=>1 | 1=>2 | 2=>0 | 3=>4 | 4=>5|n=>n⟩
theorem Tryz.laysPu14:Go.Proofs.LaysPu.n14 Tryz.prog Tryz.laysPu14_ren:={
 mixed:=by kernel_rfl
 f14:=Tryz.func132.trans (congrArg some (by kernel_rfl))
 f16:=Tryz.func204.trans (congrArg some (by kernel_rfl))
 f17:=Tryz.func205.trans (congrArg some (by kernel_rfl))
 f19:=Tryz.func263.trans (congrArg some (by kernel_rfl))
 f20:=Tryz.func264.trans (congrArg some (by kernel_rfl))
 f21:=Tryz.func265.trans (congrArg some (by kernel_rfl))
 f22:=Tryz.func266.trans (congrArg some (by kernel_rfl))
 f23:=Tryz.func267.trans (congrArg some (by kernel_rfl))
 f24:=Tryz.func268.trans (congrArg some (by kernel_rfl))
 f25:=Tryz.func303.trans (congrArg some (by kernel_rfl))
 f26:=Tryz.func304.trans (congrArg some (by kernel_rfl))
 f27:=Tryz.func56.trans (congrArg some (by kernel_rfl))
 f28:=Tryz.func112.trans (congrArg some (by kernel_rfl))
 f29:=Tryz.func176.trans (congrArg some (by kernel_rfl))
 f30:=Tryz.func237.trans (congrArg some (by kernel_rfl))
 f31:=Tryz.func238.trans (congrArg some (by kernel_rfl))
 f32:=Tryz.func239.trans (congrArg some (by kernel_rfl))
 f33:=Tryz.func240.trans (congrArg some (by kernel_rfl))
 f34:=Tryz.func292.trans (congrArg some (by kernel_rfl))
 f35:=Tryz.func293.trans (congrArg some (by kernel_rfl))
 f36:=Tryz.func294.trans (congrArg some (by kernel_rfl))
 f37:=Tryz.func295.trans (congrArg some (by kernel_rfl))
 f38:=Tryz.func296.trans (congrArg some (by kernel_rfl))
 f39:=Tryz.func316.trans (congrArg some (by kernel_rfl))
 f40:=Tryz.func317.trans (congrArg some (by kernel_rfl))
 t0:=Tryz.underlying0
 a0:=Tryz.isAgg0
 z0:=Tryz.sizeOf0
 v0:=Tryz.zeroValue0
 i0:=by kernel_rfl
 t2:=Tryz.underlying2
 a2:=Tryz.isAgg2
 z2:=Tryz.sizeOf2
 v2:=Tryz.zeroValue2
 i2:=by kernel_rfl
 t3:=Tryz.underlying3
 a3:=Tryz.isAgg3
 z3:=Tryz.sizeOf3
 v3:=Tryz.zeroValue3
 i3:=by kernel_rfl
 t4:=Tryz.underlying4
 a4:=Tryz.isAgg4
 z4:=Tryz.sizeOf4
 v4:=Tryz.zeroValue4
 i4:=by kernel_rfl
 t5:=Tryz.underlying5
 a5:=Tryz.isAgg5
 z5:=Tryz.sizeOf5
 v5:=Tryz.zeroValue5
 i5:=by kernel_rfl
 t9:=Tryz.underlying9
 a9:=Tryz.isAgg9
 z9:=Tryz.sizeOf9
 v9:=Tryz.zeroValue9
 i9:=by kernel_rfl
 t20:=Tryz.underlying20
 a20:=Tryz.isAgg20
 z20:=Tryz.sizeOf20
 v20:=Tryz.zeroValue20
 i20:=by kernel_rfl
 t21:=Tryz.underlying21
 a21:=Tryz.isAgg21
 z21:=Tryz.sizeOf21
 v21:=Tryz.zeroValue21
 i21:=by kernel_rfl
 t22:=Tryz.underlying183
 a22:=Tryz.isAgg183
 z22:=Tryz.sizeOf183
 v22:=Tryz.zeroValue183
 i22:=by kernel_rfl
 t24:=Tryz.underlying185
 a24:=Tryz.isAgg185
 z24:=Tryz.sizeOf185
 v24:=Tryz.zeroValue185
 i24:=by kernel_rfl
 t25:=Tryz.underlying186
 a25:=Tryz.isAgg186
 z25:=Tryz.sizeOf186
 v25:=Tryz.zeroValue186
 i25:=by kernel_rfl
 t34:=Tryz.underlying273
 a34:=Tryz.isAgg273
 z34:=Tryz.sizeOf273
 v34:=Tryz.zeroValue273
 i34:=by kernel_rfl
 c34:=by kernel_rfl
 t36:=Tryz.underlying238
 a36:=Tryz.isAgg238
 z36:=Tryz.sizeOf238
 v36:=Tryz.zeroValue238
 i36:=by kernel_rfl
 t37:=Tryz.underlying191
 a37:=Tryz.isAgg191
 z37:=Tryz.sizeOf191
 v37:=Tryz.zeroValue191
 i37:=by kernel_rfl
 t39:=Tryz.underlying275
 a39:=Tryz.isAgg275
 z39:=Tryz.sizeOf275
 v39:=Tryz.zeroValue275
 i39:=by kernel_rfl
 t44:=Tryz.underlying305
 a44:=Tryz.isAgg305
 z44:=Tryz.sizeOf305
 v44:=Tryz.zeroValue305
 i44:=by kernel_rfl
 t47:=Tryz.underlying244
 a47:=Tryz.isAgg244
 z47:=Tryz.sizeOf244
 v47:=Tryz.zeroValue244
 i47:=by kernel_rfl
 t48:=Tryz.underlying319
 a48:=Tryz.isAgg319
 z48:=Tryz.sizeOf319
 v48:=Tryz.zeroValue319
 i48:=by kernel_rfl
 t50:=Tryz.underlying321
 a50:=Tryz.isAgg321
 z50:=Tryz.sizeOf321
 v50:=Tryz.zeroValue321
 i50:=by kernel_rfl
 t52:=Tryz.underlying254
 a52:=Tryz.isAgg254
 z52:=Tryz.sizeOf254
 v52:=Tryz.zeroValue254
 i52:=by kernel_rfl
 t55:=Tryz.underlying257
 a55:=Tryz.isAgg257
 z55:=Tryz.sizeOf257
 v55:=Tryz.zeroValue257
 i55:=by kernel_rfl
 t59:=Tryz.underlying295
 a59:=Tryz.isAgg295
 z59:=Tryz.sizeOf295
 v59:=Tryz.zeroValue295
 i59:=by kernel_rfl
 t60:=Tryz.underlying280
 a60:=Tryz.isAgg280
 z60:=Tryz.sizeOf280
 v60:=Tryz.zeroValue280
 i60:=by kernel_rfl
 t61:=Tryz.underlying296
 a61:=Tryz.isAgg296
 z61:=Tryz.sizeOf296
 t65:=Tryz.underlying324
 a65:=Tryz.isAgg324
 z65:=Tryz.sizeOf324
 v65:=Tryz.zeroValue324
 i65:=by kernel_rfl
 t66:=Tryz.underlying325
 a66:=Tryz.isAgg325
 z66:=Tryz.sizeOf325
 v66:=Tryz.zeroValue325
 i66:=by kernel_rfl
 t67:=Tryz.underlying198
 a67:=Tryz.isAgg198
 z67:=Tryz.sizeOf198
 v67:=Tryz.zeroValue198
 i67:=by kernel_rfl
 g0:=by kernel_rfl
 m0:=by kernel_rfl
 g1:=by kernel_rfl
 m1:=by kernel_rfl
 g2:=by kernel_rfl
 m2:=by kernel_rfl
 g3:=by kernel_rfl
 m3:=by kernel_rfl
 g4:=by kernel_rfl
 m4:=by kernel_rfl }
open Go.RowKit in
theorem Tryz.strconv_ParseUint_10_at64_ok(s:ByteArray)(hmax:s.size≤9223372036854775806)(u:Nat)(h:Lib.parseUintB 64 s.data.toList = .ok u)(w:World) :
  Calls Tryz.prog 132 #[.string s,.int .i64 10,.int .i64 64] w fun e w'=>e = .returned (.tuple #[.int .u64 u,.nilIface])∧(w'=w∨w'=Lib.bytesWorld w 5 s):=Any.strconv_ParseUint_10_at64_ok Tryz.laysPu14 s hmax u h w
def Tryz.lays219_ren:Go.Shelf.Ren:=⟨fun | 219=>306 | 217=>321 | 225=>322 | 224=>323 | 267=>324 | 266=>332 | 314=>333|n=>n,fun | 9=>9 | 3=>3 | 4=>4 | 5=>5 | 46=>238 | 146=>281 | 51=>280|n=>n,fun | 1=>3|n=>n⟩
def Tryz.lays145_ren:Go.Shelf.Ren:=⟨fun | 145=>214 | 220=>275 | 219=>306 | 217=>321 | 225=>322 | 224=>323 | 267=>324 | 266=>332 | 314=>333|n=>n,fun | 9=>9 | 4=>4 | 59=>247 | 3=>3 | 5=>5 | 46=>238 | 146=>281 | 51=>280|n=>n,fun | 1=>3|n=>n⟩
theorem Tryz.lays145:Go.Proofs.Lays.n145 Tryz.prog Tryz.lays145_ren:={
 mixed:=by kernel_rfl
 f145:=Tryz.func214.trans (congrArg some (by kernel_rfl))
 f217:=Tryz.func321.trans (congrArg some (by kernel_rfl))
 f219:=Tryz.func306.trans (congrArg some (by kernel_rfl))
 f220:=Tryz.func275.trans (congrArg some (by kernel_rfl))
 f224:=Tryz.func323.trans (congrArg some (by kernel_rfl))
 f225:=Tryz.func322.trans (congrArg some (by kernel_rfl))
 f266:=Tryz.func332.trans (congrArg some (by kernel_rfl))
 f267:=Tryz.func324.trans (congrArg some (by kernel_rfl))
 f314:=Tryz.func333.trans (congrArg some (by kernel_rfl))
 t3:=Tryz.underlying3
 a3:=Tryz.isAgg3
 z3:=Tryz.sizeOf3
 v3:=Tryz.zeroValue3
 t4:=Tryz.underlying4
 a4:=Tryz.isAgg4
 z4:=Tryz.sizeOf4
 v4:=Tryz.zeroValue4
 t5:=Tryz.underlying5
 a5:=Tryz.isAgg5
 z5:=Tryz.sizeOf5
 v5:=Tryz.zeroValue5
 t9:=Tryz.underlying9
 a9:=Tryz.isAgg9
 z9:=Tryz.sizeOf9
 v9:=Tryz.zeroValue9
 t46:=Tryz.underlying238
 a46:=Tryz.isAgg238
 z46:=Tryz.sizeOf238
 v46:=Tryz.zeroValue238
 t51:=Tryz.underlying280
 a51:=Tryz.isAgg280
 z51:=Tryz.sizeOf280
 v51:=Tryz.zeroValue280
 t59:=Tryz.underlying247
 a59:=Tryz.isAgg247
 z59:=Tryz.sizeOf247
 v59:=Tryz.zeroValue247
 t146:=Tryz.underlying281
 a146:=Tryz.isAgg281
 z146:=Tryz.sizeOf281
 v146:=Tryz.zeroValue281
 g1:=by kernel_rfl }
open Go.RowKit Go.Lib in
theorem Tryz.strings_Cut(s sep:ByteArray)(m:Int)(w:World)(hs:s.size<4294967281)(hm:w.cell? ⟨3,0,none⟩=some (.int .i64 m)) :
  Calls Tryz.prog 214 #[.string s,.string sep] w fun e w'=>e = .returned (.tuple #[.string ⟨(Lib.cut s.data.toList sep.data.toList).1.toArray⟩,.string ⟨(Lib.cut s.data.toList sep.data.toList).2.1.toArray⟩,.bool (Lib.cut s.data.toList sep.data.toList).2.2])∧∃n,w'=w.drewN n:=Any.strings_Cut Tryz.lays145 s sep m w hs hm
def Tryz.lays101_ren:Go.Shelf.Ren:=⟨fun | 101=>277 | 208=>308 | 206=>272|n=>n,fun | 9=>9 | 4=>4 | 3=>3|n=>n,fun|n=>n⟩
theorem Tryz.lays101:Go.Proofs.Lays.n101 Tryz.prog Tryz.lays101_ren:={
 mixed:=by kernel_rfl
 f101:=Tryz.func277.trans (congrArg some (by kernel_rfl))
 f206:=Tryz.func272.trans (congrArg some (by kernel_rfl))
 f208:=Tryz.func308.trans (congrArg some (by kernel_rfl))
 t3:=Tryz.underlying3
 a3:=Tryz.isAgg3
 z3:=Tryz.sizeOf3
 v3:=Tryz.zeroValue3
 t4:=Tryz.underlying4
 a4:=Tryz.isAgg4
 z4:=Tryz.sizeOf4
 v4:=Tryz.zeroValue4
 t9:=Tryz.underlying9
 a9:=Tryz.isAgg9
 z9:=Tryz.sizeOf9
 v9:=Tryz.zeroValue9 }
open Go.RowKit Go.Lib in
theorem Tryz.strings_TrimPrefix(s p:ByteArray)(w:World) :
  Calls Tryz.prog 277 #[.string s,.string p] w fun e w'=>e = .returned (.string ⟨(Lib.trimPrefix s.data.toList p.data.toList).toArray⟩)∧w'=w:=Any.strings_TrimPrefix Tryz.lays101 s p w
def Tryz.lays105_ren:Go.Shelf.Ren:=⟨fun | 105=>139 | 212=>209 | 99=>210 | 165=>211 | 166=>137 | 170=>212 | 169=>140 | 263=>270 | 264=>271 | 206=>272 | 240=>207 | 241=>273 | 276=>269 | 277=>305|n=>n,fun | 9=>9 | 3=>3 | 4=>4 | 20=>20 | 0=>0 | 46=>238 | 109=>239 | 5=>5 | 72=>193 | 76=>195 | 51=>280 | 146=>281 | 53=>183 | 148=>283 | 70=>190 | 37=>191 | 75=>185 | 127=>244 | 164=>278 | 80=>198|n=>n,fun|n=>n⟩
theorem Tryz.lays105:Go.Proofs.Lays.n105 Tryz.prog Tryz.lays105_ren:={
 mixed:=by kernel_rfl
 f99:=Tryz.func210.trans (congrArg some (by kernel_rfl))
 f105:=Tryz.func139.trans (congrArg some (by kernel_rfl))
 f165:=Tryz.func211.trans (congrArg some (by kernel_rfl))
 f166:=Tryz.func137.trans (congrArg some (by kernel_rfl))
 f169:=Tryz.func140.trans (congrArg some (by kernel_rfl))
 f170:=Tryz.func212.trans (congrArg some (by kernel_rfl))
 f206:=Tryz.func272.trans (congrArg some (by kernel_rfl))
 f212:=Tryz.func209.trans (congrArg some (by kernel_rfl))
 f240:=Tryz.func207.trans (congrArg some (by kernel_rfl))
 f241:=Tryz.func273.trans (congrArg some (by kernel_rfl))
 f263:=Tryz.func270.trans (congrArg some (by kernel_rfl))
 f264:=Tryz.func271.trans (congrArg some (by kernel_rfl))
 f276:=Tryz.func269.trans (congrArg some (by kernel_rfl))
 f277:=Tryz.func305.trans (congrArg some (by kernel_rfl))
 t0:=Tryz.underlying0
 a0:=Tryz.isAgg0
 z0:=Tryz.sizeOf0
 v0:=Tryz.zeroValue0
 t3:=Tryz.underlying3
 a3:=Tryz.isAgg3
 z3:=Tryz.sizeOf3
 v3:=Tryz.zeroValue3
 t4:=Tryz.underlying4
 a4:=Tryz.isAgg4
 z4:=Tryz.sizeOf4
 v4:=Tryz.zeroValue4
 t5:=Tryz.underlying5
 a5:=Tryz.isAgg5
 z5:=Tryz.sizeOf5
 v5:=Tryz.zeroValue5
 t9:=Tryz.underlying9
 a9:=Tryz.isAgg9
 z9:=Tryz.sizeOf9
 v9:=Tryz.zeroValue9
 t20:=Tryz.underlying20
 a20:=Tryz.isAgg20
 z20:=Tryz.sizeOf20
 v20:=Tryz.zeroValue20
 t37:=Tryz.underlying191
 a37:=Tryz.isAgg191
 z37:=Tryz.sizeOf191
 v37:=Tryz.zeroValue191
 t46:=Tryz.underlying238
 a46:=Tryz.isAgg238
 z46:=Tryz.sizeOf238
 v46:=Tryz.zeroValue238
 t51:=Tryz.underlying280
 a51:=Tryz.isAgg280
 z51:=Tryz.sizeOf280
 v51:=Tryz.zeroValue280
 t53:=Tryz.underlying183
 a53:=Tryz.isAgg183
 z53:=Tryz.sizeOf183
 v53:=Tryz.zeroValue183
 t70:=Tryz.underlying190
 a70:=Tryz.isAgg190
 z70:=Tryz.sizeOf190
 v70:=Tryz.zeroValue190
 t72:=Tryz.underlying193
 a72:=Tryz.isAgg193
 z72:=Tryz.sizeOf193
 v72:=Tryz.zeroValue193
 t75:=Tryz.underlying185
 a75:=Tryz.isAgg185
 z75:=Tryz.sizeOf185
 v75:=Tryz.zeroValue185
 t76:=Tryz.underlying195
 a76:=Tryz.isAgg195
 z76:=Tryz.sizeOf195
 v76:=Tryz.zeroValue195
 t109:=Tryz.underlying239
 a109:=Tryz.isAgg239
 z109:=Tryz.sizeOf239
 v109:=Tryz.zeroValue239
 t127:=Tryz.underlying244
 a127:=Tryz.isAgg244
 z127:=Tryz.sizeOf244
 v127:=Tryz.zeroValue244
 t146:=Tryz.underlying281
 a146:=Tryz.isAgg281
 z146:=Tryz.sizeOf281
 v146:=Tryz.zeroValue281
 t148:=Tryz.underlying283
 a148:=Tryz.isAgg283
 z148:=Tryz.sizeOf283
 v148:=Tryz.zeroValue283
 t164:=Tryz.underlying278
 a164:=Tryz.isAgg278
 z164:=Tryz.sizeOf278
 v164:=Tryz.zeroValue278 }
theorem Tryz.Builder_Extra_105:Builder.Extra Tryz.prog Tryz.lays105_ren:={
 sizeBuilder:=by kernel_rfl
 liesBuilder:=by kernel_rfl
 t5:=Tryz.underlying5
 a5:=Tryz.isAgg5
 z5:=Tryz.sizeOf5
 v5:=Tryz.zeroValue5
 infoByte:=by kernel_rfl
 cellsByte:=by kernel_rfl
 sizeByte:=by kernel_rfl
 neB5:=by decide }
open Go.RowKit Go.Lib in
theorem Tryz.strings_Repeat(s:ByteArray)(c:Nat)(w:World)(hc:c≤9223372036854775807)(hlen:s.size*c≤140737488355328) :
  Calls Tryz.prog 139 #[.string s,.int .i64 c] w fun e w'=>e = .returned (.string ⟨(Lib.repeatL s.data.toList c).toArray⟩)∧Below w.heap.size w w':=Any.strings_Repeat Tryz.lays105 Tryz.Builder_Extra_105 s c w hc hlen
end Go.Proofs
