/- DERIVED: THE SHELF's CONTRACTS AT THIS DUMP, IN PLAIN WORDS (tools/lay-plain.mjs out of 'TryzShelf.lean', which tools/lay-shelf.mjs wrote): THE SAME DECLARATIONS UNDER THE SAME NAMES: 'import', 'namespace', 'open', 'def', 'theorem' AND NOTHING ELSE: no command of the shelf's: FOR A HAND-IN. Each laying: the table of numbers ('.._ren') and one theorem, a field a fact of the dump's own or the kernel's comparison; each contract: ONE APPLICATION. -/
import Derived.Shelf.Strings.Trim
import Derived.Shelf.Small.Utf8
import Derived.Shelf.Small.Bits
import Derived.Shelf.Small.Strs
import Derived.Shelf.Small.Wraps
import Derived.Shelf.Strconv.Itoa0
import Derived.Shelf.Strconv.Itoa1
import Derived.Shelf.LaysM
import Derived.Shelf.Strconv.Itoa2
import Derived.Shelf.Strconv.Itoa3
import Derived.Shelf.Pu.ParseUintPublic10
import Derived.Shelf.Strings.Search1
import Derived.Shelf.Strings.Search2
import Derived.Shelf.Strings.Cut
import Derived.Shelf.Strings.Shaped
import Derived.Shelf.Strings.Prefix
import Derived.Shelf.Strings.Runes
import Derived.Shelf.Strings.AsciiSet
import Derived.Shelf.Bits.Mul64
import Derived.Test.YtodehkjinmgflaaGreatDoorProg
namespace Go.Proofs
open Go.Shelf
def Tryz.lays160_ren:Go.Shelf.Ren:=⟨fun | 160=>193 | 232=>230 | 231=>229 | 227=>231 | 234=>233 | 233=>232 | 236=>235 | 235=>234 | 228=>272 | 271=>275 | 151=>274 | 197=>273 | 120=>298 | 152=>297 | 260=>296 | 137=>312 | 119=>313 | 224=>294 | 225=>293 | 217=>292 | 266=>310 | n=>n,fun | 9=>9 | 4=>4 | 3=>3 | 5=>5 | 117=>301 | 116=>300 | 0=>0 | 124=>304 | 21=>21 | 105=>340 | 46=>178 | 119=>367 | 139=>370 | 138=>369 | n=>n,fun | 3=>3 | 4=>4 | n=>n⟩
theorem Tryz.lays160:Go.Proofs.Lays.n160 Tryz.prog Tryz.lays160_ren:={
 mixed:=by kernel_rfl
 f119:=Tryz.func313.trans (congrArg some (by kernel_rfl))
 f120:=Tryz.func298.trans (congrArg some (by kernel_rfl))
 f137:=Tryz.func312.trans (congrArg some (by kernel_rfl))
 f151:=Tryz.func274.trans (congrArg some (by kernel_rfl))
 f152:=Tryz.func297.trans (congrArg some (by kernel_rfl))
 f160:=Tryz.func193.trans (congrArg some (by kernel_rfl))
 f197:=Tryz.func273.trans (congrArg some (by kernel_rfl))
 f217:=Tryz.func292.trans (congrArg some (by kernel_rfl))
 f224:=Tryz.func294.trans (congrArg some (by kernel_rfl))
 f225:=Tryz.func293.trans (congrArg some (by kernel_rfl))
 f227:=Tryz.func231.trans (congrArg some (by kernel_rfl))
 f228:=Tryz.func272.trans (congrArg some (by kernel_rfl))
 f231:=Tryz.func229.trans (congrArg some (by kernel_rfl))
 f232:=Tryz.func230.trans (congrArg some (by kernel_rfl))
 f233:=Tryz.func232.trans (congrArg some (by kernel_rfl))
 f234:=Tryz.func233.trans (congrArg some (by kernel_rfl))
 f235:=Tryz.func234.trans (congrArg some (by kernel_rfl))
 f236:=Tryz.func235.trans (congrArg some (by kernel_rfl))
 f260:=Tryz.func296.trans (congrArg some (by kernel_rfl))
 f266:=Tryz.func310.trans (congrArg some (by kernel_rfl))
 f271:=Tryz.func275.trans (congrArg some (by kernel_rfl))
 t0:=Tryz.underlying0
 a0:=Tryz.isAgg0
 z0:=Tryz.sizeOf0
 v0:=Tryz.zeroValue0
 t3:=Tryz.underlying3
 a3:=Tryz.isAgg3
 z3:=Tryz.sizeOf3
 v3:=Tryz.zeroValue3
 t4:=Tryz.underlying4
 a4:=Tryz.isAgg4
 z4:=Tryz.sizeOf4
 v4:=Tryz.zeroValue4
 t5:=Tryz.underlying5
 a5:=Tryz.isAgg5
 z5:=Tryz.sizeOf5
 v5:=Tryz.zeroValue5
 t9:=Tryz.underlying9
 a9:=Tryz.isAgg9
 z9:=Tryz.sizeOf9
 v9:=Tryz.zeroValue9
 t21:=Tryz.underlying21
 a21:=Tryz.isAgg21
 z21:=Tryz.sizeOf21
 v21:=Tryz.zeroValue21
 t46:=Tryz.underlying178
 a46:=Tryz.isAgg178
 z46:=Tryz.sizeOf178
 v46:=Tryz.zeroValue178
 t105:=Tryz.underlying340
 a105:=Tryz.isAgg340
 z105:=Tryz.sizeOf340
 v105:=Tryz.zeroValue340
 t116:=Tryz.underlying300
 a116:=Tryz.isAgg300
 z116:=Tryz.sizeOf300
 t117:=Tryz.underlying301
 a117:=Tryz.isAgg301
 z117:=Tryz.sizeOf301
 v117:=Tryz.zeroValue301
 t119:=Tryz.underlying367
 a119:=Tryz.isAgg367
 z119:=Tryz.sizeOf367
 t124:=Tryz.underlying304
 a124:=Tryz.isAgg304
 z124:=Tryz.sizeOf304
 v124:=Tryz.zeroValue304
 t138:=Tryz.underlying369
 a138:=Tryz.isAgg369
 z138:=Tryz.sizeOf369
 v138:=Tryz.zeroValue369
 t139:=Tryz.underlying370
 a139:=Tryz.isAgg370
 z139:=Tryz.sizeOf370
 v139:=Tryz.zeroValue370
 g3:=by kernel_rfl
 g4:=by kernel_rfl }
open Go.RowKit in
theorem Tryz.strings_Trim_one (s:ByteArray) (c:UInt8) (hc:c.toNat<128) (w:World) (hs:s.size≤9223372036854775807) :
  Calls Tryz.prog 193 #[.string s,.string ⟨#[c]⟩] w fun e w'=>e=.returned (.string ⟨(Lib.trimB s.data.toList c).toArray⟩)∧(w'=w∨w'=w.drew):=Any.strings_Trim_one Tryz.lays160 s c hc w hs
def Tryz.lays133_ren:Go.Shelf.Ren:=⟨fun | 133=>196 | 128=>209 | n=>n,fun | 51=>176 | 3=>3 | 4=>4 | 46=>178 | 5=>5 | 9=>9 | n=>n,fun | n=>n⟩
theorem Tryz.lays133:Go.Proofs.Lays.n133 Tryz.prog Tryz.lays133_ren:={
 mixed:=by kernel_rfl
 f128:=Tryz.func209.trans (congrArg some (by kernel_rfl))
 f133:=Tryz.func196.trans (congrArg some (by kernel_rfl))
 t3:=Tryz.underlying3
 a3:=Tryz.isAgg3
 z3:=Tryz.sizeOf3
 v3:=Tryz.zeroValue3
 t4:=Tryz.underlying4
 a4:=Tryz.isAgg4
 z4:=Tryz.sizeOf4
 v4:=Tryz.zeroValue4
 t5:=Tryz.underlying5
 a5:=Tryz.isAgg5
 z5:=Tryz.sizeOf5
 v5:=Tryz.zeroValue5
 t9:=Tryz.underlying9
 a9:=Tryz.isAgg9
 z9:=Tryz.sizeOf9
 v9:=Tryz.zeroValue9
 t46:=Tryz.underlying178
 a46:=Tryz.isAgg178
 z46:=Tryz.sizeOf178
 v46:=Tryz.zeroValue178
 t51:=Tryz.underlying176
 a51:=Tryz.isAgg176
 z51:=Tryz.sizeOf176
 v51:=Tryz.zeroValue176 }
theorem Tryz.bits_LeadingZeros32 (x:Int) (w:World) (h0:0≤x) (h1:x≤4294967295) :
  Calls Tryz.prog 196 #[.int .u32 x] w fun e w'=>e=.returned (.int .i64 (32 - (Lib.bitLen x.toNat:Int)))∧w'=w:=Any.bits_LeadingZeros32 Tryz.lays133 x w h0 h1
def Tryz.lays103_ren:Go.Shelf.Ren:=⟨fun | 103=>236 | 210=>276 | 206=>217 | n=>n,fun | 9=>9 | 4=>4 | 24=>305 | 3=>3 | n=>n,fun | n=>n⟩
theorem Tryz.lays103:Go.Proofs.Lays.n103 Tryz.prog Tryz.lays103_ren:={
 mixed:=by kernel_rfl
 f103:=Tryz.func236.trans (congrArg some (by kernel_rfl))
 f206:=Tryz.func217.trans (congrArg some (by kernel_rfl))
 f210:=Tryz.func276.trans (congrArg some (by kernel_rfl))
 t3:=Tryz.underlying3
 a3:=Tryz.isAgg3
 z3:=Tryz.sizeOf3
 v3:=Tryz.zeroValue3
 t4:=Tryz.underlying4
 a4:=Tryz.isAgg4
 z4:=Tryz.sizeOf4
 v4:=Tryz.zeroValue4
 t9:=Tryz.underlying9
 a9:=Tryz.isAgg9
 z9:=Tryz.sizeOf9
 v9:=Tryz.zeroValue9
 t24:=Tryz.underlying305
 a24:=Tryz.isAgg305
 z24:=Tryz.sizeOf305
 v24:=Tryz.zeroValue305 }
open Go.RowKit in
theorem Tryz.strings_CutPrefix (s p:ByteArray) (w:World) :
  Calls Tryz.prog 236 #[.string s,.string p] w fun e w'=>e=.returned (.tuple #[.string ⟨(Lib.trimPrefix s.data.toList p.data.toList).toArray⟩,.bool (Lib.hasPrefix s.data.toList p.data.toList)])∧w'=w:=Any.strings_CutPrefix Tryz.lays103 s p w
def Tryz.lays122_ren:Go.Shelf.Ren:=⟨fun | 122=>182 | 215=>222 | n=>n,fun | 3=>3 | 4=>4 | n=>n,fun | n=>n⟩
theorem Tryz.lays122:Go.Proofs.Lays.n122 Tryz.prog Tryz.lays122_ren:={
 mixed:=by kernel_rfl
 f122:=Tryz.func182.trans (congrArg some (by kernel_rfl))
 f215:=Tryz.func222.trans (congrArg some (by kernel_rfl))
 t3:=Tryz.underlying3
 a3:=Tryz.isAgg3
 z3:=Tryz.sizeOf3
 v3:=Tryz.zeroValue3
 t4:=Tryz.underlying4
 a4:=Tryz.isAgg4
 z4:=Tryz.sizeOf4
 v4:=Tryz.zeroValue4 }
open Go.RowKit in
theorem Tryz.cmp_Compare_int (x y:Int) (w:World) :
  Calls Tryz.prog 182 #[.int .i64 x,.int .i64 y] w fun e w'=>e=.returned (.int .i64 (Lib.compareInt x y))∧w'=w:=Any.cmp_Compare_int Tryz.lays122 x y w
def Tryz.lays171_ren:Go.Shelf.Ren:=⟨fun | 171=>134 | 243=>171 | 246=>214 | 283=>255 | 284=>256 | 285=>257 | 286=>258 | 129=>210 | 317=>284 | 318=>285 | 319=>286 | 320=>287 | 337=>307 | 338=>212 | n=>n,fun | 3=>3 | 9=>9 | 2=>2 | 4=>4 | 171=>324 | 0=>0 | 53=>177 | 37=>247 | 5=>5 | 173=>326 | 212=>351 | 51=>176 | 20=>20 | 213=>352 | 46=>178 | 232=>374 | 233=>318 | n=>n,fun | 17=>1 | 18=>7 | 19=>0 | n=>n⟩
theorem Tryz.lays171:Go.Proofs.Lays.n171 Tryz.prog Tryz.lays171_ren:={
 mixed:=by kernel_rfl
 f129:=Tryz.func210.trans (congrArg some (by kernel_rfl))
 f171:=Tryz.func134.trans (congrArg some (by kernel_rfl))
 f243:=Tryz.func171.trans (congrArg some (by kernel_rfl))
 f246:=Tryz.func214.trans (congrArg some (by kernel_rfl))
 f283:=Tryz.func255.trans (congrArg some (by kernel_rfl))
 f284:=Tryz.func256.trans (congrArg some (by kernel_rfl))
 f285:=Tryz.func257.trans (congrArg some (by kernel_rfl))
 f286:=Tryz.func258.trans (congrArg some (by kernel_rfl))
 f317:=Tryz.func284.trans (congrArg some (by kernel_rfl))
 f318:=Tryz.func285.trans (congrArg some (by kernel_rfl))
 f319:=Tryz.func286.trans (congrArg some (by kernel_rfl))
 f320:=Tryz.func287.trans (congrArg some (by kernel_rfl))
 f337:=Tryz.func307.trans (congrArg some (by kernel_rfl))
 f338:=Tryz.func212.trans (congrArg some (by kernel_rfl))
 t0:=Tryz.underlying0
 a0:=Tryz.isAgg0
 z0:=Tryz.sizeOf0
 v0:=Tryz.zeroValue0
 t2:=Tryz.underlying2
 a2:=Tryz.isAgg2
 z2:=Tryz.sizeOf2
 v2:=Tryz.zeroValue2
 t3:=Tryz.underlying3
 a3:=Tryz.isAgg3
 z3:=Tryz.sizeOf3
 v3:=Tryz.zeroValue3
 t4:=Tryz.underlying4
 a4:=Tryz.isAgg4
 z4:=Tryz.sizeOf4
 v4:=Tryz.zeroValue4
 t5:=Tryz.underlying5
 a5:=Tryz.isAgg5
 z5:=Tryz.sizeOf5
 v5:=Tryz.zeroValue5
 t9:=Tryz.underlying9
 a9:=Tryz.isAgg9
 z9:=Tryz.sizeOf9
 v9:=Tryz.zeroValue9
 t20:=Tryz.underlying20
 a20:=Tryz.isAgg20
 z20:=Tryz.sizeOf20
 v20:=Tryz.zeroValue20
 t37:=Tryz.underlying247
 a37:=Tryz.isAgg247
 z37:=Tryz.sizeOf247
 v37:=Tryz.zeroValue247
 t46:=Tryz.underlying178
 a46:=Tryz.isAgg178
 z46:=Tryz.sizeOf178
 v46:=Tryz.zeroValue178
 t51:=Tryz.underlying176
 a51:=Tryz.isAgg176
 z51:=Tryz.sizeOf176
 v51:=Tryz.zeroValue176
 t53:=Tryz.underlying177
 a53:=Tryz.isAgg177
 z53:=Tryz.sizeOf177
 v53:=Tryz.zeroValue177
 t171:=Tryz.underlying324
 a171:=Tryz.isAgg324
 z171:=Tryz.sizeOf324
 v171:=Tryz.zeroValue324
 t173:=Tryz.underlying326
 a173:=Tryz.isAgg326
 z173:=Tryz.sizeOf326
 v173:=Tryz.zeroValue326
 t212:=Tryz.underlying351
 a212:=Tryz.isAgg351
 z212:=Tryz.sizeOf351
 v212:=Tryz.zeroValue351
 t213:=Tryz.underlying352
 a213:=Tryz.isAgg352
 z213:=Tryz.sizeOf352
 t232:=Tryz.underlying374
 a232:=Tryz.isAgg374
 z232:=Tryz.sizeOf374
 v232:=Tryz.zeroValue374
 t233:=Tryz.underlying318
 a233:=Tryz.isAgg318
 z233:=Tryz.sizeOf318
 v233:=Tryz.zeroValue318
 g17:=by kernel_rfl
 g18:=by kernel_rfl
 g19:=by kernel_rfl }
open Go.RowKit Go.Sort Go.Lib in
theorem Tryz.strconv_Itoa_small (i:Nat) (hi:i<100) (w:World) :
  Calls Tryz.prog 134 #[.int .i64 i] w fun e w'=>e=.returned (.string ⟨(Lib.decDigits i).toArray⟩)∧w'=w:=Any.strconv_Itoa_small Tryz.lays171 i hi w
def Tryz.laysPu14_ren:Go.Shelf.Ren:=⟨fun | 14=>239 | 16=>278 | 17=>279 | 19=>300 | 20=>301 | 21=>302 | 22=>303 | 23=>304 | 24=>305 | 25=>314 | 27=>134 | 26=>315 | 28=>171 | 29=>214 | 30=>255 | 31=>256 | 32=>257 | 33=>258 | 35=>210 | 34=>284 | 36=>285 | 37=>286 | 38=>287 | 39=>307 | 40=>212 | n=>n,fun | 9=>9 | 3=>3 | 22=>177 | 24=>252 | 25=>309 | 4=>4 | 34=>358 | 5=>5 | 36=>178 | 37=>247 | 0=>0 | 39=>360 | 21=>21 | 44=>372 | 47=>292 | 50=>377 | 48=>375 | 2=>2 | 52=>324 | 55=>326 | 59=>351 | 60=>176 | 20=>20 | 61=>352 | 65=>374 | 66=>318 | 67=>163 | n=>n,fun | 0=>5 | 1=>6 | 2=>1 | 3=>7 | 4=>0 | n=>n⟩
theorem Tryz.laysPu14:Go.Proofs.LaysPu.n14 Tryz.prog Tryz.laysPu14_ren:={
 mixed:=by kernel_rfl
 f14:=Tryz.func239.trans (congrArg some (by kernel_rfl))
 f16:=Tryz.func278.trans (congrArg some (by kernel_rfl))
 f17:=Tryz.func279.trans (congrArg some (by kernel_rfl))
 f19:=Tryz.func300.trans (congrArg some (by kernel_rfl))
 f20:=Tryz.func301.trans (congrArg some (by kernel_rfl))
 f21:=Tryz.func302.trans (congrArg some (by kernel_rfl))
 f22:=Tryz.func303.trans (congrArg some (by kernel_rfl))
 f23:=Tryz.func304.trans (congrArg some (by kernel_rfl))
 f24:=Tryz.func305.trans (congrArg some (by kernel_rfl))
 f25:=Tryz.func314.trans (congrArg some (by kernel_rfl))
 f26:=Tryz.func315.trans (congrArg some (by kernel_rfl))
 f27:=Tryz.func134.trans (congrArg some (by kernel_rfl))
 f28:=Tryz.func171.trans (congrArg some (by kernel_rfl))
 f29:=Tryz.func214.trans (congrArg some (by kernel_rfl))
 f30:=Tryz.func255.trans (congrArg some (by kernel_rfl))
 f31:=Tryz.func256.trans (congrArg some (by kernel_rfl))
 f32:=Tryz.func257.trans (congrArg some (by kernel_rfl))
 f33:=Tryz.func258.trans (congrArg some (by kernel_rfl))
 f34:=Tryz.func284.trans (congrArg some (by kernel_rfl))
 f35:=Tryz.func210.trans (congrArg some (by kernel_rfl))
 f36:=Tryz.func285.trans (congrArg some (by kernel_rfl))
 f37:=Tryz.func286.trans (congrArg some (by kernel_rfl))
 f38:=Tryz.func287.trans (congrArg some (by kernel_rfl))
 f39:=Tryz.func307.trans (congrArg some (by kernel_rfl))
 f40:=Tryz.func212.trans (congrArg some (by kernel_rfl))
 t0:=Tryz.underlying0
 a0:=Tryz.isAgg0
 z0:=Tryz.sizeOf0
 v0:=Tryz.zeroValue0
 i0:=by kernel_rfl
 t2:=Tryz.underlying2
 a2:=Tryz.isAgg2
 z2:=Tryz.sizeOf2
 v2:=Tryz.zeroValue2
 i2:=by kernel_rfl
 t3:=Tryz.underlying3
 a3:=Tryz.isAgg3
 z3:=Tryz.sizeOf3
 v3:=Tryz.zeroValue3
 i3:=by kernel_rfl
 t4:=Tryz.underlying4
 a4:=Tryz.isAgg4
 z4:=Tryz.sizeOf4
 v4:=Tryz.zeroValue4
 i4:=by kernel_rfl
 t5:=Tryz.underlying5
 a5:=Tryz.isAgg5
 z5:=Tryz.sizeOf5
 v5:=Tryz.zeroValue5
 i5:=by kernel_rfl
 t9:=Tryz.underlying9
 a9:=Tryz.isAgg9
 z9:=Tryz.sizeOf9
 v9:=Tryz.zeroValue9
 i9:=by kernel_rfl
 t20:=Tryz.underlying20
 a20:=Tryz.isAgg20
 z20:=Tryz.sizeOf20
 v20:=Tryz.zeroValue20
 i20:=by kernel_rfl
 t21:=Tryz.underlying21
 a21:=Tryz.isAgg21
 z21:=Tryz.sizeOf21
 v21:=Tryz.zeroValue21
 i21:=by kernel_rfl
 t22:=Tryz.underlying177
 a22:=Tryz.isAgg177
 z22:=Tryz.sizeOf177
 v22:=Tryz.zeroValue177
 i22:=by kernel_rfl
 t24:=Tryz.underlying252
 a24:=Tryz.isAgg252
 z24:=Tryz.sizeOf252
 v24:=Tryz.zeroValue252
 i24:=by kernel_rfl
 t25:=Tryz.underlying309
 a25:=Tryz.isAgg309
 z25:=Tryz.sizeOf309
 v25:=Tryz.zeroValue309
 i25:=by kernel_rfl
 t34:=Tryz.underlying358
 a34:=Tryz.isAgg358
 z34:=Tryz.sizeOf358
 v34:=Tryz.zeroValue358
 i34:=by kernel_rfl
 c34:=by kernel_rfl
 t36:=Tryz.underlying178
 a36:=Tryz.isAgg178
 z36:=Tryz.sizeOf178
 v36:=Tryz.zeroValue178
 i36:=by kernel_rfl
 t37:=Tryz.underlying247
 a37:=Tryz.isAgg247
 z37:=Tryz.sizeOf247
 v37:=Tryz.zeroValue247
 i37:=by kernel_rfl
 t39:=Tryz.underlying360
 a39:=Tryz.isAgg360
 z39:=Tryz.sizeOf360
 v39:=Tryz.zeroValue360
 i39:=by kernel_rfl
 t44:=Tryz.underlying372
 a44:=Tryz.isAgg372
 z44:=Tryz.sizeOf372
 v44:=Tryz.zeroValue372
 i44:=by kernel_rfl
 t47:=Tryz.underlying292
 a47:=Tryz.isAgg292
 z47:=Tryz.sizeOf292
 v47:=Tryz.zeroValue292
 i47:=by kernel_rfl
 t48:=Tryz.underlying375
 a48:=Tryz.isAgg375
 z48:=Tryz.sizeOf375
 v48:=Tryz.zeroValue375
 i48:=by kernel_rfl
 t50:=Tryz.underlying377
 a50:=Tryz.isAgg377
 z50:=Tryz.sizeOf377
 v50:=Tryz.zeroValue377
 i50:=by kernel_rfl
 t52:=Tryz.underlying324
 a52:=Tryz.isAgg324
 z52:=Tryz.sizeOf324
 v52:=Tryz.zeroValue324
 i52:=by kernel_rfl
 t55:=Tryz.underlying326
 a55:=Tryz.isAgg326
 z55:=Tryz.sizeOf326
 v55:=Tryz.zeroValue326
 i55:=by kernel_rfl
 t59:=Tryz.underlying351
 a59:=Tryz.isAgg351
 z59:=Tryz.sizeOf351
 v59:=Tryz.zeroValue351
 i59:=by kernel_rfl
 t60:=Tryz.underlying176
 a60:=Tryz.isAgg176
 z60:=Tryz.sizeOf176
 v60:=Tryz.zeroValue176
 i60:=by kernel_rfl
 t61:=Tryz.underlying352
 a61:=Tryz.isAgg352
 z61:=Tryz.sizeOf352
 t65:=Tryz.underlying374
 a65:=Tryz.isAgg374
 z65:=Tryz.sizeOf374
 v65:=Tryz.zeroValue374
 i65:=by kernel_rfl
 t66:=Tryz.underlying318
 a66:=Tryz.isAgg318
 z66:=Tryz.sizeOf318
 v66:=Tryz.zeroValue318
 i66:=by kernel_rfl
 t67:=Tryz.underlying163
 a67:=Tryz.isAgg163
 z67:=Tryz.sizeOf163
 v67:=Tryz.zeroValue163
 i67:=by kernel_rfl
 g0:=by kernel_rfl
 m0:=by kernel_rfl
 g1:=by kernel_rfl
 m1:=by kernel_rfl
 g2:=by kernel_rfl
 m2:=by kernel_rfl
 g3:=by kernel_rfl
 m3:=by kernel_rfl
 g4:=by kernel_rfl
 m4:=by kernel_rfl }
open Go.RowKit in
theorem Tryz.strconv_ParseUint_10_at32_ok (s:ByteArray) (hmax:s.size≤9223372036854775806) (u:Nat) (h:Lib.parseUintB 32 s.data.toList=.ok u) (w:World) :
  Calls Tryz.prog 239 #[.string s,.int .i64 10,.int .i64 32] w fun e w'=>e=.returned (.tuple #[.int .u64 u,.nilIface])∧(w'=w∨w'=Lib.bytesWorld w 5 s):=Any.strconv_ParseUint_10_at32_ok Tryz.laysPu14 s hmax u h w
open Go.RowKit in
def Tryz.lays145_ren:Go.Shelf.Ren:=⟨fun | 145=>190 | 220=>227 | 219=>271 | 217=>292 | 225=>293 | 224=>294 | 267=>295 | 266=>310 | 314=>311 | n=>n,fun | 9=>9 | 4=>4 | 59=>266 | 3=>3 | 5=>5 | 46=>178 | 146=>288 | 51=>176 | n=>n,fun | 1=>2 | n=>n⟩
theorem Tryz.lays145:Go.Proofs.Lays.n145 Tryz.prog Tryz.lays145_ren:={
 mixed:=by kernel_rfl
 f145:=Tryz.func190.trans (congrArg some (by kernel_rfl))
 f217:=Tryz.func292.trans (congrArg some (by kernel_rfl))
 f219:=Tryz.func271.trans (congrArg some (by kernel_rfl))
 f220:=Tryz.func227.trans (congrArg some (by kernel_rfl))
 f224:=Tryz.func294.trans (congrArg some (by kernel_rfl))
 f225:=Tryz.func293.trans (congrArg some (by kernel_rfl))
 f266:=Tryz.func310.trans (congrArg some (by kernel_rfl))
 f267:=Tryz.func295.trans (congrArg some (by kernel_rfl))
 f314:=Tryz.func311.trans (congrArg some (by kernel_rfl))
 t3:=Tryz.underlying3
 a3:=Tryz.isAgg3
 z3:=Tryz.sizeOf3
 v3:=Tryz.zeroValue3
 t4:=Tryz.underlying4
 a4:=Tryz.isAgg4
 z4:=Tryz.sizeOf4
 v4:=Tryz.zeroValue4
 t5:=Tryz.underlying5
 a5:=Tryz.isAgg5
 z5:=Tryz.sizeOf5
 v5:=Tryz.zeroValue5
 t9:=Tryz.underlying9
 a9:=Tryz.isAgg9
 z9:=Tryz.sizeOf9
 v9:=Tryz.zeroValue9
 t46:=Tryz.underlying178
 a46:=Tryz.isAgg178
 z46:=Tryz.sizeOf178
 v46:=Tryz.zeroValue178
 t51:=Tryz.underlying176
 a51:=Tryz.isAgg176
 z51:=Tryz.sizeOf176
 v51:=Tryz.zeroValue176
 t59:=Tryz.underlying266
 a59:=Tryz.isAgg266
 z59:=Tryz.sizeOf266
 v59:=Tryz.zeroValue266
 t146:=Tryz.underlying288
 a146:=Tryz.isAgg288
 z146:=Tryz.sizeOf288
 v146:=Tryz.zeroValue288
 g1:=by kernel_rfl }
open Go.RowKit Go.Lib in
theorem Tryz.strings_Cut (s sep:ByteArray) (m:Int) (w:World) (hs:s.size<4294967281) (hm:w.cell? ⟨2,0,none⟩=some (.int .i64 m)) :
  Calls Tryz.prog 190 #[.string s,.string sep] w fun e w'=>e=.returned (.tuple #[.string ⟨(Lib.cut s.data.toList sep.data.toList).1.toArray⟩,.string ⟨(Lib.cut s.data.toList sep.data.toList).2.1.toArray⟩,.bool (Lib.cut s.data.toList sep.data.toList).2.2])∧∃ n,w'=w.drewN n:=Any.strings_Cut Tryz.lays145 s sep m w hs hm
def Tryz.lays101_ren:Go.Shelf.Ren:=⟨fun | 101=>192 | 208=>228 | 206=>217 | n=>n,fun | 9=>9 | 4=>4 | 3=>3 | n=>n,fun | n=>n⟩
theorem Tryz.lays101:Go.Proofs.Lays.n101 Tryz.prog Tryz.lays101_ren:={
 mixed:=by kernel_rfl
 f101:=Tryz.func192.trans (congrArg some (by kernel_rfl))
 f206:=Tryz.func217.trans (congrArg some (by kernel_rfl))
 f208:=Tryz.func228.trans (congrArg some (by kernel_rfl))
 t3:=Tryz.underlying3
 a3:=Tryz.isAgg3
 z3:=Tryz.sizeOf3
 v3:=Tryz.zeroValue3
 t4:=Tryz.underlying4
 a4:=Tryz.isAgg4
 z4:=Tryz.sizeOf4
 v4:=Tryz.zeroValue4
 t9:=Tryz.underlying9
 a9:=Tryz.isAgg9
 z9:=Tryz.sizeOf9
 v9:=Tryz.zeroValue9 }
open Go.RowKit Go.Lib in
theorem Tryz.strings_TrimPrefix (s p:ByteArray) (w:World) :
  Calls Tryz.prog 192 #[.string s,.string p] w fun e w'=>e=.returned (.string ⟨(Lib.trimPrefix s.data.toList p.data.toList).toArray⟩)∧w'=w:=Any.strings_TrimPrefix Tryz.lays101 s p w
end Go.Proofs
