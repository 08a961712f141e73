/-
 DERIVED: THE SHELF's CONTRACTS AT THIS DUMP,IN PLAIN WORDS (tools/lay-plain.mjs out of 'TryzShelf.lean',which tools/lay-shelf.mjs wrote): THE SAME DECLARATIONS UNDER THE SAME NAMES: 'import','namespace','open','def','theorem' AND NOTHING ELSE: no command of the shelf's: FOR A HAND-IN. Each laying: the table of numbers ('.._ren') and one theorem,a field a fact of the dump's own or the kernel's comparison;each contract: ONE APPLICATION.
-/
import Derived.Shelf.Strings.OnBuilder
import Derived.Shelf.Small.Wraps
import Derived.Shelf.Strings.BuilderK
import Derived.Shelf.Strconv.Atoi
import Derived.Shelf.Strconv.Itoa3
import Derived.Shelf.Strings.Shaped
import Derived.Shelf.Sort.Plain
import Derived.Shelf.Strings.SplitShaped
import Derived.Shelf.Strings.FieldsAny
import Derived.Shelf.Unicode.ExclAny
import Derived.Shelf.Slices.Cells
import Derived.Shelf.Slices.In.SortNone
import Derived.Shelf.SlicesE.Clone
import Derived.Test.YtancajcelmhnkaaGreatDoorProg
namespace Go.Proofs

open Go.Shelf
def Tryz.lays122_ren:Go.Shelf.Ren:=⟨fun | 122=>173 | 215=>198 | n=>n,fun | 3=>3 | 4=>4 | n=>n,fun | n=>n⟩
theorem Tryz.lays122:Go.Proofs.Lays.n122 Tryz.prog Tryz.lays122_ren:={
 mixed:=by kernel_rfl
 f122:=Tryz.func173.trans (congrArg some (by kernel_rfl))
 f215:=Tryz.func198.trans (congrArg some (by kernel_rfl))
 t3:=Tryz.underlying3
 a3:=Tryz.isAgg3
 z3:=Tryz.sizeOf3
 v3:=Tryz.zeroValue3
 t4:=Tryz.underlying4
 a4:=Tryz.isAgg4
 z4:=Tryz.sizeOf4
 v4:=Tryz.zeroValue4 }
open Go.RowKit in
theorem Tryz.cmp_Compare_int (x y:Int) (w:World) :
  Calls Tryz.prog 173 #[.int .i64 x,.int .i64 y] w fun e w'=>e=.returned (.int .i64 (Lib.compareInt x y))∧w'=w:=Any.cmp_Compare_int Tryz.lays122 x y w
def Tryz.lays172_ren:Go.Shelf.Ren:=⟨fun | 172=>193 | 244=>210 | 245=>211 | 247=>220 | 279=>221 | 280=>222 | 281=>223 | 282=>224 | 287=>253 | 316=>254 | 171=>192 | 205=>255 | 321=>270 | 322=>271 | 243=>209 | 246=>219 | 283=>249 | 284=>250 | 285=>251 | 286=>252 | 129=>239 | 317=>266 | 318=>267 | 319=>268 | 320=>269 | 337=>274 | 338=>275 | n=>n,fun | 9=>9 | 3=>3 | 75=>140 | 76=>141 | 4=>4 | 5=>5 | 167=>260 | 37=>135 | 0=>0 | 85=>261 | 2=>2 | 168=>263 | 53=>237 | 175=>285 | 46=>214 | 210=>289 | 127=>179 | 145=>307 | 143=>305 | 21=>21 | 171=>281 | 173=>283 | 212=>302 | 51=>167 | 20=>20 | 213=>303 | 232=>311 | 233=>312 | 80=>143 | n=>n,fun | 15=>3 | 16=>4 | 17=>5 | 18=>6 | 19=>7 | n=>n⟩
theorem Tryz.lays172:Go.Proofs.Lays.n172 Tryz.prog Tryz.lays172_ren:={
 mixed:=by kernel_rfl
 f129:=Tryz.func239.trans (congrArg some (by kernel_rfl))
 f171:=Tryz.func192.trans (congrArg some (by kernel_rfl))
 f172:=Tryz.func193.trans (congrArg some (by kernel_rfl))
 f205:=Tryz.func255.trans (congrArg some (by kernel_rfl))
 f243:=Tryz.func209.trans (congrArg some (by kernel_rfl))
 f244:=Tryz.func210.trans (congrArg some (by kernel_rfl))
 f245:=Tryz.func211.trans (congrArg some (by kernel_rfl))
 f246:=Tryz.func219.trans (congrArg some (by kernel_rfl))
 f247:=Tryz.func220.trans (congrArg some (by kernel_rfl))
 f279:=Tryz.func221.trans (congrArg some (by kernel_rfl))
 f280:=Tryz.func222.trans (congrArg some (by kernel_rfl))
 f281:=Tryz.func223.trans (congrArg some (by kernel_rfl))
 f282:=Tryz.func224.trans (congrArg some (by kernel_rfl))
 f283:=Tryz.func249.trans (congrArg some (by kernel_rfl))
 f284:=Tryz.func250.trans (congrArg some (by kernel_rfl))
 f285:=Tryz.func251.trans (congrArg some (by kernel_rfl))
 f286:=Tryz.func252.trans (congrArg some (by kernel_rfl))
 f287:=Tryz.func253.trans (congrArg some (by kernel_rfl))
 f316:=Tryz.func254.trans (congrArg some (by kernel_rfl))
 f317:=Tryz.func266.trans (congrArg some (by kernel_rfl))
 f318:=Tryz.func267.trans (congrArg some (by kernel_rfl))
 f319:=Tryz.func268.trans (congrArg some (by kernel_rfl))
 f320:=Tryz.func269.trans (congrArg some (by kernel_rfl))
 f321:=Tryz.func270.trans (congrArg some (by kernel_rfl))
 f322:=Tryz.func271.trans (congrArg some (by kernel_rfl))
 f337:=Tryz.func274.trans (congrArg some (by kernel_rfl))
 f338:=Tryz.func275.trans (congrArg some (by kernel_rfl))
 t0:=Tryz.underlying0
 a0:=Tryz.isAgg0
 z0:=Tryz.sizeOf0
 v0:=Tryz.zeroValue0
 t2:=Tryz.underlying2
 a2:=Tryz.isAgg2
 z2:=Tryz.sizeOf2
 v2:=Tryz.zeroValue2
 t3:=Tryz.underlying3
 a3:=Tryz.isAgg3
 z3:=Tryz.sizeOf3
 v3:=Tryz.zeroValue3
 t4:=Tryz.underlying4
 a4:=Tryz.isAgg4
 z4:=Tryz.sizeOf4
 v4:=Tryz.zeroValue4
 t5:=Tryz.underlying5
 a5:=Tryz.isAgg5
 z5:=Tryz.sizeOf5
 v5:=Tryz.zeroValue5
 t9:=Tryz.underlying9
 a9:=Tryz.isAgg9
 z9:=Tryz.sizeOf9
 v9:=Tryz.zeroValue9
 t20:=Tryz.underlying20
 a20:=Tryz.isAgg20
 z20:=Tryz.sizeOf20
 v20:=Tryz.zeroValue20
 t21:=Tryz.underlying21
 a21:=Tryz.isAgg21
 z21:=Tryz.sizeOf21
 v21:=Tryz.zeroValue21
 t37:=Tryz.underlying135
 a37:=Tryz.isAgg135
 z37:=Tryz.sizeOf135
 v37:=Tryz.zeroValue135
 t46:=Tryz.underlying214
 a46:=Tryz.isAgg214
 z46:=Tryz.sizeOf214
 v46:=Tryz.zeroValue214
 t51:=Tryz.underlying167
 a51:=Tryz.isAgg167
 z51:=Tryz.sizeOf167
 v51:=Tryz.zeroValue167
 t53:=Tryz.underlying237
 a53:=Tryz.isAgg237
 z53:=Tryz.sizeOf237
 v53:=Tryz.zeroValue237
 t75:=Tryz.underlying140
 a75:=Tryz.isAgg140
 z75:=Tryz.sizeOf140
 v75:=Tryz.zeroValue140
 t76:=Tryz.underlying141
 a76:=Tryz.isAgg141
 z76:=Tryz.sizeOf141
 v76:=Tryz.zeroValue141
 t85:=Tryz.underlying261
 a85:=Tryz.isAgg261
 z85:=Tryz.sizeOf261
 v85:=Tryz.zeroValue261
 t127:=Tryz.underlying179
 a127:=Tryz.isAgg179
 z127:=Tryz.sizeOf179
 v127:=Tryz.zeroValue179
 t143:=Tryz.underlying305
 a143:=Tryz.isAgg305
 z143:=Tryz.sizeOf305
 v143:=Tryz.zeroValue305
 t145:=Tryz.underlying307
 a145:=Tryz.isAgg307
 z145:=Tryz.sizeOf307
 v145:=Tryz.zeroValue307
 t167:=Tryz.underlying260
 a167:=Tryz.isAgg260
 z167:=Tryz.sizeOf260
 v167:=Tryz.zeroValue260
 t168:=Tryz.underlying263
 a168:=Tryz.isAgg263
 z168:=Tryz.sizeOf263
 v168:=Tryz.zeroValue263
 t171:=Tryz.underlying281
 a171:=Tryz.isAgg281
 z171:=Tryz.sizeOf281
 v171:=Tryz.zeroValue281
 t173:=Tryz.underlying283
 a173:=Tryz.isAgg283
 z173:=Tryz.sizeOf283
 v173:=Tryz.zeroValue283
 t175:=Tryz.underlying285
 a175:=Tryz.isAgg285
 z175:=Tryz.sizeOf285
 v175:=Tryz.zeroValue285
 t210:=Tryz.underlying289
 a210:=Tryz.isAgg289
 z210:=Tryz.sizeOf289
 v210:=Tryz.zeroValue289
 t212:=Tryz.underlying302
 a212:=Tryz.isAgg302
 z212:=Tryz.sizeOf302
 v212:=Tryz.zeroValue302
 t213:=Tryz.underlying303
 a213:=Tryz.isAgg303
 z213:=Tryz.sizeOf303
 t232:=Tryz.underlying311
 a232:=Tryz.isAgg311
 z232:=Tryz.sizeOf311
 v232:=Tryz.zeroValue311
 t233:=Tryz.underlying312
 a233:=Tryz.isAgg312
 z233:=Tryz.sizeOf312
 v233:=Tryz.zeroValue312
 g15:=by kernel_rfl
 g16:=by kernel_rfl
 g17:=by kernel_rfl
 g18:=by kernel_rfl
 g19:=by kernel_rfl }
open Go.RowKit in
theorem Tryz.strconv_Atoi (s:ByteArray) (n:Int) (hl:s.size≤18) (h:Lib.atoi s.data.toList=some n) (w:World) :
  Calls Tryz.prog 193 #[.string s] w fun e w'=>e=.returned (.tuple #[.int .i64 n,.nilIface])∧∃ t,w'=Lib.bytesWorld w 5 t:=Any.strconv_Atoi Tryz.lays172 s n hl h w
def Tryz.lays171_ren:Go.Shelf.Ren:=⟨fun | 171=>192 | 243=>209 | 246=>219 | 283=>249 | 284=>250 | 285=>251 | 286=>252 | 129=>239 | 317=>266 | 318=>267 | 319=>268 | 320=>269 | 337=>274 | 338=>275 | n=>n,fun | 3=>3 | 9=>9 | 2=>2 | 4=>4 | 171=>281 | 0=>0 | 53=>237 | 37=>135 | 5=>5 | 173=>283 | 212=>302 | 51=>167 | 20=>20 | 213=>303 | 46=>214 | 232=>311 | 233=>312 | n=>n,fun | 17=>5 | 18=>6 | 19=>7 | n=>n⟩
theorem Tryz.lays171:Go.Proofs.Lays.n171 Tryz.prog Tryz.lays171_ren:={
 mixed:=by kernel_rfl
 f129:=Tryz.func239.trans (congrArg some (by kernel_rfl))
 f171:=Tryz.func192.trans (congrArg some (by kernel_rfl))
 f243:=Tryz.func209.trans (congrArg some (by kernel_rfl))
 f246:=Tryz.func219.trans (congrArg some (by kernel_rfl))
 f283:=Tryz.func249.trans (congrArg some (by kernel_rfl))
 f284:=Tryz.func250.trans (congrArg some (by kernel_rfl))
 f285:=Tryz.func251.trans (congrArg some (by kernel_rfl))
 f286:=Tryz.func252.trans (congrArg some (by kernel_rfl))
 f317:=Tryz.func266.trans (congrArg some (by kernel_rfl))
 f318:=Tryz.func267.trans (congrArg some (by kernel_rfl))
 f319:=Tryz.func268.trans (congrArg some (by kernel_rfl))
 f320:=Tryz.func269.trans (congrArg some (by kernel_rfl))
 f337:=Tryz.func274.trans (congrArg some (by kernel_rfl))
 f338:=Tryz.func275.trans (congrArg some (by kernel_rfl))
 t0:=Tryz.underlying0
 a0:=Tryz.isAgg0
 z0:=Tryz.sizeOf0
 v0:=Tryz.zeroValue0
 t2:=Tryz.underlying2
 a2:=Tryz.isAgg2
 z2:=Tryz.sizeOf2
 v2:=Tryz.zeroValue2
 t3:=Tryz.underlying3
 a3:=Tryz.isAgg3
 z3:=Tryz.sizeOf3
 v3:=Tryz.zeroValue3
 t4:=Tryz.underlying4
 a4:=Tryz.isAgg4
 z4:=Tryz.sizeOf4
 v4:=Tryz.zeroValue4
 t5:=Tryz.underlying5
 a5:=Tryz.isAgg5
 z5:=Tryz.sizeOf5
 v5:=Tryz.zeroValue5
 t9:=Tryz.underlying9
 a9:=Tryz.isAgg9
 z9:=Tryz.sizeOf9
 v9:=Tryz.zeroValue9
 t20:=Tryz.underlying20
 a20:=Tryz.isAgg20
 z20:=Tryz.sizeOf20
 v20:=Tryz.zeroValue20
 t37:=Tryz.underlying135
 a37:=Tryz.isAgg135
 z37:=Tryz.sizeOf135
 v37:=Tryz.zeroValue135
 t46:=Tryz.underlying214
 a46:=Tryz.isAgg214
 z46:=Tryz.sizeOf214
 v46:=Tryz.zeroValue214
 t51:=Tryz.underlying167
 a51:=Tryz.isAgg167
 z51:=Tryz.sizeOf167
 v51:=Tryz.zeroValue167
 t53:=Tryz.underlying237
 a53:=Tryz.isAgg237
 z53:=Tryz.sizeOf237
 v53:=Tryz.zeroValue237
 t171:=Tryz.underlying281
 a171:=Tryz.isAgg281
 z171:=Tryz.sizeOf281
 v171:=Tryz.zeroValue281
 t173:=Tryz.underlying283
 a173:=Tryz.isAgg283
 z173:=Tryz.sizeOf283
 v173:=Tryz.zeroValue283
 t212:=Tryz.underlying302
 a212:=Tryz.isAgg302
 z212:=Tryz.sizeOf302
 v212:=Tryz.zeroValue302
 t213:=Tryz.underlying303
 a213:=Tryz.isAgg303
 z213:=Tryz.sizeOf303
 t232:=Tryz.underlying311
 a232:=Tryz.isAgg311
 z232:=Tryz.sizeOf311
 v232:=Tryz.zeroValue311
 t233:=Tryz.underlying312
 a233:=Tryz.isAgg312
 z233:=Tryz.sizeOf312
 v233:=Tryz.zeroValue312
 g17:=by kernel_rfl
 g18:=by kernel_rfl
 g19:=by kernel_rfl }
open Go.RowKit Go.Sort Go.Lib in
theorem Tryz.strconv_Itoa_small (i:Nat) (hi:i<100) (w:World) :
  Calls Tryz.prog 192 #[.int .i64 i] w fun e w'=>e=.returned (.string ⟨(Lib.decDigits i).toArray⟩)∧w'=w:=Any.strconv_Itoa_small Tryz.lays171 i hi w
def Tryz.lays143_ren:Go.Shelf.Ren:=⟨fun | 143=>195 | 219=>212 | 217=>225 | 225=>226 | 224=>227 | 267=>228 | 266=>256 | 314=>257 | n=>n,fun | 9=>9 | 3=>3 | 4=>4 | 5=>5 | 46=>214 | 146=>291 | 51=>167 | n=>n,fun | 1=>2 | n=>n⟩
theorem Tryz.lays143:Go.Proofs.Lays.n143 Tryz.prog Tryz.lays143_ren:={
 mixed:=by kernel_rfl
 f143:=Tryz.func195.trans (congrArg some (by kernel_rfl))
 f217:=Tryz.func225.trans (congrArg some (by kernel_rfl))
 f219:=Tryz.func212.trans (congrArg some (by kernel_rfl))
 f224:=Tryz.func227.trans (congrArg some (by kernel_rfl))
 f225:=Tryz.func226.trans (congrArg some (by kernel_rfl))
 f266:=Tryz.func256.trans (congrArg some (by kernel_rfl))
 f267:=Tryz.func228.trans (congrArg some (by kernel_rfl))
 f314:=Tryz.func257.trans (congrArg some (by kernel_rfl))
 t3:=Tryz.underlying3
 a3:=Tryz.isAgg3
 z3:=Tryz.sizeOf3
 v3:=Tryz.zeroValue3
 t4:=Tryz.underlying4
 a4:=Tryz.isAgg4
 z4:=Tryz.sizeOf4
 v4:=Tryz.zeroValue4
 t5:=Tryz.underlying5
 a5:=Tryz.isAgg5
 z5:=Tryz.sizeOf5
 v5:=Tryz.zeroValue5
 t9:=Tryz.underlying9
 a9:=Tryz.isAgg9
 z9:=Tryz.sizeOf9
 v9:=Tryz.zeroValue9
 t46:=Tryz.underlying214
 a46:=Tryz.isAgg214
 z46:=Tryz.sizeOf214
 v46:=Tryz.zeroValue214
 t51:=Tryz.underlying167
 a51:=Tryz.isAgg167
 z51:=Tryz.sizeOf167
 v51:=Tryz.zeroValue167
 t146:=Tryz.underlying291
 a146:=Tryz.isAgg291
 z146:=Tryz.sizeOf291
 v146:=Tryz.zeroValue291
 g1:=by kernel_rfl }
open Go.RowKit Go.Lib in
theorem Tryz.strings_Index_one (s:ByteArray) (c:UInt8) (w:World) :
  Calls Tryz.prog 195 #[.string s,.string ⟨#[c]⟩] w fun e w'=>e=.returned (.int .i64 (Lib.indexByte s.data.toList c))∧w'=w:=Any.strings_Index_one Tryz.lays143 s c w
def Tryz.lays144_ren:Go.Shelf.Ren:=⟨fun | 144=>194 | 143=>195 | 219=>212 | 217=>225 | 225=>226 | 224=>227 | 267=>228 | 266=>256 | 314=>257 | n=>n,fun | 9=>9 | 4=>4 | 3=>3 | 5=>5 | 46=>214 | 146=>291 | 51=>167 | n=>n,fun | 1=>2 | n=>n⟩
theorem Tryz.lays144:Go.Proofs.Lays.n144 Tryz.prog Tryz.lays144_ren:={
 mixed:=by kernel_rfl
 f143:=Tryz.func195.trans (congrArg some (by kernel_rfl))
 f144:=Tryz.func194.trans (congrArg some (by kernel_rfl))
 f217:=Tryz.func225.trans (congrArg some (by kernel_rfl))
 f219:=Tryz.func212.trans (congrArg some (by kernel_rfl))
 f224:=Tryz.func227.trans (congrArg some (by kernel_rfl))
 f225:=Tryz.func226.trans (congrArg some (by kernel_rfl))
 f266:=Tryz.func256.trans (congrArg some (by kernel_rfl))
 f267:=Tryz.func228.trans (congrArg some (by kernel_rfl))
 f314:=Tryz.func257.trans (congrArg some (by kernel_rfl))
 t3:=Tryz.underlying3
 a3:=Tryz.isAgg3
 z3:=Tryz.sizeOf3
 v3:=Tryz.zeroValue3
 t4:=Tryz.underlying4
 a4:=Tryz.isAgg4
 z4:=Tryz.sizeOf4
 v4:=Tryz.zeroValue4
 t5:=Tryz.underlying5
 a5:=Tryz.isAgg5
 z5:=Tryz.sizeOf5
 v5:=Tryz.zeroValue5
 t9:=Tryz.underlying9
 a9:=Tryz.isAgg9
 z9:=Tryz.sizeOf9
 v9:=Tryz.zeroValue9
 t46:=Tryz.underlying214
 a46:=Tryz.isAgg214
 z46:=Tryz.sizeOf214
 v46:=Tryz.zeroValue214
 t51:=Tryz.underlying167
 a51:=Tryz.isAgg167
 z51:=Tryz.sizeOf167
 v51:=Tryz.zeroValue167
 t146:=Tryz.underlying291
 a146:=Tryz.isAgg291
 z146:=Tryz.sizeOf291
 v146:=Tryz.zeroValue291
 g1:=by kernel_rfl }
open Go.RowKit Go.Lib in
theorem Tryz.strings_Contains_one (s:ByteArray) (c:UInt8) (w:World) :
  Calls Tryz.prog 194 #[.string s,.string ⟨#[c]⟩] w fun e w'=>e=.returned (.bool (decide (0≤Lib.indexByte s.data.toList c)))∧w'=w:=Any.strings_Contains_one Tryz.lays144 s c w
def Tryz.lays189_ren:Go.Shelf.Ren:=⟨fun | 189=>202 | 125=>214 | 257=>213 | 128=>238 | 129=>239 | 294=>229 | 295=>230 | 296=>231 | 297=>232 | 298=>233 | 299=>234 | 216=>235 | 300=>236 | 301=>237 | 328=>258 | 329=>259 | 330=>260 | 331=>261 | 332=>262 | 215=>198 | 343=>272 | n=>n,fun | 28=>25 | 3=>3 | 46=>214 | 0=>0 | 51=>167 | 53=>237 | 4=>4 | 183=>269 | 182=>268 | 131=>176 | 5=>5 | 9=>9 | 218=>293 | 222=>297 | 228=>308 | 229=>173 | n=>n,fun | n=>n⟩
theorem Tryz.lays189:Go.Proofs.Lays.n189 Tryz.prog Tryz.lays189_ren:={
 mixed:=by kernel_rfl
 f125:=Tryz.func214.trans (congrArg some (by kernel_rfl))
 f128:=Tryz.func238.trans (congrArg some (by kernel_rfl))
 f129:=Tryz.func239.trans (congrArg some (by kernel_rfl))
 f189:=Tryz.func202.trans (congrArg some (by kernel_rfl))
 f215:=Tryz.func198.trans (congrArg some (by kernel_rfl))
 f216:=Tryz.func235.trans (congrArg some (by kernel_rfl))
 f257:=Tryz.func213.trans (congrArg some (by kernel_rfl))
 f294:=Tryz.func229.trans (congrArg some (by kernel_rfl))
 f295:=Tryz.func230.trans (congrArg some (by kernel_rfl))
 f296:=Tryz.func231.trans (congrArg some (by kernel_rfl))
 f297:=Tryz.func232.trans (congrArg some (by kernel_rfl))
 f298:=Tryz.func233.trans (congrArg some (by kernel_rfl))
 f299:=Tryz.func234.trans (congrArg some (by kernel_rfl))
 f300:=Tryz.func236.trans (congrArg some (by kernel_rfl))
 f301:=Tryz.func237.trans (congrArg some (by kernel_rfl))
 f328:=Tryz.func258.trans (congrArg some (by kernel_rfl))
 f329:=Tryz.func259.trans (congrArg some (by kernel_rfl))
 f330:=Tryz.func260.trans (congrArg some (by kernel_rfl))
 f331:=Tryz.func261.trans (congrArg some (by kernel_rfl))
 f332:=Tryz.func262.trans (congrArg some (by kernel_rfl))
 f343:=Tryz.func272.trans (congrArg some (by kernel_rfl))
 t0:=Tryz.underlying0
 a0:=Tryz.isAgg0
 z0:=Tryz.sizeOf0
 v0:=Tryz.zeroValue0
 t3:=Tryz.underlying3
 a3:=Tryz.isAgg3
 z3:=Tryz.sizeOf3
 v3:=Tryz.zeroValue3
 t4:=Tryz.underlying4
 a4:=Tryz.isAgg4
 z4:=Tryz.sizeOf4
 v4:=Tryz.zeroValue4
 t5:=Tryz.underlying5
 a5:=Tryz.isAgg5
 z5:=Tryz.sizeOf5
 v5:=Tryz.zeroValue5
 t9:=Tryz.underlying9
 a9:=Tryz.isAgg9
 z9:=Tryz.sizeOf9
 v9:=Tryz.zeroValue9
 t28:=Tryz.underlying25
 a28:=Tryz.isAgg25
 z28:=Tryz.sizeOf25
 v28:=Tryz.zeroValue25
 t46:=Tryz.underlying214
 a46:=Tryz.isAgg214
 z46:=Tryz.sizeOf214
 v46:=Tryz.zeroValue214
 t51:=Tryz.underlying167
 a51:=Tryz.isAgg167
 z51:=Tryz.sizeOf167
 v51:=Tryz.zeroValue167
 t53:=Tryz.underlying237
 a53:=Tryz.isAgg237
 z53:=Tryz.sizeOf237
 v53:=Tryz.zeroValue237
 t131:=Tryz.underlying176
 a131:=Tryz.isAgg176
 z131:=Tryz.sizeOf176
 v131:=Tryz.zeroValue176
 t182:=Tryz.underlying268
 a182:=Tryz.isAgg268
 z182:=Tryz.sizeOf268
 v182:=Tryz.zeroValue268
 t183:=Tryz.underlying269
 a183:=Tryz.isAgg269
 z183:=Tryz.sizeOf269
 v183:=Tryz.zeroValue269
 t218:=Tryz.underlying293
 a218:=Tryz.isAgg293
 z218:=Tryz.sizeOf293
 v218:=Tryz.zeroValue293
 t222:=Tryz.underlying297
 a222:=Tryz.isAgg297
 z222:=Tryz.sizeOf297
 v222:=Tryz.zeroValue297
 t228:=Tryz.underlying308
 a228:=Tryz.isAgg308
 z228:=Tryz.sizeOf308
 v228:=Tryz.zeroValue308
 t229:=Tryz.underlying173
 a229:=Tryz.isAgg173
 z229:=Tryz.sizeOf173
 v229:=Tryz.zeroValue173 }
open Go.Sort Go.RowKit in
theorem Tryz.slices_Sort_int (blk off cap:Nat) (zs:List Int) (w:World) (hH:Holds (Value.int .i64) w blk off zs.toArray) (hblk:blk<w.heap.size) (hsz:zs.length<4611686018427387904) :
  Calls Tryz.prog 202 #[.slice (some ⟨blk,off,none⟩) zs.length cap] w fun e w' =>
   e=.returned (.tuple #[])∧∃ n os,w'=grow (putRow (Value.int .i64) (Sort.ahead w n) blk off (zs.mergeSort fun x y=>decide (x≤y)).toArray) os:=Any.slices_Sort_int Tryz.lays189 blk off cap zs w hH hblk hsz
def Tryz.laysNm220_ren:Go.Shelf.Ren:=⟨fun | 20=>203 | n=>n,fun | 22=>25 | 3=>3 | 4=>4 | 0=>0 | n=>n,fun | n=>n⟩
theorem Tryz.laysNm220:Go.Proofs.Lays2.n20 Tryz.prog Tryz.laysNm220_ren:={
 mixed:=by kernel_rfl
 f20:=Tryz.func203.trans (congrArg some (by kernel_rfl))
 t0:=Tryz.underlying0
 a0:=Tryz.isAgg0
 z0:=Tryz.sizeOf0
 v0:=Tryz.zeroValue0
 t3:=Tryz.underlying3
 a3:=Tryz.isAgg3
 z3:=Tryz.sizeOf3
 v3:=Tryz.zeroValue3
 t4:=Tryz.underlying4
 a4:=Tryz.isAgg4
 z4:=Tryz.sizeOf4
 v4:=Tryz.zeroValue4
 t22:=Tryz.underlying25
 a22:=Tryz.isAgg25
 z22:=Tryz.sizeOf25
 v22:=Tryz.zeroValue25
 i3:=by kernel_rfl }
open Go.RowKit Go.Lib Go.Sort in
theorem Tryz.slices_Compact_int (blk off cap:Nat) (zs:List Int) (w:World) (hH:Holds (Value.int .i64) w blk off zs.toArray) (hsz:zs.length≤9223372036854775807) (hcap:zs.length≤cap) :
  Calls Tryz.prog 203 #[.slice (some ⟨blk,off,none⟩) zs.length cap] w fun e w'=>e=.returned (.slice (some ⟨blk,off,none⟩) (Lib.compact zs).length cap)∧∃ q,w'=putRow (Value.int .i64) (Sort.ahead w q) blk off (Lib.compact zs++List.replicate (zs.length - (Lib.compact zs).length) 0).toArray:=Any.slices_Compact_int Tryz.laysNm220 blk off cap zs w hH hsz hcap
open Go.RowKit Go.Lib Go.Sort in
theorem Tryz.slices_Compact_int_empty (a:Option Addr) (cap:Nat) (w:World) :
  Calls Tryz.prog 203 #[.slice a 0 cap] w fun e w'=>e=.returned (.slice a 0 cap)∧w'=w:=Any.slices_Compact_int_empty Tryz.laysNm220 a cap w
open Go.RowKit Go.Sort in
theorem Tryz.slices_Sort_int_none (p:Option Addr) (cap:Nat) (w:World) :
  Calls Tryz.prog 202 #[.slice p 0 cap] w fun e w'=>e=.returned (.tuple #[])∧w'=w:=Any.slices_Sort_int_none Tryz.lays189 p cap w
def Tryz.laysSlE041_f71_ren:Go.Shelf.Ren:=⟨fun | 41=>71 | n=>n,fun | 22=>75 | 23=>9 | 4=>4 | n=>n,fun | n=>n⟩
theorem Tryz.laysSlE041_f71:Go.Proofs.SlLaysE0.n41 Tryz.prog Tryz.laysSlE041_f71_ren:={
 mixed:=by kernel_rfl
 f41:=⟨Tryz.f71.name,by decide,Tryz.func71.trans (congrArg some (by kernel_rfl))⟩
 t4:=Tryz.underlying4
 a4:=Tryz.isAgg4
 z4:=Tryz.sizeOf4
 v4:=Tryz.zeroValue4
 t22:=Tryz.underlying75
 a22:=Tryz.isAgg75
 z22:=Tryz.sizeOf75
 v22:=Tryz.zeroValue75 }
open Go.RowKit Go.Lib in
theorem Tryz.slices_Clone (i0:TypeInfo) (z:Value) (size bytes:Nat) (hi:Tryz.prog.info? 9=some i0) (hz0:i0.zero=some z) (hz1:i0.size=size) (hz2:i0.bytes=bytes) (hzs:z.cells.size=size) (hsz:0<size) (z23:∀ w,(Go.sizeOf 9).run Tryz.prog w=.ok size w) (b off n c:Nat) (news:List Value) (w:World) (hl:news.length=n * size) (hn:n≤maxLen) (hbig:n * bytes≤140737488355328) (hc:∀ j u,news[j]? = some u→w.cell? ⟨b,off+j,none⟩=some u) (h1:∀ u ∈ news,u.oneCell'=true) :
  Calls Tryz.prog 71 #[.slice (some ⟨b,off,none⟩) n c] w fun e w'=>∃ v',e=.returned v'∧w'.ownsRow w.heap.size 9 size v' n news∧v' ≠ .slice none 0 0∧Below w.heap.size w w':=AnyE.slices_Clone Tryz.laysSlE041_f71 i0 z size bytes hi hz0 hz1 hz2 hzs hsz z23 b off n c news w hl hn hbig hc h1
end Go.Proofs
