/-
  DERIVED: THE SHELF's CONTRACTS AT THIS DUMP,IN PLAIN WORDS (tools/lay-plain.mjs out of 'TryzShq.lean',which tools/lay-shelf.mjs wrote): THE SAME DECLARATIONS UNDER THE SAME NAMES: 'import','namespace','open','def','theorem' AND NOTHING ELSE: no command of the shelf's: FOR A HAND-IN. Each laying: the table of numbers ('.._ren') and one theorem,a field a fact of the dump's own or the kernel's comparison;each contract: ONE APPLICATION.
-/
import Derived.Shelf.SlGeneric
import Derived.Shelf.SlicesQ.IndexFunc
import Derived.Shelf.SlicesQ.Equal
import Derived.Shelf.SlicesE.Clone
import Derived.Shelf.SlSortCmp.WholeK
import Derived.Ground.SlgfProg
import Derived.Ground.SlgqProg
import Derived.Ground.SlgnProg
import Derived.Ground.SlsfProg
import Derived.Shelf.Spec.SlicesGrow
import Derived.Ground.Names8Prog
import Derived.Test.YtancajcelmhnkaaGreatDoorProg
namespace Go.Proofs
open Go.Shelf
def Tryz.cfRect_ren : Go.Shelf.Ren:=⟨fun | 8=>140 | 6=>180 | n=>n,fun | 22=>36 | 23=>87 | 25=>153 | 4=>4 | 3=>3 | 0=>0 | n=>n,fun | n=>n⟩
theorem Tryz.cfRect : Go.Proofs.SlLaysH0.n8 Tryz.prog Tryz.cfRect_ren:={
  mixed:=by kernel_rfl
  f6:=⟨Tryz.f180.name,by decide,Tryz.func180.trans (congrArg some (by kernel_rfl))⟩
  f8:=⟨Tryz.f140.name,by decide,Tryz.func140.trans (congrArg some (by kernel_rfl))⟩
  t0:=Tryz.underlying0
  a0:=Tryz.isAgg0
  z0:=Tryz.sizeOf0
  v0:=Tryz.zeroValue0
  t3:=Tryz.underlying3
  a3:=Tryz.isAgg3
  z3:=Tryz.sizeOf3
  v3:=Tryz.zeroValue3
  t4:=Tryz.underlying4
  a4:=Tryz.isAgg4
  z4:=Tryz.sizeOf4
  v4:=Tryz.zeroValue4
  t22:=Tryz.underlying36
  a22:=Tryz.isAgg36
  z22:=Tryz.sizeOf36
  v22:=Tryz.zeroValue36
  t25:=Tryz.underlying153
  a25:=Tryz.isAgg153
  z25:=Tryz.sizeOf153
  v25:=Tryz.zeroValue153 }
def Tryz.eqRect_ren : Go.Shelf.Ren:=⟨fun | 8=>143 | n=>n,fun | 22=>36 | 24=>87 | 4=>4 | 3=>3 | 0=>0 | n=>n,fun | n=>n⟩
theorem Tryz.eqRect : Go.Proofs.SlLaysQ.n8 Tryz.prog Tryz.eqRect_ren:={
  mixed:=by kernel_rfl
  f8:=⟨Tryz.f143.name,by decide,Tryz.func143.trans (congrArg some (by kernel_rfl))⟩
  t0:=Tryz.underlying0
  a0:=Tryz.isAgg0
  z0:=Tryz.sizeOf0
  v0:=Tryz.zeroValue0
  t3:=Tryz.underlying3
  a3:=Tryz.isAgg3
  z3:=Tryz.sizeOf3
  v3:=Tryz.zeroValue3
  t4:=Tryz.underlying4
  a4:=Tryz.isAgg4
  z4:=Tryz.sizeOf4
  v4:=Tryz.zeroValue4
  t22:=Tryz.underlying36
  a22:=Tryz.isAgg36
  z22:=Tryz.sizeOf36
  v22:=Tryz.zeroValue36 }
def Tryz.eqSpan_ren : Go.Shelf.Ren:=⟨fun | 8=>200 | n=>n,fun | 22=>226 | 24=>243 | 4=>4 | 3=>3 | 0=>0 | n=>n,fun | n=>n⟩
theorem Tryz.eqSpan : Go.Proofs.SlLaysQ.n8 Tryz.prog Tryz.eqSpan_ren:={
  mixed:=by kernel_rfl
  f8:=⟨Tryz.f200.name,by decide,Tryz.func200.trans (congrArg some (by kernel_rfl))⟩
  t0:=Tryz.underlying0
  a0:=Tryz.isAgg0
  z0:=Tryz.sizeOf0
  v0:=Tryz.zeroValue0
  t3:=Tryz.underlying3
  a3:=Tryz.isAgg3
  z3:=Tryz.sizeOf3
  v3:=Tryz.zeroValue3
  t4:=Tryz.underlying4
  a4:=Tryz.isAgg4
  z4:=Tryz.sizeOf4
  v4:=Tryz.zeroValue4
  t22:=Tryz.underlying226
  a22:=Tryz.isAgg226
  z22:=Tryz.sizeOf226
  v22:=Tryz.zeroValue226 }
def Tryz.clRect_ren : Go.Shelf.Ren:=⟨fun | 41=>55 | n=>n,fun | 22=>36 | 23=>87 | 4=>4 | n=>n,fun | n=>n⟩
theorem Tryz.clRect : Go.Proofs.SlLaysE0.n41 Tryz.prog Tryz.clRect_ren:={
  mixed:=by kernel_rfl
  f41:=⟨Tryz.f55.name,by decide,Tryz.func55.trans (congrArg some (by kernel_rfl))⟩
  t4:=Tryz.underlying4
  a4:=Tryz.isAgg4
  z4:=Tryz.sizeOf4
  v4:=Tryz.zeroValue4
  t22:=Tryz.underlying36
  a22:=Tryz.isAgg36
  z22:=Tryz.sizeOf36
  v22:=Tryz.zeroValue36 }
def Tryz.sortSpan_ren : Go.Shelf.Ren:=⟨fun | 6=>204 | 15=>214 | 14=>215 | 28=>238 | 29=>239 | 20=>240 | 21=>241 | 22=>242 | 23=>243 | 24=>244 | 25=>245 | 26=>246 | 27=>247 | 46=>263 | 47=>259 | 48=>260 | 49=>264 | 50=>265 | 57=>273 | n=>n,fun | 22=>226 | 24=>243 | 25=>248 | 3=>3 | 39=>214 | 0=>0 | 53=>167 | 55=>237 | 4=>4 | 46=>269 | 45=>268 | 50=>176 | 5=>5 | 9=>9 | 66=>293 | 70=>297 | 76=>308 | 77=>173 | n=>n,fun | n=>n⟩
theorem Tryz.sortSpan : Go.Proofs.SlLaysF0.n6 Tryz.prog Tryz.sortSpan_ren:={
  mixed:=by kernel_rfl
  f6:=⟨Tryz.f204.name,by decide,Tryz.func204.trans (congrArg some (by kernel_rfl))⟩
  f14:=⟨Tryz.f215.name,by decide,Tryz.func215.trans (congrArg some (by kernel_rfl))⟩
  f15:=Tryz.func214.trans (congrArg some (by kernel_rfl))
  f20:=⟨Tryz.f240.name,by decide,Tryz.func240.trans (congrArg some (by kernel_rfl))⟩
  f21:=⟨Tryz.f241.name,by decide,Tryz.func241.trans (congrArg some (by kernel_rfl))⟩
  f22:=⟨Tryz.f242.name,by decide,Tryz.func242.trans (congrArg some (by kernel_rfl))⟩
  f23:=⟨Tryz.f243.name,by decide,Tryz.func243.trans (congrArg some (by kernel_rfl))⟩
  f24:=⟨Tryz.f244.name,by decide,Tryz.func244.trans (congrArg some (by kernel_rfl))⟩
  f25:=⟨Tryz.f245.name,by decide,Tryz.func245.trans (congrArg some (by kernel_rfl))⟩
  f26:=⟨Tryz.f246.name,by decide,Tryz.func246.trans (congrArg some (by kernel_rfl))⟩
  f27:=⟨Tryz.f247.name,by decide,Tryz.func247.trans (congrArg some (by kernel_rfl))⟩
  f28:=Tryz.func238.trans (congrArg some (by kernel_rfl))
  f29:=Tryz.func239.trans (congrArg some (by kernel_rfl))
  f46:=⟨Tryz.f263.name,by decide,Tryz.func263.trans (congrArg some (by kernel_rfl))⟩
  f47:=Tryz.func259.trans (congrArg some (by kernel_rfl))
  f48:=Tryz.func260.trans (congrArg some (by kernel_rfl))
  f49:=⟨Tryz.f264.name,by decide,Tryz.func264.trans (congrArg some (by kernel_rfl))⟩
  f50:=⟨Tryz.f265.name,by decide,Tryz.func265.trans (congrArg some (by kernel_rfl))⟩
  f57:=⟨Tryz.f273.name,by decide,Tryz.func273.trans (congrArg some (by kernel_rfl))⟩
  t0:=Tryz.underlying0
  a0:=Tryz.isAgg0
  z0:=Tryz.sizeOf0
  v0:=Tryz.zeroValue0
  t3:=Tryz.underlying3
  a3:=Tryz.isAgg3
  z3:=Tryz.sizeOf3
  v3:=Tryz.zeroValue3
  t4:=Tryz.underlying4
  a4:=Tryz.isAgg4
  z4:=Tryz.sizeOf4
  v4:=Tryz.zeroValue4
  t5:=Tryz.underlying5
  a5:=Tryz.isAgg5
  z5:=Tryz.sizeOf5
  v5:=Tryz.zeroValue5
  t9:=Tryz.underlying9
  a9:=Tryz.isAgg9
  z9:=Tryz.sizeOf9
  v9:=Tryz.zeroValue9
  t22:=Tryz.underlying226
  a22:=Tryz.isAgg226
  z22:=Tryz.sizeOf226
  v22:=Tryz.zeroValue226
  t25:=Tryz.underlying248
  a25:=Tryz.isAgg248
  z25:=Tryz.sizeOf248
  v25:=Tryz.zeroValue248
  t39:=Tryz.underlying214
  a39:=Tryz.isAgg214
  z39:=Tryz.sizeOf214
  v39:=Tryz.zeroValue214
  t45:=Tryz.underlying268
  a45:=Tryz.isAgg268
  z45:=Tryz.sizeOf268
  v45:=Tryz.zeroValue268
  t46:=Tryz.underlying269
  a46:=Tryz.isAgg269
  z46:=Tryz.sizeOf269
  v46:=Tryz.zeroValue269
  t50:=Tryz.underlying176
  a50:=Tryz.isAgg176
  z50:=Tryz.sizeOf176
  v50:=Tryz.zeroValue176
  t53:=Tryz.underlying167
  a53:=Tryz.isAgg167
  z53:=Tryz.sizeOf167
  v53:=Tryz.zeroValue167
  t55:=Tryz.underlying237
  a55:=Tryz.isAgg237
  z55:=Tryz.sizeOf237
  v55:=Tryz.zeroValue237
  t66:=Tryz.underlying293
  a66:=Tryz.isAgg293
  z66:=Tryz.sizeOf293
  v66:=Tryz.zeroValue293
  t70:=Tryz.underlying297
  a70:=Tryz.isAgg297
  z70:=Tryz.sizeOf297
  v70:=Tryz.zeroValue297
  t76:=Tryz.underlying308
  a76:=Tryz.isAgg308
  z76:=Tryz.sizeOf308
  v76:=Tryz.zeroValue308
  t77:=Tryz.underlying173
  a77:=Tryz.isAgg173
  z77:=Tryz.sizeOf173
  v77:=Tryz.zeroValue173 }
def Tryz.grSpan_ren : Go.Shelf.Ren:=⟨fun | 4=>216 | n=>n,fun | 22=>226 | 25=>243 | 3=>3 | 4=>4 | 9=>9 | 20=>20 | 0=>0 | 2=>3 | n=>n,fun | n=>n⟩
theorem Tryz.grSpan : Go.Proofs.Lays8.n4 Tryz.prog Tryz.grSpan_ren:={
  mixed:=by kernel_rfl
  f4:=⟨Tryz.f216.name,by decide,Tryz.func216.trans (congrArg some (by kernel_rfl))⟩
  t0:=Tryz.underlying0
  a0:=Tryz.isAgg0
  z0:=Tryz.sizeOf0
  v0:=Tryz.zeroValue0
  t3:=Tryz.underlying3
  a3:=Tryz.isAgg3
  z3:=Tryz.sizeOf3
  v3:=Tryz.zeroValue3
  t4:=Tryz.underlying4
  a4:=Tryz.isAgg4
  z4:=Tryz.sizeOf4
  v4:=Tryz.zeroValue4
  t9:=Tryz.underlying9
  a9:=Tryz.isAgg9
  z9:=Tryz.sizeOf9
  v9:=Tryz.zeroValue9
  t20:=Tryz.underlying20
  a20:=Tryz.isAgg20
  z20:=Tryz.sizeOf20
  v20:=Tryz.zeroValue20
  t22:=Tryz.underlying226
  a22:=Tryz.isAgg226
  z22:=Tryz.sizeOf226
  v22:=Tryz.zeroValue226 }
end Go.Proofs
