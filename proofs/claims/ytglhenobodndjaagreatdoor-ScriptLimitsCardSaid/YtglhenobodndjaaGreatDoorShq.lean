/-
  DERIVED: THE SHELF's CONTRACTS AT THIS DUMP, IN PLAIN WORDS (tools/lay-plain.mjs out of 'TryzShq.lean', which tools/lay-shelf.mjs wrote): THE SAME DECLARATIONS UNDER THE SAME NAMES: 'import', 'namespace', 'open', 'def', 'theorem' AND NOTHING ELSE: no command of the shelf's: FOR A HAND-IN. Each laying: the table of numbers ('.._ren') and one theorem, a field a fact of the dump's own or the kernel's comparison; each contract: ONE APPLICATION.
-/
import Derived.Shelf.SlGeneric
import Derived.Shelf.SlicesQ.IndexFunc
import Derived.Shelf.SlicesQ.Equal
import Derived.Shelf.SlicesE.Clone
import Derived.Shelf.SlSortCmp.WholeK
import Derived.Ground.SlgfProg
import Derived.Ground.SlgqProg
import Derived.Ground.SlgnProg
import Derived.Ground.SlsfProg
import Derived.Test.YtglhenobodndjaaGreatDoorProg
namespace Go.Proofs
open Go.Shelf
def Tryz.cfRect_ren : Go.Shelf.Ren := ⟨fun | 8 => 110 | 6 => 126 | n => n, fun | 22 => 24 | 23 => 73 | 25 => 143 | 4 => 4 | 3 => 3 | 0 => 0 | n => n, fun | n => n⟩
theorem Tryz.cfRect : Go.Proofs.SlLaysH0.n8 Tryz.prog Tryz.cfRect_ren := {
  mixed := by kernel_rfl
  f6 := ⟨Tryz.f126.name, by decide, Tryz.func126.trans (congrArg some (by kernel_rfl))⟩
  f8 := ⟨Tryz.f110.name, by decide, Tryz.func110.trans (congrArg some (by kernel_rfl))⟩
  t0 := Tryz.underlying0
  a0 := Tryz.isAgg0
  z0 := Tryz.sizeOf0
  v0 := Tryz.zeroValue0
  t3 := Tryz.underlying3
  a3 := Tryz.isAgg3
  z3 := Tryz.sizeOf3
  v3 := Tryz.zeroValue3
  t4 := Tryz.underlying4
  a4 := Tryz.isAgg4
  z4 := Tryz.sizeOf4
  v4 := Tryz.zeroValue4
  t22 := Tryz.underlying24
  a22 := Tryz.isAgg24
  z22 := Tryz.sizeOf24
  v22 := Tryz.zeroValue24
  t25 := Tryz.underlying143
  a25 := Tryz.isAgg143
  z25 := Tryz.sizeOf143
  v25 := Tryz.zeroValue143 }
def Tryz.eqRect_ren : Go.Shelf.Ren := ⟨fun | 8 => 81 | n => n, fun | 22 => 24 | 24 => 73 | 4 => 4 | 3 => 3 | 0 => 0 | n => n, fun | n => n⟩
theorem Tryz.eqRect : Go.Proofs.SlLaysQ.n8 Tryz.prog Tryz.eqRect_ren := {
  mixed := by kernel_rfl
  f8 := ⟨Tryz.f81.name, by decide, Tryz.func81.trans (congrArg some (by kernel_rfl))⟩
  t0 := Tryz.underlying0
  a0 := Tryz.isAgg0
  z0 := Tryz.sizeOf0
  v0 := Tryz.zeroValue0
  t3 := Tryz.underlying3
  a3 := Tryz.isAgg3
  z3 := Tryz.sizeOf3
  v3 := Tryz.zeroValue3
  t4 := Tryz.underlying4
  a4 := Tryz.isAgg4
  z4 := Tryz.sizeOf4
  v4 := Tryz.zeroValue4
  t22 := Tryz.underlying24
  a22 := Tryz.isAgg24
  z22 := Tryz.sizeOf24
  v22 := Tryz.zeroValue24 }
def Tryz.eqSpan_ren : Go.Shelf.Ren := ⟨fun | 8 => 134 | n => n, fun | 22 => 186 | 24 => 195 | 4 => 4 | 3 => 3 | 0 => 0 | n => n, fun | n => n⟩
theorem Tryz.eqSpan : Go.Proofs.SlLaysQ.n8 Tryz.prog Tryz.eqSpan_ren := {
  mixed := by kernel_rfl
  f8 := ⟨Tryz.f134.name, by decide, Tryz.func134.trans (congrArg some (by kernel_rfl))⟩
  t0 := Tryz.underlying0
  a0 := Tryz.isAgg0
  z0 := Tryz.sizeOf0
  v0 := Tryz.zeroValue0
  t3 := Tryz.underlying3
  a3 := Tryz.isAgg3
  z3 := Tryz.sizeOf3
  v3 := Tryz.zeroValue3
  t4 := Tryz.underlying4
  a4 := Tryz.isAgg4
  z4 := Tryz.sizeOf4
  v4 := Tryz.zeroValue4
  t22 := Tryz.underlying186
  a22 := Tryz.isAgg186
  z22 := Tryz.sizeOf186
  v22 := Tryz.zeroValue186 }
def Tryz.eqObs_ren : Go.Shelf.Ren := ⟨fun | 8 => 45 | n => n, fun | 22 => 27 | 24 => 93 | 4 => 4 | 3 => 3 | 0 => 0 | n => n, fun | n => n⟩
theorem Tryz.eqObs : Go.Proofs.SlLaysQ.n8 Tryz.prog Tryz.eqObs_ren := {
  mixed := by kernel_rfl
  f8 := ⟨Tryz.f45.name, by decide, Tryz.func45.trans (congrArg some (by kernel_rfl))⟩
  t0 := Tryz.underlying0
  a0 := Tryz.isAgg0
  z0 := Tryz.sizeOf0
  v0 := Tryz.zeroValue0
  t3 := Tryz.underlying3
  a3 := Tryz.isAgg3
  z3 := Tryz.sizeOf3
  v3 := Tryz.zeroValue3
  t4 := Tryz.underlying4
  a4 := Tryz.isAgg4
  z4 := Tryz.sizeOf4
  v4 := Tryz.zeroValue4
  t22 := Tryz.underlying27
  a22 := Tryz.isAgg27
  z22 := Tryz.sizeOf27
  v22 := Tryz.zeroValue27 }
def Tryz.clLine_ren : Go.Shelf.Ren := ⟨fun | 41 => 67 | n => n, fun | 22 => 23 | 23 => 67 | 4 => 4 | n => n, fun | n => n⟩
theorem Tryz.clLine : Go.Proofs.SlLaysE0.n41 Tryz.prog Tryz.clLine_ren := {
  mixed := by kernel_rfl
  f41 := ⟨Tryz.f67.name, by decide, Tryz.func67.trans (congrArg some (by kernel_rfl))⟩
  t4 := Tryz.underlying4
  a4 := Tryz.isAgg4
  z4 := Tryz.sizeOf4
  v4 := Tryz.zeroValue4
  t22 := Tryz.underlying23
  a22 := Tryz.isAgg23
  z22 := Tryz.sizeOf23
  v22 := Tryz.zeroValue23 }
def Tryz.clObs_ren : Go.Shelf.Ren := ⟨fun | 41 => 70 | n => n, fun | 22 => 27 | 23 => 93 | 4 => 4 | n => n, fun | n => n⟩
theorem Tryz.clObs : Go.Proofs.SlLaysE0.n41 Tryz.prog Tryz.clObs_ren := {
  mixed := by kernel_rfl
  f41 := ⟨Tryz.f70.name, by decide, Tryz.func70.trans (congrArg some (by kernel_rfl))⟩
  t4 := Tryz.underlying4
  a4 := Tryz.isAgg4
  z4 := Tryz.sizeOf4
  v4 := Tryz.zeroValue4
  t22 := Tryz.underlying27
  a22 := Tryz.isAgg27
  z22 := Tryz.sizeOf27
  v22 := Tryz.zeroValue27 }
def Tryz.clRect_ren : Go.Shelf.Ren := ⟨fun | 41 => 88 | n => n, fun | 22 => 24 | 23 => 73 | 4 => 4 | n => n, fun | n => n⟩
theorem Tryz.clRect : Go.Proofs.SlLaysE0.n41 Tryz.prog Tryz.clRect_ren := {
  mixed := by kernel_rfl
  f41 := ⟨Tryz.f88.name, by decide, Tryz.func88.trans (congrArg some (by kernel_rfl))⟩
  t4 := Tryz.underlying4
  a4 := Tryz.isAgg4
  z4 := Tryz.sizeOf4
  v4 := Tryz.zeroValue4
  t22 := Tryz.underlying24
  a22 := Tryz.isAgg24
  z22 := Tryz.sizeOf24
  v22 := Tryz.zeroValue24 }
def Tryz.sortSpan_ren : Go.Shelf.Ren := ⟨fun | 6 => 138 | 15 => 142 | 14 => 143 | 28 => 154 | 29 => 117 | 20 => 155 | 21 => 156 | 22 => 157 | 23 => 158 | 24 => 159 | 25 => 160 | 26 => 161 | 27 => 162 | 46 => 168 | 47 => 164 | 48 => 165 | 49 => 169 | 50 => 170 | 57 => 172 | n => n, fun | 22 => 186 | 24 => 195 | 25 => 200 | 3 => 3 | 39 => 170 | 0 => 0 | 53 => 176 | 55 => 30 | 4 => 4 | 46 => 211 | 45 => 210 | 50 => 147 | 5 => 5 | 9 => 9 | 66 => 222 | 70 => 131 | 76 => 228 | 77 => 229 | n => n, fun | n => n⟩
theorem Tryz.sortSpan : Go.Proofs.SlLaysF0.n6 Tryz.prog Tryz.sortSpan_ren := {
  mixed := by kernel_rfl
  f6 := ⟨Tryz.f138.name, by decide, Tryz.func138.trans (congrArg some (by kernel_rfl))⟩
  f14 := ⟨Tryz.f143.name, by decide, Tryz.func143.trans (congrArg some (by kernel_rfl))⟩
  f15 := Tryz.func142.trans (congrArg some (by kernel_rfl))
  f20 := ⟨Tryz.f155.name, by decide, Tryz.func155.trans (congrArg some (by kernel_rfl))⟩
  f21 := ⟨Tryz.f156.name, by decide, Tryz.func156.trans (congrArg some (by kernel_rfl))⟩
  f22 := ⟨Tryz.f157.name, by decide, Tryz.func157.trans (congrArg some (by kernel_rfl))⟩
  f23 := ⟨Tryz.f158.name, by decide, Tryz.func158.trans (congrArg some (by kernel_rfl))⟩
  f24 := ⟨Tryz.f159.name, by decide, Tryz.func159.trans (congrArg some (by kernel_rfl))⟩
  f25 := ⟨Tryz.f160.name, by decide, Tryz.func160.trans (congrArg some (by kernel_rfl))⟩
  f26 := ⟨Tryz.f161.name, by decide, Tryz.func161.trans (congrArg some (by kernel_rfl))⟩
  f27 := ⟨Tryz.f162.name, by decide, Tryz.func162.trans (congrArg some (by kernel_rfl))⟩
  f28 := Tryz.func154.trans (congrArg some (by kernel_rfl))
  f29 := Tryz.func117.trans (congrArg some (by kernel_rfl))
  f46 := ⟨Tryz.f168.name, by decide, Tryz.func168.trans (congrArg some (by kernel_rfl))⟩
  f47 := Tryz.func164.trans (congrArg some (by kernel_rfl))
  f48 := Tryz.func165.trans (congrArg some (by kernel_rfl))
  f49 := ⟨Tryz.f169.name, by decide, Tryz.func169.trans (congrArg some (by kernel_rfl))⟩
  f50 := ⟨Tryz.f170.name, by decide, Tryz.func170.trans (congrArg some (by kernel_rfl))⟩
  f57 := ⟨Tryz.f172.name, by decide, Tryz.func172.trans (congrArg some (by kernel_rfl))⟩
  t0 := Tryz.underlying0
  a0 := Tryz.isAgg0
  z0 := Tryz.sizeOf0
  v0 := Tryz.zeroValue0
  t3 := Tryz.underlying3
  a3 := Tryz.isAgg3
  z3 := Tryz.sizeOf3
  v3 := Tryz.zeroValue3
  t4 := Tryz.underlying4
  a4 := Tryz.isAgg4
  z4 := Tryz.sizeOf4
  v4 := Tryz.zeroValue4
  t5 := Tryz.underlying5
  a5 := Tryz.isAgg5
  z5 := Tryz.sizeOf5
  v5 := Tryz.zeroValue5
  t9 := Tryz.underlying9
  a9 := Tryz.isAgg9
  z9 := Tryz.sizeOf9
  v9 := Tryz.zeroValue9
  t22 := Tryz.underlying186
  a22 := Tryz.isAgg186
  z22 := Tryz.sizeOf186
  v22 := Tryz.zeroValue186
  t25 := Tryz.underlying200
  a25 := Tryz.isAgg200
  z25 := Tryz.sizeOf200
  v25 := Tryz.zeroValue200
  t39 := Tryz.underlying170
  a39 := Tryz.isAgg170
  z39 := Tryz.sizeOf170
  v39 := Tryz.zeroValue170
  t45 := Tryz.underlying210
  a45 := Tryz.isAgg210
  z45 := Tryz.sizeOf210
  v45 := Tryz.zeroValue210
  t46 := Tryz.underlying211
  a46 := Tryz.isAgg211
  z46 := Tryz.sizeOf211
  v46 := Tryz.zeroValue211
  t50 := Tryz.underlying147
  a50 := Tryz.isAgg147
  z50 := Tryz.sizeOf147
  v50 := Tryz.zeroValue147
  t53 := Tryz.underlying176
  a53 := Tryz.isAgg176
  z53 := Tryz.sizeOf176
  v53 := Tryz.zeroValue176
  t55 := Tryz.underlying30
  a55 := Tryz.isAgg30
  z55 := Tryz.sizeOf30
  v55 := Tryz.zeroValue30
  t66 := Tryz.underlying222
  a66 := Tryz.isAgg222
  z66 := Tryz.sizeOf222
  v66 := Tryz.zeroValue222
  t70 := Tryz.underlying131
  a70 := Tryz.isAgg131
  z70 := Tryz.sizeOf131
  v70 := Tryz.zeroValue131
  t76 := Tryz.underlying228
  a76 := Tryz.isAgg228
  z76 := Tryz.sizeOf228
  v76 := Tryz.zeroValue228
  t77 := Tryz.underlying229
  a77 := Tryz.isAgg229
  z77 := Tryz.sizeOf229
  v77 := Tryz.zeroValue229 }
end Go.Proofs
