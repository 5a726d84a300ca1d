/-
  DERIVED: THE SHELF's CONTRACTS AT THIS DUMP, IN PLAIN WORDS (tools/lay-plain.mjs out of 'TrydShelfS.lean', which tools/lay-shelf.mjs wrote): THE SAME DECLARATIONS UNDER THE SAME NAMES: 'import', 'namespace', 'open', 'def', 'theorem' AND NOTHING ELSE: no command of the shelf's: FOR A HAND-IN. Each laying: the table of numbers ('.._ren') and one theorem, a field a fact of the dump's own or the kernel's comparison; each contract: ONE APPLICATION.
-/
import Derived.Shelf.SlGeneric
import Derived.Shelf.SlLaysF
import Derived.Shelf.SlLaysF0
import Derived.Ground.SlsfProg
import Derived.Test.YthkpmldjbogngaaDoorProg
namespace Go.Proofs
open Go.Shelf
def Tryd.sortRun_ren : Go.Shelf.Ren := ⟨fun | 6 => 10 | 15 => 19 | 14 => 18 | 28 => 30 | 29 => 31 | 20 => 22 | 21 => 23 | 22 => 24 | 23 => 25 | 24 => 26 | 25 => 27 | 26 => 28 | 27 => 29 | 46 => 37 | 47 => 38 | 48 => 39 | 49 => 40 | 50 => 41 | 57 => 45 | n => n, fun | 22 => 22 | 24 => 9 | 25 => 24 | 3 => 3 | 39 => 37 | 0 => 0 | 53 => 34 | 55 => 50 | 4 => 4 | 46 => 42 | 45 => 41 | 50 => 46 | 5 => 5 | 9 => 9 | 66 => 58 | 70 => 62 | 76 => 67 | 77 => 68 | n => n, fun | n => n⟩
theorem Tryd.sortRun : Go.Proofs.SlLaysF.n6 Tryd.prog Tryd.sortRun_ren := {
  mixed := by kernel_rfl
  f6 := ⟨Tryd.f10.name, by decide, Tryd.func10.trans (congrArg some (by kernel_rfl))⟩
  f14 := ⟨Tryd.f18.name, by decide, Tryd.func18.trans (congrArg some (by kernel_rfl))⟩
  f15 := Tryd.func19.trans (congrArg some (by kernel_rfl))
  f20 := ⟨Tryd.f22.name, by decide, Tryd.func22.trans (congrArg some (by kernel_rfl))⟩
  f21 := ⟨Tryd.f23.name, by decide, Tryd.func23.trans (congrArg some (by kernel_rfl))⟩
  f22 := ⟨Tryd.f24.name, by decide, Tryd.func24.trans (congrArg some (by kernel_rfl))⟩
  f23 := ⟨Tryd.f25.name, by decide, Tryd.func25.trans (congrArg some (by kernel_rfl))⟩
  f24 := ⟨Tryd.f26.name, by decide, Tryd.func26.trans (congrArg some (by kernel_rfl))⟩
  f25 := ⟨Tryd.f27.name, by decide, Tryd.func27.trans (congrArg some (by kernel_rfl))⟩
  f26 := ⟨Tryd.f28.name, by decide, Tryd.func28.trans (congrArg some (by kernel_rfl))⟩
  f27 := ⟨Tryd.f29.name, by decide, Tryd.func29.trans (congrArg some (by kernel_rfl))⟩
  f28 := Tryd.func30.trans (congrArg some (by kernel_rfl))
  f29 := Tryd.func31.trans (congrArg some (by kernel_rfl))
  f46 := ⟨Tryd.f37.name, by decide, Tryd.func37.trans (congrArg some (by kernel_rfl))⟩
  f47 := Tryd.func38.trans (congrArg some (by kernel_rfl))
  f48 := Tryd.func39.trans (congrArg some (by kernel_rfl))
  f49 := ⟨Tryd.f40.name, by decide, Tryd.func40.trans (congrArg some (by kernel_rfl))⟩
  f50 := ⟨Tryd.f41.name, by decide, Tryd.func41.trans (congrArg some (by kernel_rfl))⟩
  f57 := ⟨Tryd.f45.name, by decide, Tryd.func45.trans (congrArg some (by kernel_rfl))⟩
  t0 := Tryd.underlying0
  a0 := Tryd.isAgg0
  z0 := Tryd.sizeOf0
  v0 := Tryd.zeroValue0
  t3 := Tryd.underlying3
  a3 := Tryd.isAgg3
  z3 := Tryd.sizeOf3
  v3 := Tryd.zeroValue3
  t4 := Tryd.underlying4
  a4 := Tryd.isAgg4
  z4 := Tryd.sizeOf4
  v4 := Tryd.zeroValue4
  t5 := Tryd.underlying5
  a5 := Tryd.isAgg5
  z5 := Tryd.sizeOf5
  v5 := Tryd.zeroValue5
  t9 := Tryd.underlying9
  a9 := Tryd.isAgg9
  z9 := Tryd.sizeOf9
  v9 := Tryd.zeroValue9
  t22 := Tryd.underlying22
  a22 := Tryd.isAgg22
  z22 := Tryd.sizeOf22
  v22 := Tryd.zeroValue22
  a24 := Tryd.isAgg9
  z24 := Tryd.sizeOf9
  t25 := Tryd.underlying24
  a25 := Tryd.isAgg24
  z25 := Tryd.sizeOf24
  v25 := Tryd.zeroValue24
  t39 := Tryd.underlying37
  a39 := Tryd.isAgg37
  z39 := Tryd.sizeOf37
  v39 := Tryd.zeroValue37
  t45 := Tryd.underlying41
  a45 := Tryd.isAgg41
  z45 := Tryd.sizeOf41
  v45 := Tryd.zeroValue41
  t46 := Tryd.underlying42
  a46 := Tryd.isAgg42
  z46 := Tryd.sizeOf42
  v46 := Tryd.zeroValue42
  t50 := Tryd.underlying46
  a50 := Tryd.isAgg46
  z50 := Tryd.sizeOf46
  v50 := Tryd.zeroValue46
  t53 := Tryd.underlying34
  a53 := Tryd.isAgg34
  z53 := Tryd.sizeOf34
  v53 := Tryd.zeroValue34
  t55 := Tryd.underlying50
  a55 := Tryd.isAgg50
  z55 := Tryd.sizeOf50
  v55 := Tryd.zeroValue50
  t66 := Tryd.underlying58
  a66 := Tryd.isAgg58
  z66 := Tryd.sizeOf58
  v66 := Tryd.zeroValue58
  t70 := Tryd.underlying62
  a70 := Tryd.isAgg62
  z70 := Tryd.sizeOf62
  v70 := Tryd.zeroValue62
  t76 := Tryd.underlying67
  a76 := Tryd.isAgg67
  z76 := Tryd.sizeOf67
  v76 := Tryd.zeroValue67
  t77 := Tryd.underlying68
  a77 := Tryd.isAgg68
  z77 := Tryd.sizeOf68
  v77 := Tryd.zeroValue68 }
end Go.Proofs
