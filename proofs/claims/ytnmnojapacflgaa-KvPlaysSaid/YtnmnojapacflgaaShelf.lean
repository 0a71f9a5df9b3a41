/-
  DERIVED: THE SHELF's CONTRACTS AT THIS DUMP, IN PLAIN WORDS (tools/lay-plain.mjs out of 'YtnmnojapacflgaaShelf.lean', which tools/lay-shelf.mjs wrote): THE SAME DECLARATIONS UNDER THE SAME NAMES: 'import', 'namespace', 'open', 'def', 'theorem' AND NOTHING ELSE: no command of the shelf's: FOR A HAND-IN. Each laying: the table of numbers ('.._ren') and one theorem, a field a fact of the dump's own or the kernel's comparison; each contract: ONE APPLICATION.
-/
import Derived.Shelf.SlIter.Nil
import Derived.Shelf.SlIter.Sorted
import Derived.Shelf.SortM.Plain
import Derived.Shelf.SortM.SortNone
import Derived.Shelf.SlicesE.DeleteFunc
import Derived.Ground.GgzProg
import Derived.Ground.SlgmProg
import Derived.Ground.SlgfProg
import Derived.Test.YtnmnojapacflgaaProg
namespace Go.Proofs
open Go.Shelf
def Try.keys27_ren : Go.Shelf.Ren := ⟨fun | 7 => 27 | 10 => 36 | n => n, fun | 23 => 56 | 26 => 9 | 3 => 61 | 28 => 64 | 0 => 0 | 27 => 63 | 33 => 67 | 4 => 4 | n => n, fun | n => n⟩
theorem Try.keys27 : Go.Proofs.SlLaysZ.n7 Try.prog Try.keys27_ren := {
  mixed := by kernel_rfl
  f7 := ⟨Try.f27.name, by decide, Try.func27.trans (congrArg some (by kernel_rfl))⟩
  f10 := ⟨Try.f36.name, by decide, Try.func36.trans (congrArg some (by kernel_rfl))⟩
  t0 := Try.underlying0
  a0 := Try.isAgg0
  z0 := Try.sizeOf0
  v0 := Try.zeroValue0
  t4 := Try.underlying4
  a4 := Try.isAgg4
  z4 := Try.sizeOf4
  v4 := Try.zeroValue4
  t23 := Try.underlying56
  a23 := Try.isAgg56
  z23 := Try.sizeOf56
  v23 := Try.zeroValue56
  t26 := Try.underlying9
  a26 := Try.isAgg9
  z26 := Try.sizeOf9
  v26 := Try.zeroValue9
  t27 := Try.underlying63
  a27 := Try.isAgg63
  z27 := Try.sizeOf63
  v27 := Try.zeroValue63
  t28 := Try.underlying64
  a28 := Try.isAgg64
  z28 := Try.sizeOf64
  v28 := Try.zeroValue64
  t33 := Try.underlying67
  a33 := Try.isAgg67
  z33 := Try.sizeOf67
  v33 := Try.zeroValue67 }
def Try.sorted26_ren : Go.Shelf.Ren := ⟨fun | 6 => 26 | 8 => 34 | 9 => 35 | 11 => 38 | 13 => 40 | 12 => 39 | 23 => 50 | 24 => 51 | 14 => 41 | 15 => 42 | 16 => 43 | 17 => 44 | 18 => 45 | 19 => 46 | 20 => 47 | 21 => 48 | 22 => 49 | 25 => 52 | 26 => 53 | 27 => 54 | 28 => 55 | 29 => 56 | 30 => 57 | 31 => 58 | n => n, fun | 26 => 9 | 28 => 64 | 24 => 33 | 0 => 0 | 3 => 3 | 37 => 80 | 48 => 91 | 50 => 93 | 4 => 4 | 40 => 83 | 39 => 82 | 45 => 88 | 5 => 5 | 9 => 9 | 51 => 94 | 55 => 98 | 57 => 100 | 58 => 101 | 33 => 67 | n => n, fun | n => n⟩
theorem Try.sorted26 : Go.Proofs.SlLaysZ.n6 Try.prog Try.sorted26_ren := {
  mixed := by kernel_rfl
  f6 := ⟨Try.f26.name, by decide, Try.func26.trans (congrArg some (by kernel_rfl))⟩
  f8 := ⟨Try.f34.name, by decide, Try.func34.trans (congrArg some (by kernel_rfl))⟩
  f11 := ⟨Try.f38.name, by decide, Try.func38.trans (congrArg some (by kernel_rfl))⟩
  t0 := Try.underlying0
  a0 := Try.isAgg0
  z0 := Try.sizeOf0
  v0 := Try.zeroValue0
  t24 := Try.underlying33
  a24 := Try.isAgg33
  z24 := Try.sizeOf33
  v24 := Try.zeroValue33
  t26 := Try.underlying9
  a26 := Try.isAgg9
  z26 := Try.sizeOf9
  v26 := Try.zeroValue9
  t28 := Try.underlying64
  a28 := Try.isAgg64
  z28 := Try.sizeOf64
  v28 := Try.zeroValue64
  i26 := by kernel_rfl }
def Try.sort35_ren : Go.Shelf.Ren := ⟨fun | 6 => 35 | 8 => 40 | 9 => 39 | 19 => 50 | 20 => 51 | 21 => 41 | 22 => 42 | 23 => 43 | 24 => 44 | 25 => 45 | 26 => 46 | 27 => 47 | 28 => 48 | 29 => 49 | 36 => 52 | 31 => 53 | 32 => 54 | 37 => 55 | 38 => 56 | 39 => 57 | 41 => 58 | n => n, fun | 27 => 33 | 29 => 9 | 3 => 3 | 32 => 80 | 26 => 33 | 0 => 0 | 44 => 91 | 46 => 93 | 4 => 4 | 36 => 83 | 35 => 82 | 41 => 88 | 5 => 5 | 9 => 9 | 53 => 94 | 57 => 98 | 63 => 100 | 64 => 101 | n => n, fun | n => n⟩
theorem Try.sort35 : Go.Proofs.SlLaysM.n6 Try.prog Try.sort35_ren := {
  mixed := by kernel_rfl
  f6 := ⟨Try.f35.name, by decide, Try.func35.trans (congrArg some (by kernel_rfl))⟩
  f8 := Try.func40.trans (congrArg some (by kernel_rfl))
  f9 := ⟨Try.f39.name, by decide, Try.func39.trans (congrArg some (by kernel_rfl))⟩
  f19 := Try.func50.trans (congrArg some (by kernel_rfl))
  f20 := Try.func51.trans (congrArg some (by kernel_rfl))
  f21 := ⟨Try.f41.name, by decide, Try.func41.trans (congrArg some (by kernel_rfl))⟩
  f22 := ⟨Try.f42.name, by decide, Try.func42.trans (congrArg some (by kernel_rfl))⟩
  f23 := ⟨Try.f43.name, by decide, Try.func43.trans (congrArg some (by kernel_rfl))⟩
  f24 := ⟨Try.f44.name, by decide, Try.func44.trans (congrArg some (by kernel_rfl))⟩
  f25 := ⟨Try.f45.name, by decide, Try.func45.trans (congrArg some (by kernel_rfl))⟩
  f26 := ⟨Try.f46.name, by decide, Try.func46.trans (congrArg some (by kernel_rfl))⟩
  f27 := ⟨Try.f47.name, by decide, Try.func47.trans (congrArg some (by kernel_rfl))⟩
  f28 := ⟨Try.f48.name, by decide, Try.func48.trans (congrArg some (by kernel_rfl))⟩
  f29 := ⟨Try.f49.name, by decide, Try.func49.trans (congrArg some (by kernel_rfl))⟩
  f31 := Try.func53.trans (congrArg some (by kernel_rfl))
  f32 := Try.func54.trans (congrArg some (by kernel_rfl))
  f36 := ⟨Try.f52.name, by decide, Try.func52.trans (congrArg some (by kernel_rfl))⟩
  f37 := ⟨Try.f55.name, by decide, Try.func55.trans (congrArg some (by kernel_rfl))⟩
  f38 := ⟨Try.f56.name, by decide, Try.func56.trans (congrArg some (by kernel_rfl))⟩
  f39 := ⟨Try.f57.name, by decide, Try.func57.trans (congrArg some (by kernel_rfl))⟩
  f41 := ⟨Try.f58.name, by decide, Try.func58.trans (congrArg some (by kernel_rfl))⟩
  t0 := Try.underlying0
  a0 := Try.isAgg0
  z0 := Try.sizeOf0
  v0 := Try.zeroValue0
  t3 := Try.underlying3
  a3 := Try.isAgg3
  z3 := Try.sizeOf3
  v3 := Try.zeroValue3
  t4 := Try.underlying4
  a4 := Try.isAgg4
  z4 := Try.sizeOf4
  v4 := Try.zeroValue4
  t5 := Try.underlying5
  a5 := Try.isAgg5
  z5 := Try.sizeOf5
  v5 := Try.zeroValue5
  t9 := Try.underlying9
  a9 := Try.isAgg9
  z9 := Try.sizeOf9
  v9 := Try.zeroValue9
  t26 := Try.underlying33
  a26 := Try.isAgg33
  z26 := Try.sizeOf33
  v26 := Try.zeroValue33
  t27 := Try.underlying33
  a27 := Try.isAgg33
  z27 := Try.sizeOf33
  v27 := Try.zeroValue33
  t29 := Try.underlying9
  a29 := Try.isAgg9
  z29 := Try.sizeOf9
  v29 := Try.zeroValue9
  t32 := Try.underlying80
  a32 := Try.isAgg80
  z32 := Try.sizeOf80
  v32 := Try.zeroValue80
  t35 := Try.underlying82
  a35 := Try.isAgg82
  z35 := Try.sizeOf82
  v35 := Try.zeroValue82
  t36 := Try.underlying83
  a36 := Try.isAgg83
  z36 := Try.sizeOf83
  v36 := Try.zeroValue83
  t41 := Try.underlying88
  a41 := Try.isAgg88
  z41 := Try.sizeOf88
  v41 := Try.zeroValue88
  t44 := Try.underlying91
  a44 := Try.isAgg91
  z44 := Try.sizeOf91
  v44 := Try.zeroValue91
  t46 := Try.underlying93
  a46 := Try.isAgg93
  z46 := Try.sizeOf93
  v46 := Try.zeroValue93
  t53 := Try.underlying94
  a53 := Try.isAgg94
  z53 := Try.sizeOf94
  v53 := Try.zeroValue94
  t57 := Try.underlying98
  a57 := Try.isAgg98
  z57 := Try.sizeOf98
  v57 := Try.zeroValue98
  t63 := Try.underlying100
  a63 := Try.isAgg100
  z63 := Try.sizeOf100
  v63 := Try.zeroValue100
  t64 := Try.underlying101
  a64 := Try.isAgg101
  z64 := Try.sizeOf101
  v64 := Try.zeroValue101 }
def Try.del28_ren : Go.Shelf.Ren := ⟨fun | 10 => 28 | 6 => 37 | n => n, fun | 22 => 33 | 23 => 9 | 25 => 67 | 3 => 3 | 4 => 4 | 0 => 0 | n => n, fun | n => n⟩
theorem Try.del28 : Go.Proofs.SlLaysH.n10 Try.prog Try.del28_ren := {
  mixed := by kernel_rfl
  f6 := ⟨Try.f37.name, by decide, Try.func37.trans (congrArg some (by kernel_rfl))⟩
  f10 := ⟨Try.f28.name, by decide, Try.func28.trans (congrArg some (by kernel_rfl))⟩
  t0 := Try.underlying0
  a0 := Try.isAgg0
  z0 := Try.sizeOf0
  v0 := Try.zeroValue0
  t3 := Try.underlying3
  a3 := Try.isAgg3
  z3 := Try.sizeOf3
  v3 := Try.zeroValue3
  t4 := Try.underlying4
  a4 := Try.isAgg4
  z4 := Try.sizeOf4
  v4 := Try.zeroValue4
  t22 := Try.underlying33
  a22 := Try.isAgg33
  z22 := Try.sizeOf33
  v22 := Try.zeroValue33
  a23 := Try.isAgg9
  z23 := Try.sizeOf9
  t25 := Try.underlying67
  a25 := Try.isAgg67
  z25 := Try.sizeOf67
  v25 := Try.zeroValue67 }
end Go.Proofs
