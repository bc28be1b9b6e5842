/- slices.Sorted(maps.Keys(m)) at integer keys: what the library's contracts ask, held at this program. -/
import Derived.Shelf.SlIterI.Nil
import Derived.Shelf.SortM.Plain
import Derived.Shelf.SortM.SortNone
import Derived.Ground.GgzProg
import Derived.Ground.SlgmProg
import Derived.Shelf.SlGeneric
import Derived.Test.YtdohcabnaihaoaaRows
set_option linter.unusedSimpArgs false
set_option linter.unusedVariables false
set_option linter.constructorNameAsVariable false
namespace Go.Proofs.Ytdohcabnaihaoaa
open Go.Shelf
def keysA_ren : Go.Shelf.Ren := ⟨fun | 7 => 27 | 10 => 35 | n => n, fun | 23 => 49 | 26 => 3 | 3 => 54 | 28 => 60 | 0 => 0 | 27 => 59 | 33 => 52 | 4 => 4 | n => n, fun | n => n⟩
theorem keysA : Go.Proofs.SlLaysZI.n7 Try.prog keysA_ren := {
  mixed := by kernel_rfl
  f7 := ⟨Try.f27.name, by decide, Try.func27.trans (congrArg some (by kernel_rfl))⟩
  f10 := ⟨Try.f35.name, by decide, Try.func35.trans (congrArg some (by kernel_rfl))⟩
  t0 := Try.underlying0
  a0 := Try.isAgg0
  z0 := Try.sizeOf0
  v0 := Try.zeroValue0
  t4 := Try.underlying4
  a4 := Try.isAgg4
  z4 := Try.sizeOf4
  v4 := Try.zeroValue4
  t23 := Try.underlying49
  a23 := Try.isAgg49
  z23 := Try.sizeOf49
  v23 := Try.zeroValue49
  t26 := Try.underlying3
  a26 := Try.isAgg3
  z26 := Try.sizeOf3
  v26 := Try.zeroValue3
  t27 := Try.underlying59
  a27 := Try.isAgg59
  z27 := Try.sizeOf59
  v27 := Try.zeroValue59
  t28 := Try.underlying60
  a28 := Try.isAgg60
  z28 := Try.sizeOf60
  v28 := Try.zeroValue60
  t33 := Try.underlying52
  a33 := Try.isAgg52
  z33 := Try.sizeOf52
  v33 := Try.zeroValue52 }
def sortedA_ren : Go.Shelf.Ren := ⟨fun | 6 => 26 | 8 => 33 | 9 => 34 | 11 => 37 | 13 => 39 | 12 => 38 | 23 => 49 | 24 => 50 | 14 => 40 | 15 => 41 | 16 => 42 | 17 => 43 | 18 => 44 | 19 => 45 | 20 => 46 | 21 => 47 | 22 => 48 | 25 => 51 | 26 => 52 | 27 => 53 | 28 => 54 | 29 => 55 | 30 => 56 | 31 => 57 | n => n, fun | 26 => 3 | 28 => 60 | 24 => 57 | 0 => 0 | 3 => 3 | 37 => 71 | 48 => 82 | 50 => 84 | 4 => 4 | 40 => 74 | 39 => 73 | 45 => 79 | 5 => 5 | 9 => 9 | 51 => 85 | 55 => 89 | 57 => 91 | 58 => 92 | 33 => 52 | n => n, fun | n => n⟩
theorem sortedA : Go.Proofs.SlLaysZI.n6 Try.prog sortedA_ren := {
  mixed := by kernel_rfl
  f6 := ⟨Try.f26.name, by decide, Try.func26.trans (congrArg some (by kernel_rfl))⟩
  f8 := ⟨Try.f33.name, by decide, Try.func33.trans (congrArg some (by kernel_rfl))⟩
  f11 := ⟨Try.f37.name, by decide, Try.func37.trans (congrArg some (by kernel_rfl))⟩
  t0 := Try.underlying0
  a0 := Try.isAgg0
  z0 := Try.sizeOf0
  v0 := Try.zeroValue0
  t24 := Try.underlying57
  a24 := Try.isAgg57
  z24 := Try.sizeOf57
  v24 := Try.zeroValue57
  t26 := Try.underlying3
  a26 := Try.isAgg3
  z26 := Try.sizeOf3
  v26 := Try.zeroValue3
  t28 := Try.underlying60
  a28 := Try.isAgg60
  z28 := Try.sizeOf60
  v28 := Try.zeroValue60
  i26 := by kernel_rfl }
def sortA_ren : Go.Shelf.Ren := ⟨fun | 5 => 34 | 8 => 39 | 7 => 38 | 19 => 49 | 20 => 50 | 10 => 40 | 11 => 41 | 12 => 42 | 13 => 43 | 14 => 44 | 15 => 45 | 16 => 46 | 17 => 47 | 18 => 48 | 30 => 51 | 31 => 52 | 32 => 53 | 33 => 54 | 34 => 55 | 35 => 56 | 40 => 57 | n => n, fun | 23 => 57 | 25 => 3 | 3 => 3 | 32 => 71 | 22 => 57 | 0 => 0 | 44 => 82 | 46 => 84 | 4 => 4 | 36 => 74 | 35 => 73 | 41 => 79 | 5 => 5 | 9 => 9 | 53 => 85 | 57 => 89 | 63 => 91 | 64 => 92 | n => n, fun | n => n⟩
theorem sortA : Go.Proofs.SlLaysM.n5 Try.prog sortA_ren := {
  mixed := by kernel_rfl
  f5 := ⟨Try.f34.name, by decide, Try.func34.trans (congrArg some (by kernel_rfl))⟩
  f7 := ⟨Try.f38.name, by decide, Try.func38.trans (congrArg some (by kernel_rfl))⟩
  f8 := Try.func39.trans (congrArg some (by kernel_rfl))
  f10 := ⟨Try.f40.name, by decide, Try.func40.trans (congrArg some (by kernel_rfl))⟩
  f11 := ⟨Try.f41.name, by decide, Try.func41.trans (congrArg some (by kernel_rfl))⟩
  f12 := ⟨Try.f42.name, by decide, Try.func42.trans (congrArg some (by kernel_rfl))⟩
  f13 := ⟨Try.f43.name, by decide, Try.func43.trans (congrArg some (by kernel_rfl))⟩
  f14 := ⟨Try.f44.name, by decide, Try.func44.trans (congrArg some (by kernel_rfl))⟩
  f15 := ⟨Try.f45.name, by decide, Try.func45.trans (congrArg some (by kernel_rfl))⟩
  f16 := ⟨Try.f46.name, by decide, Try.func46.trans (congrArg some (by kernel_rfl))⟩
  f17 := ⟨Try.f47.name, by decide, Try.func47.trans (congrArg some (by kernel_rfl))⟩
  f18 := ⟨Try.f48.name, by decide, Try.func48.trans (congrArg some (by kernel_rfl))⟩
  f19 := Try.func49.trans (congrArg some (by kernel_rfl))
  f20 := Try.func50.trans (congrArg some (by kernel_rfl))
  f30 := ⟨Try.f51.name, by decide, Try.func51.trans (congrArg some (by kernel_rfl))⟩
  f31 := Try.func52.trans (congrArg some (by kernel_rfl))
  f32 := Try.func53.trans (congrArg some (by kernel_rfl))
  f33 := ⟨Try.f54.name, by decide, Try.func54.trans (congrArg some (by kernel_rfl))⟩
  f34 := ⟨Try.f55.name, by decide, Try.func55.trans (congrArg some (by kernel_rfl))⟩
  f35 := ⟨Try.f56.name, by decide, Try.func56.trans (congrArg some (by kernel_rfl))⟩
  f40 := ⟨Try.f57.name, by decide, Try.func57.trans (congrArg some (by kernel_rfl))⟩
  t0 := Try.underlying0
  a0 := Try.isAgg0
  z0 := Try.sizeOf0
  v0 := Try.zeroValue0
  t3 := Try.underlying3
  a3 := Try.isAgg3
  z3 := Try.sizeOf3
  v3 := Try.zeroValue3
  t4 := Try.underlying4
  a4 := Try.isAgg4
  z4 := Try.sizeOf4
  v4 := Try.zeroValue4
  t5 := Try.underlying5
  a5 := Try.isAgg5
  z5 := Try.sizeOf5
  v5 := Try.zeroValue5
  t9 := Try.underlying9
  a9 := Try.isAgg9
  z9 := Try.sizeOf9
  v9 := Try.zeroValue9
  t22 := Try.underlying57
  a22 := Try.isAgg57
  z22 := Try.sizeOf57
  v22 := Try.zeroValue57
  t23 := Try.underlying57
  a23 := Try.isAgg57
  z23 := Try.sizeOf57
  v23 := Try.zeroValue57
  t25 := Try.underlying3
  a25 := Try.isAgg3
  z25 := Try.sizeOf3
  v25 := Try.zeroValue3
  t32 := Try.underlying71
  a32 := Try.isAgg71
  z32 := Try.sizeOf71
  v32 := Try.zeroValue71
  t35 := Try.underlying73
  a35 := Try.isAgg73
  z35 := Try.sizeOf73
  v35 := Try.zeroValue73
  t36 := Try.underlying74
  a36 := Try.isAgg74
  z36 := Try.sizeOf74
  v36 := Try.zeroValue74
  t41 := Try.underlying79
  a41 := Try.isAgg79
  z41 := Try.sizeOf79
  v41 := Try.zeroValue79
  t44 := Try.underlying82
  a44 := Try.isAgg82
  z44 := Try.sizeOf82
  v44 := Try.zeroValue82
  t46 := Try.underlying84
  a46 := Try.isAgg84
  z46 := Try.sizeOf84
  v46 := Try.zeroValue84
  t53 := Try.underlying85
  a53 := Try.isAgg85
  z53 := Try.sizeOf85
  v53 := Try.zeroValue85
  t57 := Try.underlying89
  a57 := Try.isAgg89
  z57 := Try.sizeOf89
  v57 := Try.zeroValue89
  t63 := Try.underlying91
  a63 := Try.isAgg91
  z63 := Try.sizeOf91
  v63 := Try.zeroValue91
  t64 := Try.underlying92
  a64 := Try.isAgg92
  z64 := Try.sizeOf92
  v64 := Try.zeroValue92 }
end Go.Proofs.Ytdohcabnaihaoaa
