/- The shelf's contracts of slices.Sort, slices.Compact at int, laid at this program (printed by the kit's tools). -/
import Derived.Shelf.SortM.Plain
import Derived.Shelf.SortM.SortNone
import Derived.Shelf.Slices.CompactI
import Derived.Ground.SlgmProg
import Derived.Ground.Names2Prog
import Derived.Test.YtedemhmlaodblabDoorProg
namespace Go.Proofs.YtedemhmlaodblabDoor
open Go.Shelf
def sortI_ren : Go.Shelf.Ren := ⟨fun | 5 => 18 | 8 => 39 | 7 => 38 | 19 => 58 | 20 => 59 | 10 => 49 | 11 => 50 | 12 => 51 | 13 => 52 | 14 => 53 | 15 => 54 | 16 => 55 | 17 => 56 | 18 => 57 | 30 => 68 | 31 => 69 | 32 => 70 | 33 => 71 | 34 => 72 | 35 => 73 | 40 => 85 | n => n, fun | 23 => 26 | 25 => 3 | 3 => 3 | 32 => 84 | 22 => 26 | 0 => 0 | 44 => 61 | 46 => 51 | 4 => 4 | 36 => 91 | 35 => 90 | 41 => 96 | 5 => 5 | 9 => 9 | 53 => 110 | 57 => 114 | 63 => 128 | 64 => 74 | n => n, fun | n => n⟩
theorem sortI : Go.Proofs.SlLaysM.n5 Tryd.prog sortI_ren := {
  mixed := by kernel_rfl
  f5 := ⟨Tryd.f18.name, by decide, Tryd.func18.trans (congrArg some (by kernel_rfl))⟩
  f7 := ⟨Tryd.f38.name, by decide, Tryd.func38.trans (congrArg some (by kernel_rfl))⟩
  f8 := Tryd.func39.trans (congrArg some (by kernel_rfl))
  f10 := ⟨Tryd.f49.name, by decide, Tryd.func49.trans (congrArg some (by kernel_rfl))⟩
  f11 := ⟨Tryd.f50.name, by decide, Tryd.func50.trans (congrArg some (by kernel_rfl))⟩
  f12 := ⟨Tryd.f51.name, by decide, Tryd.func51.trans (congrArg some (by kernel_rfl))⟩
  f13 := ⟨Tryd.f52.name, by decide, Tryd.func52.trans (congrArg some (by kernel_rfl))⟩
  f14 := ⟨Tryd.f53.name, by decide, Tryd.func53.trans (congrArg some (by kernel_rfl))⟩
  f15 := ⟨Tryd.f54.name, by decide, Tryd.func54.trans (congrArg some (by kernel_rfl))⟩
  f16 := ⟨Tryd.f55.name, by decide, Tryd.func55.trans (congrArg some (by kernel_rfl))⟩
  f17 := ⟨Tryd.f56.name, by decide, Tryd.func56.trans (congrArg some (by kernel_rfl))⟩
  f18 := ⟨Tryd.f57.name, by decide, Tryd.func57.trans (congrArg some (by kernel_rfl))⟩
  f19 := Tryd.func58.trans (congrArg some (by kernel_rfl))
  f20 := Tryd.func59.trans (congrArg some (by kernel_rfl))
  f30 := ⟨Tryd.f68.name, by decide, Tryd.func68.trans (congrArg some (by kernel_rfl))⟩
  f31 := Tryd.func69.trans (congrArg some (by kernel_rfl))
  f32 := Tryd.func70.trans (congrArg some (by kernel_rfl))
  f33 := ⟨Tryd.f71.name, by decide, Tryd.func71.trans (congrArg some (by kernel_rfl))⟩
  f34 := ⟨Tryd.f72.name, by decide, Tryd.func72.trans (congrArg some (by kernel_rfl))⟩
  f35 := ⟨Tryd.f73.name, by decide, Tryd.func73.trans (congrArg some (by kernel_rfl))⟩
  f40 := ⟨Tryd.f85.name, by decide, Tryd.func85.trans (congrArg some (by kernel_rfl))⟩
  t0 := Tryd.underlying0
  a0 := Tryd.isAgg0
  z0 := Tryd.sizeOf0
  v0 := Tryd.zeroValue0
  t3 := Tryd.underlying3
  a3 := Tryd.isAgg3
  z3 := Tryd.sizeOf3
  v3 := Tryd.zeroValue3
  t4 := Tryd.underlying4
  a4 := Tryd.isAgg4
  z4 := Tryd.sizeOf4
  v4 := Tryd.zeroValue4
  t5 := Tryd.underlying5
  a5 := Tryd.isAgg5
  z5 := Tryd.sizeOf5
  v5 := Tryd.zeroValue5
  t9 := Tryd.underlying9
  a9 := Tryd.isAgg9
  z9 := Tryd.sizeOf9
  v9 := Tryd.zeroValue9
  t22 := Tryd.underlying26
  a22 := Tryd.isAgg26
  z22 := Tryd.sizeOf26
  v22 := Tryd.zeroValue26
  t23 := Tryd.underlying26
  a23 := Tryd.isAgg26
  z23 := Tryd.sizeOf26
  v23 := Tryd.zeroValue26
  t25 := Tryd.underlying3
  a25 := Tryd.isAgg3
  z25 := Tryd.sizeOf3
  v25 := Tryd.zeroValue3
  t32 := Tryd.underlying84
  a32 := Tryd.isAgg84
  z32 := Tryd.sizeOf84
  v32 := Tryd.zeroValue84
  t35 := Tryd.underlying90
  a35 := Tryd.isAgg90
  z35 := Tryd.sizeOf90
  v35 := Tryd.zeroValue90
  t36 := Tryd.underlying91
  a36 := Tryd.isAgg91
  z36 := Tryd.sizeOf91
  v36 := Tryd.zeroValue91
  t41 := Tryd.underlying96
  a41 := Tryd.isAgg96
  z41 := Tryd.sizeOf96
  v41 := Tryd.zeroValue96
  t44 := Tryd.underlying61
  a44 := Tryd.isAgg61
  z44 := Tryd.sizeOf61
  v44 := Tryd.zeroValue61
  t46 := Tryd.underlying51
  a46 := Tryd.isAgg51
  z46 := Tryd.sizeOf51
  v46 := Tryd.zeroValue51
  t53 := Tryd.underlying110
  a53 := Tryd.isAgg110
  z53 := Tryd.sizeOf110
  v53 := Tryd.zeroValue110
  t57 := Tryd.underlying114
  a57 := Tryd.isAgg114
  z57 := Tryd.sizeOf114
  v57 := Tryd.zeroValue114
  t63 := Tryd.underlying128
  a63 := Tryd.isAgg128
  z63 := Tryd.sizeOf128
  v63 := Tryd.zeroValue128
  t64 := Tryd.underlying74
  a64 := Tryd.isAgg74
  z64 := Tryd.sizeOf74
  v64 := Tryd.zeroValue74 }
def compactI_ren : Go.Shelf.Ren := ⟨fun | 20 => 19 | n => n, fun | 22 => 26 | 3 => 3 | 4 => 4 | 0 => 0 | n => n, fun | n => n⟩
theorem compactI : Go.Proofs.Lays2.n20 Tryd.prog compactI_ren := {
  mixed := by kernel_rfl
  f20 := Tryd.func19.trans (congrArg some (by kernel_rfl))
  t0 := Tryd.underlying0
  a0 := Tryd.isAgg0
  z0 := Tryd.sizeOf0
  v0 := Tryd.zeroValue0
  t3 := Tryd.underlying3
  a3 := Tryd.isAgg3
  z3 := Tryd.sizeOf3
  v3 := Tryd.zeroValue3
  t4 := Tryd.underlying4
  a4 := Tryd.isAgg4
  z4 := Tryd.sizeOf4
  v4 := Tryd.zeroValue4
  t22 := Tryd.underlying26
  a22 := Tryd.isAgg26
  z22 := Tryd.sizeOf26
  v22 := Tryd.zeroValue26
  i3 := by kernel_rfl }
end Go.Proofs.YtedemhmlaodblabDoor
