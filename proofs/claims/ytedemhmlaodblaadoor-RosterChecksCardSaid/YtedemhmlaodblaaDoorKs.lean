/- The shelf's contracts of slices.Sort, slices.Compact at int, laid at this program (printed by the kit's tools). -/
import Derived.Shelf.SortM.Plain
import Derived.Shelf.SortM.SortNone
import Derived.Shelf.Slices.CompactI
import Derived.Ground.SlgmProg
import Derived.Ground.Names2Prog
import Derived.Test.YtedemhmlaodblaaDoorProg
namespace Go.Proofs.YtedemhmlaodblaaDoor
open Go.Shelf
def sortI_ren : Go.Shelf.Ren := ⟨fun | 5 => 35 | 8 => 44 | 7 => 43 | 19 => 57 | 20 => 58 | 10 => 48 | 11 => 49 | 12 => 50 | 13 => 51 | 14 => 52 | 15 => 53 | 16 => 54 | 17 => 55 | 18 => 56 | 30 => 59 | 31 => 60 | 32 => 61 | 33 => 62 | 34 => 63 | 35 => 64 | 40 => 65 | n => n, fun | 23 => 26 | 25 => 3 | 3 => 3 | 32 => 42 | 22 => 26 | 0 => 0 | 44 => 86 | 46 => 49 | 4 => 4 | 36 => 78 | 35 => 77 | 41 => 83 | 5 => 5 | 9 => 9 | 53 => 88 | 57 => 92 | 63 => 94 | 64 => 95 | n => n, fun | n => n⟩
theorem sortI : Go.Proofs.SlLaysM.n5 Tryd.prog sortI_ren := {
  mixed := by kernel_rfl
  f5 := ⟨Tryd.f35.name, by decide, Tryd.func35.trans (congrArg some (by kernel_rfl))⟩
  f7 := ⟨Tryd.f43.name, by decide, Tryd.func43.trans (congrArg some (by kernel_rfl))⟩
  f8 := Tryd.func44.trans (congrArg some (by kernel_rfl))
  f10 := ⟨Tryd.f48.name, by decide, Tryd.func48.trans (congrArg some (by kernel_rfl))⟩
  f11 := ⟨Tryd.f49.name, by decide, Tryd.func49.trans (congrArg some (by kernel_rfl))⟩
  f12 := ⟨Tryd.f50.name, by decide, Tryd.func50.trans (congrArg some (by kernel_rfl))⟩
  f13 := ⟨Tryd.f51.name, by decide, Tryd.func51.trans (congrArg some (by kernel_rfl))⟩
  f14 := ⟨Tryd.f52.name, by decide, Tryd.func52.trans (congrArg some (by kernel_rfl))⟩
  f15 := ⟨Tryd.f53.name, by decide, Tryd.func53.trans (congrArg some (by kernel_rfl))⟩
  f16 := ⟨Tryd.f54.name, by decide, Tryd.func54.trans (congrArg some (by kernel_rfl))⟩
  f17 := ⟨Tryd.f55.name, by decide, Tryd.func55.trans (congrArg some (by kernel_rfl))⟩
  f18 := ⟨Tryd.f56.name, by decide, Tryd.func56.trans (congrArg some (by kernel_rfl))⟩
  f19 := Tryd.func57.trans (congrArg some (by kernel_rfl))
  f20 := Tryd.func58.trans (congrArg some (by kernel_rfl))
  f30 := ⟨Tryd.f59.name, by decide, Tryd.func59.trans (congrArg some (by kernel_rfl))⟩
  f31 := Tryd.func60.trans (congrArg some (by kernel_rfl))
  f32 := Tryd.func61.trans (congrArg some (by kernel_rfl))
  f33 := ⟨Tryd.f62.name, by decide, Tryd.func62.trans (congrArg some (by kernel_rfl))⟩
  f34 := ⟨Tryd.f63.name, by decide, Tryd.func63.trans (congrArg some (by kernel_rfl))⟩
  f35 := ⟨Tryd.f64.name, by decide, Tryd.func64.trans (congrArg some (by kernel_rfl))⟩
  f40 := ⟨Tryd.f65.name, by decide, Tryd.func65.trans (congrArg some (by kernel_rfl))⟩
  t0 := Tryd.underlying0
  a0 := Tryd.isAgg0
  z0 := Tryd.sizeOf0
  v0 := Tryd.zeroValue0
  t3 := Tryd.underlying3
  a3 := Tryd.isAgg3
  z3 := Tryd.sizeOf3
  v3 := Tryd.zeroValue3
  t4 := Tryd.underlying4
  a4 := Tryd.isAgg4
  z4 := Tryd.sizeOf4
  v4 := Tryd.zeroValue4
  t5 := Tryd.underlying5
  a5 := Tryd.isAgg5
  z5 := Tryd.sizeOf5
  v5 := Tryd.zeroValue5
  t9 := Tryd.underlying9
  a9 := Tryd.isAgg9
  z9 := Tryd.sizeOf9
  v9 := Tryd.zeroValue9
  t22 := Tryd.underlying26
  a22 := Tryd.isAgg26
  z22 := Tryd.sizeOf26
  v22 := Tryd.zeroValue26
  t23 := Tryd.underlying26
  a23 := Tryd.isAgg26
  z23 := Tryd.sizeOf26
  v23 := Tryd.zeroValue26
  t25 := Tryd.underlying3
  a25 := Tryd.isAgg3
  z25 := Tryd.sizeOf3
  v25 := Tryd.zeroValue3
  t32 := Tryd.underlying42
  a32 := Tryd.isAgg42
  z32 := Tryd.sizeOf42
  v32 := Tryd.zeroValue42
  t35 := Tryd.underlying77
  a35 := Tryd.isAgg77
  z35 := Tryd.sizeOf77
  v35 := Tryd.zeroValue77
  t36 := Tryd.underlying78
  a36 := Tryd.isAgg78
  z36 := Tryd.sizeOf78
  v36 := Tryd.zeroValue78
  t41 := Tryd.underlying83
  a41 := Tryd.isAgg83
  z41 := Tryd.sizeOf83
  v41 := Tryd.zeroValue83
  t44 := Tryd.underlying86
  a44 := Tryd.isAgg86
  z44 := Tryd.sizeOf86
  v44 := Tryd.zeroValue86
  t46 := Tryd.underlying49
  a46 := Tryd.isAgg49
  z46 := Tryd.sizeOf49
  v46 := Tryd.zeroValue49
  t53 := Tryd.underlying88
  a53 := Tryd.isAgg88
  z53 := Tryd.sizeOf88
  v53 := Tryd.zeroValue88
  t57 := Tryd.underlying92
  a57 := Tryd.isAgg92
  z57 := Tryd.sizeOf92
  v57 := Tryd.zeroValue92
  t63 := Tryd.underlying94
  a63 := Tryd.isAgg94
  z63 := Tryd.sizeOf94
  v63 := Tryd.zeroValue94
  t64 := Tryd.underlying95
  a64 := Tryd.isAgg95
  z64 := Tryd.sizeOf95
  v64 := Tryd.zeroValue95 }
def compactI_ren : Go.Shelf.Ren := ⟨fun | 20 => 36 | n => n, fun | 22 => 26 | 3 => 3 | 4 => 4 | 0 => 0 | n => n, fun | n => n⟩
theorem compactI : Go.Proofs.Lays2.n20 Tryd.prog compactI_ren := {
  mixed := by kernel_rfl
  f20 := Tryd.func36.trans (congrArg some (by kernel_rfl))
  t0 := Tryd.underlying0
  a0 := Tryd.isAgg0
  z0 := Tryd.sizeOf0
  v0 := Tryd.zeroValue0
  t3 := Tryd.underlying3
  a3 := Tryd.isAgg3
  z3 := Tryd.sizeOf3
  v3 := Tryd.zeroValue3
  t4 := Tryd.underlying4
  a4 := Tryd.isAgg4
  z4 := Tryd.sizeOf4
  v4 := Tryd.zeroValue4
  t22 := Tryd.underlying26
  a22 := Tryd.isAgg26
  z22 := Tryd.sizeOf26
  v22 := Tryd.zeroValue26
  i3 := by kernel_rfl }
end Go.Proofs.YtedemhmlaodblaaDoor
