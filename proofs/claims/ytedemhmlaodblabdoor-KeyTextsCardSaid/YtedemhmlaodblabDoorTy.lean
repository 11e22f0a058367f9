/- What the symbolic execution asks of this program's types and functions, laid by a program of mine (gen_ty.py); each is proved by the kernel. -/
import Derived.Test.YtedemhmlaodblabDoorProg
import Derived.Test.YtedemhmlaodblabDoorSo
import Derived.Test.YtedemhmlaodblabDoorSr
import Derived.Test.YtedemhmlaodblabDoorSa
import Derived.Test.YtedemhmlaodblabDoorSh
import Derived.Test.YtedemhmlaodblabDoorPz
import Derived.KernelRfl
namespace Go.Proofs.YtedemhmlaodblabDoor
open Go Go.SX
set_option linter.unusedVariables false
set_option linter.unusedSimpArgs false
set_option maxRecDepth 100000
instance : Und Tryd.prog 2 (.int .i64) := ⟨Tryd.underlying2⟩
instance : Sc Tryd.prog 2 := ⟨fun w => by kernel_rfl⟩
instance : Sz Tryd.prog 2 1 := ⟨fun w => by kernel_rfl⟩
instance : Zr Tryd.prog 2 (.int .i64 0) := ⟨fun w => by kernel_rfl⟩
instance : Und Tryd.prog 3 (.int .i64) := ⟨Tryd.underlying3⟩
instance : Sc Tryd.prog 3 := ⟨fun w => by kernel_rfl⟩
instance : Sz Tryd.prog 3 1 := ⟨fun w => by kernel_rfl⟩
instance : Zr Tryd.prog 3 (.int .i64 0) := ⟨fun w => by kernel_rfl⟩
instance : Und Tryd.prog 4 .bool := ⟨Tryd.underlying4⟩
instance : Sc Tryd.prog 4 := ⟨fun w => by kernel_rfl⟩
instance : Sz Tryd.prog 4 1 := ⟨fun w => by kernel_rfl⟩
instance : Zr Tryd.prog 4 (.bool false) := ⟨fun w => by kernel_rfl⟩
instance : Und Tryd.prog 5 (.int .u8) := ⟨Tryd.underlying5⟩
instance : Sc Tryd.prog 5 := ⟨fun w => by kernel_rfl⟩
instance : Sz Tryd.prog 5 1 := ⟨fun w => by kernel_rfl⟩
instance : Zr Tryd.prog 5 (.int .u8 0) := ⟨fun w => by kernel_rfl⟩
instance : Und Tryd.prog 9 .string := ⟨Tryd.underlying9⟩
instance : Sc Tryd.prog 9 := ⟨fun w => by kernel_rfl⟩
instance : Sz Tryd.prog 9 1 := ⟨fun w => by kernel_rfl⟩
instance : Zr Tryd.prog 9 (.string ByteArray.empty) := ⟨fun w => by kernel_rfl⟩
instance : Und Tryd.prog 21 (.int .i32) := ⟨Tryd.underlying21⟩
instance : Sc Tryd.prog 21 := ⟨fun w => by kernel_rfl⟩
instance : Sz Tryd.prog 21 1 := ⟨fun w => by kernel_rfl⟩
instance : Zr Tryd.prog 21 (.int .i32 0) := ⟨fun w => by kernel_rfl⟩
instance : Ag Tryd.prog 23 3 := ⟨fun w => by kernel_rfl, fun w => by kernel_rfl⟩
instance : Sz Tryd.prog 23 3 := ⟨fun w => by kernel_rfl⟩
instance : Zr Tryd.prog 23 (.agg #[.int .i64 0, .int .i64 0, .int .i64 0]) := ⟨fun w => by kernel_rfl⟩
instance : Fl Tryd.prog 23 0 0 := ⟨fun b o w => by kernel_rfl⟩
instance : Fl Tryd.prog 23 1 1 := ⟨fun b o w => by kernel_rfl⟩
instance : Fl Tryd.prog 23 2 2 := ⟨fun b o w => by kernel_rfl⟩
instance : Und Tryd.prog 25 (.array 64 23) := ⟨Tryd.underlying25⟩
instance : Ag Tryd.prog 25 192 := ⟨fun w => by kernel_rfl, fun w => by kernel_rfl⟩
instance : Sz Tryd.prog 25 192 := ⟨fun w => by kernel_rfl⟩
instance : Und Tryd.prog 26 (.slice 3) := ⟨Tryd.underlying26⟩
instance : Sc Tryd.prog 26 := ⟨fun w => by kernel_rfl⟩
instance : Sz Tryd.prog 26 1 := ⟨fun w => by kernel_rfl⟩
instance : Zr Tryd.prog 26 (.slice none 0 0) := ⟨fun w => by kernel_rfl⟩
instance : El Tryd.prog 3 1 8 := elOf (z := .int .i64 0) (by kernel_rfl) (by rfl) (by omega)
instance : Ag Tryd.prog 28 2 := ⟨fun w => by kernel_rfl, fun w => by kernel_rfl⟩
instance : Sz Tryd.prog 28 2 := ⟨fun w => by kernel_rfl⟩
instance : Zr Tryd.prog 28 (.agg #[.slice none 0 0, .slice none 0 0]) := ⟨fun w => by kernel_rfl⟩
instance : Fl Tryd.prog 28 0 0 := ⟨fun b o w => by kernel_rfl⟩
instance : Fl Tryd.prog 28 1 1 := ⟨fun b o w => by kernel_rfl⟩
instance : Ag Tryd.prog 30 196 := ⟨fun w => by kernel_rfl, fun w => by kernel_rfl⟩
instance : Sz Tryd.prog 30 196 := ⟨fun w => by kernel_rfl⟩
instance : Fl Tryd.prog 30 0 0 := ⟨fun b o w => by kernel_rfl⟩
instance : Fl Tryd.prog 30 1 192 := ⟨fun b o w => by kernel_rfl⟩
instance : Fl Tryd.prog 30 2 194 := ⟨fun b o w => by kernel_rfl⟩
instance : Fl Tryd.prog 30 3 195 := ⟨fun b o w => by kernel_rfl⟩
instance : Und Tryd.prog 32 (.slice 39) := ⟨Tryd.underlying32⟩
instance : Sc Tryd.prog 32 := ⟨fun w => by kernel_rfl⟩
instance : Sz Tryd.prog 32 1 := ⟨fun w => by kernel_rfl⟩
instance : Zr Tryd.prog 32 (.slice none 0 0) := ⟨fun w => by kernel_rfl⟩
instance : El Tryd.prog 39 2 16 := elOf (z := .agg #[.int .i64 0, .int .i64 0]) (by kernel_rfl) (by rfl) (by omega)
instance : Und Tryd.prog 33 (.int .i64) := ⟨Tryd.underlying33⟩
instance : Sc Tryd.prog 33 := ⟨fun w => by kernel_rfl⟩
instance : Sz Tryd.prog 33 1 := ⟨fun w => by kernel_rfl⟩
instance : Zr Tryd.prog 33 (.int .i64 0) := ⟨fun w => by kernel_rfl⟩
instance : Und Tryd.prog 37 (.map 3 3) := ⟨Tryd.underlying37⟩
instance : Sc Tryd.prog 37 := ⟨fun w => by kernel_rfl⟩
instance : Sz Tryd.prog 37 1 := ⟨fun w => by kernel_rfl⟩
instance : Zr Tryd.prog 37 (.map none) := ⟨fun w => by kernel_rfl⟩
instance : Ag Tryd.prog 39 2 := ⟨fun w => by kernel_rfl, fun w => by kernel_rfl⟩
instance : Sz Tryd.prog 39 2 := ⟨fun w => by kernel_rfl⟩
instance : Zr Tryd.prog 39 (.agg #[.int .i64 0, .int .i64 0]) := ⟨fun w => by kernel_rfl⟩
instance : Fl Tryd.prog 39 0 0 := ⟨fun b o w => by kernel_rfl⟩
instance : Fl Tryd.prog 39 1 1 := ⟨fun b o w => by kernel_rfl⟩
instance : Ag Tryd.prog 43 2 := ⟨fun w => by kernel_rfl, fun w => by kernel_rfl⟩
instance : Sz Tryd.prog 43 2 := ⟨fun w => by kernel_rfl⟩
instance : Zr Tryd.prog 43 (.agg #[.int .i64 0, .int .i64 0]) := ⟨fun w => by kernel_rfl⟩
instance : Fl Tryd.prog 43 0 0 := ⟨fun b o w => by kernel_rfl⟩
instance : Fl Tryd.prog 43 1 1 := ⟨fun b o w => by kernel_rfl⟩
instance : Und Tryd.prog 51 (.int .u64) := ⟨Tryd.underlying51⟩
instance : Sc Tryd.prog 51 := ⟨fun w => by kernel_rfl⟩
instance : Sz Tryd.prog 51 1 := ⟨fun w => by kernel_rfl⟩
instance : Zr Tryd.prog 51 (.int .u64 0) := ⟨fun w => by kernel_rfl⟩
instance : Und Tryd.prog 58 (.slice 23) := ⟨Tryd.underlying58⟩
instance : Sc Tryd.prog 58 := ⟨fun w => by kernel_rfl⟩
instance : Sz Tryd.prog 58 1 := ⟨fun w => by kernel_rfl⟩
instance : Zr Tryd.prog 58 (.slice none 0 0) := ⟨fun w => by kernel_rfl⟩
instance : El Tryd.prog 23 3 24 := elOf (z := .agg #[.int .i64 0, .int .i64 0, .int .i64 0]) (by kernel_rfl) (by rfl) (by omega)
instance : Und Tryd.prog 61 (.int .u32) := ⟨Tryd.underlying61⟩
instance : Sc Tryd.prog 61 := ⟨fun w => by kernel_rfl⟩
instance : Sz Tryd.prog 61 1 := ⟨fun w => by kernel_rfl⟩
instance : Zr Tryd.prog 61 (.int .u32 0) := ⟨fun w => by kernel_rfl⟩
instance : Sc Tryd.prog 71 := ⟨fun w => by kernel_rfl⟩
instance : Sz Tryd.prog 71 1 := ⟨fun w => by kernel_rfl⟩
instance : Zr Tryd.prog 71 (.nilIface) := ⟨fun w => by kernel_rfl⟩
instance : Und Tryd.prog 84 (.int .u64) := ⟨Tryd.underlying84⟩
instance : Sc Tryd.prog 84 := ⟨fun w => by kernel_rfl⟩
instance : Sz Tryd.prog 84 1 := ⟨fun w => by kernel_rfl⟩
instance : Zr Tryd.prog 84 (.int .u64 0) := ⟨fun w => by kernel_rfl⟩
instance : Und Tryd.prog 90 (.int .i64) := ⟨Tryd.underlying90⟩
instance : Sc Tryd.prog 90 := ⟨fun w => by kernel_rfl⟩
instance : Sz Tryd.prog 90 1 := ⟨fun w => by kernel_rfl⟩
instance : Zr Tryd.prog 90 (.int .i64 0) := ⟨fun w => by kernel_rfl⟩
instance : Und Tryd.prog 102 (.int .i64) := ⟨Tryd.underlying102⟩
instance : Sc Tryd.prog 102 := ⟨fun w => by kernel_rfl⟩
instance : Sz Tryd.prog 102 1 := ⟨fun w => by kernel_rfl⟩
instance : Zr Tryd.prog 102 (.int .i64 0) := ⟨fun w => by kernel_rfl⟩
instance : Und Tryd.prog 103 (.slice 5) := ⟨Tryd.underlying103⟩
instance : Sc Tryd.prog 103 := ⟨fun w => by kernel_rfl⟩
instance : Sz Tryd.prog 103 1 := ⟨fun w => by kernel_rfl⟩
instance : Zr Tryd.prog 103 (.slice none 0 0) := ⟨fun w => by kernel_rfl⟩
instance : El Tryd.prog 5 1 1 := elOf (z := .int .u8 0) (by kernel_rfl) (by rfl) (by omega)
instance : Und Tryd.prog 106 (.pointer 126) := ⟨Tryd.underlying106⟩
instance : Sc Tryd.prog 106 := ⟨fun w => by kernel_rfl⟩
instance : Sz Tryd.prog 106 1 := ⟨fun w => by kernel_rfl⟩
instance : Zr Tryd.prog 106 (.pointer none) := ⟨fun w => by kernel_rfl⟩
instance : Und Tryd.prog 109 (.array 64 5) := ⟨Tryd.underlying109⟩
instance : Ag Tryd.prog 109 64 := ⟨fun w => by kernel_rfl, fun w => by kernel_rfl⟩
instance : Sz Tryd.prog 109 64 := ⟨fun w => by kernel_rfl⟩
instance : Und Tryd.prog 110 (.int .u64) := ⟨Tryd.underlying110⟩
instance : Sc Tryd.prog 110 := ⟨fun w => by kernel_rfl⟩
instance : Sz Tryd.prog 110 1 := ⟨fun w => by kernel_rfl⟩
instance : Zr Tryd.prog 110 (.int .u64 0) := ⟨fun w => by kernel_rfl⟩
instance : Und Tryd.prog 116 (.array 24 5) := ⟨Tryd.underlying116⟩
instance : Ag Tryd.prog 116 24 := ⟨fun w => by kernel_rfl, fun w => by kernel_rfl⟩
instance : Sz Tryd.prog 116 24 := ⟨fun w => by kernel_rfl⟩
instance : Zr Tryd.prog 116 (.agg #[.int .u8 0, .int .u8 0, .int .u8 0, .int .u8 0, .int .u8 0, .int .u8 0, .int .u8 0, .int .u8 0, .int .u8 0, .int .u8 0, .int .u8 0, .int .u8 0, .int .u8 0, .int .u8 0, .int .u8 0, .int .u8 0, .int .u8 0, .int .u8 0, .int .u8 0, .int .u8 0, .int .u8 0, .int .u8 0, .int .u8 0, .int .u8 0]) := ⟨fun w => by kernel_rfl⟩
instance : Ag Tryd.prog 126 3 := ⟨fun w => by kernel_rfl, fun w => by kernel_rfl⟩
instance : Sz Tryd.prog 126 3 := ⟨fun w => by kernel_rfl⟩
instance : Zr Tryd.prog 126 (.agg #[.string ByteArray.empty, .string ByteArray.empty, .nilIface]) := ⟨fun w => by kernel_rfl⟩
instance : Fl Tryd.prog 126 0 0 := ⟨fun b o w => by kernel_rfl⟩
instance : Fl Tryd.prog 126 1 1 := ⟨fun b o w => by kernel_rfl⟩
instance : Fl Tryd.prog 126 2 2 := ⟨fun b o w => by kernel_rfl⟩
instance : Und Tryd.prog 131 (.array 20 51) := ⟨Tryd.underlying131⟩
instance : Ag Tryd.prog 131 20 := ⟨fun w => by kernel_rfl, fun w => by kernel_rfl⟩
instance : Sz Tryd.prog 131 20 := ⟨fun w => by kernel_rfl⟩
instance : Zr Tryd.prog 131 (.agg #[.int .u64 0, .int .u64 0, .int .u64 0, .int .u64 0, .int .u64 0, .int .u64 0, .int .u64 0, .int .u64 0, .int .u64 0, .int .u64 0, .int .u64 0, .int .u64 0, .int .u64 0, .int .u64 0, .int .u64 0, .int .u64 0, .int .u64 0, .int .u64 0, .int .u64 0, .int .u64 0]) := ⟨fun w => by kernel_rfl⟩
instance : Und Tryd.prog 132 (.array 65 5) := ⟨Tryd.underlying132⟩
instance : Ag Tryd.prog 132 65 := ⟨fun w => by kernel_rfl, fun w => by kernel_rfl⟩
instance : Sz Tryd.prog 132 65 := ⟨fun w => by kernel_rfl⟩
instance : Und Tryd.prog 137 (.pointer 5) := ⟨Tryd.underlying137⟩
instance : Sc Tryd.prog 137 := ⟨fun w => by kernel_rfl⟩
instance : Sz Tryd.prog 137 1 := ⟨fun w => by kernel_rfl⟩
instance : Zr Tryd.prog 137 (.pointer none) := ⟨fun w => by kernel_rfl⟩
instance : Und Tryd.prog 138 (.pointer 140) := ⟨Tryd.underlying138⟩
instance : Sc Tryd.prog 138 := ⟨fun w => by kernel_rfl⟩
instance : Sz Tryd.prog 138 1 := ⟨fun w => by kernel_rfl⟩
instance : Zr Tryd.prog 138 (.pointer none) := ⟨fun w => by kernel_rfl⟩
instance : Ag Tryd.prog 140 1 := ⟨fun w => by kernel_rfl, fun w => by kernel_rfl⟩
instance : Sz Tryd.prog 140 1 := ⟨fun w => by kernel_rfl⟩
instance : Zr Tryd.prog 140 (.agg #[.string ByteArray.empty]) := ⟨fun w => by kernel_rfl⟩
instance : Fl Tryd.prog 140 0 0 := ⟨fun b o w => by kernel_rfl⟩
instance : Und Tryd.prog 141 (.array 32 5) := ⟨Tryd.underlying141⟩
instance : Ag Tryd.prog 141 32 := ⟨fun w => by kernel_rfl, fun w => by kernel_rfl⟩
instance : Sz Tryd.prog 141 32 := ⟨fun w => by kernel_rfl⟩
instance : Zr Tryd.prog 141 (.agg #[.int .u8 0, .int .u8 0, .int .u8 0, .int .u8 0, .int .u8 0, .int .u8 0, .int .u8 0, .int .u8 0, .int .u8 0, .int .u8 0, .int .u8 0, .int .u8 0, .int .u8 0, .int .u8 0, .int .u8 0, .int .u8 0, .int .u8 0, .int .u8 0, .int .u8 0, .int .u8 0, .int .u8 0, .int .u8 0, .int .u8 0, .int .u8 0, .int .u8 0, .int .u8 0, .int .u8 0, .int .u8 0, .int .u8 0, .int .u8 0, .int .u8 0, .int .u8 0]) := ⟨fun w => by kernel_rfl⟩
instance : KeyT Tryd.prog 3 Int (fun x => .int .i64 x) := KeyT.int Tryd.underlying3
instance : Mixed Tryd.prog := ⟨by kernel_rfl⟩
instance : Opn Tryd.prog 2 Int (fun x => [.int .i64 x]) inI64 := opnI64 Tryd.underlying2
instance : Opn Tryd.prog 3 Int (fun x => [.int .i64 x]) inI64 := opnI64 Tryd.underlying3
instance : Opn Tryd.prog 4 Bool (fun x => [.bool x]) (fun _ => True) := opnBool Tryd.underlying4
instance : Opn Tryd.prog 5 Int (fun x => [.int .u8 x]) inU8 := opnU8 Tryd.underlying5
instance : Opn Tryd.prog 9 ByteArray (fun x => [.string x]) (fun x => x.size ≤ maxLen) := opnStr Tryd.underlying9
instance : Opn Tryd.prog 33 Int (fun x => [.int .i64 x]) inI64 := opnI64 Tryd.underlying33
instance : Opn Tryd.prog 51 Int (fun x => [.int .u64 x]) inU64 := opnU64 Tryd.underlying51
instance : Opn Tryd.prog 84 Int (fun x => [.int .u64 x]) inU64 := opnU64 Tryd.underlying84
instance : Opn Tryd.prog 90 Int (fun x => [.int .i64 x]) inI64 := opnI64 Tryd.underlying90
instance : Opn Tryd.prog 102 Int (fun x => [.int .i64 x]) inI64 := opnI64 Tryd.underlying102
instance : Opn Tryd.prog 110 Int (fun x => [.int .u64 x]) inU64 := opnU64 Tryd.underlying110
structure ApiEntry where
  Who : Int
  Base : Int
  Since : Int
deriving DecidableEq
theorem iff_ApiEntry (x y : ApiEntry) : x = y ↔ x.Who = y.Who ∧ x.Base = y.Base ∧ x.Since = y.Since := by cases x; cases y; simp
abbrev cvApiEntry (x : ApiEntry) : List Value := [.int .i64 x.Who, .int .i64 x.Base, .int .i64 x.Since]
abbrev avApiEntry (x : ApiEntry) : Value := .agg #[.int .i64 x.Who, .int .i64 x.Base, .int .i64 x.Since]
instance : GetF cvApiEntry 0 (fun x => .int .i64 x.Who) := ⟨fun _ => rfl⟩
instance : GetF cvApiEntry 1 (fun x => .int .i64 x.Base) := ⟨fun _ => rfl⟩
instance : GetF cvApiEntry 2 (fun x => .int .i64 x.Since) := ⟨fun _ => rfl⟩
instance : ElT Tryd.prog 23 ApiEntry 3 cvApiEntry avApiEntry := ElT.agg inferInstance (fun _ => rfl) (fun x y hy => by simp at hy; rcases hy with rfl | rfl | rfl <;> rfl)
instance (x1 : Int) (x2 : Int) (x3 : Int) : Cvt cvApiEntry [.int .i64 x1, .int .i64 x2, .int .i64 x3] ⟨x1, x2, x3⟩ := ⟨rfl⟩
instance (x1 : Int) (x2 : Int) (x3 : Int) : Vvt avApiEntry (.agg #[.int .i64 x1, .int .i64 x2, .int .i64 x3]) ⟨x1, x2, x3⟩ := ⟨rfl⟩
instance (x1 : Int) (x2 : Int) (x3 : Int) : Kvt avApiEntry (.agg #[.int .i64 x1, .int .i64 x2, .int .i64 x3]) ⟨x1, x2, x3⟩ := ⟨rfl⟩
instance (priority := high) (x : ApiEntry) : Cvt cvApiEntry (cvApiEntry x) x := ⟨rfl⟩
instance (priority := high) (x : ApiEntry) : Vvt avApiEntry (avApiEntry x) x := ⟨rfl⟩
instance (priority := high) (x : ApiEntry) : Kvt avApiEntry (avApiEntry x) x := ⟨rfl⟩
def okApiEntry (x : ApiEntry) : Prop := inI64 x.Who ∧ inI64 x.Base ∧ inI64 x.Since
instance : Opn Tryd.prog 23 ApiEntry cvApiEntry okApiEntry := ⟨fun {_ _ _ _ _ _ _ cs _} h => by
  obtain ⟨xs, n, rfl, _, hl, hx, hf⟩ := DataW.trod_struct Tryd.underlying23 h
  rw [show Tryd.prog.cellsOf 23 = 3 by kernel_rfl] at hl
  replace hx : xs.length = 3 := hx
  obtain ⟨_, h0⟩ := field_data hf 0 3 0 1 rfl (by kernel_rfl) (by rw [hx]; decide)
  obtain ⟨y0, e0, k0⟩ := Opn.out (P := Tryd.prog) (t := 3) h0
  obtain ⟨_, h1⟩ := field_data hf 1 3 1 1 rfl (by kernel_rfl) (by rw [hx]; decide)
  obtain ⟨y1, e1, k1⟩ := Opn.out (P := Tryd.prog) (t := 3) h1
  obtain ⟨_, h2⟩ := field_data hf 2 3 2 1 rfl (by kernel_rfl) (by rw [hx]; decide)
  obtain ⟨y2, e2, k2⟩ := Opn.out (P := Tryd.prog) (t := 3) h2
  refine ⟨⟨y0, y1, y2⟩, ?_, k0, k1, k2⟩
  match cs, hl with
  | [c0, c1, c2], _ =>
    replace e0 : [c0] = _ := e0
    replace e1 : [c1] = _ := e1
    replace e2 : [c2] = _ := e2
    show [c0] ++ [c1] ++ [c2] = _
    rw [e0, e1, e2]
    rfl⟩
instance : ElT Tryd.prog 3 Int 1 (fun x => [.int .i64 x]) (fun x => .int .i64 x) := ElT.sc inferInstance (fun _ => rfl)
structure ApiSeat where
  Who : Int
  Slot : Int
deriving DecidableEq
theorem iff_ApiSeat (x y : ApiSeat) : x = y ↔ x.Who = y.Who ∧ x.Slot = y.Slot := by cases x; cases y; simp
abbrev cvApiSeat (x : ApiSeat) : List Value := [.int .i64 x.Who, .int .i64 x.Slot]
abbrev avApiSeat (x : ApiSeat) : Value := .agg #[.int .i64 x.Who, .int .i64 x.Slot]
instance : GetF cvApiSeat 0 (fun x => .int .i64 x.Who) := ⟨fun _ => rfl⟩
instance : GetF cvApiSeat 1 (fun x => .int .i64 x.Slot) := ⟨fun _ => rfl⟩
instance : ElT Tryd.prog 39 ApiSeat 2 cvApiSeat avApiSeat := ElT.agg inferInstance (fun _ => rfl) (fun x y hy => by simp at hy; rcases hy with rfl | rfl <;> rfl)
instance (x1 : Int) (x2 : Int) : Cvt cvApiSeat [.int .i64 x1, .int .i64 x2] ⟨x1, x2⟩ := ⟨rfl⟩
instance (x1 : Int) (x2 : Int) : Vvt avApiSeat (.agg #[.int .i64 x1, .int .i64 x2]) ⟨x1, x2⟩ := ⟨rfl⟩
instance (x1 : Int) (x2 : Int) : Kvt avApiSeat (.agg #[.int .i64 x1, .int .i64 x2]) ⟨x1, x2⟩ := ⟨rfl⟩
instance (priority := high) (x : ApiSeat) : Cvt cvApiSeat (cvApiSeat x) x := ⟨rfl⟩
instance (priority := high) (x : ApiSeat) : Vvt avApiSeat (avApiSeat x) x := ⟨rfl⟩
instance (priority := high) (x : ApiSeat) : Kvt avApiSeat (avApiSeat x) x := ⟨rfl⟩
def okApiSeat (x : ApiSeat) : Prop := inI64 x.Who ∧ inI64 x.Slot
instance : Opn Tryd.prog 39 ApiSeat cvApiSeat okApiSeat := ⟨fun {_ _ _ _ _ _ _ cs _} h => by
  obtain ⟨xs, n, rfl, _, hl, hx, hf⟩ := DataW.trod_struct Tryd.underlying39 h
  rw [show Tryd.prog.cellsOf 39 = 2 by kernel_rfl] at hl
  replace hx : xs.length = 2 := hx
  obtain ⟨_, h0⟩ := field_data hf 0 3 0 1 rfl (by kernel_rfl) (by rw [hx]; decide)
  obtain ⟨y0, e0, k0⟩ := Opn.out (P := Tryd.prog) (t := 3) h0
  obtain ⟨_, h1⟩ := field_data hf 1 3 1 1 rfl (by kernel_rfl) (by rw [hx]; decide)
  obtain ⟨y1, e1, k1⟩ := Opn.out (P := Tryd.prog) (t := 3) h1
  refine ⟨⟨y0, y1⟩, ?_, k0, k1⟩
  match cs, hl with
  | [c0, c1], _ =>
    replace e0 : [c0] = _ := e0
    replace e1 : [c1] = _ := e1
    show [c0] ++ [c1] = _
    rw [e0, e1]
    rfl⟩
instance : ElT Tryd.prog 5 Int 1 (fun x => [.int .u8 x]) (fun x => .int .u8 x) := ElT.sc inferInstance (fun _ => rfl)
instance : ElT Tryd.prog 51 Int 1 (fun x => [.int .u64 x]) (fun x => .int .u64 x) := ElT.sc inferInstance (fun _ => rfl)
instance : PtE Tryd.prog 5 Int 1 (fun x : Int => [Value.int .u8 x]) (fun x : Int => Value.int .u8 x) := PtE.sc (f := (fun x : Int => Value.int .u8 x)) inferInstance
instance : PtE Tryd.prog 23 ApiEntry 3 cvApiEntry avApiEntry := PtE.agg (fun _ => rfl) inferInstance
instance : PtE Tryd.prog 51 Int 1 (fun x : Int => [Value.int .u64 x]) (fun x : Int => Value.int .u64 x) := PtE.sc (f := (fun x : Int => Value.int .u64 x)) inferInstance
instance : ZrA Tryd.prog 25 64 23 ApiEntry 3 cvApiEntry (⟨0, 0, 0⟩) := ⟨Tryd.underlying25, fun w => by kernel_rfl, by decide⟩
instance : BA Tryd.prog 25 [] (cvs cvApiEntry (List.replicate 64 (⟨0, 0, 0⟩ : ApiEntry))).toArray := ⟨fun w => by kernel_rfl⟩
instance : ZrA Tryd.prog 109 64 5 Int 1 (fun x : Int => [Value.int .u8 x]) (0) := ⟨Tryd.underlying109, fun w => by kernel_rfl, by decide⟩
instance : ZrA Tryd.prog 116 24 5 Int 1 (fun x : Int => [Value.int .u8 x]) (0) := ⟨Tryd.underlying116, fun w => by kernel_rfl, by decide⟩
instance : ZrA Tryd.prog 131 20 51 Int 1 (fun x : Int => [Value.int .u64 x]) (0) := ⟨Tryd.underlying131, fun w => by kernel_rfl, by decide⟩
instance : ZrA Tryd.prog 132 65 5 Int 1 (fun x : Int => [Value.int .u8 x]) (0) := ⟨Tryd.underlying132, fun w => by kernel_rfl, by decide⟩
instance : ZrA Tryd.prog 141 32 5 Int 1 (fun x : Int => [Value.int .u8 x]) (0) := ⟨Tryd.underlying141, fun w => by kernel_rfl, by decide⟩
instance  : BA Tryd.prog 23 [] #[.int .i64 0, .int .i64 0, .int .i64 0] := ⟨fun w => by kernel_rfl⟩
instance (x1 : Int) (x2 : Int) (x3 : Int) : BA Tryd.prog 23 [(0, .int .i64 x1), (1, .int .i64 x2), (2, .int .i64 x3)] #[.int .i64 x1, .int .i64 x2, .int .i64 x3] := ⟨fun w => by kernel_rfl⟩
instance (x1 : Value) [IsSl x1] (x2 : Value) [IsSl x2] : BA Tryd.prog 28 [(0, x1), (1, x2)] #[x1, x2] := ⟨fun w => by obtain ⟨_, _, _, rfl⟩ := IsSl.out (v := x1); obtain ⟨_, _, _, rfl⟩ := IsSl.out (v := x2); kernel_rfl⟩
instance (x1 : Int) (x2 : Int) : BA Tryd.prog 39 [(0, .int .i64 x1), (1, .int .i64 x2)] #[.int .i64 x1, .int .i64 x2] := ⟨fun w => by kernel_rfl⟩
instance  : BA Tryd.prog 43 [] #[.int .i64 0, .int .i64 0] := ⟨fun w => by kernel_rfl⟩
instance (x1 : Int) (x2 : Int) : BA Tryd.prog 43 [(0, .int .i64 x1), (1, .int .i64 x2)] #[.int .i64 x1, .int .i64 x2] := ⟨fun w => by kernel_rfl⟩
instance (x1 : Int) (x2 : Int) (x3 : Int) (x4 : Int) (x5 : Int) (x6 : Int) (x7 : Int) (x8 : Int) (x9 : Int) (x10 : Int) (x11 : Int) (x12 : Int) (x13 : Int) (x14 : Int) (x15 : Int) (x16 : Int) (x17 : Int) (x18 : Int) (x19 : Int) (x20 : Int) : BA Tryd.prog 131 [(0, .int .u64 x1), (1, .int .u64 x2), (2, .int .u64 x3), (3, .int .u64 x4), (4, .int .u64 x5), (5, .int .u64 x6), (6, .int .u64 x7), (7, .int .u64 x8), (8, .int .u64 x9), (9, .int .u64 x10), (10, .int .u64 x11), (11, .int .u64 x12), (12, .int .u64 x13), (13, .int .u64 x14), (14, .int .u64 x15), (15, .int .u64 x16), (16, .int .u64 x17), (17, .int .u64 x18), (18, .int .u64 x19), (19, .int .u64 x20)] #[.int .u64 x1, .int .u64 x2, .int .u64 x3, .int .u64 x4, .int .u64 x5, .int .u64 x6, .int .u64 x7, .int .u64 x8, .int .u64 x9, .int .u64 x10, .int .u64 x11, .int .u64 x12, .int .u64 x13, .int .u64 x14, .int .u64 x15, .int .u64 x16, .int .u64 x17, .int .u64 x18, .int .u64 x19, .int .u64 x20] := ⟨fun w => by kernel_rfl⟩
instance (x1 : ByteArray) : BA Tryd.prog 140 [(0, .string x1)] #[.string x1] := ⟨fun w => by kernel_rfl⟩
instance (x1 : Int) (x2 : Int) (x3 : Int) (x4 : Int) (x5 : Int) (x6 : Int) (x7 : Int) (x8 : Int) (x9 : Int) (x10 : Int) (x11 : Int) (x12 : Int) (x13 : Int) (x14 : Int) (x15 : Int) (x16 : Int) (x17 : Int) (x18 : Int) (x19 : Int) (x20 : Int) (x21 : Int) (x22 : Int) (x23 : Int) (x24 : Int) (x25 : Int) (x26 : Int) (x27 : Int) (x28 : Int) (x29 : Int) (x30 : Int) (x31 : Int) (x32 : Int) : BA Tryd.prog 141 [(0, .int .u8 x1), (1, .int .u8 x2), (2, .int .u8 x3), (3, .int .u8 x4), (4, .int .u8 x5), (5, .int .u8 x6), (6, .int .u8 x7), (7, .int .u8 x8), (8, .int .u8 x9), (9, .int .u8 x10), (10, .int .u8 x11), (11, .int .u8 x12), (12, .int .u8 x13), (13, .int .u8 x14), (14, .int .u8 x15), (15, .int .u8 x16), (16, .int .u8 x17), (17, .int .u8 x18), (18, .int .u8 x19), (19, .int .u8 x20), (20, .int .u8 x21), (21, .int .u8 x22), (22, .int .u8 x23), (23, .int .u8 x24), (24, .int .u8 x25), (25, .int .u8 x26), (26, .int .u8 x27), (27, .int .u8 x28), (28, .int .u8 x29), (29, .int .u8 x30), (30, .int .u8 x31), (31, .int .u8 x32)] #[.int .u8 x1, .int .u8 x2, .int .u8 x3, .int .u8 x4, .int .u8 x5, .int .u8 x6, .int .u8 x7, .int .u8 x8, .int .u8 x9, .int .u8 x10, .int .u8 x11, .int .u8 x12, .int .u8 x13, .int .u8 x14, .int .u8 x15, .int .u8 x16, .int .u8 x17, .int .u8 x18, .int .u8 x19, .int .u8 x20, .int .u8 x21, .int .u8 x22, .int .u8 x23, .int .u8 x24, .int .u8 x25, .int .u8 x26, .int .u8 x27, .int .u8 x28, .int .u8 x29, .int .u8 x30, .int .u8 x31, .int .u8 x32] := ⟨fun w => by kernel_rfl⟩
instance (x1 : Int) : BS Tryd.prog 26 1 [(0, .int .i64 x1)] #[.int .i64 x1] 3 := ⟨fun w => by kernel_rfl⟩
instance (x1 : Int) (x2 : Int) : BS Tryd.prog 26 2 [(0, .int .i64 x1), (1, .int .i64 x2)] #[.int .i64 x1, .int .i64 x2] 3 := ⟨fun w => by kernel_rfl⟩
instance (x1 : Int) (x2 : Int) : BS Tryd.prog 32 1 [(0, .agg #[.int .i64 x1, .int .i64 x2])] #[.int .i64 x1, .int .i64 x2] 39 := ⟨fun w => by kernel_rfl⟩
theorem eqS23 (d : Nat) (x1 : Int) (x2 : Int) (x3 : Int) (x4 : Int) (x5 : Int) (x6 : Int) : EqV Tryd.prog (d + 2) 23 (.agg #[.int .i64 x1, .int .i64 x2, .int .i64 x3]) (.agg #[.int .i64 x4, .int .i64 x5, .int .i64 x6]) (x1 = x4 ∧ x2 = x5 ∧ x3 = x6) := eqvStruct Tryd.underlying23 (by kernel_rfl) (eqfCons (by rfl) (fun w => by kernel_rfl) (fun w => by kernel_rfl) (eqvInt Tryd.underlying3) (eqfCons (by rfl) (fun w => by kernel_rfl) (fun w => by kernel_rfl) (eqvInt Tryd.underlying3) (eqfLast (by rfl) (fun w => by kernel_rfl) (fun w => by kernel_rfl) (eqvInt Tryd.underlying3))))
instance (x1 : Int) (x2 : Int) (x3 : Int) (x4 : Int) (x5 : Int) (x6 : Int) : Bin Tryd.prog .eql 23 (.agg #[.int .i64 x1, .int .i64 x2, .int .i64 x3]) (.agg #[.int .i64 x4, .int .i64 x5, .int .i64 x6]) (.bool (decide (x1 = x4 ∧ x2 = x5 ∧ x3 = x6))) := binEq (by kernel_rfl) (eqS23 9998 x1 x2 x3 x4 x5 x6)
instance (x1 : Int) (x2 : Int) (x3 : Int) (x4 : Int) (x5 : Int) (x6 : Int) : Bin Tryd.prog .neq 23 (.agg #[.int .i64 x1, .int .i64 x2, .int .i64 x3]) (.agg #[.int .i64 x4, .int .i64 x5, .int .i64 x6]) (.bool (decide ¬ (x1 = x4 ∧ x2 = x5 ∧ x3 = x6))) := binNe (by kernel_rfl) (eqS23 9998 x1 x2 x3 x4 x5 x6)
theorem eqS43 (d : Nat) (x1 : Int) (x2 : Int) (x3 : Int) (x4 : Int) : EqV Tryd.prog (d + 2) 43 (.agg #[.int .i64 x1, .int .i64 x2]) (.agg #[.int .i64 x3, .int .i64 x4]) (x1 = x3 ∧ x2 = x4) := eqvStruct Tryd.underlying43 (by kernel_rfl) (eqfCons (by rfl) (fun w => by kernel_rfl) (fun w => by kernel_rfl) (eqvInt Tryd.underlying3) (eqfLast (by rfl) (fun w => by kernel_rfl) (fun w => by kernel_rfl) (eqvInt Tryd.underlying3)))
instance (x1 : Int) (x2 : Int) (x3 : Int) (x4 : Int) : Bin Tryd.prog .eql 43 (.agg #[.int .i64 x1, .int .i64 x2]) (.agg #[.int .i64 x3, .int .i64 x4]) (.bool (decide (x1 = x3 ∧ x2 = x4))) := binEq (by kernel_rfl) (eqS43 9998 x1 x2 x3 x4)
instance (x1 : Int) (x2 : Int) (x3 : Int) (x4 : Int) : Bin Tryd.prog .neq 43 (.agg #[.int .i64 x1, .int .i64 x2]) (.agg #[.int .i64 x3, .int .i64 x4]) (.bool (decide ¬ (x1 = x3 ∧ x2 = x4))) := binNe (by kernel_rfl) (eqS43 9998 x1 x2 x3 x4)
instance (l l' : List ApiEntry) [h1 : LenIs l 64] [h2 : LenIs l' 64] : Bin Tryd.prog .eql 25 (.agg (cvs cvApiEntry l).toArray) (.agg (cvs cvApiEntry l').toArray) (.bool (decide (l = l'))) := binEq (by kernel_rfl) (eqvArr (d := 9999) (sz := 3) Tryd.underlying25 (by kernel_rfl) (by kernel_rfl) (av := avApiEntry) inferInstance (fun x y => EqV.iff (eqS23 9997 x.Who x.Base x.Since y.Who y.Base y.Since) (iff_ApiEntry x y).symm) l l' h1.out h2.out)
instance (l l' : List ApiEntry) [h1 : LenIs l 64] [h2 : LenIs l' 64] : Bin Tryd.prog .neq 25 (.agg (cvs cvApiEntry l).toArray) (.agg (cvs cvApiEntry l').toArray) (.bool (decide (¬ l = l'))) := binNe (by kernel_rfl) (eqvArr (d := 9999) (sz := 3) Tryd.underlying25 (by kernel_rfl) (by kernel_rfl) (av := avApiEntry) inferInstance (fun x y => EqV.iff (eqS23 9997 x.Who x.Base x.Since y.Who y.Base y.Since) (iff_ApiEntry x y).symm) l l' h1.out h2.out)
instance : NotI Tryd.prog 9 := ⟨fun v w => by kernel_rfl⟩
instance : NotI Tryd.prog 102 := ⟨fun v w => by kernel_rfl⟩
instance : NotI Tryd.prog 106 := ⟨fun v w => by kernel_rfl⟩
instance : NotI Tryd.prog 138 := ⟨fun v w => by kernel_rfl⟩
instance : Fn1 Tryd.prog 5 := ⟨fun args w => by kernel_rfl⟩
instance : Fn1 Tryd.prog 6 := ⟨fun args w => by kernel_rfl⟩
instance : Fn1 Tryd.prog 7 := ⟨fun args w => by kernel_rfl⟩
instance : Fn1 Tryd.prog 8 := ⟨fun args w => by kernel_rfl⟩
instance : Fn1 Tryd.prog 9 := ⟨fun args w => by kernel_rfl⟩
instance : Fn1 Tryd.prog 10 := ⟨fun args w => by kernel_rfl⟩
instance : Fn1 Tryd.prog 11 := ⟨fun args w => by kernel_rfl⟩
instance : Fn1 Tryd.prog 12 := ⟨fun args w => by kernel_rfl⟩
instance : Fn1 Tryd.prog 13 := ⟨fun args w => by kernel_rfl⟩
instance : Fn1 Tryd.prog 14 := ⟨fun args w => by kernel_rfl⟩
instance : Fn1 Tryd.prog 15 := ⟨fun args w => by kernel_rfl⟩
instance : Fn1 Tryd.prog 16 := ⟨fun args w => by kernel_rfl⟩
instance : Fn1 Tryd.prog 17 := ⟨fun args w => by kernel_rfl⟩
instance : Fn1 Tryd.prog 18 := ⟨fun args w => by kernel_rfl⟩
instance : Fn1 Tryd.prog 19 := ⟨fun args w => by kernel_rfl⟩
instance : Fn1 Tryd.prog 20 := ⟨fun args w => by kernel_rfl⟩
instance : Fn1 Tryd.prog 21 := ⟨fun args w => by kernel_rfl⟩
instance : Fn1 Tryd.prog 22 := ⟨fun args w => by kernel_rfl⟩
instance : Fn1 Tryd.prog 23 := ⟨fun args w => by kernel_rfl⟩
instance : Fn1 Tryd.prog 24 := ⟨fun args w => by kernel_rfl⟩
instance : Fn1 Tryd.prog 25 := ⟨fun args w => by kernel_rfl⟩
instance : Fn1 Tryd.prog 26 := ⟨fun args w => by kernel_rfl⟩
instance : Fn1 Tryd.prog 27 := ⟨fun args w => by kernel_rfl⟩
instance : Fn1 Tryd.prog 28 := ⟨fun args w => by kernel_rfl⟩
instance : Fn1 Tryd.prog 29 := ⟨fun args w => by kernel_rfl⟩
instance : Fn1 Tryd.prog 30 := ⟨fun args w => by kernel_rfl⟩
instance : Fn1 Tryd.prog 31 := ⟨fun args w => by kernel_rfl⟩
instance : Fn1 Tryd.prog 32 := ⟨fun args w => by kernel_rfl⟩
instance : Fn1 Tryd.prog 33 := ⟨fun args w => by kernel_rfl⟩
instance : Fn1 Tryd.prog 34 := ⟨fun args w => by kernel_rfl⟩
instance : Fn1 Tryd.prog 35 := ⟨fun args w => by kernel_rfl⟩
instance : Fn1 Tryd.prog 36 := ⟨fun args w => by kernel_rfl⟩
instance : Fn1 Tryd.prog 37 := ⟨fun args w => by kernel_rfl⟩
instance : Fn1 Tryd.prog 38 := ⟨fun args w => by kernel_rfl⟩
instance : Fn1 Tryd.prog 39 := ⟨fun args w => by kernel_rfl⟩
instance : Fn1 Tryd.prog 40 := ⟨fun args w => by kernel_rfl⟩
instance : Fn1 Tryd.prog 41 := ⟨fun args w => by kernel_rfl⟩
instance : Fn1 Tryd.prog 42 := ⟨fun args w => by kernel_rfl⟩
instance : Fn1 Tryd.prog 43 := ⟨fun args w => by kernel_rfl⟩
instance : Fn1 Tryd.prog 44 := ⟨fun args w => by kernel_rfl⟩
instance : Fn1 Tryd.prog 45 := ⟨fun args w => by kernel_rfl⟩
instance : Fn1 Tryd.prog 46 := ⟨fun args w => by kernel_rfl⟩
instance : Fn1 Tryd.prog 47 := ⟨fun args w => by kernel_rfl⟩
instance : Fn1 Tryd.prog 48 := ⟨fun args w => by kernel_rfl⟩
instance : Fn1 Tryd.prog 49 := ⟨fun args w => by kernel_rfl⟩
instance : Fn1 Tryd.prog 50 := ⟨fun args w => by kernel_rfl⟩
instance : Fn1 Tryd.prog 51 := ⟨fun args w => by kernel_rfl⟩
instance : Fn1 Tryd.prog 52 := ⟨fun args w => by kernel_rfl⟩
instance : Fn1 Tryd.prog 53 := ⟨fun args w => by kernel_rfl⟩
instance : Fn1 Tryd.prog 54 := ⟨fun args w => by kernel_rfl⟩
instance : Fn1 Tryd.prog 55 := ⟨fun args w => by kernel_rfl⟩
instance : Fn1 Tryd.prog 56 := ⟨fun args w => by kernel_rfl⟩
instance : Fn1 Tryd.prog 57 := ⟨fun args w => by kernel_rfl⟩
instance : Fn1 Tryd.prog 58 := ⟨fun args w => by kernel_rfl⟩
instance : Fn1 Tryd.prog 59 := ⟨fun args w => by kernel_rfl⟩
instance : Fn1 Tryd.prog 60 := ⟨fun args w => by kernel_rfl⟩
instance : Fn1 Tryd.prog 61 := ⟨fun args w => by kernel_rfl⟩
instance : Fn1 Tryd.prog 62 := ⟨fun args w => by kernel_rfl⟩
instance : Fn1 Tryd.prog 63 := ⟨fun args w => by kernel_rfl⟩
instance : Fn1 Tryd.prog 64 := ⟨fun args w => by kernel_rfl⟩
instance : Fn1 Tryd.prog 65 := ⟨fun args w => by kernel_rfl⟩
instance : Fn1 Tryd.prog 66 := ⟨fun args w => by kernel_rfl⟩
instance : Fn1 Tryd.prog 67 := ⟨fun args w => by kernel_rfl⟩
instance : Fn1 Tryd.prog 68 := ⟨fun args w => by kernel_rfl⟩
instance : Fn1 Tryd.prog 69 := ⟨fun args w => by kernel_rfl⟩
instance : Fn1 Tryd.prog 70 := ⟨fun args w => by kernel_rfl⟩
instance : Fn1 Tryd.prog 71 := ⟨fun args w => by kernel_rfl⟩
instance : Fn1 Tryd.prog 72 := ⟨fun args w => by kernel_rfl⟩
instance : Fn1 Tryd.prog 73 := ⟨fun args w => by kernel_rfl⟩
instance : Fn1 Tryd.prog 74 := ⟨fun args w => by kernel_rfl⟩
instance : Fn1 Tryd.prog 75 := ⟨fun args w => by kernel_rfl⟩
instance : Fn1 Tryd.prog 76 := ⟨fun args w => by kernel_rfl⟩
instance : Fn1 Tryd.prog 77 := ⟨fun args w => by kernel_rfl⟩
instance : Fn1 Tryd.prog 78 := ⟨fun args w => by kernel_rfl⟩
instance : Fn1 Tryd.prog 80 := ⟨fun args w => by kernel_rfl⟩
instance : Fn1 Tryd.prog 81 := ⟨fun args w => by kernel_rfl⟩
instance : Fn1 Tryd.prog 82 := ⟨fun args w => by kernel_rfl⟩
instance : Fn1 Tryd.prog 83 := ⟨fun args w => by kernel_rfl⟩
instance : Fn1 Tryd.prog 84 := ⟨fun args w => by kernel_rfl⟩
instance : Fn1 Tryd.prog 85 := ⟨fun args w => by kernel_rfl⟩
instance : Fn1 Tryd.prog 86 := ⟨fun args w => by kernel_rfl⟩
instance : Fn1 Tryd.prog 87 := ⟨fun args w => by kernel_rfl⟩
instance : Fn1 Tryd.prog 88 := ⟨fun args w => by kernel_rfl⟩
instance : Fn1 Tryd.prog 89 := ⟨fun args w => by kernel_rfl⟩
instance : Fn1 Tryd.prog 91 := ⟨fun args w => by kernel_rfl⟩
instance : Fn1 Tryd.prog 92 := ⟨fun args w => by kernel_rfl⟩
instance : Fn1 Tryd.prog 93 := ⟨fun args w => by kernel_rfl⟩
instance : Fn1 Tryd.prog 94 := ⟨fun args w => by kernel_rfl⟩
end Go.Proofs.YtedemhmlaodblabDoor
