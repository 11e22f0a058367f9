/- What the symbolic execution asks of this program's types and functions, laid by a program of mine (gen_ty.py); each is proved by the kernel. -/
import Derived.Test.YtedemhmlaodblaaProg
import Derived.Test.YtedemhmlaodblaaSo
import Derived.Test.YtedemhmlaodblaaSr
import Derived.Test.YtedemhmlaodblaaPz
import Derived.KernelRfl
namespace Go.Proofs.Ytedemhmlaodblaa
open Go Go.SX
set_option linter.unusedVariables false
set_option linter.unusedSimpArgs false
set_option maxRecDepth 100000
instance : Und Try.prog 3 (.int .i64) := ⟨Try.underlying3⟩
instance : Sc Try.prog 3 := ⟨fun w => by kernel_rfl⟩
instance : Sz Try.prog 3 1 := ⟨fun w => by kernel_rfl⟩
instance : Zr Try.prog 3 (.int .i64 0) := ⟨fun w => by kernel_rfl⟩
instance : Und Try.prog 4 .bool := ⟨Try.underlying4⟩
instance : Sc Try.prog 4 := ⟨fun w => by kernel_rfl⟩
instance : Sz Try.prog 4 1 := ⟨fun w => by kernel_rfl⟩
instance : Zr Try.prog 4 (.bool false) := ⟨fun w => by kernel_rfl⟩
instance : Und Try.prog 5 (.int .u8) := ⟨Try.underlying5⟩
instance : Sc Try.prog 5 := ⟨fun w => by kernel_rfl⟩
instance : Sz Try.prog 5 1 := ⟨fun w => by kernel_rfl⟩
instance : Zr Try.prog 5 (.int .u8 0) := ⟨fun w => by kernel_rfl⟩
instance : Und Try.prog 9 .string := ⟨Try.underlying9⟩
instance : Sc Try.prog 9 := ⟨fun w => by kernel_rfl⟩
instance : Sz Try.prog 9 1 := ⟨fun w => by kernel_rfl⟩
instance : Zr Try.prog 9 (.string ByteArray.empty) := ⟨fun w => by kernel_rfl⟩
instance : Und Try.prog 22 (.slice 25) := ⟨Try.underlying22⟩
instance : Sc Try.prog 22 := ⟨fun w => by kernel_rfl⟩
instance : Sz Try.prog 22 1 := ⟨fun w => by kernel_rfl⟩
instance : Zr Try.prog 22 (.slice none 0 0) := ⟨fun w => by kernel_rfl⟩
instance : El Try.prog 25 2 16 := elOf (z := .agg #[.int .i64 0, .int .i64 0]) (by kernel_rfl) (by rfl) (by omega)
instance : Ag Try.prog 25 2 := ⟨fun w => by kernel_rfl, fun w => by kernel_rfl⟩
instance : Sz Try.prog 25 2 := ⟨fun w => by kernel_rfl⟩
instance : Zr Try.prog 25 (.agg #[.int .i64 0, .int .i64 0]) := ⟨fun w => by kernel_rfl⟩
instance : Fl Try.prog 25 0 0 := ⟨fun b o w => by kernel_rfl⟩
instance : Fl Try.prog 25 1 1 := ⟨fun b o w => by kernel_rfl⟩
instance : Und Try.prog 31 (.slice 38) := ⟨Try.underlying31⟩
instance : Sc Try.prog 31 := ⟨fun w => by kernel_rfl⟩
instance : Sz Try.prog 31 1 := ⟨fun w => by kernel_rfl⟩
instance : Zr Try.prog 31 (.slice none 0 0) := ⟨fun w => by kernel_rfl⟩
instance : El Try.prog 38 9 80 := elOf (z := .agg #[.int .i64 0, .int .i64 0, .int .i64 0, .int .i64 0, .int .i64 0, .int .i64 0, .int .i64 0, .int .i64 0, .string ByteArray.empty]) (by kernel_rfl) (by rfl) (by omega)
instance : Und Try.prog 32 (.map 38 3) := ⟨Try.underlying32⟩
instance : Sc Try.prog 32 := ⟨fun w => by kernel_rfl⟩
instance : Sz Try.prog 32 1 := ⟨fun w => by kernel_rfl⟩
instance : Zr Try.prog 32 (.map none) := ⟨fun w => by kernel_rfl⟩
instance : Ag Try.prog 34 4 := ⟨fun w => by kernel_rfl, fun w => by kernel_rfl⟩
instance : Sz Try.prog 34 4 := ⟨fun w => by kernel_rfl⟩
instance : Zr Try.prog 34 (.agg #[.int .i64 0, .int .i64 0, .int .i64 0, .int .i64 0]) := ⟨fun w => by kernel_rfl⟩
instance : Fl Try.prog 34 0 0 := ⟨fun b o w => by kernel_rfl⟩
instance : Fl Try.prog 34 1 2 := ⟨fun b o w => by kernel_rfl⟩
instance : Ag Try.prog 36 4 := ⟨fun w => by kernel_rfl, fun w => by kernel_rfl⟩
instance : Sz Try.prog 36 4 := ⟨fun w => by kernel_rfl⟩
instance : Zr Try.prog 36 (.agg #[.int .i64 0, .int .i64 0, .int .i64 0, .string ByteArray.empty]) := ⟨fun w => by kernel_rfl⟩
instance : Fl Try.prog 36 0 0 := ⟨fun b o w => by kernel_rfl⟩
instance : Fl Try.prog 36 1 1 := ⟨fun b o w => by kernel_rfl⟩
instance : Fl Try.prog 36 2 3 := ⟨fun b o w => by kernel_rfl⟩
instance : Ag Try.prog 38 9 := ⟨fun w => by kernel_rfl, fun w => by kernel_rfl⟩
instance : Sz Try.prog 38 9 := ⟨fun w => by kernel_rfl⟩
instance : Zr Try.prog 38 (.agg #[.int .i64 0, .int .i64 0, .int .i64 0, .int .i64 0, .int .i64 0, .int .i64 0, .int .i64 0, .int .i64 0, .string ByteArray.empty]) := ⟨fun w => by kernel_rfl⟩
instance : Fl Try.prog 38 0 0 := ⟨fun b o w => by kernel_rfl⟩
instance : Fl Try.prog 38 1 1 := ⟨fun b o w => by kernel_rfl⟩
instance : Fl Try.prog 38 2 5 := ⟨fun b o w => by kernel_rfl⟩
instance : Und Try.prog 39 (.pointer 81) := ⟨Try.underlying39⟩
instance : Sc Try.prog 39 := ⟨fun w => by kernel_rfl⟩
instance : Sz Try.prog 39 1 := ⟨fun w => by kernel_rfl⟩
instance : Zr Try.prog 39 (.pointer none) := ⟨fun w => by kernel_rfl⟩
instance : Und Try.prog 46 (.slice 34) := ⟨Try.underlying46⟩
instance : Sc Try.prog 46 := ⟨fun w => by kernel_rfl⟩
instance : Sz Try.prog 46 1 := ⟨fun w => by kernel_rfl⟩
instance : Zr Try.prog 46 (.slice none 0 0) := ⟨fun w => by kernel_rfl⟩
instance : El Try.prog 34 4 32 := elOf (z := .agg #[.int .i64 0, .int .i64 0, .int .i64 0, .int .i64 0]) (by kernel_rfl) (by rfl) (by omega)
instance : Und Try.prog 47 (.slice 36) := ⟨Try.underlying47⟩
instance : Sc Try.prog 47 := ⟨fun w => by kernel_rfl⟩
instance : Sz Try.prog 47 1 := ⟨fun w => by kernel_rfl⟩
instance : Zr Try.prog 47 (.slice none 0 0) := ⟨fun w => by kernel_rfl⟩
instance : El Try.prog 36 4 40 := elOf (z := .agg #[.int .i64 0, .int .i64 0, .int .i64 0, .string ByteArray.empty]) (by kernel_rfl) (by rfl) (by omega)
instance : Ag Try.prog 49 3 := ⟨fun w => by kernel_rfl, fun w => by kernel_rfl⟩
instance : Sz Try.prog 49 3 := ⟨fun w => by kernel_rfl⟩
instance : Zr Try.prog 49 (.agg #[.slice none 0 0, .slice none 0 0, .slice none 0 0]) := ⟨fun w => by kernel_rfl⟩
instance : Fl Try.prog 49 0 0 := ⟨fun b o w => by kernel_rfl⟩
instance : Fl Try.prog 49 1 1 := ⟨fun b o w => by kernel_rfl⟩
instance : Fl Try.prog 49 2 2 := ⟨fun b o w => by kernel_rfl⟩
instance : Und Try.prog 52 (.slice 3) := ⟨Try.underlying52⟩
instance : Sc Try.prog 52 := ⟨fun w => by kernel_rfl⟩
instance : Sz Try.prog 52 1 := ⟨fun w => by kernel_rfl⟩
instance : Zr Try.prog 52 (.slice none 0 0) := ⟨fun w => by kernel_rfl⟩
instance : El Try.prog 3 1 8 := elOf (z := .int .i64 0) (by kernel_rfl) (by rfl) (by omega)
instance : Und Try.prog 56 (.int .u64) := ⟨Try.underlying56⟩
instance : Sc Try.prog 56 := ⟨fun w => by kernel_rfl⟩
instance : Sz Try.prog 56 1 := ⟨fun w => by kernel_rfl⟩
instance : Zr Try.prog 56 (.int .u64 0) := ⟨fun w => by kernel_rfl⟩
instance : Und Try.prog 58 (.int .i64) := ⟨Try.underlying58⟩
instance : Sc Try.prog 58 := ⟨fun w => by kernel_rfl⟩
instance : Sz Try.prog 58 1 := ⟨fun w => by kernel_rfl⟩
instance : Zr Try.prog 58 (.int .i64 0) := ⟨fun w => by kernel_rfl⟩
instance : Und Try.prog 64 (.int .u32) := ⟨Try.underlying64⟩
instance : Sc Try.prog 64 := ⟨fun w => by kernel_rfl⟩
instance : Sz Try.prog 64 1 := ⟨fun w => by kernel_rfl⟩
instance : Zr Try.prog 64 (.int .u32 0) := ⟨fun w => by kernel_rfl⟩
instance : Und Try.prog 67 (.map 3 3) := ⟨Try.underlying67⟩
instance : Sc Try.prog 67 := ⟨fun w => by kernel_rfl⟩
instance : Sz Try.prog 67 1 := ⟨fun w => by kernel_rfl⟩
instance : Zr Try.prog 67 (.map none) := ⟨fun w => by kernel_rfl⟩
instance : Und Try.prog 69 (.map 25 3) := ⟨Try.underlying69⟩
instance : Sc Try.prog 69 := ⟨fun w => by kernel_rfl⟩
instance : Sz Try.prog 69 1 := ⟨fun w => by kernel_rfl⟩
instance : Zr Try.prog 69 (.map none) := ⟨fun w => by kernel_rfl⟩
instance : Und Try.prog 77 (.map 34 3) := ⟨Try.underlying77⟩
instance : Sc Try.prog 77 := ⟨fun w => by kernel_rfl⟩
instance : Sz Try.prog 77 1 := ⟨fun w => by kernel_rfl⟩
instance : Zr Try.prog 77 (.map none) := ⟨fun w => by kernel_rfl⟩
instance : Und Try.prog 78 (.map 36 3) := ⟨Try.underlying78⟩
instance : Sc Try.prog 78 := ⟨fun w => by kernel_rfl⟩
instance : Sz Try.prog 78 1 := ⟨fun w => by kernel_rfl⟩
instance : Zr Try.prog 78 (.map none) := ⟨fun w => by kernel_rfl⟩
instance : Und Try.prog 79 (.map 3 46) := ⟨Try.underlying79⟩
instance : Sc Try.prog 79 := ⟨fun w => by kernel_rfl⟩
instance : Sz Try.prog 79 1 := ⟨fun w => by kernel_rfl⟩
instance : Zr Try.prog 79 (.map none) := ⟨fun w => by kernel_rfl⟩
instance : Ag Try.prog 81 4 := ⟨fun w => by kernel_rfl, fun w => by kernel_rfl⟩
instance : Sz Try.prog 81 4 := ⟨fun w => by kernel_rfl⟩
instance : Zr Try.prog 81 (.agg #[.map none, .map none, .map none, .map none]) := ⟨fun w => by kernel_rfl⟩
instance : Fl Try.prog 81 0 0 := ⟨fun b o w => by kernel_rfl⟩
instance : Fl Try.prog 81 1 1 := ⟨fun b o w => by kernel_rfl⟩
instance : Fl Try.prog 81 2 2 := ⟨fun b o w => by kernel_rfl⟩
instance : Fl Try.prog 81 3 3 := ⟨fun b o w => by kernel_rfl⟩
instance : Und Try.prog 94 (.slice 123) := ⟨Try.underlying94⟩
instance : Sc Try.prog 94 := ⟨fun w => by kernel_rfl⟩
instance : Sz Try.prog 94 1 := ⟨fun w => by kernel_rfl⟩
instance : Zr Try.prog 94 (.slice none 0 0) := ⟨fun w => by kernel_rfl⟩
instance : El Try.prog 123 2 16 := elOf (z := .agg #[.int .i64 0, .int .i64 0]) (by kernel_rfl) (by rfl) (by omega)
instance : Und Try.prog 95 (.slice 127) := ⟨Try.underlying95⟩
instance : Sc Try.prog 95 := ⟨fun w => by kernel_rfl⟩
instance : Sz Try.prog 95 1 := ⟨fun w => by kernel_rfl⟩
instance : Zr Try.prog 95 (.slice none 0 0) := ⟨fun w => by kernel_rfl⟩
instance : El Try.prog 127 6 48 := elOf (z := .agg #[.int .i64 0, .int .i64 0, .int .i64 0, .int .i64 0, .int .i64 0, .int .i64 0]) (by kernel_rfl) (by rfl) (by omega)
instance : Ag Try.prog 97 4 := ⟨fun w => by kernel_rfl, fun w => by kernel_rfl⟩
instance : Sz Try.prog 97 4 := ⟨fun w => by kernel_rfl⟩
instance : Zr Try.prog 97 (.agg #[.int .i64 0, .slice none 0 0, .slice none 0 0, .slice none 0 0]) := ⟨fun w => by kernel_rfl⟩
instance : Fl Try.prog 97 0 0 := ⟨fun b o w => by kernel_rfl⟩
instance : Fl Try.prog 97 1 1 := ⟨fun b o w => by kernel_rfl⟩
instance : Fl Try.prog 97 2 2 := ⟨fun b o w => by kernel_rfl⟩
instance : Fl Try.prog 97 3 3 := ⟨fun b o w => by kernel_rfl⟩
instance : Ag Try.prog 99 2 := ⟨fun w => by kernel_rfl, fun w => by kernel_rfl⟩
instance : Sz Try.prog 99 2 := ⟨fun w => by kernel_rfl⟩
instance : Zr Try.prog 99 (.agg #[.int .i64 0, .int .i64 0]) := ⟨fun w => by kernel_rfl⟩
instance : Fl Try.prog 99 0 0 := ⟨fun b o w => by kernel_rfl⟩
instance : Fl Try.prog 99 1 1 := ⟨fun b o w => by kernel_rfl⟩
instance : Und Try.prog 100 (.array 3 34) := ⟨Try.underlying100⟩
instance : Ag Try.prog 100 12 := ⟨fun w => by kernel_rfl, fun w => by kernel_rfl⟩
instance : Sz Try.prog 100 12 := ⟨fun w => by kernel_rfl⟩
instance : Zr Try.prog 100 (.agg #[.int .i64 0, .int .i64 0, .int .i64 0, .int .i64 0, .int .i64 0, .int .i64 0, .int .i64 0, .int .i64 0, .int .i64 0, .int .i64 0, .int .i64 0, .int .i64 0]) := ⟨fun w => by kernel_rfl⟩
instance : Ag Try.prog 102 15 := ⟨fun w => by kernel_rfl, fun w => by kernel_rfl⟩
instance : Sz Try.prog 102 15 := ⟨fun w => by kernel_rfl⟩
instance : Zr Try.prog 102 (.agg #[.int .i64 0, .int .i64 0, .int .i64 0, .int .i64 0, .int .i64 0, .int .i64 0, .int .i64 0, .int .i64 0, .int .i64 0, .int .i64 0, .int .i64 0, .int .i64 0, .int .i64 0, .int .i64 0, .int .i64 0]) := ⟨fun w => by kernel_rfl⟩
instance : Fl Try.prog 102 0 0 := ⟨fun b o w => by kernel_rfl⟩
instance : Fl Try.prog 102 1 1 := ⟨fun b o w => by kernel_rfl⟩
instance : Fl Try.prog 102 2 2 := ⟨fun b o w => by kernel_rfl⟩
instance : Fl Try.prog 102 3 3 := ⟨fun b o w => by kernel_rfl⟩
instance : Ag Try.prog 104 26 := ⟨fun w => by kernel_rfl, fun w => by kernel_rfl⟩
instance : Sz Try.prog 104 26 := ⟨fun w => by kernel_rfl⟩
instance : Zr Try.prog 104 (.agg #[.int .i64 0, .int .i64 0, .slice none 0 0, .slice none 0 0, .slice none 0 0, .int .i64 0, .int .i64 0, .int .i64 0, .int .i64 0, .int .i64 0, .int .i64 0, .int .i64 0, .int .i64 0, .int .i64 0, .int .i64 0, .int .i64 0, .int .i64 0, .int .i64 0, .int .i64 0, .int .i64 0, .int .i64 0, .int .i64 0, .int .i64 0, .int .i64 0, .int .i64 0, .string ByteArray.empty]) := ⟨fun w => by kernel_rfl⟩
instance : Fl Try.prog 104 0 0 := ⟨fun b o w => by kernel_rfl⟩
instance : Fl Try.prog 104 1 1 := ⟨fun b o w => by kernel_rfl⟩
instance : Fl Try.prog 104 2 5 := ⟨fun b o w => by kernel_rfl⟩
instance : Fl Try.prog 104 3 7 := ⟨fun b o w => by kernel_rfl⟩
instance : Fl Try.prog 104 4 22 := ⟨fun b o w => by kernel_rfl⟩
instance : Und Try.prog 107 (.int .i64) := ⟨Try.underlying107⟩
instance : Sc Try.prog 107 := ⟨fun w => by kernel_rfl⟩
instance : Sz Try.prog 107 1 := ⟨fun w => by kernel_rfl⟩
instance : Zr Try.prog 107 (.int .i64 0) := ⟨fun w => by kernel_rfl⟩
instance : Und Try.prog 115 (.int .u64) := ⟨Try.underlying115⟩
instance : Sc Try.prog 115 := ⟨fun w => by kernel_rfl⟩
instance : Sz Try.prog 115 1 := ⟨fun w => by kernel_rfl⟩
instance : Zr Try.prog 115 (.int .u64 0) := ⟨fun w => by kernel_rfl⟩
instance : Und Try.prog 119 (.array 4 4) := ⟨Try.underlying119⟩
instance : Ag Try.prog 119 4 := ⟨fun w => by kernel_rfl, fun w => by kernel_rfl⟩
instance : Sz Try.prog 119 4 := ⟨fun w => by kernel_rfl⟩
instance : Zr Try.prog 119 (.agg #[.bool false, .bool false, .bool false, .bool false]) := ⟨fun w => by kernel_rfl⟩
instance : Ag Try.prog 123 2 := ⟨fun w => by kernel_rfl, fun w => by kernel_rfl⟩
instance : Sz Try.prog 123 2 := ⟨fun w => by kernel_rfl⟩
instance : Zr Try.prog 123 (.agg #[.int .i64 0, .int .i64 0]) := ⟨fun w => by kernel_rfl⟩
instance : Fl Try.prog 123 0 0 := ⟨fun b o w => by kernel_rfl⟩
instance : Fl Try.prog 123 1 1 := ⟨fun b o w => by kernel_rfl⟩
instance : Ag Try.prog 127 6 := ⟨fun w => by kernel_rfl, fun w => by kernel_rfl⟩
instance : Sz Try.prog 127 6 := ⟨fun w => by kernel_rfl⟩
instance : Zr Try.prog 127 (.agg #[.int .i64 0, .int .i64 0, .int .i64 0, .int .i64 0, .int .i64 0, .int .i64 0]) := ⟨fun w => by kernel_rfl⟩
instance : Fl Try.prog 127 0 0 := ⟨fun b o w => by kernel_rfl⟩
instance : Fl Try.prog 127 1 1 := ⟨fun b o w => by kernel_rfl⟩
instance : Fl Try.prog 127 2 2 := ⟨fun b o w => by kernel_rfl⟩
instance : Und Try.prog 130 (.int .u64) := ⟨Try.underlying130⟩
instance : Sc Try.prog 130 := ⟨fun w => by kernel_rfl⟩
instance : Sz Try.prog 130 1 := ⟨fun w => by kernel_rfl⟩
instance : Zr Try.prog 130 (.int .u64 0) := ⟨fun w => by kernel_rfl⟩
instance : KeyT Try.prog 3 Int (fun x => .int .i64 x) := KeyT.int Try.underlying3
instance : Mixed Try.prog := ⟨by kernel_rfl⟩
instance : Opn Try.prog 3 Int (fun x => [.int .i64 x]) inI64 := opnI64 Try.underlying3
instance : Opn Try.prog 4 Bool (fun x => [.bool x]) (fun _ => True) := opnBool Try.underlying4
instance : Opn Try.prog 5 Int (fun x => [.int .u8 x]) inU8 := opnU8 Try.underlying5
instance : Opn Try.prog 9 ByteArray (fun x => [.string x]) (fun x => x.size ≤ maxLen) := opnStr Try.underlying9
instance : Opn Try.prog 56 Int (fun x => [.int .u64 x]) inU64 := opnU64 Try.underlying56
instance : Opn Try.prog 58 Int (fun x => [.int .i64 x]) inI64 := opnI64 Try.underlying58
instance : Opn Try.prog 107 Int (fun x => [.int .i64 x]) inI64 := opnI64 Try.underlying107
instance : Opn Try.prog 115 Int (fun x => [.int .u64 x]) inU64 := opnU64 Try.underlying115
instance : Opn Try.prog 130 Int (fun x => [.int .u64 x]) inU64 := opnU64 Try.underlying130
structure ApiKey where
  Base : Int
  Step : Int
deriving DecidableEq
theorem iff_ApiKey (x y : ApiKey) : x = y ↔ x.Base = y.Base ∧ x.Step = y.Step := by cases x; cases y; simp
abbrev cvApiKey (x : ApiKey) : List Value := [.int .i64 x.Base, .int .i64 x.Step]
abbrev avApiKey (x : ApiKey) : Value := .agg #[.int .i64 x.Base, .int .i64 x.Step]
instance : GetF cvApiKey 0 (fun x => .int .i64 x.Base) := ⟨fun _ => rfl⟩
instance : GetF cvApiKey 1 (fun x => .int .i64 x.Step) := ⟨fun _ => rfl⟩
instance : ElT Try.prog 25 ApiKey 2 cvApiKey avApiKey := ElT.agg inferInstance (fun _ => rfl) (fun x y hy => by simp at hy; rcases hy with rfl | rfl <;> rfl)
instance (x1 : Int) (x2 : Int) : Cvt cvApiKey [.int .i64 x1, .int .i64 x2] ⟨x1, x2⟩ := ⟨rfl⟩
instance (x1 : Int) (x2 : Int) : Vvt avApiKey (.agg #[.int .i64 x1, .int .i64 x2]) ⟨x1, x2⟩ := ⟨rfl⟩
instance (x1 : Int) (x2 : Int) : Kvt avApiKey (.agg #[.int .i64 x1, .int .i64 x2]) ⟨x1, x2⟩ := ⟨rfl⟩
instance (priority := high) (x : ApiKey) : Cvt cvApiKey (cvApiKey x) x := ⟨rfl⟩
instance (priority := high) (x : ApiKey) : Vvt avApiKey (avApiKey x) x := ⟨rfl⟩
instance (priority := high) (x : ApiKey) : Kvt avApiKey (avApiKey x) x := ⟨rfl⟩
def okApiKey (x : ApiKey) : Prop := inI64 x.Base ∧ inI64 x.Step
instance : Opn Try.prog 25 ApiKey cvApiKey okApiKey := ⟨fun {_ _ _ _ _ _ _ cs _} h => by
  obtain ⟨xs, n, rfl, _, hl, hx, hf⟩ := DataW.trod_struct Try.underlying25 h
  rw [show Try.prog.cellsOf 25 = 2 by kernel_rfl] at hl
  replace hx : xs.length = 2 := hx
  obtain ⟨_, h0⟩ := field_data hf 0 3 0 1 rfl (by kernel_rfl) (by rw [hx]; decide)
  obtain ⟨y0, e0, k0⟩ := Opn.out (P := Try.prog) (t := 3) h0
  obtain ⟨_, h1⟩ := field_data hf 1 3 1 1 rfl (by kernel_rfl) (by rw [hx]; decide)
  obtain ⟨y1, e1, k1⟩ := Opn.out (P := Try.prog) (t := 3) h1
  refine ⟨⟨y0, y1⟩, ?_, k0, k1⟩
  match cs, hl with
  | [c0, c1], _ =>
    replace e0 : [c0] = _ := e0
    replace e1 : [c1] = _ := e1
    show [c0] ++ [c1] = _
    rw [e0, e1]
    rfl⟩
structure ApiBox where
  Under : ApiKey
  Load : ApiKey
deriving DecidableEq
theorem iff_ApiBox (x y : ApiBox) : x = y ↔ x.Under = y.Under ∧ x.Load = y.Load := by cases x; cases y; simp
abbrev cvApiBox (x : ApiBox) : List Value := [.int .i64 x.Under.Base, .int .i64 x.Under.Step, .int .i64 x.Load.Base, .int .i64 x.Load.Step]
abbrev avApiBox (x : ApiBox) : Value := .agg #[.int .i64 x.Under.Base, .int .i64 x.Under.Step, .int .i64 x.Load.Base, .int .i64 x.Load.Step]
instance : GetF cvApiBox 0 (fun x => .int .i64 x.Under.Base) := ⟨fun _ => rfl⟩
instance : GetF cvApiBox 1 (fun x => .int .i64 x.Under.Step) := ⟨fun _ => rfl⟩
instance : GetF cvApiBox 2 (fun x => .int .i64 x.Load.Base) := ⟨fun _ => rfl⟩
instance : GetF cvApiBox 3 (fun x => .int .i64 x.Load.Step) := ⟨fun _ => rfl⟩
instance : ElT Try.prog 34 ApiBox 4 cvApiBox avApiBox := ElT.agg inferInstance (fun _ => rfl) (fun x y hy => by simp at hy; rcases hy with rfl | rfl | rfl | rfl <;> rfl)
instance (x1 : Int) (x2 : Int) (x3 : Int) (x4 : Int) : Cvt cvApiBox [.int .i64 x1, .int .i64 x2, .int .i64 x3, .int .i64 x4] ⟨⟨x1, x2⟩, ⟨x3, x4⟩⟩ := ⟨rfl⟩
instance (x1 : Int) (x2 : Int) (x3 : Int) (x4 : Int) : Vvt avApiBox (.agg #[.int .i64 x1, .int .i64 x2, .int .i64 x3, .int .i64 x4]) ⟨⟨x1, x2⟩, ⟨x3, x4⟩⟩ := ⟨rfl⟩
instance (x1 : Int) (x2 : Int) (x3 : Int) (x4 : Int) : Kvt avApiBox (.agg #[.int .i64 x1, .int .i64 x2, .int .i64 x3, .int .i64 x4]) ⟨⟨x1, x2⟩, ⟨x3, x4⟩⟩ := ⟨rfl⟩
instance (priority := high) (x : ApiBox) : Cvt cvApiBox (cvApiBox x) x := ⟨rfl⟩
instance (priority := high) (x : ApiBox) : Vvt avApiBox (avApiBox x) x := ⟨rfl⟩
instance (priority := high) (x : ApiBox) : Kvt avApiBox (avApiBox x) x := ⟨rfl⟩
def okApiBox (x : ApiBox) : Prop := okApiKey x.Under ∧ okApiKey x.Load
instance : Opn Try.prog 34 ApiBox cvApiBox okApiBox := ⟨fun {_ _ _ _ _ _ _ cs _} h => by
  obtain ⟨xs, n, rfl, _, hl, hx, hf⟩ := DataW.trod_struct Try.underlying34 h
  rw [show Try.prog.cellsOf 34 = 4 by kernel_rfl] at hl
  replace hx : xs.length = 2 := hx
  obtain ⟨_, h0⟩ := field_data hf 0 25 0 2 rfl (by kernel_rfl) (by rw [hx]; decide)
  obtain ⟨y0, e0, k0⟩ := Opn.out (P := Try.prog) (t := 25) h0
  obtain ⟨_, h1⟩ := field_data hf 1 25 2 2 rfl (by kernel_rfl) (by rw [hx]; decide)
  obtain ⟨y1, e1, k1⟩ := Opn.out (P := Try.prog) (t := 25) h1
  refine ⟨⟨y0, y1⟩, ?_, k0, k1⟩
  match cs, hl with
  | [c0, c1, c2, c3], _ =>
    replace e0 : [c0, c1] = _ := e0
    replace e1 : [c2, c3] = _ := e1
    show [c0, c1] ++ [c2, c3] = _
    rw [e0, e1]
    rfl⟩
structure ApiSealed where
  Epoch : Int
  Under : ApiKey
  Text : ByteArray
deriving DecidableEq
theorem iff_ApiSealed (x y : ApiSealed) : x = y ↔ x.Epoch = y.Epoch ∧ x.Under = y.Under ∧ x.Text = y.Text := by cases x; cases y; simp
abbrev cvApiSealed (x : ApiSealed) : List Value := [.int .i64 x.Epoch, .int .i64 x.Under.Base, .int .i64 x.Under.Step, .string x.Text]
abbrev avApiSealed (x : ApiSealed) : Value := .agg #[.int .i64 x.Epoch, .int .i64 x.Under.Base, .int .i64 x.Under.Step, .string x.Text]
instance : GetF cvApiSealed 0 (fun x => .int .i64 x.Epoch) := ⟨fun _ => rfl⟩
instance : GetF cvApiSealed 1 (fun x => .int .i64 x.Under.Base) := ⟨fun _ => rfl⟩
instance : GetF cvApiSealed 2 (fun x => .int .i64 x.Under.Step) := ⟨fun _ => rfl⟩
instance : GetF cvApiSealed 3 (fun x => .string x.Text) := ⟨fun _ => rfl⟩
instance : ElT Try.prog 36 ApiSealed 4 cvApiSealed avApiSealed := ElT.agg inferInstance (fun _ => rfl) (fun x y hy => by simp at hy; rcases hy with rfl | rfl | rfl | rfl <;> rfl)
instance (x1 : Int) (x2 : Int) (x3 : Int) (x4 : ByteArray) : Cvt cvApiSealed [.int .i64 x1, .int .i64 x2, .int .i64 x3, .string x4] ⟨x1, ⟨x2, x3⟩, x4⟩ := ⟨rfl⟩
instance (x1 : Int) (x2 : Int) (x3 : Int) (x4 : ByteArray) : Vvt avApiSealed (.agg #[.int .i64 x1, .int .i64 x2, .int .i64 x3, .string x4]) ⟨x1, ⟨x2, x3⟩, x4⟩ := ⟨rfl⟩
instance (x1 : Int) (x2 : Int) (x3 : Int) (x4 : ByteArray) : Kvt avApiSealed (.agg #[.int .i64 x1, .int .i64 x2, .int .i64 x3, .string x4]) ⟨x1, ⟨x2, x3⟩, x4⟩ := ⟨rfl⟩
instance (priority := high) (x : ApiSealed) : Cvt cvApiSealed (cvApiSealed x) x := ⟨rfl⟩
instance (priority := high) (x : ApiSealed) : Vvt avApiSealed (avApiSealed x) x := ⟨rfl⟩
instance (priority := high) (x : ApiSealed) : Kvt avApiSealed (avApiSealed x) x := ⟨rfl⟩
def okApiSealed (x : ApiSealed) : Prop := inI64 x.Epoch ∧ okApiKey x.Under ∧ (fun x : ByteArray => x.size ≤ maxLen) x.Text
instance : Opn Try.prog 36 ApiSealed cvApiSealed okApiSealed := ⟨fun {_ _ _ _ _ _ _ cs _} h => by
  obtain ⟨xs, n, rfl, _, hl, hx, hf⟩ := DataW.trod_struct Try.underlying36 h
  rw [show Try.prog.cellsOf 36 = 4 by kernel_rfl] at hl
  replace hx : xs.length = 3 := hx
  obtain ⟨_, h0⟩ := field_data hf 0 3 0 1 rfl (by kernel_rfl) (by rw [hx]; decide)
  obtain ⟨y0, e0, k0⟩ := Opn.out (P := Try.prog) (t := 3) h0
  obtain ⟨_, h1⟩ := field_data hf 1 25 1 2 rfl (by kernel_rfl) (by rw [hx]; decide)
  obtain ⟨y1, e1, k1⟩ := Opn.out (P := Try.prog) (t := 25) h1
  obtain ⟨_, h2⟩ := field_data hf 2 9 3 1 rfl (by kernel_rfl) (by rw [hx]; decide)
  obtain ⟨y2, e2, k2⟩ := Opn.out (P := Try.prog) (t := 9) h2
  refine ⟨⟨y0, y1, y2⟩, ?_, k0, k1, k2⟩
  match cs, hl with
  | [c0, c1, c2, c3], _ =>
    replace e0 : [c0] = _ := e0
    replace e1 : [c1, c2] = _ := e1
    replace e2 : [c3] = _ := e2
    show [c0] ++ [c1, c2] ++ [c3] = _
    rw [e0, e1, e2]
    rfl⟩
structure Coterielaw19Op where
  Kind : Int
  Box : ApiBox
  Text : ApiSealed
deriving DecidableEq
theorem iff_Coterielaw19Op (x y : Coterielaw19Op) : x = y ↔ x.Kind = y.Kind ∧ x.Box = y.Box ∧ x.Text = y.Text := by cases x; cases y; simp
abbrev cvCoterielaw19Op (x : Coterielaw19Op) : List Value := [.int .i64 x.Kind, .int .i64 x.Box.Under.Base, .int .i64 x.Box.Under.Step, .int .i64 x.Box.Load.Base, .int .i64 x.Box.Load.Step, .int .i64 x.Text.Epoch, .int .i64 x.Text.Under.Base, .int .i64 x.Text.Under.Step, .string x.Text.Text]
abbrev avCoterielaw19Op (x : Coterielaw19Op) : Value := .agg #[.int .i64 x.Kind, .int .i64 x.Box.Under.Base, .int .i64 x.Box.Under.Step, .int .i64 x.Box.Load.Base, .int .i64 x.Box.Load.Step, .int .i64 x.Text.Epoch, .int .i64 x.Text.Under.Base, .int .i64 x.Text.Under.Step, .string x.Text.Text]
instance : GetF cvCoterielaw19Op 0 (fun x => .int .i64 x.Kind) := ⟨fun _ => rfl⟩
instance : GetF cvCoterielaw19Op 1 (fun x => .int .i64 x.Box.Under.Base) := ⟨fun _ => rfl⟩
instance : GetF cvCoterielaw19Op 2 (fun x => .int .i64 x.Box.Under.Step) := ⟨fun _ => rfl⟩
instance : GetF cvCoterielaw19Op 3 (fun x => .int .i64 x.Box.Load.Base) := ⟨fun _ => rfl⟩
instance : GetF cvCoterielaw19Op 4 (fun x => .int .i64 x.Box.Load.Step) := ⟨fun _ => rfl⟩
instance : GetF cvCoterielaw19Op 5 (fun x => .int .i64 x.Text.Epoch) := ⟨fun _ => rfl⟩
instance : GetF cvCoterielaw19Op 6 (fun x => .int .i64 x.Text.Under.Base) := ⟨fun _ => rfl⟩
instance : GetF cvCoterielaw19Op 7 (fun x => .int .i64 x.Text.Under.Step) := ⟨fun _ => rfl⟩
instance : GetF cvCoterielaw19Op 8 (fun x => .string x.Text.Text) := ⟨fun _ => rfl⟩
instance : ElT Try.prog 38 Coterielaw19Op 9 cvCoterielaw19Op avCoterielaw19Op := ElT.agg inferInstance (fun _ => rfl) (fun x y hy => by simp at hy; rcases hy with rfl | rfl | rfl | rfl | rfl | rfl | rfl | rfl | rfl <;> rfl)
instance (x1 : Int) (x2 : Int) (x3 : Int) (x4 : Int) (x5 : Int) (x6 : Int) (x7 : Int) (x8 : Int) (x9 : ByteArray) : Cvt cvCoterielaw19Op [.int .i64 x1, .int .i64 x2, .int .i64 x3, .int .i64 x4, .int .i64 x5, .int .i64 x6, .int .i64 x7, .int .i64 x8, .string x9] ⟨x1, ⟨⟨x2, x3⟩, ⟨x4, x5⟩⟩, ⟨x6, ⟨x7, x8⟩, x9⟩⟩ := ⟨rfl⟩
instance (x1 : Int) (x2 : Int) (x3 : Int) (x4 : Int) (x5 : Int) (x6 : Int) (x7 : Int) (x8 : Int) (x9 : ByteArray) : Vvt avCoterielaw19Op (.agg #[.int .i64 x1, .int .i64 x2, .int .i64 x3, .int .i64 x4, .int .i64 x5, .int .i64 x6, .int .i64 x7, .int .i64 x8, .string x9]) ⟨x1, ⟨⟨x2, x3⟩, ⟨x4, x5⟩⟩, ⟨x6, ⟨x7, x8⟩, x9⟩⟩ := ⟨rfl⟩
instance (x1 : Int) (x2 : Int) (x3 : Int) (x4 : Int) (x5 : Int) (x6 : Int) (x7 : Int) (x8 : Int) (x9 : ByteArray) : Kvt avCoterielaw19Op (.agg #[.int .i64 x1, .int .i64 x2, .int .i64 x3, .int .i64 x4, .int .i64 x5, .int .i64 x6, .int .i64 x7, .int .i64 x8, .string x9]) ⟨x1, ⟨⟨x2, x3⟩, ⟨x4, x5⟩⟩, ⟨x6, ⟨x7, x8⟩, x9⟩⟩ := ⟨rfl⟩
instance (priority := high) (x : Coterielaw19Op) : Cvt cvCoterielaw19Op (cvCoterielaw19Op x) x := ⟨rfl⟩
instance (priority := high) (x : Coterielaw19Op) : Vvt avCoterielaw19Op (avCoterielaw19Op x) x := ⟨rfl⟩
instance (priority := high) (x : Coterielaw19Op) : Kvt avCoterielaw19Op (avCoterielaw19Op x) x := ⟨rfl⟩
def okCoterielaw19Op (x : Coterielaw19Op) : Prop := inI64 x.Kind ∧ okApiBox x.Box ∧ okApiSealed x.Text
instance : Opn Try.prog 38 Coterielaw19Op cvCoterielaw19Op okCoterielaw19Op := ⟨fun {_ _ _ _ _ _ _ cs _} h => by
  obtain ⟨xs, n, rfl, _, hl, hx, hf⟩ := DataW.trod_struct Try.underlying38 h
  rw [show Try.prog.cellsOf 38 = 9 by kernel_rfl] at hl
  replace hx : xs.length = 3 := hx
  obtain ⟨_, h0⟩ := field_data hf 0 3 0 1 rfl (by kernel_rfl) (by rw [hx]; decide)
  obtain ⟨y0, e0, k0⟩ := Opn.out (P := Try.prog) (t := 3) h0
  obtain ⟨_, h1⟩ := field_data hf 1 34 1 4 rfl (by kernel_rfl) (by rw [hx]; decide)
  obtain ⟨y1, e1, k1⟩ := Opn.out (P := Try.prog) (t := 34) h1
  obtain ⟨_, h2⟩ := field_data hf 2 36 5 4 rfl (by kernel_rfl) (by rw [hx]; decide)
  obtain ⟨y2, e2, k2⟩ := Opn.out (P := Try.prog) (t := 36) h2
  refine ⟨⟨y0, y1, y2⟩, ?_, k0, k1, k2⟩
  match cs, hl with
  | [c0, c1, c2, c3, c4, c5, c6, c7, c8], _ =>
    replace e0 : [c0] = _ := e0
    replace e1 : [c1, c2, c3, c4] = _ := e1
    replace e2 : [c5, c6, c7, c8] = _ := e2
    show [c0] ++ [c1, c2, c3, c4] ++ [c5, c6, c7, c8] = _
    rw [e0, e1, e2]
    rfl⟩
instance : ElT Try.prog 3 Int 1 (fun x => [.int .i64 x]) (fun x => .int .i64 x) := ElT.sc inferInstance (fun _ => rfl)
structure ApiSeat where
  Who : Int
  Slot : Int
deriving DecidableEq
theorem iff_ApiSeat (x y : ApiSeat) : x = y ↔ x.Who = y.Who ∧ x.Slot = y.Slot := by cases x; cases y; simp
abbrev cvApiSeat (x : ApiSeat) : List Value := [.int .i64 x.Who, .int .i64 x.Slot]
abbrev avApiSeat (x : ApiSeat) : Value := .agg #[.int .i64 x.Who, .int .i64 x.Slot]
instance : GetF cvApiSeat 0 (fun x => .int .i64 x.Who) := ⟨fun _ => rfl⟩
instance : GetF cvApiSeat 1 (fun x => .int .i64 x.Slot) := ⟨fun _ => rfl⟩
instance : ElT Try.prog 123 ApiSeat 2 cvApiSeat avApiSeat := ElT.agg inferInstance (fun _ => rfl) (fun x y hy => by simp at hy; rcases hy with rfl | rfl <;> rfl)
instance (x1 : Int) (x2 : Int) : Cvt cvApiSeat [.int .i64 x1, .int .i64 x2] ⟨x1, x2⟩ := ⟨rfl⟩
instance (x1 : Int) (x2 : Int) : Vvt avApiSeat (.agg #[.int .i64 x1, .int .i64 x2]) ⟨x1, x2⟩ := ⟨rfl⟩
instance (x1 : Int) (x2 : Int) : Kvt avApiSeat (.agg #[.int .i64 x1, .int .i64 x2]) ⟨x1, x2⟩ := ⟨rfl⟩
instance (priority := high) (x : ApiSeat) : Cvt cvApiSeat (cvApiSeat x) x := ⟨rfl⟩
instance (priority := high) (x : ApiSeat) : Vvt avApiSeat (avApiSeat x) x := ⟨rfl⟩
instance (priority := high) (x : ApiSeat) : Kvt avApiSeat (avApiSeat x) x := ⟨rfl⟩
def okApiSeat (x : ApiSeat) : Prop := inI64 x.Who ∧ inI64 x.Slot
instance : Opn Try.prog 123 ApiSeat cvApiSeat okApiSeat := ⟨fun {_ _ _ _ _ _ _ cs _} h => by
  obtain ⟨xs, n, rfl, _, hl, hx, hf⟩ := DataW.trod_struct Try.underlying123 h
  rw [show Try.prog.cellsOf 123 = 2 by kernel_rfl] at hl
  replace hx : xs.length = 2 := hx
  obtain ⟨_, h0⟩ := field_data hf 0 3 0 1 rfl (by kernel_rfl) (by rw [hx]; decide)
  obtain ⟨y0, e0, k0⟩ := Opn.out (P := Try.prog) (t := 3) h0
  obtain ⟨_, h1⟩ := field_data hf 1 3 1 1 rfl (by kernel_rfl) (by rw [hx]; decide)
  obtain ⟨y1, e1, k1⟩ := Opn.out (P := Try.prog) (t := 3) h1
  refine ⟨⟨y0, y1⟩, ?_, k0, k1⟩
  match cs, hl with
  | [c0, c1], _ =>
    replace e0 : [c0] = _ := e0
    replace e1 : [c1] = _ := e1
    show [c0] ++ [c1] = _
    rw [e0, e1]
    rfl⟩
structure ApiItem where
  Node : Int
  From : Int
  Box : ApiBox
deriving DecidableEq
theorem iff_ApiItem (x y : ApiItem) : x = y ↔ x.Node = y.Node ∧ x.From = y.From ∧ x.Box = y.Box := by cases x; cases y; simp
abbrev cvApiItem (x : ApiItem) : List Value := [.int .i64 x.Node, .int .i64 x.From, .int .i64 x.Box.Under.Base, .int .i64 x.Box.Under.Step, .int .i64 x.Box.Load.Base, .int .i64 x.Box.Load.Step]
abbrev avApiItem (x : ApiItem) : Value := .agg #[.int .i64 x.Node, .int .i64 x.From, .int .i64 x.Box.Under.Base, .int .i64 x.Box.Under.Step, .int .i64 x.Box.Load.Base, .int .i64 x.Box.Load.Step]
instance : GetF cvApiItem 0 (fun x => .int .i64 x.Node) := ⟨fun _ => rfl⟩
instance : GetF cvApiItem 1 (fun x => .int .i64 x.From) := ⟨fun _ => rfl⟩
instance : GetF cvApiItem 2 (fun x => .int .i64 x.Box.Under.Base) := ⟨fun _ => rfl⟩
instance : GetF cvApiItem 3 (fun x => .int .i64 x.Box.Under.Step) := ⟨fun _ => rfl⟩
instance : GetF cvApiItem 4 (fun x => .int .i64 x.Box.Load.Base) := ⟨fun _ => rfl⟩
instance : GetF cvApiItem 5 (fun x => .int .i64 x.Box.Load.Step) := ⟨fun _ => rfl⟩
instance : ElT Try.prog 127 ApiItem 6 cvApiItem avApiItem := ElT.agg inferInstance (fun _ => rfl) (fun x y hy => by simp at hy; rcases hy with rfl | rfl | rfl | rfl | rfl | rfl <;> rfl)
instance (x1 : Int) (x2 : Int) (x3 : Int) (x4 : Int) (x5 : Int) (x6 : Int) : Cvt cvApiItem [.int .i64 x1, .int .i64 x2, .int .i64 x3, .int .i64 x4, .int .i64 x5, .int .i64 x6] ⟨x1, x2, ⟨⟨x3, x4⟩, ⟨x5, x6⟩⟩⟩ := ⟨rfl⟩
instance (x1 : Int) (x2 : Int) (x3 : Int) (x4 : Int) (x5 : Int) (x6 : Int) : Vvt avApiItem (.agg #[.int .i64 x1, .int .i64 x2, .int .i64 x3, .int .i64 x4, .int .i64 x5, .int .i64 x6]) ⟨x1, x2, ⟨⟨x3, x4⟩, ⟨x5, x6⟩⟩⟩ := ⟨rfl⟩
instance (x1 : Int) (x2 : Int) (x3 : Int) (x4 : Int) (x5 : Int) (x6 : Int) : Kvt avApiItem (.agg #[.int .i64 x1, .int .i64 x2, .int .i64 x3, .int .i64 x4, .int .i64 x5, .int .i64 x6]) ⟨x1, x2, ⟨⟨x3, x4⟩, ⟨x5, x6⟩⟩⟩ := ⟨rfl⟩
instance (priority := high) (x : ApiItem) : Cvt cvApiItem (cvApiItem x) x := ⟨rfl⟩
instance (priority := high) (x : ApiItem) : Vvt avApiItem (avApiItem x) x := ⟨rfl⟩
instance (priority := high) (x : ApiItem) : Kvt avApiItem (avApiItem x) x := ⟨rfl⟩
def okApiItem (x : ApiItem) : Prop := inI64 x.Node ∧ inI64 x.From ∧ okApiBox x.Box
instance : Opn Try.prog 127 ApiItem cvApiItem okApiItem := ⟨fun {_ _ _ _ _ _ _ cs _} h => by
  obtain ⟨xs, n, rfl, _, hl, hx, hf⟩ := DataW.trod_struct Try.underlying127 h
  rw [show Try.prog.cellsOf 127 = 6 by kernel_rfl] at hl
  replace hx : xs.length = 3 := hx
  obtain ⟨_, h0⟩ := field_data hf 0 3 0 1 rfl (by kernel_rfl) (by rw [hx]; decide)
  obtain ⟨y0, e0, k0⟩ := Opn.out (P := Try.prog) (t := 3) h0
  obtain ⟨_, h1⟩ := field_data hf 1 3 1 1 rfl (by kernel_rfl) (by rw [hx]; decide)
  obtain ⟨y1, e1, k1⟩ := Opn.out (P := Try.prog) (t := 3) h1
  obtain ⟨_, h2⟩ := field_data hf 2 34 2 4 rfl (by kernel_rfl) (by rw [hx]; decide)
  obtain ⟨y2, e2, k2⟩ := Opn.out (P := Try.prog) (t := 34) h2
  refine ⟨⟨y0, y1, y2⟩, ?_, k0, k1, k2⟩
  match cs, hl with
  | [c0, c1, c2, c3, c4, c5], _ =>
    replace e0 : [c0] = _ := e0
    replace e1 : [c1] = _ := e1
    replace e2 : [c2, c3, c4, c5] = _ := e2
    show [c0] ++ [c1] ++ [c2, c3, c4, c5] = _
    rw [e0, e1, e2]
    rfl⟩
instance  : BA Try.prog 25 [] #[.int .i64 0, .int .i64 0] := ⟨fun w => by kernel_rfl⟩
instance (x1 : Int) : BA Try.prog 25 [(0, .int .i64 x1)] #[.int .i64 x1, .int .i64 0] := ⟨fun w => by kernel_rfl⟩
instance (x1 : Int) (x2 : Int) : BA Try.prog 25 [(0, .int .i64 x1), (1, .int .i64 x2)] #[.int .i64 x1, .int .i64 x2] := ⟨fun w => by kernel_rfl⟩
instance (x1 : Int) (x2 : Int) (x3 : Int) (x4 : Int) : BA Try.prog 34 [(0, .agg #[.int .i64 x1, .int .i64 x2]), (1, .agg #[.int .i64 x3, .int .i64 x4])] #[.int .i64 x1, .int .i64 x2, .int .i64 x3, .int .i64 x4] := ⟨fun w => by kernel_rfl⟩
instance  : BA Try.prog 36 [] #[.int .i64 0, .int .i64 0, .int .i64 0, .string ByteArray.empty] := ⟨fun w => by kernel_rfl⟩
instance  : BA Try.prog 49 [] #[.slice none 0 0, .slice none 0 0, .slice none 0 0] := ⟨fun w => by kernel_rfl⟩
instance (x1 : Value) [IsSl x1] (x2 : Value) [IsSl x2] (x3 : Value) [IsSl x3] : BA Try.prog 49 [(0, x1), (1, x2), (2, x3)] #[x1, x2, x3] := ⟨fun w => by obtain ⟨_, _, _, rfl⟩ := IsSl.out (v := x1); obtain ⟨_, _, _, rfl⟩ := IsSl.out (v := x2); obtain ⟨_, _, _, rfl⟩ := IsSl.out (v := x3); kernel_rfl⟩
instance (x1 : Option Nat) (x2 : Option Nat) (x3 : Option Nat) (x4 : Option Nat) : BA Try.prog 81 [(0, .map x1), (1, .map x2), (2, .map x3), (3, .map x4)] #[.map x1, .map x2, .map x3, .map x4] := ⟨fun w => by kernel_rfl⟩
instance  : BA Try.prog 99 [] #[.int .i64 0, .int .i64 0] := ⟨fun w => by kernel_rfl⟩
instance  : BA Try.prog 102 [] #[.int .i64 0, .int .i64 0, .int .i64 0, .int .i64 0, .int .i64 0, .int .i64 0, .int .i64 0, .int .i64 0, .int .i64 0, .int .i64 0, .int .i64 0, .int .i64 0, .int .i64 0, .int .i64 0, .int .i64 0] := ⟨fun w => by kernel_rfl⟩
instance (x1 : Int) (x2 : Int) (x3 : Int) (x4 : Int) (x5 : ByteArray) : BA Try.prog 104 [(0, .int .i64 x1), (4, .agg #[.int .i64 x2, .int .i64 x3, .int .i64 x4, .string x5])] #[.int .i64 x1, .int .i64 0, .slice none 0 0, .slice none 0 0, .slice none 0 0, .int .i64 0, .int .i64 0, .int .i64 0, .int .i64 0, .int .i64 0, .int .i64 0, .int .i64 0, .int .i64 0, .int .i64 0, .int .i64 0, .int .i64 0, .int .i64 0, .int .i64 0, .int .i64 0, .int .i64 0, .int .i64 0, .int .i64 0, .int .i64 x2, .int .i64 x3, .int .i64 x4, .string x5] := ⟨fun w => by kernel_rfl⟩
instance (x1 : Bool) (x2 : Bool) (x3 : Bool) (x4 : Bool) : BA Try.prog 119 [(0, .bool x1), (1, .bool x2), (2, .bool x3), (3, .bool x4)] #[.bool x1, .bool x2, .bool x3, .bool x4] := ⟨fun w => by kernel_rfl⟩
instance (x1 : Int) : BA Try.prog 123 [(0, .int .i64 x1)] #[.int .i64 x1, .int .i64 0] := ⟨fun w => by kernel_rfl⟩
instance (x1 : Int) (x2 : Int) : BA Try.prog 123 [(0, .int .i64 x1), (1, .int .i64 x2)] #[.int .i64 x1, .int .i64 x2] := ⟨fun w => by kernel_rfl⟩
instance  : BS Try.prog 22 0 [] #[] 25 := ⟨fun w => by kernel_rfl⟩
instance (x1 : Int) (x2 : Int) : BS Try.prog 22 1 [(0, .agg #[.int .i64 x1, .int .i64 x2])] #[.int .i64 x1, .int .i64 x2] 25 := ⟨fun w => by kernel_rfl⟩
instance (x1 : Int) (x2 : Int) (x3 : Int) (x4 : Int) : BS Try.prog 22 2 [(0, .agg #[.int .i64 x1, .int .i64 x2]), (1, .agg #[.int .i64 x3, .int .i64 x4])] #[.int .i64 x1, .int .i64 x2, .int .i64 x3, .int .i64 x4] 25 := ⟨fun w => by kernel_rfl⟩
instance (x1 : Int) (x2 : Int) (x3 : Int) (x4 : Int) (x5 : Int) (x6 : Int) (x7 : Int) (x8 : Int) (x9 : ByteArray) : BS Try.prog 31 1 [(0, .agg #[.int .i64 x1, .int .i64 x2, .int .i64 x3, .int .i64 x4, .int .i64 x5, .int .i64 x6, .int .i64 x7, .int .i64 x8, .string x9])] #[.int .i64 x1, .int .i64 x2, .int .i64 x3, .int .i64 x4, .int .i64 x5, .int .i64 x6, .int .i64 x7, .int .i64 x8, .string x9] 38 := ⟨fun w => by kernel_rfl⟩
instance  : BS Try.prog 46 0 [] #[] 34 := ⟨fun w => by kernel_rfl⟩
instance (x1 : Int) (x2 : Int) (x3 : Int) (x4 : Int) : BS Try.prog 46 1 [(0, .agg #[.int .i64 x1, .int .i64 x2, .int .i64 x3, .int .i64 x4])] #[.int .i64 x1, .int .i64 x2, .int .i64 x3, .int .i64 x4] 34 := ⟨fun w => by kernel_rfl⟩
instance  : BS Try.prog 47 0 [] #[] 36 := ⟨fun w => by kernel_rfl⟩
instance (x1 : Int) (x2 : Int) (x3 : Int) (x4 : ByteArray) : BS Try.prog 47 1 [(0, .agg #[.int .i64 x1, .int .i64 x2, .int .i64 x3, .string x4])] #[.int .i64 x1, .int .i64 x2, .int .i64 x3, .string x4] 36 := ⟨fun w => by kernel_rfl⟩
instance (x1 : Int) : BS Try.prog 52 1 [(0, .int .i64 x1)] #[.int .i64 x1] 3 := ⟨fun w => by kernel_rfl⟩
instance (x1 : Int) (x2 : Int) : BS Try.prog 52 2 [(0, .int .i64 x1), (1, .int .i64 x2)] #[.int .i64 x1, .int .i64 x2] 3 := ⟨fun w => by kernel_rfl⟩
theorem eqS25 (d : Nat) (x1 : Int) (x2 : Int) (x3 : Int) (x4 : Int) : EqV Try.prog (d + 2) 25 (.agg #[.int .i64 x1, .int .i64 x2]) (.agg #[.int .i64 x3, .int .i64 x4]) (x1 = x3 ∧ x2 = x4) := eqvStruct Try.underlying25 (by kernel_rfl) (eqfCons (by rfl) (fun w => by kernel_rfl) (fun w => by kernel_rfl) (eqvInt Try.underlying3) (eqfLast (by rfl) (fun w => by kernel_rfl) (fun w => by kernel_rfl) (eqvInt Try.underlying3)))
instance (x1 : Int) (x2 : Int) (x3 : Int) (x4 : Int) : Bin Try.prog .eql 25 (.agg #[.int .i64 x1, .int .i64 x2]) (.agg #[.int .i64 x3, .int .i64 x4]) (.bool (decide (x1 = x3 ∧ x2 = x4))) := binEq (by kernel_rfl) (eqS25 9998 x1 x2 x3 x4)
instance (x1 : Int) (x2 : Int) (x3 : Int) (x4 : Int) : Bin Try.prog .neq 25 (.agg #[.int .i64 x1, .int .i64 x2]) (.agg #[.int .i64 x3, .int .i64 x4]) (.bool (decide ¬ (x1 = x3 ∧ x2 = x4))) := binNe (by kernel_rfl) (eqS25 9998 x1 x2 x3 x4)
theorem eqS34 (d : Nat) (x1 : Int) (x2 : Int) (x3 : Int) (x4 : Int) (x5 : Int) (x6 : Int) (x7 : Int) (x8 : Int) : EqV Try.prog (d + 3) 34 (.agg #[.int .i64 x1, .int .i64 x2, .int .i64 x3, .int .i64 x4]) (.agg #[.int .i64 x5, .int .i64 x6, .int .i64 x7, .int .i64 x8]) ((x1 = x5 ∧ x2 = x6) ∧ (x3 = x7 ∧ x4 = x8)) := eqvStruct Try.underlying34 (by kernel_rfl) (eqfCons (by rfl) (fun w => by kernel_rfl) (fun w => by kernel_rfl) (eqS25 (d + 0) _ _ _ _) (eqfLast (by rfl) (fun w => by kernel_rfl) (fun w => by kernel_rfl) (eqS25 (d + 0) _ _ _ _)))
instance (x1 : Int) (x2 : Int) (x3 : Int) (x4 : Int) (x5 : Int) (x6 : Int) (x7 : Int) (x8 : Int) : Bin Try.prog .eql 34 (.agg #[.int .i64 x1, .int .i64 x2, .int .i64 x3, .int .i64 x4]) (.agg #[.int .i64 x5, .int .i64 x6, .int .i64 x7, .int .i64 x8]) (.bool (decide ((x1 = x5 ∧ x2 = x6) ∧ (x3 = x7 ∧ x4 = x8)))) := binEq (by kernel_rfl) (eqS34 9997 x1 x2 x3 x4 x5 x6 x7 x8)
instance (x1 : Int) (x2 : Int) (x3 : Int) (x4 : Int) (x5 : Int) (x6 : Int) (x7 : Int) (x8 : Int) : Bin Try.prog .neq 34 (.agg #[.int .i64 x1, .int .i64 x2, .int .i64 x3, .int .i64 x4]) (.agg #[.int .i64 x5, .int .i64 x6, .int .i64 x7, .int .i64 x8]) (.bool (decide ¬ ((x1 = x5 ∧ x2 = x6) ∧ (x3 = x7 ∧ x4 = x8)))) := binNe (by kernel_rfl) (eqS34 9997 x1 x2 x3 x4 x5 x6 x7 x8)
theorem eqS36 (d : Nat) (x1 : Int) (x2 : Int) (x3 : Int) (x4 : ByteArray) (x5 : Int) (x6 : Int) (x7 : Int) (x8 : ByteArray) : EqV Try.prog (d + 3) 36 (.agg #[.int .i64 x1, .int .i64 x2, .int .i64 x3, .string x4]) (.agg #[.int .i64 x5, .int .i64 x6, .int .i64 x7, .string x8]) (x1 = x5 ∧ (x2 = x6 ∧ x3 = x7) ∧ x4 = x8) := eqvStruct Try.underlying36 (by kernel_rfl) (eqfCons (by rfl) (fun w => by kernel_rfl) (fun w => by kernel_rfl) (eqvInt Try.underlying3) (eqfCons (by rfl) (fun w => by kernel_rfl) (fun w => by kernel_rfl) (eqS25 (d + 0) _ _ _ _) (eqfLast (by rfl) (fun w => by kernel_rfl) (fun w => by kernel_rfl) (eqvStr Try.underlying9))))
instance (x1 : Int) (x2 : Int) (x3 : Int) (x4 : ByteArray) (x5 : Int) (x6 : Int) (x7 : Int) (x8 : ByteArray) : Bin Try.prog .eql 36 (.agg #[.int .i64 x1, .int .i64 x2, .int .i64 x3, .string x4]) (.agg #[.int .i64 x5, .int .i64 x6, .int .i64 x7, .string x8]) (.bool (decide (x1 = x5 ∧ (x2 = x6 ∧ x3 = x7) ∧ x4 = x8))) := binEq (by kernel_rfl) (eqS36 9997 x1 x2 x3 x4 x5 x6 x7 x8)
instance (x1 : Int) (x2 : Int) (x3 : Int) (x4 : ByteArray) (x5 : Int) (x6 : Int) (x7 : Int) (x8 : ByteArray) : Bin Try.prog .neq 36 (.agg #[.int .i64 x1, .int .i64 x2, .int .i64 x3, .string x4]) (.agg #[.int .i64 x5, .int .i64 x6, .int .i64 x7, .string x8]) (.bool (decide ¬ (x1 = x5 ∧ (x2 = x6 ∧ x3 = x7) ∧ x4 = x8))) := binNe (by kernel_rfl) (eqS36 9997 x1 x2 x3 x4 x5 x6 x7 x8)
theorem eqS99 (d : Nat) (x1 : Int) (x2 : Int) (x3 : Int) (x4 : Int) : EqV Try.prog (d + 2) 99 (.agg #[.int .i64 x1, .int .i64 x2]) (.agg #[.int .i64 x3, .int .i64 x4]) (x1 = x3 ∧ x2 = x4) := eqvStruct Try.underlying99 (by kernel_rfl) (eqfCons (by rfl) (fun w => by kernel_rfl) (fun w => by kernel_rfl) (eqvInt Try.underlying3) (eqfLast (by rfl) (fun w => by kernel_rfl) (fun w => by kernel_rfl) (eqvInt Try.underlying3)))
instance (x1 : Int) (x2 : Int) (x3 : Int) (x4 : Int) : Bin Try.prog .eql 99 (.agg #[.int .i64 x1, .int .i64 x2]) (.agg #[.int .i64 x3, .int .i64 x4]) (.bool (decide (x1 = x3 ∧ x2 = x4))) := binEq (by kernel_rfl) (eqS99 9998 x1 x2 x3 x4)
instance (x1 : Int) (x2 : Int) (x3 : Int) (x4 : Int) : Bin Try.prog .neq 99 (.agg #[.int .i64 x1, .int .i64 x2]) (.agg #[.int .i64 x3, .int .i64 x4]) (.bool (decide ¬ (x1 = x3 ∧ x2 = x4))) := binNe (by kernel_rfl) (eqS99 9998 x1 x2 x3 x4)
instance : Bin Try.prog .neq 102 (.agg #[.int .i64 0, .int .i64 0, .int .i64 0, .int .i64 0, .int .i64 0, .int .i64 0, .int .i64 0, .int .i64 0, .int .i64 0, .int .i64 0, .int .i64 0, .int .i64 0, .int .i64 0, .int .i64 0, .int .i64 0]) (.agg #[.int .i64 0, .int .i64 0, .int .i64 0, .int .i64 0, .int .i64 0, .int .i64 0, .int .i64 0, .int .i64 0, .int .i64 0, .int .i64 0, .int .i64 0, .int .i64 0, .int .i64 0, .int .i64 0, .int .i64 0]) (.bool false) := ⟨fun w => by kernel_rfl, fun _ a b w => run_eqGuard_agg w .neq 102 a b _ _ (by kernel_rfl)⟩
instance : Bin Try.prog .eql 102 (.agg #[.int .i64 0, .int .i64 0, .int .i64 0, .int .i64 0, .int .i64 0, .int .i64 0, .int .i64 0, .int .i64 0, .int .i64 0, .int .i64 0, .int .i64 0, .int .i64 0, .int .i64 0, .int .i64 0, .int .i64 0]) (.agg #[.int .i64 0, .int .i64 0, .int .i64 0, .int .i64 0, .int .i64 0, .int .i64 0, .int .i64 0, .int .i64 0, .int .i64 0, .int .i64 0, .int .i64 0, .int .i64 0, .int .i64 0, .int .i64 0, .int .i64 0]) (.bool true) := ⟨fun w => by kernel_rfl, fun _ a b w => run_eqGuard_agg w .eql 102 a b _ _ (by kernel_rfl)⟩
instance : KeyT Try.prog 25 ApiKey avApiKey := KeyT.agg Try.underlying25 (fun _ => ⟨_, rfl⟩) (fun e x w => by kernel_rfl) (fun x => sameBits_agg 9999 (by intro v hv; simp at hv; rcases hv with rfl | rfl <;> simp [Instr.sameBits, MapKept.bytes_beq])) (fun x y w => by
  have h := eqS25 9998 x.Base x.Step y.Base y.Step w
  rw [show Op.equal 25 (avApiKey x) (avApiKey y) = Op.equalIn 10000 25 (avApiKey x) (avApiKey y) from rfl]
  refine h.trans ?_
  congr 1
  exact decide_eq_decide.2 (by simp [iff_ApiKey]))
instance : KInj avApiKey := ⟨fun x y h => by simp at h; simp [iff_ApiKey, h]⟩
instance : KeyT Try.prog 34 ApiBox avApiBox := KeyT.agg Try.underlying34 (fun _ => ⟨_, rfl⟩) (fun e x w => by kernel_rfl) (fun x => sameBits_agg 9999 (by intro v hv; simp at hv; rcases hv with rfl | rfl | rfl | rfl <;> simp [Instr.sameBits, MapKept.bytes_beq])) (fun x y w => by
  have h := eqS34 9997 x.Under.Base x.Under.Step x.Load.Base x.Load.Step y.Under.Base y.Under.Step y.Load.Base y.Load.Step w
  rw [show Op.equal 34 (avApiBox x) (avApiBox y) = Op.equalIn 10000 34 (avApiBox x) (avApiBox y) from rfl]
  refine h.trans ?_
  congr 1
  exact decide_eq_decide.2 (by simp [iff_ApiBox, iff_ApiKey]))
instance : KInj avApiBox := ⟨fun x y h => by simp at h; simp [iff_ApiBox, iff_ApiKey, h]⟩
instance : KeyT Try.prog 36 ApiSealed avApiSealed := KeyT.agg Try.underlying36 (fun _ => ⟨_, rfl⟩) (fun e x w => by kernel_rfl) (fun x => sameBits_agg 9999 (by intro v hv; simp at hv; rcases hv with rfl | rfl | rfl | rfl <;> simp [Instr.sameBits, MapKept.bytes_beq])) (fun x y w => by
  have h := eqS36 9997 x.Epoch x.Under.Base x.Under.Step x.Text y.Epoch y.Under.Base y.Under.Step y.Text w
  rw [show Op.equal 36 (avApiSealed x) (avApiSealed y) = Op.equalIn 10000 36 (avApiSealed x) (avApiSealed y) from rfl]
  refine h.trans ?_
  congr 1
  exact decide_eq_decide.2 (by simp [iff_ApiSealed, iff_ApiKey]))
instance : KInj avApiSealed := ⟨fun x y h => by simp at h; simp [iff_ApiSealed, iff_ApiKey, h]⟩
theorem eqS38 (d : Nat) (x1 : Int) (x2 : Int) (x3 : Int) (x4 : Int) (x5 : Int) (x6 : Int) (x7 : Int) (x8 : Int) (x9 : ByteArray) (x10 : Int) (x11 : Int) (x12 : Int) (x13 : Int) (x14 : Int) (x15 : Int) (x16 : Int) (x17 : Int) (x18 : ByteArray) : EqV Try.prog (d + 4) 38 (.agg #[.int .i64 x1, .int .i64 x2, .int .i64 x3, .int .i64 x4, .int .i64 x5, .int .i64 x6, .int .i64 x7, .int .i64 x8, .string x9]) (.agg #[.int .i64 x10, .int .i64 x11, .int .i64 x12, .int .i64 x13, .int .i64 x14, .int .i64 x15, .int .i64 x16, .int .i64 x17, .string x18]) (x1 = x10 ∧ ((x2 = x11 ∧ x3 = x12) ∧ (x4 = x13 ∧ x5 = x14)) ∧ (x6 = x15 ∧ (x7 = x16 ∧ x8 = x17) ∧ x9 = x18)) := eqvStruct Try.underlying38 (by kernel_rfl) (eqfCons (by rfl) (fun w => by kernel_rfl) (fun w => by kernel_rfl) (eqvInt Try.underlying3) (eqfCons (by rfl) (fun w => by kernel_rfl) (fun w => by kernel_rfl) (eqS34 (d + 0) _ _ _ _ _ _ _ _) (eqfLast (by rfl) (fun w => by kernel_rfl) (fun w => by kernel_rfl) (eqS36 (d + 0) _ _ _ _ _ _ _ _))))
instance : KeyT Try.prog 38 Coterielaw19Op avCoterielaw19Op := KeyT.agg Try.underlying38 (fun _ => ⟨_, rfl⟩) (fun e x w => by kernel_rfl) (fun x => sameBits_agg 9999 (by intro v hv; simp at hv; rcases hv with rfl | rfl | rfl | rfl | rfl | rfl | rfl | rfl | rfl <;> simp [Instr.sameBits, MapKept.bytes_beq])) (fun x y w => by
  have h := eqS38 9996 x.Kind x.Box.Under.Base x.Box.Under.Step x.Box.Load.Base x.Box.Load.Step x.Text.Epoch x.Text.Under.Base x.Text.Under.Step x.Text.Text y.Kind y.Box.Under.Base y.Box.Under.Step y.Box.Load.Base y.Box.Load.Step y.Text.Epoch y.Text.Under.Base y.Text.Under.Step y.Text.Text w
  rw [show Op.equal 38 (avCoterielaw19Op x) (avCoterielaw19Op y) = Op.equalIn 10000 38 (avCoterielaw19Op x) (avCoterielaw19Op y) from rfl]
  refine h.trans ?_
  congr 1
  exact decide_eq_decide.2 (by simp [iff_Coterielaw19Op, iff_ApiBox, iff_ApiKey, iff_ApiSealed]))
instance : KInj avCoterielaw19Op := ⟨fun x y h => by simp at h; simp [iff_Coterielaw19Op, iff_ApiBox, iff_ApiKey, iff_ApiSealed, h]⟩
instance : NotI Try.prog 67 := ⟨fun v w => by kernel_rfl⟩
instance : NotI Try.prog 77 := ⟨fun v w => by kernel_rfl⟩
instance : NotI Try.prog 78 := ⟨fun v w => by kernel_rfl⟩
instance : Clo Try.prog 65 := Clo.of Try.func65 (by kernel_rfl) (by kernel_rfl) (by kernel_rfl) (by kernel_rfl)
instance : Fn1 Try.prog 9 := ⟨fun args w => by kernel_rfl⟩
instance : Fn1 Try.prog 10 := ⟨fun args w => by kernel_rfl⟩
instance : Fn1 Try.prog 11 := ⟨fun args w => by kernel_rfl⟩
instance : Fn1 Try.prog 12 := ⟨fun args w => by kernel_rfl⟩
instance : Fn1 Try.prog 13 := ⟨fun args w => by kernel_rfl⟩
instance : Fn1 Try.prog 14 := ⟨fun args w => by kernel_rfl⟩
instance : Fn1 Try.prog 15 := ⟨fun args w => by kernel_rfl⟩
instance : Fn1 Try.prog 16 := ⟨fun args w => by kernel_rfl⟩
instance : Fn1 Try.prog 17 := ⟨fun args w => by kernel_rfl⟩
instance : Fn1 Try.prog 18 := ⟨fun args w => by kernel_rfl⟩
instance : Fn1 Try.prog 19 := ⟨fun args w => by kernel_rfl⟩
instance : Fn1 Try.prog 20 := ⟨fun args w => by kernel_rfl⟩
instance : Fn1 Try.prog 21 := ⟨fun args w => by kernel_rfl⟩
instance : Fn1 Try.prog 22 := ⟨fun args w => by kernel_rfl⟩
instance : Fn1 Try.prog 23 := ⟨fun args w => by kernel_rfl⟩
instance : Fn1 Try.prog 24 := ⟨fun args w => by kernel_rfl⟩
instance : Fn1 Try.prog 25 := ⟨fun args w => by kernel_rfl⟩
instance : Fn1 Try.prog 26 := ⟨fun args w => by kernel_rfl⟩
instance : Fn1 Try.prog 27 := ⟨fun args w => by kernel_rfl⟩
instance : Fn1 Try.prog 28 := ⟨fun args w => by kernel_rfl⟩
instance : Fn1 Try.prog 29 := ⟨fun args w => by kernel_rfl⟩
instance : Fn1 Try.prog 30 := ⟨fun args w => by kernel_rfl⟩
instance : Fn1 Try.prog 31 := ⟨fun args w => by kernel_rfl⟩
instance : Fn1 Try.prog 32 := ⟨fun args w => by kernel_rfl⟩
instance : Fn1 Try.prog 33 := ⟨fun args w => by kernel_rfl⟩
instance : Fn1 Try.prog 34 := ⟨fun args w => by kernel_rfl⟩
instance : Fn1 Try.prog 35 := ⟨fun args w => by kernel_rfl⟩
instance : Fn1 Try.prog 36 := ⟨fun args w => by kernel_rfl⟩
instance : Fn1 Try.prog 37 := ⟨fun args w => by kernel_rfl⟩
instance : Fn1 Try.prog 38 := ⟨fun args w => by kernel_rfl⟩
instance : Fn1 Try.prog 40 := ⟨fun args w => by kernel_rfl⟩
instance : Fn1 Try.prog 41 := ⟨fun args w => by kernel_rfl⟩
instance : Fn1 Try.prog 42 := ⟨fun args w => by kernel_rfl⟩
instance : Fn1 Try.prog 43 := ⟨fun args w => by kernel_rfl⟩
instance : Fn1 Try.prog 44 := ⟨fun args w => by kernel_rfl⟩
instance : Fn1 Try.prog 45 := ⟨fun args w => by kernel_rfl⟩
instance : Fn1 Try.prog 46 := ⟨fun args w => by kernel_rfl⟩
instance : Fn1 Try.prog 47 := ⟨fun args w => by kernel_rfl⟩
instance : Fn1 Try.prog 48 := ⟨fun args w => by kernel_rfl⟩
instance : Fn1 Try.prog 49 := ⟨fun args w => by kernel_rfl⟩
instance : Fn1 Try.prog 50 := ⟨fun args w => by kernel_rfl⟩
instance : Fn1 Try.prog 51 := ⟨fun args w => by kernel_rfl⟩
instance : Fn1 Try.prog 52 := ⟨fun args w => by kernel_rfl⟩
instance : Fn1 Try.prog 53 := ⟨fun args w => by kernel_rfl⟩
instance : Fn1 Try.prog 54 := ⟨fun args w => by kernel_rfl⟩
instance : Fn1 Try.prog 55 := ⟨fun args w => by kernel_rfl⟩
instance : Fn1 Try.prog 56 := ⟨fun args w => by kernel_rfl⟩
instance : Fn1 Try.prog 57 := ⟨fun args w => by kernel_rfl⟩
instance : Fn1 Try.prog 58 := ⟨fun args w => by kernel_rfl⟩
instance : Fn1 Try.prog 59 := ⟨fun args w => by kernel_rfl⟩
instance : Fn1 Try.prog 60 := ⟨fun args w => by kernel_rfl⟩
instance : Fn1 Try.prog 61 := ⟨fun args w => by kernel_rfl⟩
instance : Fn1 Try.prog 63 := ⟨fun args w => by kernel_rfl⟩
instance : Fn1 Try.prog 64 := ⟨fun args w => by kernel_rfl⟩
instance : Fn1 Try.prog 66 := ⟨fun args w => by kernel_rfl⟩
instance : Fn1 Try.prog 67 := ⟨fun args w => by kernel_rfl⟩
instance : Fn1 Try.prog 68 := ⟨fun args w => by kernel_rfl⟩
instance : Fn1 Try.prog 69 := ⟨fun args w => by kernel_rfl⟩
instance : Fn1 Try.prog 70 := ⟨fun args w => by kernel_rfl⟩
instance : Fn1 Try.prog 71 := ⟨fun args w => by kernel_rfl⟩
instance : Fn1 Try.prog 72 := ⟨fun args w => by kernel_rfl⟩
instance : Fn1 Try.prog 73 := ⟨fun args w => by kernel_rfl⟩
instance : Fn1 Try.prog 74 := ⟨fun args w => by kernel_rfl⟩
instance : Fn1 Try.prog 75 := ⟨fun args w => by kernel_rfl⟩
instance : Fn1 Try.prog 76 := ⟨fun args w => by kernel_rfl⟩
instance : Fn1 Try.prog 77 := ⟨fun args w => by kernel_rfl⟩
instance : Fn1 Try.prog 78 := ⟨fun args w => by kernel_rfl⟩
instance : Fn1 Try.prog 79 := ⟨fun args w => by kernel_rfl⟩
instance : Fn1 Try.prog 80 := ⟨fun args w => by kernel_rfl⟩
instance : Fn1 Try.prog 81 := ⟨fun args w => by kernel_rfl⟩
instance : Fn1 Try.prog 82 := ⟨fun args w => by kernel_rfl⟩
instance : Fn1 Try.prog 83 := ⟨fun args w => by kernel_rfl⟩
instance : Fn1 Try.prog 84 := ⟨fun args w => by kernel_rfl⟩
instance : Fn1 Try.prog 86 := ⟨fun args w => by kernel_rfl⟩
instance : Fn1 Try.prog 87 := ⟨fun args w => by kernel_rfl⟩
instance : Fn1 Try.prog 88 := ⟨fun args w => by kernel_rfl⟩
instance : Fn1 Try.prog 89 := ⟨fun args w => by kernel_rfl⟩
instance : Fn1 Try.prog 90 := ⟨fun args w => by kernel_rfl⟩
instance : Fn1 Try.prog 91 := ⟨fun args w => by kernel_rfl⟩
instance : Fn1 Try.prog 92 := ⟨fun args w => by kernel_rfl⟩
instance : Fn1 Try.prog 93 := ⟨fun args w => by kernel_rfl⟩
instance : Fn1 Try.prog 94 := ⟨fun args w => by kernel_rfl⟩
instance : Fn1 Try.prog 95 := ⟨fun args w => by kernel_rfl⟩
instance : Fn1 Try.prog 96 := ⟨fun args w => by kernel_rfl⟩
instance : Fn1 Try.prog 97 := ⟨fun args w => by kernel_rfl⟩
instance : Fn1 Try.prog 98 := ⟨fun args w => by kernel_rfl⟩
instance : Fn1 Try.prog 99 := ⟨fun args w => by kernel_rfl⟩
instance : Fn1 Try.prog 100 := ⟨fun args w => by kernel_rfl⟩
instance : Fn1 Try.prog 101 := ⟨fun args w => by kernel_rfl⟩
instance : Fn1 Try.prog 102 := ⟨fun args w => by kernel_rfl⟩
instance : Fn1 Try.prog 103 := ⟨fun args w => by kernel_rfl⟩
instance : Fn1 Try.prog 104 := ⟨fun args w => by kernel_rfl⟩
instance : Fn1 Try.prog 105 := ⟨fun args w => by kernel_rfl⟩
instance : Fn1 Try.prog 106 := ⟨fun args w => by kernel_rfl⟩
instance : Fn1 Try.prog 107 := ⟨fun args w => by kernel_rfl⟩
instance : Fn1 Try.prog 108 := ⟨fun args w => by kernel_rfl⟩
instance : Fn1 Try.prog 109 := ⟨fun args w => by kernel_rfl⟩
instance : Fn1 Try.prog 110 := ⟨fun args w => by kernel_rfl⟩
instance : Fn1 Try.prog 111 := ⟨fun args w => by kernel_rfl⟩
end Go.Proofs.Ytedemhmlaodblaa
