/- What the symbolic execution asks of this program's types and functions, laid by a program of mine (gen_ty.py); each is proved by the kernel. -/
import Derived.Test.YtbkobjdeijdpgaaProg
import Derived.Test.YtbkobjdeijdpgaaSo
import Derived.Test.YtbkobjdeijdpgaaSr
import Derived.Test.YtbkobjdeijdpgaaPz
import Derived.KernelRfl
namespace Go.Proofs.Ytbkobjdeijdpgaa
open Go Go.SX
set_option linter.unusedVariables false
set_option linter.unusedSimpArgs false
set_option maxRecDepth 100000
instance : Und Try.prog 3 (.int .i64) := ⟨Try.underlying3⟩
instance : Sc Try.prog 3 := ⟨fun w => by kernel_rfl⟩
instance : Sz Try.prog 3 1 := ⟨fun w => by kernel_rfl⟩
instance : Zr Try.prog 3 (.int .i64 0) := ⟨fun w => by kernel_rfl⟩
instance : Und Try.prog 4 .bool := ⟨Try.underlying4⟩
instance : Sc Try.prog 4 := ⟨fun w => by kernel_rfl⟩
instance : Sz Try.prog 4 1 := ⟨fun w => by kernel_rfl⟩
instance : Zr Try.prog 4 (.bool false) := ⟨fun w => by kernel_rfl⟩
instance : Und Try.prog 5 (.int .u8) := ⟨Try.underlying5⟩
instance : Sc Try.prog 5 := ⟨fun w => by kernel_rfl⟩
instance : Sz Try.prog 5 1 := ⟨fun w => by kernel_rfl⟩
instance : Zr Try.prog 5 (.int .u8 0) := ⟨fun w => by kernel_rfl⟩
instance : Und Try.prog 9 .string := ⟨Try.underlying9⟩
instance : Sc Try.prog 9 := ⟨fun w => by kernel_rfl⟩
instance : Sz Try.prog 9 1 := ⟨fun w => by kernel_rfl⟩
instance : Zr Try.prog 9 (.string ByteArray.empty) := ⟨fun w => by kernel_rfl⟩
instance : Ag Try.prog 23 2 := ⟨fun w => by kernel_rfl, fun w => by kernel_rfl⟩
instance : Sz Try.prog 23 2 := ⟨fun w => by kernel_rfl⟩
instance : Zr Try.prog 23 (.agg #[.int .i64 0, .int .i64 0]) := ⟨fun w => by kernel_rfl⟩
instance : Fl Try.prog 23 0 0 := ⟨fun b o w => by kernel_rfl⟩
instance : Fl Try.prog 23 1 1 := ⟨fun b o w => by kernel_rfl⟩
instance : Und Try.prog 26 (.int .i64) := ⟨Try.underlying26⟩
instance : Sc Try.prog 26 := ⟨fun w => by kernel_rfl⟩
instance : Sz Try.prog 26 1 := ⟨fun w => by kernel_rfl⟩
instance : Zr Try.prog 26 (.int .i64 0) := ⟨fun w => by kernel_rfl⟩
instance : Und Try.prog 30 (.int .u64) := ⟨Try.underlying30⟩
instance : Sc Try.prog 30 := ⟨fun w => by kernel_rfl⟩
instance : Sz Try.prog 30 1 := ⟨fun w => by kernel_rfl⟩
instance : Zr Try.prog 30 (.int .u64 0) := ⟨fun w => by kernel_rfl⟩
instance : Ag Try.prog 34 4 := ⟨fun w => by kernel_rfl, fun w => by kernel_rfl⟩
instance : Sz Try.prog 34 4 := ⟨fun w => by kernel_rfl⟩
instance : Zr Try.prog 34 (.agg #[.int .i64 0, .int .i64 0, .int .i64 0, .int .i64 0]) := ⟨fun w => by kernel_rfl⟩
instance : Fl Try.prog 34 0 0 := ⟨fun b o w => by kernel_rfl⟩
instance : Fl Try.prog 34 1 2 := ⟨fun b o w => by kernel_rfl⟩
instance : Und Try.prog 39 (.slice 48) := ⟨Try.underlying39⟩
instance : Sc Try.prog 39 := ⟨fun w => by kernel_rfl⟩
instance : Sz Try.prog 39 1 := ⟨fun w => by kernel_rfl⟩
instance : Zr Try.prog 39 (.slice none 0 0) := ⟨fun w => by kernel_rfl⟩
instance : El Try.prog 48 3 32 := elOf (z := .agg #[.int .i64 0, .int .i64 0, .string ByteArray.empty]) (by kernel_rfl) (by rfl) (by omega)
instance : Und Try.prog 40 (.pointer 84) := ⟨Try.underlying40⟩
instance : Sc Try.prog 40 := ⟨fun w => by kernel_rfl⟩
instance : Sz Try.prog 40 1 := ⟨fun w => by kernel_rfl⟩
instance : Zr Try.prog 40 (.pointer none) := ⟨fun w => by kernel_rfl⟩
instance : Und Try.prog 43 (.slice 51) := ⟨Try.underlying43⟩
instance : Sc Try.prog 43 := ⟨fun w => by kernel_rfl⟩
instance : Sz Try.prog 43 1 := ⟨fun w => by kernel_rfl⟩
instance : Zr Try.prog 43 (.slice none 0 0) := ⟨fun w => by kernel_rfl⟩
instance : El Try.prog 51 3 32 := elOf (z := .agg #[.int .i64 0, .int .i64 0, .string ByteArray.empty]) (by kernel_rfl) (by rfl) (by omega)
instance : Und Try.prog 44 (.slice 4) := ⟨Try.underlying44⟩
instance : Sc Try.prog 44 := ⟨fun w => by kernel_rfl⟩
instance : Sz Try.prog 44 1 := ⟨fun w => by kernel_rfl⟩
instance : Zr Try.prog 44 (.slice none 0 0) := ⟨fun w => by kernel_rfl⟩
instance : El Try.prog 4 1 1 := elOf (z := .bool false) (by kernel_rfl) (by rfl) (by omega)
instance : Ag Try.prog 46 2 := ⟨fun w => by kernel_rfl, fun w => by kernel_rfl⟩
instance : Sz Try.prog 46 2 := ⟨fun w => by kernel_rfl⟩
instance : Zr Try.prog 46 (.agg #[.slice none 0 0, .slice none 0 0]) := ⟨fun w => by kernel_rfl⟩
instance : Fl Try.prog 46 0 0 := ⟨fun b o w => by kernel_rfl⟩
instance : Fl Try.prog 46 1 1 := ⟨fun b o w => by kernel_rfl⟩
instance : Ag Try.prog 48 3 := ⟨fun w => by kernel_rfl, fun w => by kernel_rfl⟩
instance : Sz Try.prog 48 3 := ⟨fun w => by kernel_rfl⟩
instance : Zr Try.prog 48 (.agg #[.int .i64 0, .int .i64 0, .string ByteArray.empty]) := ⟨fun w => by kernel_rfl⟩
instance : Fl Try.prog 48 0 0 := ⟨fun b o w => by kernel_rfl⟩
instance : Fl Try.prog 48 1 1 := ⟨fun b o w => by kernel_rfl⟩
instance : Fl Try.prog 48 2 2 := ⟨fun b o w => by kernel_rfl⟩
instance : Ag Try.prog 51 3 := ⟨fun w => by kernel_rfl, fun w => by kernel_rfl⟩
instance : Sz Try.prog 51 3 := ⟨fun w => by kernel_rfl⟩
instance : Zr Try.prog 51 (.agg #[.int .i64 0, .int .i64 0, .string ByteArray.empty]) := ⟨fun w => by kernel_rfl⟩
instance : Fl Try.prog 51 0 0 := ⟨fun b o w => by kernel_rfl⟩
instance : Fl Try.prog 51 1 1 := ⟨fun b o w => by kernel_rfl⟩
instance : Fl Try.prog 51 2 2 := ⟨fun b o w => by kernel_rfl⟩
instance : Und Try.prog 58 (.map 3 3) := ⟨Try.underlying58⟩
instance : Sc Try.prog 58 := ⟨fun w => by kernel_rfl⟩
instance : Sz Try.prog 58 1 := ⟨fun w => by kernel_rfl⟩
instance : Zr Try.prog 58 (.map none) := ⟨fun w => by kernel_rfl⟩
instance : Und Try.prog 59 (.int .u64) := ⟨Try.underlying59⟩
instance : Sc Try.prog 59 := ⟨fun w => by kernel_rfl⟩
instance : Sz Try.prog 59 1 := ⟨fun w => by kernel_rfl⟩
instance : Zr Try.prog 59 (.int .u64 0) := ⟨fun w => by kernel_rfl⟩
instance : Und Try.prog 60 (.int .u32) := ⟨Try.underlying60⟩
instance : Sc Try.prog 60 := ⟨fun w => by kernel_rfl⟩
instance : Sz Try.prog 60 1 := ⟨fun w => by kernel_rfl⟩
instance : Zr Try.prog 60 (.int .u32 0) := ⟨fun w => by kernel_rfl⟩
instance : Und Try.prog 69 (.slice 75) := ⟨Try.underlying69⟩
instance : Sc Try.prog 69 := ⟨fun w => by kernel_rfl⟩
instance : Sz Try.prog 69 1 := ⟨fun w => by kernel_rfl⟩
instance : Zr Try.prog 69 (.slice none 0 0) := ⟨fun w => by kernel_rfl⟩
instance : El Try.prog 75 9 80 := elOf (z := .agg #[.int .i64 0, .int .i64 0, .int .i64 0, .int .i64 0, .int .i64 0, .int .i64 0, .int .i64 0, .int .i64 0, .string ByteArray.empty]) (by kernel_rfl) (by rfl) (by omega)
instance : Und Try.prog 70 (.pointer 95) := ⟨Try.underlying70⟩
instance : Sc Try.prog 70 := ⟨fun w => by kernel_rfl⟩
instance : Sz Try.prog 70 1 := ⟨fun w => by kernel_rfl⟩
instance : Zr Try.prog 70 (.pointer none) := ⟨fun w => by kernel_rfl⟩
instance : Ag Try.prog 73 4 := ⟨fun w => by kernel_rfl, fun w => by kernel_rfl⟩
instance : Sz Try.prog 73 4 := ⟨fun w => by kernel_rfl⟩
instance : Zr Try.prog 73 (.agg #[.int .i64 0, .int .i64 0, .int .i64 0, .string ByteArray.empty]) := ⟨fun w => by kernel_rfl⟩
instance : Fl Try.prog 73 0 0 := ⟨fun b o w => by kernel_rfl⟩
instance : Fl Try.prog 73 1 1 := ⟨fun b o w => by kernel_rfl⟩
instance : Fl Try.prog 73 2 3 := ⟨fun b o w => by kernel_rfl⟩
instance : Ag Try.prog 75 9 := ⟨fun w => by kernel_rfl, fun w => by kernel_rfl⟩
instance : Sz Try.prog 75 9 := ⟨fun w => by kernel_rfl⟩
instance : Zr Try.prog 75 (.agg #[.int .i64 0, .int .i64 0, .int .i64 0, .int .i64 0, .int .i64 0, .int .i64 0, .int .i64 0, .int .i64 0, .string ByteArray.empty]) := ⟨fun w => by kernel_rfl⟩
instance : Fl Try.prog 75 0 0 := ⟨fun b o w => by kernel_rfl⟩
instance : Fl Try.prog 75 1 1 := ⟨fun b o w => by kernel_rfl⟩
instance : Fl Try.prog 75 2 5 := ⟨fun b o w => by kernel_rfl⟩
instance : Und Try.prog 78 (.slice 34) := ⟨Try.underlying78⟩
instance : Sc Try.prog 78 := ⟨fun w => by kernel_rfl⟩
instance : Sz Try.prog 78 1 := ⟨fun w => by kernel_rfl⟩
instance : Zr Try.prog 78 (.slice none 0 0) := ⟨fun w => by kernel_rfl⟩
instance : El Try.prog 34 4 32 := elOf (z := .agg #[.int .i64 0, .int .i64 0, .int .i64 0, .int .i64 0]) (by kernel_rfl) (by rfl) (by omega)
instance : Und Try.prog 79 (.slice 23) := ⟨Try.underlying79⟩
instance : Sc Try.prog 79 := ⟨fun w => by kernel_rfl⟩
instance : Sz Try.prog 79 1 := ⟨fun w => by kernel_rfl⟩
instance : Zr Try.prog 79 (.slice none 0 0) := ⟨fun w => by kernel_rfl⟩
instance : El Try.prog 23 2 16 := elOf (z := .agg #[.int .i64 0, .int .i64 0]) (by kernel_rfl) (by rfl) (by omega)
instance : Und Try.prog 82 (.map 3 51) := ⟨Try.underlying82⟩
instance : Sc Try.prog 82 := ⟨fun w => by kernel_rfl⟩
instance : Sz Try.prog 82 1 := ⟨fun w => by kernel_rfl⟩
instance : Zr Try.prog 82 (.map none) := ⟨fun w => by kernel_rfl⟩
instance : Ag Try.prog 84 2 := ⟨fun w => by kernel_rfl, fun w => by kernel_rfl⟩
instance : Sz Try.prog 84 2 := ⟨fun w => by kernel_rfl⟩
instance : Zr Try.prog 84 (.agg #[.slice none 0 0, .map none]) := ⟨fun w => by kernel_rfl⟩
instance : Fl Try.prog 84 0 0 := ⟨fun b o w => by kernel_rfl⟩
instance : Fl Try.prog 84 1 1 := ⟨fun b o w => by kernel_rfl⟩
instance : Und Try.prog 91 (.map 34 3) := ⟨Try.underlying91⟩
instance : Sc Try.prog 91 := ⟨fun w => by kernel_rfl⟩
instance : Sz Try.prog 91 1 := ⟨fun w => by kernel_rfl⟩
instance : Zr Try.prog 91 (.map none) := ⟨fun w => by kernel_rfl⟩
instance : Und Try.prog 92 (.map 73 3) := ⟨Try.underlying92⟩
instance : Sc Try.prog 92 := ⟨fun w => by kernel_rfl⟩
instance : Sz Try.prog 92 1 := ⟨fun w => by kernel_rfl⟩
instance : Zr Try.prog 92 (.map none) := ⟨fun w => by kernel_rfl⟩
instance : Und Try.prog 93 (.map 3 78) := ⟨Try.underlying93⟩
instance : Sc Try.prog 93 := ⟨fun w => by kernel_rfl⟩
instance : Sz Try.prog 93 1 := ⟨fun w => by kernel_rfl⟩
instance : Zr Try.prog 93 (.map none) := ⟨fun w => by kernel_rfl⟩
instance : Ag Try.prog 95 4 := ⟨fun w => by kernel_rfl, fun w => by kernel_rfl⟩
instance : Sz Try.prog 95 4 := ⟨fun w => by kernel_rfl⟩
instance : Zr Try.prog 95 (.agg #[.map none, .map none, .map none, .map none]) := ⟨fun w => by kernel_rfl⟩
instance : Fl Try.prog 95 0 0 := ⟨fun b o w => by kernel_rfl⟩
instance : Fl Try.prog 95 1 1 := ⟨fun b o w => by kernel_rfl⟩
instance : Fl Try.prog 95 2 2 := ⟨fun b o w => by kernel_rfl⟩
instance : Fl Try.prog 95 3 3 := ⟨fun b o w => by kernel_rfl⟩
instance : Und Try.prog 98 (.slice 3) := ⟨Try.underlying98⟩
instance : Sc Try.prog 98 := ⟨fun w => by kernel_rfl⟩
instance : Sz Try.prog 98 1 := ⟨fun w => by kernel_rfl⟩
instance : Zr Try.prog 98 (.slice none 0 0) := ⟨fun w => by kernel_rfl⟩
instance : El Try.prog 3 1 8 := elOf (z := .int .i64 0) (by kernel_rfl) (by rfl) (by omega)
instance : Und Try.prog 107 (.slice 123) := ⟨Try.underlying107⟩
instance : Sc Try.prog 107 := ⟨fun w => by kernel_rfl⟩
instance : Sz Try.prog 107 1 := ⟨fun w => by kernel_rfl⟩
instance : Zr Try.prog 107 (.slice none 0 0) := ⟨fun w => by kernel_rfl⟩
instance : El Try.prog 123 2 16 := elOf (z := .agg #[.int .i64 0, .int .i64 0]) (by kernel_rfl) (by rfl) (by omega)
instance : Und Try.prog 108 (.slice 127) := ⟨Try.underlying108⟩
instance : Sc Try.prog 108 := ⟨fun w => by kernel_rfl⟩
instance : Sz Try.prog 108 1 := ⟨fun w => by kernel_rfl⟩
instance : Zr Try.prog 108 (.slice none 0 0) := ⟨fun w => by kernel_rfl⟩
instance : El Try.prog 127 6 48 := elOf (z := .agg #[.int .i64 0, .int .i64 0, .int .i64 0, .int .i64 0, .int .i64 0, .int .i64 0]) (by kernel_rfl) (by rfl) (by omega)
instance : Ag Try.prog 110 4 := ⟨fun w => by kernel_rfl, fun w => by kernel_rfl⟩
instance : Sz Try.prog 110 4 := ⟨fun w => by kernel_rfl⟩
instance : Zr Try.prog 110 (.agg #[.int .i64 0, .slice none 0 0, .slice none 0 0, .slice none 0 0]) := ⟨fun w => by kernel_rfl⟩
instance : Fl Try.prog 110 0 0 := ⟨fun b o w => by kernel_rfl⟩
instance : Fl Try.prog 110 1 1 := ⟨fun b o w => by kernel_rfl⟩
instance : Fl Try.prog 110 2 2 := ⟨fun b o w => by kernel_rfl⟩
instance : Fl Try.prog 110 3 3 := ⟨fun b o w => by kernel_rfl⟩
instance : Ag Try.prog 112 2 := ⟨fun w => by kernel_rfl, fun w => by kernel_rfl⟩
instance : Sz Try.prog 112 2 := ⟨fun w => by kernel_rfl⟩
instance : Zr Try.prog 112 (.agg #[.int .i64 0, .int .i64 0]) := ⟨fun w => by kernel_rfl⟩
instance : Fl Try.prog 112 0 0 := ⟨fun b o w => by kernel_rfl⟩
instance : Fl Try.prog 112 1 1 := ⟨fun b o w => by kernel_rfl⟩
instance : Und Try.prog 113 (.array 3 34) := ⟨Try.underlying113⟩
instance : Ag Try.prog 113 12 := ⟨fun w => by kernel_rfl, fun w => by kernel_rfl⟩
instance : Sz Try.prog 113 12 := ⟨fun w => by kernel_rfl⟩
instance : Zr Try.prog 113 (.agg #[.int .i64 0, .int .i64 0, .int .i64 0, .int .i64 0, .int .i64 0, .int .i64 0, .int .i64 0, .int .i64 0, .int .i64 0, .int .i64 0, .int .i64 0, .int .i64 0]) := ⟨fun w => by kernel_rfl⟩
instance : Ag Try.prog 115 15 := ⟨fun w => by kernel_rfl, fun w => by kernel_rfl⟩
instance : Sz Try.prog 115 15 := ⟨fun w => by kernel_rfl⟩
instance : Zr Try.prog 115 (.agg #[.int .i64 0, .int .i64 0, .int .i64 0, .int .i64 0, .int .i64 0, .int .i64 0, .int .i64 0, .int .i64 0, .int .i64 0, .int .i64 0, .int .i64 0, .int .i64 0, .int .i64 0, .int .i64 0, .int .i64 0]) := ⟨fun w => by kernel_rfl⟩
instance : Fl Try.prog 115 0 0 := ⟨fun b o w => by kernel_rfl⟩
instance : Fl Try.prog 115 1 1 := ⟨fun b o w => by kernel_rfl⟩
instance : Fl Try.prog 115 2 2 := ⟨fun b o w => by kernel_rfl⟩
instance : Fl Try.prog 115 3 3 := ⟨fun b o w => by kernel_rfl⟩
instance : Ag Try.prog 117 26 := ⟨fun w => by kernel_rfl, fun w => by kernel_rfl⟩
instance : Sz Try.prog 117 26 := ⟨fun w => by kernel_rfl⟩
instance : Zr Try.prog 117 (.agg #[.int .i64 0, .int .i64 0, .slice none 0 0, .slice none 0 0, .slice none 0 0, .int .i64 0, .int .i64 0, .int .i64 0, .int .i64 0, .int .i64 0, .int .i64 0, .int .i64 0, .int .i64 0, .int .i64 0, .int .i64 0, .int .i64 0, .int .i64 0, .int .i64 0, .int .i64 0, .int .i64 0, .int .i64 0, .int .i64 0, .int .i64 0, .int .i64 0, .int .i64 0, .string ByteArray.empty]) := ⟨fun w => by kernel_rfl⟩
instance : Fl Try.prog 117 0 0 := ⟨fun b o w => by kernel_rfl⟩
instance : Fl Try.prog 117 1 1 := ⟨fun b o w => by kernel_rfl⟩
instance : Fl Try.prog 117 2 5 := ⟨fun b o w => by kernel_rfl⟩
instance : Fl Try.prog 117 3 7 := ⟨fun b o w => by kernel_rfl⟩
instance : Fl Try.prog 117 4 22 := ⟨fun b o w => by kernel_rfl⟩
instance : Und Try.prog 119 (.array 4 4) := ⟨Try.underlying119⟩
instance : Ag Try.prog 119 4 := ⟨fun w => by kernel_rfl, fun w => by kernel_rfl⟩
instance : Sz Try.prog 119 4 := ⟨fun w => by kernel_rfl⟩
instance : Zr Try.prog 119 (.agg #[.bool false, .bool false, .bool false, .bool false]) := ⟨fun w => by kernel_rfl⟩
instance : Ag Try.prog 123 2 := ⟨fun w => by kernel_rfl, fun w => by kernel_rfl⟩
instance : Sz Try.prog 123 2 := ⟨fun w => by kernel_rfl⟩
instance : Zr Try.prog 123 (.agg #[.int .i64 0, .int .i64 0]) := ⟨fun w => by kernel_rfl⟩
instance : Fl Try.prog 123 0 0 := ⟨fun b o w => by kernel_rfl⟩
instance : Fl Try.prog 123 1 1 := ⟨fun b o w => by kernel_rfl⟩
instance : Ag Try.prog 127 6 := ⟨fun w => by kernel_rfl, fun w => by kernel_rfl⟩
instance : Sz Try.prog 127 6 := ⟨fun w => by kernel_rfl⟩
instance : Zr Try.prog 127 (.agg #[.int .i64 0, .int .i64 0, .int .i64 0, .int .i64 0, .int .i64 0, .int .i64 0]) := ⟨fun w => by kernel_rfl⟩
instance : Fl Try.prog 127 0 0 := ⟨fun b o w => by kernel_rfl⟩
instance : Fl Try.prog 127 1 1 := ⟨fun b o w => by kernel_rfl⟩
instance : Fl Try.prog 127 2 2 := ⟨fun b o w => by kernel_rfl⟩
instance : KeyT Try.prog 3 Int (fun x => .int .i64 x) := KeyT.int Try.underlying3
instance : Mixed Try.prog := ⟨by kernel_rfl⟩
instance : Opn Try.prog 3 Int (fun x => [.int .i64 x]) inI64 := opnI64 Try.underlying3
instance : Opn Try.prog 4 Bool (fun x => [.bool x]) (fun _ => True) := opnBool Try.underlying4
instance : Opn Try.prog 5 Int (fun x => [.int .u8 x]) inU8 := opnU8 Try.underlying5
instance : Opn Try.prog 9 ByteArray (fun x => [.string x]) (fun x => x.size ≤ maxLen) := opnStr Try.underlying9
instance : Opn Try.prog 26 Int (fun x => [.int .i64 x]) inI64 := opnI64 Try.underlying26
instance : Opn Try.prog 30 Int (fun x => [.int .u64 x]) inU64 := opnU64 Try.underlying30
instance : Opn Try.prog 59 Int (fun x => [.int .u64 x]) inU64 := opnU64 Try.underlying59
structure Coterielaw20Op where
  Kind : Int
  N : Int
  Bytes : ByteArray
deriving DecidableEq
theorem iff_Coterielaw20Op (x y : Coterielaw20Op) : x = y ↔ x.Kind = y.Kind ∧ x.N = y.N ∧ x.Bytes = y.Bytes := by cases x; cases y; simp
abbrev cvCoterielaw20Op (x : Coterielaw20Op) : List Value := [.int .i64 x.Kind, .int .i64 x.N, .string x.Bytes]
abbrev avCoterielaw20Op (x : Coterielaw20Op) : Value := .agg #[.int .i64 x.Kind, .int .i64 x.N, .string x.Bytes]
instance : GetF cvCoterielaw20Op 0 (fun x => .int .i64 x.Kind) := ⟨fun _ => rfl⟩
instance : GetF cvCoterielaw20Op 1 (fun x => .int .i64 x.N) := ⟨fun _ => rfl⟩
instance : GetF cvCoterielaw20Op 2 (fun x => .string x.Bytes) := ⟨fun _ => rfl⟩
instance : ElT Try.prog 48 Coterielaw20Op 3 cvCoterielaw20Op avCoterielaw20Op := ElT.agg inferInstance (fun _ => rfl) (fun x y hy => by simp at hy; rcases hy with rfl | rfl | rfl <;> rfl)
instance (x1 : Int) (x2 : Int) (x3 : ByteArray) : Cvt cvCoterielaw20Op [.int .i64 x1, .int .i64 x2, .string x3] ⟨x1, x2, x3⟩ := ⟨rfl⟩
instance (x1 : Int) (x2 : Int) (x3 : ByteArray) : Vvt avCoterielaw20Op (.agg #[.int .i64 x1, .int .i64 x2, .string x3]) ⟨x1, x2, x3⟩ := ⟨rfl⟩
instance (x1 : Int) (x2 : Int) (x3 : ByteArray) : Kvt avCoterielaw20Op (.agg #[.int .i64 x1, .int .i64 x2, .string x3]) ⟨x1, x2, x3⟩ := ⟨rfl⟩
instance (priority := high) (x : Coterielaw20Op) : Cvt cvCoterielaw20Op (cvCoterielaw20Op x) x := ⟨rfl⟩
instance (priority := high) (x : Coterielaw20Op) : Vvt avCoterielaw20Op (avCoterielaw20Op x) x := ⟨rfl⟩
instance (priority := high) (x : Coterielaw20Op) : Kvt avCoterielaw20Op (avCoterielaw20Op x) x := ⟨rfl⟩
def okCoterielaw20Op (x : Coterielaw20Op) : Prop := inI64 x.Kind ∧ inI64 x.N ∧ (fun x : ByteArray => x.size ≤ maxLen) x.Bytes
instance : Opn Try.prog 48 Coterielaw20Op cvCoterielaw20Op okCoterielaw20Op := ⟨fun {_ _ _ _ _ _ _ cs _} h => by
  obtain ⟨xs, n, rfl, _, hl, hx, hf⟩ := DataW.trod_struct Try.underlying48 h
  rw [show Try.prog.cellsOf 48 = 3 by kernel_rfl] at hl
  replace hx : xs.length = 3 := hx
  obtain ⟨_, h0⟩ := field_data hf 0 3 0 1 rfl (by kernel_rfl) (by rw [hx]; decide)
  obtain ⟨y0, e0, k0⟩ := Opn.out (P := Try.prog) (t := 3) h0
  obtain ⟨_, h1⟩ := field_data hf 1 3 1 1 rfl (by kernel_rfl) (by rw [hx]; decide)
  obtain ⟨y1, e1, k1⟩ := Opn.out (P := Try.prog) (t := 3) h1
  obtain ⟨_, h2⟩ := field_data hf 2 9 2 1 rfl (by kernel_rfl) (by rw [hx]; decide)
  obtain ⟨y2, e2, k2⟩ := Opn.out (P := Try.prog) (t := 9) h2
  refine ⟨⟨y0, y1, y2⟩, ?_, k0, k1, k2⟩
  match cs, hl with
  | [c0, c1, c2], _ =>
    replace e0 : [c0] = _ := e0
    replace e1 : [c1] = _ := e1
    replace e2 : [c2] = _ := e2
    show [c0] ++ [c1] ++ [c2] = _
    rw [e0, e1, e2]
    rfl⟩
structure ApiPacket where
  N : Int
  From : Int
  Bytes : ByteArray
deriving DecidableEq
theorem iff_ApiPacket (x y : ApiPacket) : x = y ↔ x.N = y.N ∧ x.From = y.From ∧ x.Bytes = y.Bytes := by cases x; cases y; simp
abbrev cvApiPacket (x : ApiPacket) : List Value := [.int .i64 x.N, .int .i64 x.From, .string x.Bytes]
abbrev avApiPacket (x : ApiPacket) : Value := .agg #[.int .i64 x.N, .int .i64 x.From, .string x.Bytes]
instance : GetF cvApiPacket 0 (fun x => .int .i64 x.N) := ⟨fun _ => rfl⟩
instance : GetF cvApiPacket 1 (fun x => .int .i64 x.From) := ⟨fun _ => rfl⟩
instance : GetF cvApiPacket 2 (fun x => .string x.Bytes) := ⟨fun _ => rfl⟩
instance : ElT Try.prog 51 ApiPacket 3 cvApiPacket avApiPacket := ElT.agg inferInstance (fun _ => rfl) (fun x y hy => by simp at hy; rcases hy with rfl | rfl | rfl <;> rfl)
instance (x1 : Int) (x2 : Int) (x3 : ByteArray) : Cvt cvApiPacket [.int .i64 x1, .int .i64 x2, .string x3] ⟨x1, x2, x3⟩ := ⟨rfl⟩
instance (x1 : Int) (x2 : Int) (x3 : ByteArray) : Vvt avApiPacket (.agg #[.int .i64 x1, .int .i64 x2, .string x3]) ⟨x1, x2, x3⟩ := ⟨rfl⟩
instance (x1 : Int) (x2 : Int) (x3 : ByteArray) : Kvt avApiPacket (.agg #[.int .i64 x1, .int .i64 x2, .string x3]) ⟨x1, x2, x3⟩ := ⟨rfl⟩
instance (priority := high) (x : ApiPacket) : Cvt cvApiPacket (cvApiPacket x) x := ⟨rfl⟩
instance (priority := high) (x : ApiPacket) : Vvt avApiPacket (avApiPacket x) x := ⟨rfl⟩
instance (priority := high) (x : ApiPacket) : Kvt avApiPacket (avApiPacket x) x := ⟨rfl⟩
def okApiPacket (x : ApiPacket) : Prop := inI64 x.N ∧ inI64 x.From ∧ (fun x : ByteArray => x.size ≤ maxLen) x.Bytes
instance : Opn Try.prog 51 ApiPacket cvApiPacket okApiPacket := ⟨fun {_ _ _ _ _ _ _ cs _} h => by
  obtain ⟨xs, n, rfl, _, hl, hx, hf⟩ := DataW.trod_struct Try.underlying51 h
  rw [show Try.prog.cellsOf 51 = 3 by kernel_rfl] at hl
  replace hx : xs.length = 3 := hx
  obtain ⟨_, h0⟩ := field_data hf 0 3 0 1 rfl (by kernel_rfl) (by rw [hx]; decide)
  obtain ⟨y0, e0, k0⟩ := Opn.out (P := Try.prog) (t := 3) h0
  obtain ⟨_, h1⟩ := field_data hf 1 3 1 1 rfl (by kernel_rfl) (by rw [hx]; decide)
  obtain ⟨y1, e1, k1⟩ := Opn.out (P := Try.prog) (t := 3) h1
  obtain ⟨_, h2⟩ := field_data hf 2 9 2 1 rfl (by kernel_rfl) (by rw [hx]; decide)
  obtain ⟨y2, e2, k2⟩ := Opn.out (P := Try.prog) (t := 9) h2
  refine ⟨⟨y0, y1, y2⟩, ?_, k0, k1, k2⟩
  match cs, hl with
  | [c0, c1, c2], _ =>
    replace e0 : [c0] = _ := e0
    replace e1 : [c1] = _ := e1
    replace e2 : [c2] = _ := e2
    show [c0] ++ [c1] ++ [c2] = _
    rw [e0, e1, e2]
    rfl⟩
instance : ElT Try.prog 4 Bool 1 (fun x => [.bool x]) (fun x => .bool x) := ElT.sc inferInstance (fun _ => rfl)
instance : ElT Try.prog 3 Int 1 (fun x => [.int .i64 x]) (fun x => .int .i64 x) := ElT.sc inferInstance (fun _ => rfl)
structure ApiKey where
  Base : Int
  Step : Int
deriving DecidableEq
theorem iff_ApiKey (x y : ApiKey) : x = y ↔ x.Base = y.Base ∧ x.Step = y.Step := by cases x; cases y; simp
abbrev cvApiKey (x : ApiKey) : List Value := [.int .i64 x.Base, .int .i64 x.Step]
abbrev avApiKey (x : ApiKey) : Value := .agg #[.int .i64 x.Base, .int .i64 x.Step]
instance : GetF cvApiKey 0 (fun x => .int .i64 x.Base) := ⟨fun _ => rfl⟩
instance : GetF cvApiKey 1 (fun x => .int .i64 x.Step) := ⟨fun _ => rfl⟩
instance : ElT Try.prog 23 ApiKey 2 cvApiKey avApiKey := ElT.agg inferInstance (fun _ => rfl) (fun x y hy => by simp at hy; rcases hy with rfl | rfl <;> rfl)
instance (x1 : Int) (x2 : Int) : Cvt cvApiKey [.int .i64 x1, .int .i64 x2] ⟨x1, x2⟩ := ⟨rfl⟩
instance (x1 : Int) (x2 : Int) : Vvt avApiKey (.agg #[.int .i64 x1, .int .i64 x2]) ⟨x1, x2⟩ := ⟨rfl⟩
instance (x1 : Int) (x2 : Int) : Kvt avApiKey (.agg #[.int .i64 x1, .int .i64 x2]) ⟨x1, x2⟩ := ⟨rfl⟩
instance (priority := high) (x : ApiKey) : Cvt cvApiKey (cvApiKey x) x := ⟨rfl⟩
instance (priority := high) (x : ApiKey) : Vvt avApiKey (avApiKey x) x := ⟨rfl⟩
instance (priority := high) (x : ApiKey) : Kvt avApiKey (avApiKey x) x := ⟨rfl⟩
def okApiKey (x : ApiKey) : Prop := inI64 x.Base ∧ inI64 x.Step
instance : Opn Try.prog 23 ApiKey cvApiKey okApiKey := ⟨fun {_ _ _ _ _ _ _ cs _} h => by
  obtain ⟨xs, n, rfl, _, hl, hx, hf⟩ := DataW.trod_struct Try.underlying23 h
  rw [show Try.prog.cellsOf 23 = 2 by kernel_rfl] at hl
  replace hx : xs.length = 2 := hx
  obtain ⟨_, h0⟩ := field_data hf 0 3 0 1 rfl (by kernel_rfl) (by rw [hx]; decide)
  obtain ⟨y0, e0, k0⟩ := Opn.out (P := Try.prog) (t := 3) h0
  obtain ⟨_, h1⟩ := field_data hf 1 3 1 1 rfl (by kernel_rfl) (by rw [hx]; decide)
  obtain ⟨y1, e1, k1⟩ := Opn.out (P := Try.prog) (t := 3) h1
  refine ⟨⟨y0, y1⟩, ?_, k0, k1⟩
  match cs, hl with
  | [c0, c1], _ =>
    replace e0 : [c0] = _ := e0
    replace e1 : [c1] = _ := e1
    show [c0] ++ [c1] = _
    rw [e0, e1]
    rfl⟩
structure ApiBox where
  Under : ApiKey
  Load : ApiKey
deriving DecidableEq
theorem iff_ApiBox (x y : ApiBox) : x = y ↔ x.Under = y.Under ∧ x.Load = y.Load := by cases x; cases y; simp
abbrev cvApiBox (x : ApiBox) : List Value := [.int .i64 x.Under.Base, .int .i64 x.Under.Step, .int .i64 x.Load.Base, .int .i64 x.Load.Step]
abbrev avApiBox (x : ApiBox) : Value := .agg #[.int .i64 x.Under.Base, .int .i64 x.Under.Step, .int .i64 x.Load.Base, .int .i64 x.Load.Step]
instance : GetF cvApiBox 0 (fun x => .int .i64 x.Under.Base) := ⟨fun _ => rfl⟩
instance : GetF cvApiBox 1 (fun x => .int .i64 x.Under.Step) := ⟨fun _ => rfl⟩
instance : GetF cvApiBox 2 (fun x => .int .i64 x.Load.Base) := ⟨fun _ => rfl⟩
instance : GetF cvApiBox 3 (fun x => .int .i64 x.Load.Step) := ⟨fun _ => rfl⟩
instance : ElT Try.prog 34 ApiBox 4 cvApiBox avApiBox := ElT.agg inferInstance (fun _ => rfl) (fun x y hy => by simp at hy; rcases hy with rfl | rfl | rfl | rfl <;> rfl)
instance (x1 : Int) (x2 : Int) (x3 : Int) (x4 : Int) : Cvt cvApiBox [.int .i64 x1, .int .i64 x2, .int .i64 x3, .int .i64 x4] ⟨⟨x1, x2⟩, ⟨x3, x4⟩⟩ := ⟨rfl⟩
instance (x1 : Int) (x2 : Int) (x3 : Int) (x4 : Int) : Vvt avApiBox (.agg #[.int .i64 x1, .int .i64 x2, .int .i64 x3, .int .i64 x4]) ⟨⟨x1, x2⟩, ⟨x3, x4⟩⟩ := ⟨rfl⟩
instance (x1 : Int) (x2 : Int) (x3 : Int) (x4 : Int) : Kvt avApiBox (.agg #[.int .i64 x1, .int .i64 x2, .int .i64 x3, .int .i64 x4]) ⟨⟨x1, x2⟩, ⟨x3, x4⟩⟩ := ⟨rfl⟩
instance (priority := high) (x : ApiBox) : Cvt cvApiBox (cvApiBox x) x := ⟨rfl⟩
instance (priority := high) (x : ApiBox) : Vvt avApiBox (avApiBox x) x := ⟨rfl⟩
instance (priority := high) (x : ApiBox) : Kvt avApiBox (avApiBox x) x := ⟨rfl⟩
def okApiBox (x : ApiBox) : Prop := okApiKey x.Under ∧ okApiKey x.Load
instance : Opn Try.prog 34 ApiBox cvApiBox okApiBox := ⟨fun {_ _ _ _ _ _ _ cs _} h => by
  obtain ⟨xs, n, rfl, _, hl, hx, hf⟩ := DataW.trod_struct Try.underlying34 h
  rw [show Try.prog.cellsOf 34 = 4 by kernel_rfl] at hl
  replace hx : xs.length = 2 := hx
  obtain ⟨_, h0⟩ := field_data hf 0 23 0 2 rfl (by kernel_rfl) (by rw [hx]; decide)
  obtain ⟨y0, e0, k0⟩ := Opn.out (P := Try.prog) (t := 23) h0
  obtain ⟨_, h1⟩ := field_data hf 1 23 2 2 rfl (by kernel_rfl) (by rw [hx]; decide)
  obtain ⟨y1, e1, k1⟩ := Opn.out (P := Try.prog) (t := 23) h1
  refine ⟨⟨y0, y1⟩, ?_, k0, k1⟩
  match cs, hl with
  | [c0, c1, c2, c3], _ =>
    replace e0 : [c0, c1] = _ := e0
    replace e1 : [c2, c3] = _ := e1
    show [c0, c1] ++ [c2, c3] = _
    rw [e0, e1]
    rfl⟩
structure ApiSealed where
  Epoch : Int
  Under : ApiKey
  Text : ByteArray
deriving DecidableEq
theorem iff_ApiSealed (x y : ApiSealed) : x = y ↔ x.Epoch = y.Epoch ∧ x.Under = y.Under ∧ x.Text = y.Text := by cases x; cases y; simp
abbrev cvApiSealed (x : ApiSealed) : List Value := [.int .i64 x.Epoch, .int .i64 x.Under.Base, .int .i64 x.Under.Step, .string x.Text]
abbrev avApiSealed (x : ApiSealed) : Value := .agg #[.int .i64 x.Epoch, .int .i64 x.Under.Base, .int .i64 x.Under.Step, .string x.Text]
instance : GetF cvApiSealed 0 (fun x => .int .i64 x.Epoch) := ⟨fun _ => rfl⟩
instance : GetF cvApiSealed 1 (fun x => .int .i64 x.Under.Base) := ⟨fun _ => rfl⟩
instance : GetF cvApiSealed 2 (fun x => .int .i64 x.Under.Step) := ⟨fun _ => rfl⟩
instance : GetF cvApiSealed 3 (fun x => .string x.Text) := ⟨fun _ => rfl⟩
instance : ElT Try.prog 73 ApiSealed 4 cvApiSealed avApiSealed := ElT.agg inferInstance (fun _ => rfl) (fun x y hy => by simp at hy; rcases hy with rfl | rfl | rfl | rfl <;> rfl)
instance (x1 : Int) (x2 : Int) (x3 : Int) (x4 : ByteArray) : Cvt cvApiSealed [.int .i64 x1, .int .i64 x2, .int .i64 x3, .string x4] ⟨x1, ⟨x2, x3⟩, x4⟩ := ⟨rfl⟩
instance (x1 : Int) (x2 : Int) (x3 : Int) (x4 : ByteArray) : Vvt avApiSealed (.agg #[.int .i64 x1, .int .i64 x2, .int .i64 x3, .string x4]) ⟨x1, ⟨x2, x3⟩, x4⟩ := ⟨rfl⟩
instance (x1 : Int) (x2 : Int) (x3 : Int) (x4 : ByteArray) : Kvt avApiSealed (.agg #[.int .i64 x1, .int .i64 x2, .int .i64 x3, .string x4]) ⟨x1, ⟨x2, x3⟩, x4⟩ := ⟨rfl⟩
instance (priority := high) (x : ApiSealed) : Cvt cvApiSealed (cvApiSealed x) x := ⟨rfl⟩
instance (priority := high) (x : ApiSealed) : Vvt avApiSealed (avApiSealed x) x := ⟨rfl⟩
instance (priority := high) (x : ApiSealed) : Kvt avApiSealed (avApiSealed x) x := ⟨rfl⟩
def okApiSealed (x : ApiSealed) : Prop := inI64 x.Epoch ∧ okApiKey x.Under ∧ (fun x : ByteArray => x.size ≤ maxLen) x.Text
instance : Opn Try.prog 73 ApiSealed cvApiSealed okApiSealed := ⟨fun {_ _ _ _ _ _ _ cs _} h => by
  obtain ⟨xs, n, rfl, _, hl, hx, hf⟩ := DataW.trod_struct Try.underlying73 h
  rw [show Try.prog.cellsOf 73 = 4 by kernel_rfl] at hl
  replace hx : xs.length = 3 := hx
  obtain ⟨_, h0⟩ := field_data hf 0 3 0 1 rfl (by kernel_rfl) (by rw [hx]; decide)
  obtain ⟨y0, e0, k0⟩ := Opn.out (P := Try.prog) (t := 3) h0
  obtain ⟨_, h1⟩ := field_data hf 1 23 1 2 rfl (by kernel_rfl) (by rw [hx]; decide)
  obtain ⟨y1, e1, k1⟩ := Opn.out (P := Try.prog) (t := 23) h1
  obtain ⟨_, h2⟩ := field_data hf 2 9 3 1 rfl (by kernel_rfl) (by rw [hx]; decide)
  obtain ⟨y2, e2, k2⟩ := Opn.out (P := Try.prog) (t := 9) h2
  refine ⟨⟨y0, y1, y2⟩, ?_, k0, k1, k2⟩
  match cs, hl with
  | [c0, c1, c2, c3], _ =>
    replace e0 : [c0] = _ := e0
    replace e1 : [c1, c2] = _ := e1
    replace e2 : [c3] = _ := e2
    show [c0] ++ [c1, c2] ++ [c3] = _
    rw [e0, e1, e2]
    rfl⟩
structure Coterielaw19Op where
  Kind : Int
  Box : ApiBox
  Text : ApiSealed
deriving DecidableEq
theorem iff_Coterielaw19Op (x y : Coterielaw19Op) : x = y ↔ x.Kind = y.Kind ∧ x.Box = y.Box ∧ x.Text = y.Text := by cases x; cases y; simp
abbrev cvCoterielaw19Op (x : Coterielaw19Op) : List Value := [.int .i64 x.Kind, .int .i64 x.Box.Under.Base, .int .i64 x.Box.Under.Step, .int .i64 x.Box.Load.Base, .int .i64 x.Box.Load.Step, .int .i64 x.Text.Epoch, .int .i64 x.Text.Under.Base, .int .i64 x.Text.Under.Step, .string x.Text.Text]
abbrev avCoterielaw19Op (x : Coterielaw19Op) : Value := .agg #[.int .i64 x.Kind, .int .i64 x.Box.Under.Base, .int .i64 x.Box.Under.Step, .int .i64 x.Box.Load.Base, .int .i64 x.Box.Load.Step, .int .i64 x.Text.Epoch, .int .i64 x.Text.Under.Base, .int .i64 x.Text.Under.Step, .string x.Text.Text]
instance : GetF cvCoterielaw19Op 0 (fun x => .int .i64 x.Kind) := ⟨fun _ => rfl⟩
instance : GetF cvCoterielaw19Op 1 (fun x => .int .i64 x.Box.Under.Base) := ⟨fun _ => rfl⟩
instance : GetF cvCoterielaw19Op 2 (fun x => .int .i64 x.Box.Under.Step) := ⟨fun _ => rfl⟩
instance : GetF cvCoterielaw19Op 3 (fun x => .int .i64 x.Box.Load.Base) := ⟨fun _ => rfl⟩
instance : GetF cvCoterielaw19Op 4 (fun x => .int .i64 x.Box.Load.Step) := ⟨fun _ => rfl⟩
instance : GetF cvCoterielaw19Op 5 (fun x => .int .i64 x.Text.Epoch) := ⟨fun _ => rfl⟩
instance : GetF cvCoterielaw19Op 6 (fun x => .int .i64 x.Text.Under.Base) := ⟨fun _ => rfl⟩
instance : GetF cvCoterielaw19Op 7 (fun x => .int .i64 x.Text.Under.Step) := ⟨fun _ => rfl⟩
instance : GetF cvCoterielaw19Op 8 (fun x => .string x.Text.Text) := ⟨fun _ => rfl⟩
instance : ElT Try.prog 75 Coterielaw19Op 9 cvCoterielaw19Op avCoterielaw19Op := ElT.agg inferInstance (fun _ => rfl) (fun x y hy => by simp at hy; rcases hy with rfl | rfl | rfl | rfl | rfl | rfl | rfl | rfl | rfl <;> rfl)
instance (x1 : Int) (x2 : Int) (x3 : Int) (x4 : Int) (x5 : Int) (x6 : Int) (x7 : Int) (x8 : Int) (x9 : ByteArray) : Cvt cvCoterielaw19Op [.int .i64 x1, .int .i64 x2, .int .i64 x3, .int .i64 x4, .int .i64 x5, .int .i64 x6, .int .i64 x7, .int .i64 x8, .string x9] ⟨x1, ⟨⟨x2, x3⟩, ⟨x4, x5⟩⟩, ⟨x6, ⟨x7, x8⟩, x9⟩⟩ := ⟨rfl⟩
instance (x1 : Int) (x2 : Int) (x3 : Int) (x4 : Int) (x5 : Int) (x6 : Int) (x7 : Int) (x8 : Int) (x9 : ByteArray) : Vvt avCoterielaw19Op (.agg #[.int .i64 x1, .int .i64 x2, .int .i64 x3, .int .i64 x4, .int .i64 x5, .int .i64 x6, .int .i64 x7, .int .i64 x8, .string x9]) ⟨x1, ⟨⟨x2, x3⟩, ⟨x4, x5⟩⟩, ⟨x6, ⟨x7, x8⟩, x9⟩⟩ := ⟨rfl⟩
instance (x1 : Int) (x2 : Int) (x3 : Int) (x4 : Int) (x5 : Int) (x6 : Int) (x7 : Int) (x8 : Int) (x9 : ByteArray) : Kvt avCoterielaw19Op (.agg #[.int .i64 x1, .int .i64 x2, .int .i64 x3, .int .i64 x4, .int .i64 x5, .int .i64 x6, .int .i64 x7, .int .i64 x8, .string x9]) ⟨x1, ⟨⟨x2, x3⟩, ⟨x4, x5⟩⟩, ⟨x6, ⟨x7, x8⟩, x9⟩⟩ := ⟨rfl⟩
instance (priority := high) (x : Coterielaw19Op) : Cvt cvCoterielaw19Op (cvCoterielaw19Op x) x := ⟨rfl⟩
instance (priority := high) (x : Coterielaw19Op) : Vvt avCoterielaw19Op (avCoterielaw19Op x) x := ⟨rfl⟩
instance (priority := high) (x : Coterielaw19Op) : Kvt avCoterielaw19Op (avCoterielaw19Op x) x := ⟨rfl⟩
def okCoterielaw19Op (x : Coterielaw19Op) : Prop := inI64 x.Kind ∧ okApiBox x.Box ∧ okApiSealed x.Text
instance : Opn Try.prog 75 Coterielaw19Op cvCoterielaw19Op okCoterielaw19Op := ⟨fun {_ _ _ _ _ _ _ cs _} h => by
  obtain ⟨xs, n, rfl, _, hl, hx, hf⟩ := DataW.trod_struct Try.underlying75 h
  rw [show Try.prog.cellsOf 75 = 9 by kernel_rfl] at hl
  replace hx : xs.length = 3 := hx
  obtain ⟨_, h0⟩ := field_data hf 0 3 0 1 rfl (by kernel_rfl) (by rw [hx]; decide)
  obtain ⟨y0, e0, k0⟩ := Opn.out (P := Try.prog) (t := 3) h0
  obtain ⟨_, h1⟩ := field_data hf 1 34 1 4 rfl (by kernel_rfl) (by rw [hx]; decide)
  obtain ⟨y1, e1, k1⟩ := Opn.out (P := Try.prog) (t := 34) h1
  obtain ⟨_, h2⟩ := field_data hf 2 73 5 4 rfl (by kernel_rfl) (by rw [hx]; decide)
  obtain ⟨y2, e2, k2⟩ := Opn.out (P := Try.prog) (t := 73) h2
  refine ⟨⟨y0, y1, y2⟩, ?_, k0, k1, k2⟩
  match cs, hl with
  | [c0, c1, c2, c3, c4, c5, c6, c7, c8], _ =>
    replace e0 : [c0] = _ := e0
    replace e1 : [c1, c2, c3, c4] = _ := e1
    replace e2 : [c5, c6, c7, c8] = _ := e2
    show [c0] ++ [c1, c2, c3, c4] ++ [c5, c6, c7, c8] = _
    rw [e0, e1, e2]
    rfl⟩
structure ApiSeat where
  Who : Int
  Slot : Int
deriving DecidableEq
theorem iff_ApiSeat (x y : ApiSeat) : x = y ↔ x.Who = y.Who ∧ x.Slot = y.Slot := by cases x; cases y; simp
abbrev cvApiSeat (x : ApiSeat) : List Value := [.int .i64 x.Who, .int .i64 x.Slot]
abbrev avApiSeat (x : ApiSeat) : Value := .agg #[.int .i64 x.Who, .int .i64 x.Slot]
instance : GetF cvApiSeat 0 (fun x => .int .i64 x.Who) := ⟨fun _ => rfl⟩
instance : GetF cvApiSeat 1 (fun x => .int .i64 x.Slot) := ⟨fun _ => rfl⟩
instance : ElT Try.prog 123 ApiSeat 2 cvApiSeat avApiSeat := ElT.agg inferInstance (fun _ => rfl) (fun x y hy => by simp at hy; rcases hy with rfl | rfl <;> rfl)
instance (x1 : Int) (x2 : Int) : Cvt cvApiSeat [.int .i64 x1, .int .i64 x2] ⟨x1, x2⟩ := ⟨rfl⟩
instance (x1 : Int) (x2 : Int) : Vvt avApiSeat (.agg #[.int .i64 x1, .int .i64 x2]) ⟨x1, x2⟩ := ⟨rfl⟩
instance (x1 : Int) (x2 : Int) : Kvt avApiSeat (.agg #[.int .i64 x1, .int .i64 x2]) ⟨x1, x2⟩ := ⟨rfl⟩
instance (priority := high) (x : ApiSeat) : Cvt cvApiSeat (cvApiSeat x) x := ⟨rfl⟩
instance (priority := high) (x : ApiSeat) : Vvt avApiSeat (avApiSeat x) x := ⟨rfl⟩
instance (priority := high) (x : ApiSeat) : Kvt avApiSeat (avApiSeat x) x := ⟨rfl⟩
def okApiSeat (x : ApiSeat) : Prop := inI64 x.Who ∧ inI64 x.Slot
instance : Opn Try.prog 123 ApiSeat cvApiSeat okApiSeat := ⟨fun {_ _ _ _ _ _ _ cs _} h => by
  obtain ⟨xs, n, rfl, _, hl, hx, hf⟩ := DataW.trod_struct Try.underlying123 h
  rw [show Try.prog.cellsOf 123 = 2 by kernel_rfl] at hl
  replace hx : xs.length = 2 := hx
  obtain ⟨_, h0⟩ := field_data hf 0 3 0 1 rfl (by kernel_rfl) (by rw [hx]; decide)
  obtain ⟨y0, e0, k0⟩ := Opn.out (P := Try.prog) (t := 3) h0
  obtain ⟨_, h1⟩ := field_data hf 1 3 1 1 rfl (by kernel_rfl) (by rw [hx]; decide)
  obtain ⟨y1, e1, k1⟩ := Opn.out (P := Try.prog) (t := 3) h1
  refine ⟨⟨y0, y1⟩, ?_, k0, k1⟩
  match cs, hl with
  | [c0, c1], _ =>
    replace e0 : [c0] = _ := e0
    replace e1 : [c1] = _ := e1
    show [c0] ++ [c1] = _
    rw [e0, e1]
    rfl⟩
structure ApiItem where
  Node : Int
  From : Int
  Box : ApiBox
deriving DecidableEq
theorem iff_ApiItem (x y : ApiItem) : x = y ↔ x.Node = y.Node ∧ x.From = y.From ∧ x.Box = y.Box := by cases x; cases y; simp
abbrev cvApiItem (x : ApiItem) : List Value := [.int .i64 x.Node, .int .i64 x.From, .int .i64 x.Box.Under.Base, .int .i64 x.Box.Under.Step, .int .i64 x.Box.Load.Base, .int .i64 x.Box.Load.Step]
abbrev avApiItem (x : ApiItem) : Value := .agg #[.int .i64 x.Node, .int .i64 x.From, .int .i64 x.Box.Under.Base, .int .i64 x.Box.Under.Step, .int .i64 x.Box.Load.Base, .int .i64 x.Box.Load.Step]
instance : GetF cvApiItem 0 (fun x => .int .i64 x.Node) := ⟨fun _ => rfl⟩
instance : GetF cvApiItem 1 (fun x => .int .i64 x.From) := ⟨fun _ => rfl⟩
instance : GetF cvApiItem 2 (fun x => .int .i64 x.Box.Under.Base) := ⟨fun _ => rfl⟩
instance : GetF cvApiItem 3 (fun x => .int .i64 x.Box.Under.Step) := ⟨fun _ => rfl⟩
instance : GetF cvApiItem 4 (fun x => .int .i64 x.Box.Load.Base) := ⟨fun _ => rfl⟩
instance : GetF cvApiItem 5 (fun x => .int .i64 x.Box.Load.Step) := ⟨fun _ => rfl⟩
instance : ElT Try.prog 127 ApiItem 6 cvApiItem avApiItem := ElT.agg inferInstance (fun _ => rfl) (fun x y hy => by simp at hy; rcases hy with rfl | rfl | rfl | rfl | rfl | rfl <;> rfl)
instance (x1 : Int) (x2 : Int) (x3 : Int) (x4 : Int) (x5 : Int) (x6 : Int) : Cvt cvApiItem [.int .i64 x1, .int .i64 x2, .int .i64 x3, .int .i64 x4, .int .i64 x5, .int .i64 x6] ⟨x1, x2, ⟨⟨x3, x4⟩, ⟨x5, x6⟩⟩⟩ := ⟨rfl⟩
instance (x1 : Int) (x2 : Int) (x3 : Int) (x4 : Int) (x5 : Int) (x6 : Int) : Vvt avApiItem (.agg #[.int .i64 x1, .int .i64 x2, .int .i64 x3, .int .i64 x4, .int .i64 x5, .int .i64 x6]) ⟨x1, x2, ⟨⟨x3, x4⟩, ⟨x5, x6⟩⟩⟩ := ⟨rfl⟩
instance (x1 : Int) (x2 : Int) (x3 : Int) (x4 : Int) (x5 : Int) (x6 : Int) : Kvt avApiItem (.agg #[.int .i64 x1, .int .i64 x2, .int .i64 x3, .int .i64 x4, .int .i64 x5, .int .i64 x6]) ⟨x1, x2, ⟨⟨x3, x4⟩, ⟨x5, x6⟩⟩⟩ := ⟨rfl⟩
instance (priority := high) (x : ApiItem) : Cvt cvApiItem (cvApiItem x) x := ⟨rfl⟩
instance (priority := high) (x : ApiItem) : Vvt avApiItem (avApiItem x) x := ⟨rfl⟩
instance (priority := high) (x : ApiItem) : Kvt avApiItem (avApiItem x) x := ⟨rfl⟩
def okApiItem (x : ApiItem) : Prop := inI64 x.Node ∧ inI64 x.From ∧ okApiBox x.Box
instance : Opn Try.prog 127 ApiItem cvApiItem okApiItem := ⟨fun {_ _ _ _ _ _ _ cs _} h => by
  obtain ⟨xs, n, rfl, _, hl, hx, hf⟩ := DataW.trod_struct Try.underlying127 h
  rw [show Try.prog.cellsOf 127 = 6 by kernel_rfl] at hl
  replace hx : xs.length = 3 := hx
  obtain ⟨_, h0⟩ := field_data hf 0 3 0 1 rfl (by kernel_rfl) (by rw [hx]; decide)
  obtain ⟨y0, e0, k0⟩ := Opn.out (P := Try.prog) (t := 3) h0
  obtain ⟨_, h1⟩ := field_data hf 1 3 1 1 rfl (by kernel_rfl) (by rw [hx]; decide)
  obtain ⟨y1, e1, k1⟩ := Opn.out (P := Try.prog) (t := 3) h1
  obtain ⟨_, h2⟩ := field_data hf 2 34 2 4 rfl (by kernel_rfl) (by rw [hx]; decide)
  obtain ⟨y2, e2, k2⟩ := Opn.out (P := Try.prog) (t := 34) h2
  refine ⟨⟨y0, y1, y2⟩, ?_, k0, k1, k2⟩
  match cs, hl with
  | [c0, c1, c2, c3, c4, c5], _ =>
    replace e0 : [c0] = _ := e0
    replace e1 : [c1] = _ := e1
    replace e2 : [c2, c3, c4, c5] = _ := e2
    show [c0] ++ [c1] ++ [c2, c3, c4, c5] = _
    rw [e0, e1, e2]
    rfl⟩
instance  : BA Try.prog 23 [] #[.int .i64 0, .int .i64 0] := ⟨fun w => by kernel_rfl⟩
instance (x1 : Int) : BA Try.prog 23 [(0, .int .i64 x1)] #[.int .i64 x1, .int .i64 0] := ⟨fun w => by kernel_rfl⟩
instance (x1 : Int) (x2 : Int) : BA Try.prog 23 [(0, .int .i64 x1), (1, .int .i64 x2)] #[.int .i64 x1, .int .i64 x2] := ⟨fun w => by kernel_rfl⟩
instance  : BA Try.prog 34 [] #[.int .i64 0, .int .i64 0, .int .i64 0, .int .i64 0] := ⟨fun w => by kernel_rfl⟩
instance (x1 : Int) (x2 : Int) (x3 : Int) (x4 : Int) : BA Try.prog 34 [(0, .agg #[.int .i64 x1, .int .i64 x2]), (1, .agg #[.int .i64 x3, .int .i64 x4])] #[.int .i64 x1, .int .i64 x2, .int .i64 x3, .int .i64 x4] := ⟨fun w => by kernel_rfl⟩
instance  : BA Try.prog 46 [] #[.slice none 0 0, .slice none 0 0] := ⟨fun w => by kernel_rfl⟩
instance  : BA Try.prog 51 [] #[.int .i64 0, .int .i64 0, .string ByteArray.empty] := ⟨fun w => by kernel_rfl⟩
instance (x1 : Int) : BA Try.prog 51 [(0, .int .i64 x1)] #[.int .i64 x1, .int .i64 0, .string ByteArray.empty] := ⟨fun w => by kernel_rfl⟩
instance (x1 : Int) (x2 : Int) (x3 : ByteArray) : BA Try.prog 51 [(0, .int .i64 x1), (1, .int .i64 x2), (2, .string x3)] #[.int .i64 x1, .int .i64 x2, .string x3] := ⟨fun w => by kernel_rfl⟩
instance  : BA Try.prog 73 [] #[.int .i64 0, .int .i64 0, .int .i64 0, .string ByteArray.empty] := ⟨fun w => by kernel_rfl⟩
instance (x1 : Option Nat) : BA Try.prog 84 [(1, .map x1)] #[.slice none 0 0, .map x1] := ⟨fun w => by kernel_rfl⟩
instance (x1 : Option Nat) (x2 : Option Nat) (x3 : Option Nat) (x4 : Option Nat) : BA Try.prog 95 [(0, .map x1), (1, .map x2), (2, .map x3), (3, .map x4)] #[.map x1, .map x2, .map x3, .map x4] := ⟨fun w => by kernel_rfl⟩
instance  : BA Try.prog 112 [] #[.int .i64 0, .int .i64 0] := ⟨fun w => by kernel_rfl⟩
instance  : BA Try.prog 115 [] #[.int .i64 0, .int .i64 0, .int .i64 0, .int .i64 0, .int .i64 0, .int .i64 0, .int .i64 0, .int .i64 0, .int .i64 0, .int .i64 0, .int .i64 0, .int .i64 0, .int .i64 0, .int .i64 0, .int .i64 0] := ⟨fun w => by kernel_rfl⟩
instance (x1 : Int) (x2 : Int) (x3 : Int) (x4 : Int) (x5 : ByteArray) : BA Try.prog 117 [(0, .int .i64 x1), (4, .agg #[.int .i64 x2, .int .i64 x3, .int .i64 x4, .string x5])] #[.int .i64 x1, .int .i64 0, .slice none 0 0, .slice none 0 0, .slice none 0 0, .int .i64 0, .int .i64 0, .int .i64 0, .int .i64 0, .int .i64 0, .int .i64 0, .int .i64 0, .int .i64 0, .int .i64 0, .int .i64 0, .int .i64 0, .int .i64 0, .int .i64 0, .int .i64 0, .int .i64 0, .int .i64 0, .int .i64 0, .int .i64 x2, .int .i64 x3, .int .i64 x4, .string x5] := ⟨fun w => by kernel_rfl⟩
instance (x1 : Bool) (x2 : Bool) (x3 : Bool) (x4 : Bool) : BA Try.prog 119 [(0, .bool x1), (1, .bool x2), (2, .bool x3), (3, .bool x4)] #[.bool x1, .bool x2, .bool x3, .bool x4] := ⟨fun w => by kernel_rfl⟩
instance (x1 : Int) : BA Try.prog 123 [(0, .int .i64 x1)] #[.int .i64 x1, .int .i64 0] := ⟨fun w => by kernel_rfl⟩
instance (x1 : Int) (x2 : Int) : BA Try.prog 123 [(0, .int .i64 x1), (1, .int .i64 x2)] #[.int .i64 x1, .int .i64 x2] := ⟨fun w => by kernel_rfl⟩
instance  : BS Try.prog 43 0 [] #[] 51 := ⟨fun w => by kernel_rfl⟩
instance (x1 : Int) (x2 : Int) (x3 : ByteArray) : BS Try.prog 43 1 [(0, .agg #[.int .i64 x1, .int .i64 x2, .string x3])] #[.int .i64 x1, .int .i64 x2, .string x3] 51 := ⟨fun w => by kernel_rfl⟩
instance (x1 : Bool) : BS Try.prog 44 1 [(0, .bool x1)] #[.bool x1] 4 := ⟨fun w => by kernel_rfl⟩
instance  : BS Try.prog 78 0 [] #[] 34 := ⟨fun w => by kernel_rfl⟩
instance (x1 : Int) (x2 : Int) (x3 : Int) (x4 : Int) : BS Try.prog 78 1 [(0, .agg #[.int .i64 x1, .int .i64 x2, .int .i64 x3, .int .i64 x4])] #[.int .i64 x1, .int .i64 x2, .int .i64 x3, .int .i64 x4] 34 := ⟨fun w => by kernel_rfl⟩
instance (x1 : Int) (x2 : Int) : BS Try.prog 79 1 [(0, .agg #[.int .i64 x1, .int .i64 x2])] #[.int .i64 x1, .int .i64 x2] 23 := ⟨fun w => by kernel_rfl⟩
instance (x1 : Int) (x2 : Int) : BS Try.prog 98 2 [(0, .int .i64 x1), (1, .int .i64 x2)] #[.int .i64 x1, .int .i64 x2] 3 := ⟨fun w => by kernel_rfl⟩
theorem eqS23 (d : Nat) (x1 : Int) (x2 : Int) (x3 : Int) (x4 : Int) : EqV Try.prog (d + 2) 23 (.agg #[.int .i64 x1, .int .i64 x2]) (.agg #[.int .i64 x3, .int .i64 x4]) (x1 = x3 ∧ x2 = x4) := eqvStruct Try.underlying23 (by kernel_rfl) (eqfCons (by rfl) (fun w => by kernel_rfl) (fun w => by kernel_rfl) (eqvInt Try.underlying3) (eqfLast (by rfl) (fun w => by kernel_rfl) (fun w => by kernel_rfl) (eqvInt Try.underlying3)))
instance (x1 : Int) (x2 : Int) (x3 : Int) (x4 : Int) : Bin Try.prog .eql 23 (.agg #[.int .i64 x1, .int .i64 x2]) (.agg #[.int .i64 x3, .int .i64 x4]) (.bool (decide (x1 = x3 ∧ x2 = x4))) := binEq (by kernel_rfl) (eqS23 9998 x1 x2 x3 x4)
instance (x1 : Int) (x2 : Int) (x3 : Int) (x4 : Int) : Bin Try.prog .neq 23 (.agg #[.int .i64 x1, .int .i64 x2]) (.agg #[.int .i64 x3, .int .i64 x4]) (.bool (decide ¬ (x1 = x3 ∧ x2 = x4))) := binNe (by kernel_rfl) (eqS23 9998 x1 x2 x3 x4)
theorem eqS34 (d : Nat) (x1 : Int) (x2 : Int) (x3 : Int) (x4 : Int) (x5 : Int) (x6 : Int) (x7 : Int) (x8 : Int) : EqV Try.prog (d + 3) 34 (.agg #[.int .i64 x1, .int .i64 x2, .int .i64 x3, .int .i64 x4]) (.agg #[.int .i64 x5, .int .i64 x6, .int .i64 x7, .int .i64 x8]) ((x1 = x5 ∧ x2 = x6) ∧ (x3 = x7 ∧ x4 = x8)) := eqvStruct Try.underlying34 (by kernel_rfl) (eqfCons (by rfl) (fun w => by kernel_rfl) (fun w => by kernel_rfl) (eqS23 (d + 0) _ _ _ _) (eqfLast (by rfl) (fun w => by kernel_rfl) (fun w => by kernel_rfl) (eqS23 (d + 0) _ _ _ _)))
instance (x1 : Int) (x2 : Int) (x3 : Int) (x4 : Int) (x5 : Int) (x6 : Int) (x7 : Int) (x8 : Int) : Bin Try.prog .eql 34 (.agg #[.int .i64 x1, .int .i64 x2, .int .i64 x3, .int .i64 x4]) (.agg #[.int .i64 x5, .int .i64 x6, .int .i64 x7, .int .i64 x8]) (.bool (decide ((x1 = x5 ∧ x2 = x6) ∧ (x3 = x7 ∧ x4 = x8)))) := binEq (by kernel_rfl) (eqS34 9997 x1 x2 x3 x4 x5 x6 x7 x8)
instance (x1 : Int) (x2 : Int) (x3 : Int) (x4 : Int) (x5 : Int) (x6 : Int) (x7 : Int) (x8 : Int) : Bin Try.prog .neq 34 (.agg #[.int .i64 x1, .int .i64 x2, .int .i64 x3, .int .i64 x4]) (.agg #[.int .i64 x5, .int .i64 x6, .int .i64 x7, .int .i64 x8]) (.bool (decide ¬ ((x1 = x5 ∧ x2 = x6) ∧ (x3 = x7 ∧ x4 = x8)))) := binNe (by kernel_rfl) (eqS34 9997 x1 x2 x3 x4 x5 x6 x7 x8)
theorem eqS51 (d : Nat) (x1 : Int) (x2 : Int) (x3 : ByteArray) (x4 : Int) (x5 : Int) (x6 : ByteArray) : EqV Try.prog (d + 2) 51 (.agg #[.int .i64 x1, .int .i64 x2, .string x3]) (.agg #[.int .i64 x4, .int .i64 x5, .string x6]) (x1 = x4 ∧ x2 = x5 ∧ x3 = x6) := eqvStruct Try.underlying51 (by kernel_rfl) (eqfCons (by rfl) (fun w => by kernel_rfl) (fun w => by kernel_rfl) (eqvInt Try.underlying3) (eqfCons (by rfl) (fun w => by kernel_rfl) (fun w => by kernel_rfl) (eqvInt Try.underlying3) (eqfLast (by rfl) (fun w => by kernel_rfl) (fun w => by kernel_rfl) (eqvStr Try.underlying9))))
instance (x1 : Int) (x2 : Int) (x3 : ByteArray) (x4 : Int) (x5 : Int) (x6 : ByteArray) : Bin Try.prog .eql 51 (.agg #[.int .i64 x1, .int .i64 x2, .string x3]) (.agg #[.int .i64 x4, .int .i64 x5, .string x6]) (.bool (decide (x1 = x4 ∧ x2 = x5 ∧ x3 = x6))) := binEq (by kernel_rfl) (eqS51 9998 x1 x2 x3 x4 x5 x6)
instance (x1 : Int) (x2 : Int) (x3 : ByteArray) (x4 : Int) (x5 : Int) (x6 : ByteArray) : Bin Try.prog .neq 51 (.agg #[.int .i64 x1, .int .i64 x2, .string x3]) (.agg #[.int .i64 x4, .int .i64 x5, .string x6]) (.bool (decide ¬ (x1 = x4 ∧ x2 = x5 ∧ x3 = x6))) := binNe (by kernel_rfl) (eqS51 9998 x1 x2 x3 x4 x5 x6)
theorem eqS73 (d : Nat) (x1 : Int) (x2 : Int) (x3 : Int) (x4 : ByteArray) (x5 : Int) (x6 : Int) (x7 : Int) (x8 : ByteArray) : EqV Try.prog (d + 3) 73 (.agg #[.int .i64 x1, .int .i64 x2, .int .i64 x3, .string x4]) (.agg #[.int .i64 x5, .int .i64 x6, .int .i64 x7, .string x8]) (x1 = x5 ∧ (x2 = x6 ∧ x3 = x7) ∧ x4 = x8) := eqvStruct Try.underlying73 (by kernel_rfl) (eqfCons (by rfl) (fun w => by kernel_rfl) (fun w => by kernel_rfl) (eqvInt Try.underlying3) (eqfCons (by rfl) (fun w => by kernel_rfl) (fun w => by kernel_rfl) (eqS23 (d + 0) _ _ _ _) (eqfLast (by rfl) (fun w => by kernel_rfl) (fun w => by kernel_rfl) (eqvStr Try.underlying9))))
instance (x1 : Int) (x2 : Int) (x3 : Int) (x4 : ByteArray) (x5 : Int) (x6 : Int) (x7 : Int) (x8 : ByteArray) : Bin Try.prog .eql 73 (.agg #[.int .i64 x1, .int .i64 x2, .int .i64 x3, .string x4]) (.agg #[.int .i64 x5, .int .i64 x6, .int .i64 x7, .string x8]) (.bool (decide (x1 = x5 ∧ (x2 = x6 ∧ x3 = x7) ∧ x4 = x8))) := binEq (by kernel_rfl) (eqS73 9997 x1 x2 x3 x4 x5 x6 x7 x8)
instance (x1 : Int) (x2 : Int) (x3 : Int) (x4 : ByteArray) (x5 : Int) (x6 : Int) (x7 : Int) (x8 : ByteArray) : Bin Try.prog .neq 73 (.agg #[.int .i64 x1, .int .i64 x2, .int .i64 x3, .string x4]) (.agg #[.int .i64 x5, .int .i64 x6, .int .i64 x7, .string x8]) (.bool (decide ¬ (x1 = x5 ∧ (x2 = x6 ∧ x3 = x7) ∧ x4 = x8))) := binNe (by kernel_rfl) (eqS73 9997 x1 x2 x3 x4 x5 x6 x7 x8)
theorem eqS112 (d : Nat) (x1 : Int) (x2 : Int) (x3 : Int) (x4 : Int) : EqV Try.prog (d + 2) 112 (.agg #[.int .i64 x1, .int .i64 x2]) (.agg #[.int .i64 x3, .int .i64 x4]) (x1 = x3 ∧ x2 = x4) := eqvStruct Try.underlying112 (by kernel_rfl) (eqfCons (by rfl) (fun w => by kernel_rfl) (fun w => by kernel_rfl) (eqvInt Try.underlying3) (eqfLast (by rfl) (fun w => by kernel_rfl) (fun w => by kernel_rfl) (eqvInt Try.underlying3)))
instance (x1 : Int) (x2 : Int) (x3 : Int) (x4 : Int) : Bin Try.prog .eql 112 (.agg #[.int .i64 x1, .int .i64 x2]) (.agg #[.int .i64 x3, .int .i64 x4]) (.bool (decide (x1 = x3 ∧ x2 = x4))) := binEq (by kernel_rfl) (eqS112 9998 x1 x2 x3 x4)
instance (x1 : Int) (x2 : Int) (x3 : Int) (x4 : Int) : Bin Try.prog .neq 112 (.agg #[.int .i64 x1, .int .i64 x2]) (.agg #[.int .i64 x3, .int .i64 x4]) (.bool (decide ¬ (x1 = x3 ∧ x2 = x4))) := binNe (by kernel_rfl) (eqS112 9998 x1 x2 x3 x4)
instance : Bin Try.prog .neq 115 (.agg #[.int .i64 0, .int .i64 0, .int .i64 0, .int .i64 0, .int .i64 0, .int .i64 0, .int .i64 0, .int .i64 0, .int .i64 0, .int .i64 0, .int .i64 0, .int .i64 0, .int .i64 0, .int .i64 0, .int .i64 0]) (.agg #[.int .i64 0, .int .i64 0, .int .i64 0, .int .i64 0, .int .i64 0, .int .i64 0, .int .i64 0, .int .i64 0, .int .i64 0, .int .i64 0, .int .i64 0, .int .i64 0, .int .i64 0, .int .i64 0, .int .i64 0]) (.bool false) := ⟨fun w => by kernel_rfl, fun _ a b w => run_eqGuard_agg w .neq 115 a b _ _ (by kernel_rfl)⟩
instance : Bin Try.prog .eql 115 (.agg #[.int .i64 0, .int .i64 0, .int .i64 0, .int .i64 0, .int .i64 0, .int .i64 0, .int .i64 0, .int .i64 0, .int .i64 0, .int .i64 0, .int .i64 0, .int .i64 0, .int .i64 0, .int .i64 0, .int .i64 0]) (.agg #[.int .i64 0, .int .i64 0, .int .i64 0, .int .i64 0, .int .i64 0, .int .i64 0, .int .i64 0, .int .i64 0, .int .i64 0, .int .i64 0, .int .i64 0, .int .i64 0, .int .i64 0, .int .i64 0, .int .i64 0]) (.bool true) := ⟨fun w => by kernel_rfl, fun _ a b w => run_eqGuard_agg w .eql 115 a b _ _ (by kernel_rfl)⟩
instance : KeyT Try.prog 34 ApiBox avApiBox := KeyT.agg Try.underlying34 (fun _ => ⟨_, rfl⟩) (fun e x w => by kernel_rfl) (fun x => sameBits_agg 9999 (by intro v hv; simp at hv; rcases hv with rfl | rfl | rfl | rfl <;> simp [Instr.sameBits, MapKept.bytes_beq])) (fun x y w => by
  have h := eqS34 9997 x.Under.Base x.Under.Step x.Load.Base x.Load.Step y.Under.Base y.Under.Step y.Load.Base y.Load.Step w
  rw [show Op.equal 34 (avApiBox x) (avApiBox y) = Op.equalIn 10000 34 (avApiBox x) (avApiBox y) from rfl]
  refine h.trans ?_
  congr 1
  exact decide_eq_decide.2 (by simp [iff_ApiBox, iff_ApiKey]))
instance : KInj avApiBox := ⟨fun x y h => by simp at h; simp [iff_ApiBox, iff_ApiKey, h]⟩
instance : KeyT Try.prog 73 ApiSealed avApiSealed := KeyT.agg Try.underlying73 (fun _ => ⟨_, rfl⟩) (fun e x w => by kernel_rfl) (fun x => sameBits_agg 9999 (by intro v hv; simp at hv; rcases hv with rfl | rfl | rfl | rfl <;> simp [Instr.sameBits, MapKept.bytes_beq])) (fun x y w => by
  have h := eqS73 9997 x.Epoch x.Under.Base x.Under.Step x.Text y.Epoch y.Under.Base y.Under.Step y.Text w
  rw [show Op.equal 73 (avApiSealed x) (avApiSealed y) = Op.equalIn 10000 73 (avApiSealed x) (avApiSealed y) from rfl]
  refine h.trans ?_
  congr 1
  exact decide_eq_decide.2 (by simp [iff_ApiSealed, iff_ApiKey]))
instance : KInj avApiSealed := ⟨fun x y h => by simp at h; simp [iff_ApiSealed, iff_ApiKey, h]⟩
instance : NotI Try.prog 58 := ⟨fun v w => by kernel_rfl⟩
instance : NotI Try.prog 91 := ⟨fun v w => by kernel_rfl⟩
instance : NotI Try.prog 92 := ⟨fun v w => by kernel_rfl⟩
instance : Clo Try.prog 67 := Clo.of Try.func67 (by kernel_rfl) (by kernel_rfl) (by kernel_rfl) (by kernel_rfl)
instance : Fn1 Try.prog 15 := ⟨fun args w => by kernel_rfl⟩
instance : Fn1 Try.prog 16 := ⟨fun args w => by kernel_rfl⟩
instance : Fn1 Try.prog 17 := ⟨fun args w => by kernel_rfl⟩
instance : Fn1 Try.prog 18 := ⟨fun args w => by kernel_rfl⟩
instance : Fn1 Try.prog 19 := ⟨fun args w => by kernel_rfl⟩
instance : Fn1 Try.prog 20 := ⟨fun args w => by kernel_rfl⟩
instance : Fn1 Try.prog 21 := ⟨fun args w => by kernel_rfl⟩
instance : Fn1 Try.prog 22 := ⟨fun args w => by kernel_rfl⟩
instance : Fn1 Try.prog 23 := ⟨fun args w => by kernel_rfl⟩
instance : Fn1 Try.prog 24 := ⟨fun args w => by kernel_rfl⟩
instance : Fn1 Try.prog 25 := ⟨fun args w => by kernel_rfl⟩
instance : Fn1 Try.prog 26 := ⟨fun args w => by kernel_rfl⟩
instance : Fn1 Try.prog 27 := ⟨fun args w => by kernel_rfl⟩
instance : Fn1 Try.prog 28 := ⟨fun args w => by kernel_rfl⟩
instance : Fn1 Try.prog 29 := ⟨fun args w => by kernel_rfl⟩
instance : Fn1 Try.prog 30 := ⟨fun args w => by kernel_rfl⟩
instance : Fn1 Try.prog 31 := ⟨fun args w => by kernel_rfl⟩
instance : Fn1 Try.prog 32 := ⟨fun args w => by kernel_rfl⟩
instance : Fn1 Try.prog 33 := ⟨fun args w => by kernel_rfl⟩
instance : Fn1 Try.prog 34 := ⟨fun args w => by kernel_rfl⟩
instance : Fn1 Try.prog 35 := ⟨fun args w => by kernel_rfl⟩
instance : Fn1 Try.prog 36 := ⟨fun args w => by kernel_rfl⟩
instance : Fn1 Try.prog 37 := ⟨fun args w => by kernel_rfl⟩
instance : Fn1 Try.prog 38 := ⟨fun args w => by kernel_rfl⟩
instance : Fn1 Try.prog 39 := ⟨fun args w => by kernel_rfl⟩
instance : Fn1 Try.prog 40 := ⟨fun args w => by kernel_rfl⟩
instance : Fn1 Try.prog 41 := ⟨fun args w => by kernel_rfl⟩
instance : Fn1 Try.prog 42 := ⟨fun args w => by kernel_rfl⟩
instance : Fn1 Try.prog 43 := ⟨fun args w => by kernel_rfl⟩
instance : Fn1 Try.prog 44 := ⟨fun args w => by kernel_rfl⟩
instance : Fn1 Try.prog 45 := ⟨fun args w => by kernel_rfl⟩
instance : Fn1 Try.prog 46 := ⟨fun args w => by kernel_rfl⟩
instance : Fn1 Try.prog 47 := ⟨fun args w => by kernel_rfl⟩
instance : Fn1 Try.prog 48 := ⟨fun args w => by kernel_rfl⟩
instance : Fn1 Try.prog 49 := ⟨fun args w => by kernel_rfl⟩
instance : Fn1 Try.prog 50 := ⟨fun args w => by kernel_rfl⟩
instance : Fn1 Try.prog 51 := ⟨fun args w => by kernel_rfl⟩
instance : Fn1 Try.prog 52 := ⟨fun args w => by kernel_rfl⟩
instance : Fn1 Try.prog 53 := ⟨fun args w => by kernel_rfl⟩
instance : Fn1 Try.prog 54 := ⟨fun args w => by kernel_rfl⟩
instance : Fn1 Try.prog 55 := ⟨fun args w => by kernel_rfl⟩
instance : Fn1 Try.prog 56 := ⟨fun args w => by kernel_rfl⟩
instance : Fn1 Try.prog 57 := ⟨fun args w => by kernel_rfl⟩
instance : Fn1 Try.prog 58 := ⟨fun args w => by kernel_rfl⟩
instance : Fn1 Try.prog 59 := ⟨fun args w => by kernel_rfl⟩
instance : Fn1 Try.prog 60 := ⟨fun args w => by kernel_rfl⟩
instance : Fn1 Try.prog 61 := ⟨fun args w => by kernel_rfl⟩
instance : Fn1 Try.prog 62 := ⟨fun args w => by kernel_rfl⟩
instance : Fn1 Try.prog 63 := ⟨fun args w => by kernel_rfl⟩
instance : Fn1 Try.prog 64 := ⟨fun args w => by kernel_rfl⟩
instance : Fn1 Try.prog 65 := ⟨fun args w => by kernel_rfl⟩
instance : Fn1 Try.prog 66 := ⟨fun args w => by kernel_rfl⟩
instance : Fn1 Try.prog 68 := ⟨fun args w => by kernel_rfl⟩
instance : Fn1 Try.prog 69 := ⟨fun args w => by kernel_rfl⟩
instance : Fn1 Try.prog 70 := ⟨fun args w => by kernel_rfl⟩
instance : Fn1 Try.prog 71 := ⟨fun args w => by kernel_rfl⟩
instance : Fn1 Try.prog 72 := ⟨fun args w => by kernel_rfl⟩
instance : Fn1 Try.prog 73 := ⟨fun args w => by kernel_rfl⟩
instance : Fn1 Try.prog 74 := ⟨fun args w => by kernel_rfl⟩
instance : Fn1 Try.prog 76 := ⟨fun args w => by kernel_rfl⟩
instance : Fn1 Try.prog 77 := ⟨fun args w => by kernel_rfl⟩
instance : Fn1 Try.prog 78 := ⟨fun args w => by kernel_rfl⟩
instance : Fn1 Try.prog 79 := ⟨fun args w => by kernel_rfl⟩
instance : Fn1 Try.prog 80 := ⟨fun args w => by kernel_rfl⟩
instance : Fn1 Try.prog 81 := ⟨fun args w => by kernel_rfl⟩
instance : Fn1 Try.prog 82 := ⟨fun args w => by kernel_rfl⟩
end Go.Proofs.Ytbkobjdeijdpgaa
