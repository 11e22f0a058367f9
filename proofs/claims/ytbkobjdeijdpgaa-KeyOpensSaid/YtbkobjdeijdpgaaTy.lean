/- What the symbolic execution asks of this program's types and functions, laid by a program of mine (gen_ty.py); each is proved by the kernel. -/
import Derived.Test.YtbkobjdeijdpgaaProg
import Derived.Test.YtbkobjdeijdpgaaSe
import Derived.KernelRfl
namespace Go.Proofs.Ytbkobjdeijdpgaa
open Go Go.SX
set_option linter.unusedVariables false
instance : Und Try.prog 3 (.int .i64) := ⟨Try.underlying3⟩
instance : Sc Try.prog 3 := ⟨fun w => by kernel_rfl⟩
instance : Sz Try.prog 3 1 := ⟨fun w => by kernel_rfl⟩
instance : Zr Try.prog 3 (.int .i64 0) := ⟨fun w => by kernel_rfl⟩
instance : Und Try.prog 4 .bool := ⟨Try.underlying4⟩
instance : Sc Try.prog 4 := ⟨fun w => by kernel_rfl⟩
instance : Sz Try.prog 4 1 := ⟨fun w => by kernel_rfl⟩
instance : Zr Try.prog 4 (.bool false) := ⟨fun w => by kernel_rfl⟩
instance : Und Try.prog 5 (.int .u8) := ⟨Try.underlying5⟩
instance : Sc Try.prog 5 := ⟨fun w => by kernel_rfl⟩
instance : Sz Try.prog 5 1 := ⟨fun w => by kernel_rfl⟩
instance : Zr Try.prog 5 (.int .u8 0) := ⟨fun w => by kernel_rfl⟩
instance : Und Try.prog 9 .string := ⟨Try.underlying9⟩
instance : Sc Try.prog 9 := ⟨fun w => by kernel_rfl⟩
instance : Sz Try.prog 9 1 := ⟨fun w => by kernel_rfl⟩
instance : Zr Try.prog 9 (.string ByteArray.empty) := ⟨fun w => by kernel_rfl⟩
instance : Ag Try.prog 23 2 := ⟨fun w => by kernel_rfl, fun w => by kernel_rfl⟩
instance : Sz Try.prog 23 2 := ⟨fun w => by kernel_rfl⟩
instance : Zr Try.prog 23 (.agg #[.int .i64 0, .int .i64 0]) := ⟨fun w => by kernel_rfl⟩
instance : Fl Try.prog 23 0 0 := ⟨fun b o w => by kernel_rfl⟩
instance : Fl Try.prog 23 1 1 := ⟨fun b o w => by kernel_rfl⟩
instance : Und Try.prog 26 (.int .i64) := ⟨Try.underlying26⟩
instance : Sc Try.prog 26 := ⟨fun w => by kernel_rfl⟩
instance : Sz Try.prog 26 1 := ⟨fun w => by kernel_rfl⟩
instance : Zr Try.prog 26 (.int .i64 0) := ⟨fun w => by kernel_rfl⟩
instance : Ag Try.prog 34 4 := ⟨fun w => by kernel_rfl, fun w => by kernel_rfl⟩
instance : Sz Try.prog 34 4 := ⟨fun w => by kernel_rfl⟩
instance : Zr Try.prog 34 (.agg #[.int .i64 0, .int .i64 0, .int .i64 0, .int .i64 0]) := ⟨fun w => by kernel_rfl⟩
instance : Fl Try.prog 34 0 0 := ⟨fun b o w => by kernel_rfl⟩
instance : Fl Try.prog 34 1 2 := ⟨fun b o w => by kernel_rfl⟩
instance : Und Try.prog 39 (.slice 48) := ⟨Try.underlying39⟩
instance : Sc Try.prog 39 := ⟨fun w => by kernel_rfl⟩
instance : Sz Try.prog 39 1 := ⟨fun w => by kernel_rfl⟩
instance : Zr Try.prog 39 (.slice none 0 0) := ⟨fun w => by kernel_rfl⟩
instance : El Try.prog 48 3 32 := elOf (z := .agg #[.int .i64 0, .int .i64 0, .string ByteArray.empty]) (by kernel_rfl) (by rfl) (by omega)
instance : Und Try.prog 40 (.pointer 84) := ⟨Try.underlying40⟩
instance : Sc Try.prog 40 := ⟨fun w => by kernel_rfl⟩
instance : Sz Try.prog 40 1 := ⟨fun w => by kernel_rfl⟩
instance : Zr Try.prog 40 (.pointer none) := ⟨fun w => by kernel_rfl⟩
instance : Und Try.prog 43 (.slice 51) := ⟨Try.underlying43⟩
instance : Sc Try.prog 43 := ⟨fun w => by kernel_rfl⟩
instance : Sz Try.prog 43 1 := ⟨fun w => by kernel_rfl⟩
instance : Zr Try.prog 43 (.slice none 0 0) := ⟨fun w => by kernel_rfl⟩
instance : El Try.prog 51 3 32 := elOf (z := .agg #[.int .i64 0, .int .i64 0, .string ByteArray.empty]) (by kernel_rfl) (by rfl) (by omega)
instance : Und Try.prog 44 (.slice 4) := ⟨Try.underlying44⟩
instance : Sc Try.prog 44 := ⟨fun w => by kernel_rfl⟩
instance : Sz Try.prog 44 1 := ⟨fun w => by kernel_rfl⟩
instance : Zr Try.prog 44 (.slice none 0 0) := ⟨fun w => by kernel_rfl⟩
instance : El Try.prog 4 1 1 := elOf (z := .bool false) (by kernel_rfl) (by rfl) (by omega)
instance : Ag Try.prog 46 2 := ⟨fun w => by kernel_rfl, fun w => by kernel_rfl⟩
instance : Sz Try.prog 46 2 := ⟨fun w => by kernel_rfl⟩
instance : Zr Try.prog 46 (.agg #[.slice none 0 0, .slice none 0 0]) := ⟨fun w => by kernel_rfl⟩
instance : Fl Try.prog 46 0 0 := ⟨fun b o w => by kernel_rfl⟩
instance : Fl Try.prog 46 1 1 := ⟨fun b o w => by kernel_rfl⟩
instance : Ag Try.prog 48 3 := ⟨fun w => by kernel_rfl, fun w => by kernel_rfl⟩
instance : Sz Try.prog 48 3 := ⟨fun w => by kernel_rfl⟩
instance : Zr Try.prog 48 (.agg #[.int .i64 0, .int .i64 0, .string ByteArray.empty]) := ⟨fun w => by kernel_rfl⟩
instance : Fl Try.prog 48 0 0 := ⟨fun b o w => by kernel_rfl⟩
instance : Fl Try.prog 48 1 1 := ⟨fun b o w => by kernel_rfl⟩
instance : Fl Try.prog 48 2 2 := ⟨fun b o w => by kernel_rfl⟩
instance : Ag Try.prog 51 3 := ⟨fun w => by kernel_rfl, fun w => by kernel_rfl⟩
instance : Sz Try.prog 51 3 := ⟨fun w => by kernel_rfl⟩
instance : Zr Try.prog 51 (.agg #[.int .i64 0, .int .i64 0, .string ByteArray.empty]) := ⟨fun w => by kernel_rfl⟩
instance : Fl Try.prog 51 0 0 := ⟨fun b o w => by kernel_rfl⟩
instance : Fl Try.prog 51 1 1 := ⟨fun b o w => by kernel_rfl⟩
instance : Fl Try.prog 51 2 2 := ⟨fun b o w => by kernel_rfl⟩
instance : Und Try.prog 58 (.map 3 3) := ⟨Try.underlying58⟩
instance : Sc Try.prog 58 := ⟨fun w => by kernel_rfl⟩
instance : Sz Try.prog 58 1 := ⟨fun w => by kernel_rfl⟩
instance : Zr Try.prog 58 (.map none) := ⟨fun w => by kernel_rfl⟩
instance : Und Try.prog 60 (.int .u32) := ⟨Try.underlying60⟩
instance : Sc Try.prog 60 := ⟨fun w => by kernel_rfl⟩
instance : Sz Try.prog 60 1 := ⟨fun w => by kernel_rfl⟩
instance : Zr Try.prog 60 (.int .u32 0) := ⟨fun w => by kernel_rfl⟩
instance : Und Try.prog 82 (.map 3 51) := ⟨Try.underlying82⟩
instance : Sc Try.prog 82 := ⟨fun w => by kernel_rfl⟩
instance : Sz Try.prog 82 1 := ⟨fun w => by kernel_rfl⟩
instance : Zr Try.prog 82 (.map none) := ⟨fun w => by kernel_rfl⟩
instance : Ag Try.prog 84 2 := ⟨fun w => by kernel_rfl, fun w => by kernel_rfl⟩
instance : Sz Try.prog 84 2 := ⟨fun w => by kernel_rfl⟩
instance : Zr Try.prog 84 (.agg #[.slice none 0 0, .map none]) := ⟨fun w => by kernel_rfl⟩
instance : Fl Try.prog 84 0 0 := ⟨fun b o w => by kernel_rfl⟩
instance : Fl Try.prog 84 1 1 := ⟨fun b o w => by kernel_rfl⟩
instance  : BA Try.prog 23 [] #[.int .i64 0, .int .i64 0] := ⟨fun w => by kernel_rfl⟩
instance (x1 : Int) (x2 : Int) : BA Try.prog 23 [(0, .int .i64 x1), (1, .int .i64 x2)] #[.int .i64 x1, .int .i64 x2] := ⟨fun w => by kernel_rfl⟩
instance  : BA Try.prog 34 [] #[.int .i64 0, .int .i64 0, .int .i64 0, .int .i64 0] := ⟨fun w => by kernel_rfl⟩
instance (x1 : Int) (x2 : Int) (x3 : Int) (x4 : Int) : BA Try.prog 34 [(0, .agg #[.int .i64 x1, .int .i64 x2]), (1, .agg #[.int .i64 x3, .int .i64 x4])] #[.int .i64 x1, .int .i64 x2, .int .i64 x3, .int .i64 x4] := ⟨fun w => by kernel_rfl⟩
instance  : BA Try.prog 46 [] #[.slice none 0 0, .slice none 0 0] := ⟨fun w => by kernel_rfl⟩
instance  : BA Try.prog 51 [] #[.int .i64 0, .int .i64 0, .string ByteArray.empty] := ⟨fun w => by kernel_rfl⟩
instance (x1 : Int) : BA Try.prog 51 [(0, .int .i64 x1)] #[.int .i64 x1, .int .i64 0, .string ByteArray.empty] := ⟨fun w => by kernel_rfl⟩
instance (x1 : Int) (x2 : Int) (x3 : ByteArray) : BA Try.prog 51 [(0, .int .i64 x1), (1, .int .i64 x2), (2, .string x3)] #[.int .i64 x1, .int .i64 x2, .string x3] := ⟨fun w => by kernel_rfl⟩
instance (x1 : Option Nat) : BA Try.prog 84 [(1, .map x1)] #[.slice none 0 0, .map x1] := ⟨fun w => by kernel_rfl⟩
instance  : BS Try.prog 43 0 [] #[] 51 := ⟨fun w => by kernel_rfl⟩
instance (x1 : Int) (x2 : Int) (x3 : ByteArray) : BS Try.prog 43 1 [(0, .agg #[.int .i64 x1, .int .i64 x2, .string x3])] #[.int .i64 x1, .int .i64 x2, .string x3] 51 := ⟨fun w => by kernel_rfl⟩
instance (x1 : Bool) : BS Try.prog 44 1 [(0, .bool x1)] #[.bool x1] 4 := ⟨fun w => by kernel_rfl⟩
theorem eqS23 (d : Nat) (x1 : Int) (x2 : Int) (x3 : Int) (x4 : Int) : EqV Try.prog (d + 2) 23 (.agg #[.int .i64 x1, .int .i64 x2]) (.agg #[.int .i64 x3, .int .i64 x4]) (x1 = x3 ∧ x2 = x4) := eqvStruct Try.underlying23 (by kernel_rfl) (eqfCons (by rfl) (fun w => by kernel_rfl) (fun w => by kernel_rfl) (eqvInt Try.underlying3) (eqfLast (by rfl) (fun w => by kernel_rfl) (fun w => by kernel_rfl) (eqvInt Try.underlying3)))
instance (x1 : Int) (x2 : Int) (x3 : Int) (x4 : Int) : Bin Try.prog .eql 23 (.agg #[.int .i64 x1, .int .i64 x2]) (.agg #[.int .i64 x3, .int .i64 x4]) (.bool (decide (x1 = x3 ∧ x2 = x4))) := binEq (by kernel_rfl) (eqS23 9998 x1 x2 x3 x4)
instance (x1 : Int) (x2 : Int) (x3 : Int) (x4 : Int) : Bin Try.prog .neq 23 (.agg #[.int .i64 x1, .int .i64 x2]) (.agg #[.int .i64 x3, .int .i64 x4]) (.bool (decide ¬ (x1 = x3 ∧ x2 = x4))) := binNe (by kernel_rfl) (eqS23 9998 x1 x2 x3 x4)
theorem eqS34 (d : Nat) (x1 : Int) (x2 : Int) (x3 : Int) (x4 : Int) (x5 : Int) (x6 : Int) (x7 : Int) (x8 : Int) : EqV Try.prog (d + 3) 34 (.agg #[.int .i64 x1, .int .i64 x2, .int .i64 x3, .int .i64 x4]) (.agg #[.int .i64 x5, .int .i64 x6, .int .i64 x7, .int .i64 x8]) ((x1 = x5 ∧ x2 = x6) ∧ (x3 = x7 ∧ x4 = x8)) := eqvStruct Try.underlying34 (by kernel_rfl) (eqfCons (by rfl) (fun w => by kernel_rfl) (fun w => by kernel_rfl) (eqS23 (d + 0) _ _ _ _) (eqfLast (by rfl) (fun w => by kernel_rfl) (fun w => by kernel_rfl) (eqS23 (d + 0) _ _ _ _)))
instance (x1 : Int) (x2 : Int) (x3 : Int) (x4 : Int) (x5 : Int) (x6 : Int) (x7 : Int) (x8 : Int) : Bin Try.prog .eql 34 (.agg #[.int .i64 x1, .int .i64 x2, .int .i64 x3, .int .i64 x4]) (.agg #[.int .i64 x5, .int .i64 x6, .int .i64 x7, .int .i64 x8]) (.bool (decide ((x1 = x5 ∧ x2 = x6) ∧ (x3 = x7 ∧ x4 = x8)))) := binEq (by kernel_rfl) (eqS34 9997 x1 x2 x3 x4 x5 x6 x7 x8)
instance (x1 : Int) (x2 : Int) (x3 : Int) (x4 : Int) (x5 : Int) (x6 : Int) (x7 : Int) (x8 : Int) : Bin Try.prog .neq 34 (.agg #[.int .i64 x1, .int .i64 x2, .int .i64 x3, .int .i64 x4]) (.agg #[.int .i64 x5, .int .i64 x6, .int .i64 x7, .int .i64 x8]) (.bool (decide ¬ ((x1 = x5 ∧ x2 = x6) ∧ (x3 = x7 ∧ x4 = x8)))) := binNe (by kernel_rfl) (eqS34 9997 x1 x2 x3 x4 x5 x6 x7 x8)
theorem eqS51 (d : Nat) (x1 : Int) (x2 : Int) (x3 : ByteArray) (x4 : Int) (x5 : Int) (x6 : ByteArray) : EqV Try.prog (d + 2) 51 (.agg #[.int .i64 x1, .int .i64 x2, .string x3]) (.agg #[.int .i64 x4, .int .i64 x5, .string x6]) (x1 = x4 ∧ x2 = x5 ∧ x3.toList = x6.toList) := eqvStruct Try.underlying51 (by kernel_rfl) (eqfCons (by rfl) (fun w => by kernel_rfl) (fun w => by kernel_rfl) (eqvInt Try.underlying3) (eqfCons (by rfl) (fun w => by kernel_rfl) (fun w => by kernel_rfl) (eqvInt Try.underlying3) (eqfLast (by rfl) (fun w => by kernel_rfl) (fun w => by kernel_rfl) (eqvStr Try.underlying9))))
instance (x1 : Int) (x2 : Int) (x3 : ByteArray) (x4 : Int) (x5 : Int) (x6 : ByteArray) : Bin Try.prog .eql 51 (.agg #[.int .i64 x1, .int .i64 x2, .string x3]) (.agg #[.int .i64 x4, .int .i64 x5, .string x6]) (.bool (decide (x1 = x4 ∧ x2 = x5 ∧ x3.toList = x6.toList))) := binEq (by kernel_rfl) (eqS51 9998 x1 x2 x3 x4 x5 x6)
instance (x1 : Int) (x2 : Int) (x3 : ByteArray) (x4 : Int) (x5 : Int) (x6 : ByteArray) : Bin Try.prog .neq 51 (.agg #[.int .i64 x1, .int .i64 x2, .string x3]) (.agg #[.int .i64 x4, .int .i64 x5, .string x6]) (.bool (decide ¬ (x1 = x4 ∧ x2 = x5 ∧ x3.toList = x6.toList))) := binNe (by kernel_rfl) (eqS51 9998 x1 x2 x3 x4 x5 x6)
instance : Fn1 Try.prog 15 := ⟨fun args w => by kernel_rfl⟩
instance : Fn1 Try.prog 16 := ⟨fun args w => by kernel_rfl⟩
instance : Fn1 Try.prog 17 := ⟨fun args w => by kernel_rfl⟩
instance : Fn1 Try.prog 18 := ⟨fun args w => by kernel_rfl⟩
instance : Fn1 Try.prog 20 := ⟨fun args w => by kernel_rfl⟩
instance : Fn1 Try.prog 21 := ⟨fun args w => by kernel_rfl⟩
instance : Fn1 Try.prog 22 := ⟨fun args w => by kernel_rfl⟩
instance : Fn1 Try.prog 23 := ⟨fun args w => by kernel_rfl⟩
instance : Fn1 Try.prog 24 := ⟨fun args w => by kernel_rfl⟩
instance : Fn1 Try.prog 25 := ⟨fun args w => by kernel_rfl⟩
instance : Fn1 Try.prog 26 := ⟨fun args w => by kernel_rfl⟩
instance : Fn1 Try.prog 27 := ⟨fun args w => by kernel_rfl⟩
instance : Fn1 Try.prog 28 := ⟨fun args w => by kernel_rfl⟩
instance : Fn1 Try.prog 29 := ⟨fun args w => by kernel_rfl⟩
instance : Fn1 Try.prog 30 := ⟨fun args w => by kernel_rfl⟩
instance : Fn1 Try.prog 31 := ⟨fun args w => by kernel_rfl⟩
instance : Fn1 Try.prog 32 := ⟨fun args w => by kernel_rfl⟩
instance : Fn1 Try.prog 33 := ⟨fun args w => by kernel_rfl⟩
instance : Fn1 Try.prog 34 := ⟨fun args w => by kernel_rfl⟩
instance : Fn1 Try.prog 35 := ⟨fun args w => by kernel_rfl⟩
instance : Fn1 Try.prog 36 := ⟨fun args w => by kernel_rfl⟩
instance : Fn1 Try.prog 37 := ⟨fun args w => by kernel_rfl⟩
instance : Fn1 Try.prog 45 := ⟨fun args w => by kernel_rfl⟩
instance : Fn1 Try.prog 53 := ⟨fun args w => by kernel_rfl⟩
instance : Fn1 Try.prog 54 := ⟨fun args w => by kernel_rfl⟩
end Go.Proofs.Ytbkobjdeijdpgaa
