/- Contracts of functions of the given program, and lemmas about plain lists and numbers: what the laws of this seat lean on. -/
import Derived.Test.YtlhnhjconifacaaDoorF7
import Derived.Shelf.Spec.TrailingZeros
namespace Go.Proofs.YtlhnhjconifacaaDoor
def tz64_ren : Go.Shelf.Ren := ⟨fun | 29 => 69 | n => n, fun | 22 => 45 | 3 => 3 | 4 => 4 | 25 => 65 | 54 => 79 | 0 => 0 | 5 => 5 | n => n, fun | 1 => 0 | n => n⟩
theorem tz64 : Go.Proofs.Lays7.n29 Tryd.prog tz64_ren where
  mixed := by kernel_rfl
  f29 := Tryd.func69.trans (congrArg some (by kernel_rfl))
  t0 := Tryd.underlying0
  a0 := Tryd.isAgg0
  z0 := Tryd.sizeOf0
  v0 := Tryd.zeroValue0
  i0 := by kernel_rfl
  t3 := Tryd.underlying3
  a3 := Tryd.isAgg3
  z3 := Tryd.sizeOf3
  v3 := Tryd.zeroValue3
  i3 := by kernel_rfl
  t4 := Tryd.underlying4
  a4 := Tryd.isAgg4
  z4 := Tryd.sizeOf4
  v4 := Tryd.zeroValue4
  i4 := by kernel_rfl
  t5 := Tryd.underlying5
  a5 := Tryd.isAgg5
  z5 := Tryd.sizeOf5
  v5 := Tryd.zeroValue5
  i5 := by kernel_rfl
  t22 := Tryd.underlying45
  a22 := Tryd.isAgg45
  z22 := Tryd.sizeOf45
  v22 := Tryd.zeroValue45
  i22 := by kernel_rfl
  t25 := Tryd.underlying65
  a25 := Tryd.isAgg65
  z25 := Tryd.sizeOf65
  v25 := Tryd.zeroValue65
  i25 := by kernel_rfl
  t54 := Tryd.underlying79
  a54 := Tryd.isAgg79
  z54 := Tryd.sizeOf79
  g1 := by kernel_rfl
end Go.Proofs.YtlhnhjconifacaaDoor
namespace Go.Proofs.YtlhnhjconifacaaDoor
open Go.Eng
/-- What memory that nobody writes says about the table of bits.TrailingZeros64. -/
def TabI (I : PH) : Prop := ∀ (W w : World) (R : List Res), St W I R w → TabAt (tz64_ren.g 1) Lib.deBruijn64tab w
theorem tz64_spec (x : Nat) (h1 : x < 18446744073709551616) (I : PH) (hT : TabI I) :
    FnSpec Tryd.prog 69 [.int .u64 x] I [] (fun v R' => v = .int .i64 (Lib.ctz 64 x : Nat) ∧ R' = []) :=
  FnSpec.of_same fun w W R hw => Any7.bits_TrailingZeros64 tz64 x h1 w fun _ => hT W w R hw
end Go.Proofs.YtlhnhjconifacaaDoor
