/- Contracts of functions of the given program, and lemmas about plain lists and numbers: what the laws of this seat lean on. -/
import Derived.Test.YtlhnhjconifacaaDoorF6
import Derived.Shelf.Strconv.Itoa0
namespace Go.Proofs.YtlhnhjconifacaaDoor
def ln64_ren : Go.Shelf.Ren := ⟨fun | 129 => 70 | n => n, fun | 53 => 45 | 3 => 3 | 4 => 4 | 46 => 65 | 5 => 5 | 9 => 9 | n => n, fun | n => n⟩
theorem ln64 : Go.Proofs.Lays.n129 Tryd.prog ln64_ren where
  mixed := by kernel_rfl
  f129 := Tryd.func70.trans (congrArg some (by kernel_rfl))
  t3 := Tryd.underlying3
  a3 := Tryd.isAgg3
  z3 := Tryd.sizeOf3
  v3 := Tryd.zeroValue3
  t4 := Tryd.underlying4
  a4 := Tryd.isAgg4
  z4 := Tryd.sizeOf4
  v4 := Tryd.zeroValue4
  t5 := Tryd.underlying5
  a5 := Tryd.isAgg5
  z5 := Tryd.sizeOf5
  v5 := Tryd.zeroValue5
  t9 := Tryd.underlying9
  a9 := Tryd.isAgg9
  z9 := Tryd.sizeOf9
  v9 := Tryd.zeroValue9
  t46 := Tryd.underlying65
  a46 := Tryd.isAgg65
  z46 := Tryd.sizeOf65
  v46 := Tryd.zeroValue65
  t53 := Tryd.underlying45
  a53 := Tryd.isAgg45
  z53 := Tryd.sizeOf45
  v53 := Tryd.zeroValue45
end Go.Proofs.YtlhnhjconifacaaDoor
namespace Go.Proofs.YtlhnhjconifacaaDoor
open Go.Eng
attribute [local irreducible] opK wpList Code.wp Exit.then Exit.inBlock fnPost bodyPost Nx Calls Oper.wp Rd Rds Wr Ent Stars Blk Again Vec FnSpec wpMix QRun Stop Upto wpAt
theorem len64_spec (x : Nat) (h1 : x < 18446744073709551616) (I : PH) :
    FnSpec Tryd.prog 70 [.int .u64 x] I [] (fun v R' => v = .int .i64 (Lib.bitLen x) ∧ R' = []) :=
  FnSpec.of_same fun w _ _ _ => Any.bits_Len64 ln64 x w (by omega) (by omega)
end Go.Proofs.YtlhnhjconifacaaDoor
