/- Contracts of functions of the given program, and lemmas about plain lists and numbers: what the laws of this seat lean on. -/
import Derived.Test.YtpmlehplbobjmaaDoorRows
import Derived.Test.YtpmlehplbobjmaaDoorChecked
import Derived.Test.YtpmlehplbobjmaaDoorD2
import Derived.WalkKit
import Derived.ProofKit
import Derived.OpenShut
import Derived.LaidHandle
import Derived.LaidLaws
import Derived.Lib.LaidTab
import Derived.Stop.LaidErr
import Derived.Lib.ItoaMem
import Derived.Lib.TrailingZeros
namespace Go.Proofs.YtpmlehplbobjmaaDoor
open Go.Eng
abbrev laid3 : List (String × DataW Unit) := [( "math/bits.deBruijn32tab", Rows.laid_math_bits_deBruijn32tab), ("math/bits.deBruijn64tab", Rows.laid_math_bits_deBruijn64tab), ("internal/strconv.uint64pow10", Rows.laid_internal_strconv_uint64pow10)]
def tab32 : List Int := [0, 1, 28, 2, 29, 14, 24, 3, 30, 22, 20, 15, 25, 17, 4, 8, 31, 27, 13, 23, 21, 19, 16, 7, 26, 12, 18, 6, 11, 5, 10, 9]
def setBlk (cs : List Value) : Obj → Obj
  | .cells _ t frozen => .cells cs.toArray t frozen
  | o => o
/-- The settled world, the three tables holding what their initialisers lay: the witness. -/
noncomputable def laidWorld (os : Os) : World :=
  { World.holding Tryd.prog os ⟨#[], #[], []⟩ with heap := (((World.holding Tryd.prog os ⟨#[], #[], []⟩).heap.modify 2 (setBlk (Lib.deBruijn64tab.map fun z : Nat => Value.int .u8 z))).modify 0 (setBlk (Lib.pow10Tab.map fun z => Value.int .u64 z))).modify 1 (setBlk (tab32.map fun z => Value.int .u8 z)) }
theorem laidWorld_met (os : Os) (args : Array Value) : laidMetH Tryd.prog laid3 ((laidWorld os).forCall (fun _ _ => 0) ⟨#[], args, []⟩).memory :=
  laidMetH_of_parts (laidMet_of_run' 8 (by kernel_rfl) (by kernel_rfl)) (by kernel_rfl)
theorem tab_of {W : World} (_ : laidMetH Tryd.prog laid3 W) : True := trivial
theorem ten_of {W : World} (_ : laidMetH Tryd.prog laid3 W) : True := trivial
end Go.Proofs.YtpmlehplbobjmaaDoor
