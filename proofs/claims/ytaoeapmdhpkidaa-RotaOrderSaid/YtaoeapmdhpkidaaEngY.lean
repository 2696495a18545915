/-
  The proof engine, part Y: more on strings and closures.
-/
import Derived.Test.YtaoeapmdhpkidaaEngX
import Derived.Test.YtaoeapmdhpkidaaEngK
import Derived.Test.YtaoeapmdhpkidaaEngN
namespace Go.Eng
theorem Blk.cell {b k : Nat} {t : TypeId} {cs : List Value} {v : Value} {m : PH} (h : Blk b t cs m) (hk : nthL cs k = some v) : cellH m ⟨b, k, none⟩ = some v := by
  rw [nthL_eq] at hk
  simp [cellH, show m b = _ from h]
  exact hk
end Go.Eng
