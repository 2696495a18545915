/-
  The proof engine, part N: arrays.
-/
import Derived.Test.YtaoeapmdhpkidaaEngF
namespace Go.Eng
section
variable {C : Cx} {e e' : Env} {I I' : PH} {R R' R0 : List Res} {K K' : Act → World → Prop} {Q : Exit → Act → World → Prop} {W : World}
variable {d : Nat} {ty t el : TypeId} {pos : String} {after : Array Edge} {g : Option (Nat × Bool)} {x y : Operand} {dst : Option Tmp} {S : World → Prop}
/-- An array's literal: its cells are told. -/
theorem Nx.buildX {parts : Array (Nat × Operand)} {vs : List Value} (cs : List Value) (hx : evs e (parts.toList.map (·.2)) = some vs)
    (hv : pureRun C.P (Instr.build t (((parts.toList.map (·.1)).zip vs).toArray)) = some (.agg cs.toArray)) (hlt : Nat.blt d C.n = true)
    (h : Nx C ((d, .agg cs.toArray) :: e) I R K) : Nx C e I R (opK C.P ⟨some d, .build t parts, ty, pos, after, g⟩ K Q) :=
  Nx.op_run rfl hlt (fun a w ha _ => by
    have e1 : (parts.map fun (i, x) => (i, a.eval x)) = ((parts.toList.map (·.1)).zip vs).toArray := by
      rw [← ha.evals hx]
      apply Array.ext'
      simp only [Array.toList_map]
      induction parts.toList with
      | nil => rfl
      | cons p r ih => simp [ih]
    simp only [execOp, e1]
    exact run_v (run_of_pureRun hv w)) h
theorem run_indexArr {P : Program} {k : IntKind} {i n sz : Nat} {a : Addr} (ht : P.underlying t = some (.array n el)) (hsz : cellsIn P el = some sz) (h1 : i < n) (w : World) :
    (Instr.indexAt t (.pointer (some a)) (.int k (i : Int))).run P w = .ok (.pointer (some (a.add (i * sz)))) w := by
  have hz : (sizeOf el).run P w = .ok sz w := cellsIn_run hsz w
  have hand : 0 ≤ (i : Int) ∧ (i : Int) < (n : Int) := ⟨by omega, by omega⟩
  simp [Instr.indexAt, asIntOf, run_underlying ht, hz, hand, Instr.sureAddr]
  intro h; omega
theorem QRun.idxArr {k0 : IntKind} {i n sz b o : Nat} (hx : evo e x = some (.pointer (some ⟨b, o, none⟩))) (hy : evo e y = some (.int k0 (i : Int))) (ht : C.P.underlying t = some (.array n el)) (hsz : cellsIn C.P el = some sz) (h1 : Nat.blt i n = true) :
    QRun C e S ⟨dst, .indexAddr t x y, ty, pos, after, g⟩ (.pointer (some ⟨b, o + i * sz, none⟩)) := fun a w ha _ => by
  simp only [execOp, ha.eval hx, ha.eval hy]
  refine run_v ?_
  have := run_indexArr (P := C.P) (k := k0) (a := ⟨b, o, none⟩) ht hsz (by simpa [Nat.blt_eq] using h1) w
  rw [Addr.add_lit] at this
  exact this
/-- What is asked of all worlds stays so though more has been given up. -/
theorem Nx.mix_Sle (hle : PH.le I I') (hR : Ent R R0) (h : Nx C e I' R K) : Nx C e I' R (fun a w => St C.W I R0 w ∧ K a w) := fun a w ha hw => ⟨(hw.imm_le hle).ent hR, h a w ha hw⟩
end
end Go.Eng
