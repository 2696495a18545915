/-
  The proof engine, part I: the end of an owned list is cleared.
-/
import Derived.Test.YtaoeapmdhpkidaaEngX
namespace Go.Eng
theorem setsAt_some : ∀ (vs cs : List Value) (i : Nat), i + vs.length ≤ cs.length → ∃ cs', setsAt cs i vs = some cs' ∧ cs'.length = cs.length ∧ cs'.take i = cs.take i
  | [], cs, i, _ => ⟨cs, rfl, rfl, rfl⟩
  | v :: vs, cs, i, h => by
    simp only [List.length_cons] at h
    have hset : ∀ (cs : List Value) (i : Nat), i < cs.length → setAt cs i v = some (cs.set i v) := by
      intro cs
      induction cs with
      | nil => intro i hi; simp at hi
      | cons c r ih =>
        intro i hi
        cases i with
        | zero => rfl
        | succ i =>
          simp only [setAt]
          rw [ih i (by simpa using hi)]
          rfl
    obtain ⟨cs', h1, h2, h3⟩ := setsAt_some vs (cs.set i v) (i + 1) (by rw [List.length_set]; omega)
    refine ⟨cs', ?_, by rw [h2, List.length_set], ?_⟩
    · unfold setsAt
      rw [hset cs i (by omega)]
      exact h1
    · have := congrArg (List.take i) h3
      rw [List.take_take, List.take_take, Nat.min_eq_left (by omega), List.take_set_of_le (Nat.le_refl _)] at this
      exact this
section
variable {C : Cx} {e : Env} {I : PH} {R : List Res} {K : Act → World → Prop} {Q : Exit → Act → World → Prop}
variable {ty t el : TypeId} {pos : String} {after : Array Edge} {g : Option (Nat × Bool)} {x : Operand} {A : Option Addr} {n c k : Nat}
theorem Nx.clear_tail {tys : Array TypeId} {xs : List Value} {z : Value} (hx : evo e x = some (.slice (offA A c k 1) (n - k) (c - k))) (hty : tys = #[t]) (ht : C.P.underlying t = some (.slice el)) (hz : ∀ w, (zeroValue el).run C.P w = .ok z w)
    (h1 : z.oneCell' = true) (hzc : z.cells = #[z]) (hk : k ≤ n) (h : Nx C e I (Vec el 1 A k c (xs.take k) :: R) K) : Nx C e I (Vec el 1 A n c xs :: R) (opK C.P ⟨none, .call { callee := .builtin .clear, args := #[x], argTypes := tys }, ty, pos, after, g⟩ K Q) := by
  subst hty
  intro a w ha hw
  have hrunb : ∀ w', (Builtin.clear_ #[t] ty #[.slice (offA A c k 1) (n - k) (c - k)]).run C.P w = .ok (.tuple #[]) w' → (execOp a.eval ⟨none, .call { callee := .builtin .clear, args := #[x], argTypes := #[t] }, ty, pos, after, g⟩).run C.P w = .ok (.value (.tuple #[])) w' := fun w' hr => by
    obtain ⟨cs, hcs⟩ := run_builtin (P := C.P) (w := w) (ρ := a.eval) (b := .clear) (args := #[x]) (dst := none) (ty := ty) (pos := pos) (after := after) (g := g) (tys := #[t]) (show [x].map a.eval = [Value.slice (offA A c k 1) (n - k) (c - k)] from by simp only [List.map_cons, List.map_nil, ha.eval hx])
    rw [hcs]
    exact run_v hr
  have shrink : ∀ m, Vec el 1 A n c xs m → n = k → Vec el 1 A k c (xs.take k) m := fun m hm he => by
    subst he
    have hl := hm.1
    rw [List.take_of_length_le (by omega)]
    exact hm
  unfold opK Oper.wp
  by_cases hkn : n = k
  · have hr : (Builtin.clear_ #[t] ty #[.slice (offA A c k 1) (n - k) (c - k)]).run C.P w = .ok (.tuple #[]) w := by
      rw [show n - k = 0 by omega]
      cases hA : offA A c k 1 with
      | none => simp [Builtin.clear_, run_underlying ht]
      | some ad0 => simp [Builtin.clear_, run_underlying ht]
    rw [hrunb w hr]
    exact h a w ha (hw.ent (Ent.head fun m hm => shrink m hm hkn))
  · obtain ⟨⟨m, ⟨m1, m2, hd, rfl, hv, h2⟩, hs⟩, hst⟩ := id hw
    rcases hv.2 with ⟨_, h0, _⟩ | ⟨b, cur, rfl, hb, hnc, hcm, hsz, htake⟩
    · omega
    have hb0 : w.heap[b]? = some (.cells cur el (0, 0)) := hs.own _ _ (PH.le_or_left _ _ _ _ hb)
    have hlz : (Builtin.zeroCells z.cells (n - k)).toList.length = n - k := by rw [Array.length_toList, size_zeroCells, hzc]; simp
    have hoz : ∀ v ∈ (Builtin.zeroCells z.cells (n - k)).toList, v.oneCell' = true := fun v hv => by
      rw [hzc] at hv
      simp only [Builtin.zeroCells, Array.toList_map, List.mem_map] at hv
      obtain ⟨i, _, rfl⟩ := hv
      have : (#[z] : Array Value)[i % (#[z] : Array Value).size]! = z := by simp [Nat.mod_one]
      rw [this]; exact h1
    obtain ⟨cs', hs1, hs2, hs3⟩ := setsAt_some (Builtin.zeroCells z.cells (n - k)).toList cur.toList k (by rw [hlz, Array.length_toList]; omega)
    obtain ⟨w', hr, hb', hk', hst'⟩ := storeCells_from (P := C.P) (Builtin.zeroCells z.cells (n - k)).toList cur.toList cs' k 0 w (by simpa using hb0) (by simpa using hs1) hoz
    have hoff : offA (some (⟨b, 0, none⟩ : Addr)) c k 1 = some ⟨b, k, none⟩ := by
      unfold offA
      rw [if_neg (by omega), Option.map_some, Addr.add_lit]
      simp
    have hrun : (Builtin.clear_ #[t] ty #[.slice (offA (some ⟨b, 0, none⟩) c k 1) (n - k) (c - k)]).run C.P w = .ok (.tuple #[]) w' := by
      rw [hoff]
      obtain ⟨m, hm⟩ : ∃ m, n - k = m + 1 := ⟨n - k - 1, by omega⟩
      rw [hm] at hr ⊢
      simp only [Builtin.clear_, List.getElem?_toArray, List.getElem?_cons_zero]
      rw [Sem.run_bind, run_underlying ht, Result.andThen_ok]
      simp only [Sem.run_bind, hz, Result.andThen_ok]
      rw [hr]
      rfl
    rw [hrunb w' hrun]
    refine h a w' ha (hw.upd (o := .cells cs'.toArray el (0, 0)) (b := b) (fun mm hm => ?_) hb' (fun i hne o' ho => (hk' i hne).trans ho) hst')
    rcases hm.2 with ⟨he, _, _⟩ | ⟨b', cur', he, hb1, _, _, _, _⟩
    · cases he
    cases he
    refine ⟨by rw [hb1]; rfl, by rw [List.length_take, hv.1]; omega, .inr ⟨b, cs'.toArray, rfl, by simp, by omega, hcm, by simp [hs2]; omega, ?_⟩⟩
    rw [Nat.mul_one, List.toList_toArray, hs3, ← htake, List.take_take, Nat.mul_one, Nat.min_eq_left hk]
end
end Go.Eng
