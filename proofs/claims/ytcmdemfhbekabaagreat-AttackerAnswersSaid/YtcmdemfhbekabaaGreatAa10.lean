/-
  The proof engine, part I: the end of an owned list is cleared.
-/
import Derived.Test.YtcmdemfhbekabaaGreatAa9
namespace Go.Eng
theorem setsAt_some : ∀ (vs cs : List Value) (i : Nat), i + vs.length ≤ cs.length → ∃ cs', setsAt cs i vs = some cs' ∧ cs'.length = cs.length ∧ cs'.take i = cs.take i
  | [], cs, i, _ => ⟨cs, rfl, rfl, rfl⟩
  | v :: vs, cs, i, h => by
    simp only [List.length_cons] at h
    have hset : ∀ (cs : List Value) (i : Nat), i < cs.length → setAt cs i v = some (cs.set i v) := by
      intro cs
      induction cs with
      | nil => intro i hi; simp at hi
      | cons c r ih =>
        intro i hi
        cases i with
        | zero => rfl
        | succ i =>
          simp only [setAt]
          rw [ih i (by simpa using hi)]
          rfl
    obtain ⟨cs', h1, h2, h3⟩ := setsAt_some vs (cs.set i v) (i + 1) (by rw [List.length_set]; omega)
    refine ⟨cs', ?_, by rw [h2, List.length_set], ?_⟩
    · unfold setsAt
      rw [hset cs i (by omega)]
      exact h1
    · have := congrArg (List.take i) h3
      rw [List.take_take, List.take_take, Nat.min_eq_left (by omega), List.take_set_of_le (Nat.le_refl _)] at this
      exact this
section
variable {C : Cx} {e : Env} {I : PH} {R : List Res} {K : Act → World → Prop} {Q : Exit → Act → World → Prop}
variable {ty t el : TypeId} {pos : String} {after : Array Edge} {g : Option (Nat × Bool)} {x : Operand} {A : Option Addr} {n c k : Nat}
theorem Nx.clear_tail {tys : Array TypeId} {xs : List Value} {z : Value} (hx : evo e x = some (.slice (offA A c k 1) (n - k) (c - k))) (hty : tys = #[t]) (ht : C.P.underlying t = some (.slice el)) (hz : ∀ w, (zeroValue el).run C.P w = .ok z w)
    (h1 : z.oneCell' = true) (hzc : z.cells = #[z]) (hk : k ≤ n) (h : Nx C e I (Vec el 1 A k c (xs.take k) :: R) K) : Nx C e I (Vec el 1 A n c xs :: R) (opK C.P ⟨none, .call { callee := .builtin .clear, args := #[x], argTypes := tys }, ty, pos, after, g⟩ K Q) := by
  subst hty
  intro a w ha hw
  have hrunb : ∀ w', (Builtin.clear_ #[t] ty #[.slice (offA A c k 1) (n - k) (c - k)]).run C.P w = .ok (.tuple #[]) w' → (execOp a.eval ⟨none, .call { callee := .builtin .clear, args := #[x], argTypes := #[t] }, ty, pos, after, g⟩).run C.P w = .ok (.value (.tuple #[])) w' := fun w' hr => by
    obtain ⟨cs, hcs⟩ := run_builtin (P := C.P) (w := w) (ρ := a.eval) (b := .clear) (args := #[x]) (dst := none) (ty := ty) (pos := pos) (after := after) (g := g) (tys := #[t]) (show [x].map a.eval = [Value.slice (offA A c k 1) (n - k) (c - k)] from by simp only [List.map_cons, List.map_nil, ha.eval hx])
    rw [hcs]
    exact run_v hr
  have shrink : ∀ m, Vec el 1 A n c xs m → n = k → Vec el 1 A k c (xs.take k) m := fun m hm he => by
    subst he
    have hl := hm.1
    rw [List.take_of_length_le (by omega)]
    exact hm
  unfold opK Oper.wp
  by_cases hkn : n = k
  · have hr : (Builtin.clear_ #[t] ty #[.slice (offA A c k 1) (n - k) (c - k)]).run C.P w = .ok (.tuple #[]) w := by
      rw [show n - k = 0 by omega]
      cases hA : offA A c k 1 with
      | none => simp [Builtin.clear_, run_underlying ht]
      | some ad0 => simp [Builtin.clear_, run_underlying ht]
    rw [hrunb w hr]
    exact h a w ha (hw.ent (Ent.head fun m hm => shrink m hm hkn))
  · obtain ⟨⟨m, ⟨m1, m2, hd, rfl, hv, h2⟩, hs⟩, hst⟩ := id hw
    rcases hv.2 with ⟨_, h0, _⟩ | ⟨b, cur, rfl, hb, hnc, hcm, hsz, htake⟩
    · omega
    have hb0 : w.heap[b]? = some (.cells cur el (0, 0)) := hs.own _ _ (PH.le_or_left _ _ _ _ hb)
    have hlz : (Builtin.zeroCells z.cells (n - k)).toList.length = n - k := by rw [Array.length_toList, size_zeroCells, hzc]; simp
    have hoz : ∀ v ∈ (Builtin.zeroCells z.cells (n - k)).toList, v.oneCell' = true := fun v hv => by
      rw [hzc] at hv
      simp only [Builtin.zeroCells, Array.toList_map, List.mem_map] at hv
      obtain ⟨i, _, rfl⟩ := hv
      have : (#[z] : Array Value)[i % (#[z] : Array Value).size]! = z := by simp [Nat.mod_one]
      rw [this]; exact h1
    obtain ⟨cs', hs1, hs2, hs3⟩ := setsAt_some (Builtin.zeroCells z.cells (n - k)).toList cur.toList k (by rw [hlz, Array.length_toList]; omega)
    obtain ⟨w', hr, hb', hk', hst'⟩ := storeCells_from (P := C.P) (Builtin.zeroCells z.cells (n - k)).toList cur.toList cs' k 0 w (by simpa using hb0) (by simpa using hs1) hoz
    have hoff : offA (some (⟨b, 0, none⟩ : Addr)) c k 1 = some ⟨b, k, none⟩ := by
      unfold offA
      rw [if_neg (by omega), Option.map_some, Addr.add_lit]
      simp
    have hrun : (Builtin.clear_ #[t] ty #[.slice (offA (some ⟨b, 0, none⟩) c k 1) (n - k) (c - k)]).run C.P w = .ok (.tuple #[]) w' := by
      rw [hoff]
      obtain ⟨m, hm⟩ : ∃ m, n - k = m + 1 := ⟨n - k - 1, by omega⟩
      rw [hm] at hr ⊢
      simp only [Builtin.clear_, List.getElem?_toArray, List.getElem?_cons_zero]
      rw [Sem.run_bind, run_underlying ht, Result.andThen_ok]
      simp only [Sem.run_bind, hz, Result.andThen_ok]
      rw [hr]
      rfl
    rw [hrunb w' hrun]
    refine h a w' ha (hw.upd (o := .cells cs'.toArray el (0, 0)) (b := b) (fun mm hm => ?_) hb' (fun i hne o' ho => (hk' i hne).trans ho) hst')
    rcases hm.2 with ⟨he, _, _⟩ | ⟨b', cur', he, hb1, _, _, _, _⟩
    · cases he
    cases he
    refine ⟨by rw [hb1]; rfl, by rw [List.length_take, hv.1]; omega, .inr ⟨b, cs'.toArray, rfl, by simp, by omega, hcm, by simp [hs2]; omega, ?_⟩⟩
    rw [Nat.mul_one, List.toList_toArray, hs3, ← htake, List.take_take, Nat.mul_one, Nat.min_eq_left hk]
end
end Go.Eng
/- Contracts of functions of the given program, and lemmas about plain lists and numbers: what the laws of this seat lean on. -/
namespace Go.Proofs.YtcmdemfhbekabaaGreat
open Go.Eng Go.Sol
attribute [local irreducible] opK wpList Code.wp Exit.then Exit.inBlock fnPost bodyPost Nx Calls Oper.wp Rd Rds Wr Ent Stars Blk Again Vec FnSpec wpMix QRun Stop Upto wpAt
theorem zero_runR {t : TypeId} {z : Value} {P : Program} (h : (P.info? t).bind (·.zero) = some z) (w : World) : (zeroValue t).run P w = .ok z w := by
  cases hi : P.info? t with
  | none => rw [hi] at h; cases h
  | some i =>
    rw [hi] at h
    have h : i.zero = some z := h
    simp [zeroValue, typeInfo, hi, h]
/-! Lists of releases: cloned, one deleted -/
abbrev rlR (A : Option Addr) (c : Nat) (rs : List Rel) : Res := Vec 62 3 A rs.length c (rs.flatMap relC)
set_option maxHeartbeats 8000000 in
set_option maxRecDepth 10000 in
theorem CloneR_spec (A : Option Addr) (c : Nat) (l : List Rel) (I : PH) (hl : SliceN relC 3 I A c l) (h9 : l.length ≤ 1000000) :
    FnSpec Tryz.prog 80 [.slice A l.length c] I [] (fun v R' => ∃ A' c', v = .slice A' l.length c' ∧ R' = [rlR A' c' l]) := by
  cases A with
  | none =>
    have h0 : l = [] := by
      rcases Nat.eq_zero_or_pos l.length with h | h
      · exact List.eq_nil_of_length_eq_zero h
      · have := hl.isSome h (by decide); cases this
    subst h0
    refine FnSpec.enterP Tryz.func80 rfl Tryz.ntmps80 rfl fun w F => ?_
    repeat' first
      | ((with_reducible refine Nx.is_wp ?_); first | refine Nx.wo ?_ | refine Nx.zp (fun hc => ?_) (fun hc => ?_))
      | (refine Nx.zo ?_; first | refine Nx.opr rfl rfl ?_ | refine Nx.so ?_ | refine Nx.sb (fun bx => ?_) | refine Nx.sa (fun A2 c2 => ?_))
      | ((with_reducible refine Nx.is_at ?_); first | refine Nx.a ?_ | refine Nx.zd ?_ | refine Nx.zs (fun hc => ?_) (fun hc => ?_))
      | ((with_reducible refine Nx.is_mix ?_); first | refine Nx.m ?_ | refine Nx.zm ?_ | refine Nx.zt (fun hc => ?_) (fun hc => ?_))
      | refine Nx.zx ?_ | fail
    refine Nx.ret_fn rfl [rlR none 0 []] ⟨none, 0, rfl, rfl⟩ (Ent.vec_nil _ _ _)
  | some a =>
    refine FnSpec.enterP Tryz.func80 rfl Tryz.ntmps80 rfl fun w F => ?_
    repeat' first
      | ((with_reducible refine Nx.is_wp ?_); first | refine Nx.wo ?_ | refine Nx.zp (fun hc => ?_) (fun hc => ?_))
      | (refine Nx.zo ?_; first | refine Nx.opr rfl rfl ?_ | refine Nx.so ?_ | refine Nx.sb (fun bx => ?_) | refine Nx.sa (fun A2 c2 => ?_))
      | ((with_reducible refine Nx.is_at ?_); first | refine Nx.a ?_ | refine Nx.zd ?_ | refine Nx.zs (fun hc => ?_) (fun hc => ?_))
      | ((with_reducible refine Nx.is_mix ?_); first | refine Nx.m ?_ | refine Nx.zm ?_ | refine Nx.zt (fun hc => ?_) (fun hc => ?_))
      | refine Nx.zx ?_ | fail
    refine Nx.blk_vec 0 0 3 rfl rfl (by omega) ?_
    refine Nx.at_op rfl rfl ?_
    refine Nx.append rfl rfl rfl rfl (by kernel_rfl) rfl (Src.arr hl.arr (flat_len relC_len l) (by omega) (rel_one l)) (by omega) fun A' c' => ?_
    rw [Nat.zero_add, List.nil_append]
    repeat' first
      | ((with_reducible refine Nx.is_wp ?_); first | refine Nx.wo ?_ | refine Nx.zp (fun hc => ?_) (fun hc => ?_))
      | (refine Nx.zo ?_; first | refine Nx.opr rfl rfl ?_ | refine Nx.so ?_ | refine Nx.sb (fun bx => ?_) | refine Nx.sa (fun A2 c2 => ?_))
      | ((with_reducible refine Nx.is_at ?_); first | refine Nx.a ?_ | refine Nx.zd ?_ | refine Nx.zs (fun hc => ?_) (fun hc => ?_))
      | ((with_reducible refine Nx.is_mix ?_); first | refine Nx.m ?_ | refine Nx.zm ?_ | refine Nx.zt (fun hc => ?_) (fun hc => ?_))
      | refine Nx.zx ?_ | fail
    exact Nx.ret_fn rfl [_] ⟨A', c', rfl, rfl⟩ (by unfold rlR; (exact Ent.auto))
end Go.Proofs.YtcmdemfhbekabaaGreat
/- Contracts of functions of the given program, and lemmas about plain lists and numbers: what the laws of this seat lean on. -/
namespace Go.Proofs.YtcmdemfhbekabaaGreat
open Go.Eng Go.Sol
attribute [local irreducible] opK wpList Code.wp Exit.then Exit.inBlock fnPost bodyPost Nx Calls Oper.wp Rd Rds Wr Ent Stars Blk Again Vec FnSpec wpMix QRun Stop Upto wpAt
/-! slices.DeleteFunc at ints, with a closure that reads frozen memory -/
theorem gx_at {l : List Int} {k : Nat} (h : k < l.length) : l.getD k default = l[k] := by rw [List.getD_eq_getElem?_getD, List.getElem?_eq_getElem h]; rfl
set_option maxHeartbeats 8000000 in
set_option maxRecDepth 10000 in
theorem IndexFI_spec (f : FuncId) (cap : List Value) (p : Int → Bool) (A : Option Addr) (cp : Nat) (l : List Int) (I : PH) (hl : Ints I A cp l) (hcall : callable Tryz.prog f = true)
    (hp : ∀ x, FnSpec Tryz.prog f (Value.int .i64 x :: cap) I [] (fun v R' => v = .bool (p x) ∧ R' = [])) :
    FnSpec Tryz.prog 126 [.slice A l.length cp, .func (.func f) #[] cap.toArray] I []
      (fun v R' => (∃ i : Int, v = .int .i64 i ∧ ((i = -1 ∧ l.any p = false) ∨ ∃ k : Nat, k < l.length ∧ i = k ∧ p (l.getD k default) = true ∧ (l.take k).any p = false)) ∧ R' = []) := by
  refine FnSpec.enterP Tryz.func126 rfl Tryz.ntmps126 rfl fun w F => ?_
  repeat' first
    | ((with_reducible refine Nx.is_wp ?_); first | refine Nx.wo ?_ | refine Nx.zp (fun hc => ?_) (fun hc => ?_))
    | (refine Nx.zo ?_; first | refine Nx.opr rfl rfl ?_ | refine Nx.so ?_ | refine Nx.sb (fun bx => ?_) | refine Nx.sa (fun A2 c2 => ?_))
    | ((with_reducible refine Nx.is_at ?_); first | refine Nx.a ?_ | refine Nx.zd ?_ | refine Nx.zs (fun hc => ?_) (fun hc => ?_))
    | ((with_reducible refine Nx.is_mix ?_); first | refine Nx.m ?_ | refine Nx.zm ?_ | refine Nx.zt (fun hc => ?_) (fun hc => ?_))
    | refine Nx.zx ?_ | fail
  have hlen := hl.len
  refine Nx.p_loop (σ := Nat) (fun k => [(0, .slice A l.length cp), (1, .func (.func f) #[] cap.toArray), (7, .int .i64 l.length), (8, .int .i64 (k : Int))])
    (fun _ => [F]) (fun k => k ≤ l.length ∧ (l.take k).any p = false) (fun k => l.length - k) 0 rfl ⟨Nat.zero_le _, by simp⟩ ⟨rfl, rfl, rfl, rfl, trivial⟩ (Ent.refl _) ?_
  rintro k ⟨hk, hnone⟩
  by_cases hlt : k < l.length
  · repeat' first
      | ((with_reducible refine Nx.is_wp ?_); first | refine Nx.wo ?_ | refine Nx.zp (fun hc => ?_) (fun hc => ?_))
      | (refine Nx.zo ?_; first | refine Nx.opr rfl rfl ?_ | refine Nx.indexAddr_nat rfl rfl rfl rfl rfl (by omega) (hl.isSome (by omega)) ?_ | refine Nx.load rfl rfl rfl (hl.rd (by omega)) ?_ | refine Nx.callv rfl rfl rfl hcall rfl (hp _) ?_ | refine Nx.so ?_ | refine Nx.sb (fun bx => ?_) | refine Nx.sa (fun A2 c2 => ?_))
      | ((with_reducible refine Nx.is_at ?_); first | refine Nx.a ?_ | refine Nx.zd ?_ | refine Nx.zs (fun hc => ?_) (fun hc => ?_))
      | ((with_reducible refine Nx.is_mix ?_); first | refine Nx.m ?_ | refine Nx.zm ?_ | refine Nx.zt (fun hc => ?_) (fun hc => ?_))
      | refine Nx.zx ?_ | fail
    · exact Nx.ret_fn rfl [] ⟨⟨_, rfl, .inr ⟨k, hlt, rfl, hc, hnone⟩⟩, rfl⟩ (Ent.refl _)
    · refine Nx.again (k + 1) ⟨by omega, ?_⟩ (by omega) ⟨rfl, rfl, rfl, rfl, trivial⟩ (Ent.refl _)
      rw [List.take_succ_eq_append_getElem (by omega), List.any_append, hnone]
      rw [← gx_at hlt]
      simp only [List.any_cons, List.any_nil, hc, Bool.or_self]
  · obtain rfl : k = l.length := by omega
    repeat' first
      | ((with_reducible refine Nx.is_wp ?_); first | refine Nx.wo ?_ | refine Nx.zp (fun hc => ?_) (fun hc => ?_))
      | (refine Nx.zo ?_; first | refine Nx.opr rfl rfl ?_ | refine Nx.so ?_ | refine Nx.sb (fun bx => ?_) | refine Nx.sa (fun A2 c2 => ?_))
      | ((with_reducible refine Nx.is_at ?_); first | refine Nx.a ?_ | refine Nx.zd ?_ | refine Nx.zs (fun hc => ?_) (fun hc => ?_))
      | ((with_reducible refine Nx.is_mix ?_); first | refine Nx.m ?_ | refine Nx.zm ?_ | refine Nx.zt (fun hc => ?_) (fun hc => ?_))
      | refine Nx.zx ?_ | fail
    rw [List.take_length] at hnone
    exact Nx.ret_fn rfl [] ⟨⟨_, rfl, .inl ⟨rfl, hnone⟩⟩, rfl⟩ (Ent.refl _)
/-- A list while some are taken out of it. -/
structure DelI (p : Int → Bool) (l : List Int) (s : Nat × List Int) : Prop where
  le : s.1 ≤ l.length
  len : s.2.length = l.length
  head : s.2.take ((l.take s.1).filter fun x => !(p x)).length = (l.take s.1).filter fun x => !(p x)
  tail : ∀ j, s.1 ≤ j → s.2.getD j default = l.getD j default
  lt : ((l.take s.1).filter fun x => !(p x)).length < s.1
theorem take_snocF {l : List Int} {p : Int → Bool} {k : Nat} (h : k < l.length) : (l.take (k + 1)).filter (fun x => !(p x)) = (l.take k).filter (fun x => !(p x)) ++ (if p (l.getD k default) = true then [] else [l.getD k default]) := by
  rw [List.take_succ_eq_append_getElem h, List.filter_append, gx_at h]
  congr 1
  cases hp : p l[k] <;> simp [hp]
theorem DelI.del {p : Int → Bool} {l xs : List Int} {k : Nat} (h : DelI p l (k, xs)) (hk : k < l.length) (hp : p (l.getD k default) = true) : DelI p l (k + 1, xs) := by
  have e := take_snocF (p := p) hk
  rw [if_pos hp, List.append_nil] at e
  exact ⟨hk, h.len, by dsimp only; rw [e]; exact h.head, fun j hj => h.tail j (by dsimp only at hj ⊢; omega), by dsimp only; rw [e]; have := h.lt; dsimp only at this; omega⟩
theorem DelI.keep {p : Int → Bool} {l xs : List Int} {k : Nat} (h : DelI p l (k, xs)) (hk : k < l.length) (hp : p (l.getD k default) = false) : DelI p l (k + 1, xs.set ((l.take k).filter fun x => !(p x)).length (l.getD k default)) := by
  have e := take_snocF (p := p) hk
  rw [if_neg (by rw [hp]; decide)] at e
  have hlt := h.lt
  have hlen := h.len
  have hh := h.head
  dsimp only at hlt hlen hh
  refine ⟨hk, by dsimp only; rw [List.length_set]; exact hlen, ?_, fun j hj => ?_, by dsimp only; rw [e]; simp only [List.length_append, List.length_singleton]; omega⟩
  · dsimp only
    rw [e, List.length_append, List.length_singleton, List.take_succ_eq_append_getElem (by rw [List.length_set]; omega), List.take_set_of_le (Nat.le_refl _), hh]
    simp
  · dsimp only at hj ⊢
    rw [List.getD_eq_getElem?_getD, List.getElem?_set_ne (by omega), ← List.getD_eq_getElem?_getD]
    exact h.tail j (by dsimp only; omega)
set_option maxHeartbeats 8000000 in
set_option maxRecDepth 10000 in
theorem DeleteFI_spec (f : FuncId) (cap : List Value) (p : Int → Bool) (A : Option Addr) (c : Nat) (l : List Int) (I : PH) (hcall : callable Tryz.prog f = true) (h9 : l.length ≤ 1000000)
    (hp : ∀ I', PH.le I I' → ∀ x, FnSpec Tryz.prog f (Value.int .i64 x :: cap) I' [] (fun v R' => v = .bool (p x) ∧ R' = [])) :
    FnSpec Tryz.prog 92 [.slice A l.length c, .func (.func f) #[] cap.toArray] I [iR A c l]
      (fun v R' => v = .slice A (l.filter fun x => !(p x)).length c ∧ R' = [iR A c (l.filter fun x => !(p x))]) := by
  refine FnSpec.enterP Tryz.func92 rfl Tryz.ntmps92 rfl fun w F => ?_
  repeat' first
    | ((with_reducible refine Nx.is_wp ?_); first | refine Nx.wo ?_ | refine Nx.zp (fun hc => ?_) (fun hc => ?_))
    | (refine Nx.zo ?_; first | refine Nx.opr rfl rfl ?_ | refine Nx.so ?_ | refine Nx.sb (fun bx => ?_) | refine Nx.sa (fun A2 c2 => ?_))
    | ((with_reducible refine Nx.is_at ?_); first | refine Nx.a ?_ | refine Nx.zd ?_ | refine Nx.zs (fun hc => ?_) (fun hc => ?_))
    | ((with_reducible refine Nx.is_mix ?_); first | refine Nx.m ?_ | refine Nx.zm ?_ | refine Nx.zt (fun hc => ?_) (fun hc => ?_))
    | refine Nx.zx ?_ | fail
  refine Nx.at_op rfl rfl ?_
  refine Nx.call_lendR 0 rfl rfl rfl (by kernel_rfl) rfl rfl (fun m I' hI hm h => IndexFI_spec f cap p A c l I' (Vec.sliceOf hm h) hcall (hp I' hI)) ?_
  rintro _ R' ⟨⟨i, rfl, hi⟩, rfl⟩
  rcases hi with ⟨rfl, hnone⟩ | ⟨k0, hk0, rfl, hpk, hnone⟩
  · have e : (l.filter fun x => !(p x)) = l := by
      rw [List.filter_eq_self]
      intro x hx
      rw [List.any_eq_false] at hnone
      simpa using hnone x hx
    rw [e]
    repeat' first
      | ((with_reducible refine Nx.is_wp ?_); first | refine Nx.wo ?_ | refine Nx.zp (fun hc => ?_) (fun hc => ?_))
      | (refine Nx.zo ?_; first | refine Nx.opr rfl rfl ?_ | refine Nx.so ?_ | refine Nx.sb (fun bx => ?_) | refine Nx.sa (fun A2 c2 => ?_))
      | ((with_reducible refine Nx.is_at ?_); first | refine Nx.a ?_ | refine Nx.zd ?_ | refine Nx.zs (fun hc => ?_) (fun hc => ?_))
      | ((with_reducible refine Nx.is_mix ?_); first | refine Nx.m ?_ | refine Nx.zm ?_ | refine Nx.zt (fun hc => ?_) (fun hc => ?_))
      | refine Nx.zx ?_ | fail
    exact Nx.ret_fn rfl [iR A c l] ⟨rfl, rfl⟩ (by (exact Ent.auto))
  · have e0 : (l.take k0).filter (fun x => !(p x)) = l.take k0 := by
      rw [List.filter_eq_self]
      intro x hx
      rw [List.any_eq_false] at hnone
      simpa using hnone x hx
    have e1 := take_snocF (p := p) hk0
    rw [if_pos hpk, List.append_nil, e0] at e1
    have hl0 : (l.take k0).length = k0 := by rw [List.length_take]; omega
    repeat' first
      | ((with_reducible refine Nx.is_wp ?_); first | refine Nx.wo ?_ | refine Nx.zp (fun hc => ?_) (fun hc => ?_))
      | (refine Nx.zo ?_; first | refine Nx.opr rfl rfl ?_ | refine Nx.so ?_ | refine Nx.sb (fun bx => ?_) | refine Nx.sa (fun A2 c2 => ?_))
      | ((with_reducible refine Nx.is_at ?_); first | refine Nx.a ?_ | refine Nx.zd ?_ | refine Nx.zs (fun hc => ?_) (fun hc => ?_))
      | ((with_reducible refine Nx.is_mix ?_); first | refine Nx.m ?_ | refine Nx.zm ?_ | refine Nx.zt (fun hc => ?_) (fun hc => ?_))
      | refine Nx.zx ?_ | fail
    refine Nx.vec_fact fun _ hnc _ hA => ?_
    have hA := hA (by omega)
    refine Nx.p_loop (σ := Nat × List Int) (fun s => [(0, .slice A l.length c), (1, .func (.func f) #[] cap.toArray), (5, .int .i64 ((l.take s.1).filter fun x => !(p x)).length), (6, .int .i64 (s.1 : Int))])
      (fun s => [Vec 3 1 A l.length c (s.2.map (Value.int .i64)), F]) (DelI p l) (fun s => l.length - s.1) (k0 + 1, l) rfl
      ⟨hk0, rfl, by dsimp only; rw [e1, hl0], fun j _ => rfl, by dsimp only; rw [e1, hl0]; omega⟩ ⟨rfl, rfl, by dsimp only; rw [e1, hl0]; rfl, rfl, trivial⟩ (by (exact Ent.auto)) ?_
    rintro ⟨j, xs⟩ hS
    have hj := hS.le
    have hlen := hS.len
    have hlt := hS.lt
    dsimp only at hj hlen hlt ⊢
    by_cases hjl : j < l.length
    · have ht := hS.tail j (Nat.le_refl _)
      dsimp only at ht
      cases hpj : p (l.getD j default) with
      | true =>
        have hn := hS.del hjl hpj
        have e := take_snocF (p := p) hjl
        rw [if_pos hpj, List.append_nil] at e
        have hcallp := hp I (PH.le_refl I) (l.getD j default)
        rw [hpj] at hcallp
        repeat' first
          | ((with_reducible refine Nx.is_wp ?_); first | refine Nx.wo ?_ | refine Nx.zp (fun hc => ?_) (fun hc => ?_))
          | (refine Nx.zo ?_; first | refine Nx.opr rfl rfl ?_ | refine Nx.indexAddr_nat rfl rfl rfl rfl rfl (by omega) hA ?_ | (refine Nx.load rfl rfl rfl (Rd.vecEl 0 rfl (by omega)) ?_; rw [ht]) | refine Nx.callv rfl rfl rfl hcall rfl hcallp ?_ | refine Nx.so ?_ | refine Nx.sb (fun bx => ?_) | refine Nx.sa (fun A2 c2 => ?_))
          | ((with_reducible refine Nx.is_at ?_); first | refine Nx.a ?_ | refine Nx.zd ?_ | refine Nx.zs (fun hc => ?_) (fun hc => ?_))
          | ((with_reducible refine Nx.is_mix ?_); first | refine Nx.m ?_ | refine Nx.zm ?_ | refine Nx.zt (fun hc => ?_) (fun hc => ?_))
          | refine Nx.zx ?_ | fail
        exact Nx.again (j + 1, xs) hn (by dsimp only; omega) ⟨rfl, rfl, by dsimp only; rw [e]; rfl, rfl, trivial⟩ (by (exact Ent.auto))
      | false =>
        have hn := hS.keep hjl hpj
        have e := take_snocF (p := p) hjl
        rw [if_neg (by rw [hpj]; decide)] at e
        have hcallp := hp I (PH.le_refl I) (l.getD j default)
        rw [hpj] at hcallp
        repeat' first
          | ((with_reducible refine Nx.is_wp ?_); first | refine Nx.wo ?_ | refine Nx.zp (fun hc => ?_) (fun hc => ?_))
          | (refine Nx.zo ?_; first | refine Nx.opr rfl rfl ?_ | refine Nx.indexAddr_nat rfl rfl rfl rfl rfl (by omega) hA ?_ | (refine Nx.load rfl rfl rfl (Rd.vecEl 0 rfl (by omega)) ?_; rw [ht]) | refine Nx.callv rfl rfl rfl hcall rfl hcallp ?_ | refine Nx.store_of 0 (Value.int .i64) rfl rfl rfl rfl rfl rfl (by omega) ?_ | refine Nx.so ?_ | refine Nx.sb (fun bx => ?_) | refine Nx.sa (fun A2 c2 => ?_))
          | ((with_reducible refine Nx.is_at ?_); first | refine Nx.a ?_ | refine Nx.zd ?_ | refine Nx.zs (fun hc => ?_) (fun hc => ?_))
          | ((with_reducible refine Nx.is_mix ?_); first | refine Nx.m ?_ | refine Nx.zm ?_ | refine Nx.zt (fun hc => ?_) (fun hc => ?_))
          | refine Nx.zx ?_ | fail
        exact Nx.again (j + 1, _) hn (by dsimp only; omega) ⟨rfl, rfl, by dsimp only; rw [e, List.length_append]; rfl, rfl, trivial⟩ (by (exact Ent.auto))
    · obtain rfl : j = l.length := by omega
      have hh := hS.head
      dsimp only at hh
      rw [List.take_length] at hh hlt ⊢
      repeat' first
        | ((with_reducible refine Nx.is_wp ?_); first | refine Nx.wo ?_ | refine Nx.zp (fun hc => ?_) (fun hc => ?_))
        | (refine Nx.zo ?_; first | refine Nx.opr rfl rfl ?_ | refine Nx.slice_lo rfl rfl rfl rfl rfl (by omega) ?_ | refine Nx.clear_tail (z := .int .i64 0) rfl rfl rfl (zero_runR (by kernel_rfl)) rfl rfl (by omega) ?_ | refine Nx.slice_hi rfl rfl rfl rfl rfl (by omega) ?_ | refine Nx.so ?_ | refine Nx.sb (fun bx => ?_) | refine Nx.sa (fun A2 c2 => ?_))
        | ((with_reducible refine Nx.is_at ?_); first | refine Nx.a ?_ | refine Nx.zd ?_ | refine Nx.zs (fun hc => ?_) (fun hc => ?_))
        | ((with_reducible refine Nx.is_mix ?_); first | refine Nx.m ?_ | refine Nx.zm ?_ | refine Nx.zt (fun hc => ?_) (fun hc => ?_))
        | refine Nx.zx ?_ | fail
      refine Nx.ret_fn rfl [iR A c (l.filter fun x => !(p x))] ⟨rfl, rfl⟩ ?_
      refine Ent.pickE 0 rfl ?_ (by (exact Ent.auto))
      unfold iR
      rw [← List.map_take, hh]
end Go.Proofs.YtcmdemfhbekabaaGreat
/- Contracts of functions of the given program, and lemmas about plain lists and numbers: what the laws of this seat lean on. -/
namespace Go.Proofs.YtcmdemfhbekabaaGreat
open Go.Eng Go.Sol
attribute [local irreducible] opK wpList Code.wp Exit.then Exit.inBlock fnPost bodyPost Nx Calls Oper.wp Rd Rds Wr Ent Stars Blk Again Vec FnSpec wpMix QRun Stop Upto wpAt
theorem rels_app {I I' q : PH} {As A3 : Option Addr} {ca c3 : Nat} {rs : List Rel} {r : Rel} (hr : Rels I As ca rs) (hle : PH.le I I') (hq : PH.le q I') (hv : Stars [Vec 62 3 A3 (rs.length + 1) c3 (rs.flatMap relC ++ relC r)] q) (h1 : RowsOf I r.va r.vc r.v) (h2 : Ints I r.val.1 r.val.2.1 r.val.2.2) : Rels I' A3 c3 (rs ++ [r]) := by
  obtain ⟨a0, ha0, b0⟩ := Stars.get 0 hv rfl
  refine ⟨?_, fun x hx => ?_, fun x hx => ?_⟩
  · have hl : (rs ++ [r]).length = rs.length + 1 := by rw [List.length_append]; rfl
    have hf : (rs ++ [r]).flatMap relC = rs.flatMap relC ++ relC r := by rw [List.flatMap_append, List.flatMap_cons, List.flatMap_nil, List.append_nil]
    refine Vec.sliceN (ha0.trans hq) (t := 62) ?_ fun x _ => relC_len x
    rw [hl, hf]; exact b0
  · rcases List.mem_append.1 hx with h | h
    · exact (hr.view x h).mono hle
    · rw [List.mem_singleton.1 h]; exact h1.mono hle
  · rcases List.mem_append.1 hx with h | h
    · exact (hr.val x h).mono hle
    · rw [List.mem_singleton.1 h]; exact h2.mono hle
end Go.Proofs.YtcmdemfhbekabaaGreat
/- Contracts of functions of the given program, and lemmas about plain lists and numbers: what the laws of this seat lean on. -/
namespace Go.Proofs.YtcmdemfhbekabaaGreat
open Go.Eng Go.Sol
attribute [local irreducible] opK wpList Code.wp Exit.then Exit.inBlock fnPost bodyPost Nx Calls Oper.wp Rd Rds Wr Ent Stars Blk Again Vec FnSpec wpMix QRun Stop Upto wpAt
attribute [local irreducible] wpFork
/-! Learns -/
set_option maxRecDepth 10000 in
set_option maxHeartbeats 8000000 in
theorem learn1 (B As va D : Option Addr) (c' ca sn b3 b5 vn vc dn cd : Nat) (num : Int) (es : List Rel) (s : List Int) (es2 : List Rel) (I : PH) (hes : SliceN relC 3 I As ca es) (h9 : es.length ≤ 1000) (w : World) (F : Res) (Q : Exit → Act → World → Prop) (hQ : PanicOk Q)
    (spec : ∀ A3 c3 q I', PH.le I I' → PH.le q I' → Stars [Vec 62 3 A3 (es.length + 1) c3 (es.flatMap relC ++ [.int .i64 num, .slice va vn vc, .slice D dn cd])] q → FnSpec Tryz.prog 71 [.agg #[.slice B sn c'], .slice A3 (es.length + 1) c3] I' [] (ToldPost s es2))
    (h : ∀ (Am : Option Addr) (cm : Nat) (qs : List EqR), (tolE s es2 = 0 → qs.map cont = es2.flatMap (told s)) → Nx ⟨Tryz.prog, 60, w⟩ [(8, .slice Am qs.length cm), (9, .int .i64 (if tolE s es2 = 0 then prod s else 0)), (10, .int .i64 (tolE s es2)), (1, .slice As es.length ca), (3, .pointer (some ⟨b3, 0, none⟩)), (5, .pointer (some ⟨b5, 0, none⟩))] I (eqsR Am cm qs ++ [Blk b3 27 [.slice B sn c'], Blk b5 62 [.int .i64 num, .slice va vn vc, .slice D dn cd], F]) (Q .normal)) :
    Nx ⟨Tryz.prog, 60, w⟩ [(1, .slice As es.length ca), (3, .pointer (some ⟨b3, 0, none⟩)), (5, .pointer (some ⟨b5, 0, none⟩))] I [Blk b3 27 [.slice B sn c'], Blk b5 62 [.int .i64 num, .slice va vn vc, .slice D dn cd], F] (Code.wp Tryz.prog (cl (cr (bodyOf Tryz.f42))) Q) := by
  have hcap := hes.cap
  have hCl := CloneR_spec As ca es I hes (by omega)
  unfold ToldPost at spec
  refine Nx.p_fork (id := 1) rfl [0, 1, 3] [7, 8, 9, 10, 11, 12, 13] [2, 4, 5, 6] [Blk b3 27 [.slice B sn c'], Blk b5 62 [.int .i64 num, .slice va vn vc, .slice D dn cd]] 11 rfl rfl (by kernel_rfl) (by kernel_rfl) (by kernel_rfl) hQ (by (exact Ent.auto)) ?_
  repeat' first
    | ((with_reducible refine Nx.is_wp ?_); first | refine Nx.wo ?_ | refine Nx.zp (fun hc => ?_) (fun hc => ?_))
    | (refine Nx.zo ?_; first | refine Nx.opr rfl rfl ?_ | refine Nx.so ?_ | refine Nx.sb (fun bx => ?_) | refine Nx.sa (fun A2 c2 => ?_))
    | ((with_reducible refine Nx.is_at ?_); first | refine Nx.a ?_ | refine Nx.zd ?_ | refine Nx.zs (fun hc => ?_) (fun hc => ?_))
    | ((with_reducible refine Nx.is_mix ?_); first | refine Nx.m ?_ | refine Nx.zm ?_ | refine Nx.zt (fun hc => ?_) (fun hc => ?_))
    | refine Nx.zx ?_ | fail
  refine Nx.fork2 (i := 2) (j := 4) (by kernel_rfl) rfl rfl rfl rfl ?_ ?_
  · refine Nx.call (Rpre := []) rfl rfl rfl (by kernel_rfl) rfl hCl (Ent.refl _) ?_
    rintro _ _ ⟨A2, c2, rfl, rfl⟩
    refine Nx.mix_S (by (exact Ent.auto)) ?_
    refine Nx.fork1 (i := 4) (by kernel_rfl) rfl rfl ?_
    refine Nx.sb (fun b4 => ?_)
    refine Nx.mix_S (by (exact Ent.auto)) ?_
    refine Nx.fork1 (i := 5) (by kernel_rfl) rfl rfl ?_
    refine Nx.ent (R' := [Blk b4 62 [.int .i64 num, .slice va vn vc, .slice D dn cd], Vec 62 3 A2 es.length c2 (es.flatMap relC), Blk b3 27 [.slice B sn c'], Blk b5 62 [.int .i64 num, .slice va vn vc, .slice D dn cd], F]) (by (exact Ent.auto)) ?_
    refine Nx.append_lit 0 rfl rfl rfl rfl (by kernel_rfl) rfl rfl rfl rfl (by omega) fun A3 c3 => ?_
    refine Nx.mix_S (by (exact Ent.auto)) ?_
    refine Nx.fork1 (i := 6) (by kernel_rfl) rfl rfl ?_
    refine Nx.call rfl rfl rfl (by kernel_rfl) rfl (FnSpec.keep [Vec 62 3 A3 (es.length + 1) c3 (es.flatMap relC ++ [.int .i64 num, .slice va vn vc, .slice D dn cd])] (spec A3 c3)) (by (exact Ent.auto)) ?_
    rintro _ _ ⟨_, ⟨Am, cm, qs, rfl, q1, q2, rfl⟩, rfl⟩
    refine Nx.mix_S (by (exact Ent.auto)) ?_
    refine Nx.fork_fin (by kernel_rfl) rfl ?_
    repeat' first
      | ((with_reducible refine Nx.is_wp ?_); first | refine Nx.wo ?_ | refine Nx.zp (fun hc => ?_) (fun hc => ?_))
      | (refine Nx.zo ?_; first | refine Nx.opr rfl rfl ?_ | refine Nx.so ?_ | refine Nx.sb (fun bx => ?_) | refine Nx.sa (fun A2 c2 => ?_))
      | ((with_reducible refine Nx.is_at ?_); first | refine Nx.a ?_ | refine Nx.zd ?_ | refine Nx.zs (fun hc => ?_) (fun hc => ?_))
      | ((with_reducible refine Nx.is_mix ?_); first | refine Nx.m ?_ | refine Nx.zm ?_ | refine Nx.zt (fun hc => ?_) (fun hc => ?_))
      | refine Nx.zx ?_ | fail
    refine Nx.weak ?_ ?_ (h Am cm qs q1)
    · exact ⟨rfl, rfl, rfl, rfl, rfl, rfl, trivial⟩
    · (exact Ent.auto)
  · refine Nx.sb (fun b4 => ?_)
    refine Nx.mix_S (by (exact Ent.auto)) ?_
    refine Nx.fork1 (i := 2) (by kernel_rfl) rfl rfl ?_
    refine Nx.call (Rpre := []) rfl rfl rfl (by kernel_rfl) rfl hCl (Ent.refl _) ?_
    rintro _ _ ⟨A2, c2, rfl, rfl⟩
    refine Nx.mix_S (by (exact Ent.auto)) ?_
    refine Nx.fork1 (i := 5) (by kernel_rfl) rfl rfl ?_
    refine Nx.ent (R' := [Blk b4 62 [.int .i64 num, .slice va vn vc, .slice D dn cd], Vec 62 3 A2 es.length c2 (es.flatMap relC), Blk b3 27 [.slice B sn c'], Blk b5 62 [.int .i64 num, .slice va vn vc, .slice D dn cd], F]) (by (exact Ent.auto)) ?_
    refine Nx.append_lit 0 rfl rfl rfl rfl (by kernel_rfl) rfl rfl rfl rfl (by omega) fun A3 c3 => ?_
    refine Nx.mix_S (by (exact Ent.auto)) ?_
    refine Nx.fork1 (i := 6) (by kernel_rfl) rfl rfl ?_
    refine Nx.call rfl rfl rfl (by kernel_rfl) rfl (FnSpec.keep [Vec 62 3 A3 (es.length + 1) c3 (es.flatMap relC ++ [.int .i64 num, .slice va vn vc, .slice D dn cd])] (spec A3 c3)) (by (exact Ent.auto)) ?_
    rintro _ _ ⟨_, ⟨Am, cm, qs, rfl, q1, q2, rfl⟩, rfl⟩
    refine Nx.mix_S (by (exact Ent.auto)) ?_
    refine Nx.fork_fin (by kernel_rfl) rfl ?_
    repeat' first
      | ((with_reducible refine Nx.is_wp ?_); first | refine Nx.wo ?_ | refine Nx.zp (fun hc => ?_) (fun hc => ?_))
      | (refine Nx.zo ?_; first | refine Nx.opr rfl rfl ?_ | refine Nx.so ?_ | refine Nx.sb (fun bx => ?_) | refine Nx.sa (fun A2 c2 => ?_))
      | ((with_reducible refine Nx.is_at ?_); first | refine Nx.a ?_ | refine Nx.zd ?_ | refine Nx.zs (fun hc => ?_) (fun hc => ?_))
      | ((with_reducible refine Nx.is_mix ?_); first | refine Nx.m ?_ | refine Nx.zm ?_ | refine Nx.zt (fun hc => ?_) (fun hc => ?_))
      | refine Nx.zx ?_ | fail
    refine Nx.weak ?_ ?_ (h Am cm qs q1)
    · exact ⟨rfl, rfl, rfl, rfl, rfl, rfl, trivial⟩
    · (exact Ent.auto)
/-- What is learned from a release. -/
def lrnD (l : List Int) (rs : List Rel) (r : Rel) : List Int × Int :=
  if tolE l (rs ++ [r]) ≠ 0 then ([], tolE l (rs ++ [r])) else if tolE l rs ≠ 0 then ([], tolE l rs) else
  if (cerD l (rs ++ [r])).2 ≠ 0 then ([], (cerD l (rs ++ [r])).2) else if (cerD l rs).2 ≠ 0 then ([], (cerD l rs).2) else ((cerD l (rs ++ [r])).1.filter fun x => !decide (x ∈ (cerD l rs).1), 0)
set_option maxHeartbeats 8000000 in
set_option maxRecDepth 10000 in
theorem known_spec (b : Nat) (A : Option Addr) (c : Nat) (L : List Int) (I : PH) (hb : ∀ (W : World) (R : List Res), Rd W I R ⟨b, 0, none⟩ (.slice A L.length c)) (hL : Ints I A c L) (x : Int) :
    FnSpec Tryz.prog 93 [.int .i64 x, .pointer (some ⟨b, 0, none⟩)] I [] (fun v R' => v = .bool (decide (x ∈ L)) ∧ R' = []) := by
  have hC := ContainsI_spec A c L x I hL
  refine FnSpec.enterP Tryz.func93 rfl Tryz.ntmps93 rfl fun w F => ?_
  repeat' first
    | ((with_reducible refine Nx.is_wp ?_); first | refine Nx.wo ?_ | refine Nx.zp (fun hc => ?_) (fun hc => ?_))
    | (refine Nx.zo ?_; first | refine Nx.opr rfl rfl ?_ | refine Nx.load rfl rfl rfl (hb _ _) ?_ | refine Nx.callv rfl rfl rfl (by kernel_rfl) rfl hC ?_ | refine Nx.so ?_ | refine Nx.sb (fun bx => ?_) | refine Nx.sa (fun A2 c2 => ?_))
    | ((with_reducible refine Nx.is_at ?_); first | refine Nx.a ?_ | refine Nx.zd ?_ | refine Nx.zs (fun hc => ?_) (fun hc => ?_))
    | ((with_reducible refine Nx.is_mix ?_); first | refine Nx.m ?_ | refine Nx.zm ?_ | refine Nx.zt (fun hc => ?_) (fun hc => ?_))
    | refine Nx.zx ?_ | fail
  exact Nx.ret_fn rfl [] ⟨rfl, rfl⟩ (by (exact Ent.auto))
end Go.Proofs.YtcmdemfhbekabaaGreat
/- Contracts of functions of the given program, and lemmas about plain lists and numbers: what the laws of this seat lean on. -/
namespace Go.Proofs.YtcmdemfhbekabaaGreat
open Go.Eng Go.Sol
attribute [local irreducible] opK wpList Code.wp Exit.then Exit.inBlock fnPost bodyPost Nx Calls Oper.wp Rd Rds Wr Ent Stars Blk Again Vec FnSpec wpMix QRun Stop Upto wpAt
/-! Plain: what the laws on the attacker say -/
theorem vals_ne {n k : Nat} {L : List Eqn} (hne : solsOf n L ≠ []) : 0 < (valsOf n L k).length := by
  obtain ⟨s, hs⟩ := List.exists_mem_of_ne_nil _ hne
  exact List.length_pos_of_mem (((vals_set n L k).mem _).2 ⟨s, hs, rfl⟩)
theorem asc_lt {l : List Int} (h : l.Pairwise (· < ·)) {i j : Nat} (hij : i < j) (hj : j < l.length) : l.getD i default < l.getD j default := by
  rw [List.pairwise_iff_getElem] at h
  have := h i j (by omega) hj hij
  rw [List.getD_eq_getElem?_getD, List.getD_eq_getElem?_getD, List.getElem?_eq_getElem (show i < l.length by omega), List.getElem?_eq_getElem hj]
  exact this
theorem vals_one {n k : Nat} {L : List Eqn} {s : List Int} (h1 : (valsOf n L k).length = 1) (hs : s ∈ solsOf n L) : (valsOf n L k).getD 0 default = s.getD k 0 := by
  obtain ⟨j, hj, he⟩ := mem_getDI (((vals_set n L k).mem _).2 ⟨s, hs, rfl⟩)
  obtain rfl : j = 0 := by omega
  exact he
end Go.Proofs.YtcmdemfhbekabaaGreat
/- Contracts of functions of the given program, and lemmas about plain lists and numbers: what the laws of this seat lean on. -/
namespace Go.Proofs.YtcmdemfhbekabaaGreat
open Go.Eng Go.Sol
attribute [local irreducible] opK wpList Code.wp Exit.then Exit.inBlock fnPost bodyPost Nx Calls Oper.wp Rd Rds Wr Ent Stars Blk Again Vec FnSpec wpMix QRun Stop Upto wpAt
/-! Plain: what the reference of the attacker finds -/
theorem same_vals {n c : Nat} {L : List Eqn} (hne : solsOf n L ≠ []) : (∀ s ∈ solsOf n L, s.getD c 0 = ((solsOf n L).getD 0 default).getD c 0) ↔ (valsOf n L c).length = 1 := by
  have h0 := vals_ne (k := c) hne
  have hS : 0 < (solsOf n L).length := List.length_pos_iff.2 hne
  have hfirst : (solsOf n L).getD 0 default ∈ solsOf n L := getD_in hS
  constructor
  · intro h
    have hin : ∀ z ∈ valsOf n L c, z = ((solsOf n L).getD 0 default).getD c 0 := fun z hz => by
      obtain ⟨s, hs, rfl⟩ := ((vals_set n L c).mem _).1 hz
      exact h s hs
    by_cases h2 : 1 < (valsOf n L c).length
    · exfalso
      have := asc_lt (vals_set n L c).asc (i := 0) (j := 1) (by decide) h2
      rw [hin _ (getD_memI h0), hin _ (getD_memI h2)] at this
      omega
    · omega
  · intro h s hs
    rw [← vals_one h hs, ← vals_one h hfirst]
def uptoL (n : Nat) (L : List Eqn) (k g : Nat) : List Int := ((List.range g).map Int.ofNat).filter fun z => decide (z ∈ valsOf n L k)
theorem upto_succ (n : Nat) (L : List Eqn) (k g : Nat) : uptoL n L k (g + 1) = uptoL n L k g ++ if (g : Int) ∈ valsOf n L k then [(g : Int)] else [] := by
  unfold uptoL
  rw [List.range_succ, List.map_append, List.filter_append]
  congr 1
  show List.filter _ [Int.ofNat g] = _
  by_cases h : (g : Int) ∈ valsOf n L k
  · rw [if_pos h, List.filter_cons_of_pos (by exact decide_eq_true h)]; rfl
  · rw [if_neg h, List.filter_cons_of_neg (by rw [decide_eq_true_eq]; exact h)]; rfl
theorem upto_all {n k g : Nat} {L : List Eqn} (h : ∀ s ∈ solsOf n L, 0 ≤ s.getD k 0 ∧ s.getD k 0 < g) : uptoL n L k g = valsOf n L k := by
  refine asc_ext (List.Pairwise.filter _ ?_) (vals_set n L k).asc fun z => ?_
  · rw [List.pairwise_map]
    exact List.pairwise_lt_range.imp fun h => Int.ofNat_lt.2 h
  · unfold uptoL
    rw [List.mem_filter, decide_eq_true_eq]
    refine ⟨fun h => h.2, fun hz => ⟨?_, hz⟩⟩
    obtain ⟨s, hs, rfl⟩ := ((vals_set n L k).mem _).1 hz
    have := h s hs
    rw [List.mem_map]
    exact ⟨(s.getD k 0).toNat, List.mem_range.2 (by omega), by show ((s.getD k 0).toNat : Int) = _; omega⟩
theorem upto_len (n : Nat) (L : List Eqn) (k g : Nat) : (uptoL n L k g).length ≤ g := by
  unfold uptoL
  have := List.length_filter_le (fun z => decide (z ∈ valsOf n L k)) ((List.range g).map Int.ofNat)
  rw [List.length_map, List.length_range] at this
  exact this
/-- The greatest number at a place of lists. -/
def greatL (S : List (List Int)) (k : Nat) : Int := S.foldl (fun n s => max n (s.getD k 0)) 0
theorem great_snoc {S : List (List Int)} {s : List Int} {k : Nat} : greatL (S ++ [s]) k = max (greatL S k) (s.getD k 0) := by
  unfold greatL; rw [List.foldl_append]; rfl
theorem great_ge : ∀ (S : List (List Int)) (k : Nat) (a : Int), a ≤ S.foldl (fun n s => max n (s.getD k 0)) a ∧ ∀ s ∈ S, s.getD k 0 ≤ S.foldl (fun n s => max n (s.getD k 0)) a
  | [], _, a => ⟨Int.le_refl _, fun _ h => nomatch h⟩
  | s :: S, k, a => by
    obtain ⟨h1, h2⟩ := great_ge S k (max a (s.getD k 0))
    rw [List.foldl_cons]
    refine ⟨by omega, fun x hx => ?_⟩
    rcases List.mem_cons.1 hx with rfl | hx
    · omega
    · exact h2 x hx
theorem great_le : ∀ (S : List (List Int)) (k : Nat) (a g : Int), a ≤ g → (∀ s ∈ S, s.getD k 0 ≤ g) → S.foldl (fun n s => max n (s.getD k 0)) a ≤ g
  | [], _, _, _, h, _ => h
  | s :: S, k, a, g, h, hs => by
    rw [List.foldl_cons]
    have := hs s List.mem_cons_self
    exact great_le S k _ g (by omega) fun x hx => hs x (List.mem_cons_of_mem _ hx)
theorem great_bd {S : List (List Int)} {k : Nat} (h : ∀ s ∈ S, s.getD k 0 ≤ 1000000) : 0 ≤ greatL S k ∧ greatL S k ≤ 1000000 :=
  ⟨(great_ge S k 0).1, great_le S k 0 _ (by decide) h⟩
/-- What Tables answers. -/
def tabF (n : Nat) (L : List Eqn) (most : Int) : List (List Int) × Int := if most < 1 ∨ 1000 < most then ([], 2) else ((solsOf n L).take most.toNat, 0)
def tbsD (l : List Int) (rs : List Rel) (most : Int) : List (List Int) × Int := if tolE l rs = 0 then tabF (prod l).toNat (eqns (qsOf l rs)) most else ([], tolE l rs)
/-- More releases leave fewer tables. -/
theorem sols_less_ne {l : List Int} {rs : List Rel} {r : Rel} (hg : ∀ q ∈ qsOf l (rs ++ [r]), GoodE (prod l).toNat q) (hne : solsOf (prod l).toNat (eqns (qsOf l (rs ++ [r]))) ≠ []) : solsOf (prod l).toNat (eqns (qsOf l rs)) ≠ [] := by
  obtain ⟨s, hs⟩ := List.exists_mem_of_ne_nil _ hne
  exact List.ne_nil_of_mem (sols_fewer hg (fun q hq => by rw [qsOf_snoc]; exact List.mem_append.2 (.inl hq)) hs)
end Go.Proofs.YtcmdemfhbekabaaGreat
/- Contracts of functions of the given program, and lemmas about plain lists and numbers: what the laws of this seat lean on. -/
namespace Go.Proofs.YtcmdemfhbekabaaGreat
open Go.Eng Go.Sol
attribute [local irreducible] opK wpList Code.wp Exit.then Exit.inBlock fnPost bodyPost Nx Calls Oper.wp Rd Rds Wr Ent Stars Blk Again Vec FnSpec wpMix QRun Stop Upto wpAt
/-! The references of releases and of differencing, for any releases with right views -/
set_option maxRecDepth 10000 in
set_option maxHeartbeats 8000000 in
theorem rrel_spec (A : Option Addr) (c : Nat) (l : List Int) (r : Rel) (before : Int) (I : PH) (hb : -1 ≤ before) (hl : Ints I A c l) (hs : Sizes l) (hv : RowsOf I r.va r.vc r.v) (hd : Ints I r.val.1 r.val.2.1 r.val.2.2) (hw : Viewed l r.v) :
    FnSpec Tryz.prog 104 [.agg #[.slice A l.length c], .agg #[.int .i64 r.num, .slice r.va r.v.length r.vc, .slice r.val.1 r.val.2.2.length r.val.2.1], .int .i64 before] I [] (fun u R' => u = .int .i64 (relE l r before) ∧ R' = []) := by
  obtain ⟨num, B, cv, v, D, cd, vs⟩ := r
  dsimp only at hv hd hw ⊢
  have hvl := hd.len
  have hP := RPublished_spec A B c cv l v I hl hs hv hw
  unfold relE
  dsimp only
  generalize prod (szs v) = P at hP
  refine FnSpec.enterP Tryz.func104 rfl Tryz.ntmps104 rfl fun w F => ?_
  by_cases h1 : num ≤ before
  · rw [if_pos (.inl h1)]
    repeat' first
      | ((with_reducible refine Nx.is_wp ?_); first | refine Nx.wo ?_ | refine Nx.zp (fun hc => ?_) (fun hc => ?_))
      | (refine Nx.zo ?_; first | refine Nx.opr rfl rfl ?_ | refine Nx.so ?_ | refine Nx.sb (fun bx => ?_) | refine Nx.sa (fun A2 c2 => ?_))
      | ((with_reducible refine Nx.is_at ?_); first | refine Nx.a ?_ | refine Nx.zd ?_ | refine Nx.zs (fun hc => ?_) (fun hc => ?_))
      | ((with_reducible refine Nx.is_mix ?_); first | refine Nx.m ?_ | refine Nx.zm ?_ | refine Nx.zt (fun hc => ?_) (fun hc => ?_))
      | refine Nx.zx ?_ | fail
    exact Nx.ret_fn rfl [] ⟨rfl, rfl⟩ (by (exact Ent.auto))
  by_cases h2 : 24 ≤ num
  · rw [if_pos (.inr h2)]
    repeat' first
      | ((with_reducible refine Nx.is_wp ?_); first | refine Nx.wo ?_ | refine Nx.zp (fun hc => ?_) (fun hc => ?_))
      | (refine Nx.zo ?_; first | refine Nx.opr rfl rfl ?_ | refine Nx.so ?_ | refine Nx.sb (fun bx => ?_) | refine Nx.sa (fun A2 c2 => ?_))
      | ((with_reducible refine Nx.is_at ?_); first | refine Nx.a ?_ | refine Nx.zd ?_ | refine Nx.zs (fun hc => ?_) (fun hc => ?_))
      | ((with_reducible refine Nx.is_mix ?_); first | refine Nx.m ?_ | refine Nx.zm ?_ | refine Nx.zt (fun hc => ?_) (fun hc => ?_))
      | refine Nx.zx ?_ | fail
    exact Nx.ret_fn rfl [] ⟨rfl, rfl⟩ (by (exact Ent.auto))
  rw [if_neg (by omega)]
  by_cases h3 : (vs.length : Int) ≠ P
  · rw [if_pos h3]
    repeat' first
      | ((with_reducible refine Nx.is_wp ?_); first | refine Nx.wo ?_ | refine Nx.p_draw (id := 6) rfl [0, 1, 2, 3, 4, 5, 6, 7] [6] _ rfl rfl (by kernel_rfl) (by kernel_rfl) rfl (by repeat first | exact PanicOk.fn | refine PanicOk.then_ ?_ | refine PanicOk.inB ?_) (Ent.refl _) ?_ | refine Nx.zp (fun hc => ?_) (fun hc => ?_))
      | (refine Nx.zo ?_; first | refine Nx.opr rfl rfl ?_ | refine Nx.loads rfl rfl rfl rfl (Rds.cut 0 1 rfl rfl) rfl ?_ | refine Nx.callv rfl rfl rfl (by kernel_rfl) rfl (RView_spec _ _ _ _ _ _ _ hl hs hv hw) ?_ | refine Nx.callv rfl rfl rfl (by kernel_rfl) rfl hP ?_ | refine Nx.so ?_ | refine Nx.sb (fun bx => ?_) | refine Nx.sa (fun A2 c2 => ?_))
      | ((with_reducible refine Nx.is_at ?_); first | refine Nx.a ?_ | refine Nx.zd ?_ | refine Nx.zs (fun hc => ?_) (fun hc => ?_))
      | ((with_reducible refine Nx.is_mix ?_); first | refine Nx.m_quiet rfl rfl rfl rfl rfl (by first | exact QRun.opr rfl | exact QRun.loads rfl rfl rfl (Rds.cut 0 1 rfl rfl) rfl) ?_ | refine Nx.m_quiet_do rfl rfl rfl rfl rfl rfl rfl (by first | exact QRun.opr rfl | exact QRun.loads rfl rfl rfl (Rds.cut 0 1 rfl rfl) rfl) ?_ | refine Nx.m ?_ | refine Nx.zm ?_ | refine Nx.zt (fun hc => ?_) (fun hc => ?_))
      | refine Nx.zx ?_ | fail
    exact Nx.ret_fn rfl [] ⟨rfl, rfl⟩ (by (exact Ent.auto))
  rw [if_neg h3]
  have h3 : (vs.length : Int) = P := Decidable.byContradiction h3
  obtain ⟨er, her⟩ : ∃ er, er = if vs.any badV = true then (2 : Int) else 0 := ⟨_, rfl⟩
  rw [← her]
  repeat' first
    | ((with_reducible refine Nx.is_wp ?_); first | refine Nx.wo ?_ | refine Nx.p_draw (id := 6) rfl [0, 1, 2, 3, 4, 5, 6, 7] [6] _ rfl rfl (by kernel_rfl) (by kernel_rfl) rfl (by repeat first | exact PanicOk.fn | refine PanicOk.then_ ?_ | refine PanicOk.inB ?_) (Ent.refl _) ?_ | refine Nx.zp (fun hc => ?_) (fun hc => ?_))
    | (refine Nx.zo ?_; first | refine Nx.opr rfl rfl ?_ | refine Nx.loads rfl rfl rfl rfl (Rds.cut 0 1 rfl rfl) rfl ?_ | refine Nx.callv rfl rfl rfl (by kernel_rfl) rfl (RView_spec _ _ _ _ _ _ _ hl hs hv hw) ?_ | refine Nx.callv rfl rfl rfl (by kernel_rfl) rfl hP ?_ | refine Nx.so ?_ | refine Nx.sb (fun bx => ?_) | refine Nx.sa (fun A2 c2 => ?_))
    | ((with_reducible refine Nx.is_at ?_); first | refine Nx.a ?_ | refine Nx.zd ?_ | refine Nx.zs (fun hc => ?_) (fun hc => ?_))
    | ((with_reducible refine Nx.is_mix ?_); first | refine Nx.m_quiet rfl rfl rfl rfl rfl (by first | exact QRun.opr rfl | exact QRun.loads rfl rfl rfl (Rds.cut 0 1 rfl rfl) rfl) ?_ | refine Nx.m_quiet_do rfl rfl rfl rfl rfl rfl rfl (by first | exact QRun.opr rfl | exact QRun.loads rfl rfl rfl (Rds.cut 0 1 rfl rfl) rfl) ?_ | refine Nx.m ?_ | refine Nx.zm ?_ | refine Nx.zt (fun hc => ?_) (fun hc => ?_))
    | refine Nx.zx ?_ | fail
  refine Nx.p_loop (σ := Nat) (fun i => [(40, .slice D vs.length cd), (41, .int .i64 vs.length), (42, .int .i64 (i : Int))])
    (fun _ => [F]) (fun i => i ≤ vs.length ∧ er = if (vs.drop i).any badV = true then (2 : Int) else 0) (fun i => vs.length - i) 0 rfl ⟨Nat.zero_le _, by rw [List.drop_zero]; exact her⟩ ⟨rfl, rfl, rfl, trivial⟩ (by (exact Ent.auto)) ?_
  rintro i ⟨hi, he⟩
  by_cases hiv : i < vs.length
  case neg =>
    rw [List.drop_eq_nil_of_le (by omega), List.any_nil, if_neg (by decide)] at he
    subst he
    repeat' first
      | ((with_reducible refine Nx.is_wp ?_); first | refine Nx.wo ?_ | refine Nx.zp (fun hc => ?_) (fun hc => ?_))
      | (refine Nx.zo ?_; first | refine Nx.opr rfl rfl ?_ | refine Nx.so ?_ | refine Nx.sb (fun bx => ?_) | refine Nx.sa (fun A2 c2 => ?_))
      | ((with_reducible refine Nx.is_at ?_); first | refine Nx.a ?_ | refine Nx.zd ?_ | refine Nx.zs (fun hc => ?_) (fun hc => ?_))
      | ((with_reducible refine Nx.is_mix ?_); first | refine Nx.m ?_ | refine Nx.zm ?_ | refine Nx.zt (fun hc => ?_) (fun hc => ?_))
      | refine Nx.zx ?_ | fail
    exact Nx.ret_fn rfl [] ⟨rfl, rfl⟩ (by (exact Ent.auto))
  have hrd : ∀ (W : World) (R : List Res), Rd W I R ((ad D).add (i * 1)) (.int .i64 (vs.getD i default)) := fun W R => hd.rd hiv
  rw [show vs.drop i = vs.getD i default :: vs.drop (i + 1) by rw [List.drop_eq_getElem_cons hiv, List.getD_eq_getElem?_getD, List.getElem?_eq_getElem hiv]; rfl, List.any_cons] at he
  generalize vs.getD i default = z at he hrd
  by_cases hz : z = -1
  · subst hz
    rw [show badV (-1) = false from rfl, Bool.false_or] at he
    repeat' first
      | ((with_reducible refine Nx.is_wp ?_); first | refine Nx.wo ?_ | refine Nx.zp (fun hc => ?_) (fun hc => ?_))
      | (refine Nx.zo ?_; first | refine Nx.opr rfl rfl ?_ | refine Nx.indexAddr_nat (A := D) (i := i) (sz := 1) rfl rfl rfl rfl rfl (by omega) (hd.isSome (by omega)) ?_ | refine Nx.load rfl rfl rfl (hrd _ _) ?_ | refine Nx.so ?_ | refine Nx.sb (fun bx => ?_) | refine Nx.sa (fun A2 c2 => ?_))
      | ((with_reducible refine Nx.is_at ?_); first | refine Nx.a ?_ | refine Nx.zd ?_ | refine Nx.zs (fun hc => ?_) (fun hc => ?_))
      | ((with_reducible refine Nx.is_mix ?_); first | refine Nx.m ?_ | refine Nx.zm ?_ | refine Nx.zt (fun hc => ?_) (fun hc => ?_))
      | refine Nx.zx ?_ | fail
    exact Nx.again (i + 1) ⟨hiv, he⟩ (by omega) ⟨rfl, rfl, rfl, trivial⟩ (by (exact Ent.auto))
  by_cases hz1 : 0 ≤ z ∧ z ≤ 1000000
  · rw [show badV z = false by unfold badV; rw [decide_eq_true hz1]; simp, Bool.false_or] at he
    repeat' first
      | ((with_reducible refine Nx.is_wp ?_); first | refine Nx.wo ?_ | refine Nx.zp (fun hc => ?_) (fun hc => ?_))
      | (refine Nx.zo ?_; first | refine Nx.opr rfl rfl ?_ | refine Nx.indexAddr_nat (A := D) (i := i) (sz := 1) rfl rfl rfl rfl rfl (by omega) (hd.isSome (by omega)) ?_ | refine Nx.load rfl rfl rfl (hrd _ _) ?_ | refine Nx.so ?_ | refine Nx.sb (fun bx => ?_) | refine Nx.sa (fun A2 c2 => ?_))
      | ((with_reducible refine Nx.is_at ?_); first | refine Nx.a ?_ | refine Nx.zd ?_ | refine Nx.zs (fun hc => ?_) (fun hc => ?_))
      | ((with_reducible refine Nx.is_mix ?_); first | refine Nx.m ?_ | refine Nx.zm ?_ | refine Nx.zt (fun hc => ?_) (fun hc => ?_))
      | refine Nx.zx ?_ | fail
    exact Nx.again (i + 1) ⟨hiv, he⟩ (by omega) ⟨rfl, rfl, rfl, trivial⟩ (by (exact Ent.auto))
  · rw [show badV z = true by unfold badV; rw [decide_eq_true (show z ≠ -1 from hz), decide_eq_false hz1]; rfl, Bool.true_or, if_pos rfl] at he
    subst he
    by_cases hz0 : z < 0
    · repeat' first
        | ((with_reducible refine Nx.is_wp ?_); first | refine Nx.wo ?_ | refine Nx.zp (fun hc => ?_) (fun hc => ?_))
        | (refine Nx.zo ?_; first | refine Nx.opr rfl rfl ?_ | refine Nx.indexAddr_nat (A := D) (i := i) (sz := 1) rfl rfl rfl rfl rfl (by omega) (hd.isSome (by omega)) ?_ | refine Nx.load rfl rfl rfl (hrd _ _) ?_ | refine Nx.so ?_ | refine Nx.sb (fun bx => ?_) | refine Nx.sa (fun A2 c2 => ?_))
        | ((with_reducible refine Nx.is_at ?_); first | refine Nx.a ?_ | refine Nx.zd ?_ | refine Nx.zs (fun hc => ?_) (fun hc => ?_))
        | ((with_reducible refine Nx.is_mix ?_); first | refine Nx.m ?_ | refine Nx.zm ?_ | refine Nx.zt (fun hc => ?_) (fun hc => ?_))
        | refine Nx.zx ?_ | fail
      exact Nx.ret_fn rfl [] ⟨rfl, rfl⟩ (by (exact Ent.auto))
    · repeat' first
        | ((with_reducible refine Nx.is_wp ?_); first | refine Nx.wo ?_ | refine Nx.zp (fun hc => ?_) (fun hc => ?_))
        | (refine Nx.zo ?_; first | refine Nx.opr rfl rfl ?_ | refine Nx.indexAddr_nat (A := D) (i := i) (sz := 1) rfl rfl rfl rfl rfl (by omega) (hd.isSome (by omega)) ?_ | refine Nx.load rfl rfl rfl (hrd _ _) ?_ | refine Nx.so ?_ | refine Nx.sb (fun bx => ?_) | refine Nx.sa (fun A2 c2 => ?_))
        | ((with_reducible refine Nx.is_at ?_); first | refine Nx.a ?_ | refine Nx.zd ?_ | refine Nx.zs (fun hc => ?_) (fun hc => ?_))
        | ((with_reducible refine Nx.is_mix ?_); first | refine Nx.m ?_ | refine Nx.zm ?_ | refine Nx.zt (fun hc => ?_) (fun hc => ?_))
        | refine Nx.zx ?_ | fail
      exact Nx.ret_fn rfl [] ⟨rfl, rfl⟩ (by (exact Ent.auto))
theorem relE_zero {l : List Int} {r : Rel} {b : Int} (h : relE l r b = 0) : b < r.num := by
  unfold relE at h
  split at h
  · cases h
  · omega
set_option maxRecDepth 10000 in
set_option maxHeartbeats 8000000 in
theorem RECheckE_spec (A As : Option Addr) (c cs : Nat) (l : List Int) (rs : List Rel) (I : PH) (hl : Ints I A c l) (hs : Sizes l) (hr : Rels I As cs rs) (hw : ∀ r ∈ rs, Viewed l r.v) :
    FnSpec Tryz.prog 58 [.agg #[.slice A l.length c], .slice As rs.length cs] I [] (fun u R' => u = .int .i64 (relsE l rs) ∧ R' = []) := by
  have hrl := hr.outer.len
  refine FnSpec.enterP Tryz.func58 rfl Tryz.ntmps58 rfl fun w F => ?_
  unfold relsE
  by_cases h24 : 24 < rs.length
  · rw [if_pos h24]
    repeat' first
      | ((with_reducible refine Nx.is_wp ?_); first | refine Nx.wo ?_ | refine Nx.zp (fun hc => ?_) (fun hc => ?_))
      | (refine Nx.zo ?_; first | refine Nx.opr rfl rfl ?_ | refine Nx.callv rfl rfl rfl (by kernel_rfl) rfl (RCheck_spec _ _ _ _ hl hs) ?_ | refine Nx.so ?_ | refine Nx.sb (fun bx => ?_) | refine Nx.sa (fun A2 c2 => ?_))
      | ((with_reducible refine Nx.is_at ?_); first | refine Nx.a ?_ | refine Nx.zd ?_ | refine Nx.zs (fun hc => ?_) (fun hc => ?_))
      | ((with_reducible refine Nx.is_mix ?_); first | refine Nx.m ?_ | refine Nx.zm ?_ | refine Nx.zt (fun hc => ?_) (fun hc => ?_))
      | refine Nx.zx ?_ | fail
    exact Nx.ret_fn rfl [] ⟨rfl, rfl⟩ (by (exact Ent.auto))
  rw [if_neg h24]
  repeat' first
    | ((with_reducible refine Nx.is_wp ?_); first | refine Nx.wo ?_ | refine Nx.zp (fun hc => ?_) (fun hc => ?_))
    | (refine Nx.zo ?_; first | refine Nx.opr rfl rfl ?_ | refine Nx.callv rfl rfl rfl (by kernel_rfl) rfl (RCheck_spec _ _ _ _ hl hs) ?_ | refine Nx.so ?_ | refine Nx.sb (fun bx => ?_) | refine Nx.sa (fun A2 c2 => ?_))
    | ((with_reducible refine Nx.is_at ?_); first | refine Nx.a ?_ | refine Nx.zd ?_ | refine Nx.zs (fun hc => ?_) (fun hc => ?_))
    | ((with_reducible refine Nx.is_mix ?_); first | refine Nx.m ?_ | refine Nx.zm ?_ | refine Nx.zt (fun hc => ?_) (fun hc => ?_))
    | refine Nx.zx ?_ | fail
  revert bx; intro b2
  refine Nx.p_loop (σ := Nat × Int) (fun s => [(2, .pointer (some ⟨b2, 0, none⟩)), (6, .int .i64 s.2), (18, .slice As rs.length cs), (19, .int .i64 rs.length), (20, .int .i64 (s.1 : Int))])
    (fun _ => [Blk b2 27 [.slice A l.length c], F]) (fun s => s.1 ≤ rs.length ∧ -1 ≤ s.2 ∧ relsF l (-1) rs = relsF l s.2 (rs.drop s.1)) (fun s => rs.length - s.1) (0, -1) rfl ⟨Nat.zero_le _, Int.le_refl _, rfl⟩ ⟨rfl, rfl, rfl, rfl, rfl, trivial⟩ (by (exact Ent.auto)) ?_
  rintro ⟨i, b⟩ ⟨hi, hb, he⟩
  dsimp only at hi hb he ⊢
  by_cases hiv : i < rs.length
  case neg =>
    rw [List.drop_eq_nil_of_le (by omega), relsF] at he
    rw [he]
    repeat' first
      | ((with_reducible refine Nx.is_wp ?_); first | refine Nx.wo ?_ | refine Nx.zp (fun hc => ?_) (fun hc => ?_))
      | (refine Nx.zo ?_; first | refine Nx.opr rfl rfl ?_ | refine Nx.so ?_ | refine Nx.sb (fun bx => ?_) | refine Nx.sa (fun A2 c2 => ?_))
      | ((with_reducible refine Nx.is_at ?_); first | refine Nx.a ?_ | refine Nx.zd ?_ | refine Nx.zs (fun hc => ?_) (fun hc => ?_))
      | ((with_reducible refine Nx.is_mix ?_); first | refine Nx.m ?_ | refine Nx.zm ?_ | refine Nx.zt (fun hc => ?_) (fun hc => ?_))
      | refine Nx.zx ?_ | fail
    exact Nx.ret_fn rfl [] ⟨rfl, rfl⟩ (by (exact Ent.auto))
  rw [relsF_at hiv] at he
  have hwi := hw _ (getD_memR hiv)
  have hS := rrel_spec A c l (rs.getD i default) b I hb hl hs (hr.view _ (getD_memR hiv)) (hr.val _ (getD_memR hiv)) hwi
  have hz := relE_zero (l := l) (r := rs.getD i default) (b := b)
  have hrds : ∀ (W : World) (R : List Res), Rds W I R ((ad As).add (i * 3)) (relC (rs.getD i default)) := fun W R => hr.outer.rds hiv
  generalize rs.getD i default = r at he hS hrds hz
  obtain ⟨num, va, vc, v, D, cd, vs⟩ := r
  dsimp only at he hS hz
  replace hrds : ∀ (W : World) (R : List Res), Rds W I R ((ad As).add (i * 3)) [.int .i64 num, .slice va v.length vc, .slice D vs.length cd] := hrds
  generalize relE l ⟨num, va, vc, v, (D, cd, vs)⟩ b = er at he hS hz
  by_cases h0 : er = 0
  · rw [if_neg (by omega)] at he
    have hz := hz h0
    subst h0
    repeat' first
      | ((with_reducible refine Nx.is_wp ?_); first | refine Nx.wo ?_ | refine Nx.zp (fun hc => ?_) (fun hc => ?_))
      | (refine Nx.zo ?_; first | refine Nx.opr rfl rfl ?_ | refine Nx.indexAddr_nat rfl rfl rfl rfl rfl hiv (hr.outer.isSome (by omega) (by omega)) ?_ | refine Nx.loads rfl rfl rfl rfl (hrds _ _) rfl ?_ | refine Nx.callv rfl rfl rfl (by kernel_rfl) rfl hS ?_ | refine Nx.so ?_ | refine Nx.sb (fun bx => ?_) | refine Nx.sa (fun A2 c2 => ?_))
      | ((with_reducible refine Nx.is_at ?_); first | refine Nx.a ?_ | refine Nx.zd ?_ | refine Nx.zs (fun hc => ?_) (fun hc => ?_))
      | ((with_reducible refine Nx.is_mix ?_); first | refine Nx.m ?_ | refine Nx.zm ?_ | refine Nx.zt (fun hc => ?_) (fun hc => ?_))
      | refine Nx.zx ?_ | fail
    exact Nx.again (i + 1, num) ⟨hiv, by dsimp only; omega, he⟩ (by dsimp only; omega) ⟨rfl, rfl, rfl, rfl, rfl, trivial⟩ (by (exact Ent.auto))
  · rw [if_pos h0] at he
    rw [he]
    repeat' first
      | ((with_reducible refine Nx.is_wp ?_); first | refine Nx.wo ?_ | refine Nx.zp (fun hc => ?_) (fun hc => ?_))
      | (refine Nx.zo ?_; first | refine Nx.opr rfl rfl ?_ | refine Nx.indexAddr_nat rfl rfl rfl rfl rfl hiv (hr.outer.isSome (by omega) (by omega)) ?_ | refine Nx.loads rfl rfl rfl rfl (hrds _ _) rfl ?_ | refine Nx.callv rfl rfl rfl (by kernel_rfl) rfl hS ?_ | refine Nx.so ?_ | refine Nx.sb (fun bx => ?_) | refine Nx.sa (fun A2 c2 => ?_))
      | ((with_reducible refine Nx.is_at ?_); first | refine Nx.a ?_ | refine Nx.zd ?_ | refine Nx.zs (fun hc => ?_) (fun hc => ?_))
      | ((with_reducible refine Nx.is_mix ?_); first | refine Nx.m ?_ | refine Nx.zm ?_ | refine Nx.zt (fun hc => ?_) (fun hc => ?_))
      | refine Nx.zx ?_ | fail
    exact Nx.ret_fn rfl [] ⟨rfl, rfl⟩ (by (exact Ent.auto))
set_option maxHeartbeats 8000000 in
set_option maxRecDepth 10000 in
theorem REAllN_spec (A As : Option Addr) (c cs : Nat) (l : List Int) (rs : List Rel) (I : PH) (hl : Ints I A c l) (hs : Sizes l) (hr : Rels I As cs rs) (hw : ∀ r ∈ rs, Viewed l r.v) (h0 : relsE l rs ≠ 0) :
    FnSpec Tryz.prog 14 [.agg #[.slice A l.length c], .slice As rs.length cs] I [] (fun u R' => u = .tuple #[.slice none 0 0, .int .i64 (relsE l rs)] ∧ R' = []) := by
  have hEC := RECheckE_spec A As c cs l rs I hl hs hr hw
  generalize relsE l rs = er at h0 hEC
  refine FnSpec.enterP Tryz.func14 rfl Tryz.ntmps14 rfl fun w F => ?_
  repeat' first
    | ((with_reducible refine Nx.is_wp ?_); first | refine Nx.wo ?_ | refine Nx.zp (fun hc => ?_) (fun hc => ?_))
    | (refine Nx.zo ?_; first | refine Nx.opr rfl rfl ?_ | refine Nx.callv rfl rfl rfl (by kernel_rfl) rfl hEC ?_ | refine Nx.so ?_ | refine Nx.sb (fun bx => ?_) | refine Nx.sa (fun A2 c2 => ?_))
    | ((with_reducible refine Nx.is_at ?_); first | refine Nx.a ?_ | refine Nx.zd ?_ | refine Nx.zs (fun hc => ?_) (fun hc => ?_))
    | ((with_reducible refine Nx.is_mix ?_); first | refine Nx.m ?_ | refine Nx.zm ?_ | refine Nx.zt (fun hc => ?_) (fun hc => ?_))
    | refine Nx.zx ?_ | fail
  exact Nx.ret_fn rfl [] ⟨rfl, rfl⟩ (by (exact Ent.auto))
end Go.Proofs.YtcmdemfhbekabaaGreat
/- Contracts of functions of the given program, and lemmas about plain lists and numbers: what the laws of this seat lean on. -/
namespace Go.Proofs.YtcmdemfhbekabaaGreat
open Go.Eng Go.Sol
attribute [local irreducible] opK wpList Code.wp Exit.then Exit.inBlock fnPost bodyPost Nx Calls Oper.wp Rd Rds Wr Ent Stars Blk Again Vec FnSpec wpMix QRun Stop Upto wpAt
/-! Tables; what the reference does first -/
set_option maxHeartbeats 8000000 in
theorem nil_rows {R : List Res} : Ent R (rowsR none 0 [] ++ R) := (Ent.stars_nil _).trans ((Ent.vec_nil 25 1 _).trans (by (exact Ent.auto)))
theorem told_q0 {l : List Int} {rs : List Rel} {qs : List EqR} (hs : Sizes l) (hV : RelsV l rs) (h : qs.map cont = rs.flatMap (told l)) : ToldQ l rs qs :=
  ⟨cont_good h (told_good hs hV), allC_told hs hV h, cont_eqns h⟩
set_option maxRecDepth 10000 in
set_option maxHeartbeats 8000000 in
theorem RAllQ_spec (A : Option Addr) (c : Nat) (l : List EqR) (n most : Nat) (I : PH) (hl : Eqs I A c l) (hg : ∀ q ∈ l, GoodE n q) (hn9 : n ≤ 4096) (hll : l.length ≤ 100000) (hm9 : most ≤ 1000000) :
    FnSpec Tryz.prog 125 [.int .i64 (n : Int), .slice A l.length c, .int .i64 (most : Int)] I []
      (fun v R' => ∃ (A' : Option Addr) (c' : Nat) (o : List Row), v = .slice A' o.length c' ∧ o.map (·.2.2) = (solsOf n (eqns l)).take most ∧ R' = rowsR A' c' o) := by
  have hS := all_spec A c l n most I hl hg hn9 hll hm9
  refine FnSpec.enterP Tryz.func125 rfl Tryz.ntmps125 rfl fun w F => ?_
  repeat' first
    | ((with_reducible refine Nx.is_wp ?_); first | refine Nx.wo ?_ | refine Nx.zp (fun hc => ?_) (fun hc => ?_))
    | (refine Nx.zo ?_; first | refine Nx.opr rfl rfl ?_ | (refine Nx.call (Rpre := []) rfl rfl rfl (by kernel_rfl) rfl hS (Ent.refl _) ?_; rintro _ _ ⟨A', c', o, rfl, ho, rfl⟩) | refine Nx.so ?_ | refine Nx.sb (fun bx => ?_) | refine Nx.sa (fun A2 c2 => ?_))
    | ((with_reducible refine Nx.is_at ?_); first | refine Nx.a ?_ | refine Nx.zd ?_ | refine Nx.zs (fun hc => ?_) (fun hc => ?_))
    | ((with_reducible refine Nx.is_mix ?_); first | refine Nx.m ?_ | refine Nx.zm ?_ | refine Nx.zt (fun hc => ?_) (fun hc => ?_))
    | refine Nx.zx ?_ | fail
  exact Nx.ret_fn rfl [_, _] ⟨A', c', o, rfl, ho, rfl⟩ (by (exact Ent.auto))
/-- What the reference's tables answers. -/
def RTabs (l : List Int) (rs : List Rel) (most : Nat) (u : Value) (R' : List Res) : Prop :=
  ∃ (A' : Option Addr) (c' : Nat) (o : List Row), u = .tuple #[.slice A' o.length c', .int .i64 (tolE l rs)] ∧ o.map (·.2.2) = (if tolE l rs = 0 then (solsOf (prod l).toNat (eqns (qsOf l rs))).take most else []) ∧ R' = rowsR A' c' o
set_option maxRecDepth 10000 in
set_option maxHeartbeats 16000000 in
theorem rtables_spec (A As : Option Addr) (c cs : Nat) (l : List Int) (rs : List Rel) (most : Nat) (hm : most ≤ 1000000) (I : PH) (hl : Ints I A c l) (hs : Sizes l) (hr : Rels I As cs rs) (hw : ∀ r ∈ rs, Viewed l r.v) :
    FnSpec Tryz.prog 88 [.agg #[.slice A l.length c], .slice As rs.length cs, .int .i64 (most : Int)] I [] (RTabs l rs most) := by
  have hiff := relsE_iff hs hw
  have hz := size_ok hs
  refine FnSpec.enterP Tryz.func88 rfl Tryz.ntmps88 rfl fun w F => ?_
  unfold RTabs
  by_cases h0 : relsE l rs = 0
  case neg =>
    have hN := REAllN_spec A As c cs l rs I hl hs hr hw h0
    have ht : tolE l rs = relsE l rs := by unfold tolE; rw [if_neg h0]
    rw [ht, if_neg h0]
    generalize relsE l rs = er at h0 hN
    repeat' first
      | ((with_reducible refine Nx.is_wp ?_); first | refine Nx.wo ?_ | refine Nx.zp (fun hc => ?_) (fun hc => ?_))
      | (refine Nx.zo ?_; first | refine Nx.opr rfl rfl ?_ | refine Nx.callv rfl rfl rfl (by kernel_rfl) rfl hN ?_ | refine Nx.so ?_ | refine Nx.sb (fun bx => ?_) | refine Nx.sa (fun A2 c2 => ?_))
      | ((with_reducible refine Nx.is_at ?_); first | refine Nx.a ?_ | refine Nx.zd ?_ | refine Nx.zs (fun hc => ?_) (fun hc => ?_))
      | ((with_reducible refine Nx.is_mix ?_); first | refine Nx.m ?_ | refine Nx.zm ?_ | refine Nx.zt (fun hc => ?_) (fun hc => ?_))
      | refine Nx.zx ?_ | fail
    exact Nx.ret_fn rfl [_, _] ⟨none, 0, [], rfl, rfl, rfl⟩ (nil_rows.trans (by (exact Ent.auto)))
  have hV := hiff.1 h0
  have ht : tolE l rs = chkQ (prod l) (qsOf l rs) := by unfold tolE; rw [if_pos h0]
  have hA := REAll_spec A As c cs l rs I hl hs hr hV
  repeat' first
    | ((with_reducible refine Nx.is_wp ?_); first | refine Nx.p_stopr 4 rfl ?_ | refine Nx.wo ?_ | refine Nx.zp (fun hc => ?_) (fun hc => ?_))
    | (refine Nx.zo ?_; first | refine Nx.opr rfl rfl ?_ | (refine Nx.call (Rpre := []) rfl rfl rfl (by kernel_rfl) rfl hA (Ent.refl _) ?_; rintro _ _ ⟨Am, cm, qs, rfl, hqs, hq9, rfl⟩) | refine Nx.so ?_ | refine Nx.sb (fun bx => ?_) | refine Nx.sa (fun A2 c2 => ?_))
    | ((with_reducible refine Nx.is_at ?_); first | refine Nx.a ?_ | refine Nx.zd ?_ | refine Nx.zs (fun hc => ?_) (fun hc => ?_))
    | ((with_reducible refine Nx.is_mix ?_); first | refine Nx.m ?_ | refine Nx.zm ?_ | refine Nx.zt (fun hc => ?_) (fun hc => ?_))
    | refine Nx.zx ?_ | fail
  refine Nx.unstop ?_
  obtain ⟨hg, ha, he⟩ := told_q0 hs hV hqs
  revert bx; intro b3
  refine Nx.giveE (A := Am) (c := cm) (qs := qs) (RR := [Blk b3 27 [.slice A l.length c], F]) (by (exact Ent.auto)) fun I1 hI1 hE => ?_
  have hF := RFirst_spec (prod l) Am cm qs I1 hE
  have hS := RAllQ_spec Am cm qs (prod l).toNat most I1 hE hg (by omega) (by omega) hm
  have hC := RCount_spec A c l I1 (hl.mono hI1) hs
  rw [he, hz.2.2] at hS
  have hck : chkQ (prod l) qs = chkQ (prod l) (qsOf l rs) := cont_chk hqs (prod l)
  rw [first_err, hck, ← ht] at hF
  generalize (firstOf (prod l) qs).1 = fl at hF
  generalize (firstOf (prod l) qs).2.1 = fb at hF
  generalize solsOf (prod l).toNat (eqns (qsOf l rs)) = S at hS
  by_cases hc : tolE l rs = 0
  · rw [if_pos hc]
    rw [hc] at hF ⊢
    repeat' first
      | ((with_reducible refine Nx.is_wp ?_); first | refine Nx.wo ?_ | refine Nx.zp (fun hc => ?_) (fun hc => ?_))
      | (refine Nx.zo ?_; first | refine Nx.opr rfl rfl ?_ | refine Nx.callv rfl rfl rfl (by kernel_rfl) rfl hC ?_ | (refine Nx.call (Rpre := []) rfl rfl rfl (by kernel_rfl) rfl hF (Ent.refl _) ?_; rintro _ _ ⟨A1, c1, rfl, rfl⟩) | (refine Nx.call (Rpre := []) rfl rfl rfl (by kernel_rfl) rfl hS (Ent.refl _) ?_; rintro _ _ ⟨A2, c2, o, rfl, ho, rfl⟩) | refine Nx.so ?_ | refine Nx.sb (fun bx => ?_) | refine Nx.sa (fun A2 c2 => ?_))
      | ((with_reducible refine Nx.is_at ?_); first | refine Nx.a ?_ | refine Nx.zd ?_ | refine Nx.zs (fun hc => ?_) (fun hc => ?_))
      | ((with_reducible refine Nx.is_mix ?_); first | refine Nx.m ?_ | refine Nx.zm ?_ | refine Nx.zt (fun hc => ?_) (fun hc => ?_))
      | refine Nx.zx ?_ | fail
    exact Nx.imm_le hI1 (Nx.ret_fn rfl [_, _] ⟨A2, c2, o, rfl, ho, rfl⟩ (by (exact Ent.auto)))
  · rw [if_neg hc]
    generalize tolE l rs = er at hc hF
    repeat' first
      | ((with_reducible refine Nx.is_wp ?_); first | refine Nx.wo ?_ | refine Nx.zp (fun hc => ?_) (fun hc => ?_))
      | (refine Nx.zo ?_; first | refine Nx.opr rfl rfl ?_ | refine Nx.callv rfl rfl rfl (by kernel_rfl) rfl hC ?_ | (refine Nx.call (Rpre := []) rfl rfl rfl (by kernel_rfl) rfl hF (Ent.refl _) ?_; rintro _ _ ⟨A1, c1, rfl, rfl⟩) | refine Nx.so ?_ | refine Nx.sb (fun bx => ?_) | refine Nx.sa (fun A2 c2 => ?_))
      | ((with_reducible refine Nx.is_at ?_); first | refine Nx.a ?_ | refine Nx.zd ?_ | refine Nx.zs (fun hc => ?_) (fun hc => ?_))
      | ((with_reducible refine Nx.is_mix ?_); first | refine Nx.m ?_ | refine Nx.zm ?_ | refine Nx.zt (fun hc => ?_) (fun hc => ?_))
      | refine Nx.zx ?_ | fail
    exact Nx.imm_le hI1 (Nx.ret_fn rfl [_, _] ⟨none, 0, [], rfl, rfl, rfl⟩ (nil_rows.trans (by (exact Ent.auto))))
/-- What Tables answers, with its rows. -/
def TabsQ (l : List Int) (rs : List Rel) (most : Int) (u : Value) (R' : List Res) : Prop :=
  ∃ (A' : Option Addr) (c' : Nat) (o : List Row), u = .tuple #[.slice A' o.length c', .int .i64 (tbsD l rs most).2] ∧ o.map (·.2.2) = (tbsD l rs most).1 ∧ R' = rowsR A' c' o
set_option maxRecDepth 10000 in
set_option maxHeartbeats 16000000 in
theorem Tables_spec (A As : Option Addr) (c cs : Nat) (l : List Int) (rs : List Rel) (most : Int) (I : PH) (hl : Ints I A c l) (hs : Sizes l) (hr : Rels I As cs rs) (hw : ∀ r ∈ rs, Viewed l r.v) :
    FnSpec Tryz.prog 37 [.agg #[.slice A l.length c], .slice As rs.length cs, .int .i64 most] I [] (TabsQ l rs most) := by
  have hT := atold_spec A As c cs l rs I hl hs hr hw
  unfold ToldPost at hT
  have hz := size_ok hs
  have hq := fun qs (h0 : tolE l rs = 0) => told_q (qs := qs) hs hw h0
  have hckq := fun (h0 : tolE l rs = 0) => (tolE_ok h0).2
  refine FnSpec.enterP Tryz.func37 rfl Tryz.ntmps37 rfl fun w F => ?_
  unfold TabsQ tbsD
  by_cases h0 : tolE l rs = 0
  case neg =>
    rw [if_neg h0]
    rw [if_neg h0] at hT
    generalize tolE l rs = er at h0 hT
    repeat' first
      | ((with_reducible refine Nx.is_wp ?_); first | refine Nx.wo ?_ | refine Nx.zp (fun hc => ?_) (fun hc => ?_))
      | (refine Nx.zo ?_; first | refine Nx.opr rfl rfl ?_ | (refine Nx.call (Rpre := []) rfl rfl rfl (by kernel_rfl) rfl hT (Ent.refl _) ?_; rintro _ _ ⟨Am, cm, qs, rfl, -, hqs, rfl⟩) | refine Nx.so ?_ | refine Nx.sb (fun bx => ?_) | refine Nx.sa (fun A2 c2 => ?_))
      | ((with_reducible refine Nx.is_at ?_); first | refine Nx.a ?_ | refine Nx.zd ?_ | refine Nx.zs (fun hc => ?_) (fun hc => ?_))
      | ((with_reducible refine Nx.is_mix ?_); first | refine Nx.m ?_ | refine Nx.zm ?_ | refine Nx.zt (fun hc => ?_) (fun hc => ?_))
      | refine Nx.zx ?_ | fail
    exact Nx.ret_fn rfl [_, _] ⟨none, 0, [], rfl, rfl, rfl⟩ (nil_rows.trans (by (exact Ent.auto)))
  rw [if_pos h0]
  rw [h0] at hT
  rw [if_pos rfl] at hT
  unfold tabF
  by_cases hb : most < 1 ∨ 1000 < most
  · rw [if_pos hb]
    rcases hb with hb | hb
    · repeat' first
        | ((with_reducible refine Nx.is_wp ?_); first | refine Nx.wo ?_ | refine Nx.zp (fun hc => ?_) (fun hc => ?_))
        | (refine Nx.zo ?_; first | refine Nx.opr rfl rfl ?_ | (refine Nx.call (Rpre := []) rfl rfl rfl (by kernel_rfl) rfl hT (Ent.refl _) ?_; rintro _ _ ⟨Am, cm, qs, rfl, hqs, -, rfl⟩) | refine Nx.so ?_ | refine Nx.sb (fun bx => ?_) | refine Nx.sa (fun A2 c2 => ?_))
        | ((with_reducible refine Nx.is_at ?_); first | refine Nx.a ?_ | refine Nx.zd ?_ | refine Nx.zs (fun hc => ?_) (fun hc => ?_))
        | ((with_reducible refine Nx.is_mix ?_); first | refine Nx.m ?_ | refine Nx.zm ?_ | refine Nx.zt (fun hc => ?_) (fun hc => ?_))
        | refine Nx.zx ?_ | fail
      exact Nx.ret_fn rfl [_, _] ⟨none, 0, [], rfl, rfl, rfl⟩ (nil_rows.trans (by (exact Ent.auto)))
    · repeat' first
        | ((with_reducible refine Nx.is_wp ?_); first | refine Nx.wo ?_ | refine Nx.zp (fun hc => ?_) (fun hc => ?_))
        | (refine Nx.zo ?_; first | refine Nx.opr rfl rfl ?_ | (refine Nx.call (Rpre := []) rfl rfl rfl (by kernel_rfl) rfl hT (Ent.refl _) ?_; rintro _ _ ⟨Am, cm, qs, rfl, hqs, -, rfl⟩) | refine Nx.so ?_ | refine Nx.sb (fun bx => ?_) | refine Nx.sa (fun A2 c2 => ?_))
        | ((with_reducible refine Nx.is_at ?_); first | refine Nx.a ?_ | refine Nx.zd ?_ | refine Nx.zs (fun hc => ?_) (fun hc => ?_))
        | ((with_reducible refine Nx.is_mix ?_); first | refine Nx.m ?_ | refine Nx.zm ?_ | refine Nx.zt (fun hc => ?_) (fun hc => ?_))
        | refine Nx.zx ?_ | fail
      exact Nx.ret_fn rfl [_, _] ⟨none, 0, [], rfl, rfl, rfl⟩ (nil_rows.trans (by (exact Ent.auto)))
  rw [if_neg hb]
  repeat' first
    | ((with_reducible refine Nx.is_wp ?_); first | refine Nx.p_stopr 4 rfl ?_ | refine Nx.wo ?_ | refine Nx.zp (fun hc => ?_) (fun hc => ?_))
    | (refine Nx.zo ?_; first | refine Nx.opr rfl rfl ?_ | (refine Nx.call (Rpre := []) rfl rfl rfl (by kernel_rfl) rfl hT (Ent.refl _) ?_; rintro _ _ ⟨Am, cm, qs, rfl, hqs, -, rfl⟩) | refine Nx.so ?_ | refine Nx.sb (fun bx => ?_) | refine Nx.sa (fun A2 c2 => ?_))
    | ((with_reducible refine Nx.is_at ?_); first | refine Nx.a ?_ | refine Nx.zd ?_ | refine Nx.zs (fun hc => ?_) (fun hc => ?_))
    | ((with_reducible refine Nx.is_mix ?_); first | refine Nx.m ?_ | refine Nx.zm ?_ | refine Nx.zt (fun hc => ?_) (fun hc => ?_))
    | refine Nx.zx ?_ | fail
  refine Nx.unstop ?_
  obtain ⟨hg, ha, he⟩ := hq qs h0 (hqs rfl)
  refine Nx.giveE (A := Am) (c := cm) (qs := qs) (RR := [F]) (by (exact Ent.auto)) fun I1 hI1 hE => ?_
  have hS := Solutions_spec (prod l) Am cm qs most I1 hE (by omega)
  have hck : chkQ (prod l) qs = 0 := (cont_chk (hqs rfl) (prod l)).trans (hckq h0)
  unfold solsR at hS
  rw [hck, if_pos rfl, if_neg hb, he] at hS
  generalize (solsOf (prod l).toNat (eqns (qsOf l rs))).take most.toNat = S at hS
  dsimp only at hS
  repeat' first
    | ((with_reducible refine Nx.is_wp ?_); first | refine Nx.wo ?_ | refine Nx.zp (fun hc => ?_) (fun hc => ?_))
    | (refine Nx.zo ?_; first | refine Nx.opr rfl rfl ?_ | (refine Nx.call (Rpre := []) rfl rfl rfl (by kernel_rfl) rfl hS (Ent.refl _) ?_; rintro _ _ ⟨A2, c2, o, rfl, ho, rfl⟩) | refine Nx.so ?_ | refine Nx.sb (fun bx => ?_) | refine Nx.sa (fun A2 c2 => ?_))
    | ((with_reducible refine Nx.is_at ?_); first | refine Nx.a ?_ | refine Nx.zd ?_ | refine Nx.zs (fun hc => ?_) (fun hc => ?_))
    | ((with_reducible refine Nx.is_mix ?_); first | refine Nx.m ?_ | refine Nx.zm ?_ | refine Nx.zt (fun hc => ?_) (fun hc => ?_))
    | refine Nx.zx ?_ | fail
  exact Nx.imm_le hI1 (Nx.ret_fn rfl [_, _] ⟨A2, c2, o, rfl, ho, rfl⟩ (by (exact Ent.auto)))
set_option maxRecDepth 10000 in
set_option maxHeartbeats 16000000 in
theorem RTables_spec (A As : Option Addr) (c cs : Nat) (l : List Int) (rs : List Rel) (most : Int) (I : PH) (hl : Ints I A c l) (hs : Sizes l) (hr : Rels I As cs rs) (hw : ∀ r ∈ rs, Viewed l r.v) :
    FnSpec Tryz.prog 38 [.agg #[.slice A l.length c], .slice As rs.length cs, .int .i64 most] I [] (TabsQ l rs most) := by
  obtain ⟨m, hm⟩ : ∃ m : Nat, max 1 (min most 1000) = (m : Int) := ⟨(max 1 (min most 1000)).toNat, by omega⟩
  have hT := rtables_spec A As c cs l rs m (by omega) I hl hs hr hw
  unfold RTabs at hT
  rw [← hm] at hT
  refine FnSpec.enterP Tryz.func38 rfl Tryz.ntmps38 rfl fun w F => ?_
  unfold TabsQ tbsD
  by_cases h0 : tolE l rs = 0
  case neg =>
    rw [if_neg h0]
    rw [if_neg h0] at hT
    generalize tolE l rs = er at h0 hT
    repeat' first
      | ((with_reducible refine Nx.is_wp ?_); first | refine Nx.wo ?_ | refine Nx.zp (fun hc => ?_) (fun hc => ?_))
      | (refine Nx.zo ?_; first | refine Nx.opr rfl rfl ?_ | (refine Nx.call (Rpre := []) rfl rfl rfl (by kernel_rfl) rfl hT (Ent.refl _) ?_; rintro _ _ ⟨A2, c2, o, rfl, ho, rfl⟩) | refine Nx.so ?_ | refine Nx.sb (fun bx => ?_) | refine Nx.sa (fun A2 c2 => ?_))
      | ((with_reducible refine Nx.is_at ?_); first | refine Nx.a ?_ | refine Nx.zd ?_ | refine Nx.zs (fun hc => ?_) (fun hc => ?_))
      | ((with_reducible refine Nx.is_mix ?_); first | refine Nx.m ?_ | refine Nx.zm ?_ | refine Nx.zt (fun hc => ?_) (fun hc => ?_))
      | refine Nx.zx ?_ | fail
    exact Nx.ret_fn rfl [_, _] ⟨none, 0, [], rfl, rfl, rfl⟩ (nil_rows.trans (by (exact Ent.auto)))
  rw [if_pos h0]
  rw [if_pos h0, h0] at hT
  unfold tabF
  generalize solsOf (prod l).toNat (eqns (qsOf l rs)) = S at hT
  by_cases hb : most < 1 ∨ 1000 < most
  · rw [if_pos hb]
    rcases hb with hb | hb
    · repeat' first
        | ((with_reducible refine Nx.is_wp ?_); first | refine Nx.wo ?_ | refine Nx.zp (fun hc => ?_) (fun hc => ?_))
        | (refine Nx.zo ?_; first | refine Nx.opr rfl rfl ?_ | (refine Nx.call (Rpre := []) rfl rfl rfl (by kernel_rfl) rfl hT (Ent.refl _) ?_; rintro _ _ ⟨A2, c2, o, rfl, ho, rfl⟩) | refine Nx.so ?_ | refine Nx.sb (fun bx => ?_) | refine Nx.sa (fun A2 c2 => ?_))
        | ((with_reducible refine Nx.is_at ?_); first | refine Nx.a ?_ | refine Nx.zd ?_ | refine Nx.zs (fun hc => ?_) (fun hc => ?_))
        | ((with_reducible refine Nx.is_mix ?_); first | refine Nx.m ?_ | refine Nx.zm ?_ | refine Nx.zt (fun hc => ?_) (fun hc => ?_))
        | refine Nx.zx ?_ | fail
      exact Nx.ret_fn rfl [_, _] ⟨none, 0, [], rfl, rfl, rfl⟩ (nil_rows.trans (by (exact Ent.auto)))
    · repeat' first
        | ((with_reducible refine Nx.is_wp ?_); first | refine Nx.wo ?_ | refine Nx.zp (fun hc => ?_) (fun hc => ?_))
        | (refine Nx.zo ?_; first | refine Nx.opr rfl rfl ?_ | (refine Nx.call (Rpre := []) rfl rfl rfl (by kernel_rfl) rfl hT (Ent.refl _) ?_; rintro _ _ ⟨A2, c2, o, rfl, ho, rfl⟩) | refine Nx.so ?_ | refine Nx.sb (fun bx => ?_) | refine Nx.sa (fun A2 c2 => ?_))
        | ((with_reducible refine Nx.is_at ?_); first | refine Nx.a ?_ | refine Nx.zd ?_ | refine Nx.zs (fun hc => ?_) (fun hc => ?_))
        | ((with_reducible refine Nx.is_mix ?_); first | refine Nx.m ?_ | refine Nx.zm ?_ | refine Nx.zt (fun hc => ?_) (fun hc => ?_))
        | refine Nx.zx ?_ | fail
      exact Nx.ret_fn rfl [_, _] ⟨none, 0, [], rfl, rfl, rfl⟩ (nil_rows.trans (by (exact Ent.auto)))
  rw [if_neg hb]
  have hmm : most.toNat = m := by omega
  rw [← hmm] at hT
  repeat' first
    | ((with_reducible refine Nx.is_wp ?_); first | refine Nx.wo ?_ | refine Nx.zp (fun hc => ?_) (fun hc => ?_))
    | (refine Nx.zo ?_; first | refine Nx.opr rfl rfl ?_ | (refine Nx.call (Rpre := []) rfl rfl rfl (by kernel_rfl) rfl hT (Ent.refl _) ?_; rintro _ _ ⟨A2, c2, o, rfl, ho, rfl⟩) | refine Nx.so ?_ | refine Nx.sb (fun bx => ?_) | refine Nx.sa (fun A2 c2 => ?_))
    | ((with_reducible refine Nx.is_at ?_); first | refine Nx.a ?_ | refine Nx.zd ?_ | refine Nx.zs (fun hc => ?_) (fun hc => ?_))
    | ((with_reducible refine Nx.is_mix ?_); first | refine Nx.m ?_ | refine Nx.zm ?_ | refine Nx.zt (fun hc => ?_) (fun hc => ?_))
    | refine Nx.zx ?_ | fail
  exact Nx.ret_fn rfl [_, _] ⟨A2, c2, o, rfl, ho, rfl⟩ (by (exact Ent.auto))
set_option maxRecDepth 10000 in
set_option maxHeartbeats 8000000 in
theorem rtouched_spec (A As : Option Addr) (c cs : Nat) (l : List Int) (rs : List Rel) (I : PH) (hl : Ints I A c l) (hs : Sizes l) (hr : Rels I As cs rs) (hw : ∀ r ∈ rs, Viewed l r.v) (h0 : relsE l rs = 0) :
    FnSpec Tryz.prog 89 [.agg #[.slice A l.length c], .slice As rs.length cs] I []
      (fun u R' => ∃ (A' : Option Addr) (c' : Nat), u = .slice A' (touch (prod l).toNat (eqns (qsOf l rs))).length c' ∧ R' = [iR A' c' (natI (touch (prod l).toNat (eqns (qsOf l rs))))]) := by
  have hV := (relsE_iff hs hw).1 h0
  have hz := size_ok hs
  have hA := REAll_spec A As c cs l rs I hl hs hr hV
  refine FnSpec.enterP Tryz.func89 rfl Tryz.ntmps89 rfl fun w F => ?_
  repeat' first
    | ((with_reducible refine Nx.is_wp ?_); first | refine Nx.p_stopr 2 rfl ?_ | refine Nx.wo ?_ | refine Nx.zp (fun hc => ?_) (fun hc => ?_))
    | (refine Nx.zo ?_; first | refine Nx.opr rfl rfl ?_ | (refine Nx.call (Rpre := []) rfl rfl rfl (by kernel_rfl) rfl hA (Ent.refl _) ?_; rintro _ _ ⟨Am, cm, qs, rfl, hqs, hq9, rfl⟩) | refine Nx.so ?_ | refine Nx.sb (fun bx => ?_) | refine Nx.sa (fun A2 c2 => ?_))
    | ((with_reducible refine Nx.is_at ?_); first | refine Nx.a ?_ | refine Nx.zd ?_ | refine Nx.zs (fun hc => ?_) (fun hc => ?_))
    | ((with_reducible refine Nx.is_mix ?_); first | refine Nx.m ?_ | refine Nx.zm ?_ | refine Nx.zt (fun hc => ?_) (fun hc => ?_))
    | refine Nx.zx ?_ | fail
  refine Nx.unstop ?_
  obtain ⟨hg, ha, he⟩ := told_q0 hs hV hqs
  revert bx; intro b2
  refine Nx.giveE (A := Am) (c := cm) (qs := qs) (RR := [Blk b2 27 [.slice A l.length c], F]) (by (exact Ent.auto)) fun I1 hI1 hE => ?_
  have hT := RTouched_spec Am cm qs (prod l).toNat I1 hE hg ha
  have hC := RCount_spec A c l I1 (hl.mono hI1) hs
  rw [he, hz.2.2] at hT
  generalize touch (prod l).toNat (eqns (qsOf l rs)) = U at hT
  repeat' first
    | ((with_reducible refine Nx.is_wp ?_); first | refine Nx.wo ?_ | refine Nx.zp (fun hc => ?_) (fun hc => ?_))
    | (refine Nx.zo ?_; first | refine Nx.opr rfl rfl ?_ | refine Nx.callv rfl rfl rfl (by kernel_rfl) rfl hC ?_ | (refine Nx.call (Rpre := []) rfl rfl rfl (by kernel_rfl) rfl hT (Ent.refl _) ?_; rintro _ _ ⟨A2, c2, rfl, rfl⟩) | refine Nx.so ?_ | refine Nx.sb (fun bx => ?_) | refine Nx.sa (fun A2 c2 => ?_))
    | ((with_reducible refine Nx.is_at ?_); first | refine Nx.a ?_ | refine Nx.zd ?_ | refine Nx.zs (fun hc => ?_) (fun hc => ?_))
    | ((with_reducible refine Nx.is_mix ?_); first | refine Nx.m ?_ | refine Nx.zm ?_ | refine Nx.zt (fun hc => ?_) (fun hc => ?_))
    | refine Nx.zx ?_ | fail
  exact Nx.imm_le hI1 (Nx.ret_fn rfl [_] ⟨A2, c2, rfl, rfl⟩ (by (exact Ent.auto)))
end Go.Proofs.YtcmdemfhbekabaaGreat
/- Contracts of functions of the given program, and lemmas about plain lists and numbers: what the laws of this seat lean on. -/
namespace Go.Proofs.YtcmdemfhbekabaaGreat
open Go.Eng Go.Sol
attribute [local irreducible] opK wpList Code.wp Exit.then Exit.inBlock fnPost bodyPost Nx Calls Oper.wp Rd Rds Wr Ent Stars Blk Again Vec FnSpec wpMix QRun Stop Upto wpAt
/-! The reference's Certain and Values -/
/-- Frozen tables. -/
structure Tabs (n : Nat) (S : List (List Int)) (I : PH) (A : Option Addr) (c : Nat) (o : List Row) : Prop where
  rows : RowsOf I A c o
  is : o.map (·.2.2) = S
  len : ∀ s ∈ S, s.length = n
section
variable {n : Nat} {S : List (List Int)} {I : PH} {A : Option Addr} {c : Nat} {o : List Row}
theorem Tabs.mono {I' : PH} (hle : PH.le I I') (h : Tabs n S I A c o) : Tabs n S I' A c o := ⟨h.rows.mono hle, h.is, h.len⟩
theorem Tabs.size (h : Tabs n S I A c o) : o.length = S.length := by rw [← h.is, List.length_map]
theorem Tabs.at (h : Tabs n S I A c o) {j : Nat} (hj : j < o.length) : (o.getD j default).2.2 = S.getD j default := map_at h.is hj
theorem Tabs.lenj (h : Tabs n S I A c o) {j : Nat} (hj : j < o.length) : (o.getD j default).2.2.length = n := by
  rw [h.at hj]; exact h.len _ (getD_in (by rw [← h.size]; exact hj))
theorem Tabs.row (h : Tabs n S I A c o) {j : Nat} (hj : j < o.length) (W : World) (R : List Res) : Rd W I R ((ad A).add (j * 1)) (.slice (o.getD j default).1 n (o.getD j default).2.1) := by
  have := h.rows.outer.rd (W := W) (R := R) (k := j) hj
  unfold rowV at this
  rw [h.lenj hj] at this
  exact this
theorem Tabs.cell (h : Tabs n S I A c o) {j y : Nat} (hj : j < o.length) (hy : y < n) (W : World) (R : List Res) : Rd W I R ((ad (o.getD j default).1).add (y * 1)) (.int .i64 ((S.getD j default).getD y 0)) := by
  rw [← h.at hj]
  exact (h.rows.at hj).rd (k := y) (by rw [h.lenj hj]; exact hy)
theorem Tabs.some (h : Tabs n S I A c o) {j y : Nat} (hj : j < o.length) (hy : y < n) : (o.getD j default).1.isSome = true := (h.rows.at hj).isSome (by rw [h.lenj hj]; omega)
end
def sameK (S : List (List Int)) (y k : Nat) : Bool := (S.take k).all fun s => decide (s.getD y 0 = (S.getD 0 default).getD y 0)
def sameC (S : List (List Int)) (y : Nat) : Bool := sameK S y S.length
theorem sameK_succ {S : List (List Int)} {y k : Nat} (hk : k < S.length) : sameK S y (k + 1) = (sameK S y k && decide ((S.getD k default).getD y 0 = (S.getD 0 default).getD y 0)) := by
  unfold sameK
  rw [List.take_succ_eq_append_getElem hk, List.all_append, List.all_cons, List.all_nil, Bool.and_true, show S.getD k default = S[k] by rw [List.getD_eq_getElem?_getD, List.getElem?_eq_getElem hk]; rfl]
def certS (S : List (List Int)) (U : List Nat) : List Int := natI (U.filter (sameC S))
theorem certS_snoc {S : List (List Int)} {U : List Nat} {k : Nat} (hk : k < U.length) : certS S (U.take (k + 1)) = certS S (U.take k) ++ if sameC S (U.getD k 0) = true then [((U.getD k 0 : Nat) : Int)] else [] := by
  unfold certS natI
  rw [List.take_succ_eq_append_getElem hk, List.filter_append, List.map_append, List.getD_eq_getElem?_getD, List.getElem?_eq_getElem hk]
  congr 1
  show List.map Int.ofNat (List.filter _ [U[k]]) = _
  cases h : sameC S U[k] with
  | true => rw [if_pos (by exact h), List.filter_cons_of_pos h]; rfl
  | false => rw [if_neg (by rw [show ((Option.some U[k]).getD 0) = U[k] from rfl, h]; decide), List.filter_cons_of_neg (by rw [h]; decide)]; rfl
theorem certS_len {S : List (List Int)} (U : List Nat) : (certS S U).length ≤ U.length := by unfold certS natI; rw [List.length_map]; exact List.length_filter_le _ _
theorem certS_is {n : Nat} {L : List Eqn} (hne : solsOf n L ≠ []) (U : List Nat) : certS (solsOf n L) U = certU n L U := by
  unfold certS certU
  congr 1
  refine List.filter_congr fun y _ => ?_
  rw [Bool.eq_iff_iff, decide_eq_true_eq, ← same_vals hne]
  unfold sameC sameK
  rw [List.take_length, List.all_eq_true]
  simp only [decide_eq_true_eq]
set_option maxRecDepth 10000 in
set_option maxHeartbeats 16000000 in
theorem rcertain_spec (A1 A2 : Option Addr) (c1 c2 n : Nat) (S : List (List Int)) (o : List Row) (U : List Nat) (I : PH) (ht : Tabs n S I A1 c1 o) (h9 : S.length ≤ 1000000) (hU : Ints I A2 c2 (natI U)) (hn : ∀ y ∈ U, y < n) (hU9 : U.length ≤ 100000) :
    FnSpec Tryz.prog 91 [.slice A1 o.length c1, .slice A2 U.length c2] I [] (fun v R' => ∃ (A' : Option Addr) (c' : Nat), v = .slice A' (certS S U).length c' ∧ R' = [iR A' c' (certS S U)]) := by
  have hlen := hU.len
  rw [List.length_map] at hlen
  have hsz := ht.size
  refine FnSpec.enterP Tryz.func91 rfl Tryz.ntmps91 rfl fun w F => ?_
  repeat' first
    | ((with_reducible refine Nx.is_wp ?_); first | refine Nx.wo ?_ | refine Nx.zp (fun hc => ?_) (fun hc => ?_))
    | (refine Nx.zo ?_; first | refine Nx.opr rfl rfl ?_ | refine Nx.so ?_ | refine Nx.sb (fun bx => ?_) | refine Nx.sa (fun A2 c2 => ?_))
    | ((with_reducible refine Nx.is_at ?_); first | refine Nx.a ?_ | refine Nx.zd ?_ | refine Nx.zs (fun hc => ?_) (fun hc => ?_))
    | ((with_reducible refine Nx.is_mix ?_); first | refine Nx.m ?_ | refine Nx.zm ?_ | refine Nx.zt (fun hc => ?_) (fun hc => ?_))
    | refine Nx.zx ?_ | fail
  refine Nx.p_loop (σ := Nat × Option Addr × Nat) (fun s => [(0, .slice A1 o.length c1), (5, .slice s.2.1 (certS S (U.take s.1)).length s.2.2), (11, .slice A2 U.length c2), (12, .int .i64 U.length), (13, .int .i64 (s.1 : Int))])
    (fun s => [iR s.2.1 s.2.2 (certS S (U.take s.1)), F]) (fun s => s.1 ≤ U.length) (fun s => U.length - s.1) (0, none, 0) rfl (Nat.zero_le _) ⟨rfl, rfl, rfl, rfl, rfl, trivial⟩ ((Ent.vec_nil 3 1 _).trans (by (exact Ent.auto))) ?_
  rintro ⟨k, A', c'⟩ hk
  dsimp only at hk ⊢
  by_cases hkl : k < U.length
  case neg =>
    rw [List.take_of_length_le (by omega)]
    repeat' first
      | ((with_reducible refine Nx.is_wp ?_); first | refine Nx.wo ?_ | refine Nx.zp (fun hc => ?_) (fun hc => ?_))
      | (refine Nx.zo ?_; first | refine Nx.opr rfl rfl ?_ | refine Nx.so ?_ | refine Nx.sb (fun bx => ?_) | refine Nx.sa (fun A2 c2 => ?_))
      | ((with_reducible refine Nx.is_at ?_); first | refine Nx.a ?_ | refine Nx.zd ?_ | refine Nx.zs (fun hc => ?_) (fun hc => ?_))
      | ((with_reducible refine Nx.is_mix ?_); first | refine Nx.m ?_ | refine Nx.zm ?_ | refine Nx.zt (fun hc => ?_) (fun hc => ?_))
      | refine Nx.zx ?_ | fail
    exact Nx.ret_fn rfl [_] ⟨A', c', rfl, rfl⟩ (by (exact Ent.auto))
  have hyn : U.getD k 0 < n := hn _ (by rw [List.getD_eq_getElem?_getD, List.getElem?_eq_getElem hkl]; exact List.getElem_mem _)
  have hcr : ∀ (W : World) (R : List Res), Rd W I R ((ad A2).add (k * 1)) (.int .i64 ((U.getD k 0 : Nat) : Int)) := fun W R => by
    have h := hU.rd (W := W) (R := R) (k := k) (by rw [List.length_map]; exact hkl)
    rw [nat_at hkl] at h
    exact h
  have hA2 := hU.isSome (by rw [List.length_map]; omega)
  have hsn := certS_snoc (S := S) hkl
  have hcl := certS_len (S := S) (U.take k)
  rw [List.length_take] at hcl
  generalize U.getD k 0 = y at hyn hcr hsn
  generalize certS S (U.take k) = ac at hsn hcl ⊢
  repeat' first
    | ((with_reducible refine Nx.is_wp ?_); first | refine Nx.wo ?_ | refine Nx.zp (fun hc => ?_) (fun hc => ?_))
    | (refine Nx.zo ?_; first | refine Nx.opr rfl rfl ?_ | refine Nx.indexAddr_nat (A := A2) (i := k) (sz := 1) rfl rfl rfl rfl rfl hkl hA2 ?_ | refine Nx.load rfl rfl rfl (hcr _ _) ?_ | refine Nx.so ?_ | refine Nx.sb (fun bx => ?_) | refine Nx.sa (fun A2 c2 => ?_))
    | ((with_reducible refine Nx.is_at ?_); first | refine Nx.a ?_ | refine Nx.zd ?_ | refine Nx.zs (fun hc => ?_) (fun hc => ?_))
    | ((with_reducible refine Nx.is_mix ?_); first | refine Nx.m ?_ | refine Nx.zm ?_ | refine Nx.zt (fun hc => ?_) (fun hc => ?_))
    | refine Nx.zx ?_ | fail
  refine Nx.p_loop (σ := Nat) (fun j => [(0, .slice A1 o.length c1), (5, .slice A' ac.length c'), (7, .int .i64 (y : Int)), (8, .bool (sameK S y j)), (11, .slice A2 U.length c2), (12, .int .i64 U.length), (13, .int .i64 (k : Int)), (17, .slice A1 o.length c1), (18, .int .i64 o.length), (19, .int .i64 (j : Int))])
    (fun _ => [iR A' c' ac, F]) (fun j => j ≤ o.length) (fun j => o.length - j) 0 rfl (Nat.zero_le _) ⟨rfl, rfl, rfl, rfl, rfl, rfl, rfl, rfl, rfl, rfl, trivial⟩ (by (exact Ent.auto)) ?_
  intro j hj
  have hj : j ≤ o.length := hj
  by_cases hjl : j < o.length
  · have hs := sameK_succ (S := S) (y := y) (k := j) (by omega)
    have r1 := ht.row hjl
    have r0 := ht.row (show 0 < o.length by omega)
    have z1 := ht.cell hjl hyn
    have z0 := ht.cell (show 0 < o.length by omega) hyn
    have s1 := ht.some hjl hyn
    have s0 := ht.some (show 0 < o.length by omega) hyn
    have hA1 := ht.rows.outer.isSome (show 0 < o.length by omega)
    generalize (S.getD j default).getD y 0 = q1 at hs z1
    generalize (S.getD 0 default).getD y 0 = q0 at hs z0
    generalize (o.getD j default).1 = x1 at r1 z1 s1
    generalize (o.getD j default).2.1 = d1 at r1
    generalize (o.getD 0 default).1 = x0 at r0 z0 s0
    generalize (o.getD 0 default).2.1 = d0 at r0
    cases hb : sameK S y j with
    | true =>
      rw [hb, Bool.true_and] at hs
      repeat' first
        | ((with_reducible refine Nx.is_wp ?_); first | refine Nx.wo ?_ | refine Nx.p_draw (id := 9) rfl [0, 1, 2, 3, 4, 5, 6, 7, 8, 9, 10, 11, 12, 13, 14] [] _ rfl rfl (by kernel_rfl) (by kernel_rfl) rfl (by repeat first | exact PanicOk.fn | refine PanicOk.then_ ?_ | refine PanicOk.inB ?_) (Ent.refl _) ?_ | refine Nx.zp (fun hc => ?_) (fun hc => ?_))
        | (refine Nx.zo ?_; first | refine Nx.opr rfl rfl ?_ | refine Nx.indexAddr_nat (A := A1) (i := j) (sz := 1) rfl rfl rfl rfl rfl hjl hA1 ?_ | refine Nx.load rfl rfl rfl (r1 _ _) ?_ | refine Nx.so ?_ | refine Nx.sb (fun bx => ?_) | refine Nx.sa (fun A2 c2 => ?_))
        | ((with_reducible refine Nx.is_at ?_); first | refine Nx.a ?_ | refine Nx.zd ?_ | refine Nx.zs (fun hc => ?_) (fun hc => ?_))
        | ((with_reducible refine Nx.is_mix ?_); first | refine Nx.m_quiet rfl rfl rfl rfl rfl (by first | exact QRun.opr rfl | exact QRun.idx (A := x1) (i := y) (sz := 1) rfl rfl rfl rfl hyn s1 | exact QRun.idx (A := A1) (i := 0) (sz := 1) rfl rfl rfl rfl (by omega) hA1 | exact QRun.idx (A := x0) (i := y) (sz := 1) rfl rfl rfl rfl hyn s0 | exact QRun.load rfl rfl (r0 _ _) | exact QRun.load rfl rfl (z1 _ _) | exact QRun.load rfl rfl (z0 _ _)) ?_ | refine Nx.m_quiet_do rfl rfl rfl rfl rfl rfl rfl (by first | exact QRun.opr rfl | exact QRun.idx (A := x1) (i := y) (sz := 1) rfl rfl rfl rfl hyn s1 | exact QRun.idx (A := A1) (i := 0) (sz := 1) rfl rfl rfl rfl (by omega) hA1 | exact QRun.idx (A := x0) (i := y) (sz := 1) rfl rfl rfl rfl hyn s0 | exact QRun.load rfl rfl (r0 _ _) | exact QRun.load rfl rfl (z1 _ _) | exact QRun.load rfl rfl (z0 _ _)) ?_ | refine Nx.m ?_ | refine Nx.zm ?_ | refine Nx.zt (fun hc => ?_) (fun hc => ?_))
        | refine Nx.zx ?_ | fail
      exact Nx.again (j + 1) hjl (by omega) ⟨rfl, rfl, rfl, by rw [hs]; rfl, rfl, rfl, rfl, rfl, rfl, rfl, trivial⟩ (by (exact Ent.auto))
    | false =>
      rw [hb, Bool.false_and] at hs
      repeat' first
        | ((with_reducible refine Nx.is_wp ?_); first | refine Nx.wo ?_ | refine Nx.p_draw (id := 9) rfl [0, 1, 2, 3, 4, 5, 6, 7, 8, 9, 10, 11, 12, 13, 14] [] _ rfl rfl (by kernel_rfl) (by kernel_rfl) rfl (by repeat first | exact PanicOk.fn | refine PanicOk.then_ ?_ | refine PanicOk.inB ?_) (Ent.refl _) ?_ | refine Nx.zp (fun hc => ?_) (fun hc => ?_))
        | (refine Nx.zo ?_; first | refine Nx.opr rfl rfl ?_ | refine Nx.indexAddr_nat (A := A1) (i := j) (sz := 1) rfl rfl rfl rfl rfl hjl hA1 ?_ | refine Nx.load rfl rfl rfl (r1 _ _) ?_ | refine Nx.so ?_ | refine Nx.sb (fun bx => ?_) | refine Nx.sa (fun A2 c2 => ?_))
        | ((with_reducible refine Nx.is_at ?_); first | refine Nx.a ?_ | refine Nx.zd ?_ | refine Nx.zs (fun hc => ?_) (fun hc => ?_))
        | ((with_reducible refine Nx.is_mix ?_); first | refine Nx.m ?_ | refine Nx.zm ?_ | refine Nx.zt (fun hc => ?_) (fun hc => ?_))
        | refine Nx.zx ?_ | fail
      exact Nx.again (j + 1) hjl (by omega) ⟨rfl, rfl, rfl, by rw [hs]; rfl, rfl, rfl, rfl, rfl, rfl, rfl, trivial⟩ (by (exact Ent.auto))
  obtain rfl : j = o.length := by omega
  have hsc : sameK S y o.length = sameC S y := by rw [hsz]; rfl
  rw [hsc]
  cases hb : sameC S y with
  | true =>
    rw [hb, if_pos rfl] at hsn
    repeat' first
      | ((with_reducible refine Nx.is_wp ?_); first | refine Nx.wo ?_ | refine Nx.zp (fun hc => ?_) (fun hc => ?_))
      | (refine Nx.zo ?_; first | refine Nx.opr rfl rfl ?_ | refine Nx.so ?_ | refine Nx.sb (fun bx => ?_) | refine Nx.sa (fun A2 c2 => ?_))
      | ((with_reducible refine Nx.is_at ?_); first | refine Nx.a ?_ | refine Nx.zd ?_ | refine Nx.zs (fun hc => ?_) (fun hc => ?_))
      | ((with_reducible refine Nx.is_mix ?_); first | refine Nx.m ?_ | refine Nx.zm ?_ | refine Nx.zt (fun hc => ?_) (fun hc => ?_))
      | refine Nx.zx ?_ | fail
    refine Nx.again (k + 1, A2, c2) hkl (by dsimp only; omega) ⟨rfl, by dsimp only; rw [hsn, List.length_append]; rfl, rfl, rfl, rfl, trivial⟩ ?_
    dsimp only
    rw [hsn]
    unfold iR
    rw [List.length_append (bs := [_]), List.length_singleton, List.map_append]
    (exact Ent.auto)
  | false =>
    rw [hb, if_neg (by decide), List.append_nil] at hsn
    repeat' first
      | ((with_reducible refine Nx.is_wp ?_); first | refine Nx.wo ?_ | refine Nx.zp (fun hc => ?_) (fun hc => ?_))
      | (refine Nx.zo ?_; first | refine Nx.opr rfl rfl ?_ | refine Nx.so ?_ | refine Nx.sb (fun bx => ?_) | refine Nx.sa (fun A2 c2 => ?_))
      | ((with_reducible refine Nx.is_at ?_); first | refine Nx.a ?_ | refine Nx.zd ?_ | refine Nx.zs (fun hc => ?_) (fun hc => ?_))
      | ((with_reducible refine Nx.is_mix ?_); first | refine Nx.m ?_ | refine Nx.zm ?_ | refine Nx.zt (fun hc => ?_) (fun hc => ?_))
      | refine Nx.zx ?_ | fail
    exact Nx.again (k + 1, A', c') hkl (by dsimp only; omega) ⟨rfl, by dsimp only; rw [hsn]; rfl, rfl, rfl, rfl, trivial⟩ (by dsimp only; rw [hsn]; (exact Ent.auto))
set_option maxRecDepth 10000 in
set_option maxHeartbeats 8000000 in
theorem greatest_spec (A : Option Addr) (c n : Nat) (S : List (List Int)) (o : List Row) (k : Nat) (I : PH) (ht : Tabs n S I A c o) (hk : k < n) :
    FnSpec Tryz.prog 90 [.slice A o.length c, .int .i64 (k : Int)] I [] (fun v R' => v = .int .i64 (greatL S k) ∧ R' = []) := by
  have hsz := ht.size
  have hlen := ht.rows.outer.len
  refine FnSpec.enterP Tryz.func90 rfl Tryz.ntmps90 rfl fun w F => ?_
  repeat' first
    | ((with_reducible refine Nx.is_wp ?_); first | refine Nx.wo ?_ | refine Nx.zp (fun hc => ?_) (fun hc => ?_))
    | (refine Nx.zo ?_; first | refine Nx.opr rfl rfl ?_ | refine Nx.so ?_ | refine Nx.sb (fun bx => ?_) | refine Nx.sa (fun A2 c2 => ?_))
    | ((with_reducible refine Nx.is_at ?_); first | refine Nx.a ?_ | refine Nx.zd ?_ | refine Nx.zs (fun hc => ?_) (fun hc => ?_))
    | ((with_reducible refine Nx.is_mix ?_); first | refine Nx.m ?_ | refine Nx.zm ?_ | refine Nx.zt (fun hc => ?_) (fun hc => ?_))
    | refine Nx.zx ?_ | fail
  refine Nx.p_loop (σ := Nat) (fun j => [(1, .int .i64 (k : Int)), (5, .int .i64 (greatL (S.take j) k)), (8, .slice A o.length c), (9, .int .i64 o.length), (10, .int .i64 (j : Int))])
    (fun _ => [F]) (fun j => j ≤ o.length) (fun j => o.length - j) 0 rfl (Nat.zero_le _) ⟨rfl, rfl, rfl, rfl, rfl, trivial⟩ (by (exact Ent.auto)) ?_
  intro j hj
  have hj : j ≤ o.length := hj
  by_cases hjl : j < o.length
  · have hs : greatL (S.take (j + 1)) k = max (greatL (S.take j) k) ((S.getD j default).getD k 0) := by
      have e : S.getD j default = S[j]'(by omega) := by rw [List.getD_eq_getElem?_getD, List.getElem?_eq_getElem (show j < S.length by omega)]; rfl
      rw [List.take_succ_eq_append_getElem (show j < S.length by omega), great_snoc, e]
    have r1 := ht.row hjl
    have z1 := ht.cell hjl hk
    have s1 := ht.some hjl hk
    have hA1 := ht.rows.outer.isSome (show 0 < o.length by omega)
    generalize (S.getD j default).getD k 0 = q1 at hs z1
    generalize (o.getD j default).1 = x1 at r1 z1 s1
    generalize (o.getD j default).2.1 = d1 at r1
    generalize greatL (S.take j) k = g0 at hs ⊢
    repeat' first
      | ((with_reducible refine Nx.is_wp ?_); first | refine Nx.wo ?_ | refine Nx.zp (fun hc => ?_) (fun hc => ?_))
      | (refine Nx.zo ?_; first | refine Nx.opr rfl rfl ?_ | refine Nx.indexAddr_nat (A := A) (i := j) (sz := 1) rfl rfl rfl rfl rfl hjl hA1 ?_ | refine Nx.load rfl rfl rfl (r1 _ _) ?_ | refine Nx.indexAddr_nat (A := x1) (i := k) (sz := 1) rfl rfl rfl rfl rfl hk s1 ?_ | refine Nx.load rfl rfl rfl (z1 _ _) ?_ | refine Nx.so ?_ | refine Nx.sb (fun bx => ?_) | refine Nx.sa (fun A2 c2 => ?_))
      | ((with_reducible refine Nx.is_at ?_); first | refine Nx.a ?_ | refine Nx.zd ?_ | refine Nx.zs (fun hc => ?_) (fun hc => ?_))
      | ((with_reducible refine Nx.is_mix ?_); first | refine Nx.m ?_ | refine Nx.zm ?_ | refine Nx.zt (fun hc => ?_) (fun hc => ?_))
      | refine Nx.zx ?_ | fail
    exact Nx.again (j + 1) hjl (by omega) ⟨rfl, by rw [hs]; rfl, rfl, rfl, rfl, trivial⟩ (by (exact Ent.auto))
  obtain rfl : j = o.length := by omega
  rw [List.take_of_length_le (by omega)]
  repeat' first
    | ((with_reducible refine Nx.is_wp ?_); first | refine Nx.wo ?_ | refine Nx.zp (fun hc => ?_) (fun hc => ?_))
    | (refine Nx.zo ?_; first | refine Nx.opr rfl rfl ?_ | refine Nx.so ?_ | refine Nx.sb (fun bx => ?_) | refine Nx.sa (fun A2 c2 => ?_))
    | ((with_reducible refine Nx.is_at ?_); first | refine Nx.a ?_ | refine Nx.zd ?_ | refine Nx.zs (fun hc => ?_) (fun hc => ?_))
    | ((with_reducible refine Nx.is_mix ?_); first | refine Nx.m ?_ | refine Nx.zm ?_ | refine Nx.zt (fun hc => ?_) (fun hc => ?_))
    | refine Nx.zx ?_ | fail
  exact Nx.ret_fn rfl [] ⟨rfl, rfl⟩ (by (exact Ent.auto))
end Go.Proofs.YtcmdemfhbekabaaGreat
/- Contracts of functions of the given program, and lemmas about plain lists and numbers: what the laws of this seat lean on. -/
namespace Go.Proofs.YtcmdemfhbekabaaGreat
open Go.Eng Go.Sol
attribute [local irreducible] opK wpList Code.wp Exit.then Exit.inBlock fnPost bodyPost Nx Calls Oper.wp Rd Rds Wr Ent Stars Blk Again Vec FnSpec wpMix QRun Stop Upto wpAt
theorem tol_few {l : List Int} {rs : List Rel} (hs : Sizes l) (hw : ∀ r ∈ rs, Viewed l r.v) (h0 : tolE l rs = 0) :
    (∀ q ∈ qsOf l rs, GoodE (prod l).toNat q) ∧ (solsOf (prod l).toNat (eqns (qsOf l rs))).take 65536 = solsOf (prod l).toNat (eqns (qsOf l rs)) ∧ (solsOf (prod l).toNat (eqns (qsOf l rs))).length ≤ 65536 ∧ (∀ s ∈ solsOf (prod l).toNat (eqns (qsOf l rs)), s.length = (prod l).toNat) ∧
      (∀ y ∈ touch (prod l).toNat (eqns (qsOf l rs)), y < (prod l).toNat) ∧ (touch (prod l).toNat (eqns (qsOf l rs))).length ≤ 48 := by
  have hV := (relsE_iff hs hw).1 (tolE_ok h0).1
  have hz := size_ok hs
  have hg := told_good hs hV
  obtain ⟨_, _, _, hsm⟩ := chk_good (tolE_ok h0).2
  have hf := sols_few hg hsm
  refine ⟨hg, hf, ?_, fun s hs => ((mem_sols hg).1 hs).len, fun y hy => (mem_touch.1 hy).1, Nat.le_trans (touch_len _ _) hz.2.1⟩
  rw [← hf, List.length_take]; omega
theorem map_nil {o : List Row} (h : o.map (·.2.2) = []) : o = [] := List.map_eq_nil_iff.1 h
theorem tabs_of {n : Nat} {S : List (List Int)} {I : PH} {A : Option Addr} {c : Nat} {o : List Row} (h : RowsOf I A c o) (ho : o.map (·.2.2) = S) (hl : ∀ s ∈ S, s.length = n) : Tabs n S I A c o := ⟨h, ho, hl⟩
set_option maxRecDepth 10000 in
set_option maxHeartbeats 16000000 in
theorem RCertain_spec (A As : Option Addr) (c cs : Nat) (l : List Int) (rs : List Rel) (I : PH) (hl : Ints I A c l) (hs : Sizes l) (hr : Rels I As cs rs) (hw : ∀ r ∈ rs, Viewed l r.v) :
    FnSpec Tryz.prog 41 [.agg #[.slice A l.length c], .slice As rs.length cs] I [] (fun u R' => ∃ (A' : Option Addr) (c' : Nat), u = .tuple #[.slice A' (cerD l rs).1.length c', .int .i64 (cerD l rs).2] ∧ R' = [iR A' c' (cerD l rs).1]) := by
  have hT := rtables_spec A As c cs l rs 65536 (by decide) I hl hs hr hw
  rw [show ((65536 : Nat) : Int) = 65536 from rfl] at hT
  unfold RTabs at hT
  have hfw := fun h0 => tol_few (rs := rs) hs hw h0
  have hTo := fun I' (hle : PH.le I I') (h0 : tolE l rs = 0) => rtouched_spec A As c cs l rs I' (hl.mono hle) hs (hr.mono hle) hw (tolE_ok h0).1
  refine FnSpec.enterP Tryz.func41 rfl Tryz.ntmps41 rfl fun w F => ?_
  unfold cerD certF
  by_cases h0 : tolE l rs = 0
  case neg =>
    rw [if_neg h0]
    rw [if_neg h0] at hT
    generalize tolE l rs = er at h0 hT
    repeat' first
      | ((with_reducible refine Nx.is_wp ?_); first | refine Nx.wo ?_ | refine Nx.zp (fun hc => ?_) (fun hc => ?_))
      | (refine Nx.zo ?_; first | refine Nx.opr rfl rfl ?_ | (refine Nx.call (Rpre := []) rfl rfl rfl (by kernel_rfl) rfl hT (Ent.refl _) ?_; rintro _ _ ⟨A2, c2, o, rfl, ho, rfl⟩) | refine Nx.so ?_ | refine Nx.sb (fun bx => ?_) | refine Nx.sa (fun A2 c2 => ?_))
      | ((with_reducible refine Nx.is_at ?_); first | refine Nx.a ?_ | refine Nx.zd ?_ | refine Nx.zs (fun hc => ?_) (fun hc => ?_))
      | ((with_reducible refine Nx.is_mix ?_); first | refine Nx.m ?_ | refine Nx.zm ?_ | refine Nx.zt (fun hc => ?_) (fun hc => ?_))
      | refine Nx.zx ?_ | fail
    exact Nx.ret_fn rfl [_] ⟨none, 0, rfl, rfl⟩ ((Ent.vec_nil 3 1 _).trans (by (exact Ent.auto)))
  obtain ⟨hg, hf, h9, hsl, hUn, hU9⟩ := hfw h0
  rw [if_pos h0]
  rw [if_pos h0, h0, hf] at hT
  have hTo := fun I' (hle : PH.le I I') => hTo I' hle h0
  have hci := fun hne => certS_is (n := (prod l).toNat) (L := eqns (qsOf l rs)) hne (touch (prod l).toNat (eqns (qsOf l rs)))
  unfold certL
  generalize (prod l).toNat = n at h9 hsl hUn hci hf hTo hT hU9 ⊢
  generalize eqns (qsOf l rs) = L at h9 hsl hUn hci hf hTo hT hU9 ⊢
  generalize touch n L = U at hUn hci hTo hU9 ⊢
  by_cases hne : solsOf n L = []
  · rw [if_pos hne]
    rw [hne] at hT
    repeat' first
      | ((with_reducible refine Nx.is_wp ?_); first | refine Nx.wo ?_ | refine Nx.zp (fun hc => ?_) (fun hc => ?_))
      | (refine Nx.zo ?_; first | refine Nx.opr rfl rfl ?_ | (refine Nx.call (Rpre := []) rfl rfl rfl (by kernel_rfl) rfl hT (Ent.refl _) ?_; rintro _ _ ⟨A2, c2, o, rfl, ho, rfl⟩; obtain rfl := map_nil ho) | refine Nx.so ?_ | refine Nx.sb (fun bx => ?_) | refine Nx.sa (fun A2 c2 => ?_))
      | ((with_reducible refine Nx.is_at ?_); first | refine Nx.a ?_ | refine Nx.zd ?_ | refine Nx.zs (fun hc => ?_) (fun hc => ?_))
      | ((with_reducible refine Nx.is_mix ?_); first | refine Nx.m ?_ | refine Nx.zm ?_ | refine Nx.zt (fun hc => ?_) (fun hc => ?_))
      | refine Nx.zx ?_ | fail
    exact Nx.ret_fn rfl [_] ⟨none, 0, rfl, rfl⟩ ((Ent.vec_nil 3 1 _).trans (by (exact Ent.auto)))
  rw [if_neg hne]
  have hci := hci hne
  have hpos : 0 < (solsOf n L).length := List.length_pos_iff.2 hne
  generalize certU n L U = X at hci ⊢
  generalize solsOf n L = S at hT h9 hsl hci hpos
  repeat' first
    | ((with_reducible refine Nx.is_wp ?_); first | refine Nx.p_stopr 4 rfl ?_ | refine Nx.wo ?_ | refine Nx.zp (fun hc => ?_) (fun hc => ?_))
    | (refine Nx.zo ?_; first | refine Nx.opr rfl rfl ?_ | (refine Nx.call (Rpre := []) rfl rfl rfl (by kernel_rfl) rfl hT (Ent.refl _) ?_; rintro _ _ ⟨A2, c2, o, rfl, ho, rfl⟩) | refine Nx.so ?_ | refine Nx.sb (fun bx => ?_) | refine Nx.sa (fun A2 c2 => ?_))
    | ((with_reducible refine Nx.is_at ?_); first | refine Nx.a ?_ | refine Nx.zd ?_ | refine Nx.zs (fun hc => ?_) (fun hc => ?_))
    | ((with_reducible refine Nx.is_mix ?_); first | refine Nx.m ?_ | refine Nx.zm ?_ | refine Nx.zt (fun hc => ?_) (fun hc => ?_))
    | refine Nx.zx ?_ | fail
  refine Nx.unstop ?_
  revert bx; intro b2
  refine Nx.giveRows (A := A2) (c := c2) (o := o) (RR := [Blk b2 27 [.slice A l.length c], F]) (by refine Ent.trans (R' := rowsR A2 c2 o ++ [Blk b2 27 [.slice A l.length c], F]) ?_ Ent.stars; (exact Ent.auto)) fun I1 hI1 hro => ?_
  have hTb := tabs_of hro ho hsl
  have hso := hTb.size
  have hCe := fun (A3 : Option Addr) (c3 : Nat) (m I' : PH) (hle : PH.le I1 I') (hm : PH.le m I') (hv : Stars [iR A3 c3 (natI U)] m) => (by
    obtain ⟨q1, z1, y1⟩ := Stars.get 0 hv rfl
    have := rcertain_spec A2 A3 c2 c3 n S o U I' (hTb.mono hle) (by omega) (Vec.sliceOf (z1.trans hm) y1) hUn (by omega)
    rw [hci] at this
    exact this :
    FnSpec Tryz.prog 91 [.slice A2 o.length c2, .slice A3 U.length c3] I' [] (fun v R' => ∃ (A' : Option Addr) (c' : Nat), v = .slice A' X.length c' ∧ R' = [iR A' c' X]))
  repeat' first
    | ((with_reducible refine Nx.is_wp ?_); first | refine Nx.wo ?_ | refine Nx.zp (fun hc => ?_) (fun hc => ?_))
    | (refine Nx.zo ?_; first | refine Nx.opr rfl rfl ?_ | (refine Nx.call (Rpre := []) rfl rfl rfl (by kernel_rfl) rfl (hTo I1 hI1) (Ent.refl _) ?_; rintro _ _ ⟨A3, c3, rfl, rfl⟩) | (refine Nx.call rfl rfl rfl (by kernel_rfl) rfl (FnSpec.keep [iR _ _ (natI U)] fun m I' hle hm' hv => hCe _ _ m I' hle hm' hv) (by (exact Ent.auto)) ?_; rintro _ _ ⟨_, ⟨A4, c4, rfl, rfl⟩, rfl⟩) | refine Nx.so ?_ | refine Nx.sb (fun bx => ?_) | refine Nx.sa (fun A2 c2 => ?_))
    | ((with_reducible refine Nx.is_at ?_); first | refine Nx.a ?_ | refine Nx.zd ?_ | refine Nx.zs (fun hc => ?_) (fun hc => ?_))
    | ((with_reducible refine Nx.is_mix ?_); first | refine Nx.m ?_ | refine Nx.zm ?_ | refine Nx.zt (fun hc => ?_) (fun hc => ?_))
    | refine Nx.zx ?_ | fail
  exact Nx.imm_le hI1 (Nx.ret_fn rfl [_] ⟨A4, c4, rfl, rfl⟩ (by (exact Ent.auto)))
end Go.Proofs.YtcmdemfhbekabaaGreat
/- Contracts of functions of the given program, and lemmas about plain lists and numbers: what the laws of this seat lean on. -/
namespace Go.Proofs.YtcmdemfhbekabaaGreat
open Go.Eng Go.Sol
attribute [local irreducible] opK wpList Code.wp Exit.then Exit.inBlock fnPost bodyPost Nx Calls Oper.wp Rd Rds Wr Ent Stars Blk Again Vec FnSpec wpMix QRun Stop Upto wpAt
/-! The reference's Values -/
def anyK (S : List (List Int)) (k : Nat) (z : Int) (j : Nat) : Bool := (S.take j).any fun s => decide (s.getD k 0 = z)
theorem anyK_succ {S : List (List Int)} {k j : Nat} {z : Int} (hj : j < S.length) : anyK S k z (j + 1) = (anyK S k z j || decide ((S.getD j default).getD k 0 = z)) := by
  unfold anyK
  rw [List.take_succ_eq_append_getElem hj, List.any_append, List.any_cons, List.any_nil, Bool.or_false, show S.getD j default = S[j] by rw [List.getD_eq_getElem?_getD, List.getElem?_eq_getElem hj]; rfl]
theorem anyK_all {n k : Nat} {L : List Eqn} {z : Int} : anyK (solsOf n L) k z (solsOf n L).length = decide (z ∈ valsOf n L k) := by
  unfold anyK
  rw [List.take_length, Bool.eq_iff_iff, List.any_eq_true, decide_eq_true_eq, (vals_set n L k).mem]
  simp only [decide_eq_true_eq]
set_option maxRecDepth 10000 in
set_option maxHeartbeats 32000000 in
theorem RValues_spec (A As : Option Addr) (c cs : Nat) (l : List Int) (rs : List Rel) (k : Int) (I : PH) (hl : Ints I A c l) (hs : Sizes l) (hr : Rels I As cs rs) (hw : ∀ r ∈ rs, Viewed l r.v) :
    FnSpec Tryz.prog 40 [.agg #[.slice A l.length c], .slice As rs.length cs, .int .i64 k] I [] (fun u R' => ∃ (A' : Option Addr) (c' : Nat), u = .tuple #[.slice A' (valD l rs k).1.length c', .int .i64 (valD l rs k).2] ∧ R' = [iR A' c' (valD l rs k).1]) := by
  have hT := rtables_spec A As c cs l rs 65536 (by decide) I hl hs hr hw
  rw [show ((65536 : Nat) : Int) = 65536 from rfl] at hT
  unfold RTabs at hT
  have hfw := fun h0 => tol_few (rs := rs) hs hw h0
  have hTo := fun I' (hle : PH.le I I') (h0 : tolE l rs = 0) => rtouched_spec A As c cs l rs I' (hl.mono hle) hs (hr.mono hle) hw (tolE_ok h0).1
  have hz := size_ok hs
  have hC := fun I' (hle : PH.le I I') => RCount_spec A c l I' (hl.mono hle) hs
  refine FnSpec.enterP Tryz.func40 rfl Tryz.ntmps40 rfl fun w F => ?_
  unfold valD valF
  by_cases h0 : tolE l rs = 0
  case neg =>
    rw [if_neg h0]
    rw [if_neg h0] at hT
    generalize tolE l rs = er at h0 hT
    repeat' first
      | ((with_reducible refine Nx.is_wp ?_); first | refine Nx.wo ?_ | refine Nx.zp (fun hc => ?_) (fun hc => ?_))
      | (refine Nx.zo ?_; first | refine Nx.opr rfl rfl ?_ | (refine Nx.call (Rpre := []) rfl rfl rfl (by kernel_rfl) rfl hT (Ent.refl _) ?_; rintro _ _ ⟨A2, c2, o, rfl, ho, rfl⟩) | refine Nx.so ?_ | refine Nx.sb (fun bx => ?_) | refine Nx.sa (fun A2 c2 => ?_))
      | ((with_reducible refine Nx.is_at ?_); first | refine Nx.a ?_ | refine Nx.zd ?_ | refine Nx.zs (fun hc => ?_) (fun hc => ?_))
      | ((with_reducible refine Nx.is_mix ?_); first | refine Nx.m ?_ | refine Nx.zm ?_ | refine Nx.zt (fun hc => ?_) (fun hc => ?_))
      | refine Nx.zx ?_ | fail
    exact Nx.ret_fn rfl [_] ⟨none, 0, rfl, rfl⟩ ((Ent.vec_nil 3 1 _).trans (by (exact Ent.auto)))
  obtain ⟨hg, hf, h9, hsl, hUn, hU9⟩ := hfw h0
  rw [if_pos h0]
  rw [if_pos h0, h0, hf] at hT
  have hTo := fun I' (hle : PH.le I I') => hTo I' hle h0
  have hpos := fun (s : List Int) (hs : s ∈ solsOf (prod l).toNat (eqns (qsOf l rs))) (y : Nat) (hy : y ∈ touch (prod l).toNat (eqns (qsOf l rs))) => ((mem_sols hg).1 hs).pos y hy
  obtain ⟨n, hn⟩ : ∃ n, n = (prod l).toNat := ⟨_, rfl⟩
  rw [← hn] at hz hpos hsl hUn hf hTo hT hU9 h9 ⊢
  obtain ⟨hz1, hz2, hz3⟩ := hz
  rw [← hz3] at hC
  clear hn
  by_cases hrg : k < 0 ∨ (n : Int) ≤ k
  · rw [if_pos hrg]
    rcases hrg with hk | hk
    · repeat' first
        | ((with_reducible refine Nx.is_wp ?_); first | refine Nx.wo ?_ | refine Nx.zp (fun hc => ?_) (fun hc => ?_))
        | (refine Nx.zo ?_; first | refine Nx.opr rfl rfl ?_ | (refine Nx.call (Rpre := []) rfl rfl rfl (by kernel_rfl) rfl hT (Ent.refl _) ?_; rintro _ _ ⟨A2, c2, o, rfl, ho, rfl⟩) | refine Nx.so ?_ | refine Nx.sb (fun bx => ?_) | refine Nx.sa (fun A2 c2 => ?_))
        | ((with_reducible refine Nx.is_at ?_); first | refine Nx.a ?_ | refine Nx.zd ?_ | refine Nx.zs (fun hc => ?_) (fun hc => ?_))
        | ((with_reducible refine Nx.is_mix ?_); first | refine Nx.m ?_ | refine Nx.zm ?_ | refine Nx.zt (fun hc => ?_) (fun hc => ?_))
        | refine Nx.zx ?_ | fail
      exact Nx.ret_fn rfl [_] ⟨none, 0, rfl, rfl⟩ ((Ent.vec_nil 3 1 _).trans (by (exact Ent.auto)))
    · repeat' first
        | ((with_reducible refine Nx.is_wp ?_); first | refine Nx.wo ?_ | refine Nx.zp (fun hc => ?_) (fun hc => ?_))
        | (refine Nx.zo ?_; first | refine Nx.opr rfl rfl ?_ | (refine Nx.call (Rpre := []) rfl rfl rfl (by kernel_rfl) rfl hT (Ent.refl _) ?_; rintro _ _ ⟨A2, c2, o, rfl, ho, rfl⟩) | refine Nx.callv rfl rfl rfl (by kernel_rfl) rfl (hC I (PH.le_refl _)) ?_ | refine Nx.so ?_ | refine Nx.sb (fun bx => ?_) | refine Nx.sa (fun A2 c2 => ?_))
        | ((with_reducible refine Nx.is_at ?_); first | refine Nx.a ?_ | refine Nx.zd ?_ | refine Nx.zs (fun hc => ?_) (fun hc => ?_))
        | ((with_reducible refine Nx.is_mix ?_); first | refine Nx.m ?_ | refine Nx.zm ?_ | refine Nx.zt (fun hc => ?_) (fun hc => ?_))
        | refine Nx.zx ?_ | fail
      exact Nx.ret_fn rfl [_] ⟨none, 0, rfl, rfl⟩ ((Ent.vec_nil 3 1 _).trans (by (exact Ent.auto)))
  rw [if_neg hrg]
  obtain ⟨K, rfl, hK⟩ : ∃ K : Nat, k = K ∧ K < n := ⟨k.toNat, by omega, by omega⟩
  rw [Int.toNat_natCast]
  generalize eqns (qsOf l rs) = L at h9 hsl hUn hf hTo hT hU9 hpos ⊢
  by_cases hne : solsOf n L = []
  · rw [if_pos hne]
    rw [hne] at hT
    repeat' first
      | ((with_reducible refine Nx.is_wp ?_); first | refine Nx.wo ?_ | refine Nx.zp (fun hc => ?_) (fun hc => ?_))
      | (refine Nx.zo ?_; first | refine Nx.opr rfl rfl ?_ | (refine Nx.call (Rpre := []) rfl rfl rfl (by kernel_rfl) rfl hT (Ent.refl _) ?_; rintro _ _ ⟨A2, c2, o, rfl, ho, rfl⟩; obtain rfl := map_nil ho) | refine Nx.callv rfl rfl rfl (by kernel_rfl) rfl (hC I (PH.le_refl _)) ?_ | refine Nx.so ?_ | refine Nx.sb (fun bx => ?_) | refine Nx.sa (fun A2 c2 => ?_))
      | ((with_reducible refine Nx.is_at ?_); first | refine Nx.a ?_ | refine Nx.zd ?_ | refine Nx.zs (fun hc => ?_) (fun hc => ?_))
      | ((with_reducible refine Nx.is_mix ?_); first | refine Nx.m ?_ | refine Nx.zm ?_ | refine Nx.zt (fun hc => ?_) (fun hc => ?_))
      | refine Nx.zx ?_ | fail
    exact Nx.ret_fn rfl [_] ⟨none, 0, rfl, rfl⟩ ((Ent.vec_nil 3 1 _).trans (by (exact Ent.auto)))
  rw [if_neg hne]
  have hSp : 0 < (solsOf n L).length := List.length_pos_iff.2 hne
  have hup := fun (h : ∀ s ∈ solsOf n L, 0 ≤ s.getD K 0 ∧ s.getD K 0 < (((greatL (solsOf n L) K).toNat + 1 : Nat) : Int)) => upto_all (n := n) (k := K) (g := (greatL (solsOf n L) K).toNat + 1) (L := L) h
  have hge := great_ge (solsOf n L) K 0
  have hmemU : K ∈ touch n L ↔ (K : Int) ∈ natI (touch n L) := by
    rw [List.mem_map]
    exact ⟨fun h => ⟨K, h, rfl⟩, fun ⟨j, hj, he⟩ => by have : j = K := Int.ofNat.inj he; rw [← this]; exact hj⟩
  have hGb := fun (hto : K ∈ touch n L) => great_bd (S := solsOf n L) (k := K) fun s hs => (hpos s hs K hto).2
  have hup := fun (hto : K ∈ touch n L) => hup fun s hs => ⟨(hpos s hs K hto).1, by
    have h1 := hge.2 s hs
    have h2 : 0 ≤ greatL (solsOf n L) K := hge.1
    have h3 : s.getD K 0 ≤ greatL (solsOf n L) K := h1
    omega⟩
  have hak := fun z => anyK_all (n := n) (k := K) (L := L) (z := z)
  generalize touch n L = U at hUn hTo hU9 hmemU hGb hup ⊢
  generalize solsOf n L = S at hT h9 hsl hSp hGb hup hak
  repeat' first
    | ((with_reducible refine Nx.is_wp ?_); first | refine Nx.p_stopr 6 rfl ?_ | refine Nx.wo ?_ | refine Nx.zp (fun hc => ?_) (fun hc => ?_))
    | (refine Nx.zo ?_; first | refine Nx.opr rfl rfl ?_ | (refine Nx.call (Rpre := []) rfl rfl rfl (by kernel_rfl) rfl hT (Ent.refl _) ?_; rintro _ _ ⟨A2, c2, o, rfl, ho, rfl⟩) | refine Nx.callv rfl rfl rfl (by kernel_rfl) rfl (hC I (PH.le_refl _)) ?_ | refine Nx.so ?_ | refine Nx.sb (fun bx => ?_) | refine Nx.sa (fun A2 c2 => ?_))
    | ((with_reducible refine Nx.is_at ?_); first | refine Nx.a ?_ | refine Nx.zd ?_ | refine Nx.zs (fun hc => ?_) (fun hc => ?_))
    | ((with_reducible refine Nx.is_mix ?_); first | refine Nx.m ?_ | refine Nx.zm ?_ | refine Nx.zt (fun hc => ?_) (fun hc => ?_))
    | refine Nx.zx ?_ | fail
  refine Nx.unstop ?_
  revert bx; intro b3
  refine Nx.giveRows (A := A2) (c := c2) (o := o) (RR := [Blk b3 27 [.slice A l.length c], F]) (by refine Ent.trans (R' := rowsR A2 c2 o ++ [Blk b3 27 [.slice A l.length c], F]) ?_ Ent.stars; (exact Ent.auto)) fun I1 hI1 hro => ?_
  have hTb := tabs_of hro ho hsl
  have hso := hTb.size
  repeat' first
    | ((with_reducible refine Nx.is_wp ?_); first | refine Nx.wo ?_ | refine Nx.zp (fun hc => ?_) (fun hc => ?_))
    | (refine Nx.zo ?_; first | refine Nx.opr rfl rfl ?_ | (refine Nx.call (Rpre := []) rfl rfl rfl (by kernel_rfl) rfl (hTo I1 hI1) (Ent.refl _) ?_; rintro _ _ ⟨A3, c3, rfl, rfl⟩) | refine Nx.so ?_ | refine Nx.sb (fun bx => ?_) | refine Nx.sa (fun A2 c2 => ?_))
    | ((with_reducible refine Nx.is_at ?_); first | refine Nx.a ?_ | refine Nx.zd ?_ | refine Nx.zs (fun hc => ?_) (fun hc => ?_))
    | ((with_reducible refine Nx.is_mix ?_); first | refine Nx.m ?_ | refine Nx.zm ?_ | refine Nx.zt (fun hc => ?_) (fun hc => ?_))
    | refine Nx.zx ?_ | fail
  refine Nx.ent (R' := [iR A3 c3 (natI U), F]) (by (exact Ent.auto)) ?_
  refine Nx.freezeAt 0 rfl fun I2 m2 hI2 hm2 h2 => ?_
  have hU : Ints I2 A3 c3 (natI U) := Vec.sliceOf hm2 h2
  replace hTb := hTb.mono hI2
  refine Nx.p_loop (σ := Nat × Bool) (fun q => [(2, .int .i64 (K : Int)), (8, .slice A2 o.length c2), (10, .bool q.2), (40, .slice A3 U.length c3), (41, .int .i64 U.length), (42, .int .i64 (q.1 : Int))])
    (fun _ => [F]) (fun q => q.1 ≤ U.length ∧ (q.2 = true ↔ ∃ j, j < q.1 ∧ (natI U).getD j default = (K : Int))) (fun q => U.length - q.1) (0, false) rfl ⟨Nat.zero_le _, ⟨(fun h => nomatch h), (fun ⟨j, hj, _⟩ => absurd hj (Nat.not_lt_zero _))⟩⟩ ⟨rfl, rfl, rfl, rfl, rfl, rfl, trivial⟩ (by (exact Ent.auto)) ?_
  rintro ⟨j, f⟩ ⟨hj, hff⟩
  dsimp only at hj hff ⊢
  have hUl : (natI U).length = U.length := List.length_map _
  by_cases hjl : j < U.length
  · have hnew : ∀ f' : Bool, (f' = true ↔ f = true ∨ (natI U).getD j default = (K : Int)) → (f' = true ↔ ∃ i, i < j + 1 ∧ (natI U).getD i default = (K : Int)) := fun f' h => by
      rw [h, hff]
      constructor
      · rintro (⟨i, hi, h6⟩ | h6)
        · exact ⟨i, by omega, h6⟩
        · exact ⟨j, by omega, h6⟩
      · rintro ⟨i, hi, h6⟩
        rcases Nat.lt_or_ge i j with hij | hij
        · exact .inl ⟨i, hij, h6⟩
        · rw [show i = j by omega] at h6
          exact .inr h6
    have hrd : ∀ (W : World) (R : List Res), Rd W I2 R ((ad A3).add (j * 1)) (.int .i64 ((natI U).getD j default)) := fun W R => hU.rd (by omega)
    have hA3 := hU.isSome (by omega)
    generalize (natI U).getD j default = y at hnew hrd
    cases f with
    | true =>
      repeat' first
        | ((with_reducible refine Nx.is_wp ?_); first | refine Nx.wo ?_ | refine Nx.zp (fun hc => ?_) (fun hc => ?_))
        | (refine Nx.zo ?_; first | refine Nx.opr rfl rfl ?_ | refine Nx.indexAddr_nat (A := A3) (i := j) (sz := 1) rfl rfl rfl rfl rfl hjl hA3 ?_ | refine Nx.load rfl rfl rfl (hrd _ _) ?_ | refine Nx.so ?_ | refine Nx.sb (fun bx => ?_) | refine Nx.sa (fun A2 c2 => ?_))
        | ((with_reducible refine Nx.is_at ?_); first | refine Nx.a ?_ | refine Nx.zd ?_ | refine Nx.zs (fun hc => ?_) (fun hc => ?_))
        | ((with_reducible refine Nx.is_mix ?_); first | refine Nx.m ?_ | refine Nx.zm ?_ | refine Nx.zt (fun hc => ?_) (fun hc => ?_))
        | refine Nx.zx ?_ | fail
      exact Nx.again (j + 1, true) ⟨hjl, hnew true ⟨fun _ => .inl rfl, fun _ => rfl⟩⟩ (by dsimp only; omega) ⟨rfl, rfl, rfl, rfl, rfl, rfl, trivial⟩ (by (exact Ent.auto))
    | false =>
      repeat' first
        | ((with_reducible refine Nx.is_wp ?_); first | refine Nx.wo ?_ | refine Nx.zp (fun hc => ?_) (fun hc => ?_))
        | (refine Nx.zo ?_; first | refine Nx.opr rfl rfl ?_ | refine Nx.indexAddr_nat (A := A3) (i := j) (sz := 1) rfl rfl rfl rfl rfl hjl hA3 ?_ | refine Nx.load rfl rfl rfl (hrd _ _) ?_ | refine Nx.so ?_ | refine Nx.sb (fun bx => ?_) | refine Nx.sa (fun A2 c2 => ?_))
        | ((with_reducible refine Nx.is_at ?_); first | refine Nx.a ?_ | refine Nx.zd ?_ | refine Nx.zs (fun hc => ?_) (fun hc => ?_))
        | ((with_reducible refine Nx.is_mix ?_); first | refine Nx.m ?_ | refine Nx.zm ?_ | refine Nx.zt (fun hc => ?_) (fun hc => ?_))
        | refine Nx.zx ?_ | fail
      exact Nx.again (j + 1, decide (y = (K : Int))) ⟨hjl, hnew _ ⟨fun h => .inr (of_decide_eq_true h), fun h => decide_eq_true (h.elim (fun h => nomatch h) id)⟩⟩ (by dsimp only; omega) ⟨rfl, rfl, rfl, rfl, rfl, rfl, trivial⟩ (by (exact Ent.auto))
  obtain rfl : j = U.length := by omega
  have hfm : f = true ↔ K ∈ U := by
    rw [hff, hmemU]
    exact ⟨fun ⟨i, hi, he⟩ => he ▸ getD_memI (by omega), fun h => by obtain ⟨i, hi, he⟩ := mem_getDI h; exact ⟨i, by omega, he⟩⟩
  by_cases hto : K ∈ U
  case neg =>
    obtain rfl : f = false := by cases f with
      | false => rfl
      | true => exact absurd (hfm.1 rfl) hto
    rw [if_neg hto]
    repeat' first
      | ((with_reducible refine Nx.is_wp ?_); first | refine Nx.wo ?_ | refine Nx.zp (fun hc => ?_) (fun hc => ?_))
      | (refine Nx.zo ?_; first | refine Nx.opr rfl rfl ?_ | refine Nx.so ?_ | refine Nx.sb (fun bx => ?_) | refine Nx.sa (fun A2 c2 => ?_))
      | ((with_reducible refine Nx.is_at ?_); first | refine Nx.a ?_ | refine Nx.zd ?_ | refine Nx.zs (fun hc => ?_) (fun hc => ?_))
      | ((with_reducible refine Nx.is_mix ?_); first | refine Nx.m ?_ | refine Nx.zm ?_ | refine Nx.zt (fun hc => ?_) (fun hc => ?_))
      | refine Nx.zx ?_ | fail
    exact Nx.imm_le (hI1.trans hI2) (Nx.ret_fn rfl [_] ⟨none, 0, rfl, rfl⟩ ((Ent.vec_nil 3 1 _).trans (by (exact Ent.auto))))
  obtain rfl := hfm.2 hto
  rw [if_pos hto]
  have hup := hup hto
  have hGb := hGb hto
  have hG := fun I' (hle : PH.le I2 I') => greatest_spec A2 c2 n S o K I' (hTb.mono hle) hK
  have hG0 : ((greatL S K).toNat : Int) = greatL S K := by omega
  rw [← hG0] at hG
  generalize (greatL S K).toNat = G at hup hG hG0
  have hG9 : G ≤ 1000000 := by omega
  clear hmemU hff hfm hTo hC
  rw [← hup]
  repeat' first
    | ((with_reducible refine Nx.is_wp ?_); first | refine Nx.wo ?_ | refine Nx.zp (fun hc => ?_) (fun hc => ?_))
    | (refine Nx.zo ?_; first | refine Nx.opr rfl rfl ?_ | refine Nx.so ?_ | refine Nx.sb (fun bx => ?_) | refine Nx.sa (fun A2 c2 => ?_))
    | ((with_reducible refine Nx.is_at ?_); first | refine Nx.a ?_ | refine Nx.zd ?_ | refine Nx.zs (fun hc => ?_) (fun hc => ?_))
    | ((with_reducible refine Nx.is_mix ?_); first | refine Nx.m ?_ | refine Nx.zm ?_ | refine Nx.zt (fun hc => ?_) (fun hc => ?_))
    | refine Nx.zx ?_ | fail
  refine Nx.p_loop (σ := Nat × Option Addr × Nat) (fun s => [(2, .int .i64 (K : Int)), (8, .slice A2 o.length c2), (13, .slice s.2.1 (uptoL n L K s.1).length s.2.2), (14, .int .i64 (s.1 : Int))])
    (fun s => [iR s.2.1 s.2.2 (uptoL n L K s.1), F]) (fun s => s.1 ≤ G + 1) (fun s => G + 1 - s.1) (0, none, 0) rfl (Nat.zero_le _) ⟨rfl, rfl, rfl, rfl, trivial⟩ ((Ent.vec_nil 3 1 _).trans (by (exact Ent.auto))) ?_
  rintro ⟨z, A', c'⟩ hz
  dsimp only at hz ⊢
  by_cases hzG : z ≤ G
  case neg =>
    obtain rfl : z = G + 1 := by omega
    repeat' first
      | ((with_reducible refine Nx.is_wp ?_); first | refine Nx.wo ?_ | refine Nx.zp (fun hc => ?_) (fun hc => ?_))
      | (refine Nx.zo ?_; first | refine Nx.opr rfl rfl ?_ | refine Nx.callv rfl rfl rfl (by kernel_rfl) rfl (hG I2 (PH.le_refl _)) ?_ | refine Nx.so ?_ | refine Nx.sb (fun bx => ?_) | refine Nx.sa (fun A2 c2 => ?_))
      | ((with_reducible refine Nx.is_at ?_); first | refine Nx.a ?_ | refine Nx.zd ?_ | refine Nx.zs (fun hc => ?_) (fun hc => ?_))
      | ((with_reducible refine Nx.is_mix ?_); first | refine Nx.m ?_ | refine Nx.zm ?_ | refine Nx.zt (fun hc => ?_) (fun hc => ?_))
      | refine Nx.zx ?_ | fail
    exact Nx.imm_le (hI1.trans hI2) (Nx.ret_fn rfl [_] ⟨A', c', rfl, rfl⟩ (by (exact Ent.auto)))
  have hsn := upto_succ n L K z
  have hzl := upto_len n L K z
  have hakz := hak z
  generalize uptoL n L K z = ac at hsn hzl ⊢
  repeat' first
    | ((with_reducible refine Nx.is_wp ?_); first | refine Nx.wo ?_ | refine Nx.zp (fun hc => ?_) (fun hc => ?_))
    | (refine Nx.zo ?_; first | refine Nx.opr rfl rfl ?_ | refine Nx.callv rfl rfl rfl (by kernel_rfl) rfl (hG I2 (PH.le_refl _)) ?_ | refine Nx.so ?_ | refine Nx.sb (fun bx => ?_) | refine Nx.sa (fun A2 c2 => ?_))
    | ((with_reducible refine Nx.is_at ?_); first | refine Nx.a ?_ | refine Nx.zd ?_ | refine Nx.zs (fun hc => ?_) (fun hc => ?_))
    | ((with_reducible refine Nx.is_mix ?_); first | refine Nx.m ?_ | refine Nx.zm ?_ | refine Nx.zt (fun hc => ?_) (fun hc => ?_))
    | refine Nx.zx ?_ | fail
  refine Nx.p_loop (σ := Nat) (fun j => [(2, .int .i64 (K : Int)), (8, .slice A2 o.length c2), (13, .slice A' ac.length c'), (14, .int .i64 (z : Int)), (15, .bool (anyK S K z j)), (62, .slice A2 o.length c2), (63, .int .i64 o.length), (64, .int .i64 (j : Int))])
    (fun _ => [iR A' c' ac, F]) (fun j => j ≤ o.length) (fun j => o.length - j) 0 rfl (Nat.zero_le _) ⟨rfl, rfl, rfl, rfl, rfl, rfl, rfl, rfl, trivial⟩ (by (exact Ent.auto)) ?_
  intro j hj
  have hj : j ≤ o.length := hj
  by_cases hjl : j < o.length
  · have hs := anyK_succ (S := S) (k := K) (z := z) (j := j) (by omega)
    have r1 := hTb.row hjl
    have z1 := hTb.cell hjl hK
    have s1 := hTb.some hjl hK
    have hA1 := hTb.rows.outer.isSome (show 0 < o.length by omega)
    generalize (S.getD j default).getD K 0 = q1 at hs z1
    generalize (o.getD j default).1 = x1 at r1 z1 s1
    generalize (o.getD j default).2.1 = d1 at r1
    cases hb : anyK S K z j with
    | true =>
      rw [hb, Bool.true_or] at hs
      repeat' first
        | ((with_reducible refine Nx.is_wp ?_); first | refine Nx.wo ?_ | refine Nx.zp (fun hc => ?_) (fun hc => ?_))
        | (refine Nx.zo ?_; first | refine Nx.opr rfl rfl ?_ | refine Nx.indexAddr_nat (A := A2) (i := j) (sz := 1) rfl rfl rfl rfl rfl hjl hA1 ?_ | refine Nx.load rfl rfl rfl (r1 _ _) ?_ | refine Nx.so ?_ | refine Nx.sb (fun bx => ?_) | refine Nx.sa (fun A2 c2 => ?_))
        | ((with_reducible refine Nx.is_at ?_); first | refine Nx.a ?_ | refine Nx.zd ?_ | refine Nx.zs (fun hc => ?_) (fun hc => ?_))
        | ((with_reducible refine Nx.is_mix ?_); first | refine Nx.m ?_ | refine Nx.zm ?_ | refine Nx.zt (fun hc => ?_) (fun hc => ?_))
        | refine Nx.zx ?_ | fail
      exact Nx.again (j + 1) hjl (by omega) ⟨rfl, rfl, rfl, rfl, by rw [hs]; rfl, rfl, rfl, rfl, trivial⟩ (by (exact Ent.auto))
    | false =>
      rw [hb, Bool.false_or] at hs
      repeat' first
        | ((with_reducible refine Nx.is_wp ?_); first | refine Nx.wo ?_ | refine Nx.zp (fun hc => ?_) (fun hc => ?_))
        | (refine Nx.zo ?_; first | refine Nx.opr rfl rfl ?_ | refine Nx.indexAddr_nat (A := A2) (i := j) (sz := 1) rfl rfl rfl rfl rfl hjl hA1 ?_ | refine Nx.load rfl rfl rfl (r1 _ _) ?_ | refine Nx.indexAddr_nat (A := x1) (i := K) (sz := 1) rfl rfl rfl rfl rfl hK s1 ?_ | refine Nx.load rfl rfl rfl (z1 _ _) ?_ | refine Nx.so ?_ | refine Nx.sb (fun bx => ?_) | refine Nx.sa (fun A2 c2 => ?_))
        | ((with_reducible refine Nx.is_at ?_); first | refine Nx.a ?_ | refine Nx.zd ?_ | refine Nx.zs (fun hc => ?_) (fun hc => ?_))
        | ((with_reducible refine Nx.is_mix ?_); first | refine Nx.m ?_ | refine Nx.zm ?_ | refine Nx.zt (fun hc => ?_) (fun hc => ?_))
        | refine Nx.zx ?_ | fail
      exact Nx.again (j + 1) hjl (by omega) ⟨rfl, rfl, rfl, rfl, by rw [hs]; rfl, rfl, rfl, rfl, trivial⟩ (by (exact Ent.auto))
  obtain rfl : j = o.length := by omega
  rw [hso, hakz]
  by_cases hzv : (z : Int) ∈ valsOf n L K
  · rw [if_pos hzv] at hsn
    rw [decide_eq_true hzv]
    repeat' first
      | ((with_reducible refine Nx.is_wp ?_); first | refine Nx.wo ?_ | refine Nx.zp (fun hc => ?_) (fun hc => ?_))
      | (refine Nx.zo ?_; first | refine Nx.opr rfl rfl ?_ | refine Nx.so ?_ | refine Nx.sb (fun bx => ?_) | refine Nx.sa (fun A2 c2 => ?_))
      | ((with_reducible refine Nx.is_at ?_); first | refine Nx.a ?_ | refine Nx.zd ?_ | refine Nx.zs (fun hc => ?_) (fun hc => ?_))
      | ((with_reducible refine Nx.is_mix ?_); first | refine Nx.m ?_ | refine Nx.zm ?_ | refine Nx.zt (fun hc => ?_) (fun hc => ?_))
      | refine Nx.zx ?_ | fail
    refine Nx.again (z + 1, A2, c2) (by dsimp only; omega) (by dsimp only; omega) ⟨rfl, rfl, by dsimp only; rw [hsn, List.length_append]; rfl, rfl, trivial⟩ ?_
    dsimp only
    rw [hsn]
    unfold iR
    rw [List.length_append (bs := [_]), List.length_singleton, List.map_append]
    (exact Ent.auto)
  · rw [if_neg hzv, List.append_nil] at hsn
    rw [decide_eq_false hzv]
    repeat' first
      | ((with_reducible refine Nx.is_wp ?_); first | refine Nx.wo ?_ | refine Nx.zp (fun hc => ?_) (fun hc => ?_))
      | (refine Nx.zo ?_; first | refine Nx.opr rfl rfl ?_ | refine Nx.so ?_ | refine Nx.sb (fun bx => ?_) | refine Nx.sa (fun A2 c2 => ?_))
      | ((with_reducible refine Nx.is_at ?_); first | refine Nx.a ?_ | refine Nx.zd ?_ | refine Nx.zs (fun hc => ?_) (fun hc => ?_))
      | ((with_reducible refine Nx.is_mix ?_); first | refine Nx.m ?_ | refine Nx.zm ?_ | refine Nx.zt (fun hc => ?_) (fun hc => ?_))
      | refine Nx.zx ?_ | fail
    exact Nx.again (z + 1, A', c') (by dsimp only; omega) (by dsimp only; omega) ⟨rfl, rfl, by dsimp only; rw [hsn]; rfl, rfl, trivial⟩ (by dsimp only; rw [hsn]; (exact Ent.auto))
end Go.Proofs.YtcmdemfhbekabaaGreat
