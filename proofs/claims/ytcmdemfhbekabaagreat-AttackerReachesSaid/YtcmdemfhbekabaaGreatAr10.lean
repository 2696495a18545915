/-
  The proof engine, part I: the end of an owned list is cleared.
-/
import Derived.Test.YtcmdemfhbekabaaGreatAr9
namespace Go.Eng
theorem setsAt_some : ∀ (vs cs : List Value) (i : Nat), i + vs.length ≤ cs.length → ∃ cs', setsAt cs i vs = some cs' ∧ cs'.length = cs.length ∧ cs'.take i = cs.take i
  | [], cs, i, _ => ⟨cs, rfl, rfl, rfl⟩
  | v :: vs, cs, i, h => by
    simp only [List.length_cons] at h
    have hset : ∀ (cs : List Value) (i : Nat), i < cs.length → setAt cs i v = some (cs.set i v) := by
      intro cs
      induction cs with
      | nil => intro i hi; simp at hi
      | cons c r ih =>
        intro i hi
        cases i with
        | zero => rfl
        | succ i =>
          simp only [setAt]
          rw [ih i (by simpa using hi)]
          rfl
    obtain ⟨cs', h1, h2, h3⟩ := setsAt_some vs (cs.set i v) (i + 1) (by rw [List.length_set]; omega)
    refine ⟨cs', ?_, by rw [h2, List.length_set], ?_⟩
    · unfold setsAt
      rw [hset cs i (by omega)]
      exact h1
    · have := congrArg (List.take i) h3
      rw [List.take_take, List.take_take, Nat.min_eq_left (by omega), List.take_set_of_le (Nat.le_refl _)] at this
      exact this
section
variable {C : Cx} {e : Env} {I : PH} {R : List Res} {K : Act → World → Prop} {Q : Exit → Act → World → Prop}
variable {ty t el : TypeId} {pos : String} {after : Array Edge} {g : Option (Nat × Bool)} {x : Operand} {A : Option Addr} {n c k : Nat}
theorem Nx.clear_tail {tys : Array TypeId} {xs : List Value} {z : Value} (hx : evo e x = some (.slice (offA A c k 1) (n - k) (c - k))) (hty : tys = #[t]) (ht : C.P.underlying t = some (.slice el)) (hz : ∀ w, (zeroValue el).run C.P w = .ok z w)
    (h1 : z.oneCell' = true) (hzc : z.cells = #[z]) (hk : k ≤ n) (h : Nx C e I (Vec el 1 A k c (xs.take k) :: R) K) : Nx C e I (Vec el 1 A n c xs :: R) (opK C.P ⟨none, .call { callee := .builtin .clear, args := #[x], argTypes := tys }, ty, pos, after, g⟩ K Q) := by
  subst hty
  intro a w ha hw
  have hrunb : ∀ w', (Builtin.clear_ #[t] ty #[.slice (offA A c k 1) (n - k) (c - k)]).run C.P w = .ok (.tuple #[]) w' → (execOp a.eval ⟨none, .call { callee := .builtin .clear, args := #[x], argTypes := #[t] }, ty, pos, after, g⟩).run C.P w = .ok (.value (.tuple #[])) w' := fun w' hr => by
    obtain ⟨cs, hcs⟩ := run_builtin (P := C.P) (w := w) (ρ := a.eval) (b := .clear) (args := #[x]) (dst := none) (ty := ty) (pos := pos) (after := after) (g := g) (tys := #[t]) (show [x].map a.eval = [Value.slice (offA A c k 1) (n - k) (c - k)] from by simp only [List.map_cons, List.map_nil, ha.eval hx])
    rw [hcs]
    exact run_v hr
  have shrink : ∀ m, Vec el 1 A n c xs m → n = k → Vec el 1 A k c (xs.take k) m := fun m hm he => by
    subst he
    have hl := hm.1
    rw [List.take_of_length_le (by omega)]
    exact hm
  unfold opK Oper.wp
  by_cases hkn : n = k
  · have hr : (Builtin.clear_ #[t] ty #[.slice (offA A c k 1) (n - k) (c - k)]).run C.P w = .ok (.tuple #[]) w := by
      rw [show n - k = 0 by omega]
      cases hA : offA A c k 1 with
      | none => simp [Builtin.clear_, run_underlying ht]
      | some ad0 => simp [Builtin.clear_, run_underlying ht]
    rw [hrunb w hr]
    exact h a w ha (hw.ent (Ent.head fun m hm => shrink m hm hkn))
  · obtain ⟨⟨m, ⟨m1, m2, hd, rfl, hv, h2⟩, hs⟩, hst⟩ := id hw
    rcases hv.2 with ⟨_, h0, _⟩ | ⟨b, cur, rfl, hb, hnc, hcm, hsz, htake⟩
    · omega
    have hb0 : w.heap[b]? = some (.cells cur el (0, 0)) := hs.own _ _ (PH.le_or_left _ _ _ _ hb)
    have hlz : (Builtin.zeroCells z.cells (n - k)).toList.length = n - k := by rw [Array.length_toList, size_zeroCells, hzc]; simp
    have hoz : ∀ v ∈ (Builtin.zeroCells z.cells (n - k)).toList, v.oneCell' = true := fun v hv => by
      rw [hzc] at hv
      simp only [Builtin.zeroCells, Array.toList_map, List.mem_map] at hv
      obtain ⟨i, _, rfl⟩ := hv
      have : (#[z] : Array Value)[i % (#[z] : Array Value).size]! = z := by simp [Nat.mod_one]
      rw [this]; exact h1
    obtain ⟨cs', hs1, hs2, hs3⟩ := setsAt_some (Builtin.zeroCells z.cells (n - k)).toList cur.toList k (by rw [hlz, Array.length_toList]; omega)
    obtain ⟨w', hr, hb', hk', hst'⟩ := storeCells_from (P := C.P) (Builtin.zeroCells z.cells (n - k)).toList cur.toList cs' k 0 w (by simpa using hb0) (by simpa using hs1) hoz
    have hoff : offA (some (⟨b, 0, none⟩ : Addr)) c k 1 = some ⟨b, k, none⟩ := by
      unfold offA
      rw [if_neg (by omega), Option.map_some, Addr.add_lit]
      simp
    have hrun : (Builtin.clear_ #[t] ty #[.slice (offA (some ⟨b, 0, none⟩) c k 1) (n - k) (c - k)]).run C.P w = .ok (.tuple #[]) w' := by
      rw [hoff]
      obtain ⟨m, hm⟩ : ∃ m, n - k = m + 1 := ⟨n - k - 1, by omega⟩
      rw [hm] at hr ⊢
      simp only [Builtin.clear_, List.getElem?_toArray, List.getElem?_cons_zero]
      rw [Sem.run_bind, run_underlying ht, Result.andThen_ok]
      simp only [Sem.run_bind, hz, Result.andThen_ok]
      rw [hr]
      rfl
    rw [hrunb w' hrun]
    refine h a w' ha (hw.upd (o := .cells cs'.toArray el (0, 0)) (b := b) (fun mm hm => ?_) hb' (fun i hne o' ho => (hk' i hne).trans ho) hst')
    rcases hm.2 with ⟨he, _, _⟩ | ⟨b', cur', he, hb1, _, _, _, _⟩
    · cases he
    cases he
    refine ⟨by rw [hb1]; rfl, by rw [List.length_take, hv.1]; omega, .inr ⟨b, cs'.toArray, rfl, by simp, by omega, hcm, by simp [hs2]; omega, ?_⟩⟩
    rw [Nat.mul_one, List.toList_toArray, hs3, ← htake, List.take_take, Nat.mul_one, Nat.min_eq_left hk]
end
end Go.Eng
/- Contracts of functions of the given program, and lemmas about plain lists and numbers: what the laws of this seat lean on. -/
namespace Go.Proofs.YtcmdemfhbekabaaGreat
open Go.Eng Go.Sol
attribute [local irreducible] opK wpList Code.wp Exit.then Exit.inBlock fnPost bodyPost Nx Calls Oper.wp Rd Rds Wr Ent Stars Blk Again Vec FnSpec wpMix QRun Stop Upto wpAt
theorem zero_runR {t : TypeId} {z : Value} {P : Program} (h : (P.info? t).bind (·.zero) = some z) (w : World) : (zeroValue t).run P w = .ok z w := by
  cases hi : P.info? t with
  | none => rw [hi] at h; cases h
  | some i =>
    rw [hi] at h
    have h : i.zero = some z := h
    simp [zeroValue, typeInfo, hi, h]
/-! Lists of releases: cloned, one deleted -/
abbrev rlR (A : Option Addr) (c : Nat) (rs : List Rel) : Res := Vec 62 3 A rs.length c (rs.flatMap relC)
set_option maxHeartbeats 8000000 in
set_option maxRecDepth 10000 in
theorem CloneR_spec (A : Option Addr) (c : Nat) (l : List Rel) (I : PH) (hl : SliceN relC 3 I A c l) (h9 : l.length ≤ 1000000) :
    FnSpec Tryz.prog 80 [.slice A l.length c] I [] (fun v R' => ∃ A' c', v = .slice A' l.length c' ∧ R' = [rlR A' c' l]) := by
  cases A with
  | none =>
    have h0 : l = [] := by
      rcases Nat.eq_zero_or_pos l.length with h | h
      · exact List.eq_nil_of_length_eq_zero h
      · have := hl.isSome h (by decide); cases this
    subst h0
    refine FnSpec.enterP Tryz.func80 rfl Tryz.ntmps80 rfl fun w F => ?_
    repeat' first
      | ((with_reducible refine Nx.is_wp ?_); first | refine Nx.wo ?_ | refine Nx.zp (fun hc => ?_) (fun hc => ?_))
      | (refine Nx.zo ?_; first | refine Nx.opr rfl rfl ?_ | refine Nx.so ?_ | refine Nx.sb (fun bx => ?_) | refine Nx.sa (fun A2 c2 => ?_))
      | ((with_reducible refine Nx.is_at ?_); first | refine Nx.a ?_ | refine Nx.zd ?_ | refine Nx.zs (fun hc => ?_) (fun hc => ?_))
      | ((with_reducible refine Nx.is_mix ?_); first | refine Nx.m ?_ | refine Nx.zm ?_ | refine Nx.zt (fun hc => ?_) (fun hc => ?_))
      | refine Nx.zx ?_ | fail
    refine Nx.ret_fn rfl [rlR none 0 []] ⟨none, 0, rfl, rfl⟩ (Ent.vec_nil _ _ _)
  | some a =>
    refine FnSpec.enterP Tryz.func80 rfl Tryz.ntmps80 rfl fun w F => ?_
    repeat' first
      | ((with_reducible refine Nx.is_wp ?_); first | refine Nx.wo ?_ | refine Nx.zp (fun hc => ?_) (fun hc => ?_))
      | (refine Nx.zo ?_; first | refine Nx.opr rfl rfl ?_ | refine Nx.so ?_ | refine Nx.sb (fun bx => ?_) | refine Nx.sa (fun A2 c2 => ?_))
      | ((with_reducible refine Nx.is_at ?_); first | refine Nx.a ?_ | refine Nx.zd ?_ | refine Nx.zs (fun hc => ?_) (fun hc => ?_))
      | ((with_reducible refine Nx.is_mix ?_); first | refine Nx.m ?_ | refine Nx.zm ?_ | refine Nx.zt (fun hc => ?_) (fun hc => ?_))
      | refine Nx.zx ?_ | fail
    refine Nx.blk_vec 0 0 3 rfl rfl (by omega) ?_
    refine Nx.at_op rfl rfl ?_
    refine Nx.append rfl rfl rfl rfl (by kernel_rfl) rfl (Src.arr hl.arr (flat_len relC_len l) (by omega) (rel_one l)) (by omega) fun A' c' => ?_
    rw [Nat.zero_add, List.nil_append]
    repeat' first
      | ((with_reducible refine Nx.is_wp ?_); first | refine Nx.wo ?_ | refine Nx.zp (fun hc => ?_) (fun hc => ?_))
      | (refine Nx.zo ?_; first | refine Nx.opr rfl rfl ?_ | refine Nx.so ?_ | refine Nx.sb (fun bx => ?_) | refine Nx.sa (fun A2 c2 => ?_))
      | ((with_reducible refine Nx.is_at ?_); first | refine Nx.a ?_ | refine Nx.zd ?_ | refine Nx.zs (fun hc => ?_) (fun hc => ?_))
      | ((with_reducible refine Nx.is_mix ?_); first | refine Nx.m ?_ | refine Nx.zm ?_ | refine Nx.zt (fun hc => ?_) (fun hc => ?_))
      | refine Nx.zx ?_ | fail
    exact Nx.ret_fn rfl [_] ⟨A', c', rfl, rfl⟩ (by unfold rlR; (exact Ent.auto))
end Go.Proofs.YtcmdemfhbekabaaGreat
/- Contracts of functions of the given program, and lemmas about plain lists and numbers: what the laws of this seat lean on. -/
namespace Go.Proofs.YtcmdemfhbekabaaGreat
open Go.Eng Go.Sol
attribute [local irreducible] opK wpList Code.wp Exit.then Exit.inBlock fnPost bodyPost Nx Calls Oper.wp Rd Rds Wr Ent Stars Blk Again Vec FnSpec wpMix QRun Stop Upto wpAt
/-! slices.DeleteFunc at ints, with a closure that reads frozen memory -/
theorem gx_at {l : List Int} {k : Nat} (h : k < l.length) : l.getD k default = l[k] := by rw [List.getD_eq_getElem?_getD, List.getElem?_eq_getElem h]; rfl
set_option maxHeartbeats 8000000 in
set_option maxRecDepth 10000 in
theorem IndexFI_spec (f : FuncId) (cap : List Value) (p : Int → Bool) (A : Option Addr) (cp : Nat) (l : List Int) (I : PH) (hl : Ints I A cp l) (hcall : callable Tryz.prog f = true)
    (hp : ∀ x, FnSpec Tryz.prog f (Value.int .i64 x :: cap) I [] (fun v R' => v = .bool (p x) ∧ R' = [])) :
    FnSpec Tryz.prog 126 [.slice A l.length cp, .func (.func f) #[] cap.toArray] I []
      (fun v R' => (∃ i : Int, v = .int .i64 i ∧ ((i = -1 ∧ l.any p = false) ∨ ∃ k : Nat, k < l.length ∧ i = k ∧ p (l.getD k default) = true ∧ (l.take k).any p = false)) ∧ R' = []) := by
  refine FnSpec.enterP Tryz.func126 rfl Tryz.ntmps126 rfl fun w F => ?_
  repeat' first
    | ((with_reducible refine Nx.is_wp ?_); first | refine Nx.wo ?_ | refine Nx.zp (fun hc => ?_) (fun hc => ?_))
    | (refine Nx.zo ?_; first | refine Nx.opr rfl rfl ?_ | refine Nx.so ?_ | refine Nx.sb (fun bx => ?_) | refine Nx.sa (fun A2 c2 => ?_))
    | ((with_reducible refine Nx.is_at ?_); first | refine Nx.a ?_ | refine Nx.zd ?_ | refine Nx.zs (fun hc => ?_) (fun hc => ?_))
    | ((with_reducible refine Nx.is_mix ?_); first | refine Nx.m ?_ | refine Nx.zm ?_ | refine Nx.zt (fun hc => ?_) (fun hc => ?_))
    | refine Nx.zx ?_ | fail
  have hlen := hl.len
  refine Nx.p_loop (σ := Nat) (fun k => [(0, .slice A l.length cp), (1, .func (.func f) #[] cap.toArray), (7, .int .i64 l.length), (8, .int .i64 (k : Int))])
    (fun _ => [F]) (fun k => k ≤ l.length ∧ (l.take k).any p = false) (fun k => l.length - k) 0 rfl ⟨Nat.zero_le _, by simp⟩ ⟨rfl, rfl, rfl, rfl, trivial⟩ (Ent.refl _) ?_
  rintro k ⟨hk, hnone⟩
  by_cases hlt : k < l.length
  · repeat' first
      | ((with_reducible refine Nx.is_wp ?_); first | refine Nx.wo ?_ | refine Nx.zp (fun hc => ?_) (fun hc => ?_))
      | (refine Nx.zo ?_; first | refine Nx.opr rfl rfl ?_ | refine Nx.indexAddr_nat rfl rfl rfl rfl rfl (by omega) (hl.isSome (by omega)) ?_ | refine Nx.load rfl rfl rfl (hl.rd (by omega)) ?_ | refine Nx.callv rfl rfl rfl hcall rfl (hp _) ?_ | refine Nx.so ?_ | refine Nx.sb (fun bx => ?_) | refine Nx.sa (fun A2 c2 => ?_))
      | ((with_reducible refine Nx.is_at ?_); first | refine Nx.a ?_ | refine Nx.zd ?_ | refine Nx.zs (fun hc => ?_) (fun hc => ?_))
      | ((with_reducible refine Nx.is_mix ?_); first | refine Nx.m ?_ | refine Nx.zm ?_ | refine Nx.zt (fun hc => ?_) (fun hc => ?_))
      | refine Nx.zx ?_ | fail
    · exact Nx.ret_fn rfl [] ⟨⟨_, rfl, .inr ⟨k, hlt, rfl, hc, hnone⟩⟩, rfl⟩ (Ent.refl _)
    · refine Nx.again (k + 1) ⟨by omega, ?_⟩ (by omega) ⟨rfl, rfl, rfl, rfl, trivial⟩ (Ent.refl _)
      rw [List.take_succ_eq_append_getElem (by omega), List.any_append, hnone]
      rw [← gx_at hlt]
      simp only [List.any_cons, List.any_nil, hc, Bool.or_self]
  · obtain rfl : k = l.length := by omega
    repeat' first
      | ((with_reducible refine Nx.is_wp ?_); first | refine Nx.wo ?_ | refine Nx.zp (fun hc => ?_) (fun hc => ?_))
      | (refine Nx.zo ?_; first | refine Nx.opr rfl rfl ?_ | refine Nx.so ?_ | refine Nx.sb (fun bx => ?_) | refine Nx.sa (fun A2 c2 => ?_))
      | ((with_reducible refine Nx.is_at ?_); first | refine Nx.a ?_ | refine Nx.zd ?_ | refine Nx.zs (fun hc => ?_) (fun hc => ?_))
      | ((with_reducible refine Nx.is_mix ?_); first | refine Nx.m ?_ | refine Nx.zm ?_ | refine Nx.zt (fun hc => ?_) (fun hc => ?_))
      | refine Nx.zx ?_ | fail
    rw [List.take_length] at hnone
    exact Nx.ret_fn rfl [] ⟨⟨_, rfl, .inl ⟨rfl, hnone⟩⟩, rfl⟩ (Ent.refl _)
/-- A list while some are taken out of it. -/
structure DelI (p : Int → Bool) (l : List Int) (s : Nat × List Int) : Prop where
  le : s.1 ≤ l.length
  len : s.2.length = l.length
  head : s.2.take ((l.take s.1).filter fun x => !(p x)).length = (l.take s.1).filter fun x => !(p x)
  tail : ∀ j, s.1 ≤ j → s.2.getD j default = l.getD j default
  lt : ((l.take s.1).filter fun x => !(p x)).length < s.1
theorem take_snocF {l : List Int} {p : Int → Bool} {k : Nat} (h : k < l.length) : (l.take (k + 1)).filter (fun x => !(p x)) = (l.take k).filter (fun x => !(p x)) ++ (if p (l.getD k default) = true then [] else [l.getD k default]) := by
  rw [List.take_succ_eq_append_getElem h, List.filter_append, gx_at h]
  congr 1
  cases hp : p l[k] <;> simp [hp]
theorem DelI.del {p : Int → Bool} {l xs : List Int} {k : Nat} (h : DelI p l (k, xs)) (hk : k < l.length) (hp : p (l.getD k default) = true) : DelI p l (k + 1, xs) := by
  have e := take_snocF (p := p) hk
  rw [if_pos hp, List.append_nil] at e
  exact ⟨hk, h.len, by dsimp only; rw [e]; exact h.head, fun j hj => h.tail j (by dsimp only at hj ⊢; omega), by dsimp only; rw [e]; have := h.lt; dsimp only at this; omega⟩
theorem DelI.keep {p : Int → Bool} {l xs : List Int} {k : Nat} (h : DelI p l (k, xs)) (hk : k < l.length) (hp : p (l.getD k default) = false) : DelI p l (k + 1, xs.set ((l.take k).filter fun x => !(p x)).length (l.getD k default)) := by
  have e := take_snocF (p := p) hk
  rw [if_neg (by rw [hp]; decide)] at e
  have hlt := h.lt
  have hlen := h.len
  have hh := h.head
  dsimp only at hlt hlen hh
  refine ⟨hk, by dsimp only; rw [List.length_set]; exact hlen, ?_, fun j hj => ?_, by dsimp only; rw [e]; simp only [List.length_append, List.length_singleton]; omega⟩
  · dsimp only
    rw [e, List.length_append, List.length_singleton, List.take_succ_eq_append_getElem (by rw [List.length_set]; omega), List.take_set_of_le (Nat.le_refl _), hh]
    simp
  · dsimp only at hj ⊢
    rw [List.getD_eq_getElem?_getD, List.getElem?_set_ne (by omega), ← List.getD_eq_getElem?_getD]
    exact h.tail j (by dsimp only; omega)
set_option maxHeartbeats 8000000 in
set_option maxRecDepth 10000 in
theorem DeleteFI_spec (f : FuncId) (cap : List Value) (p : Int → Bool) (A : Option Addr) (c : Nat) (l : List Int) (I : PH) (hcall : callable Tryz.prog f = true) (h9 : l.length ≤ 1000000)
    (hp : ∀ I', PH.le I I' → ∀ x, FnSpec Tryz.prog f (Value.int .i64 x :: cap) I' [] (fun v R' => v = .bool (p x) ∧ R' = [])) :
    FnSpec Tryz.prog 92 [.slice A l.length c, .func (.func f) #[] cap.toArray] I [iR A c l]
      (fun v R' => v = .slice A (l.filter fun x => !(p x)).length c ∧ R' = [iR A c (l.filter fun x => !(p x))]) := by
  refine FnSpec.enterP Tryz.func92 rfl Tryz.ntmps92 rfl fun w F => ?_
  repeat' first
    | ((with_reducible refine Nx.is_wp ?_); first | refine Nx.wo ?_ | refine Nx.zp (fun hc => ?_) (fun hc => ?_))
    | (refine Nx.zo ?_; first | refine Nx.opr rfl rfl ?_ | refine Nx.so ?_ | refine Nx.sb (fun bx => ?_) | refine Nx.sa (fun A2 c2 => ?_))
    | ((with_reducible refine Nx.is_at ?_); first | refine Nx.a ?_ | refine Nx.zd ?_ | refine Nx.zs (fun hc => ?_) (fun hc => ?_))
    | ((with_reducible refine Nx.is_mix ?_); first | refine Nx.m ?_ | refine Nx.zm ?_ | refine Nx.zt (fun hc => ?_) (fun hc => ?_))
    | refine Nx.zx ?_ | fail
  refine Nx.at_op rfl rfl ?_
  refine Nx.call_lendR 0 rfl rfl rfl (by kernel_rfl) rfl rfl (fun m I' hI hm h => IndexFI_spec f cap p A c l I' (Vec.sliceOf hm h) hcall (hp I' hI)) ?_
  rintro _ R' ⟨⟨i, rfl, hi⟩, rfl⟩
  rcases hi with ⟨rfl, hnone⟩ | ⟨k0, hk0, rfl, hpk, hnone⟩
  · have e : (l.filter fun x => !(p x)) = l := by
      rw [List.filter_eq_self]
      intro x hx
      rw [List.any_eq_false] at hnone
      simpa using hnone x hx
    rw [e]
    repeat' first
      | ((with_reducible refine Nx.is_wp ?_); first | refine Nx.wo ?_ | refine Nx.zp (fun hc => ?_) (fun hc => ?_))
      | (refine Nx.zo ?_; first | refine Nx.opr rfl rfl ?_ | refine Nx.so ?_ | refine Nx.sb (fun bx => ?_) | refine Nx.sa (fun A2 c2 => ?_))
      | ((with_reducible refine Nx.is_at ?_); first | refine Nx.a ?_ | refine Nx.zd ?_ | refine Nx.zs (fun hc => ?_) (fun hc => ?_))
      | ((with_reducible refine Nx.is_mix ?_); first | refine Nx.m ?_ | refine Nx.zm ?_ | refine Nx.zt (fun hc => ?_) (fun hc => ?_))
      | refine Nx.zx ?_ | fail
    exact Nx.ret_fn rfl [iR A c l] ⟨rfl, rfl⟩ (by (exact Ent.auto))
  · have e0 : (l.take k0).filter (fun x => !(p x)) = l.take k0 := by
      rw [List.filter_eq_self]
      intro x hx
      rw [List.any_eq_false] at hnone
      simpa using hnone x hx
    have e1 := take_snocF (p := p) hk0
    rw [if_pos hpk, List.append_nil, e0] at e1
    have hl0 : (l.take k0).length = k0 := by rw [List.length_take]; omega
    repeat' first
      | ((with_reducible refine Nx.is_wp ?_); first | refine Nx.wo ?_ | refine Nx.zp (fun hc => ?_) (fun hc => ?_))
      | (refine Nx.zo ?_; first | refine Nx.opr rfl rfl ?_ | refine Nx.so ?_ | refine Nx.sb (fun bx => ?_) | refine Nx.sa (fun A2 c2 => ?_))
      | ((with_reducible refine Nx.is_at ?_); first | refine Nx.a ?_ | refine Nx.zd ?_ | refine Nx.zs (fun hc => ?_) (fun hc => ?_))
      | ((with_reducible refine Nx.is_mix ?_); first | refine Nx.m ?_ | refine Nx.zm ?_ | refine Nx.zt (fun hc => ?_) (fun hc => ?_))
      | refine Nx.zx ?_ | fail
    refine Nx.vec_fact fun _ hnc _ hA => ?_
    have hA := hA (by omega)
    refine Nx.p_loop (σ := Nat × List Int) (fun s => [(0, .slice A l.length c), (1, .func (.func f) #[] cap.toArray), (5, .int .i64 ((l.take s.1).filter fun x => !(p x)).length), (6, .int .i64 (s.1 : Int))])
      (fun s => [Vec 3 1 A l.length c (s.2.map (Value.int .i64)), F]) (DelI p l) (fun s => l.length - s.1) (k0 + 1, l) rfl
      ⟨hk0, rfl, by dsimp only; rw [e1, hl0], fun j _ => rfl, by dsimp only; rw [e1, hl0]; omega⟩ ⟨rfl, rfl, by dsimp only; rw [e1, hl0]; rfl, rfl, trivial⟩ (by (exact Ent.auto)) ?_
    rintro ⟨j, xs⟩ hS
    have hj := hS.le
    have hlen := hS.len
    have hlt := hS.lt
    dsimp only at hj hlen hlt ⊢
    by_cases hjl : j < l.length
    · have ht := hS.tail j (Nat.le_refl _)
      dsimp only at ht
      cases hpj : p (l.getD j default) with
      | true =>
        have hn := hS.del hjl hpj
        have e := take_snocF (p := p) hjl
        rw [if_pos hpj, List.append_nil] at e
        have hcallp := hp I (PH.le_refl I) (l.getD j default)
        rw [hpj] at hcallp
        repeat' first
          | ((with_reducible refine Nx.is_wp ?_); first | refine Nx.wo ?_ | refine Nx.zp (fun hc => ?_) (fun hc => ?_))
          | (refine Nx.zo ?_; first | refine Nx.opr rfl rfl ?_ | refine Nx.indexAddr_nat rfl rfl rfl rfl rfl (by omega) hA ?_ | (refine Nx.load rfl rfl rfl (Rd.vecEl 0 rfl (by omega)) ?_; rw [ht]) | refine Nx.callv rfl rfl rfl hcall rfl hcallp ?_ | refine Nx.so ?_ | refine Nx.sb (fun bx => ?_) | refine Nx.sa (fun A2 c2 => ?_))
          | ((with_reducible refine Nx.is_at ?_); first | refine Nx.a ?_ | refine Nx.zd ?_ | refine Nx.zs (fun hc => ?_) (fun hc => ?_))
          | ((with_reducible refine Nx.is_mix ?_); first | refine Nx.m ?_ | refine Nx.zm ?_ | refine Nx.zt (fun hc => ?_) (fun hc => ?_))
          | refine Nx.zx ?_ | fail
        exact Nx.again (j + 1, xs) hn (by dsimp only; omega) ⟨rfl, rfl, by dsimp only; rw [e]; rfl, rfl, trivial⟩ (by (exact Ent.auto))
      | false =>
        have hn := hS.keep hjl hpj
        have e := take_snocF (p := p) hjl
        rw [if_neg (by rw [hpj]; decide)] at e
        have hcallp := hp I (PH.le_refl I) (l.getD j default)
        rw [hpj] at hcallp
        repeat' first
          | ((with_reducible refine Nx.is_wp ?_); first | refine Nx.wo ?_ | refine Nx.zp (fun hc => ?_) (fun hc => ?_))
          | (refine Nx.zo ?_; first | refine Nx.opr rfl rfl ?_ | refine Nx.indexAddr_nat rfl rfl rfl rfl rfl (by omega) hA ?_ | (refine Nx.load rfl rfl rfl (Rd.vecEl 0 rfl (by omega)) ?_; rw [ht]) | refine Nx.callv rfl rfl rfl hcall rfl hcallp ?_ | refine Nx.store_of 0 (Value.int .i64) rfl rfl rfl rfl rfl rfl (by omega) ?_ | refine Nx.so ?_ | refine Nx.sb (fun bx => ?_) | refine Nx.sa (fun A2 c2 => ?_))
          | ((with_reducible refine Nx.is_at ?_); first | refine Nx.a ?_ | refine Nx.zd ?_ | refine Nx.zs (fun hc => ?_) (fun hc => ?_))
          | ((with_reducible refine Nx.is_mix ?_); first | refine Nx.m ?_ | refine Nx.zm ?_ | refine Nx.zt (fun hc => ?_) (fun hc => ?_))
          | refine Nx.zx ?_ | fail
        exact Nx.again (j + 1, _) hn (by dsimp only; omega) ⟨rfl, rfl, by dsimp only; rw [e, List.length_append]; rfl, rfl, trivial⟩ (by (exact Ent.auto))
    · obtain rfl : j = l.length := by omega
      have hh := hS.head
      dsimp only at hh
      rw [List.take_length] at hh hlt ⊢
      repeat' first
        | ((with_reducible refine Nx.is_wp ?_); first | refine Nx.wo ?_ | refine Nx.zp (fun hc => ?_) (fun hc => ?_))
        | (refine Nx.zo ?_; first | refine Nx.opr rfl rfl ?_ | refine Nx.slice_lo rfl rfl rfl rfl rfl (by omega) ?_ | refine Nx.clear_tail (z := .int .i64 0) rfl rfl rfl (zero_runR (by kernel_rfl)) rfl rfl (by omega) ?_ | refine Nx.slice_hi rfl rfl rfl rfl rfl (by omega) ?_ | refine Nx.so ?_ | refine Nx.sb (fun bx => ?_) | refine Nx.sa (fun A2 c2 => ?_))
        | ((with_reducible refine Nx.is_at ?_); first | refine Nx.a ?_ | refine Nx.zd ?_ | refine Nx.zs (fun hc => ?_) (fun hc => ?_))
        | ((with_reducible refine Nx.is_mix ?_); first | refine Nx.m ?_ | refine Nx.zm ?_ | refine Nx.zt (fun hc => ?_) (fun hc => ?_))
        | refine Nx.zx ?_ | fail
      refine Nx.ret_fn rfl [iR A c (l.filter fun x => !(p x))] ⟨rfl, rfl⟩ ?_
      refine Ent.pickE 0 rfl ?_ (by (exact Ent.auto))
      unfold iR
      rw [← List.map_take, hh]
end Go.Proofs.YtcmdemfhbekabaaGreat
/- Contracts of functions of the given program, and lemmas about plain lists and numbers: what the laws of this seat lean on. -/
namespace Go.Proofs.YtcmdemfhbekabaaGreat
open Go.Eng Go.Sol
attribute [local irreducible] opK wpList Code.wp Exit.then Exit.inBlock fnPost bodyPost Nx Calls Oper.wp Rd Rds Wr Ent Stars Blk Again Vec FnSpec wpMix QRun Stop Upto wpAt
theorem Nx.giveTold {C : Cx} {e : Env} {I : PH} {R : List Res} {K : Act → World → Prop} {B At As : Option Addr} {c' ct ca : Nat} {s t : List Int} {rs : List Rel} {RR : List Res}
    (hR : Ent R (Stars (toldR B c' s At ct t As ca rs) :: RR)) (h : ∀ I', PH.le I I' → Ints I' B c' s → Ints I' At ct t → Rels I' As ca rs → Nx C e I' RR K) : Nx C e I R K := by
  refine Nx.ent hR ?_
  refine Nx.freezeAt 0 rfl fun I1 m1 hI1 hm1 h1 => ?_
  obtain ⟨a0, ha0, b0⟩ := Stars.get 0 h1 rfl
  obtain ⟨a1, ha1, b1⟩ := Stars.get 1 h1 rfl
  obtain ⟨a2, ha2, b2⟩ := Stars.get 2 h1 rfl
  obtain ⟨a3, ha3, b3⟩ := Stars.get 3 h1 rfl
  exact h I1 hI1 (Vec.sliceOf (ha0.trans hm1) b0) (Vec.sliceOf (ha1.trans hm1) b1) (rels_of hm1 b2 ha2 b3 ha3)
theorem rels_app {I I' q : PH} {As A3 : Option Addr} {ca c3 : Nat} {rs : List Rel} {r : Rel} (hr : Rels I As ca rs) (hle : PH.le I I') (hq : PH.le q I') (hv : Stars [Vec 62 3 A3 (rs.length + 1) c3 (rs.flatMap relC ++ relC r)] q) (h1 : RowsOf I r.va r.vc r.v) (h2 : Ints I r.val.1 r.val.2.1 r.val.2.2) : Rels I' A3 c3 (rs ++ [r]) := by
  obtain ⟨a0, ha0, b0⟩ := Stars.get 0 hv rfl
  refine ⟨?_, fun x hx => ?_, fun x hx => ?_⟩
  · have hl : (rs ++ [r]).length = rs.length + 1 := by rw [List.length_append]; rfl
    have hf : (rs ++ [r]).flatMap relC = rs.flatMap relC ++ relC r := by rw [List.flatMap_append, List.flatMap_cons, List.flatMap_nil, List.append_nil]
    refine Vec.sliceN (ha0.trans hq) (t := 62) ?_ fun x _ => relC_len x
    rw [hl, hf]; exact b0
  · rcases List.mem_append.1 hx with h | h
    · exact (hr.view x h).mono hle
    · rw [List.mem_singleton.1 h]; exact h1.mono hle
  · rcases List.mem_append.1 hx with h | h
    · exact (hr.val x h).mono hle
    · rw [List.mem_singleton.1 h]; exact h2.mono hle
end Go.Proofs.YtcmdemfhbekabaaGreat
/- Contracts of functions of the given program, and lemmas about plain lists and numbers: what the laws of this seat lean on. -/
namespace Go.Proofs.YtcmdemfhbekabaaGreat
open Go.Eng Go.Sol
attribute [local irreducible] opK wpList Code.wp Exit.then Exit.inBlock fnPost bodyPost Nx Calls Oper.wp Rd Rds Wr Ent Stars Blk Again Vec FnSpec wpMix QRun Stop Upto wpAt
attribute [local irreducible] wpFork
/-! Learns -/
set_option maxRecDepth 10000 in
set_option maxHeartbeats 8000000 in
theorem learn1 (B As va D : Option Addr) (c' ca sn b3 b5 vn vc dn cd : Nat) (num : Int) (es : List Rel) (s : List Int) (es2 : List Rel) (I : PH) (hes : SliceN relC 3 I As ca es) (h9 : es.length ≤ 1000) (w : World) (F : Res) (Q : Exit → Act → World → Prop) (hQ : PanicOk Q)
    (spec : ∀ A3 c3 q I', PH.le I I' → PH.le q I' → Stars [Vec 62 3 A3 (es.length + 1) c3 (es.flatMap relC ++ [.int .i64 num, .slice va vn vc, .slice D dn cd])] q → FnSpec Tryz.prog 71 [.agg #[.slice B sn c'], .slice A3 (es.length + 1) c3] I' [] (ToldPost s es2))
    (h : ∀ (Am : Option Addr) (cm : Nat) (qs : List EqR), (tolE s es2 = 0 → qs.map cont = es2.flatMap (told s)) → Nx ⟨Tryz.prog, 60, w⟩ [(8, .slice Am qs.length cm), (9, .int .i64 (if tolE s es2 = 0 then prod s else 0)), (10, .int .i64 (tolE s es2)), (1, .slice As es.length ca), (3, .pointer (some ⟨b3, 0, none⟩)), (5, .pointer (some ⟨b5, 0, none⟩))] I (eqsR Am cm qs ++ [Blk b3 27 [.slice B sn c'], Blk b5 62 [.int .i64 num, .slice va vn vc, .slice D dn cd], F]) (Q .normal)) :
    Nx ⟨Tryz.prog, 60, w⟩ [(1, .slice As es.length ca), (3, .pointer (some ⟨b3, 0, none⟩)), (5, .pointer (some ⟨b5, 0, none⟩))] I [Blk b3 27 [.slice B sn c'], Blk b5 62 [.int .i64 num, .slice va vn vc, .slice D dn cd], F] (Code.wp Tryz.prog (cl (cr (bodyOf Tryz.f42))) Q) := by
  have hcap := hes.cap
  have hCl := CloneR_spec As ca es I hes (by omega)
  unfold ToldPost at spec
  refine Nx.p_fork (id := 1) rfl [0, 1, 3] [7, 8, 9, 10, 11, 12, 13] [2, 4, 5, 6] [Blk b3 27 [.slice B sn c'], Blk b5 62 [.int .i64 num, .slice va vn vc, .slice D dn cd]] 11 rfl rfl (by kernel_rfl) (by kernel_rfl) (by kernel_rfl) hQ (by (exact Ent.auto)) ?_
  repeat' first
    | ((with_reducible refine Nx.is_wp ?_); first | refine Nx.wo ?_ | refine Nx.zp (fun hc => ?_) (fun hc => ?_))
    | (refine Nx.zo ?_; first | refine Nx.opr rfl rfl ?_ | refine Nx.so ?_ | refine Nx.sb (fun bx => ?_) | refine Nx.sa (fun A2 c2 => ?_))
    | ((with_reducible refine Nx.is_at ?_); first | refine Nx.a ?_ | refine Nx.zd ?_ | refine Nx.zs (fun hc => ?_) (fun hc => ?_))
    | ((with_reducible refine Nx.is_mix ?_); first | refine Nx.m ?_ | refine Nx.zm ?_ | refine Nx.zt (fun hc => ?_) (fun hc => ?_))
    | refine Nx.zx ?_ | fail
  refine Nx.fork2 (i := 2) (j := 4) (by kernel_rfl) rfl rfl rfl rfl ?_ ?_
  · refine Nx.call (Rpre := []) rfl rfl rfl (by kernel_rfl) rfl hCl (Ent.refl _) ?_
    rintro _ _ ⟨A2, c2, rfl, rfl⟩
    refine Nx.mix_S (by (exact Ent.auto)) ?_
    refine Nx.fork1 (i := 4) (by kernel_rfl) rfl rfl ?_
    refine Nx.sb (fun b4 => ?_)
    refine Nx.mix_S (by (exact Ent.auto)) ?_
    refine Nx.fork1 (i := 5) (by kernel_rfl) rfl rfl ?_
    refine Nx.ent (R' := [Blk b4 62 [.int .i64 num, .slice va vn vc, .slice D dn cd], Vec 62 3 A2 es.length c2 (es.flatMap relC), Blk b3 27 [.slice B sn c'], Blk b5 62 [.int .i64 num, .slice va vn vc, .slice D dn cd], F]) (by (exact Ent.auto)) ?_
    refine Nx.append_lit 0 rfl rfl rfl rfl (by kernel_rfl) rfl rfl rfl rfl (by omega) fun A3 c3 => ?_
    refine Nx.mix_S (by (exact Ent.auto)) ?_
    refine Nx.fork1 (i := 6) (by kernel_rfl) rfl rfl ?_
    refine Nx.call rfl rfl rfl (by kernel_rfl) rfl (FnSpec.keep [Vec 62 3 A3 (es.length + 1) c3 (es.flatMap relC ++ [.int .i64 num, .slice va vn vc, .slice D dn cd])] (spec A3 c3)) (by (exact Ent.auto)) ?_
    rintro _ _ ⟨_, ⟨Am, cm, qs, rfl, q1, q2, rfl⟩, rfl⟩
    refine Nx.mix_S (by (exact Ent.auto)) ?_
    refine Nx.fork_fin (by kernel_rfl) rfl ?_
    repeat' first
      | ((with_reducible refine Nx.is_wp ?_); first | refine Nx.wo ?_ | refine Nx.zp (fun hc => ?_) (fun hc => ?_))
      | (refine Nx.zo ?_; first | refine Nx.opr rfl rfl ?_ | refine Nx.so ?_ | refine Nx.sb (fun bx => ?_) | refine Nx.sa (fun A2 c2 => ?_))
      | ((with_reducible refine Nx.is_at ?_); first | refine Nx.a ?_ | refine Nx.zd ?_ | refine Nx.zs (fun hc => ?_) (fun hc => ?_))
      | ((with_reducible refine Nx.is_mix ?_); first | refine Nx.m ?_ | refine Nx.zm ?_ | refine Nx.zt (fun hc => ?_) (fun hc => ?_))
      | refine Nx.zx ?_ | fail
    refine Nx.weak ?_ ?_ (h Am cm qs q1)
    · exact ⟨rfl, rfl, rfl, rfl, rfl, rfl, trivial⟩
    · (exact Ent.auto)
  · refine Nx.sb (fun b4 => ?_)
    refine Nx.mix_S (by (exact Ent.auto)) ?_
    refine Nx.fork1 (i := 2) (by kernel_rfl) rfl rfl ?_
    refine Nx.call (Rpre := []) rfl rfl rfl (by kernel_rfl) rfl hCl (Ent.refl _) ?_
    rintro _ _ ⟨A2, c2, rfl, rfl⟩
    refine Nx.mix_S (by (exact Ent.auto)) ?_
    refine Nx.fork1 (i := 5) (by kernel_rfl) rfl rfl ?_
    refine Nx.ent (R' := [Blk b4 62 [.int .i64 num, .slice va vn vc, .slice D dn cd], Vec 62 3 A2 es.length c2 (es.flatMap relC), Blk b3 27 [.slice B sn c'], Blk b5 62 [.int .i64 num, .slice va vn vc, .slice D dn cd], F]) (by (exact Ent.auto)) ?_
    refine Nx.append_lit 0 rfl rfl rfl rfl (by kernel_rfl) rfl rfl rfl rfl (by omega) fun A3 c3 => ?_
    refine Nx.mix_S (by (exact Ent.auto)) ?_
    refine Nx.fork1 (i := 6) (by kernel_rfl) rfl rfl ?_
    refine Nx.call rfl rfl rfl (by kernel_rfl) rfl (FnSpec.keep [Vec 62 3 A3 (es.length + 1) c3 (es.flatMap relC ++ [.int .i64 num, .slice va vn vc, .slice D dn cd])] (spec A3 c3)) (by (exact Ent.auto)) ?_
    rintro _ _ ⟨_, ⟨Am, cm, qs, rfl, q1, q2, rfl⟩, rfl⟩
    refine Nx.mix_S (by (exact Ent.auto)) ?_
    refine Nx.fork_fin (by kernel_rfl) rfl ?_
    repeat' first
      | ((with_reducible refine Nx.is_wp ?_); first | refine Nx.wo ?_ | refine Nx.zp (fun hc => ?_) (fun hc => ?_))
      | (refine Nx.zo ?_; first | refine Nx.opr rfl rfl ?_ | refine Nx.so ?_ | refine Nx.sb (fun bx => ?_) | refine Nx.sa (fun A2 c2 => ?_))
      | ((with_reducible refine Nx.is_at ?_); first | refine Nx.a ?_ | refine Nx.zd ?_ | refine Nx.zs (fun hc => ?_) (fun hc => ?_))
      | ((with_reducible refine Nx.is_mix ?_); first | refine Nx.m ?_ | refine Nx.zm ?_ | refine Nx.zt (fun hc => ?_) (fun hc => ?_))
      | refine Nx.zx ?_ | fail
    refine Nx.weak ?_ ?_ (h Am cm qs q1)
    · exact ⟨rfl, rfl, rfl, rfl, rfl, rfl, trivial⟩
    · (exact Ent.auto)
/-- What is learned from a release. -/
def lrnD (l : List Int) (rs : List Rel) (r : Rel) : List Int × Int :=
  if tolE l (rs ++ [r]) ≠ 0 then ([], tolE l (rs ++ [r])) else if tolE l rs ≠ 0 then ([], tolE l rs) else
  if (cerD l (rs ++ [r])).2 ≠ 0 then ([], (cerD l (rs ++ [r])).2) else if (cerD l rs).2 ≠ 0 then ([], (cerD l rs).2) else ((cerD l (rs ++ [r])).1.filter fun x => !decide (x ∈ (cerD l rs).1), 0)
set_option maxHeartbeats 8000000 in
set_option maxRecDepth 10000 in
theorem known_spec (b : Nat) (A : Option Addr) (c : Nat) (L : List Int) (I : PH) (hb : ∀ (W : World) (R : List Res), Rd W I R ⟨b, 0, none⟩ (.slice A L.length c)) (hL : Ints I A c L) (x : Int) :
    FnSpec Tryz.prog 93 [.int .i64 x, .pointer (some ⟨b, 0, none⟩)] I [] (fun v R' => v = .bool (decide (x ∈ L)) ∧ R' = []) := by
  have hC := ContainsI_spec A c L x I hL
  refine FnSpec.enterP Tryz.func93 rfl Tryz.ntmps93 rfl fun w F => ?_
  repeat' first
    | ((with_reducible refine Nx.is_wp ?_); first | refine Nx.wo ?_ | refine Nx.zp (fun hc => ?_) (fun hc => ?_))
    | (refine Nx.zo ?_; first | refine Nx.opr rfl rfl ?_ | refine Nx.load rfl rfl rfl (hb _ _) ?_ | refine Nx.callv rfl rfl rfl (by kernel_rfl) rfl hC ?_ | refine Nx.so ?_ | refine Nx.sb (fun bx => ?_) | refine Nx.sa (fun A2 c2 => ?_))
    | ((with_reducible refine Nx.is_at ?_); first | refine Nx.a ?_ | refine Nx.zd ?_ | refine Nx.zs (fun hc => ?_) (fun hc => ?_))
    | ((with_reducible refine Nx.is_mix ?_); first | refine Nx.m ?_ | refine Nx.zm ?_ | refine Nx.zt (fun hc => ?_) (fun hc => ?_))
    | refine Nx.zx ?_ | fail
  exact Nx.ret_fn rfl [] ⟨rfl, rfl⟩ (by (exact Ent.auto))
end Go.Proofs.YtcmdemfhbekabaaGreat
/- Contracts of functions of the given program, and lemmas about plain lists and numbers: what the laws of this seat lean on. -/
namespace Go.Proofs.YtcmdemfhbekabaaGreat
open Go.Eng Go.Sol
attribute [local irreducible] opK wpList Code.wp Exit.then Exit.inBlock fnPost bodyPost Nx Calls Oper.wp Rd Rds Wr Ent Stars Blk Again Vec FnSpec wpMix QRun Stop Upto wpAt
/-! Learns -/
theorem certF_len {n : Nat} {L : List Eqn} : (certF n L).1.length ≤ n := by
  unfold certF
  split
  · exact Nat.zero_le _
  · exact Nat.le_trans (certU_len _) (touch_len n L)
set_option maxRecDepth 10000 in
set_option maxHeartbeats 16000000 in
theorem Learns_spec (A As : Option Addr) (c cs : Nat) (l : List Int) (rs : List Rel) (r : Rel) (I : PH) (hl : Ints I A c l) (hs : Sizes l) (hr : Rels I As cs rs) (hw : ∀ x ∈ rs, Viewed l x.v) (h9 : rs.length ≤ 1000) (hv : RowsOf I r.va r.vc r.v) (hd : Ints I r.val.1 r.val.2.1 r.val.2.2) (hrw : Viewed l r.v) :
    FnSpec Tryz.prog 42 [.agg #[.slice A l.length c], .slice As rs.length cs, .agg #[.int .i64 r.num, .slice r.va r.v.length r.vc, .slice r.val.1 r.val.2.2.length r.val.2.1]] I [] (fun u R' => ∃ (A' : Option Addr) (c' : Nat), u = .tuple #[.slice A' (lrnD l rs r).1.length c', .int .i64 (lrnD l rs r).2] ∧ R' = [iR A' c' (lrnD l rs r).1]) := by
  have hw2 : ∀ x ∈ rs ++ [r], Viewed l x.v := fun x hx => (List.mem_append.1 hx).elim (hw x) fun h => by rw [List.mem_singleton.1 h]; exact hrw
  have spec : ∀ A3 c3 q I', PH.le I I' → PH.le q I' → Stars [Vec 62 3 A3 (rs.length + 1) c3 (rs.flatMap relC ++ [.int .i64 r.num, .slice r.va r.v.length r.vc, .slice r.val.1 r.val.2.2.length r.val.2.1])] q → FnSpec Tryz.prog 71 [.agg #[.slice A l.length c], .slice A3 (rs.length + 1) c3] I' [] (ToldPost l (rs ++ [r])) := fun A3 c3 q I' hle hq hvq => by
    have hra := rels_app (r := r) hr hle hq hvq hv hd
    have := atold_spec A A3 c c3 l (rs ++ [r]) I' (hl.mono hle) hs hra hw2
    rw [show (rs ++ [r]).length = rs.length + 1 by rw [List.length_append]; rfl] at this
    exact this
  have hT := fun I' (hle : PH.le I I') => atold_spec A As c cs l rs I' (hl.mono hle) hs (hr.mono hle) hw
  unfold ToldPost at hT
  have hz := size_ok hs
  have hq1 := fun qs (h0 : tolE l (rs ++ [r]) = 0) => told_q (qs := qs) hs hw2 h0
  have hq2 := fun qs (h0 : tolE l rs = 0) => told_q (qs := qs) hs hw h0
  refine FnSpec.enterP Tryz.func42 rfl Tryz.ntmps42 rfl fun w F => ?_
  repeat' first
    | ((with_reducible refine Nx.is_wp ?_); first | refine Nx.p_stopr 1 rfl ?_ | refine Nx.wo ?_ | refine Nx.zp (fun hc => ?_) (fun hc => ?_))
    | (refine Nx.zo ?_; first | refine Nx.opr rfl rfl ?_ | refine Nx.so ?_ | refine Nx.sb (fun bx => ?_) | refine Nx.sa (fun A2 c2 => ?_))
    | ((with_reducible refine Nx.is_at ?_); first | refine Nx.a ?_ | refine Nx.zd ?_ | refine Nx.zs (fun hc => ?_) (fun hc => ?_))
    | ((with_reducible refine Nx.is_mix ?_); first | refine Nx.m ?_ | refine Nx.zm ?_ | refine Nx.zt (fun hc => ?_) (fun hc => ?_))
    | refine Nx.zx ?_ | fail
  refine Nx.unstop ?_
  rename_i b3
  revert bx; intro b5
  refine Nx.p_seq rfl ?_
  refine Nx.weak ?_ ?_ (learn1 A As r.va r.val.1 c cs l.length b3 b5 r.v.length r.vc r.val.2.2.length r.val.2.1 r.num rs l (rs ++ [r]) I hr.outer h9 w F _ (by repeat first | exact PanicOk.fn | refine PanicOk.then_ ?_ | refine PanicOk.inB ?_) spec ?_)
  · exact ⟨rfl, rfl, rfl, trivial⟩
  · (exact Ent.auto)
  intro Am cm qs hqs
  unfold lrnD
  by_cases h1 : tolE l (rs ++ [r]) = 0
  case neg =>
    rw [if_pos h1]
    rw [if_neg h1]
    generalize tolE l (rs ++ [r]) = er at h1
    repeat' first
      | ((with_reducible refine Nx.is_wp ?_); first | refine Nx.wo ?_ | refine Nx.zp (fun hc => ?_) (fun hc => ?_))
      | (refine Nx.zo ?_; first | refine Nx.opr rfl rfl ?_ | refine Nx.so ?_ | refine Nx.sb (fun bx => ?_) | refine Nx.sa (fun A2 c2 => ?_))
      | ((with_reducible refine Nx.is_at ?_); first | refine Nx.a ?_ | refine Nx.zd ?_ | refine Nx.zs (fun hc => ?_) (fun hc => ?_))
      | ((with_reducible refine Nx.is_mix ?_); first | refine Nx.m ?_ | refine Nx.zm ?_ | refine Nx.zt (fun hc => ?_) (fun hc => ?_))
      | refine Nx.zx ?_ | fail
    exact Nx.ret_fn rfl [_] ⟨none, 0, rfl, rfl⟩ ((Ent.vec_nil 3 1 _).trans (by (exact Ent.auto)))
  obtain ⟨hg1, ha1, he1⟩ := hq1 qs h1 (hqs h1)
  rw [if_neg (show ¬ tolE l (rs ++ [r]) ≠ 0 from fun h => h h1), if_pos h1, h1]
  refine Nx.giveE (A := Am) (c := cm) (qs := qs) (RR := [Blk b3 27 [.slice A l.length c], Blk b5 62 [.int .i64 r.num, .slice r.va r.v.length r.vc, .slice r.val.1 r.val.2.2.length r.val.2.1], F]) (by (exact Ent.auto)) fun I1 hI1 hE1 => ?_
  have hT1 := hT I1 hI1
  by_cases h2 : tolE l rs = 0
  case neg =>
    rw [if_pos h2]
    rw [if_neg h2] at hT1
    generalize tolE l rs = er at h2 hT1
    repeat' first
      | ((with_reducible refine Nx.is_wp ?_); first | refine Nx.wo ?_ | refine Nx.zp (fun hc => ?_) (fun hc => ?_))
      | (refine Nx.zo ?_; first | refine Nx.opr rfl rfl ?_ | (refine Nx.call (Rpre := []) rfl rfl rfl (by kernel_rfl) rfl hT1 (Ent.refl _) ?_; rintro _ _ ⟨Am2, cm2, qs2, rfl, -, hqs2, rfl⟩) | refine Nx.so ?_ | refine Nx.sb (fun bx => ?_) | refine Nx.sa (fun A2 c2 => ?_))
      | ((with_reducible refine Nx.is_at ?_); first | refine Nx.a ?_ | refine Nx.zd ?_ | refine Nx.zs (fun hc => ?_) (fun hc => ?_))
      | ((with_reducible refine Nx.is_mix ?_); first | refine Nx.m ?_ | refine Nx.zm ?_ | refine Nx.zt (fun hc => ?_) (fun hc => ?_))
      | refine Nx.zx ?_ | fail
    exact Nx.imm_le hI1 (Nx.ret_fn rfl [_] ⟨none, 0, rfl, rfl⟩ ((Ent.vec_nil 3 1 _).trans (by (exact Ent.auto))))
  rw [h2] at hT1
  rw [if_neg (show ¬ tolE l rs ≠ 0 from fun h => h h2)]
  rw [if_pos rfl] at hT1
  repeat' first
    | ((with_reducible refine Nx.is_wp ?_); first | refine Nx.p_stopr 7 rfl ?_ | refine Nx.wo ?_ | refine Nx.zp (fun hc => ?_) (fun hc => ?_))
    | (refine Nx.zo ?_; first | refine Nx.opr rfl rfl ?_ | (refine Nx.call (Rpre := []) rfl rfl rfl (by kernel_rfl) rfl hT1 (Ent.refl _) ?_; rintro _ _ ⟨Am2, cm2, qs2, rfl, hqs2, -, rfl⟩) | refine Nx.so ?_ | refine Nx.sb (fun bx => ?_) | refine Nx.sa (fun A2 c2 => ?_))
    | ((with_reducible refine Nx.is_at ?_); first | refine Nx.a ?_ | refine Nx.zd ?_ | refine Nx.zs (fun hc => ?_) (fun hc => ?_))
    | ((with_reducible refine Nx.is_mix ?_); first | refine Nx.m ?_ | refine Nx.zm ?_ | refine Nx.zt (fun hc => ?_) (fun hc => ?_))
    | refine Nx.zx ?_ | fail
  refine Nx.unstop ?_
  obtain ⟨hg2, ha2, he2⟩ := hq2 qs2 h2 (hqs2 rfl)
  refine Nx.giveE (A := Am2) (c := cm2) (qs := qs2) (RR := [F]) (by (exact Ent.auto)) fun I2 hI2 hE2 => ?_
  have hC1 := certain_spec Am cm qs (prod l).toNat I2 (hE1.mono hI2) hg1 hz.1 (by omega) (by omega)
  have hC2 := fun I' (hle : PH.le I2 I') => certain_spec Am2 cm2 qs2 (prod l).toNat I' (hE2.mono hle) hg2 hz.1 (by omega) (by omega)
  rw [he1, hz.2.2] at hC1
  rw [he2, hz.2.2] at hC2
  unfold cerD
  rw [if_pos h1, if_pos h2]
  have hlb := certF_len (n := (prod l).toNat) (L := eqns (qsOf l (rs ++ [r])))
  have hn48 := hz.2.1
  generalize certF (prod l).toNat (eqns (qsOf l (rs ++ [r]))) = fb at hC1 hlb
  generalize certF (prod l).toNat (eqns (qsOf l rs)) = fa at hC2
  generalize (prod l).toNat = N at hlb hn48
  obtain ⟨xb, eb⟩ := fb
  obtain ⟨xa, ea⟩ := fa
  dsimp only at hC1 hC2 hlb
  dsimp only
  by_cases h3 : eb = 0
  case neg =>
    rw [if_pos h3]
    repeat' first
      | ((with_reducible refine Nx.is_wp ?_); first | refine Nx.wo ?_ | refine Nx.zp (fun hc => ?_) (fun hc => ?_))
      | (refine Nx.zo ?_; first | refine Nx.opr rfl rfl ?_ | (refine Nx.call (Rpre := []) rfl rfl rfl (by kernel_rfl) rfl hC1 (Ent.refl _) ?_; rintro _ _ ⟨A13, c13, rfl, rfl⟩) | refine Nx.so ?_ | refine Nx.sb (fun bx => ?_) | refine Nx.sa (fun A2 c2 => ?_))
      | ((with_reducible refine Nx.is_at ?_); first | refine Nx.a ?_ | refine Nx.zd ?_ | refine Nx.zs (fun hc => ?_) (fun hc => ?_))
      | ((with_reducible refine Nx.is_mix ?_); first | refine Nx.m ?_ | refine Nx.zm ?_ | refine Nx.zt (fun hc => ?_) (fun hc => ?_))
      | refine Nx.zx ?_ | fail
    exact Nx.imm_le (hI1.trans hI2) (Nx.ret_fn rfl [_] ⟨none, 0, rfl, rfl⟩ ((Ent.vec_nil 3 1 _).trans (by (exact Ent.auto))))
  subst h3
  rw [if_neg (show ¬ (0 : Int) ≠ 0 from fun h => h rfl)]
  by_cases h4 : ea = 0
  case neg =>
    rw [if_pos h4]
    repeat' first
      | ((with_reducible refine Nx.is_wp ?_); first | refine Nx.wo ?_ | refine Nx.zp (fun hc => ?_) (fun hc => ?_))
      | (refine Nx.zo ?_; first | refine Nx.opr rfl rfl ?_ | (refine Nx.call (Rpre := []) rfl rfl rfl (by kernel_rfl) rfl hC1 (Ent.refl _) ?_; rintro _ _ ⟨A13, c13, rfl, rfl⟩) | (refine Nx.call (Rpre := []) rfl rfl rfl (by kernel_rfl) rfl (hC2 I2 (PH.le_refl _)) (Ent.refl _) ?_; rintro _ _ ⟨A12, c12, rfl, rfl⟩) | refine Nx.so ?_ | refine Nx.sb (fun bx => ?_) | refine Nx.sa (fun A2 c2 => ?_))
      | ((with_reducible refine Nx.is_at ?_); first | refine Nx.a ?_ | refine Nx.zd ?_ | refine Nx.zs (fun hc => ?_) (fun hc => ?_))
      | ((with_reducible refine Nx.is_mix ?_); first | refine Nx.m ?_ | refine Nx.zm ?_ | refine Nx.zt (fun hc => ?_) (fun hc => ?_))
      | refine Nx.zx ?_ | fail
    exact Nx.imm_le (hI1.trans hI2) (Nx.ret_fn rfl [_] ⟨none, 0, rfl, rfl⟩ ((Ent.vec_nil 3 1 _).trans (by (exact Ent.auto))))
  subst h4
  rw [if_neg (show ¬ (0 : Int) ≠ 0 from fun h => h rfl)]
  repeat' first
    | ((with_reducible refine Nx.is_wp ?_); first | refine Nx.p_stopr 13 rfl ?_ | refine Nx.wo ?_ | refine Nx.zp (fun hc => ?_) (fun hc => ?_))
    | (refine Nx.zo ?_; first | refine Nx.opr rfl rfl ?_ | (refine Nx.call (Rpre := []) rfl rfl rfl (by kernel_rfl) rfl hC1 (Ent.refl _) ?_; rintro _ _ ⟨A13, c13, rfl, rfl⟩) | (refine Nx.call (Rpre := []) rfl rfl rfl (by kernel_rfl) rfl (hC2 I2 (PH.le_refl _)) (Ent.refl _) ?_; rintro _ _ ⟨A12, c12, rfl, rfl⟩) | refine Nx.so ?_ | refine Nx.sb (fun bx => ?_) | refine Nx.sa (fun A2 c2 => ?_))
    | ((with_reducible refine Nx.is_at ?_); first | refine Nx.a ?_ | refine Nx.zd ?_ | refine Nx.zs (fun hc => ?_) (fun hc => ?_))
    | ((with_reducible refine Nx.is_mix ?_); first | refine Nx.m ?_ | refine Nx.zm ?_ | refine Nx.zt (fun hc => ?_) (fun hc => ?_))
    | refine Nx.zx ?_ | fail
  refine Nx.unstop ?_
  revert bx; intro b14
  refine Nx.ent (R' := [iR A12 c12 xa, Blk b14 25 [.slice A12 xa.length c12], iR A13 c13 xb, F]) (by (exact Ent.auto)) ?_
  refine Nx.freezeAt 0 rfl fun I3 m3 hI3 hm3 h3 => ?_
  refine Nx.freezeAt 0 rfl fun I4 m4 hI4 hm4 h4 => ?_
  have hxa : Ints I4 A12 c12 xa := (Vec.sliceOf hm3 h3).mono hI4
  have hD := DeleteFI_spec 93 [.pointer (some ⟨b14, 0, none⟩)] (fun x => decide (x ∈ xa)) A13 c13 xb I4 (by kernel_rfl) (by omega) fun I' hI' x => known_spec b14 A12 c12 xa I' (fun _ _ => Rd.imm (cellH_mono (hm4.trans hI') (Blk.cell h4 rfl))) (hxa.mono hI') x
  repeat' first
    | ((with_reducible refine Nx.is_wp ?_); first | refine Nx.wo ?_ | refine Nx.zp (fun hc => ?_) (fun hc => ?_))
    | (refine Nx.zo ?_; first | refine Nx.opr rfl rfl ?_ | (refine Nx.call rfl rfl rfl (by kernel_rfl) rfl hD (by (exact Ent.auto)) ?_; rintro _ _ ⟨rfl, rfl⟩) | refine Nx.so ?_ | refine Nx.sb (fun bx => ?_) | refine Nx.sa (fun A2 c2 => ?_))
    | ((with_reducible refine Nx.is_at ?_); first | refine Nx.a ?_ | refine Nx.zd ?_ | refine Nx.zs (fun hc => ?_) (fun hc => ?_))
    | ((with_reducible refine Nx.is_mix ?_); first | refine Nx.m ?_ | refine Nx.zm ?_ | refine Nx.zt (fun hc => ?_) (fun hc => ?_))
    | refine Nx.zx ?_ | fail
  exact Nx.imm_le (((hI1.trans hI2).trans hI3).trans hI4) (Nx.ret_fn rfl [_] ⟨A13, c13, rfl, rfl⟩ (by (exact Ent.auto)))
end Go.Proofs.YtcmdemfhbekabaaGreat
/- Contracts of functions of the given program, and lemmas about plain lists and numbers: what the laws of this seat lean on. -/
namespace Go.Proofs.YtcmdemfhbekabaaGreat
open Go.Eng Go.Sol
attribute [local irreducible] opK wpList Code.wp Exit.then Exit.inBlock fnPost bodyPost Nx Calls Oper.wp Rd Rds Wr Ent Stars Blk Again Vec FnSpec wpMix QRun Stop Upto wpAt
/-! The example of the chapter on an attacker -/
def exA (v1 g1 x1 : Nat) : List Rel := [⟨0, some ⟨v1, 0, none⟩, 1, [(some ⟨g1, 0, none⟩, 2, [0, 0])], (some ⟨x1, 0, none⟩, 1, [1])⟩]
def exB (v2 g2 x2 : Nat) : Rel := ⟨1, some ⟨v2, 0, none⟩, 1, [(some ⟨g2, 0, none⟩, 2, [0, 1])], (some ⟨x2, 0, none⟩, 2, [0, -1])⟩
theorem exQ1 (v1 g1 x1 : Nat) : eqns (qsOf [2] (exA v1 g1 x1)) = [([0, 1], 1)] := by kernel_rfl
theorem exQ2 (v1 g1 x1 v2 g2 x2 : Nat) : eqns (qsOf [2] (exA v1 g1 x1 ++ [exB v2 g2 x2])) = [([0, 1], 1), ([0], 0)] := by kernel_rfl
theorem exT1 (v1 g1 x1 : Nat) : tolE [2] (exA v1 g1 x1) = 0 := by kernel_rfl
theorem exT2 (v1 g1 x1 v2 g2 x2 : Nat) : tolE [2] (exA v1 g1 x1 ++ [exB v2 g2 x2]) = 0 := by kernel_rfl
theorem exO1 : solsOf 2 [([0, 1], 1)] = [[0, 1], [1, 0]] := by kernel_rfl
theorem exO2 : solsOf 2 [([0, 1], 1), ([0], 0)] = [[0, 1]] := by kernel_rfl
theorem exU1 : touch 2 [([0, 1], 1)] = [0, 1] := by kernel_rfl
theorem exU2 : touch 2 [([0, 1], 1), ([0], 0)] = [0, 1] := by kernel_rfl
theorem vals_of {n k : Nat} {L : List Eqn} {S : List (List Int)} {r : List Int} (hS : solsOf n L = S) (hr : r.Pairwise (· < ·)) (h : ∀ z, z ∈ r ↔ z ∈ S.map fun s => s.getD k 0) : valsOf n L k = r :=
  (vals_set n L k).same (q := fun z => z ∈ r) ⟨hr, fun _ => Iff.rfl⟩ fun z => by rw [h, hS, List.mem_map]
theorem exV10 : valsOf 2 [([0, 1], 1)] 0 = [0, 1] := vals_of exO1 (by decide) fun _ => Iff.rfl
theorem exV11 : valsOf 2 [([0, 1], 1)] 1 = [0, 1] := vals_of exO1 (by decide) fun z => by simp [or_comm]
theorem exV20 : valsOf 2 [([0, 1], 1), ([0], 0)] 0 = [0] := vals_of exO2 (by decide) fun _ => Iff.rfl
theorem exV21 : valsOf 2 [([0, 1], 1), ([0], 0)] 1 = [1] := vals_of exO2 (by decide) fun _ => Iff.rfl
theorem exC1 : certF 2 [([0, 1], 1)] = ([], 0) := by
  unfold certF certL certU
  rw [exO1, exU1, if_neg (by decide), List.filter_cons_of_neg (by rw [exV10]; decide), List.filter_cons_of_neg (by rw [exV11]; decide)]
  rfl
theorem exC2 : certF 2 [([0, 1], 1), ([0], 0)] = ([0, 1], 0) := by
  unfold certF certL certU
  rw [exO2, exU2, if_neg (by decide), List.filter_cons_of_pos (by rw [exV20]; decide), List.filter_cons_of_pos (by rw [exV21]; decide)]
  rfl
theorem exAC (v1 g1 x1 : Nat) : cerD [2] (exA v1 g1 x1) = ([], 0) := by
  unfold cerD
  rw [exT1, if_pos rfl, exQ1]
  exact exC1
theorem exAC2 (v1 g1 x1 v2 g2 x2 : Nat) : cerD [2] (exA v1 g1 x1 ++ [exB v2 g2 x2]) = ([0, 1], 0) := by
  unfold cerD
  rw [exT2, if_pos rfl, exQ2]
  exact exC2
theorem exAV (v1 g1 x1 : Nat) : valD [2] (exA v1 g1 x1) 0 = ([0, 1], 0) := by
  unfold valD
  rw [exT1, if_pos rfl, exQ1]
  show valF 2 [([0, 1], 1)] 0 = _
  unfold valF
  rw [if_neg (by decide), exO1, if_neg (by decide), show (0 : Int).toNat = 0 from rfl, exU1, if_pos (by decide), exV10]
theorem exAL (v1 g1 x1 v2 g2 x2 : Nat) : lrnD [2] (exA v1 g1 x1) (exB v2 g2 x2) = ([0, 1], 0) := by
  unfold lrnD
  rw [exT1, exT2, exAC, exAC2, if_neg (by decide), if_neg (by decide), if_neg (by decide), if_neg (by decide)]
  rfl
theorem exS2 : Sizes [2] := ⟨by decide, by decide, by decide⟩
set_option maxRecDepth 10000 in
set_option maxHeartbeats 16000000 in
theorem awakeA_spec (I : PH) : FnSpec Tryz.prog 24 [] I [] (fun v R' => v = .bool true ∧ R' = []) := by
  refine FnSpec.enterP Tryz.func24 rfl Tryz.ntmps24 rfl fun w F => ?_
  repeat' first
    | ((with_reducible refine Nx.is_wp ?_); first | refine Nx.p_stopr 3 rfl ?_ | refine Nx.wo ?_ | refine Nx.zp (fun hc => ?_) (fun hc => ?_))
    | (refine Nx.zo ?_; first | refine Nx.opr rfl rfl ?_ | refine Nx.so ?_ | refine Nx.sb (fun bx => ?_) | refine Nx.sa (fun A2 c2 => ?_))
    | ((with_reducible refine Nx.is_at ?_); first | refine Nx.a ?_ | refine Nx.zd ?_ | refine Nx.zs (fun hc => ?_) (fun hc => ?_))
    | ((with_reducible refine Nx.is_mix ?_); first | refine Nx.m ?_ | refine Nx.zm ?_ | refine Nx.zt (fun hc => ?_) (fun hc => ?_))
    | refine Nx.zx ?_ | fail
  refine Nx.unstop ?_
  rename_i bsz b1 g1 v1 x1
  revert bx; intro brl
  refine Nx.ent (R' := Stars [Blk brl 62 [.int .i64 0, .slice (some ⟨v1, 0, none⟩) 1 1, .slice (some ⟨x1, 0, none⟩) 1 1], Blk x1 3 [.int .i64 1], Blk v1 25 [.slice (some ⟨g1, 0, none⟩) 2 2], Blk g1 3 [.int .i64 0, .int .i64 0], Blk bsz 3 [.int .i64 2]] :: [Blk b1 27 [.slice (some ⟨bsz, 0, none⟩) 1 1], F]) (Ent.trans (R' := [Blk brl 62 [.int .i64 0, .slice (some ⟨v1, 0, none⟩) 1 1, .slice (some ⟨x1, 0, none⟩) 1 1], Blk x1 3 [.int .i64 1], Blk v1 25 [.slice (some ⟨g1, 0, none⟩) 2 2], Blk g1 3 [.int .i64 0, .int .i64 0], Blk bsz 3 [.int .i64 2]] ++ [Blk b1 27 [.slice (some ⟨bsz, 0, none⟩) 1 1], F]) (by (exact Ent.auto)) Ent.stars) ?_
  refine Nx.freezeAt 0 rfl fun I1 m1 hI1 hm1 h1 => ?_
  obtain ⟨k0, l0, c0⟩ := Stars.get 0 h1 rfl
  obtain ⟨k1, l1, c1⟩ := Stars.get 1 h1 rfl
  obtain ⟨k2, l2, c2⟩ := Stars.get 2 h1 rfl
  obtain ⟨k3, l3, c3⟩ := Stars.get 3 h1 rfl
  obtain ⟨k4, l4, c4⟩ := Stars.get 4 h1 rfl
  have hsz : Ints I1 (some ⟨bsz, 0, none⟩) 1 [2] := Blk.sliceOf (t := 3) (l := [2]) (l4.trans hm1) c4 (by decide)
  have hG1 : Ints I1 (some ⟨g1, 0, none⟩) 2 [0, 0] := Blk.sliceOf (t := 3) (l := [0, 0]) (l3.trans hm1) c3 (by decide)
  have hR1 : RowsOf I1 (some ⟨v1, 0, none⟩) 1 [(some ⟨g1, 0, none⟩, 2, [0, 0])] := ⟨Blk.sliceOf (t := 25) (l := [((some ⟨g1, 0, none⟩, 2, [0, 0]) : Row)]) (l2.trans hm1) c2 (by unfold maxLen; simp), fun r hr => by rw [List.mem_singleton.1 hr]; exact hG1⟩
  have hX1 : Ints I1 (some ⟨x1, 0, none⟩) 1 [1] := Blk.sliceOf (t := 3) (l := [1]) (l1.trans hm1) c1 (by decide)
  have hRs : Rels I1 (some ⟨brl, 0, none⟩) 1 (exA v1 g1 x1) := ⟨Blk.sliceN (t := 62) (l := exA v1 g1 x1) (l0.trans hm1) c0 (fun _ _ => rfl) (by unfold maxLen exA; simp), fun r hr => by
      rw [List.mem_singleton.1 hr]
      exact hR1, fun r hr => by
      rw [List.mem_singleton.1 hr]
      exact hX1⟩
  have hw1 : Viewed [2] [(some ⟨g1, 0, none⟩, 2, [0, 0])] := ⟨rfl, fun k hk => by
    obtain rfl : k = 0 := by simpa using hk
    exact ⟨rfl, rfl⟩⟩
  have hw : ∀ r ∈ exA v1 g1 x1, Viewed [2] r.v := fun r hr => by
    rw [List.mem_singleton.1 hr]
    exact hw1
  have hh1 : (exA v1 g1 x1).length ≤ 1000 := show 1 ≤ 1000 by decide
  have hC : FnSpec Tryz.prog 23 [.agg #[.slice (some ⟨bsz, 0, none⟩) 1 1], .slice (some ⟨brl, 0, none⟩) 1 1] I1 [] (fun u R' => ∃ (A' : Option Addr) (c' : Nat), u = .tuple #[.slice A' 0 c', .int .i64 0] ∧ R' = [iR A' c' []]) := by
    have h := Certain_spec (some ⟨bsz, 0, none⟩) (some ⟨brl, 0, none⟩) 1 1 [2] (exA v1 g1 x1) I1 hsz exS2 hRs hw
    rw [exAC] at h
    exact h
  have hV : FnSpec Tryz.prog 25 [.agg #[.slice (some ⟨bsz, 0, none⟩) 1 1], .slice (some ⟨brl, 0, none⟩) 1 1, .int .i64 0] I1 [] (fun u R' => ∃ (A' : Option Addr) (c' : Nat), u = .tuple #[.slice A' 2 c', .int .i64 0] ∧ R' = [iR A' c' [0, 1]]) := by
    have h := Values_spec (some ⟨bsz, 0, none⟩) (some ⟨brl, 0, none⟩) 1 1 [2] (exA v1 g1 x1) 0 I1 hsz exS2 hRs hw
    rw [exAV] at h
    exact h
  have hL := fun (v2 g2 x2 : Nat) (m I' : PH) (hle : PH.le I1 I') (hm : PH.le m I') (hv : Stars [Blk g2 3 [.int .i64 0, .int .i64 1], Blk v2 25 [.slice (some ⟨g2, 0, none⟩) 2 2], Blk x2 3 [.int .i64 0, .int .i64 (-1)]] m) => (by
    obtain ⟨q1, z1, y1⟩ := Stars.get 0 hv rfl
    obtain ⟨q2, z2, y2⟩ := Stars.get 1 hv rfl
    obtain ⟨q3, z3, y3⟩ := Stars.get 2 hv rfl
    have hG2 : Ints I' (some ⟨g2, 0, none⟩) 2 [0, 1] := Blk.sliceOf (t := 3) (l := [0, 1]) (z1.trans hm) y1 (by decide)
    have hR2 : RowsOf I' (some ⟨v2, 0, none⟩) 1 [(some ⟨g2, 0, none⟩, 2, [0, 1])] := ⟨Blk.sliceOf (t := 25) (l := [((some ⟨g2, 0, none⟩, 2, [0, 1]) : Row)]) (z2.trans hm) y2 (by unfold maxLen; simp), fun r hr => by rw [List.mem_singleton.1 hr]; exact hG2⟩
    have hX2 : Ints I' (some ⟨x2, 0, none⟩) 2 [0, -1] := Blk.sliceOf (t := 3) (l := [0, -1]) (z3.trans hm) y3 (by decide)
    have hw2 : Viewed [2] [(some ⟨g2, 0, none⟩, 2, [0, 1])] := ⟨rfl, fun k hk => by
      obtain rfl : k = 0 := by simpa using hk
      exact ⟨rfl, rfl⟩⟩
    have h := Learns_spec (some ⟨bsz, 0, none⟩) (some ⟨brl, 0, none⟩) 1 1 [2] (exA v1 g1 x1) (exB v2 g2 x2) I' (hsz.mono hle) exS2 (hRs.mono hle) hw hh1 hR2 hX2 hw2
    rw [exAL] at h
    exact h :
    FnSpec Tryz.prog 42 [.agg #[.slice (some ⟨bsz, 0, none⟩) 1 1], .slice (some ⟨brl, 0, none⟩) 1 1, .agg #[.int .i64 1, .slice (some ⟨v2, 0, none⟩) 1 1, .slice (some ⟨x2, 0, none⟩) 2 2]] I' [] (fun u R' => ∃ (A' : Option Addr) (c' : Nat), u = .tuple #[.slice A' 2 c', .int .i64 0] ∧ R' = [iR A' c' [0, 1]]))
  have hIn := fun (A' : Option Addr) (c' bq : Nat) (m I' : PH) (_ : PH.le I1 I') (hm : PH.le m I') (hv : Stars [iR A' c' [0, 1], Blk bq 3 [.int .i64 0, .int .i64 1]] m) => (by
    obtain ⟨q1, z1, y1⟩ := Stars.get 0 hv rfl
    obtain ⟨q2, z2, y2⟩ := Stars.get 1 hv rfl
    have h := Ints_spec A' (some ⟨bq, 0, none⟩) c' 2 [0, 1] [0, 1] I' (Vec.sliceOf (z1.trans hm) y1) (Blk.sliceOf (t := 3) (l := [0, 1]) (z2.trans hm) y2 (by decide))
    rw [decide_eq_true rfl] at h
    exact h :
    FnSpec Tryz.prog 34 [.slice A' 2 c', .slice (some ⟨bq, 0, none⟩) 2 2] I' [] (fun u R' => u = .bool true ∧ R' = []))
  repeat' first
    | ((with_reducible refine Nx.is_wp ?_); first | refine Nx.wo ?_ | refine Nx.zp (fun hc => ?_) (fun hc => ?_))
    | (refine Nx.zo ?_; first | refine Nx.opr rfl rfl ?_ | (refine Nx.call (Rpre := []) rfl rfl rfl (by kernel_rfl) rfl hC (Ent.refl _) ?_; rintro _ _ ⟨Ac, cc, rfl, rfl⟩) | (refine Nx.call (Rpre := []) rfl rfl rfl (by kernel_rfl) rfl hV (Ent.refl _) ?_; rintro _ _ ⟨Av, cv, rfl, rfl⟩) | (rename_i g2 v2; refine Nx.call rfl rfl rfl (by kernel_rfl) rfl (FnSpec.keep [Blk g2 3 [.int .i64 0, .int .i64 1], Blk v2 25 [.slice (some ⟨g2, 0, none⟩) 2 2], Blk bx 3 [.int .i64 0, .int .i64 (-1)]] fun m I' hle hm' hv => hL v2 g2 bx m I' hle hm' hv) (by (exact Ent.auto)) ?_; rintro _ _ ⟨_, ⟨Al, cl, rfl, rfl⟩, rfl⟩) | (refine Nx.call rfl rfl rfl (by kernel_rfl) rfl (FnSpec.keep [iR _ _ [0, 1], Blk _ 3 [.int .i64 0, .int .i64 1]] fun m I' hle hm' hv => hIn _ _ _ m I' hle hm' hv) (by (exact Ent.auto)) ?_; rintro _ _ ⟨_, ⟨rfl, rfl⟩, rfl⟩) | refine Nx.so ?_ | refine Nx.sb (fun bx => ?_) | refine Nx.sa (fun A2 c2 => ?_))
    | ((with_reducible refine Nx.is_at ?_); first | refine Nx.a ?_ | refine Nx.zd ?_ | refine Nx.zs (fun hc => ?_) (fun hc => ?_))
    | ((with_reducible refine Nx.is_mix ?_); first | refine Nx.m ?_ | refine Nx.zm ?_ | refine Nx.zt (fun hc => ?_) (fun hc => ?_))
    | refine Nx.zx ?_ | fail
  exact Nx.imm_le hI1 (Nx.ret_fn rfl [] ⟨rfl, rfl⟩ (by (exact Ent.auto)))
end Go.Proofs.YtcmdemfhbekabaaGreat
/- Contracts of functions of the given program, and lemmas about plain lists and numbers: what the laws of this seat lean on. -/
namespace Go.Proofs.YtcmdemfhbekabaaGreat
open Go.Eng Go.Sol
attribute [local irreducible] opK wpList Code.wp Exit.then Exit.inBlock fnPost bodyPost Nx Calls Oper.wp Rd Rds Wr Ent Stars Blk Again Vec FnSpec wpMix QRun Stop Upto wpAt
/-! Plain: what the laws on the attacker say -/
theorem vals_ne {n k : Nat} {L : List Eqn} (hne : solsOf n L ≠ []) : 0 < (valsOf n L k).length := by
  obtain ⟨s, hs⟩ := List.exists_mem_of_ne_nil _ hne
  exact List.length_pos_of_mem (((vals_set n L k).mem _).2 ⟨s, hs, rfl⟩)
theorem asc_lt {l : List Int} (h : l.Pairwise (· < ·)) {i j : Nat} (hij : i < j) (hj : j < l.length) : l.getD i default < l.getD j default := by
  rw [List.pairwise_iff_getElem] at h
  have := h i j (by omega) hj hij
  rw [List.getD_eq_getElem?_getD, List.getD_eq_getElem?_getD, List.getElem?_eq_getElem (show i < l.length by omega), List.getElem?_eq_getElem hj]
  exact this
theorem vals_reach {n k : Nat} {l : List EqR} (hg : ∀ q ∈ l, GoodE n q) (hk : k ∈ touch n (eqns l)) (hne : solsOf n (eqns l) ≠ []) :
    reachAt n (eqns l) k = ((valsOf n (eqns l) k).getD 0 default, (valsOf n (eqns l) k).getD ((valsOf n (eqns l) k).length - 1) default, false) := by
  have hv := vals_set n (eqns l) k
  have h0 := vals_ne (k := k) hne
  refine reach_is hg hk hne ((hv.mem _).1 (getD_memI h0)) ((hv.mem _).1 (getD_memI (by omega))) fun s hs => ?_
  obtain ⟨j, hj, he⟩ := mem_getDI ((hv.mem _).2 ⟨s, hs, rfl⟩)
  rw [← he]
  constructor
  · rcases Nat.eq_zero_or_pos j with rfl | h
    · exact Int.le_refl _
    · exact Int.le_of_lt (asc_lt hv.asc h hj)
  · rcases Nat.lt_or_ge j ((valsOf n (eqns l) k).length - 1) with h | h
    · exact Int.le_of_lt (asc_lt hv.asc h (by omega))
    · rw [show j = (valsOf n (eqns l) k).length - 1 by omega]; exact Int.le_refl _
theorem vals_one {n k : Nat} {L : List Eqn} {s : List Int} (h1 : (valsOf n L k).length = 1) (hs : s ∈ solsOf n L) : (valsOf n L k).getD 0 default = s.getD k 0 := by
  obtain ⟨j, hj, he⟩ := mem_getDI (((vals_set n L k).mem _).2 ⟨s, hs, rfl⟩)
  obtain rfl : j = 0 := by omega
  exact he
theorem mem_cert {n : Nat} {L : List Eqn} {x : Int} : x ∈ certL n L ↔ ∃ k ∈ touch n L, (valsOf n L k).length = 1 ∧ x = (k : Int) := by
  unfold certL certU natI
  rw [List.mem_map]
  constructor
  · rintro ⟨k, hk, rfl⟩
    rw [List.mem_filter, decide_eq_true_eq] at hk
    exact ⟨k, hk.1, hk.2, rfl⟩
  · rintro ⟨k, h1, h2, rfl⟩
    exact ⟨k, List.mem_filter.2 ⟨h1, decide_eq_true h2⟩, rfl⟩
theorem cert_at {n k : Nat} {L : List Eqn} : (k : Int) ∈ certL n L ↔ k ∈ touch n L ∧ (valsOf n L k).length = 1 := by
  rw [mem_cert]
  constructor
  · rintro ⟨j, h1, h2, h3⟩
    obtain rfl : k = j := by omega
    exact ⟨h1, h2⟩
  · exact fun h => ⟨k, h.1, h.2, rfl⟩
/-- Releases of a made table. -/
structure MadeA (l t : List Int) (rs : List Rel) : Prop where
  rel : relsE l rs = 0
  good : ∀ q ∈ qsOf l rs, GoodE (prod l).toNat q
  len : (qsOf l rs).length ≤ 1152
  ne : solsOf (prod l).toNat (eqns (qsOf l rs)) ≠ []
  want : wantL (prod l).toNat (touch (prod l).toNat (eqns (qsOf l rs))) t ∈ solsOf (prod l).toNat (eqns (qsOf l rs))
  chk : chkQ (prod l) (qsOf l rs) = if smallB (prod l).toNat (eqns (qsOf l rs)) = false then 1 else 0
theorem made_a {l t : List Int} {rs : List Rel} (hs : Sizes l) (hT : tabOk l t 2) (h : RelsOk l t rs) (hn : rs.length ≤ 24) : MadeA l t rs := by
  have hV := relsV_of hs hT (by decide) (by decide) h hn
  have hz := size_ok hs
  have hg := told_good hs hV
  have hchk := chk_of (N := (prod l).toNat) (qs := qsOf l rs) (by omega) (hV.qlen hs) hg
  rw [hz.2.2] at hchk
  have hw := want_sol (t := t) hg (fun c _ => by
    by_cases hct : c < t.length
    · have := hT.2 c hct
      show 0 ≤ t.getD c default ∧ t.getD c default ≤ 1000000
      omega
    · rw [getD_ge (by omega)]; decide) fun q hq => by
      obtain ⟨p, hp, rfl⟩ := List.mem_map.1 hq
      exact (told_eq (q := canonE p) hs hT (by decide) (by decide) h hn hp).2
  exact ⟨(relsE_iff hs (views_of h)).2 hV, hg, hV.qlen hs, List.ne_nil_of_mem hw, hw, hchk⟩
theorem MadeA.tol {l t : List Int} {rs : List Rel} (h : MadeA l t rs) : tolE l rs = chkQ (prod l) (qsOf l rs) := by unfold tolE; rw [if_pos h.rel]
theorem MadeA.cer {l t : List Int} {rs : List Rel} (h : MadeA l t rs) : cerD l rs = if tolE l rs = 0 then (certL (prod l).toNat (eqns (qsOf l rs)), 0) else ([], tolE l rs) := by
  unfold cerD certF
  rw [if_neg h.ne]
theorem MadeA.rch {l t : List Int} {rs : List Rel} (h : MadeA l t rs) : reachR (prod l) (qsOf l rs) = if tolE l rs = 0 then ((List.range (prod l).toNat).map (reachAt (prod l).toNat (eqns (qsOf l rs))), 0) else ([], tolE l rs) := by
  unfold reachR
  rw [h.tol, if_neg h.ne]
/-- What the law on reaches wants of one cell. -/
theorem reach_law {l t : List Int} {rs : List Rel} (hs : Sizes l) (h : MadeA l t rs) (h0 : tolE l rs = 0) {k : Nat} (hk : k < (prod l).toNat) :
    (reachAt (prod l).toNat (eqns (qsOf l rs)) k = (0, 0, true) ∧ valD l rs k = ([], 21) ∧ (k : Int) ∉ certL (prod l).toNat (eqns (qsOf l rs))) ∨
    ∃ vs : List Int, reachAt (prod l).toNat (eqns (qsOf l rs)) k = (vs.getD 0 default, vs.getD (vs.length - 1) default, false) ∧ valD l rs k = (vs, 0) ∧ 0 < vs.length ∧ ((k : Int) ∈ certL (prod l).toNat (eqns (qsOf l rs)) ↔ vs.length = 1) ∧ (vs.length = 1 → vs.getD 0 default = t.getD k default) := by
  have hz := size_ok hs
  unfold valD valF
  rw [if_pos h0, if_neg (by omega), if_neg h.ne, Int.toNat_natCast]
  by_cases hm : k ∈ touch (prod l).toNat (eqns (qsOf l rs))
  · rw [if_pos hm]
    refine .inr ⟨_, vals_reach h.good hm h.ne, rfl, vals_ne h.ne, ?_, fun h1 => ?_⟩
    · rw [cert_at]; exact ⟨fun h => h.2, fun h => ⟨hm, h⟩⟩
    · rw [vals_one h1 h.want, wantL_at hk, if_pos hm]; rfl
  · rw [if_neg hm]
    refine .inl ⟨?_, rfl, fun hc => hm (cert_at.1 hc).1⟩
    unfold reachAt
    rw [if_neg hm]
end Go.Proofs.YtcmdemfhbekabaaGreat
/- Contracts of functions of the given program, and lemmas about plain lists and numbers: what the laws of this seat lean on. -/
namespace Go.Proofs.YtcmdemfhbekabaaGreat
open Go.Eng Go.Sol
attribute [local irreducible] opK wpList Code.wp Exit.then Exit.inBlock fnPost bodyPost Nx Calls Oper.wp Rd Rds Wr Ent Stars Blk Again Vec FnSpec wpMix QRun Stop Upto wpAt
/-! The law on reaches -/
set_option maxRecDepth 10000 in
set_option maxHeartbeats 16000000 in
theorem AttackerReaches_spec (A : Option Addr) (c : Nat) (l : List Int) (I : PH) (hl : Bytes I A c l) (hx : ∀ x ∈ l, 0 ≤ x ∧ x < 256) :
    FnSpec Tryz.prog 5 [.slice A l.length c] I [] (fun v R' => v = .bool true ∧ R' = []) := by
  have hL := bytes_take hl hx
  refine FnSpec.enterP Tryz.func5 rfl Tryz.ntmps5 rfl fun w F => ?_
  repeat' first
    | ((with_reducible refine Nx.is_wp ?_); first | refine Nx.p_stopr 3 rfl ?_ | refine Nx.wo ?_ | refine Nx.zp (fun hc => ?_) (fun hc => ?_))
    | (refine Nx.zo ?_; first | refine Nx.opr rfl rfl ?_ | (refine Nx.call (Rpre := []) rfl rfl rfl (by kernel_rfl) rfl (New_codes A c l I hl) (Ent.refl _) ?_; rintro _ _ ⟨b, rfl, rfl⟩) | (refine Nx.call rfl rfl rfl (by kernel_rfl) rfl (Told_made b A c _ 0 2 3 I hL (Nat.zero_le _) (by omega) (by omega)) (by (exact Ent.auto)) ?_; rintro _ _ ⟨B, c', s, At, ct, t, As, ca, rs, k1, rfl, hs, hT, hrn, hro, hk1, rfl⟩) | refine Nx.so ?_ | refine Nx.sb (fun bx => ?_) | refine Nx.sa (fun A2 c2 => ?_))
    | ((with_reducible refine Nx.is_at ?_); first | refine Nx.a ?_ | refine Nx.zd ?_ | refine Nx.zs (fun hc => ?_) (fun hc => ?_))
    | ((with_reducible refine Nx.is_mix ?_); first | refine Nx.m ?_ | refine Nx.zm ?_ | refine Nx.zt (fun hc => ?_) (fun hc => ?_))
    | refine Nx.zx ?_ | fail
  refine Nx.unstop ?_
  revert bx; intro b4
  refine Nx.giveTold (B := B) (c' := c') (s := s) (At := At) (ct := ct) (t := t) (As := As) (ca := ca) (rs := rs) (RR := [Blk b4 27 [.slice B s.length c'], F]) (by refine Ent.trans (R' := toldR B c' s At ct t As ca rs ++ [Blk b4 27 [.slice B s.length c'], F]) ?_ Ent.stars; unfold toldR; (exact Ent.auto)) fun I1 hI1 hz ht hrs => ?_
  have hzs := size_ok hs
  have hM := made_a hs hT hro (by omega)
  have hV := relsV_of hs hT (by decide) (by decide) hro (by omega)
  have hwv := views_of hro
  have htn := hT.1
  have hCt := RCount_spec B c' s I1 hz hs
  have hAl := REAll_spec B As c' ca s rs I1 hz hs hrs hV
  have hCe := fun I' (hle : PH.le I1 I') => Certain_spec B As c' ca s rs I' (hz.mono hle) hs (hrs.mono hle) hwv
  have hVa := fun I' (hle : PH.le I1 I') k => Values_spec B As c' ca s rs k I' (hz.mono hle) hs (hrs.mono hle) hwv
  repeat' first
    | ((with_reducible refine Nx.is_wp ?_); first | refine Nx.p_stopr 5 rfl ?_ | refine Nx.wo ?_ | refine Nx.zp (fun hc => ?_) (fun hc => ?_))
    | (refine Nx.zo ?_; first | refine Nx.opr rfl rfl ?_ | refine Nx.callv rfl rfl rfl (by kernel_rfl) rfl hCt ?_ | (refine Nx.call (Rpre := []) rfl rfl rfl (by kernel_rfl) rfl hAl (Ent.refl _) ?_; rintro _ _ ⟨Am, cm, qs, rfl, hqs, -, rfl⟩) | refine Nx.so ?_ | refine Nx.sb (fun bx => ?_) | refine Nx.sa (fun A2 c2 => ?_))
    | ((with_reducible refine Nx.is_at ?_); first | refine Nx.a ?_ | refine Nx.zd ?_ | refine Nx.zs (fun hc => ?_) (fun hc => ?_))
    | ((with_reducible refine Nx.is_mix ?_); first | refine Nx.m ?_ | refine Nx.zm ?_ | refine Nx.zt (fun hc => ?_) (fun hc => ?_))
    | refine Nx.zx ?_ | fail
  refine Nx.unstop ?_
  refine Nx.giveE (A := Am) (c := cm) (qs := qs) (RR := [Blk b4 27 [.slice B s.length c'], F]) (by (exact Ent.auto)) fun I2 hI2 hE => ?_
  have hRr := RReaches_spec (prod s) Am cm qs I2 hE
  have hrq : reachR (prod s) qs = reachR (prod s) (qsOf s rs) := cont_reach hqs (prod s)
  rw [hrq, hM.rch] at hRr
  have hCe2 := hCe I2 hI2
  rw [hM.cer] at hCe2
  have hlaw := fun h0 k hk => reach_law hs hM h0 (k := k) hk
  by_cases h0 : tolE s rs = 0
  case neg =>
    rw [if_neg h0] at hRr hCe2
    clear hlaw
    generalize tolE s rs = er at h0 hRr hCe2
    repeat' first
      | ((with_reducible refine Nx.is_wp ?_); first | refine Nx.wo ?_ | refine Nx.zp (fun hc => ?_) (fun hc => ?_))
      | (refine Nx.zo ?_; first | refine Nx.opr rfl rfl ?_ | (refine Nx.call (Rpre := []) rfl rfl rfl (by kernel_rfl) rfl hRr (Ent.refl _) ?_; rintro _ _ ⟨Ar, cr', rfl, rfl⟩) | (refine Nx.call (Rpre := []) rfl rfl rfl (by kernel_rfl) rfl hCe2 (Ent.refl _) ?_; rintro _ _ ⟨Ac, cc, rfl, rfl⟩) | refine Nx.callv rfl rfl rfl (by kernel_rfl) rfl (awakeA_spec _) ?_ | refine Nx.so ?_ | refine Nx.sb (fun bx => ?_) | refine Nx.sa (fun A2 c2 => ?_))
      | ((with_reducible refine Nx.is_at ?_); first | refine Nx.a ?_ | refine Nx.zd ?_ | refine Nx.zs (fun hc => ?_) (fun hc => ?_))
      | ((with_reducible refine Nx.is_mix ?_); first | refine Nx.m ?_ | refine Nx.zm ?_ | refine Nx.zt (fun hc => ?_) (fun hc => ?_))
      | refine Nx.zx ?_ | fail
    exact Nx.imm_le (hI1.trans hI2) (Nx.ret_fn rfl [] ⟨rfl, rfl⟩ (by (exact Ent.auto)))
  rw [if_pos h0] at hRr hCe2
  replace hlaw := hlaw h0
  have hN := hzs.2.2
  have hN48 := hzs.2.1
  have hrl : ((List.range (prod s).toNat).map (reachAt (prod s).toNat (eqns (qsOf s rs)))).length = (prod s).toNat := by simp
  have hra : ∀ k, k < (prod s).toNat → ((List.range (prod s).toNat).map (reachAt (prod s).toNat (eqns (qsOf s rs)))).getD k default = reachAt (prod s).toNat (eqns (qsOf s rs)) k := fun k hk => range_at hk
  generalize (List.range (prod s).toNat).map (reachAt (prod s).toNat (eqns (qsOf s rs))) = rl at hRr hrl hra
  have hcl : (certL (prod s).toNat (eqns (qsOf s rs))).length ≤ (prod s).toNat := Nat.le_trans (certU_len _) (touch_len _ _)
  generalize certL (prod s).toNat (eqns (qsOf s rs)) = xs at hCe2 hlaw hcl
  have htl : t.length = (prod s).toNat := htn
  generalize (prod s).toNat = N at hN hN48 hrl hra hlaw hcl htl
  repeat' first
    | ((with_reducible refine Nx.is_wp ?_); first | refine Nx.p_stopr 7 rfl ?_ | refine Nx.wo ?_ | refine Nx.zp (fun hc => ?_) (fun hc => ?_))
    | (refine Nx.zo ?_; first | refine Nx.opr rfl rfl ?_ | (refine Nx.call (Rpre := []) rfl rfl rfl (by kernel_rfl) rfl hRr (Ent.refl _) ?_; rintro _ _ ⟨Ar, cr', rfl, rfl⟩) | (refine Nx.call (Rpre := []) rfl rfl rfl (by kernel_rfl) rfl hCe2 (Ent.refl _) ?_; rintro _ _ ⟨Ac, cc, rfl, rfl⟩) | refine Nx.so ?_ | refine Nx.sb (fun bx => ?_) | refine Nx.sa (fun A2 c2 => ?_))
    | ((with_reducible refine Nx.is_at ?_); first | refine Nx.a ?_ | refine Nx.zd ?_ | refine Nx.zs (fun hc => ?_) (fun hc => ?_))
    | ((with_reducible refine Nx.is_mix ?_); first | refine Nx.m ?_ | refine Nx.zm ?_ | refine Nx.zt (fun hc => ?_) (fun hc => ?_))
    | refine Nx.zx ?_ | fail
  refine Nx.unstop ?_
  refine Nx.ent (R' := [iR Ac cc xs, rcR Ar cr' rl, Blk b4 27 [.slice B s.length c'], F]) (by (exact Ent.auto)) ?_
  refine Nx.freezeAt 0 rfl fun I3 m3 hI3 hm3 h3 => ?_
  refine Nx.freezeAt 0 rfl fun I4 m4 hI4 hm4 h4 => ?_
  have hle4 := (hI2.trans hI3).trans hI4
  have hxs : Ints I4 Ac cc xs := (Vec.sliceOf hm3 h3).mono hI4
  have hRc : Rchs I4 Ar cr' rl := Vec.sliceN hm4 h4 fun x _ => rcC_len x
  replace ht := ht.mono hle4
  replace hVa := hVa I4 hle4
  repeat' first
    | ((with_reducible refine Nx.is_wp ?_); first | refine Nx.wo ?_ | refine Nx.zp (fun hc => ?_) (fun hc => ?_))
    | (refine Nx.zo ?_; first | refine Nx.opr rfl rfl ?_ | refine Nx.so ?_ | refine Nx.sb (fun bx => ?_) | refine Nx.sa (fun A2 c2 => ?_))
    | ((with_reducible refine Nx.is_at ?_); first | refine Nx.a ?_ | refine Nx.zd ?_ | refine Nx.zs (fun hc => ?_) (fun hc => ?_))
    | ((with_reducible refine Nx.is_mix ?_); first | refine Nx.m ?_ | refine Nx.zm ?_ | refine Nx.zt (fun hc => ?_) (fun hc => ?_))
    | refine Nx.zx ?_ | fail
  refine Nx.p_loop (σ := Nat) (fun k => [(4, .pointer (some ⟨b4, 0, none⟩)), (5, .slice At t.length ct), (6, .slice As rs.length ca), (7, .int .i64 (prod s)), (10, .slice Ar rl.length cr'), (12, .slice Ac xs.length cc), (14, .int .i64 (k : Int))])
    (fun _ => [Blk b4 27 [.slice B s.length c'], F]) (fun k => k ≤ N) (fun k => N - k) 0 rfl (Nat.zero_le _) ⟨rfl, rfl, rfl, rfl, rfl, rfl, rfl, trivial⟩ (by (exact Ent.auto)) ?_
  intro k hk
  have hk : k ≤ N := hk
  by_cases hkN : k < N
  case neg =>
    repeat' first
      | ((with_reducible refine Nx.is_wp ?_); first | refine Nx.wo ?_ | refine Nx.zp (fun hc => ?_) (fun hc => ?_))
      | (refine Nx.zo ?_; first | refine Nx.opr rfl rfl ?_ | refine Nx.callv rfl rfl rfl (by kernel_rfl) rfl (awakeA_spec _) ?_ | refine Nx.so ?_ | refine Nx.sb (fun bx => ?_) | refine Nx.sa (fun A2 c2 => ?_))
      | ((with_reducible refine Nx.is_at ?_); first | refine Nx.a ?_ | refine Nx.zd ?_ | refine Nx.zs (fun hc => ?_) (fun hc => ?_))
      | ((with_reducible refine Nx.is_mix ?_); first | refine Nx.m ?_ | refine Nx.zm ?_ | refine Nx.zt (fun hc => ?_) (fun hc => ?_))
      | refine Nx.zx ?_ | fail
    exact Nx.imm_le (hI1.trans hle4) (Nx.ret_fn rfl [] ⟨rfl, rfl⟩ (by (exact Ent.auto)))
  have hrk := hra k hkN
  have hVk := hVa (k : Int)
  obtain ⟨vs, e, lo, hi, op, hvd, hrk2, hop⟩ : ∃ (vs : List Int) (e lo hi : Int) (op : Bool), valD s rs (k : Int) = (vs, e) ∧ reachAt N (eqns (qsOf s rs)) k = (lo, hi, op) ∧ ((op = true ∧ e = 21 ∧ (k : Int) ∉ xs) ∨ (op = false ∧ e = 0 ∧ 0 < vs.length ∧ lo = vs.getD 0 default ∧ hi = vs.getD (vs.length - 1) default ∧ ((k : Int) ∈ xs ↔ vs.length = 1) ∧ (vs.length = 1 → vs.getD 0 default = t.getD k default))) := by
    rcases hlaw k hkN with ⟨h1, h2, h3⟩ | ⟨vs, h1, h2, h3, h4, h5⟩
    · exact ⟨[], 21, 0, 0, true, h2, h1, .inl ⟨rfl, rfl, h3⟩⟩
    · exact ⟨vs, 0, _, _, false, h2, h1, .inr ⟨rfl, rfl, h3, rfl, rfl, h4, h5⟩⟩
  rw [hvd] at hVk
  rw [hrk2] at hrk
  have r0 := fun (I' : PH) (hle : PH.le I4 I') (W : World) (R : List Res) => SliceN.fld (W := W) (R := R) (v := .int .i64 lo) (hRc.mono hle) (show k < rl.length by omega) 0 (by rw [hrk]; rfl)
  have r1 := fun (I' : PH) (hle : PH.le I4 I') (W : World) (R : List Res) => SliceN.fld (W := W) (R := R) (v := .int .i64 hi) (hRc.mono hle) (show k < rl.length by omega) 1 (by rw [hrk]; rfl)
  have r2 := fun (I' : PH) (hle : PH.le I4 I') (W : World) (R : List Res) => SliceN.fld (W := W) (R := R) (v := .bool op) (hRc.mono hle) (show k < rl.length by omega) 2 (by rw [hrk]; rfl)
  have hAr := hRc.isSome (show 0 < rl.length by omega) (by omega)
  clear hvd hrk hrk2 hlaw hra
  dsimp only at hVk
  repeat' first
    | ((with_reducible refine Nx.is_wp ?_); first | refine Nx.p_stopr 15 rfl ?_ | refine Nx.wo ?_ | refine Nx.zp (fun hc => ?_) (fun hc => ?_))
    | (refine Nx.zo ?_; first | refine Nx.opr rfl rfl ?_ | (refine Nx.call (Rpre := []) rfl rfl rfl (by kernel_rfl) rfl hVk (Ent.refl _) ?_; rintro _ _ ⟨Av, cv, rfl, rfl⟩) | refine Nx.so ?_ | refine Nx.sb (fun bx => ?_) | refine Nx.sa (fun A2 c2 => ?_))
    | ((with_reducible refine Nx.is_at ?_); first | refine Nx.a ?_ | refine Nx.zd ?_ | refine Nx.zs (fun hc => ?_) (fun hc => ?_))
    | ((with_reducible refine Nx.is_mix ?_); first | refine Nx.m ?_ | refine Nx.zm ?_ | refine Nx.zt (fun hc => ?_) (fun hc => ?_))
    | refine Nx.zx ?_ | fail
  refine Nx.unstop ?_
  refine Nx.ent (R' := [iR Av cv vs, Blk b4 27 [.slice B s.length c'], F]) (by (exact Ent.auto)) ?_
  refine Nx.freezeAt 0 rfl fun I5 m5 hI5 hm5 h5 => ?_
  have hvs : Ints I5 Av cv vs := Vec.sliceOf hm5 h5
  have hxs5 := hxs.mono hI5
  have ht5 := ht.mono hI5
  repeat' first
    | ((with_reducible refine Nx.is_wp ?_); first | refine Nx.wo ?_ | refine Nx.zp (fun hc => ?_) (fun hc => ?_))
    | (refine Nx.zo ?_; first | refine Nx.opr rfl rfl ?_ | refine Nx.so ?_ | refine Nx.sb (fun bx => ?_) | refine Nx.sa (fun A2 c2 => ?_))
    | ((with_reducible refine Nx.is_at ?_); first | refine Nx.a ?_ | refine Nx.zd ?_ | refine Nx.zs (fun hc => ?_) (fun hc => ?_))
    | ((with_reducible refine Nx.is_mix ?_); first | refine Nx.m ?_ | refine Nx.zm ?_ | refine Nx.zt (fun hc => ?_) (fun hc => ?_))
    | refine Nx.zx ?_ | fail
  refine Nx.p_loop (σ := Nat × Bool) (fun q => [(4, .pointer (some ⟨b4, 0, none⟩)), (5, .slice At t.length ct), (6, .slice As rs.length ca), (7, .int .i64 (prod s)), (10, .slice Ar rl.length cr'), (12, .slice Ac xs.length cc), (14, .int .i64 (k : Int)), (15, .slice Av vs.length cv), (16, .int .i64 e), (17, .bool q.2), (70, .slice Ac xs.length cc), (71, .int .i64 xs.length), (72, .int .i64 (q.1 : Int))])
    (fun _ => [Blk b4 27 [.slice B s.length c'], F]) (fun q => q.1 ≤ xs.length ∧ (q.2 = true ↔ ∃ j, j < q.1 ∧ xs.getD j default = (k : Int))) (fun q => xs.length - q.1) (0, false) rfl ⟨Nat.zero_le _, ⟨(fun h => nomatch h), (fun ⟨j, hj, _⟩ => absurd hj (Nat.not_lt_zero _))⟩⟩ ⟨rfl, rfl, rfl, rfl, rfl, rfl, rfl, rfl, rfl, rfl, rfl, rfl, rfl, trivial⟩ (by (exact Ent.auto)) ?_
  rintro ⟨j, f⟩ ⟨hj, hf⟩
  dsimp only at hj hf ⊢
  by_cases hjl : j < xs.length
  · have hnew : ∀ f' : Bool, (f' = true ↔ f = true ∨ xs.getD j default = (k : Int)) → (f' = true ↔ ∃ i, i < j + 1 ∧ xs.getD i default = (k : Int)) := fun f' h => by
      rw [h, hf]
      constructor
      · rintro (⟨i, hi, h6⟩ | h6)
        · exact ⟨i, by omega, h6⟩
        · exact ⟨j, by omega, h6⟩
      · rintro ⟨i, hi, h6⟩
        rcases Nat.lt_or_ge i j with hij | hij
        · exact .inl ⟨i, hij, h6⟩
        · rw [show i = j by omega] at h6
          exact .inr h6
    have hrd : ∀ (W : World) (R : List Res), Rd W I5 R ((ad Ac).add (j * 1)) (.int .i64 (xs.getD j default)) := fun W R => hxs5.rd hjl
    have hAc := hxs5.isSome (by omega)
    generalize xs.getD j default = y at hnew hrd
    cases f with
    | true =>
      repeat' first
        | ((with_reducible refine Nx.is_wp ?_); first | refine Nx.wo ?_ | refine Nx.zp (fun hc => ?_) (fun hc => ?_))
        | (refine Nx.zo ?_; first | refine Nx.opr rfl rfl ?_ | refine Nx.indexAddr_nat (A := Ac) (i := j) (sz := 1) rfl rfl rfl rfl rfl hjl hAc ?_ | refine Nx.load rfl rfl rfl (hrd _ _) ?_ | refine Nx.so ?_ | refine Nx.sb (fun bx => ?_) | refine Nx.sa (fun A2 c2 => ?_))
        | ((with_reducible refine Nx.is_at ?_); first | refine Nx.a ?_ | refine Nx.zd ?_ | refine Nx.zs (fun hc => ?_) (fun hc => ?_))
        | ((with_reducible refine Nx.is_mix ?_); first | refine Nx.m ?_ | refine Nx.zm ?_ | refine Nx.zt (fun hc => ?_) (fun hc => ?_))
        | refine Nx.zx ?_ | fail
      exact Nx.again (j + 1, true) ⟨hjl, hnew true ⟨fun _ => .inl rfl, fun _ => rfl⟩⟩ (by dsimp only; omega) ⟨rfl, rfl, rfl, rfl, rfl, rfl, rfl, rfl, rfl, rfl, rfl, rfl, rfl, trivial⟩ (by (exact Ent.auto))
    | false =>
      repeat' first
        | ((with_reducible refine Nx.is_wp ?_); first | refine Nx.wo ?_ | refine Nx.zp (fun hc => ?_) (fun hc => ?_))
        | (refine Nx.zo ?_; first | refine Nx.opr rfl rfl ?_ | refine Nx.indexAddr_nat (A := Ac) (i := j) (sz := 1) rfl rfl rfl rfl rfl hjl hAc ?_ | refine Nx.load rfl rfl rfl (hrd _ _) ?_ | refine Nx.so ?_ | refine Nx.sb (fun bx => ?_) | refine Nx.sa (fun A2 c2 => ?_))
        | ((with_reducible refine Nx.is_at ?_); first | refine Nx.a ?_ | refine Nx.zd ?_ | refine Nx.zs (fun hc => ?_) (fun hc => ?_))
        | ((with_reducible refine Nx.is_mix ?_); first | refine Nx.m ?_ | refine Nx.zm ?_ | refine Nx.zt (fun hc => ?_) (fun hc => ?_))
        | refine Nx.zx ?_ | fail
      exact Nx.again (j + 1, decide (y = (k : Int))) ⟨hjl, hnew _ ⟨fun h => .inr (of_decide_eq_true h), fun h => decide_eq_true (h.elim (fun h => nomatch h) id)⟩⟩ (by dsimp only; omega) ⟨rfl, rfl, rfl, rfl, rfl, rfl, rfl, rfl, rfl, rfl, rfl, rfl, rfl, trivial⟩ (by (exact Ent.auto))
  obtain rfl : j = xs.length := by omega
  have hfm : f = true ↔ (k : Int) ∈ xs := hf.trans ⟨fun ⟨i, hi, he⟩ => he ▸ getD_memI hi, fun h => mem_getDI h⟩
  rcases hop with ⟨rfl, rfl, hno⟩ | ⟨rfl, rfl, hv0, rfl, rfl, hone, hval⟩
  · obtain rfl : f = false := by cases f with
      | false => rfl
      | true => exact absurd (hfm.1 rfl) hno
    repeat' first
      | ((with_reducible refine Nx.is_wp ?_); first | refine Nx.wo ?_ | refine Nx.zp (fun hc => ?_) (fun hc => ?_))
      | (refine Nx.zo ?_; first | (refine Nx.quietly rfl rfl (QRun.fld (A := (ad Ar).add (k * 3)) rfl rfl) ?_) | refine Nx.opr rfl rfl ?_ | refine Nx.indexAddr_nat (A := Ar) (i := k) (sz := 3) rfl rfl rfl rfl rfl (by omega) hAr ?_ | refine Nx.load rfl rfl rfl (r2 I5 hI5 _ _) ?_ | refine Nx.so ?_ | refine Nx.sb (fun bx => ?_) | refine Nx.sa (fun A2 c2 => ?_))
      | ((with_reducible refine Nx.is_at ?_); first | refine Nx.a ?_ | refine Nx.zd ?_ | refine Nx.zs (fun hc => ?_) (fun hc => ?_))
      | ((with_reducible refine Nx.is_mix ?_); first | refine Nx.m ?_ | refine Nx.zm ?_ | refine Nx.zt (fun hc => ?_) (fun hc => ?_))
      | refine Nx.zx ?_ | fail
    exact Nx.imm_le hI5 (Nx.again (k + 1) hkN (by omega) ⟨rfl, rfl, rfl, rfl, rfl, rfl, rfl, trivial⟩ (by (exact Ent.auto)))
  have hAv := hvs.isSome hv0
  have hvl := hvs.len
  have hAt := ht5.isSome (by omega)
  have v0 : ∀ (W : World) (R : List Res), Rd W I5 R ((ad Av).add (0 * 1)) (.int .i64 (vs.getD 0 default)) := fun W R => hvs.rd hv0
  have v1 : ∀ (W : World) (R : List Res), Rd W I5 R ((ad Av).add (((vs.length : Int) - 1).toNat * 1)) (.int .i64 (vs.getD (vs.length - 1) default)) := fun W R => by
    have := hvs.rd (W := W) (R := R) (k := vs.length - 1) (by omega)
    rw [show ((vs.length : Int) - 1).toNat = vs.length - 1 by omega]; exact this
  have tk : ∀ (W : World) (R : List Res), Rd W I5 R ((ad At).add (k * 1)) (.int .i64 (t.getD k default)) := fun W R => ht5.rd (by omega)
  generalize vs.getD 0 default = z0 at v0 r0 hval
  generalize vs.getD (vs.length - 1) default = z1 at v1 r1
  generalize t.getD k default = zt at tk hval
  cases f with
  | true =>
    have h1 := hone.1 (hfm.1 rfl)
    have hzt := hval h1
    subst hzt
    repeat' first
      | ((with_reducible refine Nx.is_wp ?_); first | refine Nx.wo ?_ | refine Nx.p_draw (id := 24) rfl [0, 1, 2, 3, 4, 5, 6, 7, 8, 9, 10, 11, 12, 13, 14, 15, 16, 17, 18, 19, 20, 21, 22, 23, 24, 25, 26, 27, 28, 29, 30, 31, 32, 33, 34, 35, 36, 37, 38, 39, 40, 41, 42, 43, 44, 45, 46, 47, 48, 49, 50, 51] [] _ rfl rfl (by kernel_rfl) (by kernel_rfl) rfl (by repeat first | exact PanicOk.fn | refine PanicOk.then_ ?_ | refine PanicOk.inB ?_) (Ent.refl _) ?_ | refine Nx.zp (fun hc => ?_) (fun hc => ?_))
      | (refine Nx.zo ?_; first | (refine Nx.quietly rfl rfl (QRun.fld (A := (ad Ar).add (k * 3)) rfl rfl) ?_) | refine Nx.opr rfl rfl ?_ | refine Nx.indexAddr_nat (A := Ar) (i := k) (sz := 3) rfl rfl rfl rfl rfl (by omega) hAr ?_ | refine Nx.load rfl rfl rfl (r2 I5 hI5 _ _) ?_ | refine Nx.so ?_ | refine Nx.sb (fun bx => ?_) | refine Nx.sa (fun A2 c2 => ?_))
      | ((with_reducible refine Nx.is_at ?_); first | refine Nx.a ?_ | refine Nx.zd ?_ | refine Nx.zs (fun hc => ?_) (fun hc => ?_))
      | ((with_reducible refine Nx.is_mix ?_); first | refine Nx.m_quiet rfl rfl rfl rfl rfl (by first | exact QRun.fld (A := (ad Ar).add (k * 3)) rfl rfl | exact QRun.opr rfl | exact QRun.idx (A := Av) (i := 0) (sz := 1) rfl rfl rfl rfl hv0 hAv | exact QRun.idxi (A := Av) (i := (vs.length : Int) - 1) (sz := 1) rfl rfl rfl rfl (by omega) (by omega) hAv | exact QRun.idx (A := Ar) (i := k) (sz := 3) rfl rfl rfl rfl (by omega) hAr | exact QRun.idx (A := At) (i := k) (sz := 1) rfl rfl rfl rfl (by omega) hAt | exact QRun.load rfl rfl (v0 _ _) | exact QRun.load rfl rfl (v1 _ _) | exact QRun.load rfl rfl (r0 I5 hI5 _ _) | exact QRun.load rfl rfl (r1 I5 hI5 _ _) | exact QRun.load rfl rfl (tk _ _)) ?_ | refine Nx.m_quiet_do rfl rfl rfl rfl rfl rfl rfl (by first | exact QRun.fld (A := (ad Ar).add (k * 3)) rfl rfl | exact QRun.opr rfl | exact QRun.idx (A := Av) (i := 0) (sz := 1) rfl rfl rfl rfl hv0 hAv | exact QRun.idxi (A := Av) (i := (vs.length : Int) - 1) (sz := 1) rfl rfl rfl rfl (by omega) (by omega) hAv | exact QRun.idx (A := Ar) (i := k) (sz := 3) rfl rfl rfl rfl (by omega) hAr | exact QRun.idx (A := At) (i := k) (sz := 1) rfl rfl rfl rfl (by omega) hAt | exact QRun.load rfl rfl (v0 _ _) | exact QRun.load rfl rfl (v1 _ _) | exact QRun.load rfl rfl (r0 I5 hI5 _ _) | exact QRun.load rfl rfl (r1 I5 hI5 _ _) | exact QRun.load rfl rfl (tk _ _)) ?_ | refine Nx.m ?_ | refine Nx.zm ?_ | refine Nx.zt (fun hc => ?_) (fun hc => ?_))
      | refine Nx.zx ?_ | fail
    · exfalso
      rw [decide_eq_true (show ((vs.length : Nat) : Int) = 1 by omega)] at hc
      exact absurd hc (by decide)
    · exact Nx.imm_le hI5 (Nx.again (k + 1) hkN (by omega) ⟨rfl, rfl, rfl, rfl, rfl, rfl, rfl, trivial⟩ (by (exact Ent.auto)))
  | false =>
    have h1 : vs.length ≠ 1 := fun h => nomatch hfm.2 (hone.2 h)
    repeat' first
      | ((with_reducible refine Nx.is_wp ?_); first | refine Nx.wo ?_ | refine Nx.p_draw (id := 24) rfl [0, 1, 2, 3, 4, 5, 6, 7, 8, 9, 10, 11, 12, 13, 14, 15, 16, 17, 18, 19, 20, 21, 22, 23, 24, 25, 26, 27, 28, 29, 30, 31, 32, 33, 34, 35, 36, 37, 38, 39, 40, 41, 42, 43, 44, 45, 46, 47, 48, 49, 50, 51] [] _ rfl rfl (by kernel_rfl) (by kernel_rfl) rfl (by repeat first | exact PanicOk.fn | refine PanicOk.then_ ?_ | refine PanicOk.inB ?_) (Ent.refl _) ?_ | refine Nx.zp (fun hc => ?_) (fun hc => ?_))
      | (refine Nx.zo ?_; first | (refine Nx.quietly rfl rfl (QRun.fld (A := (ad Ar).add (k * 3)) rfl rfl) ?_) | refine Nx.opr rfl rfl ?_ | refine Nx.indexAddr_nat (A := Ar) (i := k) (sz := 3) rfl rfl rfl rfl rfl (by omega) hAr ?_ | refine Nx.load rfl rfl rfl (r2 I5 hI5 _ _) ?_ | refine Nx.so ?_ | refine Nx.sb (fun bx => ?_) | refine Nx.sa (fun A2 c2 => ?_))
      | ((with_reducible refine Nx.is_at ?_); first | refine Nx.a ?_ | refine Nx.zd ?_ | refine Nx.zs (fun hc => ?_) (fun hc => ?_))
      | ((with_reducible refine Nx.is_mix ?_); first | refine Nx.m_quiet rfl rfl rfl rfl rfl (by first | exact QRun.fld (A := (ad Ar).add (k * 3)) rfl rfl | exact QRun.opr rfl | exact QRun.idx (A := Av) (i := 0) (sz := 1) rfl rfl rfl rfl hv0 hAv | exact QRun.idxi (A := Av) (i := (vs.length : Int) - 1) (sz := 1) rfl rfl rfl rfl (by omega) (by omega) hAv | exact QRun.idx (A := Ar) (i := k) (sz := 3) rfl rfl rfl rfl (by omega) hAr | exact QRun.load rfl rfl (v0 _ _) | exact QRun.load rfl rfl (v1 _ _) | exact QRun.load rfl rfl (r0 I5 hI5 _ _) | exact QRun.load rfl rfl (r1 I5 hI5 _ _)) ?_ | refine Nx.m_quiet_do rfl rfl rfl rfl rfl rfl rfl (by first | exact QRun.fld (A := (ad Ar).add (k * 3)) rfl rfl | exact QRun.opr rfl | exact QRun.idx (A := Av) (i := 0) (sz := 1) rfl rfl rfl rfl hv0 hAv | exact QRun.idxi (A := Av) (i := (vs.length : Int) - 1) (sz := 1) rfl rfl rfl rfl (by omega) (by omega) hAv | exact QRun.idx (A := Ar) (i := k) (sz := 3) rfl rfl rfl rfl (by omega) hAr | exact QRun.load rfl rfl (v0 _ _) | exact QRun.load rfl rfl (v1 _ _) | exact QRun.load rfl rfl (r0 I5 hI5 _ _) | exact QRun.load rfl rfl (r1 I5 hI5 _ _)) ?_ | refine Nx.m ?_ | refine Nx.zm ?_ | refine Nx.zt (fun hc => ?_) (fun hc => ?_))
      | refine Nx.zx ?_ | fail
    · exfalso
      rw [decide_eq_false (show ¬ ((vs.length : Nat) : Int) = 1 by omega)] at hc
      exact absurd hc (by decide)
    · exact Nx.imm_le hI5 (Nx.again (k + 1) hkN (by omega) ⟨rfl, rfl, rfl, rfl, rfl, rfl, rfl, trivial⟩ (by (exact Ent.auto)))
end Go.Proofs.YtcmdemfhbekabaaGreat
