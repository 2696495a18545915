/-
  The proof engine, part B: the rules for single operations.
-/
import Derived.Test.YtaoeapmdhpkidaaEngA
import Derived.Maps.AppendAt
import Derived.IntWalk
namespace Go.Eng

def nthL {α : Type} : List α → Nat → Option α
  | [], _ => none
  | c :: _, 0 => some c
  | _ :: r, i + 1 => nthL r i
theorem nthL_eq {α : Type} : ∀ {l : List α} {i : Nat}, nthL l i = l[i]?
  | [], i => by simp [nthL]
  | _ :: _, 0 => rfl
  | _ :: r, i + 1 => by simp only [nthL, List.getElem?_cons_succ]; exact nthL_eq

/-! ## Operations that need no world -/
def pureRun (P : Program) {α : Type} : Sem α → Option α
  | .pure a => some a
  | .program k => pureRun P (k P)
  | .mark _ k => pureRun P k
  | _ => none
theorem run_of_pureRun {P : Program} {α : Type} : ∀ {s : Sem α} {a : α}, pureRun P s = some a → ∀ w : World, s.run P w = .ok a w
  | .pure a, b, h, w => by simp [pureRun] at h; simp [Sem.run, h]
  | .program k, b, h, w => by simp [pureRun] at h; simp [Sem.run, run_of_pureRun h w]
  | .mark m k, b, h, w => by simp [pureRun] at h; simp [Sem.run, run_of_pureRun h w]
  | .load .., b, h, w => by simp [pureRun] at h
  | .store .., b, h, w => by simp [pureRun] at h
  | .new .., b, h, w => by simp [pureRun] at h
  | .shape .., b, h, w => by simp [pureRun] at h
  | .freeze .., b, h, w => by simp [pureRun] at h
  | .frozen .., b, h, w => by simp [pureRun] at h
  | .getObj .., b, h, w => by simp [pureRun] at h
  | .setObj .., b, h, w => by simp [pureRun] at h
  | .choose .., b, h, w => by simp [pureRun] at h
  | .sys .., b, h, w => by simp [pureRun] at h
  | .halt .., b, h, w => by simp [pureRun] at h

def opK (P : Program) (o : Oper) (K : Act → World → Prop) (Q : Exit → Act → World → Prop) : Act → World → Prop := fun a w => o.wp P a w K Q

section
variable {C : Cx} {e e' : Env} {I : PH} {R R' : List Res} {K K' : Act → World → Prop} {Q : Exit → Act → World → Prop}

/-! ## The operations of a region, one by one -/
theorem Nx.cons {ops : Array Oper} {rest : List Oper} {o : Oper} (hg : o.guard = none) (h : Nx C e I R (opK C.P o (wpList C.P ops Q rest) Q)) : Nx C e I R (wpList C.P ops Q (o :: rest)) := by
  intro a w ha hw
  unfold wpList
  rw [if_pos (by simp [Region.wanted, hg])]
  exact .inl (h a w ha hw)
theorem yielded_of {n : Nat} {ops : Array Oper} {a : Act} {j d : Nat} {b : Bool} (ha : Mod n e a) (hd : (ops[j]?).bind (·.dst) = some d) (hb : lk e d = some (.bool b)) : yielded ops a.tmps j = some b := by
  have := ha.get d _ hb
  simp [yielded, hd, this]
theorem Nx.cons_do {ops : Array Oper} {rest : List Oper} {o : Oper} {j d : Nat} {want : Bool} (hg : o.guard = some (j, want)) (hd : (ops[j]?).bind (·.dst) = some d) (hb : lk e d = some (.bool want))
    (h : Nx C e I R (opK C.P o (wpList C.P ops Q rest) Q)) : Nx C e I R (wpList C.P ops Q (o :: rest)) := by
  intro a w ha hw
  unfold wpList
  rw [if_pos (by simp [Region.wanted, hg, yielded_of ha hd hb])]
  exact .inl (h a w ha hw)
theorem Nx.cons_no {ops : Array Oper} {rest : List Oper} {o : Oper} {j d t : Nat} {want : Bool} (hg : o.guard = some (j, want)) (hd : (ops[j]?).bind (·.dst) = some d) (hb : lk e d = some (.bool (!want)))
    (ht : o.dst = some t) (hlt : Nat.blt t C.n = true) (h : Nx C ((t, undef) :: e) I R (wpList C.P ops Q rest)) : Nx C e I R (wpList C.P ops Q (o :: rest)) := by
  intro a w ha hw
  unfold wpList
  rw [if_neg (by simp [Region.wanted, hg, yielded_of ha hd hb]), ht]
  exact h _ w (ha.put hlt _) hw

theorem Nx.guard_split {ops : Array Oper} {rest : List Oper} {o : Oper} {j d : Nat} {want : Bool} {p : Prop} [Decidable p] (hg : o.guard = some (j, want)) (hd : (ops[j]?).bind (·.dst) = some d) (hb : lk e d = some (.bool (decide p)))
    (ht : p → Nx C ((d, .bool true) :: e) I R (wpList C.P ops Q (o :: rest))) (hf : ¬p → Nx C ((d, .bool false) :: e) I R (wpList C.P ops Q (o :: rest))) : Nx C e I R (wpList C.P ops Q (o :: rest)) :=
  have _ := hg; have _ := hd; Nx.force d hb ht hf
theorem Nx.guard_splitb {ops : Array Oper} {rest : List Oper} {o : Oper} {j d : Nat} {want : Bool} {b : Bool} (hg : o.guard = some (j, want)) (hd : (ops[j]?).bind (·.dst) = some d) (hb : lk e d = some (.bool b))
    (ht : b = true → Nx C ((d, .bool true) :: e) I R (wpList C.P ops Q (o :: rest))) (hf : b = false → Nx C ((d, .bool false) :: e) I R (wpList C.P ops Q (o :: rest))) : Nx C e I R (wpList C.P ops Q (o :: rest)) :=
  have _ := hg; have _ := hd; Nx.force_bool d hb ht hf
theorem Nx.cond_t {c : Operand} {x y : Code} {p : Prop} [Decidable p] (hc : evo e c = some (.bool (decide p))) (hp : p) (h : Nx C e I R (x.wp C.P Q)) : Nx C e I R ((Code.cond c x y).wp C.P Q) :=
  Nx.cond_dec hc (fun _ => h) (fun hn => absurd hp hn)
theorem Nx.cond_f {c : Operand} {x y : Code} {p : Prop} [Decidable p] (hc : evo e c = some (.bool (decide p))) (hp : ¬p) (h : Nx C e I R (y.wp C.P Q)) : Nx C e I R ((Code.cond c x y).wp C.P Q) :=
  Nx.cond_dec hc (fun hn => absurd hn hp) (fun _ => h)

theorem Nx.op_run {o : Oper} {d : Nat} {v : Value} (hd : o.dst = some d) (hlt : Nat.blt d C.n = true)
    (hrun : ∀ a w, Mod C.n e a → St C.W I R w → (execOp a.eval o).run C.P w = .ok (.value v) w) (h : Nx C ((d, v) :: e) I R K) : Nx C e I R (opK C.P o K Q) := by
  intro a w ha hw
  unfold opK Oper.wp
  rw [hrun a w ha hw]
  show K (a.put o.dst v) w
  rw [hd]
  exact h _ w (ha.put hlt v) hw
theorem Nx.op_run0 {o : Oper} {v : Value} (hd : o.dst = none)
    (hrun : ∀ a w, Mod C.n e a → St C.W I R w → (execOp a.eval o).run C.P w = .ok (.value v) w) (h : Nx C e I R K) : Nx C e I R (opK C.P o K Q) := by
  intro a w ha hw
  unfold opK Oper.wp
  rw [hrun a w ha hw]
  show K (a.put o.dst v) w
  rw [hd]
  exact h _ w ha hw

variable {d : Nat} {ty t u : TypeId} {pos : String} {after : Array Edge} {g : Option (Nat × Bool)} {x y z : Operand} {v vx vy vz : Value}

/-! Which operation stands next: each is the identity, and fails at once at all others. -/
variable {dst : Option Tmp}
theorem Nx.is_load (h : Nx C e I R (opK C.P ⟨dst, .load t x, ty, pos, after, g⟩ K Q)) : Nx C e I R (opK C.P ⟨dst, .load t x, ty, pos, after, g⟩ K Q) := h
theorem Nx.is_store (h : Nx C e I R (opK C.P ⟨dst, .store t x y, ty, pos, after, g⟩ K Q)) : Nx C e I R (opK C.P ⟨dst, .store t x y, ty, pos, after, g⟩ K Q) := h
theorem Nx.is_bin {op : BinOp} (h : Nx C e I R (opK C.P ⟨dst, .binOp op t x y u, ty, pos, after, g⟩ K Q)) : Nx C e I R (opK C.P ⟨dst, .binOp op t x y u, ty, pos, after, g⟩ K Q) := h
theorem Nx.is_un {op : UnOp} (h : Nx C e I R (opK C.P ⟨dst, .unOp op t x, ty, pos, after, g⟩ K Q)) : Nx C e I R (opK C.P ⟨dst, .unOp op t x, ty, pos, after, g⟩ K Q) := h
theorem Nx.is_conv (h : Nx C e I R (opK C.P ⟨dst, .convert t u x, ty, pos, after, g⟩ K Q)) : Nx C e I R (opK C.P ⟨dst, .convert t u x, ty, pos, after, g⟩ K Q) := h
theorem Nx.is_build {p : Array (Nat × Operand)} (h : Nx C e I R (opK C.P ⟨dst, .build t p, ty, pos, after, g⟩ K Q)) : Nx C e I R (opK C.P ⟨dst, .build t p, ty, pos, after, g⟩ K Q) := h
theorem Nx.is_lit {p : Array (Nat × Operand)} {n : Nat} (h : Nx C e I R (opK C.P ⟨dst, .buildSlice t n p, ty, pos, after, g⟩ K Q)) : Nx C e I R (opK C.P ⟨dst, .buildSlice t n p, ty, pos, after, g⟩ K Q) := h
theorem Nx.is_box (h : Nx C e I R (opK C.P ⟨dst, .box t x, ty, pos, after, g⟩ K Q)) : Nx C e I R (opK C.P ⟨dst, .box t x, ty, pos, after, g⟩ K Q) := h
theorem Nx.is_alloc (h : Nx C e I R (opK C.P ⟨dst, .alloc t, ty, pos, after, g⟩ K Q)) : Nx C e I R (opK C.P ⟨dst, .alloc t, ty, pos, after, g⟩ K Q) := h
theorem Nx.is_call {c : Call} (h : Nx C e I R (opK C.P ⟨dst, .call c, ty, pos, after, g⟩ K Q)) : Nx C e I R (opK C.P ⟨dst, .call c, ty, pos, after, g⟩ K Q) := h
theorem Nx.is_idx (h : Nx C e I R (opK C.P ⟨dst, .indexAddr t x y, ty, pos, after, g⟩ K Q)) : Nx C e I R (opK C.P ⟨dst, .indexAddr t x y, ty, pos, after, g⟩ K Q) := h
theorem Nx.is_append {xs : Array Operand} {tys : Array TypeId} (h : Nx C e I R (opK C.P ⟨dst, .call { callee := .builtin .append, args := xs, argTypes := tys }, ty, pos, after, g⟩ K Q)) : Nx C e I R (opK C.P ⟨dst, .call { callee := .builtin .append, args := xs, argTypes := tys }, ty, pos, after, g⟩ K Q) := h

theorem Nx.move (hx : evo e x = some v) (hlt : Nat.blt d C.n = true) (h : Nx C ((d, v) :: e) I R K) : Nx C e I R (opK C.P ⟨some d, .move x, ty, pos, after, g⟩ K Q) :=
  Nx.op_run rfl hlt (fun a w ha _ => by simp only [execOp, ha.eval hx]; rfl) h
theorem Nx.assign (hx : evo e x = some v) (hlt : Nat.blt d C.n = true) (h : Nx C ((d, v) :: e) I R K) : Nx C e I R (opK C.P ⟨some d, .assign x, ty, pos, after, g⟩ K Q) :=
  Nx.op_run rfl hlt (fun a w ha _ => by simp only [execOp, ha.eval hx]; rfl) h
theorem Nx.pick_true (hx : evo e x = some (.bool true)) (hy : evo e y = some v) (hlt : Nat.blt d C.n = true) (h : Nx C ((d, v) :: e) I R K) : Nx C e I R (opK C.P ⟨some d, .pick x y z, ty, pos, after, g⟩ K Q) :=
  Nx.op_run rfl hlt (fun a w ha _ => by simp only [execOp, ha.eval hx, ha.eval hy]; rfl) h
theorem Nx.pick_false (hx : evo e x = some (.bool false)) (hz : evo e z = some v) (hlt : Nat.blt d C.n = true) (h : Nx C ((d, v) :: e) I R K) : Nx C e I R (opK C.P ⟨some d, .pick x y z, ty, pos, after, g⟩ K Q) :=
  Nx.op_run rfl hlt (fun a w ha _ => by simp only [execOp, ha.eval hx, ha.eval hz]; rfl) h

theorem run_v {s : Sem Value} {P : Program} {w w' : World} (h : s.run P w = .ok v w') : (do pure (Next.value (← s)) : Sem Next).run P w = .ok (.value v) w' := by
  rw [Sem.run_bind, h]; rfl
theorem Nx.bin {op : BinOp} (hx : evo e x = some vx) (hy : evo e y = some vy) (hv : pureRun C.P (do eqGuard op t x y vx vy; binOp op t vx vy) = some v) (hlt : Nat.blt d C.n = true)
    (h : Nx C ((d, v) :: e) I R K) : Nx C e I R (opK C.P ⟨some d, .binOp op t x y u, ty, pos, after, g⟩ K Q) :=
  Nx.op_run rfl hlt (fun a w ha _ => by simp only [execOp, ha.eval hx, ha.eval hy]; exact run_v (run_of_pureRun hv w)) h

def I64 (z : Int) : Prop := -9223372036854775808 ≤ z ∧ z ≤ 9223372036854775807
theorem wrap_i64 {z : Int} (h : I64 z) : IntKind.i64.wrap z = z := IntWalk.i64_in _ (by unfold I64 at h; omega)
theorem wrap_u {k : IntKind} {z : Int} (hk : k.signed = false) (h0 : 0 ≤ z) (h1 : z < 2 ^ k.bits) : k.wrap z = z := by
  unfold IntKind.wrap
  simp only [hk, Bool.false_and, Bool.false_eq_true, if_false]
  exact Int.emod_eq_of_lt h0 h1
theorem Nx.add {p q : Int} (hx : evo e x = some (.int .i64 p)) (hy : evo e y = some (.int .i64 q)) (hr : I64 (p + q)) (hlt : Nat.blt d C.n = true)
    (h : Nx C ((d, .int .i64 (p + q)) :: e) I R K) : Nx C e I R (opK C.P ⟨some d, .binOp .add t x y u, ty, pos, after, g⟩ K Q) :=
  Nx.bin hx hy (by rw [← wrap_i64 hr]; rfl) hlt h
theorem Nx.sub {p q : Int} (hx : evo e x = some (.int .i64 p)) (hy : evo e y = some (.int .i64 q)) (hr : I64 (p - q)) (hlt : Nat.blt d C.n = true)
    (h : Nx C ((d, .int .i64 (p - q)) :: e) I R K) : Nx C e I R (opK C.P ⟨some d, .binOp .sub t x y u, ty, pos, after, g⟩ K Q) :=
  Nx.bin hx hy (by rw [← wrap_i64 hr]; rfl) hlt h
theorem Nx.mul {p q : Int} (hx : evo e x = some (.int .i64 p)) (hy : evo e y = some (.int .i64 q)) (hr : I64 (p * q)) (hlt : Nat.blt d C.n = true)
    (h : Nx C ((d, .int .i64 (p * q)) :: e) I R K) : Nx C e I R (opK C.P ⟨some d, .binOp .mul t x y u, ty, pos, after, g⟩ K Q) :=
  Nx.bin hx hy (by rw [← wrap_i64 hr]; rfl) hlt h
theorem run_rem {P : Program} {p q : Int} (h0 : 0 ≤ p) (hq : 0 < q) : pureRun P (do eqGuard .rem t x y (.int .i64 p) (.int .i64 q); binOp .rem t (.int .i64 p) (.int .i64 q)) = some (.int .i64 (p % q)) := by
  rw [eqGuard_rem, binOp_rem]
  have hne : q ≠ 0 := by omega
  have : p.tmod q = p % q := Int.tmod_eq_emod_of_nonneg h0
  unfold pureRun
  simp [Op.intDiv, hne, this]; rfl
theorem run_quo {P : Program} {p q : Int} (h0 : 0 ≤ p) (hq : 0 < q) (hr : I64 p) : pureRun P (do eqGuard .quo t x y (.int .i64 p) (.int .i64 q); binOp .quo t (.int .i64 p) (.int .i64 q)) = some (.int .i64 (p / q)) := by
  rw [eqGuard_quo, binOp_quo]
  have hne : q ≠ 0 := by omega
  have : p.tdiv q = p / q := Int.tdiv_eq_ediv_of_nonneg h0
  have h1 : p / q ≤ p := Int.ediv_le_self _ h0
  have h2 : 0 ≤ p / q := Int.ediv_nonneg h0 (by omega)
  have hw : IntKind.i64.wrap (p / q) = p / q := wrap_i64 (by unfold I64 at *; omega)
  unfold pureRun
  simp [Op.intDiv, hne, this, hw]; rfl
theorem Nx.rem {p q : Int} (hx : evo e x = some (.int .i64 p)) (hy : evo e y = some (.int .i64 q)) (hq : 0 < q) (h0 : 0 ≤ p) (hlt : Nat.blt d C.n = true)
    (h : Nx C ((d, .int .i64 (p % q)) :: e) I R K) : Nx C e I R (opK C.P ⟨some d, .binOp .rem t x y u, ty, pos, after, g⟩ K Q) :=
  Nx.bin hx hy (run_rem h0 hq) hlt h
theorem Nx.quo {p q : Int} (hx : evo e x = some (.int .i64 p)) (hy : evo e y = some (.int .i64 q)) (hq : 0 < q) (h0 : 0 ≤ p) (hr : I64 p) (hlt : Nat.blt d C.n = true)
    (h : Nx C ((d, .int .i64 (p / q)) :: e) I R K) : Nx C e I R (opK C.P ⟨some d, .binOp .quo t x y u, ty, pos, after, g⟩ K Q) :=
  Nx.bin hx hy (run_quo h0 hq hr) hlt h
theorem Nx.eqi {k : IntKind} {p q : Int} (hx : evo e x = some (.int k p)) (hy : evo e y = some (.int k q)) (hlt : Nat.blt d C.n = true)
    (h : Nx C ((d, .bool (decide (p = q))) :: e) I R K) : Nx C e I R (opK C.P ⟨some d, .binOp .eql t x y u, ty, pos, after, g⟩ K Q) :=
  Nx.op_run rfl hlt (fun a w ha _ => by
    simp only [execOp, ha.eval hx, ha.eval hy]
    refine run_v ?_
    rw [eqGuard_at_int, binOp_eql]
    rfl) h
theorem Nx.nei {k : IntKind} {p q : Int} (hx : evo e x = some (.int k p)) (hy : evo e y = some (.int k q)) (hlt : Nat.blt d C.n = true)
    (h : Nx C ((d, .bool (decide (p ≠ q))) :: e) I R K) : Nx C e I R (opK C.P ⟨some d, .binOp .neq t x y u, ty, pos, after, g⟩ K Q) :=
  Nx.op_run rfl hlt (fun a w ha _ => by
    simp only [execOp, ha.eval hx, ha.eval hy]
    refine run_v ?_
    rw [eqGuard_at_int, binOp_neq]
    have : (p != q) = decide (p ≠ q) := by by_cases hpq : p = q <;> simp [hpq]
    rw [this]
    rfl) h
theorem Nx.un {op : UnOp} (hx : evo e x = some vx) (hv : pureRun C.P (Op.unary op vx) = some v) (hlt : Nat.blt d C.n = true)
    (h : Nx C ((d, v) :: e) I R K) : Nx C e I R (opK C.P ⟨some d, .unOp op t x, ty, pos, after, g⟩ K Q) :=
  Nx.op_run rfl hlt (fun a w ha _ => by simp only [execOp, ha.eval hx]; exact run_v (run_of_pureRun hv w)) h
theorem Nx.neg {p : Int} (hx : evo e x = some (.int .i64 p)) (hr : I64 (-p)) (hlt : Nat.blt d C.n = true)
    (h : Nx C ((d, .int .i64 (-p)) :: e) I R K) : Nx C e I R (opK C.P ⟨some d, .unOp .neg t x, ty, pos, after, g⟩ K Q) :=
  Nx.un hx (by rw [← wrap_i64 hr, ← Int.zero_sub]; rfl) hlt h
theorem Nx.not_dec {p : Prop} [Decidable p] (hx : evo e x = some (.bool (decide p))) (hlt : Nat.blt d C.n = true)
    (h : Nx C ((d, .bool (decide (¬p))) :: e) I R K) : Nx C e I R (opK C.P ⟨some d, .unOp .not t x, ty, pos, after, g⟩ K Q) :=
  Nx.un hx (by
    have : decide (¬p) = !decide p := by simp
    rw [this]; rfl) hlt h
theorem Nx.conv (hx : evo e x = some vx) (hv : pureRun C.P (convert t u vx) = some v) (hlt : Nat.blt d C.n = true)
    (h : Nx C ((d, v) :: e) I R K) : Nx C e I R (opK C.P ⟨some d, .convert t u x, ty, pos, after, g⟩ K Q) :=
  Nx.op_run rfl hlt (fun a w ha _ => by simp only [execOp, ha.eval hx]; exact run_v (run_of_pureRun hv w)) h
/-- Conversion of an integer to int, in range. -/
theorem Nx.conv_i64 {k : IntKind} {p : Int} {s : TypeDesc} (hx : evo e x = some (.int k p)) (hs : C.P.underlying t = some s) (ht : C.P.underlying u = some (.int .i64)) (hr : I64 p) (hlt : Nat.blt d C.n = true)
    (h : Nx C ((d, .int .i64 p) :: e) I R K) : Nx C e I R (opK C.P ⟨some d, .convert t u x, ty, pos, after, g⟩ K Q) :=
  Nx.op_run rfl hlt (fun a w ha _ => by
    simp only [execOp, ha.eval hx]
    refine run_v ?_
    unfold convert
    rw [Sem.run_bind, run_underlying hs, Result.andThen_ok, Sem.run_bind, run_underlying ht, Result.andThen_ok]
    show Result.ok (Value.int .i64 (IntKind.i64.wrap p)) w = _
    rw [wrap_i64 hr]) h
theorem Nx.extract {k : Nat} {vs : Array Value} (hx : evo e x = some (.tuple vs)) (hv : vs[k]? = some v) (hlt : Nat.blt d C.n = true)
    (h : Nx C ((d, v) :: e) I R K) : Nx C e I R (opK C.P ⟨some d, .extract x k, ty, pos, after, g⟩ K Q) :=
  Nx.op_run rfl hlt (fun a w ha _ => by
    simp only [execOp, ha.eval hx]
    refine run_v ?_
    simp [Instr.extract, hv]) h
theorem Nx.nilCheck {A : Addr} (hx : evo e x = some (.pointer (some A))) (hlt : Nat.blt d C.n = true)
    (h : Nx C ((d, .pointer (some A)) :: e) I R K) : Nx C e I R (opK C.P ⟨some d, .nilCheck x, ty, pos, after, g⟩ K Q) :=
  Nx.op_run rfl hlt (fun a w ha _ => by simp only [execOp, ha.eval hx]; rfl) h
theorem Nx.nilCheck0 {A : Addr} (hx : evo e x = some (.pointer (some A)))
    (h : Nx C e I R K) : Nx C e I R (opK C.P ⟨none, .nilCheck x, ty, pos, after, g⟩ K Q) :=
  Nx.op_run0 rfl (fun a w ha _ => by simp only [execOp, ha.eval hx]; rfl) h
theorem Nx.nilCheckF {F : Fn} {c1 c2 : Array Value} (hx : evo e x = some (.func F c1 c2)) (hF : (∃ f, F = .func f)) (hlt : Nat.blt d C.n = true)
    (h : Nx C ((d, .func F c1 c2) :: e) I R K) : Nx C e I R (opK C.P ⟨some d, .nilCheck x, ty, pos, after, g⟩ K Q) :=
  Nx.op_run rfl hlt (fun a w ha _ => by obtain ⟨f, rfl⟩ := hF; simp only [execOp, ha.eval hx]; rfl) h
theorem Nx.makeFunc {F : Fn} {c1 c2 : Array Operand} {v1 v2 : List Value} (h1 : evs e c1.toList = some v1) (h2 : evs e c2.toList = some v2) (hlt : Nat.blt d C.n = true)
    (h : Nx C ((d, .func F v1.toArray v2.toArray) :: e) I R K) : Nx C e I R (opK C.P ⟨some d, .makeFunc F c1 c2, ty, pos, after, g⟩ K Q) :=
  Nx.op_run rfl hlt (fun a w ha _ => by
    have e1 : c1.map a.eval = v1.toArray := by rw [← ha.evals h1]; exact Array.ext' (by rw [Array.toList_map])
    have e2 : c2.map a.eval = v2.toArray := by rw [← ha.evals h2]; exact Array.ext' (by rw [Array.toList_map])
    simp only [execOp, e1, e2]
    rfl) h
theorem Nx.field {k : Nat} (hx : evo e x = some vx) (hv : pureRun C.P (Instr.field t vx k) = some v) (hlt : Nat.blt d C.n = true)
    (h : Nx C ((d, v) :: e) I R K) : Nx C e I R (opK C.P ⟨some d, .field t x k, ty, pos, after, g⟩ K Q) :=
  Nx.op_run rfl hlt (fun a w ha _ => by simp only [execOp, ha.eval hx]; exact run_v (run_of_pureRun hv w)) h
theorem Nx.index (hx : evo e x = some vx) (hy : evo e y = some vy) (hv : pureRun C.P (Instr.index t vx vy) = some v) (hlt : Nat.blt d C.n = true)
    (h : Nx C ((d, v) :: e) I R K) : Nx C e I R (opK C.P ⟨some d, .index t x y, ty, pos, after, g⟩ K Q) :=
  Nx.op_run rfl hlt (fun a w ha _ => by simp only [execOp, ha.eval hx, ha.eval hy]; exact run_v (run_of_pureRun hv w)) h

/-- A small number, forced to a literal. -/
def forced : Nat → Option Nat
  | 0 => some 0 | 1 => some 1 | 2 => some 2 | 3 => some 3 | 4 => some 4 | 5 => some 5 | 6 => some 6 | 7 => some 7 | 8 => some 8 | 9 => some 9
  | 10 => some 10 | 11 => some 11 | 12 => some 12 | 13 => some 13 | 14 => some 14 | 15 => some 15 | 16 => some 16 | 17 => some 17 | 18 => some 18 | 19 => some 19
  | 20 => some 20 | 21 => some 21 | 22 => some 22 | 23 => some 23 | 24 => some 24 | 25 => some 25 | 26 => some 26 | 27 => some 27 | 28 => some 28 | 29 => some 29
  | 30 => some 30 | 31 => some 31 | 32 => some 32 | 33 => some 33 | 34 => some 34 | 35 => some 35 | 36 => some 36 | 37 => some 37 | 38 => some 38 | 39 => some 39
  | 40 => some 40 | 41 => some 41 | 42 => some 42 | 43 => some 43 | 44 => some 44 | 45 => some 45 | 46 => some 46 | 47 => some 47 | 48 => some 48 | 49 => some 49
  | _ => none
theorem forced_eq {a b : Nat} (h : forced a = some b) : a = b := by
  unfold forced at h
  split at h <;> simp at h <;> omega
def cellsIn (P : Program) (t : TypeId) : Option Nat := match P.info? t with | some i => forced i.size | none => none
theorem cellsIn_run {P : Program} {t : TypeId} {n : Nat} (h : cellsIn P t = some n) (w : World) : (sizeOf t).run P w = .ok n w := by
  unfold cellsIn at h
  split at h
  · rename_i i hi
    have := forced_eq h
    simp [sizeOf, typeInfo, hi, this]
  · cases h
def fieldOff (P : Program) (t : TypeId) (k : Nat) : Option Nat :=
  match P.underlying t with
  | some (.struct fs) => match fs[k]? with
    | some f => match cellsIn P f.type with
      | some 0 => none
      | some _ => forced f.offset
      | none => none
    | none => none
  | _ => none
theorem fieldOff_run {P : Program} {t : TypeId} {k o : Nat} (h : fieldOff P t k = some o) (A : Addr) (w : World) : (Instr.fieldAt t (.pointer (some A)) k).run P w = .ok (.pointer (some (A.add o))) w := by
  unfold fieldOff at h
  split at h
  · rename_i fs hfs
    split at h
    · rename_i f hf
      split at h
      · cases h
      · rename_i n hn0 hn
        have hsz := cellsIn_run hn w
        have ho := forced_eq h
        have h0 : ¬ n = 0 := hn0
        unfold Instr.fieldAt
        rw [Sem.run_bind, run_underlying hfs, Result.andThen_ok]
        simp only [hf]
        simp [Instr.sureAddr, fieldPlace, hsz, h0, ho]
      · cases h
    · cases h
  · cases h
theorem Nx.fieldAddr {k o : Nat} {A : Addr} (hx : evo e x = some (.pointer (some A))) (ho : fieldOff C.P t k = some o) (hlt : Nat.blt d C.n = true)
    (h : Nx C ((d, .pointer (some (A.add o))) :: e) I R K) : Nx C e I R (opK C.P ⟨some d, .fieldAddr t x k, ty, pos, after, g⟩ K Q) :=
  Nx.op_run rfl hlt (fun a w ha _ => by simp only [execOp, ha.eval hx]; exact run_v (fieldOff_run ho A w)) h
/-- The field of a variable that begins at a known place. -/
theorem Nx.fieldAddr_at {k o b p : Nat} (hx : evo e x = some (.pointer (some ⟨b, p, none⟩))) (ho : fieldOff C.P t k = some o) (hlt : Nat.blt d C.n = true)
    (h : Nx C ((d, .pointer (some ⟨b, p + o, none⟩)) :: e) I R K) : Nx C e I R (opK C.P ⟨some d, .fieldAddr t x k, ty, pos, after, g⟩ K Q) :=
  Nx.fieldAddr hx ho hlt (by rw [Addr.add_lit]; exact h)

/-! ## One rule for all operations that need no world -/
def binRun (P : Program) (op : BinOp) (t : TypeId) (x y : Operand) : Value → Value → Option Value
  | .int k a, .int k' b => match op with
    | .eql => match decide (k = k') with | true => some (.bool (decide (a = b))) | false => none
    | .neq => match decide (k = k') with | true => some (.bool (decide (a ≠ b))) | false => none
    | .lss => match decide (k = k') with | true => some (.bool (decide (a < b))) | false => none
    | .leq => match decide (k = k') with | true => some (.bool (decide (a ≤ b))) | false => none
    | .gtr => match decide (k = k') with | true => some (.bool (decide (b < a))) | false => none
    | .geq => match decide (k = k') with | true => some (.bool (decide (b ≤ a))) | false => none
    | _ => none
  | vx, vy => pureRun P (do eqGuard op t x y vx vy; binOp op t vx vy)
theorem binRun_sound {P : Program} {op : BinOp} {t : TypeId} {x y : Operand} {vx vy v : Value} (h : binRun P op t x y vx vy = some v) (w : World) :
    (do eqGuard op t x y vx vy; binOp op t vx vy : Sem Value).run P w = .ok v w := by
  unfold binRun at h
  split at h
  · rename_i k a k' b
    have key : ∀ {p : Prop} [Decidable p] {c : Bool}, (match decide (k = k') with | true => some (Value.bool (decide p)) | false => none) = some v → c = decide p → k = k' ∧ v = .bool c := by
      intro p _ c hm hc
      by_cases hk : k = k'
      · simp [hk] at hm; exact ⟨hk, by rw [hc]; exact hm.symm⟩
      · simp [hk] at hm
    rw [eqGuard_at_int]
    cases op <;> simp only at h <;> try (cases h; done)
    · obtain ⟨rfl, rfl⟩ := key h rfl; rw [binOp_eql]; rfl
    · obtain ⟨rfl, rfl⟩ := key h (show (a != b) = decide (a ≠ b) by by_cases hab : a = b <;> simp [hab]); rw [binOp_neq]; rfl
    · obtain ⟨rfl, rfl⟩ := key h rfl; rw [binOp_lss]; rfl
    · obtain ⟨rfl, rfl⟩ := key h rfl; rw [binOp_leq]; rfl
    · obtain ⟨rfl, rfl⟩ := key h rfl; rw [binOp_gtr]; rfl
    · obtain ⟨rfl, rfl⟩ := key h rfl; rw [binOp_geq]; rfl
  · exact run_of_pureRun h w
def unRun (P : Program) (op : UnOp) : Value → Option Value
  | .int _ _ => match op with
    | _ => none
  | vx => pureRun P (Op.unary op vx)
def lenRun (P : Program) (t : TypeId) : Value → Option Value
  | .slice _ n _ => match P.underlying t with
    | some (.slice _) => some (.int .i64 n)
    | _ => none
  | .string s => match P.underlying t with
    | some .string => some (.int .i64 s.size)
    | _ => none
  | _ => none
def opRun (P : Program) (e : Env) : Op → Option Value
  | .move x => evo e x
  | .assign x => evo e x
  | .pick c a b => match evo e c with
    | some (.bool true) => evo e a
    | some (.bool false) => evo e b
    | _ => none
  | .binOp op t x y _ => match evo e x with
    | none => none
    | some vx => match evo e y with
      | none => none
      | some vy => binRun P op t x y vx vy
  | .unOp op _ x => match evo e x with
    | none => none
    | some vx => unRun P op vx
  | .extract x k => match evo e x with
    | some (.tuple ⟨vs⟩) => nthL vs k
    | _ => none
  | .fieldAddr t x k => match evo e x with
    | some (.pointer (some ⟨b, p, none⟩)) => match fieldOff P t k with
      | some o => some (.pointer (some ⟨b, p + o, none⟩))
      | none => none
    | _ => none
  | .nilCheck x => match evo e x with
    | some (.pointer (some a)) => some (.pointer (some a))
    | _ => none
  | .call { callee := .builtin .len, args := ⟨[x]⟩, argTypes := ⟨[t]⟩ } => match evo e x with
    | some v => lenRun P t v
    | none => none
  | _ => none
theorem opRun_sound {P : Program} {op : Op} {v : Value} (h : opRun P e op = some v) {n : Nat} {a : Act} (ha : Mod n e a) (w : World) {dst : Option Tmp} {ty : TypeId} {pos : String} {after : Array Edge} {g : Option (Nat × Bool)} :
    (execOp a.eval ⟨dst, op, ty, pos, after, g⟩).run P w = .ok (.value v) w := by
  unfold opRun at h
  split at h
  · simp only [execOp, ha.eval h]; rfl
  · simp only [execOp, ha.eval h]; rfl
  · split at h
    · rename_i hc; simp only [execOp, ha.eval hc, ha.eval h]; rfl
    · rename_i hc; simp only [execOp, ha.eval hc, ha.eval h]; rfl
    · cases h
  · split at h
    · cases h
    · rename_i vx hx
      split at h
      · cases h
      · rename_i vy hy
        simp only [execOp, ha.eval hx, ha.eval hy]
        exact run_v (binRun_sound h w)
  · split at h
    · cases h
    · rename_i vx hx
      simp only [execOp, ha.eval hx]
      refine run_v ?_
      unfold unRun at h
      split at h
      · cases h
      · exact run_of_pureRun h w
  · split at h
    · rename_i vs hx
      simp only [execOp, ha.eval hx]
      refine run_v ?_
      rw [nthL_eq] at h
      simp [Instr.extract, h]
    · cases h
  · split at h
    · rename_i b p hx
      split at h
      · rename_i o ho
        obtain rfl := Option.some.inj h
        simp only [execOp, ha.eval hx]
        have := fieldOff_run ho ⟨b, p, none⟩ w
        rw [Addr.add_lit] at this
        exact run_v this
      · cases h
    · cases h
  · split at h
    · rename_i A hx
      obtain rfl := Option.some.inj h
      simp only [execOp, ha.eval hx]; rfl
    · cases h
  · split at h
    · rename_i x t _ u hx
      unfold lenRun at h
      have e1 : ∀ cs, (builtin .len #[t] ty cs #[u]).run P w = .ok (.value v) w → (execOp a.eval ⟨dst, .call { callee := .builtin .len, args := #[x], argTypes := #[t] }, ty, pos, after, g⟩).run P w = .ok (.value v) w := by
        intro cs hcs
        simp only [execOp, resolve, List.map_toArray, List.map_cons, List.map_nil, ha.eval hx]
        exact hcs
      refine e1 #[] ?_
      refine run_v ?_
      unfold Builtin.len_
      simp only [List.getElem?_toArray, List.getElem?_cons_zero]
      split at h
      · split at h
        · rename_i el hd
          obtain rfl := Option.some.inj h
          rw [Sem.run_bind, run_underlying hd]; rfl
        · cases h
      · split at h
        · rename_i hd
          obtain rfl := Option.some.inj h
          rw [Sem.run_bind, run_underlying hd]; rfl
        · cases h
      · cases h
    · cases h
  · cases h
theorem Nx.opr {op : Op} (hv : opRun C.P e op = some v) (hlt : Nat.blt d C.n = true) (h : Nx C ((d, v) :: e) I R K) : Nx C e I R (opK C.P ⟨some d, op, ty, pos, after, g⟩ K Q) :=
  Nx.op_run rfl hlt (fun _ w ha _ => opRun_sound hv ha w) h
theorem Nx.opr0 {op : Op} (hv : opRun C.P e op = some v) (h : Nx C e I R K) : Nx C e I R (opK C.P ⟨none, op, ty, pos, after, g⟩ K Q) :=
  Nx.op_run0 rfl (fun _ w ha _ => opRun_sound hv ha w) h

/-! ## Reading memory -/
/-- In every such state the cell holds this. -/
def Rd (W : World) (I : PH) (R : List Res) (A : Addr) (v : Value) : Prop := ∀ w, St W I R w → w.cell? A = some v
def cellH (I : PH) (a : Addr) : Option Value :=
  match I a.block with
  | some (.cells c _ _) => if a.spot.isSome then none else c[a.off]?
  | _ => none
theorem cellH_cell {w : World} {I : PH} (h : ∀ i o, I i = some o → w.heap[i]? = some o) {a : Addr} {v : Value} (hc : cellH I a = some v) : w.cell? a = some v := by
  unfold cellH at hc
  split at hc
  · rename_i c t fz hb
    simp only [World.cell?, h _ _ hb]
    exact hc
  · cases hc
theorem cellH_mono {I I' : PH} (h : PH.le I I') {a : Addr} {v : Value} (hc : cellH I a = some v) : cellH I' a = some v := by
  unfold cellH at hc ⊢
  split at hc
  · rename_i c t fz hb
    rw [h _ _ hb]
    exact hc
  · cases hc
variable {W : World} {A : Addr}
theorem Rd.imm (hc : cellH I A = some v) : Rd W I R A v := fun _ h => by
  obtain ⟨⟨m, _, hs⟩, _⟩ := h
  exact cellH_cell hs.imm hc
theorem Rd.own {r : Res} (hc : ∀ m, r m → cellH m A = some v) : Rd W I (r :: R) A v := fun _ h => by
  obtain ⟨⟨m, ⟨m1, m2, _, rfl, hr, _⟩, hs⟩, _⟩ := h
  exact cellH_cell (fun i o hi => hs.own i o (PH.le_or_left m1 m2 i o hi)) (hc m1 hr)
theorem Rd.tail {r : Res} (h : Rd W I R A v) : Rd W I (r :: R) A v := fun w hw => h w (hw.ent (Ent.drop (Ent.refl R)))
theorem Rd.ent (hR : Ent R R') (h : Rd W I R' A v) : Rd W I R A v := fun w hw => h w (hw.ent hR)

def Blk (b : Nat) (t : TypeId) (cs : List Value) : Res := fun m => m b = some (.cells cs.toArray t (0, 0))
theorem Rd.blk0 {b i : Nat} {cs : List Value} (hc : cs[i]? = some v) : Rd W I (Blk b t cs :: R) ⟨b, i, none⟩ v :=
  Rd.own fun m hm => by simp [cellH, show m b = _ from hm, hc]
theorem Rd.blk {b i : Nat} {cs : List Value} (hc : nthL cs i = some v) : Rd W I (Blk b t cs :: R) ⟨b, i, none⟩ v := Rd.blk0 (nthL_eq.symm.trans hc)
/-- Read in resource number k. -/
theorem Rd.at_ (k : Nat) {b i : Nat} {cs : List Value} (hk : nthL R k = some (Blk b t cs)) (hc : nthL cs i = some v) : Rd W I R ⟨b, i, none⟩ v :=
  Rd.ent (Ent.pull k R _ (nthL_eq.symm.trans hk)) (Rd.blk hc)

/-- A list of cells. -/
def Rds (W : World) (I : PH) (R : List Res) (A : Addr) (vs : List Value) : Prop := ∀ j u, vs[j]? = some u → Rd W I R (A.add j) u
theorem Rds.tail {r : Res} {vs : List Value} (h : Rds W I R A vs) : Rds W I (r :: R) A vs := fun j u hj => (h j u hj).tail
theorem Rds.blk {b i n : Nat} {cs vs : List Value} (hc : (cs.drop i).take n = vs) : Rds W I (Blk b t cs :: R) ⟨b, i, none⟩ vs := fun j u hj => by
  rw [Addr.add_lit]
  subst hc
  refine Rd.blk0 ?_
  rw [List.getElem?_take] at hj
  split at hj
  · rw [List.getElem?_drop] at hj; exact hj
  · cases hj
theorem Rds.blk0 {b : Nat} {cs : List Value} : Rds W I (Blk b t cs :: R) ⟨b, 0, none⟩ cs := fun j u hj => by
  rw [Addr.add_lit, Nat.zero_add]
  exact Rd.blk0 hj

theorem Rds.at_ (k : Nat) {b : Nat} {cs : List Value} (hk : nthL R k = some (Blk b t cs)) : Rds W I R ⟨b, 0, none⟩ cs := fun j u hj =>
  Rd.ent (Ent.pull k R _ (nthL_eq.symm.trans hk)) (Rds.blk0 j u hj)
def cutL : List Value → Nat → Nat → Option (List Value)
  | _, 0, 0 => some []
  | [], _, _ => none
  | c :: r, 0, n + 1 => match cutL r 0 n with
    | some l => some (c :: l)
    | none => none
  | _ :: r, i + 1, n => cutL r i n
theorem cutL_eq : ∀ {cs : List Value} {i n : Nat} {vs : List Value}, cutL cs i n = some vs → (cs.drop i).take n = vs
  | [], 0, 0, vs, h => by simp [cutL] at h; simp [h]
  | [], 0, n + 1, vs, h => by simp [cutL] at h
  | [], i + 1, n, vs, h => by simp [cutL] at h
  | c :: r, 0, 0, vs, h => by simp [cutL] at h; simp [h]
  | c :: r, 0, n + 1, vs, h => by
    unfold cutL at h
    split at h
    · rename_i l hl
      have := cutL_eq hl
      simp only [List.drop_zero] at this
      have h := Option.some.inj h
      simp only [List.drop_zero, List.take_succ_cons, this, h]
    · cases h
  | c :: r, i + 1, n, vs, h => by
    unfold cutL at h
    rw [List.drop_succ_cons]
    exact cutL_eq h
theorem Rds.cut (k n : Nat) {b i : Nat} {cs vs : List Value} (hk : nthL R k = some (Blk b t cs)) (hc : cutL cs i n = some vs) : Rds W I R ⟨b, i, none⟩ vs := fun j u hj =>
  Rd.ent (Ent.pull k R _ (nthL_eq.symm.trans hk)) (Rds.blk (cutL_eq hc) j u hj)
def plainT (P : Program) (t : TypeId) : Bool := match P.underlying t with
  | some (.struct _) => false
  | some (.array _ _) => false
  | some _ => true
  | none => false
def aggT (P : Program) (t : TypeId) : Bool := match P.underlying t with
  | some (.struct _) => true
  | some (.array _ _) => true
  | _ => false
theorem run_isAgg_plain {P : Program} (h : plainT P t = true) (w : World) : (isAgg t).run P w = .ok false w := by
  unfold plainT at h
  split at h
  · cases h
  · cases h
  · rename_i d h1 h2 hd
    unfold isAgg
    rw [Sem.run_bind, run_underlying hd, Result.andThen_ok]
    cases d <;> first | rfl | exact absurd rfl (h1 _) | exact absurd rfl (h2 _ _)
  · cases h
theorem run_isAgg_agg {P : Program} (h : aggT P t = true) (w : World) : (isAgg t).run P w = .ok true w := by
  unfold aggT at h
  split at h
  · rename_i fs hd; unfold isAgg; rw [Sem.run_bind, run_underlying hd, Result.andThen_ok]; rfl
  · rename_i n el hd; unfold isAgg; rw [Sem.run_bind, run_underlying hd, Result.andThen_ok]; rfl
  · cases h
theorem run_loadVar_plain {P : Program} (h : plainT P t = true) {w : World} (hc : w.cell? A = some v) : (loadVar t A).run P w = .ok v w := by
  unfold loadVar
  rw [Sem.run_bind, run_isAgg_plain h, Result.andThen_ok]
  simp only [Bool.false_eq_true, if_false]
  simp [load, Sem.run, hc]
theorem run_loadVar_agg {P : Program} {n : Nat} {vs : List Value} (h : aggT P t = true) (hn : cellsIn P t = some n) (hl : vs.length = n) {w : World} (hc : ∀ j u, vs[j]? = some u → w.cell? (A.add j) = some u) :
    (loadVar t A).run P w = .ok (.agg vs.toArray) w := by
  unfold loadVar
  rw [Sem.run_bind, run_isAgg_agg h, Result.andThen_ok]
  simp only [if_true]
  rw [Sem.run_bind, cellsIn_run hn, Result.andThen_ok, Sem.run_bind, ← hl, run_loadCells_list w A vs hc]
  rfl
theorem Nx.load (hx : evo e x = some (.pointer (some A))) (ht : plainT C.P t = true) (hlt : Nat.blt d C.n = true) (hr : Rd C.W I R A v)
    (h : Nx C ((d, v) :: e) I R K) : Nx C e I R (opK C.P ⟨some d, .load t x, ty, pos, after, g⟩ K Q) :=
  Nx.op_run rfl hlt (fun a w ha hw => by simp only [execOp, ha.eval hx]; exact run_v (run_loadVar_plain ht (hr w hw))) h
theorem Nx.loads {n : Nat} {vs : List Value} (hx : evo e x = some (.pointer (some A))) (ht : aggT C.P t = true) (hn : cellsIn C.P t = some n) (hlt : Nat.blt d C.n = true) (hr : Rds C.W I R A vs) (hl : vs.length = n)
    (h : Nx C ((d, .agg vs.toArray) :: e) I R K) : Nx C e I R (opK C.P ⟨some d, .load t x, ty, pos, after, g⟩ K Q) :=
  Nx.op_run rfl hlt (fun a w ha hw => by simp only [execOp, ha.eval hx]; exact run_v (run_loadVar_agg ht hn hl (fun j u hj => hr j u hj w hw))) h

/-! ## New memory -/
theorem Sat.alloc {w : World} {I m : PH} (h : Sat w I m) (o : Obj) : Sat (w.alloc o) I ((PH.single w.heap.size o).or m) := by
  have hlt : ∀ {i : Nat} {o' : Obj}, w.heap[i]? = some o' → i < w.heap.size := fun {i o'} hi => (Array.getElem?_eq_some_iff.1 hi).1
  have hold : ∀ {i : Nat} {o' : Obj}, w.heap[i]? = some o' → (w.alloc o).heap[i]? = some o' := fun {i o'} hi => (heap_alloc_old w o i (hlt hi)).trans hi
  refine ⟨fun i o' hi => hold (h.imm i o' hi), fun i o' hi => ?_, PH.dis_or.2 ⟨fun i => ?_, h.dis⟩⟩
  · rcases PH.or_eq_some hi with h1 | ⟨_, h1⟩
    · have h2 : (if i = w.heap.size then some o else none) = some o' := h1
      by_cases he : i = w.heap.size
      · rw [if_pos he] at h2; subst he
        obtain rfl : o = o' := by simpa using h2
        exact heap_alloc_new w o
      · rw [if_neg he] at h2; cases h2
    · exact hold (h.own i o' h1)
  · unfold PH.single
    by_cases he : i = w.heap.size
    · left
      cases hi : I i with
      | none => rfl
      | some o' => have := hlt (h.imm i o' hi); omega
    · right; rw [if_neg he]
theorem St.alloc {w : World} (h : St W I R w) (o : Obj) : St W I ((fun m => m w.heap.size = some o) :: R) (w.alloc o) := by
  obtain ⟨⟨m, hm, hs⟩, hst⟩ := h
  refine ⟨⟨_, ⟨_, m, ?_, rfl, by simp [PH.single], hm⟩, hs.alloc o⟩, hst.os, hst.tape, hst.output, Nat.le_trans hst.size (by simp), hst.drawn⟩
  intro i
  unfold PH.single
  by_cases he : i = w.heap.size
  · right
    cases hi : m i with
    | none => rfl
    | some o' => have := (Array.getElem?_eq_some_iff.1 (hs.own i o' hi)).1; omega
  · left; rw [if_neg he]
theorem Nx.op_new {o : Oper} {d : Nat} {v : Nat → Value} {ob : Obj} (hd : o.dst = some d) (hlt : Nat.blt d C.n = true)
    (hrun : ∀ a w, Mod C.n e a → St C.W I R w → (execOp a.eval o).run C.P w = .ok (.value (v w.heap.size)) (w.alloc ob))
    (h : ∀ b, Nx C ((d, v b) :: e) I ((fun m => m b = some ob) :: R) K) : Nx C e I R (opK C.P o K Q) := by
  intro a w ha hw
  unfold opK Oper.wp
  rw [hrun a w ha hw]
  show K (a.put o.dst (v w.heap.size)) (w.alloc ob)
  rw [hd]
  exact h _ _ _ (ha.put hlt _) (hw.alloc ob)
theorem Nx.box {cs : List Value} (hx : evo e x = some vx) (hc : vx.cells.toList = cs) (hlt : Nat.blt d C.n = true)
    (h : ∀ b, Nx C ((d, .pointer (some ⟨b, 0, none⟩)) :: e) I (Blk b t cs :: R) K) : Nx C e I R (opK C.P ⟨some d, .box t x, ty, pos, after, g⟩ K Q) :=
  Nx.op_new (v := fun b => .pointer (some ⟨b, 0, none⟩)) (ob := .cells cs.toArray t) rfl hlt (fun a w ha hw => by
    subst hc
    simp only [execOp, ha.eval hx]
    exact run_v rfl) h
theorem Nx.box_agg {cs : List Value} (hx : evo e x = some (.agg cs.toArray)) (hlt : Nat.blt d C.n = true)
    (h : ∀ b, Nx C ((d, .pointer (some ⟨b, 0, none⟩)) :: e) I (Blk b t cs :: R) K) : Nx C e I R (opK C.P ⟨some d, .box t x, ty, pos, after, g⟩ K Q) :=
  Nx.box hx rfl hlt h
theorem Nx.box1 (hx : evo e x = some vx) (h1 : vx.cells = #[vx]) (hlt : Nat.blt d C.n = true)
    (h : ∀ b, Nx C ((d, .pointer (some ⟨b, 0, none⟩)) :: e) I (Blk b t [vx] :: R) K) : Nx C e I R (opK C.P ⟨some d, .box t x, ty, pos, after, g⟩ K Q) :=
  Nx.box hx (by rw [h1]) hlt h
/-- A value's cells, as a list that is written out. -/
def cellsL : Value → List Value
  | .agg ⟨l⟩ => l
  | v => [v]
theorem cellsL_eq (v : Value) : v.cells.toList = cellsL v := by cases v <;> rfl
def forceL : List Value → Option (List Value)
  | [] => some []
  | v :: r => match forceL r with
    | some r' => some (v :: r')
    | none => none
theorem forceL_eq : ∀ {l l' : List Value}, forceL l = some l' → l' = l
  | [], l', h => by simp [forceL] at h; exact h
  | v :: r, l', h => by
    unfold forceL at h
    split at h
    · rename_i r' hr
      simp at h
      rw [← h, forceL_eq hr]
    · cases h
def zeroOf (P : Program) (t : TypeId) : Option (List Value) := match P.info? t with
  | some i => match i.zero with
    | some z => forceL (cellsL z)
    | none => none
  | none => none
theorem zeroOf_run {P : Program} {cs : List Value} (h : zeroOf P t = some cs) (w : World) : ∃ z : Value, z.cells = cs.toArray ∧ (zeroValue t).run P w = .ok z w := by
  unfold zeroOf at h
  split at h
  · rename_i i hi
    split at h
    · rename_i z hz
      refine ⟨z, by rw [forceL_eq h, ← cellsL_eq], by simp [zeroValue, typeInfo, hi, hz]⟩
    · cases h
  · cases h
theorem Nx.alloc {cs : List Value} (hz : zeroOf C.P t = some cs) (hlt : Nat.blt d C.n = true)
    (h : ∀ b, Nx C ((d, .pointer (some ⟨b, 0, none⟩)) :: e) I (Blk b t cs :: R) K) : Nx C e I R (opK C.P ⟨some d, .alloc t, ty, pos, after, g⟩ K Q) :=
  Nx.op_new (v := fun b => .pointer (some ⟨b, 0, none⟩)) (ob := .cells cs.toArray t) rfl hlt (fun a w ha hw => by
    obtain ⟨z, hzc, hrun⟩ := zeroOf_run hz w
    refine run_v ?_
    unfold Instr.alloc
    rw [Sem.run_bind, hrun, Result.andThen_ok]
    simp only [newVar, hzc]
    rfl) h
/-- A struct's literal: its cells, written out. -/
def setAtB : List Value → Nat → Value → Option (List Value)
  | [], _, _ => none
  | _ :: r, 0, v => some (v :: r)
  | c :: r, i + 1, v => match setAtB r i v with
    | some r' => some (c :: r')
    | none => none
def setsAtB : List Value → Nat → List Value → Option (List Value)
  | cs, _, [] => some cs
  | cs, i, v :: vs => match setAtB cs i v with
    | none => none
    | some cs' => setsAtB cs' (i + 1) vs
def buildRun (P : Program) (t : TypeId) : List (Nat × Value) → List Value → Option (List Value)
  | [], cs => forceL cs
  | (k, v) :: r, cs => match fieldOff P t k with
    | none => none
    | some o => match setsAtB cs o (cellsL v) with
      | none => none
      | some cs' => buildRun P t r cs'
def buildV (P : Program) (t : TypeId) (parts : List (Nat × Value)) : Option (List Value) := match zeroOf P t with
  | none => none
  | some zs => buildRun P t parts zs
/-- 'hcs' finds the cells, 'hv' holds them against the model's own run. -/
theorem Nx.build {parts : Array (Nat × Operand)} {vs cs : List Value} (hx : evs e (parts.toList.map (·.2)) = some vs)
    (hcs : buildV C.P t ((parts.toList.map (·.1)).zip vs) = some cs) (hv : pureRun C.P (Instr.build t (((parts.toList.map (·.1)).zip vs).toArray)) = some (.agg cs.toArray)) (hlt : Nat.blt d C.n = true)
    (h : Nx C ((d, .agg cs.toArray) :: e) I R K) : Nx C e I R (opK C.P ⟨some d, .build t parts, ty, pos, after, g⟩ K Q) :=
  have _ := hcs
  Nx.op_run rfl hlt (fun a w ha _ => by
    have e1 : (parts.map fun (i, x) => (i, a.eval x)) = ((parts.toList.map (·.1)).zip vs).toArray := by
      rw [← ha.evals hx]
      apply Array.ext'
      simp only [Array.toList_map]
      induction parts.toList with
      | nil => rfl
      | cons p r ih => simp [ih]
    simp only [execOp, e1]
    exact run_v (run_of_pureRun hv w)) h
/-- The cells of a slice's literal whose parts stand one behind the other. -/
def litRun : List (Nat × Value) → Nat → Nat → Option (List Value)
  | [], _, _ => some []
  | (j, v) :: r, i, sz => match Nat.beq j i with
    | false => none
    | true => match Nat.beq (cellsL v).length sz with
      | false => none
      | true => match litRun r (i + 1) sz with
        | none => none
        | some cs => forceL (cellsL v ++ cs)
theorem foldl_set : ∀ (vs : List Value) (k : Nat) (pre : List Value) (mid post : List Value), mid.length = vs.length → pre.length = k →
    (vs.zipIdx 0).foldl (fun (cs : Array Value) (p : Value × Nat) => cs.setIfInBounds (k + p.2) p.1) (pre ++ mid ++ post).toArray = (pre ++ vs ++ post).toArray := by
  have key : ∀ (vs : List Value) (n k : Nat) (pre mid post : List Value), mid.length = vs.length → pre.length = k + n →
      (vs.zipIdx n).foldl (fun (cs : Array Value) (p : Value × Nat) => cs.setIfInBounds (k + p.2) p.1) (pre ++ mid ++ post).toArray = (pre ++ vs ++ post).toArray := by
    intro vs
    induction vs with
    | nil =>
      intro n k pre mid post hm _
      have : mid = [] := List.eq_nil_of_length_eq_zero (by simpa using hm)
      subst this
      simp
    | cons v vs ih =>
      intro n k pre mid post hm hp
      cases mid with
      | nil => simp at hm
      | cons m mid =>
        simp only [List.zipIdx_cons, List.foldl_cons]
        have hset : (pre ++ m :: mid ++ post).toArray.setIfInBounds (k + n) v = ((pre ++ [v]) ++ mid ++ post).toArray := by
          apply Array.ext'
          simp only [Array.toList_setIfInBounds]
          rw [List.append_assoc, List.set_append]
          rw [if_neg (by omega)]
          have : k + n - pre.length = 0 := by omega
          rw [this]
          simp
        rw [hset, ih (n + 1) k (pre ++ [v]) mid post (by simpa using hm) (by simp; omega)]
        simp
  intro vs k pre mid post hm hp
  exact key vs 0 k pre mid post hm (by omega)
theorem litRun_len : ∀ {parts : List (Nat × Value)} {i sz : Nat} {cs : List Value}, litRun parts i sz = some cs → cs.length = parts.length * sz
  | [], i, sz, cs, h => by simp [litRun] at h; subst h; simp
  | (j, v) :: r, i, sz, cs, h => by
    unfold litRun at h
    split at h
    · cases h
    · split at h
      · cases h
      · rename_i hl
        split at h
        · cases h
        · rename_i cs' hcs
          have h := forceL_eq h
          subst h
          have := litRun_len hcs
          have hl := Nat.eq_of_beq_eq_true hl
          simp [this, hl, Nat.add_mul]
          omega
theorem litRun_fill : ∀ (parts : List (Nat × Value)) (i sz : Nat) (cs pre mid : List Value), litRun parts i sz = some cs → mid.length = parts.length * sz → pre.length = i * sz →
    Instr.fill (fun i => some (i * sz, sz)) (pre ++ mid).toArray parts = some (pre ++ cs).toArray
  | [], i, sz, cs, pre, mid, h, hm, _ => by
    simp [litRun] at h; subst h
    have : mid = [] := List.eq_nil_of_length_eq_zero (by simpa using hm)
    subst this
    rfl
  | (j, v) :: r, i, sz, cs, pre, mid, h, hm, hp => by
    unfold litRun at h
    split at h
    · cases h
    · rename_i hj
      split at h
      · cases h
      · rename_i hl
        split at h
        · cases h
        · rename_i cs' hcs
          have h := forceL_eq h
          subst h
          obtain rfl := Nat.eq_of_beq_eq_true hj
          have hl := Nat.eq_of_beq_eq_true hl
          have hsz : v.cells.size = sz := by rw [← hl, ← cellsL_eq]; simp
          simp only [List.length_cons, Nat.add_mul, Nat.one_mul] at hm
          unfold Instr.fill
          simp only
          rw [if_neg (by simp [hsz]; omega)]
          have e1 : v.cells.zipIdx.foldl (fun cs p => cs.setIfInBounds (j * sz + p.2) p.1) (pre ++ mid).toArray = ((pre ++ cellsL v) ++ mid.drop sz).toArray := by
            rw [← Array.foldl_toList, Array.toList_zipIdx, cellsL_eq]
            have := foldl_set (cellsL v) (j * sz) pre (mid.take sz) (mid.drop sz) (by simp; omega) hp
            rw [List.append_assoc, List.take_append_drop] at this
            exact this
          have e2 : (v.cells.zipIdx.foldl (fun cs (x : Value × Nat) => match x with | (c, j_1) => cs.setIfInBounds (j * sz + j_1) c) (pre ++ mid).toArray) = ((pre ++ cellsL v) ++ mid.drop sz).toArray := e1
          rw [e2, litRun_fill r (j + 1) sz cs' (pre ++ cellsL v) (mid.drop sz) hcs (by simp; omega) (by simp [hp, hl, Nat.add_mul])]
          simp
theorem Nx.buildSlice {el : TypeId} {len sz : Nat} {parts : Array (Nat × Operand)} {vs cs zs : List Value} (hx : evs e (parts.toList.map (·.2)) = some vs) (ht : C.P.underlying t = some (.slice el)) (hsz : cellsIn C.P el = some sz)
    (hv : litRun ((parts.toList.map (·.1)).zip vs) 0 sz = some cs) (hcnt : Nat.beq vs.length len = true) (hz : zeroOf C.P el = some zs) (hsm : Nat.ble (len * sz) 16777216 = true) (hpos : Nat.beq (len * sz) 0 = false) (hlt : Nat.blt d C.n = true)
    (h : ∀ b, Nx C ((d, .slice (some ⟨b, 0, none⟩) len len) :: e) I (Blk b el cs :: R) K) : Nx C e I R (opK C.P ⟨some d, .buildSlice t len parts, ty, pos, after, g⟩ K Q) :=
  Nx.op_new (v := fun b => .slice (some ⟨b, 0, none⟩) len len) (ob := .cells cs.toArray el) rfl hlt (fun a w ha hw => by
    have hlen : vs.length = len := Nat.eq_of_beq_eq_true hcnt
    have e1 : (parts.map fun (i, x) => (i, a.eval x)).toList = (parts.toList.map (·.1)).zip vs := by
      rw [← ha.evals hx]
      simp only [Array.toList_map]
      induction parts.toList with
      | nil => rfl
      | cons p r ih => simp [ih]
    have hpl : ((parts.toList.map (·.1)).zip vs).length = len := by
      have : (parts.toList.map (·.2)).length = vs.length := by rw [← ha.evals hx]; simp
      simp at this
      simp [← hlen]; omega
    simp only [execOp]
    refine run_v ?_
    have hle : ¬ len * sz > 2 ^ 24 := by have := Nat.le_of_ble_eq_true hsm; omega
    have hne : ¬ len * sz = 0 := Nat.ne_of_beq_eq_false hpos
    obtain ⟨z, hzc, hzrun⟩ := zeroOf_run hz w
    have hf := litRun_fill _ 0 sz cs [] ((Array.range (len * sz)).map (z.cells[· % z.cells.size]!)).toList hv (by simp [hpl]) (by simp)
    simp only [List.nil_append, Array.toArray_toList] at hf
    unfold Instr.buildSlice
    rw [Sem.run_bind, run_underlying ht, Result.andThen_ok]
    simp only
    rw [Sem.run_bind, cellsIn_run hsz, Result.andThen_ok, if_neg hle, if_neg hne]
    simp only [Sem.run_bind, Sem.run_pure, Result.andThen_ok, hzrun, e1, hf]
    rfl) h
/-- []T{}: an empty row. -/
theorem Nx.buildSlice0 {el : TypeId} {sz : Nat} (ht : C.P.underlying t = some (.slice el)) (hsz : cellsIn C.P el = some sz) (hlt : Nat.blt d C.n = true)
    (h : ∀ b, Nx C ((d, .slice (some ⟨b, 0, none⟩) 0 0) :: e) I (Blk b el [] :: R) K) : Nx C e I R (opK C.P ⟨some d, .buildSlice t 0 #[], ty, pos, after, g⟩ K Q) :=
  Nx.op_new (v := fun b => .slice (some ⟨b, 0, none⟩) 0 0) (ob := .cells #[] el) rfl hlt (fun a w ha hw => by
    simp only [execOp]
    refine run_v ?_
    unfold Instr.buildSlice
    rw [Sem.run_bind, run_underlying ht, Result.andThen_ok]
    have hz : (sizeOf el).run C.P w = .ok sz w := cellsIn_run hsz w
    have hr : (Array.map (fun _ => (default : Value)) (Array.range 0)) = #[] := by simp [Array.range]
    have hf : Instr.fill (fun i => some (i * sz, sz)) (#[] : Array Value) [] = some #[] := rfl
    simp [hz, hr, hf]
    rfl) h
end
end Go.Eng
