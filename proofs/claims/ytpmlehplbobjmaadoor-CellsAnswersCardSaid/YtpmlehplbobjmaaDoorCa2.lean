/-
  The proof engine, part E: a statement whose order is open. One walk in an order of one's own serves all orders: operations that only read are taken first, the others come up alone.
-/
import Derived.ChangeSame
import Derived.ChangeSlices
import Derived.Carry
import Derived.OpenShut
import Derived.Test.YtpmlehplbobjmaaDoorProg
import Derived.Test.YtpmlehplbobjmaaDoorCa1
namespace Go.Eng
/-- What a panic leads to hangs on no temporary. -/
def PanicOk (Q : Exit → Act → World → Prop) : Prop := ∀ c d v a w, Q (.panic c) (Act.put a d v) w → Q (.panic c) a w
theorem PanicOk.fn {P : Program} {fn : Func} {I : PH} {F : Res} {W : World} {Post : Value → List Res → Prop} : PanicOk (fnPost P fn I F W Post) := by
  rintro c d v a w ⟨_, v', R', he, _⟩
  cases he
theorem PanicOk.then_ {K : Act → World → Prop} {Q : Exit → Act → World → Prop} (h : PanicOk Q) : PanicOk (Exit.then K Q) := fun c d v a w hq => h c d v a w hq
theorem PanicOk.inB {id : Nat} {Q : Exit → Act → World → Prop} (h : PanicOk Q) : PanicOk (Exit.inBlock id Q) := fun c d v a w hq => h c d v a w hq
def mixOk (ops : Array Oper) (loud : List Nat) : List Nat → Array Bool → Bool
  | [], listed => (Region.ready .any ops listed).isEmpty
  | k :: r, listed => (if loud.contains k then Region.ready .any ops listed == [k] else Region.free .any ops listed k && (Region.ready .any ops listed).contains k) && mixOk ops loud r (listed.setIfInBounds k true)
/-- The operations in the order that was chosen. -/
def wpMix (P : Program) (ops : Array Oper) (Q : Exit → Act → World → Prop) (S : World → Prop) (loud : List Nat) : List Nat → Act → World → Prop
  | [], a, w => Q .normal a w
  | k :: r, a, w => ∃ o, ops[k]? = some o ∧
    if loud.contains k then wpOp P ops Q k (fun a' w' => S w' ∧ wpMix P ops Q S loud r a' w') a w
    else ∃ v, YieldsIf P ops S o v a ∧ wpMix P ops Q S loud r (a.put o.dst v) w
theorem wpMix_any {P : Program} {ops : Array Oper} {Q : Exit → Act → World → Prop} {S : World → Prop} {loud : List Nat} (hs : Region.noSelect ops = true) (hQ : PanicOk Q) : ∀ (ord : List Nat) (fuel : Nat) (listed : Array Bool) (a : Act) (w : World),
    mixOk ops loud ord listed = true → ord.length ≤ fuel → S w → wpMix P ops Q S loud ord a w → wpAnyH P .any ops Q S fuel listed a w
  | [], fuel, listed, a, w, hok, _, _, h => wpAnyH_done (by simpa [mixOk] using hok) h fuel
  | k :: r, fuel, listed, a, w, hok, hf, hS, h => by
    cases fuel with
    | zero => simp at hf
    | succ fuel =>
      obtain ⟨o, ho, h⟩ := h
      unfold mixOk at hok
      rw [Bool.and_eq_true] at hok
      obtain ⟨hk, hr⟩ := hok
      simp only [List.length_cons] at hf
      by_cases hl : loud.contains k = true
      · rw [if_pos hl] at h hk
        refine wpAnyH_all (rs := [k]) (by simpa using hk) (by simp) fun i hi => ?_
        simp at hi
        subst hi
        exact wpOp_mono (fun a' w' ⟨h1, h2⟩ => ⟨h1, wpMix_any hs hQ r fuel _ a' w' hr (by omega) h1 h2⟩) h
      · rw [if_neg hl] at h hk
        rw [Bool.and_eq_true] at hk
        obtain ⟨v, hy, h⟩ := h
        exact wpAnyH_take ho hs hk.1 hk.2 (fun c a w => hQ c o.dst v a w) hy hS (wpMix_any hs hQ r fuel _ _ w hr (by omega) hS h)
section
variable {C : Cx} {e e' : Env} {I : PH} {R R' R0 : List Res} {K K' : Act → World → Prop} {Q : Exit → Act → World → Prop} {W : World}
variable {ops : Array Oper} {S : World → Prop} {loud r : List Nat} {k d : Nat} {v : Value} {o : Oper}
theorem St.drew {w : World} (h : St W I R w) : St W I R { w with drawn := w.drawn + 1 } :=
  ⟨by obtain ⟨m, hm, hs⟩ := h.mem; exact ⟨m, hm, ⟨hs.imm, hs.own, hs.dis⟩⟩, ⟨h.still.os, h.still.tape, h.still.output, h.still.size, Nat.le_trans h.still.drawn (Nat.le_succ _)⟩⟩
/-- 'ord': the order of the walk; 'loud': those that write, make memory or call; 'R0': what nobody in the region writes. -/
theorem Nx.draw (ord loud : List Nat) (R0 : List Res) {id : Nat} (hm : C.P.follows .mixedOrders = true) (hs : Region.noSelect ops = true) (hok : mixOk ops loud ord (Array.replicate ops.size false) = true) (hlen : Nat.ble ord.length ops.size = true) (hQ : PanicOk Q) (hR : Ent R R0)
    (h : Nx C e I R (wpMix C.P ops Q (St C.W I R0) loud ord)) : Nx C e I R ((Code.region id ops true).wp C.P Q) := by
  intro a w ha hw
  refine wp_region_held (S := St C.W I R0) hm (wpMix_any hs hQ ord _ _ a _ hok (Nat.le_of_ble_eq_true hlen) (hw.drew.ent hR) (h a _ ha hw.drew))
theorem Nx.mix_nil (h : Nx C e I R (Q .normal)) : Nx C e I R (wpMix C.P ops Q S loud []) := fun a w ha hw => h a w ha hw
theorem Nx.mix_nil_then {K : Act → World → Prop} (h : Nx C e I R K) : Nx C e I R (wpMix C.P ops (Exit.then K Q) S loud []) := fun a w ha hw => h a w ha hw
/-- One that only reads. -/
theorem Nx.mix_q (ho : ops[k]? = some o) (hl : loud.contains k = false) (hg : o.guard = none) (hd : o.dst = some d) (hlt : Nat.blt d C.n = true)
    (hrun : ∀ a w, Mod C.n e a → S w → (execOp a.eval o).run C.P w = .ok (.value v) w) (h : Nx C ((d, v) :: e) I R (wpMix C.P ops Q S loud r)) : Nx C e I R (wpMix C.P ops Q S loud (k :: r)) := by
  intro a w ha hw
  refine ⟨o, ho, ?_⟩
  rw [if_neg (by rw [hl]; simp)]
  refine ⟨v, .inl ⟨by simp [Region.wanted, hg], fun w hS => hrun a w ha hS⟩, ?_⟩
  rw [hd]
  exact h _ w (ha.put hlt v) hw
theorem Nx.mix_q_do {j dj : Nat} {want : Bool} (ho : ops[k]? = some o) (hl : loud.contains k = false) (hg : o.guard = some (j, want)) (hdj : (ops[j]?).bind (·.dst) = some dj) (hb : lk e dj = some (.bool want)) (hd : o.dst = some d) (hlt : Nat.blt d C.n = true)
    (hrun : ∀ a w, Mod C.n e a → S w → (execOp a.eval o).run C.P w = .ok (.value v) w) (h : Nx C ((d, v) :: e) I R (wpMix C.P ops Q S loud r)) : Nx C e I R (wpMix C.P ops Q S loud (k :: r)) := by
  intro a w ha hw
  refine ⟨o, ho, ?_⟩
  rw [if_neg (by rw [hl]; simp)]
  refine ⟨v, .inl ⟨by simp [Region.wanted, hg, yielded_of ha hdj hb], fun w hS => hrun a w ha hS⟩, ?_⟩
  rw [hd]
  exact h _ w (ha.put hlt v) hw
theorem Nx.mix_q_no {j dj : Nat} {want : Bool} (ho : ops[k]? = some o) (hl : loud.contains k = false) (hg : o.guard = some (j, want)) (hdj : (ops[j]?).bind (·.dst) = some dj) (hb : lk e dj = some (.bool (!want))) (hd : o.dst = some d) (hlt : Nat.blt d C.n = true)
    (h : Nx C ((d, undef) :: e) I R (wpMix C.P ops Q S loud r)) : Nx C e I R (wpMix C.P ops Q S loud (k :: r)) := by
  intro a w ha hw
  refine ⟨o, ho, ?_⟩
  rw [if_neg (by rw [hl]; simp)]
  refine ⟨undef, .inr ⟨by simp [Region.wanted, hg, yielded_of ha hdj hb], rfl⟩, ?_⟩
  rw [hd]
  exact h _ w (ha.put hlt undef) hw
/-- One that comes up alone. -/
theorem Nx.mix_l (ho : ops[k]? = some o) (hl : loud.contains k = true) (hg : o.guard = none) (h : Nx C e I R (opK C.P o (fun a w => S w ∧ wpMix C.P ops Q S loud r a w) Q)) : Nx C e I R (wpMix C.P ops Q S loud (k :: r)) := by
  intro a w ha hw
  refine ⟨o, ho, ?_⟩
  rw [if_pos hl]
  unfold wpOp
  simp only [ho]
  rw [if_pos (by simp [Region.wanted, hg])]
  exact .inl (h a w ha hw)
theorem Nx.mix_l_do {j dj : Nat} {want : Bool} (ho : ops[k]? = some o) (hl : loud.contains k = true) (hg : o.guard = some (j, want)) (hdj : (ops[j]?).bind (·.dst) = some dj) (hb : lk e dj = some (.bool want))
    (h : Nx C e I R (opK C.P o (fun a w => S w ∧ wpMix C.P ops Q S loud r a w) Q)) : Nx C e I R (wpMix C.P ops Q S loud (k :: r)) := by
  intro a w ha hw
  refine ⟨o, ho, ?_⟩
  rw [if_pos hl]
  unfold wpOp
  simp only [ho]
  rw [if_pos (by simp [Region.wanted, hg, yielded_of ha hdj hb])]
  exact .inl (h a w ha hw)
theorem Nx.mix_l_no {j dj : Nat} {want : Bool} (ho : ops[k]? = some o) (hl : loud.contains k = true) (hg : o.guard = some (j, want)) (hdj : (ops[j]?).bind (·.dst) = some dj) (hb : lk e dj = some (.bool (!want))) (hd : o.dst = some d) (hlt : Nat.blt d C.n = true)
    (h : Nx C ((d, undef) :: e) I R (fun a w => S w ∧ wpMix C.P ops Q S loud r a w)) : Nx C e I R (wpMix C.P ops Q S loud (k :: r)) := by
  intro a w ha hw
  refine ⟨o, ho, ?_⟩
  rw [if_pos hl]
  unfold wpOp
  simp only [ho]
  rw [if_neg (by simp [Region.wanted, hg, yielded_of ha hdj hb]), hd]
  exact h _ w (ha.put hlt undef) hw
/-- The worlds of which nothing is asked. -/
def AnyW : World → Prop := fun _ => True
theorem Nx.mix_T (h : Nx C e I R K) : Nx C e I R (fun a w => AnyW w ∧ K a w) := fun a w ha hw => ⟨trivial, h a w ha hw⟩
theorem Nx.mix_S (hR : Ent R R0) (h : Nx C e I R K) : Nx C e I R (fun a w => St C.W I R0 w ∧ K a w) := fun a w ha hw => ⟨hw.ent hR, h a w ha hw⟩
/-! ### The quiet operations -/
variable {ty t el : TypeId} {pos : String} {after : Array Edge} {g : Option (Nat × Bool)} {x y : Operand} {A : Option Addr} {ad0 : Addr} {n c : Nat} {vs : List Value}
/-- 'the operation yields v in every world that meets S' -/
def QRun (C : Cx) (e : Env) (S : World → Prop) (o : Oper) (v : Value) : Prop := ∀ a w, Mod C.n e a → S w → (execOp a.eval o).run C.P w = .ok (.value v) w
theorem QRun.opr {op : Op} {dst : Option Tmp} (hv : opRun C.P e op = some v) : QRun C e S ⟨dst, op, ty, pos, after, g⟩ v := fun _ w ha _ => opRun_sound hv ha w
theorem QRun.bin {op : BinOp} {u : TypeId} {vx vy : Value} {dst : Option Tmp} (hx : evo e x = some vx) (hy : evo e y = some vy) (hv : pureRun C.P (do eqGuard op t x y vx vy; binOp op t vx vy) = some v) : QRun C e S ⟨dst, .binOp op t x y u, ty, pos, after, g⟩ v :=
  fun a w ha _ => by simp only [execOp, ha.eval hx, ha.eval hy]; exact run_v (run_of_pureRun hv w)
theorem QRun.add {u : TypeId} {p q : Int} {dst : Option Tmp} (hx : evo e x = some (.int .i64 p)) (hy : evo e y = some (.int .i64 q)) (hr : I64 (p + q)) : QRun C e S ⟨dst, .binOp .add t x y u, ty, pos, after, g⟩ (.int .i64 (p + q)) :=
  QRun.bin hx hy (by rw [← wrap_i64 hr]; rfl)
theorem QRun.sub {u : TypeId} {p q : Int} {dst : Option Tmp} (hx : evo e x = some (.int .i64 p)) (hy : evo e y = some (.int .i64 q)) (hr : I64 (p - q)) : QRun C e S ⟨dst, .binOp .sub t x y u, ty, pos, after, g⟩ (.int .i64 (p - q)) :=
  QRun.bin hx hy (by rw [← wrap_i64 hr]; rfl)
theorem QRun.mul {u : TypeId} {p q : Int} {dst : Option Tmp} (hx : evo e x = some (.int .i64 p)) (hy : evo e y = some (.int .i64 q)) (hr : I64 (p * q)) : QRun C e S ⟨dst, .binOp .mul t x y u, ty, pos, after, g⟩ (.int .i64 (p * q)) :=
  QRun.bin hx hy (by rw [← wrap_i64 hr]; rfl)
theorem QRun.rem {u : TypeId} {p q : Int} {dst : Option Tmp} (hx : evo e x = some (.int .i64 p)) (hy : evo e y = some (.int .i64 q)) (hq : 0 < q) (h0 : 0 ≤ p) : QRun C e S ⟨dst, .binOp .rem t x y u, ty, pos, after, g⟩ (.int .i64 (p % q)) :=
  QRun.bin hx hy (run_rem h0 hq)
theorem QRun.quo {u : TypeId} {p q : Int} {dst : Option Tmp} (hx : evo e x = some (.int .i64 p)) (hy : evo e y = some (.int .i64 q)) (hq : 0 < q) (h0 : 0 ≤ p) (hr : I64 p) : QRun C e S ⟨dst, .binOp .quo t x y u, ty, pos, after, g⟩ (.int .i64 (p / q)) :=
  QRun.bin hx hy (run_quo h0 hq hr)
theorem QRun.conv_i64 {u : TypeId} {k0 : IntKind} {p : Int} {s : TypeDesc} {dst : Option Tmp} (hx : evo e x = some (.int k0 p)) (hs : C.P.underlying t = some s) (ht : C.P.underlying u = some (.int .i64)) (hr : I64 p) : QRun C e S ⟨dst, .convert t u x, ty, pos, after, g⟩ (.int .i64 p) := fun a w ha _ => by
  simp only [execOp, ha.eval hx]
  refine run_v ?_
  unfold convert
  rw [Sem.run_bind, run_underlying hs, Result.andThen_ok, Sem.run_bind, run_underlying ht, Result.andThen_ok]
  show Result.ok (Value.int .i64 (IntKind.i64.wrap p)) w = _
  rw [wrap_i64 hr]
theorem QRun.build {parts : Array (Nat × Operand)} {vs cs : List Value} {dst : Option Tmp} (hx : evs e (parts.toList.map (·.2)) = some vs)
    (hcs : buildV C.P t ((parts.toList.map (·.1)).zip vs) = some cs) (hv : pureRun C.P (Instr.build t (((parts.toList.map (·.1)).zip vs).toArray)) = some (.agg cs.toArray)) : QRun C e S ⟨dst, .build t parts, ty, pos, after, g⟩ (.agg cs.toArray) :=
  have _ := hcs
  fun a w ha _ => by
    have e1 : (parts.map fun (i, x) => (i, a.eval x)) = ((parts.toList.map (·.1)).zip vs).toArray := by
      rw [← ha.evals hx]
      apply Array.ext'
      simp only [Array.toList_map]
      induction parts.toList with
      | nil => rfl
      | cons p r ih => simp [ih]
    simp only [execOp, e1]
    exact run_v (run_of_pureRun hv w)
theorem QRun.min2 {tys : Array TypeId} {k k' : IntKind} {p q : Int} {dst : Option Tmp} (hx : evo e x = some (.int k p)) (hy : evo e y = some (.int k' q)) : QRun C e S ⟨dst, .call { callee := .builtin .min, args := #[x, y], argTypes := tys }, ty, pos, after, g⟩ (.int k (min p q)) := fun a w ha _ => by
  obtain ⟨cs, hcs⟩ := run_builtin (P := C.P) (w := w) (ρ := a.eval) (b := .min) (args := #[x, y]) (dst := dst) (ty := ty) (pos := pos) (after := after) (g := g) (tys := tys) (show [x, y].map a.eval = [Value.int k p, Value.int k' q] from by simp only [List.map_cons, List.map_nil, ha.eval hx, ha.eval hy])
  rw [hcs]
  refine run_v ?_
  show Result.ok (Value.int k (if q < p then q else p)) w = _
  have : (if q < p then q else p) = min p q := by rw [Int.min_def]; split <;> split <;> omega
  rw [this]
theorem QRun.max2 {tys : Array TypeId} {k k' : IntKind} {p q : Int} {dst : Option Tmp} (hx : evo e x = some (.int k p)) (hy : evo e y = some (.int k' q)) : QRun C e S ⟨dst, .call { callee := .builtin .max, args := #[x, y], argTypes := tys }, ty, pos, after, g⟩ (.int k (max p q)) := fun a w ha _ => by
  obtain ⟨cs, hcs⟩ := run_builtin (P := C.P) (w := w) (ρ := a.eval) (b := .max) (args := #[x, y]) (dst := dst) (ty := ty) (pos := pos) (after := after) (g := g) (tys := tys) (show [x, y].map a.eval = [Value.int k p, Value.int k' q] from by simp only [List.map_cons, List.map_nil, ha.eval hx, ha.eval hy])
  rw [hcs]
  refine run_v ?_
  show Result.ok (Value.int k (if q > p then q else p)) w = _
  have : (if q > p then q else p) = max p q := by rw [Int.max_def]; split <;> split <;> omega
  rw [this]
theorem QRun.idx {k0 : IntKind} {i sz : Nat} {dst : Option Tmp} (hx : evo e x = some (.slice A n c)) (hy : evo e y = some (.int k0 (i : Int))) (ht : C.P.underlying t = some (.slice el)) (hsz : cellsIn C.P el = some sz) (h1 : i < n) (hA : A.isSome = true) :
    QRun C e S ⟨dst, .indexAddr t x y, ty, pos, after, g⟩ (.pointer (some ((ad A).add (i * sz)))) := fun a w ha _ => by
  simp only [execOp, ha.eval hx, ha.eval hy]
  refine run_v ?_
  cases A with
  | none => cases hA
  | some a => have := run_indexAt (P := C.P) (c := c) (k := k0) (a := a) ht hsz (i := (i : Int)) (n := n) (by omega) (by omega) w; rw [Int.toNat_natCast] at this; exact this
theorem QRun.idxi {k0 : IntKind} {i : Int} {sz : Nat} {dst : Option Tmp} (hx : evo e x = some (.slice A n c)) (hy : evo e y = some (.int k0 i)) (ht : C.P.underlying t = some (.slice el)) (hsz : cellsIn C.P el = some sz) (h0 : 0 ≤ i) (h1 : i < n) (hA : A.isSome = true) :
    QRun C e S ⟨dst, .indexAddr t x y, ty, pos, after, g⟩ (.pointer (some ((ad A).add (i.toNat * sz)))) := fun a w ha _ => by
  simp only [execOp, ha.eval hx, ha.eval hy]
  refine run_v ?_
  cases A with
  | none => cases hA
  | some a => exact run_indexAt ht hsz h0 h1 w
theorem QRun.load {dst : Option Tmp} (hx : evo e x = some (.pointer (some ad0))) (ht : plainT C.P t = true) (hr : Rd C.W I R0 ad0 v) : QRun C e (St C.W I R0) ⟨dst, .load t x, ty, pos, after, g⟩ v :=
  fun a w ha hw => by simp only [execOp, ha.eval hx]; exact run_v (run_loadVar_plain ht (hr w hw))
theorem QRun.loads {dst : Option Tmp} (hx : evo e x = some (.pointer (some ad0))) (ht : aggT C.P t = true) (hn : cellsIn C.P t = some n) (hr : Rds C.W I R0 ad0 vs) (hl : vs.length = n) : QRun C e (St C.W I R0) ⟨dst, .load t x, ty, pos, after, g⟩ (.agg vs.toArray) :=
  fun a w ha hw => by simp only [execOp, ha.eval hx]; exact run_v (run_loadVar_agg ht hn hl (fun j u hj => hr j u hj w hw))
end
end Go.Eng
/-
  The proof engine, part P: the code of a function is named by the way that leads to it, so that goals stay small.
-/
namespace Go.Eng
def cl : Code → Code
  | .seq a _ => a
  | .cond _ a _ => a
  | .block _ b => b
  | .loop b => b
  | .scope b => b
  | c => c
def cr : Code → Code
  | .seq _ b => b
  | .cond _ _ b => b
  | c => c
def cops : Code → Array Oper
  | .region _ ops _ => ops
  | _ => #[]
def cid : Code → Nat
  | .region id _ _ => id
  | .block id _ => id
  | .exit id => id
  | _ => 0
def ccnd : Code → Operand
  | .cond c _ _ => c
  | _ => .tmp 0
def ck : Code → Nat
  | .skip => 0
  | .region _ _ false => 1
  | .region _ _ true => 2
  | .seq _ _ => 3
  | .cond _ _ _ => 4
  | .block _ _ => 5
  | .loop _ => 6
  | .exit _ => 7
  | .ret => 8
  | .label _ => 9
  | .scope _ => 10
  | .goto _ => 11
  | .rangeFunc _ _ _ _ => 12
  | .refuse _ => 13
def bodyOf (fn : Func) : Code := match fn.body with
  | some c => c
  | none => .skip
/-- Operation number i, laid open. -/
def opAt : List Oper → Nat → Option Oper
  | [], _ => none
  | ⟨a, b, c, d, e, f⟩ :: _, 0 => some ⟨a, b, c, d, e, f⟩
  | _ :: r, i + 1 => opAt r i
theorem opAt_eq : ∀ {l : List Oper} {i : Nat}, opAt l i = l[i]?
  | [], i => by simp [opAt]
  | _ :: _, 0 => rfl
  | _ :: r, i + 1 => by simp only [opAt, List.getElem?_cons_succ]; exact opAt_eq
theorem opAt_arr {ops : Array Oper} {i : Nat} {o : Option Oper} (h : opAt ops.toList i = o) : ops[i]? = o := by
  rw [opAt_eq] at h
  rw [← h]
  simp
/-- The operations from number i on. -/
def wpAt (P : Program) (ops : Array Oper) (Q : Exit → Act → World → Prop) (i : Nat) : Act → World → Prop := wpList P ops Q (ops.toList.drop i)
set_option maxHeartbeats 8000000 in
theorem FnSpec.enterP {P : Program} {f : FuncId} {fn : Func} {args : List Value} {I : PH} {Rpre : List Res} {Post : Value → List Res → Prop} {n : Nat}
    (hf : P.funcs[f]? = some fn) (hb : fn.body.isSome = true) (hn : fn.ntmps = n) (hle : Nat.ble args.length n = true)
    (h : ∀ w F, Nx ⟨P, n, w⟩ (argEnv args 0) I (Rpre ++ [F]) ((bodyOf fn).wp P (fnPost P fn I F w Post))) : FnSpec P f args I Rpre Post := by
  obtain ⟨c, hc⟩ := Option.isSome_iff_exists.1 hb
  have : bodyOf fn = c := by unfold bodyOf; rw [hc]
  rw [this] at h
  exact FnSpec.enter hf hc hn hle h
section
variable {C : Cx} {e e' : Env} {I : PH} {R R' : List Res} {K K' : Act → World → Prop} {Q : Exit → Act → World → Prop} {c : Code}
/-! Which kind of goal: the identity, failing at once elsewhere. -/
theorem Nx.is_at {ops : Array Oper} {i : Nat} (h : Nx C e I R (wpAt C.P ops Q i)) : Nx C e I R (wpAt C.P ops Q i) := h
theorem Nx.is_wp (h : Nx C e I R (c.wp C.P Q)) : Nx C e I R (c.wp C.P Q) := h
theorem Nx.is_mix {ops : Array Oper} {S : World → Prop} {l r : List Nat} (h : Nx C e I R (wpMix C.P ops Q S l r)) : Nx C e I R (wpMix C.P ops Q S l r) := h
theorem Nx.is_mixS {S : World → Prop} (h : Nx C e I R (fun a w => S w ∧ K a w)) : Nx C e I R (fun a w => S w ∧ K a w) := h
theorem Nx.p_seq (hk : ck c = 3) (h : Nx C e I R ((cl c).wp C.P (Exit.then ((cr c).wp C.P Q) Q))) : Nx C e I R (c.wp C.P Q) := by
  cases c <;> first | exact Nx.seq h | (simp [ck] at hk; done) | (rename_i d; cases d <;> simp [ck] at hk)
theorem Nx.p_skip (hk : ck c = 0) (h : Nx C e I R (Q .normal)) : Nx C e I R (c.wp C.P Q) := by
  cases c <;> first | exact Nx.skip h | (simp [ck] at hk; done) | (rename_i d; cases d <;> simp [ck] at hk)
theorem Nx.p_ret (hk : ck c = 8) (h : Nx C e I R (Q .ret)) : Nx C e I R (c.wp C.P Q) := by
  cases c <;> first | exact Nx.ret h | (simp [ck] at hk; done) | (rename_i d; cases d <;> simp [ck] at hk)
theorem Nx.p_label (hk : ck c = 9) (h : Nx C e I R (Q .normal)) : Nx C e I R (c.wp C.P Q) := by
  cases c <;> first | exact Nx.label h | (simp [ck] at hk; done) | (rename_i d; cases d <;> simp [ck] at hk)
theorem Nx.p_exit {id : Nat} (hk : ck c = 7) (hid : forced (cid c) = some id) (h : Nx C e I R (Q (.exit id))) : Nx C e I R (c.wp C.P Q) := by
  have hid := forced_eq hid
  subst hid
  cases c <;> first | exact Nx.exit h | (simp [ck] at hk; done) | (rename_i d; cases d <;> simp [ck] at hk)
theorem Nx.p_block {id : Nat} (hk : ck c = 5) (hid : forced (cid c) = some id) (h : Nx C e I R ((cl c).wp C.P (Exit.inBlock id Q))) : Nx C e I R (c.wp C.P Q) := by
  have hid := forced_eq hid
  subst hid
  cases c <;> first | exact Nx.block h | (simp [ck] at hk; done) | (rename_i d; cases d <;> simp [ck] at hk)
theorem Nx.p_region (hk : ck c = 1) (h : Nx C e I R (wpAt C.P (cops c) Q 0)) : Nx C e I R (c.wp C.P Q) := by
  cases c <;> first | (simp [ck] at hk; done) | skip
  rename_i id ops d
  cases d with
  | true => simp [ck] at hk
  | false =>
    intro a w ha hw
    have h1 := h a w ha hw
    unfold wpAt at h1
    rw [List.drop_zero] at h1
    exact wp_region_list h1
theorem Nx.p_t (hk : ck c = 4) (hc : evo e (ccnd c) = some (.bool true)) (h : Nx C e I R ((cl c).wp C.P Q)) : Nx C e I R (c.wp C.P Q) := by
  cases c <;> first | exact Nx.cond_true hc h | (simp [ck] at hk; done) | (rename_i d; cases d <;> simp [ck] at hk)
theorem Nx.p_f (hk : ck c = 4) (hc : evo e (ccnd c) = some (.bool false)) (h : Nx C e I R ((cr c).wp C.P Q)) : Nx C e I R (c.wp C.P Q) := by
  cases c <;> first | exact Nx.cond_false hc h | (simp [ck] at hk; done) | (rename_i d; cases d <;> simp [ck] at hk)
theorem Nx.p_dec {p : Prop} [Decidable p] (hk : ck c = 4) (hc : evo e (ccnd c) = some (.bool (decide p))) (ht : p → Nx C e I R ((cl c).wp C.P Q)) (hf : ¬p → Nx C e I R ((cr c).wp C.P Q)) : Nx C e I R (c.wp C.P Q) := by
  cases c <;> first | exact Nx.cond_dec hc ht hf | (simp [ck] at hk; done) | (rename_i d; cases d <;> simp [ck] at hk)
theorem Nx.p_bool {b : Bool} (hk : ck c = 4) (hc : evo e (ccnd c) = some (.bool b)) (ht : b = true → Nx C e I R ((cl c).wp C.P Q)) (hf : b = false → Nx C e I R ((cr c).wp C.P Q)) : Nx C e I R (c.wp C.P Q) := by
  cases c <;> first | exact Nx.cond_bool hc ht hf | (simp [ck] at hk; done) | (rename_i d; cases d <;> simp [ck] at hk)
theorem Nx.p_dec_t {p : Prop} [Decidable p] (hk : ck c = 4) (hc : evo e (ccnd c) = some (.bool (decide p))) (hp : p) (h : Nx C e I R ((cl c).wp C.P Q)) : Nx C e I R (c.wp C.P Q) := Nx.p_dec hk hc (fun _ => h) (fun hn => absurd hp hn)
theorem Nx.p_dec_f {p : Prop} [Decidable p] (hk : ck c = 4) (hc : evo e (ccnd c) = some (.bool (decide p))) (hp : ¬p) (h : Nx C e I R ((cr c).wp C.P Q)) : Nx C e I R (c.wp C.P Q) := Nx.p_dec hk hc (fun hn => absurd hn hp) (fun _ => h)
theorem Nx.p_draw {id : Nat} (hid : cid c = id) (ord loud : List Nat) (R0 : List Res) (hk : ck c = 2) (hm : C.P.follows .mixedOrders = true) (hs : Region.noSelect (cops c) = true) (hok : mixOk (cops c) loud ord (Array.replicate (cops c).size false) = true) (hlen : Nat.ble ord.length (cops c).size = true) (hQ : PanicOk Q) (hR : Ent R R0)
    (h : Nx C e I R (wpMix C.P (cops c) Q (St C.W I R0) loud ord)) : Nx C e I R (c.wp C.P Q) := by
  have hc : c = .region (cid c) (cops c) true := by
    cases c <;> first | (simp [ck] at hk; done) | skip
    rename_i b
    cases b with
    | false => simp [ck] at hk
    | true => rfl
  clear hid
  rw [hc]
  exact Nx.draw ord loud R0 hm hs hok hlen hQ hR h
theorem Nx.p_loop {σ : Type} (E : σ → Env) (T : σ → List Res) (ok : σ → Prop) (μ : σ → Nat) (s0 : σ) (hk : ck c = 6) (h0 : ok s0) (he : EnvSub (E s0) e) (hR : Ent R (T s0))
    (round : ∀ s, ok s → Nx C (E s) I (T s) ((cl c).wp C.P (Exit.then (Again C E I T ok μ s) Q))) : Nx C e I R (c.wp C.P Q) := by
  cases c <;> first | exact Nx.loop E T ok μ s0 h0 he hR round | (simp [ck] at hk; done) | (rename_i d; cases d <;> simp [ck] at hk)
/-! ### The operations of a region -/
variable {ops : Array Oper} {i : Nat} {o : Oper}
theorem drop_of {ops : Array Oper} {i : Nat} {o : Oper} (ho : ops[i]? = some o) : ops.toList.drop i = o :: ops.toList.drop (i + 1) := by
  obtain ⟨hlt, he⟩ := Array.getElem?_eq_some_iff.1 ho
  rw [List.drop_eq_getElem_cons (by simpa using hlt)]
  congr 1
theorem Nx.at_end (ho : opAt ops.toList i = none) (h : Nx C e I R (Q .normal)) : Nx C e I R (wpAt C.P ops Q i) := by
  unfold wpAt
  rw [List.drop_eq_nil_of_le (by have := Array.getElem?_eq_none_iff.1 (opAt_arr ho); simpa using this)]
  exact Nx.nil h
theorem Nx.at_endt (ho : opAt ops.toList i = none) (h : Nx C e I R K) : Nx C e I R (wpAt C.P ops (Exit.then K Q) i) := Nx.at_end ho h
theorem Nx.at_op (ho : opAt ops.toList i = some o) (hg : o.guard = none) (h : Nx C e I R (opK C.P o (wpAt C.P ops Q (i + 1)) Q)) : Nx C e I R (wpAt C.P ops Q i) := by
  unfold wpAt at *
  rw [drop_of (opAt_arr ho)]
  exact Nx.cons hg h
theorem Nx.at_do {j d : Nat} {want : Bool} (ho : opAt ops.toList i = some o) (hg : o.guard = some (j, want)) (hd : (ops[j]?).bind (·.dst) = some d) (hb : lk e d = some (.bool want)) (h : Nx C e I R (opK C.P o (wpAt C.P ops Q (i + 1)) Q)) : Nx C e I R (wpAt C.P ops Q i) := by
  unfold wpAt at *
  rw [drop_of (opAt_arr ho)]
  exact Nx.cons_do hg hd hb h
theorem Nx.at_no {j d t : Nat} {want : Bool} (ho : opAt ops.toList i = some o) (hg : o.guard = some (j, want)) (hd : (ops[j]?).bind (·.dst) = some d) (hb : lk e d = some (.bool (!want))) (ht : o.dst = some t) (hlt : Nat.blt t C.n = true)
    (h : Nx C ((t, undef) :: e) I R (wpAt C.P ops Q (i + 1))) : Nx C e I R (wpAt C.P ops Q i) := by
  unfold wpAt at *
  rw [drop_of (opAt_arr ho)]
  exact Nx.cons_no hg hd hb ht hlt h
theorem Nx.at_no0 {j d : Nat} {want : Bool} (ho : opAt ops.toList i = some o) (hg : o.guard = some (j, want)) (hd : (ops[j]?).bind (·.dst) = some d) (hb : lk e d = some (.bool (!want))) (ht : o.dst = none)
    (h : Nx C e I R (wpAt C.P ops Q (i + 1))) : Nx C e I R (wpAt C.P ops Q i) := by
  unfold wpAt at *
  rw [drop_of (opAt_arr ho)]
  intro a w ha hw
  unfold wpList
  rw [if_neg (by simp [Region.wanted, hg, yielded_of ha hd hb]), ht]
  exact h _ w ha hw
theorem Nx.at_split {j d : Nat} {want : Bool} {p : Prop} [Decidable p] (ho : opAt ops.toList i = some o) (hg : o.guard = some (j, want)) (hd : (ops[j]?).bind (·.dst) = some d) (hb : lk e d = some (.bool (decide p)))
    (ht : p → Nx C ((d, .bool true) :: e) I R (wpAt C.P ops Q i)) (hf : ¬p → Nx C ((d, .bool false) :: e) I R (wpAt C.P ops Q i)) : Nx C e I R (wpAt C.P ops Q i) :=
  have _ := ho; have _ := hg; have _ := hd; Nx.force d hb ht hf
theorem Nx.at_splitb {j d : Nat} {want b : Bool} (ho : opAt ops.toList i = some o) (hg : o.guard = some (j, want)) (hd : (ops[j]?).bind (·.dst) = some d) (hb : lk e d = some (.bool b))
    (ht : b = true → Nx C ((d, .bool true) :: e) I R (wpAt C.P ops Q i)) (hf : b = false → Nx C ((d, .bool false) :: e) I R (wpAt C.P ops Q i)) : Nx C e I R (wpAt C.P ops Q i) :=
  have _ := ho; have _ := hg; have _ := hd; Nx.force_bool d hb ht hf
theorem Nx.at_dec_t {j d : Nat} {want : Bool} {p : Prop} [Decidable p] (ho : opAt ops.toList i = some o) (hg : o.guard = some (j, want)) (hd : (ops[j]?).bind (·.dst) = some d) (hb : lk e d = some (.bool (decide p))) (hp : p)
    (ht : Nx C ((d, .bool true) :: e) I R (wpAt C.P ops Q i)) : Nx C e I R (wpAt C.P ops Q i) := Nx.at_split ho hg hd hb (fun _ => ht) (fun h => absurd hp h)
theorem Nx.at_dec_f {j d : Nat} {want : Bool} {p : Prop} [Decidable p] (ho : opAt ops.toList i = some o) (hg : o.guard = some (j, want)) (hd : (ops[j]?).bind (·.dst) = some d) (hb : lk e d = some (.bool (decide p))) (hp : ¬p)
    (ht : Nx C ((d, .bool false) :: e) I R (wpAt C.P ops Q i)) : Nx C e I R (wpAt C.P ops Q i) := Nx.at_split ho hg hd hb (fun h => absurd h hp) (fun _ => ht)
/-! ### The operations of a region whose order is open -/
variable {S : World → Prop} {loud r : List Nat} {k d : Nat} {v : Value}
theorem Nx.m_quiet (ho : opAt ops.toList k = some o) (hl : loud.contains k = false) (hg : o.guard = none) (hd : o.dst = some d) (hlt : Nat.blt d C.n = true) (hrun : QRun C e S o v) (h : Nx C ((d, v) :: e) I R (wpMix C.P ops Q S loud r)) : Nx C e I R (wpMix C.P ops Q S loud (k :: r)) := Nx.mix_q (opAt_arr ho) hl hg hd hlt hrun h
theorem Nx.m_quiet_do {j dj : Nat} {want : Bool} (ho : opAt ops.toList k = some o) (hl : loud.contains k = false) (hg : o.guard = some (j, want)) (hdj : (ops[j]?).bind (·.dst) = some dj) (hb : lk e dj = some (.bool want)) (hd : o.dst = some d) (hlt : Nat.blt d C.n = true) (hrun : QRun C e S o v)
    (h : Nx C ((d, v) :: e) I R (wpMix C.P ops Q S loud r)) : Nx C e I R (wpMix C.P ops Q S loud (k :: r)) := Nx.mix_q_do (opAt_arr ho) hl hg hdj hb hd hlt hrun h
theorem Nx.m_quiet_no {j dj : Nat} {want : Bool} (ho : opAt ops.toList k = some o) (hl : loud.contains k = false) (hg : o.guard = some (j, want)) (hdj : (ops[j]?).bind (·.dst) = some dj) (hb : lk e dj = some (.bool (!want))) (hd : o.dst = some d) (hlt : Nat.blt d C.n = true)
    (h : Nx C ((d, undef) :: e) I R (wpMix C.P ops Q S loud r)) : Nx C e I R (wpMix C.P ops Q S loud (k :: r)) := Nx.mix_q_no (opAt_arr ho) hl hg hdj hb hd hlt h
theorem Nx.m_loud (ho : opAt ops.toList k = some o) (hl : loud.contains k = true) (hg : o.guard = none) (h : Nx C e I R (opK C.P o (fun a w => S w ∧ wpMix C.P ops Q S loud r a w) Q)) : Nx C e I R (wpMix C.P ops Q S loud (k :: r)) := Nx.mix_l (opAt_arr ho) hl hg h
theorem Nx.m_loud_do {j dj : Nat} {want : Bool} (ho : opAt ops.toList k = some o) (hl : loud.contains k = true) (hg : o.guard = some (j, want)) (hdj : (ops[j]?).bind (·.dst) = some dj) (hb : lk e dj = some (.bool want))
    (h : Nx C e I R (opK C.P o (fun a w => S w ∧ wpMix C.P ops Q S loud r a w) Q)) : Nx C e I R (wpMix C.P ops Q S loud (k :: r)) := Nx.mix_l_do (opAt_arr ho) hl hg hdj hb h
theorem Nx.m_loud_no {j dj : Nat} {want : Bool} (ho : opAt ops.toList k = some o) (hl : loud.contains k = true) (hg : o.guard = some (j, want)) (hdj : (ops[j]?).bind (·.dst) = some dj) (hb : lk e dj = some (.bool (!want))) (hd : o.dst = some d) (hlt : Nat.blt d C.n = true)
    (h : Nx C ((d, undef) :: e) I R (fun a w => S w ∧ wpMix C.P ops Q S loud r a w)) : Nx C e I R (wpMix C.P ops Q S loud (k :: r)) := Nx.mix_l_no (opAt_arr ho) hl hg hdj hb hd hlt h
theorem Nx.m_split {j dj : Nat} {want : Bool} {p : Prop} [Decidable p] (ho : opAt ops.toList k = some o) (hg : o.guard = some (j, want)) (hdj : (ops[j]?).bind (·.dst) = some dj) (hb : lk e dj = some (.bool (decide p)))
    (ht : p → Nx C ((dj, .bool true) :: e) I R (wpMix C.P ops Q S loud (k :: r))) (hf : ¬p → Nx C ((dj, .bool false) :: e) I R (wpMix C.P ops Q S loud (k :: r))) : Nx C e I R (wpMix C.P ops Q S loud (k :: r)) :=
  have _ := ho; have _ := hg; have _ := hdj; Nx.force dj hb ht hf
theorem Nx.m_splitb {j dj : Nat} {want b : Bool} (ho : opAt ops.toList k = some o) (hg : o.guard = some (j, want)) (hdj : (ops[j]?).bind (·.dst) = some dj) (hb : lk e dj = some (.bool b))
    (ht : b = true → Nx C ((dj, .bool true) :: e) I R (wpMix C.P ops Q S loud (k :: r))) (hf : b = false → Nx C ((dj, .bool false) :: e) I R (wpMix C.P ops Q S loud (k :: r))) : Nx C e I R (wpMix C.P ops Q S loud (k :: r)) :=
  have _ := ho; have _ := hg; have _ := hdj; Nx.force_bool dj hb ht hf
theorem Nx.m_dec_t {j dj : Nat} {want : Bool} {p : Prop} [Decidable p] (ho : opAt ops.toList k = some o) (hg : o.guard = some (j, want)) (hdj : (ops[j]?).bind (·.dst) = some dj) (hb : lk e dj = some (.bool (decide p))) (hp : p)
    (ht : Nx C ((dj, .bool true) :: e) I R (wpMix C.P ops Q S loud (k :: r))) : Nx C e I R (wpMix C.P ops Q S loud (k :: r)) := Nx.m_split ho hg hdj hb (fun _ => ht) (fun h => absurd hp h)
theorem Nx.m_dec_f {j dj : Nat} {want : Bool} {p : Prop} [Decidable p] (ho : opAt ops.toList k = some o) (hg : o.guard = some (j, want)) (hdj : (ops[j]?).bind (·.dst) = some dj) (hb : lk e dj = some (.bool (decide p))) (hp : ¬p)
    (ht : Nx C ((dj, .bool false) :: e) I R (wpMix C.P ops Q S loud (k :: r))) : Nx C e I R (wpMix C.P ops Q S loud (k :: r)) := Nx.m_split ho hg hdj hb (fun h => absurd h hp) (fun _ => ht)
/-! ### Ways that meet again -/
def isReg (c : Code) (id : Nat) : Bool := Nat.beq (ck c) 3 && (Nat.beq (ck (cl c)) 1 || Nat.beq (ck (cl c)) 2) && Nat.beq (cid (cl c)) id
theorem Nx.p_stopr (id : Nat) (hi : isReg c id = true) (h : Nx C e I R (Stop (c.wp C.P Q))) : Nx C e I R (c.wp C.P Q) := have _ := hi; h
end
end Go.Eng
/-
  The proof engine, part S: the standard steps of a walk, each with the tactic that finds its premise.
-/
namespace Go.Eng
section
variable {C : Cx} {e e' : Env} {I : PH} {R R' : List Res} {K K' : Act → World → Prop} {Q : Exit → Act → World → Prop} {W : World} {o : Oper}
variable {ty t u : TypeId} {pos : String} {after : Array Edge} {g : Option (Nat × Bool)} {x y z : Operand} {v : Value} {dst : Option Tmp}
variable {ops : Array Oper} {i : Nat} {S : World → Prop} {loud r : List Nat}
theorem yielded_undef {n : Nat} {ops : Array Oper} {a : Act} {j d : Nat} (ha : Mod n e a) (hd : (ops[j]?).bind (·.dst) = some d) (hb : lk e d = some undef) : yielded ops a.tmps j = none := by
  have := ha.get d _ hb
  simp [yielded, hd, this, undef]
/-! Guards that were themselves not run. -/
theorem Nx.at_noU {j d t : Nat} {want : Bool} (ho : opAt ops.toList i = some o) (hg : o.guard = some (j, want)) (hd : (ops[j]?).bind (·.dst) = some d) (hb : lk e d = some undef) (ht : o.dst = some t) (hlt : Nat.blt t C.n = true)
    (h : Nx C ((t, undef) :: e) I R (wpAt C.P ops Q (i + 1))) : Nx C e I R (wpAt C.P ops Q i) := by
  unfold wpAt at *
  rw [drop_of (opAt_arr ho)]
  intro a w ha hw
  unfold wpList
  rw [if_neg (by simp [Region.wanted, hg, yielded_undef ha hd hb]), ht]
  exact h _ w (ha.put hlt _) hw
theorem Nx.at_noU0 {j d : Nat} {want : Bool} (ho : opAt ops.toList i = some o) (hg : o.guard = some (j, want)) (hd : (ops[j]?).bind (·.dst) = some d) (hb : lk e d = some undef) (ht : o.dst = none)
    (h : Nx C e I R (wpAt C.P ops Q (i + 1))) : Nx C e I R (wpAt C.P ops Q i) := by
  unfold wpAt at *
  rw [drop_of (opAt_arr ho)]
  intro a w ha hw
  unfold wpList
  rw [if_neg (by simp [Region.wanted, hg, yielded_undef ha hd hb]), ht]
  exact h _ w ha hw
theorem Nx.m_quiet_noU {k d : Nat} {j dj : Nat} {want : Bool} (ho : opAt ops.toList k = some o) (hl : loud.contains k = false) (hg : o.guard = some (j, want)) (hdj : (ops[j]?).bind (·.dst) = some dj) (hb : lk e dj = some undef) (hd : o.dst = some d) (hlt : Nat.blt d C.n = true)
    (h : Nx C ((d, undef) :: e) I R (wpMix C.P ops Q S loud r)) : Nx C e I R (wpMix C.P ops Q S loud (k :: r)) := by
  intro a w ha hw
  refine ⟨o, opAt_arr ho, ?_⟩
  rw [if_neg (by rw [hl]; simp)]
  refine ⟨undef, .inr ⟨by simp [Region.wanted, hg, yielded_undef ha hdj hb], rfl⟩, ?_⟩
  rw [hd]
  exact h _ w (ha.put hlt undef) hw
theorem Nx.m_loud_noU {k d : Nat} {j dj : Nat} {want : Bool} (ho : opAt ops.toList k = some o) (hl : loud.contains k = true) (hg : o.guard = some (j, want)) (hdj : (ops[j]?).bind (·.dst) = some dj) (hb : lk e dj = some undef) (hd : o.dst = some d) (hlt : Nat.blt d C.n = true)
    (h : Nx C ((d, undef) :: e) I R (fun a w => S w ∧ wpMix C.P ops Q S loud r a w)) : Nx C e I R (wpMix C.P ops Q S loud (k :: r)) := by
  intro a w ha hw
  refine ⟨o, opAt_arr ho, ?_⟩
  rw [if_pos hl]
  unfold wpOp
  simp only [opAt_arr ho]
  rw [if_neg (by simp [Region.wanted, hg, yielded_undef ha hdj hb]), hd]
  exact h _ w (ha.put hlt undef) hw
/-- Behind the operation the description is this one. -/
def OpTo (C : Cx) (o : Oper) (e : Env) (I : PH) (R : List Res) (e' : Env) (R' : List Res) : Prop := ∀ (K : Act → World → Prop) (Q : Exit → Act → World → Prop), Nx C e' I R' K → Nx C e I R (opK C.P o K Q)
def OpToB (C : Cx) (o : Oper) (e : Env) (I : PH) (R : List Res) (e' : Nat → Env) (R' : Nat → List Res) : Prop := ∀ (K : Act → World → Prop) (Q : Exit → Act → World → Prop), (∀ b, Nx C (e' b) I (R' b) K) → Nx C e I R (opK C.P o K Q)
def OpToA (C : Cx) (o : Oper) (e : Env) (I : PH) (R : List Res) (e' : Option Addr → Nat → Env) (R' : Option Addr → Nat → List Res) : Prop := ∀ (K : Act → World → Prop) (Q : Exit → Act → World → Prop), (∀ A c, Nx C (e' A c) I (R' A c) K) → Nx C e I R (opK C.P o K Q)
theorem OpTo.is_load {e1 : Env} {r1 : List Res} (h : OpTo C ⟨dst, .load t x, ty, pos, after, g⟩ e I R e1 r1) : OpTo C ⟨dst, .load t x, ty, pos, after, g⟩ e I R e1 r1 := h
theorem OpTo.is_store {e1 : Env} {r1 : List Res} (h : OpTo C ⟨dst, .store t x y, ty, pos, after, g⟩ e I R e1 r1) : OpTo C ⟨dst, .store t x y, ty, pos, after, g⟩ e I R e1 r1 := h
theorem OpTo.is_bin {e1 : Env} {r1 : List Res} {op : BinOp} (h : OpTo C ⟨dst, .binOp op t x y u, ty, pos, after, g⟩ e I R e1 r1) : OpTo C ⟨dst, .binOp op t x y u, ty, pos, after, g⟩ e I R e1 r1 := h
theorem OpTo.is_un {e1 : Env} {r1 : List Res} {op : UnOp} (h : OpTo C ⟨dst, .unOp op t x, ty, pos, after, g⟩ e I R e1 r1) : OpTo C ⟨dst, .unOp op t x, ty, pos, after, g⟩ e I R e1 r1 := h
theorem OpTo.is_conv {e1 : Env} {r1 : List Res} (h : OpTo C ⟨dst, .convert t u x, ty, pos, after, g⟩ e I R e1 r1) : OpTo C ⟨dst, .convert t u x, ty, pos, after, g⟩ e I R e1 r1 := h
theorem OpTo.is_build {e1 : Env} {r1 : List Res} {p : Array (Nat × Operand)} (h : OpTo C ⟨dst, .build t p, ty, pos, after, g⟩ e I R e1 r1) : OpTo C ⟨dst, .build t p, ty, pos, after, g⟩ e I R e1 r1 := h
theorem OpTo.is_call {e1 : Env} {r1 : List Res} {c : Call} (h : OpTo C ⟨dst, .call c, ty, pos, after, g⟩ e I R e1 r1) : OpTo C ⟨dst, .call c, ty, pos, after, g⟩ e I R e1 r1 := h
theorem OpToB.is_lit {e1 : Nat → Env} {r1 : Nat → List Res} {p : Array (Nat × Operand)} {n : Nat} (h : OpToB C ⟨dst, .buildSlice t n p, ty, pos, after, g⟩ e I R e1 r1) : OpToB C ⟨dst, .buildSlice t n p, ty, pos, after, g⟩ e I R e1 r1 := h
theorem OpToB.is_box {e1 : Nat → Env} {r1 : Nat → List Res} (h : OpToB C ⟨dst, .box t x, ty, pos, after, g⟩ e I R e1 r1) : OpToB C ⟨dst, .box t x, ty, pos, after, g⟩ e I R e1 r1 := h
theorem OpToB.is_alloc {e1 : Nat → Env} {r1 : Nat → List Res} (h : OpToB C ⟨dst, .alloc t, ty, pos, after, g⟩ e I R e1 r1) : OpToB C ⟨dst, .alloc t, ty, pos, after, g⟩ e I R e1 r1 := h
theorem OpToA.is_append {e1 : Option Addr → Nat → Env} {r1 : Option Addr → Nat → List Res} {xs : Array Operand} {tys : Array TypeId} (h : OpToA C ⟨dst, .call { callee := .builtin .append, args := xs, argTypes := tys }, ty, pos, after, g⟩ e I R e1 r1) : OpToA C ⟨dst, .call { callee := .builtin .append, args := xs, argTypes := tys }, ty, pos, after, g⟩ e I R e1 r1 := h
theorem Nx.so {e1 : Env} {r1 : List Res} (h : Nx C e1 I r1 K) (s : OpTo C o e I R e1 r1 := by first | ((with_reducible apply OpTo.is_load); first | exact fun _ _ h => Nx.load rfl rfl rfl (by first | exact Rd.at_ 0 rfl rfl | exact Rd.at_ 1 rfl rfl | exact Rd.at_ 2 rfl rfl | exact Rd.at_ 3 rfl rfl | exact Rd.at_ 4 rfl rfl | exact Rd.at_ 5 rfl rfl | exact Rd.at_ 6 rfl rfl | exact Rd.at_ 7 rfl rfl | exact Rd.at_ 8 rfl rfl | exact Rd.at_ 9 rfl rfl | exact Rd.at_ 10 rfl rfl | exact Rd.at_ 11 rfl rfl) h | exact fun _ _ h => Nx.loads rfl rfl rfl rfl (by first | exact Rds.at_ 0 rfl | exact Rds.at_ 1 rfl | exact Rds.at_ 2 rfl | exact Rds.at_ 3 rfl | exact Rds.at_ 4 rfl | exact Rds.at_ 5 rfl | exact Rds.at_ 6 rfl | exact Rds.at_ 7 rfl | exact Rds.at_ 8 rfl | exact Rds.at_ 9 rfl | exact Rds.at_ 10 rfl | exact Rds.at_ 11 rfl) rfl h) | ((with_reducible apply OpTo.is_bin); first | exact fun _ _ h => Nx.add rfl rfl (by unfold I64; omega) rfl h | exact fun _ _ h => Nx.sub rfl rfl (by unfold I64; omega) rfl h | exact fun _ _ h => Nx.mul rfl rfl (by unfold I64; omega) rfl h | exact fun _ _ h => Nx.rem rfl rfl (by omega) (by omega) rfl h | exact fun _ _ h => Nx.quo rfl rfl (by omega) (by omega) (by unfold I64; omega) rfl h) | ((with_reducible apply OpTo.is_conv); first | exact fun _ _ h => Nx.conv_i64 rfl rfl rfl (by unfold I64; omega) rfl h) | ((with_reducible apply OpTo.is_un); first | exact fun _ _ h => Nx.not_dec rfl rfl h | exact fun _ _ h => Nx.neg rfl (by unfold I64; omega) rfl h) | ((with_reducible apply OpTo.is_build); first | exact fun _ _ h => Nx.build rfl rfl (by kernel_rfl) rfl h) | ((with_reducible apply OpTo.is_store); first | exact fun _ _ h => Nx.store_blk 0 rfl rfl rfl rfl rfl rfl rfl h | exact fun _ _ h => Nx.store_blk 1 rfl rfl rfl rfl rfl rfl rfl h | exact fun _ _ h => Nx.store_blk 2 rfl rfl rfl rfl rfl rfl rfl h | exact fun _ _ h => Nx.store_blk 3 rfl rfl rfl rfl rfl rfl rfl h | exact fun _ _ h => Nx.store_blk 4 rfl rfl rfl rfl rfl rfl rfl h | exact fun _ _ h => Nx.store_blk 5 rfl rfl rfl rfl rfl rfl rfl h | exact fun _ _ h => Nx.store_blk 6 rfl rfl rfl rfl rfl rfl rfl h | exact fun _ _ h => Nx.store_blk 7 rfl rfl rfl rfl rfl rfl rfl h | exact fun _ _ h => Nx.store_blk 8 rfl rfl rfl rfl rfl rfl rfl h | exact fun _ _ h => Nx.store_blk 9 rfl rfl rfl rfl rfl rfl rfl h | exact fun _ _ h => Nx.store_blk 10 rfl rfl rfl rfl rfl rfl rfl h | exact fun _ _ h => Nx.store_blk 11 rfl rfl rfl rfl rfl rfl rfl h | exact fun _ _ h => Nx.store_ints 0 rfl rfl rfl rfl (by omega) h | exact fun _ _ h => Nx.store_ints 1 rfl rfl rfl rfl (by omega) h | exact fun _ _ h => Nx.store_ints 2 rfl rfl rfl rfl (by omega) h | exact fun _ _ h => Nx.store_ints 3 rfl rfl rfl rfl (by omega) h) | ((with_reducible apply OpTo.is_call); first | exact fun _ _ h => Nx.min2 rfl rfl rfl h | exact fun _ _ h => Nx.max2 rfl rfl rfl h) | exact fun _ _ h => Nx.makeFunc rfl rfl rfl h | exact fun _ _ h => Nx.fieldAddr rfl rfl rfl h) : Nx C e I R (opK C.P o K Q) := s K Q h
theorem Nx.sb {e1 : Nat → Env} {r1 : Nat → List Res} (h : ∀ b, Nx C (e1 b) I (r1 b) K) (s : OpToB C o e I R e1 r1 := by first | ((with_reducible apply OpToB.is_box); first | exact fun _ _ h => Nx.box_agg rfl rfl h | exact fun _ _ h => Nx.box1 rfl rfl rfl h) | ((with_reducible apply OpToB.is_alloc); first | exact fun _ _ h => Nx.alloc rfl rfl h) | ((with_reducible apply OpToB.is_lit); first | exact fun _ _ h => Nx.buildSlice0 rfl rfl rfl h | exact fun _ _ h => Nx.buildSlice rfl rfl rfl rfl rfl rfl rfl rfl rfl h) | exact fun _ _ h => Nx.makeInts rfl rfl rfl rfl rfl rfl rfl rfl (by omega) h) : Nx C e I R (opK C.P o K Q) := s K Q h
theorem Nx.sa {e1 : Option Addr → Nat → Env} {r1 : Option Addr → Nat → List Res} (h : ∀ A c, Nx C (e1 A c) I (r1 A c) K) (s : OpToA C o e I R e1 r1 := by first | ((with_reducible apply OpToA.is_append); first | exact fun _ _ h => Nx.append_lit 0 rfl rfl rfl rfl (by kernel_rfl) rfl rfl rfl rfl (by omega) h | exact fun _ _ h => Nx.append_lit 1 rfl rfl rfl rfl (by kernel_rfl) rfl rfl rfl rfl (by omega) h | exact fun _ _ h => Nx.append_lit 2 rfl rfl rfl rfl (by kernel_rfl) rfl rfl rfl rfl (by omega) h | exact fun _ _ h => Nx.append_lit 3 rfl rfl rfl rfl (by kernel_rfl) rfl rfl rfl rfl (by omega) h | exact fun _ _ h => Nx.append_lit 4 rfl rfl rfl rfl (by kernel_rfl) rfl rfl rfl rfl (by omega) h) ) : Nx C e I R (opK C.P o K Q) := s K Q h
theorem QRun.std {S : World → Prop} (s : QRun C e S o v := by first | exact QRun.load rfl rfl (by first | exact Rd.at_ 0 rfl rfl | exact Rd.at_ 1 rfl rfl | exact Rd.at_ 2 rfl rfl | exact Rd.at_ 3 rfl rfl | exact Rd.at_ 4 rfl rfl | exact Rd.at_ 5 rfl rfl | exact Rd.at_ 6 rfl rfl | exact Rd.at_ 7 rfl rfl | exact Rd.at_ 8 rfl rfl | exact Rd.at_ 9 rfl rfl | exact Rd.at_ 10 rfl rfl | exact Rd.at_ 11 rfl rfl) | exact QRun.loads rfl rfl rfl (by first | exact Rds.at_ 0 rfl | exact Rds.at_ 1 rfl | exact Rds.at_ 2 rfl | exact Rds.at_ 3 rfl | exact Rds.at_ 4 rfl | exact Rds.at_ 5 rfl | exact Rds.at_ 6 rfl | exact Rds.at_ 7 rfl | exact Rds.at_ 8 rfl | exact Rds.at_ 9 rfl | exact Rds.at_ 10 rfl | exact Rds.at_ 11 rfl) rfl | exact QRun.add rfl rfl (by unfold I64; omega) | exact QRun.sub rfl rfl (by unfold I64; omega) | exact QRun.mul rfl rfl (by unfold I64; omega) | exact QRun.rem rfl rfl (by omega) (by omega) | exact QRun.quo rfl rfl (by omega) (by omega) (by unfold I64; omega) | exact QRun.conv_i64 rfl rfl rfl (by unfold I64; omega) | exact QRun.build rfl rfl (by kernel_rfl) | exact QRun.min2 rfl rfl | exact QRun.max2 rfl rfl) : QRun C e S o v := s
def Adv (C : Cx) (e : Env) (I : PH) (R : List Res) (K : Act → World → Prop) (e1 : Env) (r1 : List Res) (K1 : Act → World → Prop) : Prop := Nx C e1 I r1 K1 → Nx C e I R K
theorem Adv.is_at {e1 : Env} {r1 : List Res} {ops : Array Oper} {i : Nat} (h : Adv C e I R (wpAt C.P ops Q i) e1 r1 K') : Adv C e I R (wpAt C.P ops Q i) e1 r1 K' := h
theorem Adv.is_wp {e1 : Env} {r1 : List Res} {c : Code} (h : Adv C e I R (c.wp C.P Q) e1 r1 K') : Adv C e I R (c.wp C.P Q) e1 r1 K' := h
theorem Adv.is_mix {e1 : Env} {r1 : List Res} {ops : Array Oper} {S : World → Prop} {l r : List Nat} (h : Adv C e I R (wpMix C.P ops Q S l r) e1 r1 K') : Adv C e I R (wpMix C.P ops Q S l r) e1 r1 K' := h
theorem Adv.is_mixS {e1 : Env} {r1 : List Res} {S : World → Prop} (h : Adv C e I R (fun a w => S w ∧ K a w) e1 r1 K') : Adv C e I R (fun a w => S w ∧ K a w) e1 r1 K' := h
theorem Nx.a {e1 : Env} {r1 : List Res} (h : Nx C e1 I r1 K') (s : Adv C e I R K e1 r1 K' := by first | exact fun h => Nx.at_no rfl rfl rfl rfl rfl rfl h | exact fun h => Nx.at_noU rfl rfl rfl rfl rfl rfl h | exact fun h => Nx.at_noU0 rfl rfl rfl rfl rfl h | exact fun h => Nx.at_endt rfl h | exact fun h => Nx.at_no0 rfl rfl rfl rfl rfl h | exact fun h => Nx.at_end rfl h) : Nx C e I R K := s h
theorem Nx.w {e1 : Env} {r1 : List Res} (h : Nx C e1 I r1 K') (s : Adv C e I R K e1 r1 K' := by first | exact fun h => Nx.p_seq rfl h | exact fun h => Nx.p_region rfl h | exact fun h => Nx.p_ret rfl h | exact fun h => Nx.p_skip rfl h | exact fun h => Nx.p_exit rfl rfl h | exact fun h => Nx.p_block rfl rfl h | exact fun h => Nx.p_t rfl rfl h | exact fun h => Nx.p_f rfl rfl h | exact fun h => Nx.p_label rfl h) : Nx C e I R K := s h
theorem Nx.wo {e1 : Env} {r1 : List Res} (h : Nx C e1 I r1 K') (s : Adv C e I R K e1 r1 K' := by first | exact fun h => Nx.p_seq rfl h | exact fun h => Nx.p_region rfl h | exact fun h => Nx.p_ret rfl h | exact fun h => Nx.p_skip rfl h | exact fun h => Nx.p_exit rfl rfl h | exact fun h => Nx.p_block rfl rfl h | exact fun h => Nx.p_t rfl rfl h | exact fun h => Nx.p_f rfl rfl h | exact fun h => Nx.p_label rfl h | exact fun h => Nx.p_dec_t rfl rfl (by omega) h | exact fun h => Nx.p_dec_f rfl rfl (by omega) h) : Nx C e I R K := s h
theorem Nx.m {e1 : Env} {r1 : List Res} (h : Nx C e1 I r1 K') (s : Adv C e I R K e1 r1 K' := by first | exact fun h => Nx.mix_nil_then h | exact fun h => Nx.mix_nil h | exact fun h => Nx.m_quiet_no rfl rfl rfl rfl rfl rfl rfl h | exact fun h => Nx.m_loud_no rfl rfl rfl rfl rfl rfl rfl h | exact fun h => Nx.m_quiet_noU rfl rfl rfl rfl rfl rfl rfl h | exact fun h => Nx.m_loud_noU rfl rfl rfl rfl rfl rfl rfl h | exact fun h => Nx.m_quiet rfl rfl rfl rfl rfl (by first | exact QRun.opr rfl | exact QRun.std) h | exact fun h => Nx.m_quiet_do rfl rfl rfl rfl rfl rfl rfl (by first | exact QRun.opr rfl | exact QRun.std) h) : Nx C e I R K := s h
set_option maxHeartbeats 8000000 in
theorem Nx.ex {e1 : Env} {r1 : List Res} (h : Nx C e1 I r1 K') (s : Adv C e I R K e1 r1 K' := by first | exact fun h => Nx.then_ret h | exact fun h => Nx.in_ret h | exact fun h => Nx.then_normal h | exact fun h => Nx.in_normal h | exact fun h => Nx.then_exit h | exact fun h => Nx.in_exit h | exact fun h => Nx.in_other rfl h | exact fun h => Nx.mix_T h | ((with_reducible apply Adv.is_mixS); exact fun h => Nx.mix_S (by first | exact Ent.refl _ | exact Ent.drop (Ent.refl _) | exact Ent.drop (Ent.drop (Ent.refl _)) | exact Ent.drop (Ent.drop (Ent.drop (Ent.refl _))) | exact Ent.nil _ | (repeat first | exact Ent.refl _ | exact Ent.nil _ | refine Ent.pick 0 rfl ?_ | refine Ent.pick 1 rfl ?_ | refine Ent.pick 2 rfl ?_ | refine Ent.pick 3 rfl ?_ | refine Ent.pick 4 rfl ?_ | refine Ent.pick 5 rfl ?_ | refine Ent.pick 6 rfl ?_ | refine Ent.pick 7 rfl ?_ | refine Ent.pick 8 rfl ?_)) h)) : Nx C e I R K := s h
end
end Go.Eng
namespace Go.Eng
section
variable {C : Cx} {e : Env} {I : PH} {R : List Res} {K K' : Act → World → Prop} {e1 : Env} {r1 : List Res} {c1 c2 k1 k2 : Prop}
theorem Nx.zo (h : Nx C e1 I r1 K') (s : Adv C e I R K e1 r1 K' := by first | exact fun h => Nx.at_op rfl rfl h | exact fun h => Nx.m_loud rfl rfl rfl h | exact fun h => Nx.at_do rfl rfl rfl rfl h | exact fun h => Nx.m_loud_do rfl rfl rfl rfl rfl h) : Nx C e I R K := s h
theorem Nx.zd (h : Nx C e1 I r1 K') (s : Adv C e I R K e1 r1 K' := by (fail_if_success exact fun h => Nx.at_do rfl rfl rfl rfl h); first | exact fun h => Nx.at_dec_t rfl rfl rfl rfl (by first | assumption | omega) h | exact fun h => Nx.at_dec_f rfl rfl rfl rfl (by first | assumption | omega) h) : Nx C e I R K := s h
theorem Nx.zm (h : Nx C e1 I r1 K') (s : Adv C e I R K e1 r1 K' := by (fail_if_success refine fun h => Nx.m_quiet_do rfl rfl rfl rfl rfl rfl rfl ?_ h); (fail_if_success exact fun h => Nx.m_loud_do rfl rfl rfl rfl rfl h); first | exact fun h => Nx.m_dec_t rfl rfl rfl rfl (by first | assumption | omega) h | exact fun h => Nx.m_dec_f rfl rfl rfl rfl (by first | assumption | omega) h) : Nx C e I R K := s h
theorem Nx.zx (h : Nx C e1 I r1 K') (s : Adv C e I R K e1 r1 K' := by (fail_if_success (with_reducible apply Adv.is_at)); (fail_if_success (with_reducible apply Adv.is_wp)); (fail_if_success (with_reducible apply Adv.is_mix)); first | exact fun h => Nx.ex h) : Nx C e I R K := s h
theorem Nx.zp (h1 : c1 → k1) (h2 : c2 → k2) (s : (c1 → k1) → (c2 → k2) → Nx C e I R K := by first | exact fun a b => Nx.p_dec rfl rfl a b | exact fun a b => Nx.p_bool rfl rfl a b) : Nx C e I R K := s h1 h2
theorem Nx.zs (h1 : c1 → k1) (h2 : c2 → k2) (s : (c1 → k1) → (c2 → k2) → Nx C e I R K := by (fail_if_success refine fun _ _ => Nx.at_do rfl rfl rfl rfl ?_); first | exact fun a b => Nx.at_split rfl rfl rfl rfl a b | exact fun a b => Nx.at_splitb rfl rfl rfl rfl a b) : Nx C e I R K := s h1 h2
theorem Nx.zt (h1 : c1 → k1) (h2 : c2 → k2) (s : (c1 → k1) → (c2 → k2) → Nx C e I R K := by (fail_if_success refine fun _ _ => Nx.m_quiet_do rfl rfl rfl rfl rfl rfl rfl ?_ ?_); (fail_if_success refine fun _ _ => Nx.m_loud_do rfl rfl rfl rfl rfl ?_); first | exact fun a b => Nx.m_split rfl rfl rfl rfl a b | exact fun a b => Nx.m_splitb rfl rfl rfl rfl a b) : Nx C e I R K := s h1 h2
theorem Nx.za (h : Nx C e1 I r1 K') (s : Adv C e I R K e1 r1 K' := by (with_reducible apply Adv.is_at); first | exact fun h => Nx.a h | ((fail_if_success exact fun h => Nx.at_do rfl rfl rfl rfl h); first | exact fun h => Nx.at_dec_t rfl rfl rfl rfl (by first | assumption | omega) h | exact fun h => Nx.at_dec_f rfl rfl rfl rfl (by first | assumption | omega) h)) : Nx C e I R K := s h
theorem Nx.zr (h1 : c1 → k1) (h2 : c2 → k2) (s : (c1 → k1) → (c2 → k2) → Nx C e I R K := by (refine fun a b => ?_); (with_reducible refine Nx.is_at ?_); (fail_if_success refine Nx.at_do rfl rfl rfl rfl ?_); first | exact Nx.at_split rfl rfl rfl rfl a b | exact Nx.at_splitb rfl rfl rfl rfl a b) : Nx C e I R K := s h1 h2
theorem Nx.zq (h : Nx C e1 I r1 K') (s : Adv C e I R K e1 r1 K' := by (with_reducible apply Adv.is_mix); first | exact fun h => Nx.m h | ((fail_if_success refine fun h => Nx.m_quiet_do rfl rfl rfl rfl rfl rfl rfl ?_ h); (fail_if_success exact fun h => Nx.m_loud_do rfl rfl rfl rfl rfl h); first | exact fun h => Nx.m_dec_t rfl rfl rfl rfl (by first | assumption | omega) h | exact fun h => Nx.m_dec_f rfl rfl rfl rfl (by first | assumption | omega) h)) : Nx C e I R K := s h
theorem Nx.zu (h1 : c1 → k1) (h2 : c2 → k2) (s : (c1 → k1) → (c2 → k2) → Nx C e I R K := by (refine fun a b => ?_); (with_reducible refine Nx.is_mix ?_); (fail_if_success refine Nx.m_quiet_do rfl rfl rfl rfl rfl rfl rfl ?_ ?_); (fail_if_success refine Nx.m_loud_do rfl rfl rfl rfl rfl ?_); first | exact Nx.m_split rfl rfl rfl rfl a b | exact Nx.m_splitb rfl rfl rfl rfl a b) : Nx C e I R K := s h1 h2
theorem PanicOk.auto {Q : Exit → Act → World → Prop} (h : PanicOk Q := by repeat first | exact PanicOk.fn | refine PanicOk.then_ ?_ | refine PanicOk.inB ?_) : PanicOk Q := h
end
end Go.Eng

/-
  The proof engine, part Z: from a contract to what a row asks.
-/
namespace Go.Eng
open Go.ChangeShapes Go.WideShapes Go.RowKit
theorem St.start (W : World) : St W (fun i => W.heap[i]?) ([] ++ [fun _ => True]) W :=
  ⟨⟨fun _ => none, ⟨fun _ => none, fun _ => none, fun _ => .inl rfl, by funext i; rfl, trivial, trivial⟩, ⟨fun _ _ h => h, fun _ _ h => (by cases h), fun _ => .inr rfl⟩⟩, Still.refl W⟩
set_option maxHeartbeats 8000000 in
/-- A contract that wants no memory of its own, at a world: the old blocks stay. -/
theorem FnSpec.below {P : Program} {f : FuncId} {args : List Value} {W : World} {Post : Value → List Res → Prop} (h : FnSpec P f args (fun i => W.heap[i]?) [] Post) :
    Calls P f args.toArray W fun e w' => (∃ v R', e = .returned v ∧ Post v R') ∧ Below W.heap.size W w' := by
  refine (h W (fun _ => True) (St.start W)).mono fun e w' => ?_
  rintro ⟨v, R', he, hp, ⟨⟨m, hm, hs⟩, hst⟩⟩
  refine ⟨⟨v, R', he, hp⟩, ⟨hst.os, hst.tape, hst.output, hst.size, fun k hk => ?_⟩⟩
  have hk' : W.heap[k]? = some W.heap[k] := Array.getElem?_eq_getElem hk
  rw [hk']
  exact hs.imm k _ hk'
set_option maxHeartbeats 8000000 in
/-- The same for a law that answers true. -/
theorem FnSpec.isTrue {P : Program} {f : FuncId} {args : List Value} {W : World} (h : FnSpec P f args (fun i => W.heap[i]?) [] (fun v R' => v = .bool true ∧ R' = [])) :
    Calls P f args.toArray W fun e w' => e = .returned (.bool true) ∧ Below W.heap.size W w' := by
  refine h.below.mono fun e w' => ?_
  rintro ⟨⟨v, R', rfl, rfl, _⟩, hb⟩
  exact ⟨rfl, hb⟩
end Go.Eng
namespace Go.Eng
open Go.ChangeShapes Go.WideShapes Go.RowKit
section
variable {H : Type} {enc : TypeId × Value → H} {P : Program}
theorem post_of_below {f : Func} {s : ChangeSpec} {apart fresh handsOn again : Bool} {W W' : World} {args : Array Value} {v : Value} {ds gs : List (DataW H)} {before pa pv : List MemPlace}
    (hW : DataW.Whole enc P f.params.toList s.vars apart W args.toList ds gs before)
    (hres : ∀ (b : Nat) (sp : Nat → Bool) (hd : Bool), DataW.TrodAll enc P W' b sp hd f.resultTypes.toList (v.resultList f.resultTypes.size) (s.fn H (ds ++ gs)).results [])
    (hargs : ∀ sp : Nat → Bool, (∀ p ∈ before, sp p.block = true) → DataW.TrodAll enc P W' 0 sp true f.params.toList args.toList (s.fn H (ds ++ gs)).args pa)
    (hvars : ∀ sp : Nat → Bool, (∀ p ∈ before, sp p.block = true) → DataW.TrodVars enc P W' sp s.vars (s.fn H (ds ++ gs)).vars pv)
    (hps : before = pa ++ pv) (hb : Below W.heap.size W W')
    (hok : ∀ (j : Nat) (t : TypeId) (r : Value), f.resultTypes[j]? = some t → (v.resultList f.resultTypes.size)[j]? = some r → Value.okWide P W' .any 0 t r) :
    s.post enc P f apart fresh handsOn again W args v W' := by
  have hlt : ∀ p ∈ before, p.block < W.heap.size := fun p hp => hW.lt p hp
  have hold : ∀ p ∈ before, (fun b => decide (b < W.heap.size)) p.block = true := fun p hp => by simpa using hlt p hp
  refine ⟨ds, gs, before, [], pa, pv, hW, hres _ _ _, hargs _ hold, hvars _ hold, World.keptBut_mono (fun p hp => ⟨hp, ?_⟩) (hb.frame (· ∈ before)), fun _ => ?_⟩
  · rw [hps, List.mem_append] at hp
    exact Or.inr hp
  · obtain ⟨_, _, _, _, _, hz, hn⟩ := hW
    refine ⟨hok, _, _, ([] ++ pa) ++ pv, ⟨[] ++ pa, pv, trodAll_append (hargs _ (fun _ _ => rfl)) (hres _ _ _), hvars _ (fun _ _ => rfl), rfl, ?_, ?_⟩, ?_⟩
    · intro b off hp
      have hin : MemPlace.cell b off ∈ before := by rw [hps]; simpa using hp
      rw [hb.frozen (hlt _ hin)]
      exact hz b off hin
    · intro ha
      have := hn ha
      rw [hps] at this
      simpa using this
    · intro p hp _
      rw [hps]
      simpa using hp
/-- The arguments read as they did, whatever their types. -/
theorem trodAll_below (hl : laidOutB P = true) {W W' : World} (hb : Below W.heap.size W W') {sp : Nat → Bool} : ∀ {ts : List TypeId} {vs : List Value} {ds : List (DataW H)} {ps : List MemPlace},
    (ts.all fun t => P.readableRec t && decide (t < P.types.size)) = true → DataW.TrodAll enc P W 0 (fun _ => true) true ts vs ds ps → (∀ x ∈ ps, x.block < W.heap.size) → (∀ x ∈ ps, sp x.block = true) → DataW.TrodAll enc P W' 0 sp true ts vs ds ps
  | [], vs, ds, ps, _, h, _, _ => by
    obtain ⟨rfl, rfl, rfl⟩ := trodAll_nil h
    exact trodAll_mk0
  | t :: ts, vs, ds, ps, ht, h, hlt, hsp => by
    simp only [List.all_cons, Bool.and_eq_true, decide_eq_true_eq] at ht
    obtain ⟨v, vs', d, ds', p, q, rfl, rfl, rfl, h1, h2⟩ := trodAll_cons h
    exact trodAll_cons_mk (WideElems.Trod_stays hl ht.1.1 ht.1.2 h1 (fun x hx => hb.same (hlt x (by simp [hx]))) (fun x hx => hsp x (by simp [hx])))
      (trodAll_below hl hb (by simpa [Bool.and_eq_true] using ht.2) h2 (fun x hx => hlt x (by simp [hx])) (fun x hx => hsp x (by simp [hx])))
/-- A slice of integers, opened: a list that lies in the heap. -/
theorem open_list {W : World} {base : Nat} {t el : TypeId} {k : IntKind} {v : Value} {d : DataW H} {ps : List MemPlace} {sp : Nat → Bool} (ht : P.underlying t = some (.slice el)) (he : P.underlying el = some (.int k)) (hc : P.cellsOf el = 1)
    (hval : Value.okWide P W .any base t v) (h : DataW.Trod enc P W 0 sp true t v d ps) :
    ∃ A c l, v = .slice A l.length c ∧ SliceOf (fun x => Value.int k x) (fun i => W.heap[i]?) A c l ∧ ∀ x ∈ l, (Lit.int k x).wf = true := by
  obtain ⟨A, n, c, rfl⟩ := okWide_slice ht hval
  obtain ⟨fuel, hf⟩ := h
  rcases ChangeShapes.open_ints ht he hc hf with ⟨hcs, hx⟩ | ⟨a, len, cap, zs, hcs, _, hle, hm, hz, hx, hcell, hwz⟩
  · simp [Value.cells] at hcs
    obtain ⟨rfl, rfl, rfl⟩ := hcs
    exact ⟨none, 0, [], rfl, SliceOf.nil, by simp⟩
  · simp [Value.cells] at hcs
    obtain ⟨rfl, rfl, rfl⟩ := hcs
    have hzl : n ≤ zs.length := by rw [hz]; split <;> omega
    have hlen : (zs.take n).length = n := by rw [List.length_take]; omega
    refine ⟨some a, c, zs.take n, by rw [hlen], ⟨fun j u hj => ⟨rfl, ?_⟩, by rw [hlen]; exact hle, hm⟩, fun x hx => hwz x (List.mem_of_mem_take hx)⟩
    rw [List.getElem?_map, List.getElem?_take] at hj
    split at hj
    · rename_i hjn
      have := hcell j (by omega)
      rw [List.getElem?_eq_getElem (by omega)] at hj
      simp at hj
      rw [List.getD_eq_getElem?_getD, List.getElem?_eq_getElem (by omega)] at this
      rw [← hj]
      exact this
    · simp at hj
end
end Go.Eng
/- Contracts of functions of the given program, and lemmas about plain lists and numbers: what the laws of this seat lean on. -/
namespace Go.Proofs.YtpmlehplbobjmaaDoor
open Go.Eng
attribute [local irreducible] opK wpList Code.wp Exit.then Exit.inBlock fnPost bodyPost Nx Calls Oper.wp Rd Rds Wr Ent Stars Blk Again Vec FnSpec wpMix QRun Stop Upto wpAt
/-! Codes, from which all made values are drawn -/
set_option maxHeartbeats 2000000 in
set_option maxRecDepth 10000 in
theorem New_spec (A : Option Addr) (c : Nat) (l : List Int) (I : PH) (hl : SliceOf (fun x : Int => Value.int .u8 x) I A c l) :
    FnSpec Tryd.prog 6 [.slice A l.length c] I [] (fun v R' => ∃ b, v = .pointer (some ⟨b, 0, none⟩) ∧ R' = [Blk b 55 [.slice A (l.take 400).length c, .int .i64 0]]) := by
  have hlen := hl.len
  have hcap := hl.cap
  have e1 : (min (l.length : Int) 400) = ((min l.length 400 : Nat) : Int) := by omega
  have e2 : (l.take 400).length = min l.length 400 := by rw [List.length_take]; omega
  refine FnSpec.enterP Tryd.func6 rfl Tryd.ntmps6 rfl fun w F => ?_
  repeat' first
    | ((with_reducible refine Nx.is_wp ?_); first | refine Nx.wo ?_ | refine Nx.zp (fun hc => ?_) (fun hc => ?_))
    | (refine Nx.zo ?_; first | refine Nx.opr rfl rfl ?_ | refine Nx.so ?_ | refine Nx.sb (fun bx => ?_) | refine Nx.sa (fun A2 c2 => ?_))
    | refine Nx.za ?_ | refine Nx.zr (fun hc => ?_) (fun hc => ?_)
    | refine Nx.zq ?_ | refine Nx.zu (fun hc => ?_) (fun hc => ?_)
    | refine Nx.zx ?_ | fail
  rw [e1]
  repeat' first
    | ((with_reducible refine Nx.is_wp ?_); first | refine Nx.wo ?_ | refine Nx.zp (fun hc => ?_) (fun hc => ?_))
    | (refine Nx.zo ?_; first | refine Nx.opr rfl rfl ?_ | refine Nx.slice_hi rfl rfl rfl rfl rfl (by omega) ?_ | refine Nx.so ?_ | refine Nx.sb (fun bx => ?_) | refine Nx.sa (fun A2 c2 => ?_))
    | refine Nx.za ?_ | refine Nx.zr (fun hc => ?_) (fun hc => ?_)
    | refine Nx.zq ?_ | refine Nx.zu (fun hc => ?_) (fun hc => ?_)
    | refine Nx.zx ?_ | fail
  rw [e2]
  exact Nx.ret_fn rfl [_] ⟨_, rfl, rfl⟩ (by (exact Ent.auto))
set_option maxHeartbeats 2000000 in
set_option maxRecDepth 10000 in
/-- Where a draw stands, and what it yields: any number below n. -/
theorem Next_spec (b : Nat) (A : Option Addr) (c : Nat) (l : List Int) (k : Nat) (n : Int) (I : PH) (hl : SliceOf (fun x : Int => Value.int .u8 x) I A c l) (hx : ∀ x ∈ l, 0 ≤ x ∧ x < 256) (hk : k ≤ l.length) (hn : 1 ≤ n ∧ n ≤ 1000000) :
    FnSpec Tryd.prog 27 [.pointer (some ⟨b, 0, none⟩), .int .i64 n] I [Blk b 55 [.slice A l.length c, .int .i64 (k : Int)]]
      (fun v R' => ∃ (r : Int) (k' : Nat), v = .int .i64 r ∧ (0 ≤ r ∧ r < n) ∧ k' ≤ l.length ∧ R' = [Blk b 55 [.slice A l.length c, .int .i64 (k' : Int)]]) := by
  have hlen := hl.len
  refine FnSpec.enterP Tryd.func27 rfl Tryd.ntmps27 rfl fun w F => ?_
  have hget : ∀ j : Nat, j < l.length → 0 ≤ l.getD j default ∧ l.getD j default < 256 := fun j h => hx _ (by rw [List.getD_eq_getElem?_getD, List.getElem?_eq_getElem h]; exact List.getElem_mem _)
  have hg1 : 0 < l.length - k → 0 ≤ l.getD ((k : Int) + 1 - 1).toNat default ∧ l.getD ((k : Int) + 1 - 1).toNat default < 256 := fun h => hget _ (by omega)
  have hg2 : 0 < l.length - (k + 1) → 0 ≤ l.getD ((k : Int) + 1).toNat default ∧ l.getD ((k : Int) + 1).toNat default < 256 := fun h => hget _ (by omega)
  repeat' first
    | ((with_reducible refine Nx.is_wp ?_); first | refine Nx.wo ?_ | refine Nx.p_draw (id := 1) rfl [0, 1, 2, 3, 4, 5, 6, 7, 8, 9, 10, 11, 12, 13] [] _ rfl rfl (by kernel_rfl) (by kernel_rfl) rfl PanicOk.auto (Ent.refl _) ?_ | refine Nx.p_draw (id := 4) rfl [0, 1, 2, 3, 4, 5, 6, 7, 8, 9, 10, 11, 12] [] _ rfl rfl (by kernel_rfl) (by kernel_rfl) rfl PanicOk.auto (Ent.refl _) ?_ | refine Nx.p_draw (id := 5) rfl [0, 1, 2, 3, 4, 5, 6, 7, 8, 9, 10, 11, 12, 13] [] _ rfl rfl (by kernel_rfl) (by kernel_rfl) rfl PanicOk.auto (Ent.refl _) ?_ | refine Nx.p_draw (id := 6) rfl [0, 1, 2, 3, 4, 5, 6, 7, 8, 9, 10, 11, 12, 13, 14] [] _ rfl rfl (by kernel_rfl) (by kernel_rfl) rfl PanicOk.auto (Ent.refl _) ?_ | refine Nx.zp (fun hc => ?_) (fun hc => ?_))
    | (refine Nx.zo ?_; first | refine Nx.opr rfl rfl ?_ | refine Nx.so ?_ | refine Nx.sb (fun bx => ?_) | refine Nx.sa (fun A2 c2 => ?_))
    | refine Nx.za ?_ | refine Nx.zr (fun hc => ?_) (fun hc => ?_)
    | ((with_reducible refine Nx.is_mix ?_); first | refine Nx.m_quiet rfl rfl rfl rfl rfl (by first | exact QRun.opr rfl | exact QRun.idxi rfl rfl rfl rfl (by omega) (by omega) (hl.isSome (by omega)) | exact QRun.load rfl rfl (hl.rd (by omega))) ?_ | refine Nx.m_quiet_do rfl rfl rfl rfl rfl rfl rfl (by first | exact QRun.opr rfl | exact QRun.idxi rfl rfl rfl rfl (by omega) (by omega) (hl.isSome (by omega)) | exact QRun.load rfl rfl (hl.rd (by omega))) ?_ | refine Nx.m ?_ | refine Nx.zm ?_ | refine Nx.zt (fun hc => ?_) (fun hc => ?_))
    | refine Nx.zx ?_ | fail
  · exact Nx.ret_fn rfl [_] ⟨0, k, rfl, ⟨by omega, by omega⟩, hk, rfl⟩ (Ent.refl _)
  · exact Nx.ret_fn rfl [_] ⟨_, k + 2, rfl, ⟨Int.emod_nonneg _ (by omega), Int.emod_lt_of_pos _ (by omega)⟩, by omega, by rw [show ((k + 2 : Nat) : Int) = (k : Int) + 1 + 1 by omega]⟩ (by (exact Ent.auto))
  · exact Nx.ret_fn rfl [_] ⟨_, k + 1, rfl, ⟨Int.emod_nonneg _ (by omega), Int.emod_lt_of_pos _ (by omega)⟩, by omega, by rw [show ((k + 1 : Nat) : Int) = (k : Int) + 1 by omega]⟩ (by (exact Ent.auto))
  · exact Nx.ret_fn rfl [_] ⟨_, k + 1, rfl, ⟨Int.emod_nonneg _ (by omega), Int.emod_lt_of_pos _ (by omega)⟩, by omega, by rw [show ((k + 1 : Nat) : Int) = (k : Int) + 1 by omega]⟩ (by (exact Ent.auto))
end Go.Proofs.YtpmlehplbobjmaaDoor
/- Contracts of functions of the given program, and lemmas about plain lists and numbers: what the laws of this seat lean on. -/
namespace Go.Proofs.YtpmlehplbobjmaaDoor
open Go.Eng
attribute [local irreducible] opK wpList Code.wp Exit.then Exit.inBlock fnPost bodyPost Nx Calls Oper.wp Rd Rds Wr Ent Stars Blk Again Vec FnSpec wpMix QRun Stop Upto wpAt
/-! Spaces: the sizes l, each 1..8, at most four, at most 48 cells -/
def prod (l : List Int) : Int := l.foldl (· * ·) 1
theorem prod_succ (l : List Int) (k : Nat) (hk : k < l.length) : prod (l.take (k + 1)) = prod (l.take k) * l.getD k default := by
  unfold prod
  rw [List.take_succ_eq_append_getElem hk, List.foldl_append]
  simp [List.getD_eq_getElem?_getD, List.getElem?_eq_getElem hk]
structure Sizes (l : List Int) : Prop where
  dims : 1 ≤ l.length ∧ l.length ≤ 4
  each : ∀ x ∈ l, 1 ≤ x ∧ x ≤ 8
  cells : prod l ≤ 48
theorem Sizes.at {l : List Int} (h : Sizes l) {k : Nat} (hk : k < l.length) : 1 ≤ l.getD k default ∧ l.getD k default ≤ 8 := h.each _ (by rw [List.getD_eq_getElem?_getD, List.getElem?_eq_getElem hk]; exact List.getElem_mem _)
theorem Sizes.some {l : List Int} (h : Sizes l) : ∀ k, k ≤ l.length → 1 ≤ prod (l.take k) ∧ prod (l.take k) ≤ 8 ^ k
  | 0, _ => by simp [prod]
  | k + 1, hk => by
    have ih := h.some k (by omega)
    have hx := h.at (k := k) (by omega)
    rw [prod_succ l k (by omega)]
    refine ⟨?_, ?_⟩
    · have := Int.mul_le_mul ih.1 hx.1 (by omega) (by omega)
      omega
    · rw [Int.pow_succ]
      exact Int.mul_le_mul ih.2 hx.2 (by omega) (by omega)
theorem Sizes.bound {l : List Int} (h : Sizes l) {k : Nat} (hk : k ≤ l.length) : 1 ≤ prod (l.take k) ∧ prod (l.take k) ≤ 4096 := by
  have h1 := h.some k hk
  refine ⟨h1.1, Int.le_trans h1.2 ?_⟩
  have hd := h.dims
  have : k = 0 ∨ k = 1 ∨ k = 2 ∨ k = 3 ∨ k = 4 := by omega
  rcases this with rfl | rfl | rfl | rfl | rfl <;> decide
set_option maxHeartbeats 2000000 in
set_option maxRecDepth 10000 in
theorem product_spec (A : Option Addr) (c : Nat) (l : List Int) (I : PH) (hl : Ints I A c l) (hs : Sizes l) :
    FnSpec Tryd.prog 29 [.slice A l.length c] I [] (fun v R' => v = .int .i64 (prod l) ∧ R' = []) := by
  have hlen := hl.len
  refine FnSpec.enterP Tryd.func29 rfl Tryd.ntmps29 rfl fun w F => ?_
  repeat' first
    | ((with_reducible refine Nx.is_wp ?_); first | refine Nx.wo ?_ | refine Nx.zp (fun hc => ?_) (fun hc => ?_))
    | (refine Nx.zo ?_; first | refine Nx.opr rfl rfl ?_ | refine Nx.so ?_ | refine Nx.sb (fun bx => ?_) | refine Nx.sa (fun A2 c2 => ?_))
    | refine Nx.za ?_ | refine Nx.zr (fun hc => ?_) (fun hc => ?_)
    | refine Nx.zq ?_ | refine Nx.zu (fun hc => ?_) (fun hc => ?_)
    | refine Nx.zx ?_ | fail
  refine Nx.p_loop (σ := Nat) (fun k => [(6, .slice A l.length c), (7, .int .i64 l.length), (8, .int .i64 (k : Int)), (3, .int .i64 (prod (l.take k)))])
    (fun _ => [F]) (fun k => k ≤ l.length) (fun k => l.length - k) 0 rfl (Nat.zero_le _) ⟨rfl, rfl, rfl, rfl, trivial⟩ (Ent.refl _) ?_
  intro k hk
  have hb := hs.bound hk
  have hb1 : k < l.length → prod (l.take k) * l.getD k default ≤ 4096 ∧ 1 ≤ prod (l.take k) * l.getD k default := fun h => by rw [← prod_succ l k h]; exact (hs.bound (by omega)).symm
  repeat' first
    | ((with_reducible refine Nx.is_wp ?_); first | refine Nx.wo ?_ | refine Nx.zp (fun hc => ?_) (fun hc => ?_))
    | (refine Nx.zo ?_; first | refine Nx.opr rfl rfl ?_ | refine Nx.indexAddr_nat rfl rfl rfl rfl rfl (by omega) (hl.isSome (by omega)) ?_ | refine Nx.load rfl rfl rfl (hl.rd (by omega)) ?_ | refine Nx.so ?_ | refine Nx.sb (fun bx => ?_) | refine Nx.sa (fun A2 c2 => ?_))
    | refine Nx.za ?_ | refine Nx.zr (fun hc => ?_) (fun hc => ?_)
    | refine Nx.zq ?_ | refine Nx.zu (fun hc => ?_) (fun hc => ?_)
    | refine Nx.zx ?_ | fail
  · exact Nx.again (k + 1) (by omega) (by omega) ⟨rfl, rfl, rfl, by rw [prod_succ l k (by omega)]; rfl, trivial⟩ (Ent.refl _)
  · exact Nx.ret_fn rfl [] ⟨by rw [List.take_of_length_le (by omega)], rfl⟩ (Ent.refl _)
set_option maxHeartbeats 2000000 in
set_option maxRecDepth 10000 in
theorem Check_spec (A : Option Addr) (c : Nat) (l : List Int) (I : PH) (hl : Ints I A c l) (hs : Sizes l) :
    FnSpec Tryd.prog 20 [.agg #[.slice A l.length c]] I [] (fun v R' => v = .int .i64 0 ∧ R' = []) := by
  have hlen := hl.len
  have hd := hs.dims
  refine FnSpec.enterP Tryd.func20 rfl Tryd.ntmps20 rfl fun w F => ?_
  repeat' first
    | ((with_reducible refine Nx.is_wp ?_); first | refine Nx.wo ?_ | refine Nx.zp (fun hc => ?_) (fun hc => ?_))
    | (refine Nx.zo ?_; first | refine Nx.opr rfl rfl ?_ | refine Nx.so ?_ | refine Nx.sb (fun bx => ?_) | refine Nx.sa (fun A2 c2 => ?_))
    | refine Nx.za ?_ | refine Nx.zr (fun hc => ?_) (fun hc => ?_)
    | refine Nx.zq ?_ | refine Nx.zu (fun hc => ?_) (fun hc => ?_)
    | refine Nx.zx ?_ | fail
  refine Nx.p_loop (σ := Nat) (fun k => [(17, .slice A l.length c), (18, .int .i64 l.length), (19, .int .i64 (k : Int)), (3, .int .i64 (prod (l.take k)))])
    (fun _ => [F]) (fun k => k ≤ l.length) (fun k => l.length - k) 0 rfl (Nat.zero_le _) ⟨rfl, rfl, rfl, rfl, trivial⟩ (by (exact Ent.auto)) ?_
  intro k hk
  have hb := hs.bound hk
  have hb1 : k < l.length → prod (l.take k) * l.getD k default ≤ 4096 ∧ 1 ≤ prod (l.take k) * l.getD k default := fun h => by rw [← prod_succ l k h]; exact (hs.bound (by omega)).symm
  have hx : k < l.length → 1 ≤ l.getD k default ∧ l.getD k default ≤ 8 := fun h => hs.at h
  have hf : l.length ≤ k → prod (l.take k) ≤ 48 := fun h => by rw [List.take_of_length_le h]; exact hs.cells
  repeat' first
    | ((with_reducible refine Nx.is_wp ?_); first | refine Nx.wo ?_ | refine Nx.zp (fun hc => ?_) (fun hc => ?_))
    | (refine Nx.zo ?_; first | refine Nx.opr rfl rfl ?_ | refine Nx.indexAddr_nat rfl rfl rfl rfl rfl (by omega) (hl.isSome (by omega)) ?_ | refine Nx.load rfl rfl rfl (hl.rd (by omega)) ?_ | refine Nx.so ?_ | refine Nx.sb (fun bx => ?_) | refine Nx.sa (fun A2 c2 => ?_))
    | refine Nx.za ?_ | refine Nx.zr (fun hc => ?_) (fun hc => ?_)
    | refine Nx.zq ?_ | refine Nx.zu (fun hc => ?_) (fun hc => ?_)
    | refine Nx.zx ?_ | fail
  · exact Nx.again (k + 1) (by omega) (by omega) ⟨rfl, rfl, rfl, by rw [prod_succ l k (by omega)]; rfl, trivial⟩ (Ent.refl _)
  · exact Nx.ret_fn rfl [] ⟨rfl, rfl⟩ (Ent.refl _)
set_option maxHeartbeats 2000000 in
set_option maxRecDepth 10000 in
theorem RCheck_spec (A : Option Addr) (c : Nat) (l : List Int) (I : PH) (hl : Ints I A c l) (hs : Sizes l) :
    FnSpec Tryd.prog 21 [.agg #[.slice A l.length c]] I [] (fun v R' => v = .int .i64 0 ∧ R' = []) := by
  have hlen := hl.len
  have hd := hs.dims
  refine FnSpec.enterP Tryd.func21 rfl Tryd.ntmps21 rfl fun w F => ?_
  repeat' first
    | ((with_reducible refine Nx.is_wp ?_); first | refine Nx.wo ?_ | refine Nx.zp (fun hc => ?_) (fun hc => ?_))
    | (refine Nx.zo ?_; first | refine Nx.opr rfl rfl ?_ | refine Nx.so ?_ | refine Nx.sb (fun bx => ?_) | refine Nx.sa (fun A2 c2 => ?_))
    | refine Nx.za ?_ | refine Nx.zr (fun hc => ?_) (fun hc => ?_)
    | refine Nx.zq ?_ | refine Nx.zu (fun hc => ?_) (fun hc => ?_)
    | refine Nx.zx ?_ | fail
  refine Nx.p_loop (σ := Nat) (fun k => [(17, .slice A l.length c), (18, .int .i64 l.length), (19, .int .i64 (k : Int)), (3, .int .i64 (prod (l.take k)))])
    (fun _ => [F]) (fun k => k ≤ l.length) (fun k => l.length - k) 0 rfl (Nat.zero_le _) ⟨rfl, rfl, rfl, rfl, trivial⟩ (by (exact Ent.auto)) ?_
  intro k hk
  have hb := hs.bound hk
  have hb1 : k < l.length → prod (l.take k) * l.getD k default ≤ 4096 ∧ 1 ≤ prod (l.take k) * l.getD k default := fun h => by rw [← prod_succ l k h]; exact (hs.bound (by omega)).symm
  have hx : k < l.length → 1 ≤ l.getD k default ∧ l.getD k default ≤ 8 := fun h => hs.at h
  have hf : l.length ≤ k → prod (l.take k) ≤ 48 := fun h => by rw [List.take_of_length_le h]; exact hs.cells
  repeat' first
    | ((with_reducible refine Nx.is_wp ?_); first | refine Nx.wo ?_ | refine Nx.zp (fun hc => ?_) (fun hc => ?_))
    | (refine Nx.zo ?_; first | refine Nx.opr rfl rfl ?_ | refine Nx.indexAddr_nat rfl rfl rfl rfl rfl (by omega) (hl.isSome (by omega)) ?_ | refine Nx.load rfl rfl rfl (hl.rd (by omega)) ?_ | refine Nx.so ?_ | refine Nx.sb (fun bx => ?_) | refine Nx.sa (fun A2 c2 => ?_))
    | refine Nx.za ?_ | refine Nx.zr (fun hc => ?_) (fun hc => ?_)
    | refine Nx.zq ?_ | refine Nx.zu (fun hc => ?_) (fun hc => ?_)
    | refine Nx.zx ?_ | fail
  · exact Nx.again (k + 1) (by omega) (by omega) ⟨rfl, rfl, rfl, by rw [prod_succ l k (by omega)]; rfl, trivial⟩ (Ent.refl _)
  · exact Nx.ret_fn rfl [] ⟨rfl, rfl⟩ (Ent.refl _)
set_option maxHeartbeats 2000000 in
set_option maxRecDepth 10000 in
theorem Count_spec (A : Option Addr) (c : Nat) (l : List Int) (I : PH) (hl : Ints I A c l) (hs : Sizes l) :
    FnSpec Tryd.prog 22 [.agg #[.slice A l.length c]] I [] (fun v R' => v = .int .i64 (prod l) ∧ R' = []) := by
  refine FnSpec.enterP Tryd.func22 rfl Tryd.ntmps22 rfl fun w F => ?_
  repeat' first
    | ((with_reducible refine Nx.is_wp ?_); first | refine Nx.wo ?_ | refine Nx.zp (fun hc => ?_) (fun hc => ?_))
    | (refine Nx.zo ?_; first | refine Nx.opr rfl rfl ?_ | refine Nx.callv rfl rfl rfl (by kernel_rfl) rfl (Check_spec _ _ _ _ hl hs) ?_ | refine Nx.callv rfl rfl rfl (by kernel_rfl) rfl (product_spec _ _ _ _ hl hs) ?_ | refine Nx.so ?_ | refine Nx.sb (fun bx => ?_) | refine Nx.sa (fun A2 c2 => ?_))
    | refine Nx.za ?_ | refine Nx.zr (fun hc => ?_) (fun hc => ?_)
    | refine Nx.zq ?_ | refine Nx.zu (fun hc => ?_) (fun hc => ?_)
    | refine Nx.zx ?_ | fail
  exact Nx.ret_fn rfl [] ⟨rfl, rfl⟩ (by (exact Ent.auto))
set_option maxHeartbeats 2000000 in
set_option maxRecDepth 10000 in
theorem RCount_spec (A : Option Addr) (c : Nat) (l : List Int) (I : PH) (hl : Ints I A c l) (hs : Sizes l) :
    FnSpec Tryd.prog 23 [.agg #[.slice A l.length c]] I [] (fun v R' => v = .int .i64 (prod l) ∧ R' = []) := by
  have hlen := hl.len
  refine FnSpec.enterP Tryd.func23 rfl Tryd.ntmps23 rfl fun w F => ?_
  repeat' first
    | ((with_reducible refine Nx.is_wp ?_); first | refine Nx.wo ?_ | refine Nx.zp (fun hc => ?_) (fun hc => ?_))
    | (refine Nx.zo ?_; first | refine Nx.opr rfl rfl ?_ | refine Nx.callv rfl rfl rfl (by kernel_rfl) rfl (RCheck_spec _ _ _ _ hl hs) ?_ | refine Nx.so ?_ | refine Nx.sb (fun bx => ?_) | refine Nx.sa (fun A2 c2 => ?_))
    | refine Nx.za ?_ | refine Nx.zr (fun hc => ?_) (fun hc => ?_)
    | refine Nx.zq ?_ | refine Nx.zu (fun hc => ?_) (fun hc => ?_)
    | refine Nx.zx ?_ | fail
  refine Nx.p_loop (σ := Nat) (fun k => [(10, .slice A l.length c), (11, .int .i64 l.length), (12, .int .i64 (k : Int)), (3, .int .i64 (prod (l.take k)))])
    (fun _ => [F]) (fun k => k ≤ l.length) (fun k => l.length - k) 0 rfl (Nat.zero_le _) ⟨rfl, rfl, rfl, rfl, trivial⟩ (by (exact Ent.auto)) ?_
  intro k hk
  have hb := hs.bound hk
  have hb1 : k < l.length → prod (l.take k) * l.getD k default ≤ 4096 ∧ 1 ≤ prod (l.take k) * l.getD k default := fun h => by rw [← prod_succ l k h]; exact (hs.bound (by omega)).symm
  repeat' first
    | ((with_reducible refine Nx.is_wp ?_); first | refine Nx.wo ?_ | refine Nx.zp (fun hc => ?_) (fun hc => ?_))
    | (refine Nx.zo ?_; first | refine Nx.opr rfl rfl ?_ | refine Nx.indexAddr_nat rfl rfl rfl rfl rfl (by omega) (hl.isSome (by omega)) ?_ | refine Nx.load rfl rfl rfl (hl.rd (by omega)) ?_ | refine Nx.so ?_ | refine Nx.sb (fun bx => ?_) | refine Nx.sa (fun A2 c2 => ?_))
    | refine Nx.za ?_ | refine Nx.zr (fun hc => ?_) (fun hc => ?_)
    | refine Nx.zq ?_ | refine Nx.zu (fun hc => ?_) (fun hc => ?_)
    | refine Nx.zx ?_ | fail
  · exact Nx.again (k + 1) (by omega) (by omega) ⟨rfl, rfl, rfl, by rw [prod_succ l k (by omega)]; rfl, trivial⟩ (Ent.refl _)
  · exact Nx.ret_fn rfl [] ⟨by rw [List.take_of_length_le (by omega)], rfl⟩ (Ent.refl _)
end Go.Proofs.YtpmlehplbobjmaaDoor
/- Contracts of functions of the given program, and lemmas about plain lists and numbers: what the laws of this seat lean on. -/
namespace Go.Proofs.YtpmlehplbobjmaaDoor
open Go.Eng
attribute [local irreducible] opK wpList Code.wp Exit.then Exit.inBlock fnPost bodyPost Nx Calls Oper.wp Rd Rds Wr Ent Stars Blk Again Vec FnSpec wpMix QRun Stop Upto wpAt
/-! Numbers of cells and their places -/
def numK (l xs : List Int) : Nat → Int
  | 0 => 0
  | k + 1 => numK l xs k * l.getD k default + xs.getD k default
structure InR (l xs : List Int) : Prop where
  len : xs.length = l.length
  each : ∀ k, k < l.length → 0 ≤ xs.getD k default ∧ xs.getD k default < l.getD k default
theorem mul_add_lt {a b p d x : Int} (ha : 0 ≤ a ∧ a < p) (hx : 0 ≤ x ∧ x < d) (hb : b = p * d) : 0 ≤ a * d + x ∧ a * d + x < b := by
  have h1 : 0 ≤ a * d := Int.mul_nonneg ha.1 (by omega)
  have h2 : (a + 1) * d ≤ p * d := Int.mul_le_mul_of_nonneg_right (by omega) (by omega)
  rw [Int.add_mul] at h2
  omega
theorem numK_bound {l xs : List Int} (hx : InR l xs) : ∀ k, k ≤ l.length → 0 ≤ numK l xs k ∧ numK l xs k < prod (l.take k)
  | 0, _ => by simp [numK, prod]
  | k + 1, hk => by
    simp only [numK]
    exact mul_add_lt (numK_bound hx k (by omega)) (hx.each k (by omega)) (prod_succ l k (by omega))
set_option maxHeartbeats 2000000 in
set_option maxRecDepth 10000 in
theorem number_spec (A B : Option Addr) (c c2 : Nat) (l xs : List Int) (I : PH) (hl : Ints I A c l) (hx : Ints I B c2 xs) (hs : Sizes l) (hr : InR l xs) :
    FnSpec Tryd.prog 39 [.slice A l.length c, .slice B xs.length c2] I [] (fun v R' => v = .int .i64 (numK l xs l.length) ∧ R' = []) := by
  have hlen := hl.len
  have hxl := hr.len
  refine FnSpec.enterP Tryd.func39 rfl Tryd.ntmps39 rfl fun w F => ?_
  repeat' first
    | ((with_reducible refine Nx.is_wp ?_); first | refine Nx.wo ?_ | refine Nx.zp (fun hc => ?_) (fun hc => ?_))
    | (refine Nx.zo ?_; first | refine Nx.opr rfl rfl ?_ | refine Nx.so ?_ | refine Nx.sb (fun bx => ?_) | refine Nx.sa (fun A2 c2 => ?_))
    | refine Nx.za ?_ | refine Nx.zr (fun hc => ?_) (fun hc => ?_)
    | refine Nx.zq ?_ | refine Nx.zu (fun hc => ?_) (fun hc => ?_)
    | refine Nx.zx ?_ | fail
  refine Nx.p_loop (σ := Nat) (fun k => [(1, .slice B xs.length c2), (8, .slice A l.length c), (9, .int .i64 l.length), (10, .int .i64 (k : Int)), (5, .int .i64 (numK l xs k))])
    (fun _ => [F]) (fun k => k ≤ l.length) (fun k => l.length - k) 0 rfl (Nat.zero_le _) ⟨rfl, rfl, rfl, rfl, rfl, trivial⟩ (Ent.refl _) ?_
  intro k hk
  have hb := hs.bound hk
  have hn := numK_bound hr k hk
  have hat : k < l.length → 1 ≤ l.getD k default ∧ l.getD k default ≤ 8 := fun h => hs.at h
  have hb1 : k < l.length → 0 ≤ numK l xs k * l.getD k default ∧ numK l xs k * l.getD k default ≤ 4096 * 8 := fun h => ⟨Int.mul_nonneg hn.1 (by have := hat h; omega), Int.mul_le_mul (by omega) (hat h).2 (by have := hat h; omega) (by omega)⟩
  have he := hr.each k
  repeat' first
    | ((with_reducible refine Nx.is_wp ?_); first | refine Nx.wo ?_ | refine Nx.zp (fun hc => ?_) (fun hc => ?_))
    | (refine Nx.zo ?_; first | refine Nx.opr rfl rfl ?_ | refine Nx.indexAddr_nat rfl rfl rfl rfl rfl (by omega) (hl.isSome (by omega)) ?_ | refine Nx.indexAddr_nat rfl rfl rfl rfl rfl (by omega) (hx.isSome (by omega)) ?_ | refine Nx.load rfl rfl rfl (hl.rd (by omega)) ?_ | refine Nx.load rfl rfl rfl (hx.rd (by omega)) ?_ | refine Nx.so ?_ | refine Nx.sb (fun bx => ?_) | refine Nx.sa (fun A2 c2 => ?_))
    | refine Nx.za ?_ | refine Nx.zr (fun hc => ?_) (fun hc => ?_)
    | refine Nx.zq ?_ | refine Nx.zu (fun hc => ?_) (fun hc => ?_)
    | refine Nx.zx ?_ | fail
  · exact Nx.again (k + 1) (by omega) (by omega) ⟨rfl, rfl, rfl, rfl, rfl, trivial⟩ (Ent.refl _)
  · obtain rfl : k = l.length := by omega
    exact Nx.ret_fn rfl [] ⟨rfl, rfl⟩ (Ent.refl _)
end Go.Proofs.YtpmlehplbobjmaaDoor
/- Contracts of functions of the given program, and lemmas about plain lists and numbers: what the laws of this seat lean on. -/
namespace Go.Proofs.YtpmlehplbobjmaaDoor
open Go.Eng
attribute [local irreducible] opK wpList Code.wp Exit.then Exit.inBlock fnPost bodyPost Nx Calls Oper.wp Rd Rds Wr Ent Stars Blk Again Vec FnSpec wpMix QRun Stop Upto wpAt
def contF (l xs : List Int) : Nat → Nat → Int → Int
  | 0, _, m => m
  | r + 1, j, m => contF l xs r (j + 1) (m * l.getD j default + xs.getD j default)
theorem contF_num (l xs : List Int) : ∀ r j, contF l xs r j (numK l xs j) = numK l xs (j + r)
  | 0, j => rfl
  | r + 1, j => by
    have := contF_num l xs r (j + 1)
    simp only [contF]
    rw [show j + (r + 1) = j + 1 + r by omega, ← this]
    rfl
theorem getD_set_ne {xs : List Int} {i j : Nat} {z : Int} (h : i ≠ j) : (xs.set i z).getD j default = xs.getD j default := by
  rw [List.getD_eq_getElem?_getD, List.getD_eq_getElem?_getD, List.getElem?_set_ne h]
theorem getD_set_eq {xs : List Int} {i : Nat} {z : Int} (h : i < xs.length) : (xs.set i z).getD i default = z := by
  rw [List.getD_eq_getElem?_getD, List.getElem?_set_self h]; rfl
theorem contF_set (l xs : List Int) (i : Nat) (z : Int) : ∀ r j m, i < j → contF l (xs.set i z) r j m = contF l xs r j m
  | 0, _, _, _ => rfl
  | r + 1, j, m, h => by
    simp only [contF]
    rw [getD_set_ne (by omega), contF_set l xs i z r (j + 1) _ (by omega)]
structure PlOk (l : List Int) (n : Int) (s : Nat × List Int × Int) : Prop where
  le : s.1 ≤ l.length
  len : s.2.1.length = l.length
  m : 0 ≤ s.2.2 ∧ s.2.2 < prod (l.take s.1)
  each : ∀ i, s.1 ≤ i → i < l.length → 0 ≤ s.2.1.getD i default ∧ s.2.1.getD i default < l.getD i default
  num : contF l s.2.1 (l.length - s.1) s.1 s.2.2 = n
  last : s.1 < l.length → s.2.1.getD (l.length - 1) default = n % l.getD (l.length - 1) default
  first : s.1 = l.length → s.2.2 = n
theorem PlOk.step {l : List Int} {n : Int} {j : Nat} {xs : List Int} {m : Int} (hs : Sizes l) (h : PlOk l n (j + 1, xs, m)) : PlOk l n (j, xs.set j (m % l.getD j default), m / l.getD j default) := by
  have hle : j + 1 ≤ l.length := h.le
  have hlen : xs.length = l.length := h.len
  have hd := hs.at (k := j) (by omega)
  have hm : 0 ≤ m ∧ m < prod (l.take (j + 1)) := h.m
  rw [prod_succ l j (by omega)] at hm
  have hset : (xs.set j (m % l.getD j default)).getD j default = m % l.getD j default := getD_set_eq (by omega)
  refine ⟨by show j ≤ l.length; omega, by simpa using hlen, ⟨Int.ediv_nonneg hm.1 (by omega), Int.ediv_lt_of_lt_mul (by omega) hm.2⟩, fun i h1 h2 => ?_, ?_, fun _ => ?_, fun h1 => ?_⟩
  · show 0 ≤ (xs.set j (m % l.getD j default)).getD i default ∧ (xs.set j (m % l.getD j default)).getD i default < l.getD i default
    by_cases hij : j = i
    · subst hij
      rw [hset]
      exact ⟨Int.emod_nonneg _ (by omega), Int.emod_lt_of_pos _ (by omega)⟩
    · rw [getD_set_ne hij]
      have h1 : j ≤ i := h1
      exact h.each i (by show j + 1 ≤ i; omega) h2
  · show contF l (xs.set j (m % l.getD j default)) (l.length - j) j (m / l.getD j default) = n
    rw [show l.length - j = (l.length - (j + 1)) + 1 by omega]
    simp only [contF]
    rw [hset, contF_set l xs j _ _ _ _ (by omega), show m / l.getD j default * l.getD j default + m % l.getD j default = m by rw [Int.mul_comm]; exact Int.mul_ediv_add_emod m _]
    exact h.num
  · show (xs.set j (m % l.getD j default)).getD (l.length - 1) default = n % l.getD (l.length - 1) default
    by_cases hj : j = l.length - 1
    · have hmn : m = n := h.first (by show j + 1 = l.length; omega)
      rw [← hj, hset, hmn]
    · rw [getD_set_ne hj]
      exact h.last (by show j + 1 < l.length; omega)
  · have h1 : j = l.length := h1
    omega
set_option maxHeartbeats 2000000 in
set_option maxRecDepth 10000 in
theorem places_spec (A : Option Addr) (c : Nat) (l : List Int) (n : Int) (I : PH) (hl : Ints I A c l) (hs : Sizes l) (hn : 0 ≤ n ∧ n < prod l) :
    FnSpec Tryd.prog 40 [.slice A l.length c, .int .i64 n] I [] (fun v R' => ∃ b xs, v = .slice (some ⟨b, 0, none⟩) xs.length xs.length ∧ InR l xs ∧ numK l xs l.length = n ∧ xs.getD (l.length - 1) default = n % l.getD (l.length - 1) default ∧ R' = [Vec 3 1 (some ⟨b, 0, none⟩) xs.length xs.length (xs.map (Value.int .i64))]) := by
  have hlen := hl.len
  have hd := hs.dims
  refine FnSpec.enterP Tryd.func40 rfl Tryd.ntmps40 rfl fun w F => ?_
  repeat' first
    | ((with_reducible refine Nx.is_wp ?_); first | refine Nx.wo ?_ | refine Nx.zp (fun hc => ?_) (fun hc => ?_))
    | (refine Nx.zo ?_; first | refine Nx.opr rfl rfl ?_ | refine Nx.so ?_ | refine Nx.sb (fun bx => ?_) | refine Nx.sa (fun A2 c2 => ?_))
    | refine Nx.za ?_ | refine Nx.zr (fun hc => ?_) (fun hc => ?_)
    | refine Nx.zq ?_ | refine Nx.zu (fun hc => ?_) (fun hc => ?_)
    | refine Nx.zx ?_ | fail
  refine Nx.p_loop (σ := Nat × List Int × Int) (fun s => [(0, .slice A l.length c), (1, .int .i64 s.2.2), (5, .slice (some ⟨bx, 0, none⟩) l.length l.length), (6, .int .i64 ((s.1 : Int) - 1))])
    (fun s => [Vec 3 1 (some ⟨bx, 0, none⟩) l.length l.length (s.2.1.map (Value.int .i64)), F]) (PlOk l n) (fun s => s.1) (l.length, List.replicate l.length 0, n) rfl
    ⟨Nat.le_refl _, by simp, ⟨hn.1, by rw [List.take_length]; exact hn.2⟩, fun i h1 h2 => absurd h2 (Nat.not_lt.2 h1), by show contF l _ (l.length - l.length) _ n = n; rw [Nat.sub_self]; rfl, fun h => absurd h (Nat.lt_irrefl _), fun _ => rfl⟩ ⟨rfl, rfl, rfl, rfl, trivial⟩ (Ent.refl _) ?_
  rintro ⟨j, xs, m⟩ hok
  dsimp only
  rcases j with _ | j
  · repeat' first
      | ((with_reducible refine Nx.is_wp ?_); first | refine Nx.wo ?_ | refine Nx.zp (fun hc => ?_) (fun hc => ?_))
      | (refine Nx.zo ?_; first | refine Nx.opr rfl rfl ?_ | refine Nx.so ?_ | refine Nx.sb (fun bx => ?_) | refine Nx.sa (fun A2 c2 => ?_))
      | refine Nx.za ?_ | refine Nx.zr (fun hc => ?_) (fun hc => ?_)
      | refine Nx.zq ?_ | refine Nx.zu (fun hc => ?_) (fun hc => ?_)
      | refine Nx.zx ?_ | fail
    have h0 : m = 0 := by have := hok.m; simp [prod] at this; omega
    have h1 : xs.length = l.length := hok.len
    refine Nx.ret_fn rfl [_] ⟨bx, xs, by rw [h1], ⟨h1, fun k hk => hok.each k (Nat.zero_le _) hk⟩, ?_, hok.last (by show 0 < l.length; omega), by rw [h1]⟩ (by (exact Ent.auto))
    have h2 := hok.num
    subst h0
    have h3 := contF_num l xs l.length 0
    rw [Nat.zero_add] at h3
    rw [← h3]
    exact h2
  · have hle : j + 1 ≤ l.length := hok.le
    have hxl : xs.length = l.length := hok.len
    have hm := hok.m
    have hb := hs.bound hle
    have hat := hs.at (k := j) (by omega)
    have hm1 : 0 ≤ m ∧ m < prod (l.take (j + 1)) := hm
    rw [show (((j + 1 : Nat) : Int) - 1) = (j : Int) by omega]
    repeat' first
      | ((with_reducible refine Nx.is_wp ?_); first | refine Nx.wo ?_ | refine Nx.zp (fun hc => ?_) (fun hc => ?_))
      | (refine Nx.zo ?_; first | refine Nx.opr rfl rfl ?_ | refine Nx.indexAddr_nat rfl rfl rfl rfl rfl (by omega) (hl.isSome (by omega)) ?_ | refine Nx.indexAddr_nat rfl rfl rfl rfl rfl (by omega) rfl ?_ | refine Nx.load rfl rfl rfl (hl.rd (by omega)) ?_ | refine Nx.so ?_ | refine Nx.sb (fun bx => ?_) | refine Nx.sa (fun A2 c2 => ?_))
      | refine Nx.za ?_ | refine Nx.zr (fun hc => ?_) (fun hc => ?_)
      | refine Nx.zq ?_ | refine Nx.zu (fun hc => ?_) (fun hc => ?_)
      | refine Nx.zx ?_ | fail
    exact Nx.again (j, xs.set j (m % l.getD j default), m / l.getD j default) (hok.step hs) (by dsimp only; omega) ⟨rfl, rfl, rfl, rfl, trivial⟩ (by (exact Ent.auto))
end Go.Proofs.YtpmlehplbobjmaaDoor
/- Contracts of functions of the given program, and lemmas about plain lists and numbers: what the laws of this seat lean on. -/
namespace Go.Proofs.YtpmlehplbobjmaaDoor
open Go.Eng
attribute [local irreducible] opK wpList Code.wp Exit.then Exit.inBlock fnPost bodyPost Nx Calls Oper.wp Rd Rds Wr Ent Stars Blk Again Vec FnSpec wpMix QRun Stop Upto wpAt
set_option maxHeartbeats 2000000 in
set_option maxRecDepth 10000 in
theorem At_spec (A : Option Addr) (c : Nat) (l : List Int) (n : Int) (I : PH) (hl : Ints I A c l) (hs : Sizes l) (hn : 0 ≤ n ∧ n < prod l) :
    FnSpec Tryd.prog 18 [.agg #[.slice A l.length c], .int .i64 n] I [] (fun v R' => ∃ b xs, v = .tuple #[.slice (some ⟨b, 0, none⟩) xs.length xs.length, .int .i64 0] ∧ InR l xs ∧ numK l xs l.length = n ∧ xs.getD (l.length - 1) default = n % l.getD (l.length - 1) default ∧ R' = [Vec 3 1 (some ⟨b, 0, none⟩) xs.length xs.length (xs.map (Value.int .i64))]) := by
  refine FnSpec.enterP Tryd.func18 rfl Tryd.ntmps18 rfl fun w F => ?_
  repeat' first
    | ((with_reducible refine Nx.is_wp ?_); first | refine Nx.wo ?_ | refine Nx.zp (fun hc => ?_) (fun hc => ?_))
    | (refine Nx.zo ?_; first | refine Nx.opr rfl rfl ?_ | refine Nx.callv rfl rfl rfl (by kernel_rfl) rfl (Check_spec _ _ _ _ hl hs) ?_ | refine Nx.callv rfl rfl rfl (by kernel_rfl) rfl (product_spec _ _ _ _ hl hs) ?_ | refine Nx.so ?_ | refine Nx.sb (fun bx => ?_) | refine Nx.sa (fun A2 c2 => ?_))
    | refine Nx.za ?_ | refine Nx.zr (fun hc => ?_) (fun hc => ?_)
    | refine Nx.zq ?_ | refine Nx.zu (fun hc => ?_) (fun hc => ?_)
    | refine Nx.zx ?_ | fail
  refine Nx.at_op rfl rfl ?_
  refine Nx.call rfl rfl rfl (by kernel_rfl) rfl (places_spec A c l n I hl hs hn) (Ent.refl _) ?_
  rintro v R' ⟨b, xs, rfl, h1, h2, h3, rfl⟩
  repeat' first
    | ((with_reducible refine Nx.is_wp ?_); first | refine Nx.wo ?_ | refine Nx.zp (fun hc => ?_) (fun hc => ?_))
    | (refine Nx.zo ?_; first | refine Nx.opr rfl rfl ?_ | refine Nx.so ?_ | refine Nx.sb (fun bx => ?_) | refine Nx.sa (fun A2 c2 => ?_))
    | refine Nx.za ?_ | refine Nx.zr (fun hc => ?_) (fun hc => ?_)
    | refine Nx.zq ?_ | refine Nx.zu (fun hc => ?_) (fun hc => ?_)
    | refine Nx.zx ?_ | fail
  exact Nx.ret_fn rfl [_] ⟨b, xs, rfl, h1, h2, h3, rfl⟩ (by (exact Ent.auto))
set_option maxHeartbeats 2000000 in
set_option maxRecDepth 10000 in
theorem Index_spec (A B : Option Addr) (c c2 : Nat) (l xs : List Int) (I : PH) (hl : Ints I A c l) (hx : Ints I B c2 xs) (hs : Sizes l) (hr : InR l xs) :
    FnSpec Tryd.prog 16 [.agg #[.slice A l.length c], .slice B xs.length c2] I [] (fun v R' => v = .tuple #[.int .i64 (numK l xs l.length), .int .i64 0] ∧ R' = []) := by
  have hlen := hl.len
  have hxl := hr.len
  refine FnSpec.enterP Tryd.func16 rfl Tryd.ntmps16 rfl fun w F => ?_
  repeat' first
    | ((with_reducible refine Nx.is_wp ?_); first | refine Nx.wo ?_ | refine Nx.zp (fun hc => ?_) (fun hc => ?_))
    | (refine Nx.zo ?_; first | refine Nx.opr rfl rfl ?_ | refine Nx.callv rfl rfl rfl (by kernel_rfl) rfl (Check_spec _ _ _ _ hl hs) ?_ | refine Nx.so ?_ | refine Nx.sb (fun bx => ?_) | refine Nx.sa (fun A2 c2 => ?_))
    | refine Nx.za ?_ | refine Nx.zr (fun hc => ?_) (fun hc => ?_)
    | refine Nx.zq ?_ | refine Nx.zu (fun hc => ?_) (fun hc => ?_)
    | refine Nx.zx ?_ | fail
  refine Nx.p_loop (σ := Nat) (fun k => [(1, .slice B xs.length c2), (2, .pointer (some ⟨bx, 0, none⟩)), (20, .slice B xs.length c2), (21, .int .i64 xs.length), (22, .int .i64 (k : Int))])
    (fun _ => [Blk bx 27 [.slice A l.length c], F]) (fun k => k ≤ xs.length) (fun k => xs.length - k) 0 rfl (Nat.zero_le _) ⟨rfl, rfl, rfl, rfl, rfl, trivial⟩ (by (exact Ent.auto)) ?_
  intro k hk
  have he := hr.each k
  repeat' first
    | ((with_reducible refine Nx.is_wp ?_); first | refine Nx.wo ?_ | refine Nx.zp (fun hc => ?_) (fun hc => ?_))
    | (refine Nx.zo ?_; first | refine Nx.opr rfl rfl ?_ | refine Nx.indexAddr_nat rfl rfl rfl rfl rfl (by omega) (hx.isSome (by omega)) ?_ | refine Nx.indexAddr_nat rfl rfl rfl rfl rfl (by omega) (hl.isSome (by omega)) ?_ | refine Nx.load rfl rfl rfl (hl.rd (by omega)) ?_ | refine Nx.load rfl rfl rfl (hx.rd (by omega)) ?_ | refine Nx.callv rfl rfl rfl (by kernel_rfl) rfl (number_spec _ _ _ _ _ _ _ hl hx hs hr) ?_ | refine Nx.so ?_ | refine Nx.sb (fun bx => ?_) | refine Nx.sa (fun A2 c2 => ?_))
    | refine Nx.za ?_ | refine Nx.zr (fun hc => ?_) (fun hc => ?_)
    | refine Nx.zq ?_ | refine Nx.zu (fun hc => ?_) (fun hc => ?_)
    | refine Nx.zx ?_ | fail
  · exact Nx.again (k + 1) (by omega) (by omega) ⟨rfl, rfl, rfl, rfl, rfl, trivial⟩ (by (exact Ent.auto))
  · exact Nx.ret_fn rfl [] ⟨rfl, rfl⟩ (by (exact Ent.auto))
end Go.Proofs.YtpmlehplbobjmaaDoor
/- Contracts of functions of the given program, and lemmas about plain lists and numbers: what the laws of this seat lean on. -/
namespace Go.Proofs.YtpmlehplbobjmaaDoor
open Go.Eng
attribute [local irreducible] opK wpList Code.wp Exit.then Exit.inBlock fnPost bodyPost Nx Calls Oper.wp Rd Rds Wr Ent Stars Blk Again Vec FnSpec wpMix QRun Stop Upto wpAt
set_option maxHeartbeats 2000000 in
set_option maxRecDepth 10000 in
theorem Space_spec (b : Nat) (A : Option Addr) (c : Nat) (l : List Int) (k : Nat) (I : PH) (hl : SliceOf (fun x : Int => Value.int .u8 x) I A c l) (hx : ∀ x ∈ l, 0 ≤ x ∧ x < 256) (hk : k ≤ l.length) :
    FnSpec Tryd.prog 7 [.pointer (some ⟨b, 0, none⟩)] I [Blk b 55 [.slice A l.length c, .int .i64 (k : Int)]]
      (fun v R' => ∃ (B : Option Addr) (c' : Nat) (s : List Int) (k' : Nat), v = .agg #[.slice B s.length c'] ∧ Sizes s ∧ k' ≤ l.length ∧ R' = [Vec 3 1 B s.length c' (s.map (Value.int .i64)), Blk b 55 [.slice A l.length c, .int .i64 (k' : Int)]]) := by
  refine FnSpec.enterP Tryd.func7 rfl Tryd.ntmps7 rfl fun w F => ?_
  repeat' first
    | ((with_reducible refine Nx.is_wp ?_); first | refine Nx.wo ?_ | refine Nx.zp (fun hc => ?_) (fun hc => ?_))
    | (refine Nx.zo ?_; first | refine Nx.opr rfl rfl ?_ | refine Nx.so ?_ | refine Nx.sb (fun bx => ?_) | refine Nx.sa (fun A2 c2 => ?_))
    | refine Nx.za ?_ | refine Nx.zr (fun hc => ?_) (fun hc => ?_)
    | refine Nx.zq ?_ | refine Nx.zu (fun hc => ?_) (fun hc => ?_)
    | refine Nx.zx ?_ | fail
  refine Nx.pull 11 rfl ?_
  refine Nx.at_op rfl rfl ?_
  refine Nx.call rfl rfl rfl (by kernel_rfl) rfl (Next_spec b A c l k 9 I hl hx hk (by omega)) (Ent.refl _) ?_
  rintro v R' ⟨r, k', rfl, hr, hk', rfl⟩
  have hr9 : r = 0 ∨ r = 1 ∨ r = 2 ∨ r = 3 ∨ r = 4 ∨ r = 5 ∨ r = 6 ∨ r = 7 ∨ r = 8 := by omega
  rcases hr9 with rfl | rfl | rfl | rfl | rfl | rfl | rfl | rfl | rfl
  all_goals repeat' first
              | ((with_reducible refine Nx.is_wp ?_); first | refine Nx.wo ?_ | refine Nx.zp (fun hc => ?_) (fun hc => ?_))
              | (refine Nx.zo ?_; first | refine Nx.opr rfl rfl ?_ | refine Nx.indexAddr rfl rfl rfl rfl rfl (by decide) (by decide) rfl ?_ | refine Nx.so ?_ | refine Nx.sb (fun bx => ?_) | refine Nx.sa (fun A2 c2 => ?_))
              | refine Nx.za ?_ | refine Nx.zr (fun hc => ?_) (fun hc => ?_)
              | refine Nx.zq ?_ | refine Nx.zu (fun hc => ?_) (fun hc => ?_)
              | refine Nx.zx ?_ | fail
  all_goals refine Nx.blk_vec 0 0 1 rfl rfl (by omega) ?_
  all_goals first
    | (refine Nx.pull 11 rfl ?_; refine Nx.at_op rfl rfl ?_; refine Nx.append_lit 0 rfl rfl rfl rfl (by kernel_rfl) rfl rfl rfl rfl (by omega) (fun A2 c2 => ?_))
    | (refine Nx.pull 10 rfl ?_; refine Nx.at_op rfl rfl ?_; refine Nx.append_lit 0 rfl rfl rfl rfl (by kernel_rfl) rfl rfl rfl rfl (by omega) (fun A2 c2 => ?_))
    | (refine Nx.pull 9 rfl ?_; refine Nx.at_op rfl rfl ?_; refine Nx.append_lit 0 rfl rfl rfl rfl (by kernel_rfl) rfl rfl rfl rfl (by omega) (fun A2 c2 => ?_))
    | (refine Nx.pull 8 rfl ?_; refine Nx.at_op rfl rfl ?_; refine Nx.append_lit 0 rfl rfl rfl rfl (by kernel_rfl) rfl rfl rfl rfl (by omega) (fun A2 c2 => ?_))
    | (refine Nx.pull 7 rfl ?_; refine Nx.at_op rfl rfl ?_; refine Nx.append_lit 0 rfl rfl rfl rfl (by kernel_rfl) rfl rfl rfl rfl (by omega) (fun A2 c2 => ?_))
    | (refine Nx.pull 6 rfl ?_; refine Nx.at_op rfl rfl ?_; refine Nx.append_lit 0 rfl rfl rfl rfl (by kernel_rfl) rfl rfl rfl rfl (by omega) (fun A2 c2 => ?_))
    | (refine Nx.pull 5 rfl ?_; refine Nx.at_op rfl rfl ?_; refine Nx.append_lit 0 rfl rfl rfl rfl (by kernel_rfl) rfl rfl rfl rfl (by omega) (fun A2 c2 => ?_))
    | (refine Nx.pull 4 rfl ?_; refine Nx.at_op rfl rfl ?_; refine Nx.append_lit 0 rfl rfl rfl rfl (by kernel_rfl) rfl rfl rfl rfl (by omega) (fun A2 c2 => ?_))
    | (refine Nx.pull 3 rfl ?_; refine Nx.at_op rfl rfl ?_; refine Nx.append_lit 0 rfl rfl rfl rfl (by kernel_rfl) rfl rfl rfl rfl (by omega) (fun A2 c2 => ?_))
  all_goals refine Nx.pull 11 rfl ?_
  all_goals repeat' first
              | ((with_reducible refine Nx.is_wp ?_); first | refine Nx.wo ?_ | refine Nx.zp (fun hc => ?_) (fun hc => ?_))
              | (refine Nx.zo ?_; first | refine Nx.opr rfl rfl ?_ | refine Nx.so ?_ | refine Nx.sb (fun bx => ?_) | refine Nx.sa (fun A2 c2 => ?_))
              | refine Nx.za ?_ | refine Nx.zr (fun hc => ?_) (fun hc => ?_)
              | refine Nx.zq ?_ | refine Nx.zu (fun hc => ?_) (fun hc => ?_)
              | refine Nx.zx ?_ | fail
  all_goals first
    | (refine Nx.ret_cell 0 rfl rfl rfl rfl rfl rfl [Vec 3 1 _ (0 + 1) _ ([] ++ [.int .i64 2]), _] ⟨_, _, [2], k', rfl, ⟨by decide, by decide, by decide⟩, hk', rfl⟩ ?_; refine Ent.pick 1 rfl ?_)
    | (refine Nx.ret_cell 0 rfl rfl rfl rfl rfl rfl [Vec 3 1 _ (0 + 1) _ ([] ++ [.int .i64 3]), _] ⟨_, _, [3], k', rfl, ⟨by decide, by decide, by decide⟩, hk', rfl⟩ ?_; refine Ent.pick 1 rfl ?_)
    | (refine Nx.ret_cell 0 rfl rfl rfl rfl rfl rfl [Vec 3 1 _ (0 + 2) _ ([] ++ [.int .i64 2, .int .i64 2]), _] ⟨_, _, [2, 2], k', rfl, ⟨by decide, by decide, by decide⟩, hk', rfl⟩ ?_; refine Ent.pick 1 rfl ?_)
    | (refine Nx.ret_cell 0 rfl rfl rfl rfl rfl rfl [Vec 3 1 _ (0 + 2) _ ([] ++ [.int .i64 2, .int .i64 3]), _] ⟨_, _, [2, 3], k', rfl, ⟨by decide, by decide, by decide⟩, hk', rfl⟩ ?_; refine Ent.pick 1 rfl ?_)
    | (refine Nx.ret_cell 0 rfl rfl rfl rfl rfl rfl [Vec 3 1 _ (0 + 1) _ ([] ++ [.int .i64 4]), _] ⟨_, _, [4], k', rfl, ⟨by decide, by decide, by decide⟩, hk', rfl⟩ ?_; refine Ent.pick 1 rfl ?_)
    | (refine Nx.ret_cell 0 rfl rfl rfl rfl rfl rfl [Vec 3 1 _ (0 + 3) _ ([] ++ [.int .i64 2, .int .i64 2, .int .i64 2]), _] ⟨_, _, [2, 2, 2], k', rfl, ⟨by decide, by decide, by decide⟩, hk', rfl⟩ ?_; refine Ent.pick 1 rfl ?_)
    | (refine Nx.ret_cell 0 rfl rfl rfl rfl rfl rfl [Vec 3 1 _ (0 + 2) _ ([] ++ [.int .i64 3, .int .i64 2]), _] ⟨_, _, [3, 2], k', rfl, ⟨by decide, by decide, by decide⟩, hk', rfl⟩ ?_; refine Ent.pick 1 rfl ?_)
    | (refine Nx.ret_cell 0 rfl rfl rfl rfl rfl rfl [Vec 3 1 _ (0 + 1) _ ([] ++ [.int .i64 6]), _] ⟨_, _, [6], k', rfl, ⟨by decide, by decide, by decide⟩, hk', rfl⟩ ?_; refine Ent.pick 1 rfl ?_)
    | (refine Nx.ret_cell 0 rfl rfl rfl rfl rfl rfl [Vec 3 1 _ (0 + 2) _ ([] ++ [.int .i64 1, .int .i64 3]), _] ⟨_, _, [1, 3], k', rfl, ⟨by decide, by decide, by decide⟩, hk', rfl⟩ ?_; refine Ent.pick 1 rfl ?_)
  all_goals (exact Ent.auto)
end Go.Proofs.YtpmlehplbobjmaaDoor
/- Contracts of functions of the given program, and lemmas about plain lists and numbers: what the laws of this seat lean on. -/
namespace Go.Proofs.YtpmlehplbobjmaaDoor
open Go.Eng
attribute [local irreducible] opK wpList Code.wp Exit.then Exit.inBlock fnPost bodyPost Nx Calls Oper.wp Rd Rds Wr Ent Stars Blk Again Vec FnSpec wpMix QRun Stop Upto wpAt
/-! Views: the groups of one dimension -/
def numb : List Int → Int → Option Int
  | [], nx => some nx
  | g :: r, nx => if g < -1 ∨ nx < g then none else numb r (if g = nx then nx + 1 else nx)
def numbB (l : List Int) : Bool := match numb l 0 with
  | some n => decide (0 < n)
  | none => false
theorem drop_at {l : List Int} {k : Nat} (hk : k < l.length) : l.drop k = l.getD k default :: l.drop (k + 1) := by
  rw [List.drop_eq_getElem_cons hk]
  simp [List.getD_eq_getElem?_getD, List.getElem?_eq_getElem hk]
set_option maxHeartbeats 2000000 in
set_option maxRecDepth 10000 in
theorem numbered_spec (A : Option Addr) (c : Nat) (l : List Int) (I : PH) (hl : Ints I A c l) :
    FnSpec Tryd.prog 47 [.slice A l.length c] I [] (fun v R' => v = .bool (numbB l) ∧ R' = []) := by
  have hlen := hl.len
  refine FnSpec.enterP Tryd.func47 rfl Tryd.ntmps47 rfl fun w F => ?_
  repeat' first
    | ((with_reducible refine Nx.is_wp ?_); first | refine Nx.wo ?_ | refine Nx.zp (fun hc => ?_) (fun hc => ?_))
    | (refine Nx.zo ?_; first | refine Nx.opr rfl rfl ?_ | refine Nx.so ?_ | refine Nx.sb (fun bx => ?_) | refine Nx.sa (fun A2 c2 => ?_))
    | refine Nx.za ?_ | refine Nx.zr (fun hc => ?_) (fun hc => ?_)
    | refine Nx.zq ?_ | refine Nx.zu (fun hc => ?_) (fun hc => ?_)
    | refine Nx.zx ?_ | fail
  refine Nx.p_loop (σ := Nat × Int) (fun s => [(6, .slice A l.length c), (7, .int .i64 l.length), (8, .int .i64 (s.1 : Int)), (3, .int .i64 s.2)])
    (fun _ => [F]) (fun s => s.1 ≤ l.length ∧ 0 ≤ s.2 ∧ s.2 ≤ s.1 ∧ numb l 0 = numb (l.drop s.1) s.2) (fun s => l.length - s.1) (0, 0) rfl ⟨Nat.zero_le _, by decide, by simp, rfl⟩ ⟨rfl, rfl, rfl, rfl, trivial⟩ (Ent.refl _) ?_
  rintro ⟨k, nx⟩ ⟨hk, h0, h1, he⟩
  dsimp only at hk h0 h1 he ⊢
  have hd : k < l.length → numb l 0 = if l.getD k default < -1 ∨ nx < l.getD k default then none else numb (l.drop (k + 1)) (if l.getD k default = nx then nx + 1 else nx) := fun h => by rw [he, drop_at h]; rfl
  repeat' first
    | ((with_reducible refine Nx.is_wp ?_); first | refine Nx.wo ?_ | refine Nx.zp (fun hc => ?_) (fun hc => ?_))
    | (refine Nx.zo ?_; first | refine Nx.opr rfl rfl ?_ | refine Nx.indexAddr_nat rfl rfl rfl rfl rfl (by omega) (hl.isSome (by omega)) ?_ | refine Nx.load rfl rfl rfl (hl.rd (by omega)) ?_ | refine Nx.so ?_ | refine Nx.sb (fun bx => ?_) | refine Nx.sa (fun A2 c2 => ?_))
    | refine Nx.za ?_ | refine Nx.zr (fun hc => ?_) (fun hc => ?_)
    | refine Nx.zq ?_ | refine Nx.zu (fun hc => ?_) (fun hc => ?_)
    | refine Nx.zx ?_ | fail
  · refine Nx.ret_fn rfl [] ⟨?_, rfl⟩ (Ent.refl _)
    rw [numbB, hd (by omega), if_pos (.inl hc)]
  · refine Nx.ret_fn rfl [] ⟨?_, rfl⟩ (Ent.refl _)
    rw [numbB, hd (by omega), if_pos (.inr hc)]
  · refine Nx.again (k + 1, nx + 1) ⟨by dsimp only; omega, by dsimp only; omega, by dsimp only; omega, ?_⟩ (by dsimp only; omega) ⟨rfl, rfl, rfl, rfl, trivial⟩ (Ent.refl _)
    dsimp only
    rw [hd (by omega), if_neg (by omega), if_pos hc]
  · refine Nx.again (k + 1, nx) ⟨by dsimp only; omega, by dsimp only; omega, by dsimp only; omega, ?_⟩ (by dsimp only; omega) ⟨rfl, rfl, rfl, rfl, trivial⟩ (Ent.refl _)
    dsimp only
    rw [hd (by omega), if_neg (by omega), if_neg hc]
  · refine Nx.ret_fn rfl [] ⟨?_, rfl⟩ (Ent.refl _)
    rw [numbB, he, List.drop_eq_nil_of_le (by omega)]
    rfl
end Go.Proofs.YtpmlehplbobjmaaDoor
/- Contracts of functions of the given program, and lemmas about plain lists and numbers: what the laws of this seat lean on. -/
namespace Go.Proofs.YtpmlehplbobjmaaDoor
open Go.Eng
attribute [local irreducible] opK wpList Code.wp Exit.then Exit.inBlock fnPost bodyPost Nx Calls Oper.wp Rd Rds Wr Ent Stars Blk Again Vec FnSpec wpMix QRun Stop Upto wpAt
def maxL (l : List Int) : Nat → Int
  | 0 => l.getD 0 default
  | k + 1 => max (maxL l k) (l.getD (k + 1) default)
set_option maxHeartbeats 2000000 in
set_option maxRecDepth 10000 in
theorem Max_spec (A : Option Addr) (c : Nat) (l : List Int) (I : PH) (hl : Ints I A c l) (h1 : 1 ≤ l.length) :
    FnSpec Tryd.prog 49 [.slice A l.length c] I [] (fun v R' => v = .int .i64 (maxL l (l.length - 1)) ∧ R' = []) := by
  have hlen := hl.len
  refine FnSpec.enterP Tryd.func49 rfl Tryd.ntmps49 rfl fun w F => ?_
  repeat' first
    | ((with_reducible refine Nx.is_wp ?_); first | refine Nx.wo ?_ | refine Nx.zp (fun hc => ?_) (fun hc => ?_))
    | (refine Nx.zo ?_; first | refine Nx.opr rfl rfl ?_ | refine Nx.indexAddr rfl rfl rfl rfl rfl (by omega) (by omega) (hl.isSome (by omega)) ?_ | refine Nx.load rfl rfl rfl (hl.rd (by omega)) ?_ | refine Nx.so ?_ | refine Nx.sb (fun bx => ?_) | refine Nx.sa (fun A2 c2 => ?_))
    | refine Nx.za ?_ | refine Nx.zr (fun hc => ?_) (fun hc => ?_)
    | refine Nx.zq ?_ | refine Nx.zu (fun hc => ?_) (fun hc => ?_)
    | refine Nx.zx ?_ | fail
  refine Nx.p_loop (σ := Nat) (fun k => [(0, .slice A l.length c), (4, .int .i64 ((k + 1 : Nat) : Int)), (3, .int .i64 (maxL l k))])
    (fun _ => [F]) (fun k => k + 1 ≤ l.length) (fun k => l.length - k) 0 rfl h1 ⟨rfl, rfl, rfl, trivial⟩ (Ent.refl _) ?_
  intro k hk
  repeat' first
    | ((with_reducible refine Nx.is_wp ?_); first | refine Nx.wo ?_ | refine Nx.zp (fun hc => ?_) (fun hc => ?_))
    | (refine Nx.zo ?_; first | refine Nx.opr rfl rfl ?_ | refine Nx.indexAddr_nat rfl rfl rfl rfl rfl (by omega) (hl.isSome (by omega)) ?_ | refine Nx.load rfl rfl rfl (hl.rd (by omega)) ?_ | refine Nx.so ?_ | refine Nx.sb (fun bx => ?_) | refine Nx.sa (fun A2 c2 => ?_))
    | refine Nx.za ?_ | refine Nx.zr (fun hc => ?_) (fun hc => ?_)
    | refine Nx.zq ?_ | refine Nx.zu (fun hc => ?_) (fun hc => ?_)
    | refine Nx.zx ?_ | fail
  · exact Nx.again (k + 1) (by omega) (by omega) ⟨rfl, rfl, rfl, trivial⟩ (Ent.refl _)
  · exact Nx.ret_fn rfl [] ⟨by rw [show l.length - 1 = k by omega], rfl⟩ (Ent.refl _)
end Go.Proofs.YtpmlehplbobjmaaDoor
/- Contracts of functions of the given program, and lemmas about plain lists and numbers: what the laws of this seat lean on. -/
namespace Go.Proofs.YtpmlehplbobjmaaDoor
open Go.Eng
attribute [local irreducible] opK wpList Code.wp Exit.then Exit.inBlock fnPost bodyPost Nx Calls Oper.wp Rd Rds Wr Ent Stars Blk Again Vec FnSpec wpMix QRun Stop Upto wpAt
theorem take_has {l : List Int} {k : Nat} {z : Int} (hk : k < l.length) (h : (l.take k).contains z = false) (hne : ¬z = l.getD k default) : (l.take (k + 1)).contains z = false := by
  rw [List.take_succ_eq_append_getElem hk]
  have e : l[k]'hk = l.getD k default := by rw [List.getD_eq_getElem?_getD, List.getElem?_eq_getElem hk]; rfl
  simp only [List.contains_eq_mem, List.mem_append, List.mem_singleton, decide_eq_false_iff_not] at *
  rw [e]
  exact fun h' => h'.elim h hne
theorem getD_has {l : List Int} {k : Nat} {z : Int} (hk : k < l.length) (h : z = l.getD k default) : l.contains z = true := by
  rw [List.contains_eq_mem, h, List.getD_eq_getElem?_getD, List.getElem?_eq_getElem hk]
  exact decide_eq_true (List.getElem_mem _)
set_option maxHeartbeats 2000000 in
set_option maxRecDepth 10000 in
theorem Index_int_spec (A : Option Addr) (c : Nat) (l : List Int) (z : Int) (I : PH) (hl : Ints I A c l) :
    FnSpec Tryd.prog 54 [.slice A l.length c, .int .i64 z] I [] (fun v R' => ∃ i : Int, v = .int .i64 i ∧ decide (0 ≤ i) = l.contains z ∧ R' = []) := by
  have hlen := hl.len
  refine FnSpec.enterP Tryd.func54 rfl Tryd.ntmps54 rfl fun w F => ?_
  repeat' first
    | ((with_reducible refine Nx.is_wp ?_); first | refine Nx.wo ?_ | refine Nx.zp (fun hc => ?_) (fun hc => ?_))
    | (refine Nx.zo ?_; first | refine Nx.opr rfl rfl ?_ | refine Nx.so ?_ | refine Nx.sb (fun bx => ?_) | refine Nx.sa (fun A2 c2 => ?_))
    | refine Nx.za ?_ | refine Nx.zr (fun hc => ?_) (fun hc => ?_)
    | refine Nx.zq ?_ | refine Nx.zu (fun hc => ?_) (fun hc => ?_)
    | refine Nx.zx ?_ | fail
  refine Nx.p_loop (σ := Nat) (fun k => [(0, .slice A l.length c), (1, .int .i64 z), (7, .int .i64 l.length), (8, .int .i64 (k : Int))])
    (fun _ => [F]) (fun k => k ≤ l.length ∧ (l.take k).contains z = false) (fun k => l.length - k) 0 rfl ⟨Nat.zero_le _, rfl⟩ ⟨rfl, rfl, rfl, rfl, trivial⟩ (Ent.refl _) ?_
  rintro k ⟨hk, hnone⟩
  repeat' first
    | ((with_reducible refine Nx.is_wp ?_); first | refine Nx.wo ?_ | refine Nx.zp (fun hc => ?_) (fun hc => ?_))
    | (refine Nx.zo ?_; first | refine Nx.opr rfl rfl ?_ | refine Nx.indexAddr_nat rfl rfl rfl rfl rfl (by omega) (hl.isSome (by omega)) ?_ | refine Nx.load rfl rfl rfl (hl.rd (by omega)) ?_ | refine Nx.so ?_ | refine Nx.sb (fun bx => ?_) | refine Nx.sa (fun A2 c2 => ?_))
    | refine Nx.za ?_ | refine Nx.zr (fun hc => ?_) (fun hc => ?_)
    | refine Nx.zq ?_ | refine Nx.zu (fun hc => ?_) (fun hc => ?_)
    | refine Nx.zx ?_ | fail
  · exact Nx.ret_fn rfl [] ⟨_, rfl, by rw [getD_has (by omega) hc]; simp, rfl⟩ (Ent.refl _)
  · exact Nx.again (k + 1) ⟨by omega, take_has (by omega) hnone hc⟩ (by omega) ⟨rfl, rfl, rfl, rfl, trivial⟩ (Ent.refl _)
  · rw [List.take_of_length_le (by omega)] at hnone
    exact Nx.ret_fn rfl [] ⟨_, rfl, by rw [hnone]; rfl, rfl⟩ (Ent.refl _)
set_option maxHeartbeats 2000000 in
set_option maxRecDepth 10000 in
theorem Contains_spec (A : Option Addr) (c : Nat) (l : List Int) (z : Int) (I : PH) (hl : Ints I A c l) :
    FnSpec Tryd.prog 50 [.slice A l.length c, .int .i64 z] I [] (fun v R' => v = .bool (l.contains z) ∧ R' = []) := by
  refine FnSpec.enterP Tryd.func50 rfl Tryd.ntmps50 rfl fun w F => ?_
  repeat' first
    | ((with_reducible refine Nx.is_wp ?_); first | refine Nx.wo ?_ | refine Nx.zp (fun hc => ?_) (fun hc => ?_))
    | (refine Nx.zo ?_; first | refine Nx.opr rfl rfl ?_ | refine Nx.so ?_ | refine Nx.sb (fun bx => ?_) | refine Nx.sa (fun A2 c2 => ?_))
    | refine Nx.za ?_ | refine Nx.zr (fun hc => ?_) (fun hc => ?_)
    | refine Nx.zq ?_ | refine Nx.zu (fun hc => ?_) (fun hc => ?_)
    | refine Nx.zx ?_ | fail
  refine Nx.at_op rfl rfl ?_
  refine Nx.call rfl rfl rfl (by kernel_rfl) rfl (Index_int_spec A c l z I hl) (Ent.refl _) ?_
  rintro v R' ⟨i, rfl, hi, rfl⟩
  repeat' first
    | ((with_reducible refine Nx.is_wp ?_); first | refine Nx.wo ?_ | refine Nx.zp (fun hc => ?_) (fun hc => ?_))
    | (refine Nx.zo ?_; first | refine Nx.opr rfl rfl ?_ | refine Nx.so ?_ | refine Nx.sb (fun bx => ?_) | refine Nx.sa (fun A2 c2 => ?_))
    | refine Nx.za ?_ | refine Nx.zr (fun hc => ?_) (fun hc => ?_)
    | refine Nx.zq ?_ | refine Nx.zu (fun hc => ?_) (fun hc => ?_)
    | refine Nx.zx ?_ | fail
  exact Nx.ret_fn rfl [] ⟨by rw [← hi], rfl⟩ (Ent.refl _)
end Go.Proofs.YtpmlehplbobjmaaDoor
/- Contracts of functions of the given program, and lemmas about plain lists and numbers: what the laws of this seat lean on. -/
namespace Go.Proofs.YtpmlehplbobjmaaDoor
open Go.Eng
attribute [local irreducible] opK wpList Code.wp Exit.then Exit.inBlock fnPost bodyPost Nx Calls Oper.wp Rd Rds Wr Ent Stars Blk Again Vec FnSpec wpMix QRun Stop Upto wpAt
set_option maxHeartbeats 2000000 in
set_option maxRecDepth 10000 in
theorem Ints_spec (A B : Option Addr) (cp cq : Nat) (l r : List Int) (I : PH) (hl : Ints I A cp l) (hr : Ints I B cq r) :
    FnSpec Tryd.prog 15 [.slice A l.length cp, .slice B r.length cq] I [] (fun v R' => v = .bool (decide (l = r)) ∧ R' = []) := by
  refine FnSpec.enterP Tryd.func15 rfl Tryd.ntmps15 rfl fun w F => ?_
  have h1 := hl.len
  repeat' first
    | ((with_reducible refine Nx.is_wp ?_); first | refine Nx.wo ?_ | refine Nx.zp (fun hc => ?_) (fun hc => ?_))
    | (refine Nx.zo ?_; first | refine Nx.opr rfl rfl ?_ | refine Nx.so ?_ | refine Nx.sb (fun bx => ?_) | refine Nx.sa (fun A2 c2 => ?_))
    | refine Nx.za ?_ | refine Nx.zr (fun hc => ?_) (fun hc => ?_)
    | refine Nx.zq ?_ | refine Nx.zu (fun hc => ?_) (fun hc => ?_)
    | refine Nx.zx ?_ | fail
  · exact Nx.ret_fn rfl [] ⟨by rw [decide_eq_false]; intro h; rw [h] at hc; exact hc rfl, rfl⟩ (Ent.refl _)
  have hlen : l.length = r.length := by omega
  refine Nx.p_loop (σ := Nat) (fun k => [(0, .slice A l.length cp), (1, .slice B r.length cq), (12, .int .i64 l.length), (13, .int .i64 (k : Int))])
    (fun _ => [F]) (fun k => k ≤ l.length ∧ l.take k = r.take k) (fun k => l.length - k) 0 rfl ⟨Nat.zero_le _, rfl⟩ ⟨rfl, rfl, rfl, rfl, trivial⟩ (Ent.refl _) ?_
  rintro k ⟨hk, hsame⟩
  repeat' first
    | ((with_reducible refine Nx.is_wp ?_); first | refine Nx.wo ?_ | refine Nx.p_draw (id := 6) rfl [0, 1, 2, 3, 4, 5, 6, 7, 8] [] _ rfl rfl (by kernel_rfl) (by kernel_rfl) rfl PanicOk.auto (Ent.refl _) ?_ | refine Nx.zp (fun hc => ?_) (fun hc => ?_))
    | (refine Nx.zo ?_; first | refine Nx.opr rfl rfl ?_ | refine Nx.so ?_ | refine Nx.sb (fun bx => ?_) | refine Nx.sa (fun A2 c2 => ?_))
    | refine Nx.za ?_ | refine Nx.zr (fun hc => ?_) (fun hc => ?_)
    | ((with_reducible refine Nx.is_mix ?_); first | refine Nx.m_quiet rfl rfl rfl rfl rfl (by first | exact QRun.opr rfl | exact QRun.idx rfl rfl rfl rfl (by omega) (hl.isSome (by omega)) | exact QRun.idx rfl rfl rfl rfl (by omega) (hr.isSome (by omega)) | exact QRun.load rfl rfl (hl.rd (by omega)) | exact QRun.load rfl rfl (hr.rd (by omega))) ?_ | refine Nx.m_quiet_do rfl rfl rfl rfl rfl rfl rfl (by first | exact QRun.opr rfl | exact QRun.idx rfl rfl rfl rfl (by omega) (hl.isSome (by omega)) | exact QRun.idx rfl rfl rfl rfl (by omega) (hr.isSome (by omega)) | exact QRun.load rfl rfl (hl.rd (by omega)) | exact QRun.load rfl rfl (hr.rd (by omega))) ?_ | refine Nx.m ?_ | refine Nx.zm ?_ | refine Nx.zt (fun hc => ?_) (fun hc => ?_))
    | refine Nx.zx ?_ | fail
  · refine Nx.ret_fn rfl [] ⟨by rw [decide_eq_false]; intro h; exact hc (by rw [h]), rfl⟩ (Ent.refl _)
  · refine Nx.again (k + 1) ⟨by omega, ?_⟩ (by omega) ⟨rfl, rfl, rfl, rfl, trivial⟩ (Ent.refl _)
    have e : l.getD k default = r.getD k default := Decidable.not_not.1 hc
    rw [List.take_succ_eq_append_getElem (by omega), List.take_succ_eq_append_getElem (by omega), hsame]
    rw [List.getD_eq_getElem?_getD, List.getD_eq_getElem?_getD, List.getElem?_eq_getElem (by omega), List.getElem?_eq_getElem (by omega)] at e
    rw [show l[k]'(by omega) = r[k]'(by omega) from e]
  · obtain rfl : k = l.length := by omega
    rw [List.take_length, hlen, List.take_length] at hsame
    exact Nx.ret_fn rfl [] ⟨by rw [decide_eq_true hsame], rfl⟩ (Ent.refl _)
end Go.Proofs.YtpmlehplbobjmaaDoor
/- Contracts of functions of the given program, and lemmas about plain lists and numbers: what the laws of this seat lean on. -/
namespace Go.Proofs.YtpmlehplbobjmaaDoor
open Go.Eng
attribute [local irreducible] opK wpList Code.wp Exit.then Exit.inBlock fnPost bodyPost Nx Calls Oper.wp Rd Rds Wr Ent Stars Blk Again Vec FnSpec wpMix QRun Stop Upto wpAt
/-! slices.IndexFunc, slices.ContainsFunc over a predicate that only computes -/
set_option maxHeartbeats 2000000 in
set_option maxRecDepth 10000 in
theorem IndexFunc_spec (f : FuncId) (p : Int → Bool) (A : Option Addr) (cp : Nat) (l : List Int) (I : PH) (hl : Ints I A cp l) (hcall : callable Tryd.prog f = true)
    (hp : ∀ x, FnSpec Tryd.prog f [.int .i64 x] I [] (fun v R' => v = .bool (p x) ∧ R' = [])) :
    FnSpec Tryd.prog 48 [.slice A l.length cp, .func (.func f) #[] #[]] I []
      (fun v R' => ∃ i : Int, v = .int .i64 i ∧ (decide (0 ≤ i) = l.any p) ∧ R' = []) := by
  refine FnSpec.enterP Tryd.func48 rfl Tryd.ntmps48 rfl fun w F => ?_
  repeat' first
    | ((with_reducible refine Nx.is_wp ?_); first | refine Nx.wo ?_ | refine Nx.zp (fun hc => ?_) (fun hc => ?_))
    | (refine Nx.zo ?_; first | refine Nx.opr rfl rfl ?_ | refine Nx.so ?_ | refine Nx.sb (fun bx => ?_) | refine Nx.sa (fun A2 c2 => ?_))
    | refine Nx.za ?_ | refine Nx.zr (fun hc => ?_) (fun hc => ?_)
    | refine Nx.zq ?_ | refine Nx.zu (fun hc => ?_) (fun hc => ?_)
    | refine Nx.zx ?_ | fail
  have hlen := hl.len
  refine Nx.p_loop (σ := Nat) (fun k => [(0, .slice A l.length cp), (1, .func (.func f) #[] #[]), (7, .int .i64 l.length), (8, .int .i64 (k : Int))])
    (fun _ => [F]) (fun k => k ≤ l.length ∧ (l.take k).any p = false) (fun k => l.length - k) 0 rfl ⟨Nat.zero_le _, by simp⟩ ⟨rfl, rfl, rfl, rfl, trivial⟩ (Ent.refl _) ?_
  rintro k ⟨hk, hnone⟩
  repeat' first
    | ((with_reducible refine Nx.is_wp ?_); first | refine Nx.wo ?_ | refine Nx.zp (fun hc => ?_) (fun hc => ?_))
    | (refine Nx.zo ?_; first | refine Nx.opr rfl rfl ?_ | refine Nx.indexAddr_nat rfl rfl rfl rfl rfl (by omega) (hl.isSome (by omega)) ?_ | refine Nx.load rfl rfl rfl (hl.rd (by omega)) ?_ | refine Nx.callv rfl rfl rfl hcall rfl (hp _) ?_ | refine Nx.so ?_ | refine Nx.sb (fun bx => ?_) | refine Nx.sa (fun A2 c2 => ?_))
    | refine Nx.za ?_ | refine Nx.zr (fun hc => ?_) (fun hc => ?_)
    | refine Nx.zq ?_ | refine Nx.zu (fun hc => ?_) (fun hc => ?_)
    | refine Nx.zx ?_ | fail
  · refine Nx.ret_fn rfl [] ⟨_, rfl, ?_, rfl⟩ (Ent.refl _)
    rw [show decide ((0 : Int) ≤ k) = true by simp, Eq.comm, List.any_eq_true]
    exact ⟨l.getD k default, by rw [List.getD_eq_getElem?_getD, List.getElem?_eq_getElem (by omega)]; exact List.getElem_mem _, hc⟩
  · refine Nx.again (k + 1) ⟨by omega, ?_⟩ (by omega) ⟨rfl, rfl, rfl, rfl, trivial⟩ (Ent.refl _)
    rw [List.take_succ_eq_append_getElem (by omega), List.any_append, hnone]
    have : l[k]'(by omega) = l.getD k default := by rw [List.getD_eq_getElem?_getD, List.getElem?_eq_getElem (by omega)]; rfl
    simp only [this, List.any_cons, List.any_nil, hc, Bool.or_self]
  · obtain rfl : k = l.length := by omega
    refine Nx.ret_fn rfl [] ⟨_, rfl, ?_, rfl⟩ (Ent.refl _)
    rw [List.take_length] at hnone
    rw [hnone]; rfl
set_option maxHeartbeats 2000000 in
set_option maxRecDepth 10000 in
theorem ContainsFunc_spec (f : FuncId) (p : Int → Bool) (A : Option Addr) (cp : Nat) (l : List Int) (I : PH) (hl : Ints I A cp l) (hcall : callable Tryd.prog f = true)
    (hp : ∀ x, FnSpec Tryd.prog f [.int .i64 x] I [] (fun v R' => v = .bool (p x) ∧ R' = [])) :
    FnSpec Tryd.prog 30 [.slice A l.length cp, .func (.func f) #[] #[]] I []
      (fun v R' => v = .bool (l.any p) ∧ R' = []) := by
  refine FnSpec.enterP Tryd.func30 rfl Tryd.ntmps30 rfl fun w F => ?_
  repeat' first
    | ((with_reducible refine Nx.is_wp ?_); first | refine Nx.wo ?_ | refine Nx.zp (fun hc => ?_) (fun hc => ?_))
    | (refine Nx.zo ?_; first | refine Nx.opr rfl rfl ?_ | refine Nx.so ?_ | refine Nx.sb (fun bx => ?_) | refine Nx.sa (fun A2 c2 => ?_))
    | refine Nx.za ?_ | refine Nx.zr (fun hc => ?_) (fun hc => ?_)
    | refine Nx.zq ?_ | refine Nx.zu (fun hc => ?_) (fun hc => ?_)
    | refine Nx.zx ?_ | fail
  refine Nx.at_op rfl rfl ?_
  refine Nx.call rfl rfl rfl (by kernel_rfl) rfl (IndexFunc_spec f p A cp l I hl hcall hp) (Ent.refl _) ?_
  rintro v R' ⟨i, rfl, hi, rfl⟩
  repeat' first
    | ((with_reducible refine Nx.is_wp ?_); first | refine Nx.wo ?_ | refine Nx.zp (fun hc => ?_) (fun hc => ?_))
    | (refine Nx.zo ?_; first | refine Nx.opr rfl rfl ?_ | refine Nx.so ?_ | refine Nx.sb (fun bx => ?_) | refine Nx.sa (fun A2 c2 => ?_))
    | refine Nx.za ?_ | refine Nx.zr (fun hc => ?_) (fun hc => ?_)
    | refine Nx.zq ?_ | refine Nx.zu (fun hc => ?_) (fun hc => ?_)
    | refine Nx.zx ?_ | fail
  exact Nx.ret_fn rfl [] ⟨by rw [← hi], rfl⟩ (Ent.refl _)
def outB (x : Int) : Bool := decide (x < 0 ∨ 1000000 < x)
set_option maxHeartbeats 2000000 in
set_option maxRecDepth 10000 in
theorem outB_spec (x : Int) (I : PH) : FnSpec Tryd.prog 31 [.int .i64 x] I [] (fun v R' => v = .bool (outB x) ∧ R' = []) := by
  refine FnSpec.enterP Tryd.func31 rfl Tryd.ntmps31 rfl fun w F => ?_
  repeat' first
    | ((with_reducible refine Nx.is_wp ?_); first | refine Nx.w ?_ | refine Nx.zp (fun hc => ?_) (fun hc => ?_))
    | (refine Nx.zo ?_; first | refine Nx.opr rfl rfl ?_ | refine Nx.so ?_ | refine Nx.sb (fun bx => ?_) | refine Nx.sa (fun A2 c2 => ?_))
    | ((with_reducible refine Nx.is_at ?_); first | refine Nx.a ?_ | ((fail_if_success refine Nx.at_do rfl rfl rfl rfl ?_); first | refine Nx.at_split rfl rfl rfl rfl (fun hc => ?_) (fun hc => ?_) | refine Nx.at_splitb rfl rfl rfl rfl (fun hc => ?_) (fun hc => ?_)))
    | ((with_reducible refine Nx.is_mix ?_); first | refine Nx.m ?_ | ((fail_if_success refine Nx.m_quiet_do rfl rfl rfl rfl rfl rfl rfl ?_ ?_); (fail_if_success refine Nx.m_loud_do rfl rfl rfl rfl rfl ?_); first | refine Nx.m_split rfl rfl rfl rfl (fun hc => ?_) (fun hc => ?_) | refine Nx.m_splitb rfl rfl rfl rfl (fun hc => ?_) (fun hc => ?_)))
    | refine Nx.zx ?_ | fail
  all_goals exact Nx.ret_fn rfl [] ⟨by unfold outB; congr 1; simp; omega, rfl⟩ (Ent.refl _)
end Go.Proofs.YtpmlehplbobjmaaDoor
/- Contracts of functions of the given program, and lemmas about plain lists and numbers: what the laws of this seat lean on. -/
namespace Go.Proofs.YtpmlehplbobjmaaDoor
open Go.Eng
attribute [local irreducible] opK wpList Code.wp Exit.then Exit.inBlock fnPost bodyPost Nx Calls Oper.wp Rd Rds Wr Ent Stars Blk Again Vec FnSpec wpMix QRun Stop Upto wpAt
/-! Views: a list of lists that lies in memory -/
abbrev Row := Option Addr × Nat × List Int
def rowV (r : Row) : Value := .slice r.1 r.2.2.length r.2.1
structure RowsOf (I : PH) (A : Option Addr) (c : Nat) (v : List Row) : Prop where
  outer : SliceOf rowV I A c v
  inner : ∀ r ∈ v, Ints I r.1 r.2.1 r.2.2
theorem RowsOf.at {I : PH} {A : Option Addr} {c : Nat} {v : List Row} (h : RowsOf I A c v) {k : Nat} (hk : k < v.length) : Ints I (v.getD k default).1 (v.getD k default).2.1 (v.getD k default).2.2 :=
  h.inner _ (by rw [List.getD_eq_getElem?_getD, List.getElem?_eq_getElem hk]; exact List.getElem_mem _)
structure Viewed (l : List Int) (v : List Row) : Prop where
  len : v.length = l.length
  each : ∀ k, k < l.length → ((v.getD k default).2.2.length : Int) = l.getD k default ∧ numbB (v.getD k default).2.2 = true
set_option maxHeartbeats 2000000 in
set_option maxRecDepth 10000 in
theorem View_spec (A B : Option Addr) (c cv : Nat) (l : List Int) (v : List Row) (I : PH) (hl : Ints I A c l) (hs : Sizes l) (hv : RowsOf I B cv v) (hw : Viewed l v) :
    FnSpec Tryd.prog 28 [.agg #[.slice A l.length c], .agg #[.slice B v.length cv]] I [] (fun v R' => v = .int .i64 0 ∧ R' = []) := by
  have hlen := hl.len
  have hvl := hw.len
  refine FnSpec.enterP Tryd.func28 rfl Tryd.ntmps28 rfl fun w F => ?_
  repeat' first
    | ((with_reducible refine Nx.is_wp ?_); first | refine Nx.wo ?_ | refine Nx.zp (fun hc => ?_) (fun hc => ?_))
    | (refine Nx.zo ?_; first | refine Nx.opr rfl rfl ?_ | refine Nx.callv rfl rfl rfl (by kernel_rfl) rfl (Check_spec _ _ _ _ hl hs) ?_ | refine Nx.so ?_ | refine Nx.sb (fun bx => ?_) | refine Nx.sa (fun A2 c2 => ?_))
    | refine Nx.za ?_ | refine Nx.zr (fun hc => ?_) (fun hc => ?_)
    | refine Nx.zq ?_ | refine Nx.zu (fun hc => ?_) (fun hc => ?_)
    | refine Nx.zx ?_ | fail
  rename_i b2
  refine Nx.p_loop (σ := Nat) (fun k => [(2, .pointer (some ⟨b2, 0, none⟩)), (21, .slice B v.length cv), (22, .int .i64 v.length), (23, .int .i64 (k : Int))])
    (fun _ => [Blk b2 27 [.slice A l.length c], F]) (fun k => k ≤ v.length) (fun k => v.length - k) 0 rfl (Nat.zero_le _) ⟨rfl, rfl, rfl, rfl, trivial⟩ (by (exact Ent.auto)) ?_
  intro k hk
  have he := hw.each k
  repeat' first
    | ((with_reducible refine Nx.is_wp ?_); first | refine Nx.wo ?_ | refine Nx.zp (fun hc => ?_) (fun hc => ?_))
    | (refine Nx.zo ?_; first | refine Nx.opr rfl rfl ?_ | refine Nx.indexAddr_nat rfl rfl rfl rfl rfl (by omega) (hv.outer.isSome (by omega)) ?_ | refine Nx.indexAddr_nat rfl rfl rfl rfl rfl (by omega) (hl.isSome (by omega)) ?_ | refine Nx.load rfl rfl rfl (hl.rd (by omega)) ?_ | refine Nx.load rfl rfl rfl (hv.outer.rd (by omega)) ?_ | refine Nx.callv rfl rfl rfl (by kernel_rfl) rfl (numbered_spec _ _ _ _ (hv.at (by omega))) ?_ | refine Nx.so ?_ | refine Nx.sb (fun bx => ?_) | refine Nx.sa (fun A2 c2 => ?_))
    | refine Nx.za ?_ | refine Nx.zr (fun hc => ?_) (fun hc => ?_)
    | refine Nx.zq ?_ | refine Nx.zu (fun hc => ?_) (fun hc => ?_)
    | refine Nx.zx ?_ | fail
  · exact absurd hc (by rw [(he (by omega)).2]; decide)
  · exact Nx.again (k + 1) (by omega) (by omega) ⟨rfl, rfl, rfl, rfl, trivial⟩ (by (exact Ent.auto))
  · exact Nx.ret_fn rfl [] ⟨rfl, rfl⟩ (by (exact Ent.auto))
end Go.Proofs.YtpmlehplbobjmaaDoor
/- Contracts of functions of the given program, and lemmas about plain lists and numbers: what the laws of this seat lean on. -/
namespace Go.Proofs.YtpmlehplbobjmaaDoor
open Go.Eng
attribute [local irreducible] opK wpList Code.wp Exit.then Exit.inBlock fnPost bodyPost Nx Calls Oper.wp Rd Rds Wr Ent Stars Blk Again Vec FnSpec wpMix QRun Stop Upto wpAt
def szs (v : List Row) : List Int := v.map fun r => 1 + maxL r.2.2 (r.2.2.length - 1)
theorem szs_succ (v : List Row) (k : Nat) (hk : k < v.length) : szs (v.take (k + 1)) = szs (v.take k) ++ [1 + maxL (v.getD k default).2.2 ((v.getD k default).2.2.length - 1)] := by
  unfold szs
  rw [List.take_succ_eq_append_getElem hk, List.map_append]
  simp [List.getD_eq_getElem?_getD, List.getElem?_eq_getElem hk]
set_option maxHeartbeats 2000000 in
set_option maxRecDepth 10000 in
theorem sizes_spec (B : Option Addr) (cv : Nat) (v : List Row) (I : PH) (hv : RowsOf I B cv v) (h4 : v.length ≤ 4) (h1 : ∀ k, k < v.length → 1 ≤ (v.getD k default).2.2.length ∧ -8 ≤ maxL (v.getD k default).2.2 ((v.getD k default).2.2.length - 1) ∧ maxL (v.getD k default).2.2 ((v.getD k default).2.2.length - 1) ≤ 8) :
    FnSpec Tryd.prog 32 [.agg #[.slice B v.length cv]] I [] (fun u R' => ∃ A' c', u = .slice A' (szs v).length c' ∧ R' = [Vec 3 1 A' (szs v).length c' ((szs v).map (Value.int .i64))]) := by
  refine FnSpec.enterP Tryd.func32 rfl Tryd.ntmps32 rfl fun w F => ?_
  repeat' first
    | ((with_reducible refine Nx.is_wp ?_); first | refine Nx.wo ?_ | refine Nx.zp (fun hc => ?_) (fun hc => ?_))
    | (refine Nx.zo ?_; first | refine Nx.opr rfl rfl ?_ | refine Nx.so ?_ | refine Nx.sb (fun bx => ?_) | refine Nx.sa (fun A2 c2 => ?_))
    | refine Nx.za ?_ | refine Nx.zr (fun hc => ?_) (fun hc => ?_)
    | refine Nx.zq ?_ | refine Nx.zu (fun hc => ?_) (fun hc => ?_)
    | refine Nx.zx ?_ | fail
  refine Nx.p_loop (σ := Nat × Option Addr × Nat) (fun s => [(7, .slice B v.length cv), (8, .int .i64 v.length), (9, .int .i64 (s.1 : Int)), (3, .slice s.2.1 (szs (v.take s.1)).length s.2.2)])
    (fun s => [Vec 3 1 s.2.1 (szs (v.take s.1)).length s.2.2 ((szs (v.take s.1)).map (Value.int .i64)), F]) (fun s => s.1 ≤ v.length) (fun s => v.length - s.1) (0, none, 0) rfl (Nat.zero_le _) ⟨rfl, rfl, rfl, rfl, trivial⟩ ((Ent.vec_nil _ _ _).trans (by (exact Ent.auto))) ?_
  rintro ⟨k, A', c'⟩ hk
  dsimp only at hk ⊢
  have hx := h1 k
  have hsl : (szs (v.take k)).length ≤ k := by unfold szs; rw [List.length_map]; exact List.length_take_le _ _
  repeat' first
    | ((with_reducible refine Nx.is_wp ?_); first | refine Nx.wo ?_ | refine Nx.zp (fun hc => ?_) (fun hc => ?_))
    | (refine Nx.zo ?_; first | refine Nx.opr rfl rfl ?_ | refine Nx.indexAddr_nat rfl rfl rfl rfl rfl (by omega) (hv.outer.isSome (by omega)) ?_ | refine Nx.load rfl rfl rfl (hv.outer.rd (by omega)) ?_ | refine Nx.callv rfl rfl rfl (by kernel_rfl) rfl (Max_spec _ _ _ _ (hv.at (by omega)) (by omega)) ?_ | refine Nx.so ?_ | refine Nx.sb (fun bx => ?_) | refine Nx.sa (fun A2 c2 => ?_))
    | refine Nx.za ?_ | refine Nx.zr (fun hc => ?_) (fun hc => ?_)
    | refine Nx.zq ?_ | refine Nx.zu (fun hc => ?_) (fun hc => ?_)
    | refine Nx.zx ?_ | fail
  · have e1 := szs_succ v k (by omega)
    refine Nx.again (k + 1, A2, c2) (by dsimp only; omega) (by dsimp only; omega) ⟨rfl, rfl, rfl, by rw [e1, List.length_append]; rfl, trivial⟩ ?_
    refine Ent.pickE 0 rfl (by rw [e1, List.map_append, List.length_append]; rfl) ?_
    (exact Ent.auto)
  · rw [List.take_of_length_le (by omega)]
    exact Nx.ret_fn rfl [_] ⟨A', c', rfl, rfl⟩ (by (exact Ent.auto))
end Go.Proofs.YtpmlehplbobjmaaDoor
