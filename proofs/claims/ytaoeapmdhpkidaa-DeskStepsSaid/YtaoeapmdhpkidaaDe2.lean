/-
  The proof engine, part E: a statement whose order is open. One walk in an order of one's own serves all orders: operations that only read are taken first, the others come up alone.
-/
import Derived.ChangeSame
import Derived.ChangeSlices
import Derived.Carry
import Derived.OpenShut
import Derived.Laws.Bits64
import Derived.Laws.Bits64b
import Derived.Laws.Externs
import Derived.Shelf.Spec.BitsCarry
import Derived.Sort.Grow
import Derived.Lib.AppendIntMem
import Derived.Lib.ItoaLen
import Derived.Laws.Concat
import Derived.Laws.Strings
import Derived.Laws.StructEq
import Derived.Laws.Small
import Derived.MapKept
import Derived.Lib.AppendStr
import Derived.Laws.IdiomStrings
import Derived.Laws.Strings2
import Derived.Laws.Cover1
import Derived.Test.YtaoeapmdhpkidaaProg
import Derived.Test.YtaoeapmdhpkidaaDe1
namespace Go.Eng
/-- What a panic leads to hangs on no temporary. -/
def PanicOk (Q : Exit → Act → World → Prop) : Prop := ∀ c d v a w, Q (.panic c) (Act.put a d v) w → Q (.panic c) a w
theorem PanicOk.fn {P : Program} {fn : Func} {I : PH} {F : Res} {W : World} {Post : Value → List Res → Prop} : PanicOk (fnPost P fn I F W Post) := by
  rintro c d v a w ⟨_, v', R', he, _⟩
  cases he
theorem PanicOk.then_ {K : Act → World → Prop} {Q : Exit → Act → World → Prop} (h : PanicOk Q) : PanicOk (Exit.then K Q) := fun c d v a w hq => h c d v a w hq
theorem PanicOk.inB {id : Nat} {Q : Exit → Act → World → Prop} (h : PanicOk Q) : PanicOk (Exit.inBlock id Q) := fun c d v a w hq => h c d v a w hq
def mixOk (ops : Array Oper) (loud : List Nat) : List Nat → Array Bool → Bool
  | [], listed => (Region.ready .any ops listed).isEmpty
  | k :: r, listed => (if loud.contains k then Region.ready .any ops listed == [k] else Region.free .any ops listed k && (Region.ready .any ops listed).contains k) && mixOk ops loud r (listed.setIfInBounds k true)
/-- The operations in the order that was chosen. -/
def wpMix (P : Program) (ops : Array Oper) (Q : Exit → Act → World → Prop) (S : World → Prop) (loud : List Nat) : List Nat → Act → World → Prop
  | [], a, w => Q .normal a w
  | k :: r, a, w => ∃ o, ops[k]? = some o ∧
    if loud.contains k then wpOp P ops Q k (fun a' w' => S w' ∧ wpMix P ops Q S loud r a' w') a w
    else ∃ v, YieldsIf P ops S o v a ∧ wpMix P ops Q S loud r (a.put o.dst v) w
theorem wpMix_any {P : Program} {ops : Array Oper} {Q : Exit → Act → World → Prop} {S : World → Prop} {loud : List Nat} (hs : Region.noSelect ops = true) (hQ : PanicOk Q) : ∀ (ord : List Nat) (fuel : Nat) (listed : Array Bool) (a : Act) (w : World),
    mixOk ops loud ord listed = true → ord.length ≤ fuel → S w → wpMix P ops Q S loud ord a w → wpAnyH P .any ops Q S fuel listed a w
  | [], fuel, listed, a, w, hok, _, _, h => wpAnyH_done (by simpa [mixOk] using hok) h fuel
  | k :: r, fuel, listed, a, w, hok, hf, hS, h => by
    cases fuel with
    | zero => simp at hf
    | succ fuel =>
      obtain ⟨o, ho, h⟩ := h
      unfold mixOk at hok
      rw [Bool.and_eq_true] at hok
      obtain ⟨hk, hr⟩ := hok
      simp only [List.length_cons] at hf
      by_cases hl : loud.contains k = true
      · rw [if_pos hl] at h hk
        refine wpAnyH_all (rs := [k]) (by simpa using hk) (by simp) fun i hi => ?_
        simp at hi
        subst hi
        exact wpOp_mono (fun a' w' ⟨h1, h2⟩ => ⟨h1, wpMix_any hs hQ r fuel _ a' w' hr (by omega) h1 h2⟩) h
      · rw [if_neg hl] at h hk
        rw [Bool.and_eq_true] at hk
        obtain ⟨v, hy, h⟩ := h
        exact wpAnyH_take ho hs hk.1 hk.2 (fun c a w => hQ c o.dst v a w) hy hS (wpMix_any hs hQ r fuel _ _ w hr (by omega) hS h)
section
variable {C : Cx} {e e' : Env} {I : PH} {R R' R0 : List Res} {K K' : Act → World → Prop} {Q : Exit → Act → World → Prop} {W : World}
variable {ops : Array Oper} {S : World → Prop} {loud r : List Nat} {k d : Nat} {v : Value} {o : Oper}
theorem St.drew {w : World} (h : St W I R w) : St W I R { w with drawn := w.drawn + 1 } :=
  ⟨by obtain ⟨m, hm, hs⟩ := h.mem; exact ⟨m, hm, ⟨hs.imm, hs.own, hs.dis⟩⟩, ⟨h.still.os, h.still.tape, h.still.output, h.still.size, Nat.le_trans h.still.drawn (Nat.le_succ _)⟩⟩
/-- 'ord': the order of the walk; 'loud': those that write, make memory or call; 'R0': what nobody in the region writes. -/
theorem Nx.draw (ord loud : List Nat) (R0 : List Res) {id : Nat} (hm : C.P.follows .mixedOrders = true) (hs : Region.noSelect ops = true) (hok : mixOk ops loud ord (Array.replicate ops.size false) = true) (hlen : Nat.ble ord.length ops.size = true) (hQ : PanicOk Q) (hR : Ent R R0)
    (h : Nx C e I R (wpMix C.P ops Q (St C.W I R0) loud ord)) : Nx C e I R ((Code.region id ops true).wp C.P Q) := by
  intro a w ha hw
  refine wp_region_held (S := St C.W I R0) hm (wpMix_any hs hQ ord _ _ a _ hok (Nat.le_of_ble_eq_true hlen) (hw.drew.ent hR) (h a _ ha hw.drew))
theorem Nx.mix_nil (h : Nx C e I R (Q .normal)) : Nx C e I R (wpMix C.P ops Q S loud []) := fun a w ha hw => h a w ha hw
theorem Nx.mix_nil_then {K : Act → World → Prop} (h : Nx C e I R K) : Nx C e I R (wpMix C.P ops (Exit.then K Q) S loud []) := fun a w ha hw => h a w ha hw
/-- One that only reads. -/
theorem Nx.mix_q (ho : ops[k]? = some o) (hl : loud.contains k = false) (hg : o.guard = none) (hd : o.dst = some d) (hlt : Nat.blt d C.n = true)
    (hrun : ∀ a w, Mod C.n e a → S w → (execOp a.eval o).run C.P w = .ok (.value v) w) (h : Nx C ((d, v) :: e) I R (wpMix C.P ops Q S loud r)) : Nx C e I R (wpMix C.P ops Q S loud (k :: r)) := by
  intro a w ha hw
  refine ⟨o, ho, ?_⟩
  rw [if_neg (by rw [hl]; simp)]
  refine ⟨v, .inl ⟨by simp [Region.wanted, hg], fun w hS => hrun a w ha hS⟩, ?_⟩
  rw [hd]
  exact h _ w (ha.put hlt v) hw
theorem Nx.mix_q_do {j dj : Nat} {want : Bool} (ho : ops[k]? = some o) (hl : loud.contains k = false) (hg : o.guard = some (j, want)) (hdj : (ops[j]?).bind (·.dst) = some dj) (hb : lk e dj = some (.bool want)) (hd : o.dst = some d) (hlt : Nat.blt d C.n = true)
    (hrun : ∀ a w, Mod C.n e a → S w → (execOp a.eval o).run C.P w = .ok (.value v) w) (h : Nx C ((d, v) :: e) I R (wpMix C.P ops Q S loud r)) : Nx C e I R (wpMix C.P ops Q S loud (k :: r)) := by
  intro a w ha hw
  refine ⟨o, ho, ?_⟩
  rw [if_neg (by rw [hl]; simp)]
  refine ⟨v, .inl ⟨by simp [Region.wanted, hg, yielded_of ha hdj hb], fun w hS => hrun a w ha hS⟩, ?_⟩
  rw [hd]
  exact h _ w (ha.put hlt v) hw
theorem Nx.mix_q_no {j dj : Nat} {want : Bool} (ho : ops[k]? = some o) (hl : loud.contains k = false) (hg : o.guard = some (j, want)) (hdj : (ops[j]?).bind (·.dst) = some dj) (hb : lk e dj = some (.bool (!want))) (hd : o.dst = some d) (hlt : Nat.blt d C.n = true)
    (h : Nx C ((d, undef) :: e) I R (wpMix C.P ops Q S loud r)) : Nx C e I R (wpMix C.P ops Q S loud (k :: r)) := by
  intro a w ha hw
  refine ⟨o, ho, ?_⟩
  rw [if_neg (by rw [hl]; simp)]
  refine ⟨undef, .inr ⟨by simp [Region.wanted, hg, yielded_of ha hdj hb], rfl⟩, ?_⟩
  rw [hd]
  exact h _ w (ha.put hlt undef) hw
/-- One that comes up alone. -/
theorem Nx.mix_l (ho : ops[k]? = some o) (hl : loud.contains k = true) (hg : o.guard = none) (h : Nx C e I R (opK C.P o (fun a w => S w ∧ wpMix C.P ops Q S loud r a w) Q)) : Nx C e I R (wpMix C.P ops Q S loud (k :: r)) := by
  intro a w ha hw
  refine ⟨o, ho, ?_⟩
  rw [if_pos hl]
  unfold wpOp
  simp only [ho]
  rw [if_pos (by simp [Region.wanted, hg])]
  exact .inl (h a w ha hw)
theorem Nx.mix_l_do {j dj : Nat} {want : Bool} (ho : ops[k]? = some o) (hl : loud.contains k = true) (hg : o.guard = some (j, want)) (hdj : (ops[j]?).bind (·.dst) = some dj) (hb : lk e dj = some (.bool want))
    (h : Nx C e I R (opK C.P o (fun a w => S w ∧ wpMix C.P ops Q S loud r a w) Q)) : Nx C e I R (wpMix C.P ops Q S loud (k :: r)) := by
  intro a w ha hw
  refine ⟨o, ho, ?_⟩
  rw [if_pos hl]
  unfold wpOp
  simp only [ho]
  rw [if_pos (by simp [Region.wanted, hg, yielded_of ha hdj hb])]
  exact .inl (h a w ha hw)
theorem Nx.mix_l_no {j dj : Nat} {want : Bool} (ho : ops[k]? = some o) (hl : loud.contains k = true) (hg : o.guard = some (j, want)) (hdj : (ops[j]?).bind (·.dst) = some dj) (hb : lk e dj = some (.bool (!want))) (hd : o.dst = some d) (hlt : Nat.blt d C.n = true)
    (h : Nx C ((d, undef) :: e) I R (fun a w => S w ∧ wpMix C.P ops Q S loud r a w)) : Nx C e I R (wpMix C.P ops Q S loud (k :: r)) := by
  intro a w ha hw
  refine ⟨o, ho, ?_⟩
  rw [if_pos hl]
  unfold wpOp
  simp only [ho]
  rw [if_neg (by simp [Region.wanted, hg, yielded_of ha hdj hb]), hd]
  exact h _ w (ha.put hlt undef) hw
/-- The worlds of which nothing is asked. -/
def AnyW : World → Prop := fun _ => True
theorem Nx.mix_T (h : Nx C e I R K) : Nx C e I R (fun a w => AnyW w ∧ K a w) := fun a w ha hw => ⟨trivial, h a w ha hw⟩
theorem Nx.mix_S (hR : Ent R R0) (h : Nx C e I R K) : Nx C e I R (fun a w => St C.W I R0 w ∧ K a w) := fun a w ha hw => ⟨hw.ent hR, h a w ha hw⟩
/-! ### The quiet operations -/
variable {ty t el : TypeId} {pos : String} {after : Array Edge} {g : Option (Nat × Bool)} {x y : Operand} {A : Option Addr} {ad0 : Addr} {n c : Nat} {vs : List Value}
/-- 'the operation yields v in every world that meets S' -/
def QRun (C : Cx) (e : Env) (S : World → Prop) (o : Oper) (v : Value) : Prop := ∀ a w, Mod C.n e a → S w → (execOp a.eval o).run C.P w = .ok (.value v) w
theorem QRun.opr {op : Op} {dst : Option Tmp} (hv : opRun C.P e op = some v) : QRun C e S ⟨dst, op, ty, pos, after, g⟩ v := fun _ w ha _ => opRun_sound hv ha w
theorem QRun.bin {op : BinOp} {u : TypeId} {vx vy : Value} {dst : Option Tmp} (hx : evo e x = some vx) (hy : evo e y = some vy) (hv : pureRun C.P (do eqGuard op t x y vx vy; binOp op t vx vy) = some v) : QRun C e S ⟨dst, .binOp op t x y u, ty, pos, after, g⟩ v :=
  fun a w ha _ => by simp only [execOp, ha.eval hx, ha.eval hy]; exact run_v (run_of_pureRun hv w)
theorem QRun.binr {op : BinOp} {u : TypeId} {vx vy : Value} {dst : Option Tmp} (hx : evo e x = some vx) (hy : evo e y = some vy) (hv : ∀ w, (do eqGuard op t x y vx vy; binOp op t vx vy).run C.P w = .ok v w) : QRun C e S ⟨dst, .binOp op t x y u, ty, pos, after, g⟩ v :=
  fun a w ha _ => by simp only [execOp, ha.eval hx, ha.eval hy]; exact run_v (hv w)
theorem QRun.add {u : TypeId} {p q : Int} {dst : Option Tmp} (hx : evo e x = some (.int .i64 p)) (hy : evo e y = some (.int .i64 q)) (hr : I64 (p + q)) : QRun C e S ⟨dst, .binOp .add t x y u, ty, pos, after, g⟩ (.int .i64 (p + q)) :=
  QRun.bin hx hy (by rw [← wrap_i64 hr]; rfl)
theorem QRun.sub {u : TypeId} {p q : Int} {dst : Option Tmp} (hx : evo e x = some (.int .i64 p)) (hy : evo e y = some (.int .i64 q)) (hr : I64 (p - q)) : QRun C e S ⟨dst, .binOp .sub t x y u, ty, pos, after, g⟩ (.int .i64 (p - q)) :=
  QRun.bin hx hy (by rw [← wrap_i64 hr]; rfl)
theorem QRun.mul {u : TypeId} {p q : Int} {dst : Option Tmp} (hx : evo e x = some (.int .i64 p)) (hy : evo e y = some (.int .i64 q)) (hr : I64 (p * q)) : QRun C e S ⟨dst, .binOp .mul t x y u, ty, pos, after, g⟩ (.int .i64 (p * q)) :=
  QRun.bin hx hy (by rw [← wrap_i64 hr]; rfl)
theorem QRun.rem {u : TypeId} {p q : Int} {dst : Option Tmp} (hx : evo e x = some (.int .i64 p)) (hy : evo e y = some (.int .i64 q)) (hq : 0 < q) (h0 : 0 ≤ p) : QRun C e S ⟨dst, .binOp .rem t x y u, ty, pos, after, g⟩ (.int .i64 (p % q)) :=
  QRun.bin hx hy (run_rem h0 hq)
theorem QRun.quo {u : TypeId} {p q : Int} {dst : Option Tmp} (hx : evo e x = some (.int .i64 p)) (hy : evo e y = some (.int .i64 q)) (hq : 0 < q) (h0 : 0 ≤ p) (hr : I64 p) : QRun C e S ⟨dst, .binOp .quo t x y u, ty, pos, after, g⟩ (.int .i64 (p / q)) :=
  QRun.bin hx hy (run_quo h0 hq hr)
theorem QRun.conv_i64 {u : TypeId} {k0 : IntKind} {p : Int} {s : TypeDesc} {dst : Option Tmp} (hx : evo e x = some (.int k0 p)) (hs : C.P.underlying t = some s) (ht : C.P.underlying u = some (.int .i64)) (hr : I64 p) : QRun C e S ⟨dst, .convert t u x, ty, pos, after, g⟩ (.int .i64 p) := fun a w ha _ => by
  simp only [execOp, ha.eval hx]
  refine run_v ?_
  unfold convert
  rw [Sem.run_bind, run_underlying hs, Result.andThen_ok, Sem.run_bind, run_underlying ht, Result.andThen_ok]
  show Result.ok (Value.int .i64 (IntKind.i64.wrap p)) w = _
  rw [wrap_i64 hr]
theorem QRun.build {parts : Array (Nat × Operand)} {vs cs : List Value} {dst : Option Tmp} (hx : evs e (parts.toList.map (·.2)) = some vs)
    (hcs : buildV C.P t ((parts.toList.map (·.1)).zip vs) = some cs) (hv : pureRun C.P (Instr.build t (((parts.toList.map (·.1)).zip vs).toArray)) = some (.agg cs.toArray)) : QRun C e S ⟨dst, .build t parts, ty, pos, after, g⟩ (.agg cs.toArray) :=
  have _ := hcs
  fun a w ha _ => by
    have e1 : (parts.map fun (i, x) => (i, a.eval x)) = ((parts.toList.map (·.1)).zip vs).toArray := by
      rw [← ha.evals hx]
      apply Array.ext'
      simp only [Array.toList_map]
      induction parts.toList with
      | nil => rfl
      | cons p r ih => simp [ih]
    simp only [execOp, e1]
    exact run_v (run_of_pureRun hv w)
theorem QRun.min2 {tys : Array TypeId} {k k' : IntKind} {p q : Int} {dst : Option Tmp} (hx : evo e x = some (.int k p)) (hy : evo e y = some (.int k' q)) : QRun C e S ⟨dst, .call { callee := .builtin .min, args := #[x, y], argTypes := tys }, ty, pos, after, g⟩ (.int k (min p q)) := fun a w ha _ => by
  obtain ⟨cs, hcs⟩ := run_builtin (P := C.P) (w := w) (ρ := a.eval) (b := .min) (args := #[x, y]) (dst := dst) (ty := ty) (pos := pos) (after := after) (g := g) (tys := tys) (show [x, y].map a.eval = [Value.int k p, Value.int k' q] from by simp only [List.map_cons, List.map_nil, ha.eval hx, ha.eval hy])
  rw [hcs]
  refine run_v ?_
  show Result.ok (Value.int k (if q < p then q else p)) w = _
  have : (if q < p then q else p) = min p q := by rw [Int.min_def]; split <;> split <;> omega
  rw [this]
theorem QRun.max2 {tys : Array TypeId} {k k' : IntKind} {p q : Int} {dst : Option Tmp} (hx : evo e x = some (.int k p)) (hy : evo e y = some (.int k' q)) : QRun C e S ⟨dst, .call { callee := .builtin .max, args := #[x, y], argTypes := tys }, ty, pos, after, g⟩ (.int k (max p q)) := fun a w ha _ => by
  obtain ⟨cs, hcs⟩ := run_builtin (P := C.P) (w := w) (ρ := a.eval) (b := .max) (args := #[x, y]) (dst := dst) (ty := ty) (pos := pos) (after := after) (g := g) (tys := tys) (show [x, y].map a.eval = [Value.int k p, Value.int k' q] from by simp only [List.map_cons, List.map_nil, ha.eval hx, ha.eval hy])
  rw [hcs]
  refine run_v ?_
  show Result.ok (Value.int k (if q > p then q else p)) w = _
  have : (if q > p then q else p) = max p q := by rw [Int.max_def]; split <;> split <;> omega
  rw [this]
theorem QRun.idx {k0 : IntKind} {i sz : Nat} {dst : Option Tmp} (hx : evo e x = some (.slice A n c)) (hy : evo e y = some (.int k0 (i : Int))) (ht : C.P.underlying t = some (.slice el)) (hsz : cellsIn C.P el = some sz) (h1 : i < n) (hA : A.isSome = true) :
    QRun C e S ⟨dst, .indexAddr t x y, ty, pos, after, g⟩ (.pointer (some ((ad A).add (i * sz)))) := fun a w ha _ => by
  simp only [execOp, ha.eval hx, ha.eval hy]
  refine run_v ?_
  cases A with
  | none => cases hA
  | some a => have := run_indexAt (P := C.P) (c := c) (k := k0) (a := a) ht hsz (i := (i : Int)) (n := n) (by omega) (by omega) w; rw [Int.toNat_natCast] at this; exact this
theorem QRun.idxi {k0 : IntKind} {i : Int} {sz : Nat} {dst : Option Tmp} (hx : evo e x = some (.slice A n c)) (hy : evo e y = some (.int k0 i)) (ht : C.P.underlying t = some (.slice el)) (hsz : cellsIn C.P el = some sz) (h0 : 0 ≤ i) (h1 : i < n) (hA : A.isSome = true) :
    QRun C e S ⟨dst, .indexAddr t x y, ty, pos, after, g⟩ (.pointer (some ((ad A).add (i.toNat * sz)))) := fun a w ha _ => by
  simp only [execOp, ha.eval hx, ha.eval hy]
  refine run_v ?_
  cases A with
  | none => cases hA
  | some a => exact run_indexAt ht hsz h0 h1 w
theorem QRun.load {dst : Option Tmp} (hx : evo e x = some (.pointer (some ad0))) (ht : plainT C.P t = true) (hr : Rd C.W I R0 ad0 v) : QRun C e (St C.W I R0) ⟨dst, .load t x, ty, pos, after, g⟩ v :=
  fun a w ha hw => by simp only [execOp, ha.eval hx]; exact run_v (run_loadVar_plain ht (hr w hw))
theorem QRun.loads {dst : Option Tmp} (hx : evo e x = some (.pointer (some ad0))) (ht : aggT C.P t = true) (hn : cellsIn C.P t = some n) (hr : Rds C.W I R0 ad0 vs) (hl : vs.length = n) : QRun C e (St C.W I R0) ⟨dst, .load t x, ty, pos, after, g⟩ (.agg vs.toArray) :=
  fun a w ha hw => by simp only [execOp, ha.eval hx]; exact run_v (run_loadVar_agg ht hn hl (fun j u hj => hr j u hj w hw))
end
end Go.Eng
/-
  The proof engine, part P: the code of a function is named by the way that leads to it, so that goals stay small.
-/
namespace Go.Eng
def cl : Code → Code
  | .seq a _ => a
  | .cond _ a _ => a
  | .block _ b => b
  | .loop b => b
  | .scope b => b
  | c => c
def cr : Code → Code
  | .seq _ b => b
  | .cond _ _ b => b
  | c => c
def cops : Code → Array Oper
  | .region _ ops _ => ops
  | _ => #[]
def cid : Code → Nat
  | .region id _ _ => id
  | .block id _ => id
  | .exit id => id
  | _ => 0
def ccnd : Code → Operand
  | .cond c _ _ => c
  | _ => .tmp 0
def ck : Code → Nat
  | .skip => 0
  | .region _ _ false => 1
  | .region _ _ true => 2
  | .seq _ _ => 3
  | .cond _ _ _ => 4
  | .block _ _ => 5
  | .loop _ => 6
  | .exit _ => 7
  | .ret => 8
  | .label _ => 9
  | .scope _ => 10
  | .goto _ => 11
  | .rangeFunc _ _ _ _ => 12
  | .refuse _ => 13
def bodyOf (fn : Func) : Code := match fn.body with
  | some c => c
  | none => .skip
/-- Operation number i, laid open. -/
def opAt : List Oper → Nat → Option Oper
  | [], _ => none
  | ⟨a, b, c, d, e, f⟩ :: _, 0 => some ⟨a, b, c, d, e, f⟩
  | _ :: r, i + 1 => opAt r i
theorem opAt_eq : ∀ {l : List Oper} {i : Nat}, opAt l i = l[i]?
  | [], i => by simp [opAt]
  | _ :: _, 0 => rfl
  | _ :: r, i + 1 => by simp only [opAt, List.getElem?_cons_succ]; exact opAt_eq
theorem opAt_arr {ops : Array Oper} {i : Nat} {o : Option Oper} (h : opAt ops.toList i = o) : ops[i]? = o := by
  rw [opAt_eq] at h
  rw [← h]
  simp
/-- The operations from number i on. -/
def wpAt (P : Program) (ops : Array Oper) (Q : Exit → Act → World → Prop) (i : Nat) : Act → World → Prop := wpList P ops Q (ops.toList.drop i)
theorem FnSpec.enterP {P : Program} {f : FuncId} {fn : Func} {args : List Value} {I : PH} {Rpre : List Res} {Post : Value → List Res → Prop} {n : Nat}
    (hf : P.funcs[f]? = some fn) (hb : fn.body.isSome = true) (hn : fn.ntmps = n) (hle : Nat.ble args.length n = true)
    (h : ∀ w F, Nx ⟨P, n, w⟩ (argEnv args 0) I (Rpre ++ [F]) ((bodyOf fn).wp P (fnPost P fn I F w Post))) : FnSpec P f args I Rpre Post := by
  obtain ⟨c, hc⟩ := Option.isSome_iff_exists.1 hb
  have : bodyOf fn = c := by unfold bodyOf; rw [hc]
  rw [this] at h
  exact FnSpec.enter hf hc hn hle h
section
variable {C : Cx} {e e' : Env} {I : PH} {R R' : List Res} {K K' : Act → World → Prop} {Q : Exit → Act → World → Prop} {c : Code}
/-! Which kind of goal: the identity, failing at once elsewhere. -/
theorem Nx.is_at {ops : Array Oper} {i : Nat} (h : Nx C e I R (wpAt C.P ops Q i)) : Nx C e I R (wpAt C.P ops Q i) := h
theorem Nx.is_wp (h : Nx C e I R (c.wp C.P Q)) : Nx C e I R (c.wp C.P Q) := h
theorem Nx.is_mix {ops : Array Oper} {S : World → Prop} {l r : List Nat} (h : Nx C e I R (wpMix C.P ops Q S l r)) : Nx C e I R (wpMix C.P ops Q S l r) := h
theorem Nx.is_mixS {S : World → Prop} (h : Nx C e I R (fun a w => S w ∧ K a w)) : Nx C e I R (fun a w => S w ∧ K a w) := h
theorem Nx.p_seq (hk : ck c = 3) (h : Nx C e I R ((cl c).wp C.P (Exit.then ((cr c).wp C.P Q) Q))) : Nx C e I R (c.wp C.P Q) := by
  cases c <;> first | exact Nx.seq h | (simp [ck] at hk; done) | (rename_i d; cases d <;> simp [ck] at hk)
theorem Nx.p_skip (hk : ck c = 0) (h : Nx C e I R (Q .normal)) : Nx C e I R (c.wp C.P Q) := by
  cases c <;> first | exact Nx.skip h | (simp [ck] at hk; done) | (rename_i d; cases d <;> simp [ck] at hk)
theorem Nx.p_ret (hk : ck c = 8) (h : Nx C e I R (Q .ret)) : Nx C e I R (c.wp C.P Q) := by
  cases c <;> first | exact Nx.ret h | (simp [ck] at hk; done) | (rename_i d; cases d <;> simp [ck] at hk)
theorem Nx.p_label (hk : ck c = 9) (h : Nx C e I R (Q .normal)) : Nx C e I R (c.wp C.P Q) := by
  cases c <;> first | exact Nx.label h | (simp [ck] at hk; done) | (rename_i d; cases d <;> simp [ck] at hk)
theorem Nx.p_exit {id : Nat} (hk : ck c = 7) (hid : forced (cid c) = some id) (h : Nx C e I R (Q (.exit id))) : Nx C e I R (c.wp C.P Q) := by
  have hid := forced_eq hid
  subst hid
  cases c <;> first | exact Nx.exit h | (simp [ck] at hk; done) | (rename_i d; cases d <;> simp [ck] at hk)
theorem Nx.p_block {id : Nat} (hk : ck c = 5) (hid : forced (cid c) = some id) (h : Nx C e I R ((cl c).wp C.P (Exit.inBlock id Q))) : Nx C e I R (c.wp C.P Q) := by
  have hid := forced_eq hid
  subst hid
  cases c <;> first | exact Nx.block h | (simp [ck] at hk; done) | (rename_i d; cases d <;> simp [ck] at hk)
theorem Nx.p_region (hk : ck c = 1) (h : Nx C e I R (wpAt C.P (cops c) Q 0)) : Nx C e I R (c.wp C.P Q) := by
  cases c <;> first | (simp [ck] at hk; done) | skip
  rename_i id ops d
  cases d with
  | true => simp [ck] at hk
  | false =>
    intro a w ha hw
    have h1 := h a w ha hw
    unfold wpAt at h1
    rw [List.drop_zero] at h1
    exact wp_region_list h1
theorem Nx.p_t (hk : ck c = 4) (hc : evo e (ccnd c) = some (.bool true)) (h : Nx C e I R ((cl c).wp C.P Q)) : Nx C e I R (c.wp C.P Q) := by
  cases c <;> first | exact Nx.cond_true hc h | (simp [ck] at hk; done) | (rename_i d; cases d <;> simp [ck] at hk)
theorem Nx.p_f (hk : ck c = 4) (hc : evo e (ccnd c) = some (.bool false)) (h : Nx C e I R ((cr c).wp C.P Q)) : Nx C e I R (c.wp C.P Q) := by
  cases c <;> first | exact Nx.cond_false hc h | (simp [ck] at hk; done) | (rename_i d; cases d <;> simp [ck] at hk)
theorem Nx.p_dec {p : Prop} [Decidable p] (hk : ck c = 4) (hc : evo e (ccnd c) = some (.bool (decide p))) (ht : p → Nx C e I R ((cl c).wp C.P Q)) (hf : ¬p → Nx C e I R ((cr c).wp C.P Q)) : Nx C e I R (c.wp C.P Q) := by
  cases c <;> first | exact Nx.cond_dec hc ht hf | (simp [ck] at hk; done) | (rename_i d; cases d <;> simp [ck] at hk)
theorem Nx.p_bool {b : Bool} (hk : ck c = 4) (hc : evo e (ccnd c) = some (.bool b)) (ht : b = true → Nx C e I R ((cl c).wp C.P Q)) (hf : b = false → Nx C e I R ((cr c).wp C.P Q)) : Nx C e I R (c.wp C.P Q) := by
  cases c <;> first | exact Nx.cond_bool hc ht hf | (simp [ck] at hk; done) | (rename_i d; cases d <;> simp [ck] at hk)
theorem Nx.p_dec_t {p : Prop} [Decidable p] (hk : ck c = 4) (hc : evo e (ccnd c) = some (.bool (decide p))) (hp : p) (h : Nx C e I R ((cl c).wp C.P Q)) : Nx C e I R (c.wp C.P Q) := Nx.p_dec hk hc (fun _ => h) (fun hn => absurd hp hn)
theorem Nx.p_dec_f {p : Prop} [Decidable p] (hk : ck c = 4) (hc : evo e (ccnd c) = some (.bool (decide p))) (hp : ¬p) (h : Nx C e I R ((cr c).wp C.P Q)) : Nx C e I R (c.wp C.P Q) := Nx.p_dec hk hc (fun hn => absurd hn hp) (fun _ => h)
theorem Nx.p_draw {id : Nat} (hid : cid c = id) (ord loud : List Nat) (R0 : List Res) (hk : ck c = 2) (hm : C.P.follows .mixedOrders = true) (hs : Region.noSelect (cops c) = true) (hok : mixOk (cops c) loud ord (Array.replicate (cops c).size false) = true) (hlen : Nat.ble ord.length (cops c).size = true) (hQ : PanicOk Q) (hR : Ent R R0)
    (h : Nx C e I R (wpMix C.P (cops c) Q (St C.W I R0) loud ord)) : Nx C e I R (c.wp C.P Q) := by
  have hc : c = .region (cid c) (cops c) true := by
    cases c <;> first | (simp [ck] at hk; done) | skip
    rename_i b
    cases b with
    | false => simp [ck] at hk
    | true => rfl
  clear hid
  rw [hc]
  exact Nx.draw ord loud R0 hm hs hok hlen hQ hR h
theorem Nx.p_loop {σ : Type} (E : σ → Env) (T : σ → List Res) (ok : σ → Prop) (μ : σ → Nat) (s0 : σ) (hk : ck c = 6) (h0 : ok s0) (he : EnvSub (E s0) e) (hR : Ent R (T s0))
    (round : ∀ s, ok s → Nx C (E s) I (T s) ((cl c).wp C.P (Exit.then (Again C E I T ok μ s) Q))) : Nx C e I R (c.wp C.P Q) := by
  cases c <;> first | exact Nx.loop E T ok μ s0 h0 he hR round | (simp [ck] at hk; done) | (rename_i d; cases d <;> simp [ck] at hk)
/-! ### The operations of a region -/
variable {ops : Array Oper} {i : Nat} {o : Oper}
theorem drop_of {ops : Array Oper} {i : Nat} {o : Oper} (ho : ops[i]? = some o) : ops.toList.drop i = o :: ops.toList.drop (i + 1) := by
  obtain ⟨hlt, he⟩ := Array.getElem?_eq_some_iff.1 ho
  rw [List.drop_eq_getElem_cons (by simpa using hlt)]
  congr 1
theorem Nx.at_end (ho : opAt ops.toList i = none) (h : Nx C e I R (Q .normal)) : Nx C e I R (wpAt C.P ops Q i) := by
  unfold wpAt
  rw [List.drop_eq_nil_of_le (by have := Array.getElem?_eq_none_iff.1 (opAt_arr ho); simpa using this)]
  exact Nx.nil h
theorem Nx.at_endt (ho : opAt ops.toList i = none) (h : Nx C e I R K) : Nx C e I R (wpAt C.P ops (Exit.then K Q) i) := Nx.at_end ho h
theorem Nx.at_op (ho : opAt ops.toList i = some o) (hg : o.guard = none) (h : Nx C e I R (opK C.P o (wpAt C.P ops Q (i + 1)) Q)) : Nx C e I R (wpAt C.P ops Q i) := by
  unfold wpAt at *
  rw [drop_of (opAt_arr ho)]
  exact Nx.cons hg h
theorem Nx.at_do {j d : Nat} {want : Bool} (ho : opAt ops.toList i = some o) (hg : o.guard = some (j, want)) (hd : (ops[j]?).bind (·.dst) = some d) (hb : lk e d = some (.bool want)) (h : Nx C e I R (opK C.P o (wpAt C.P ops Q (i + 1)) Q)) : Nx C e I R (wpAt C.P ops Q i) := by
  unfold wpAt at *
  rw [drop_of (opAt_arr ho)]
  exact Nx.cons_do hg hd hb h
theorem Nx.at_no {j d t : Nat} {want : Bool} (ho : opAt ops.toList i = some o) (hg : o.guard = some (j, want)) (hd : (ops[j]?).bind (·.dst) = some d) (hb : lk e d = some (.bool (!want))) (ht : o.dst = some t) (hlt : Nat.blt t C.n = true)
    (h : Nx C ((t, undef) :: e) I R (wpAt C.P ops Q (i + 1))) : Nx C e I R (wpAt C.P ops Q i) := by
  unfold wpAt at *
  rw [drop_of (opAt_arr ho)]
  exact Nx.cons_no hg hd hb ht hlt h
theorem Nx.at_no0 {j d : Nat} {want : Bool} (ho : opAt ops.toList i = some o) (hg : o.guard = some (j, want)) (hd : (ops[j]?).bind (·.dst) = some d) (hb : lk e d = some (.bool (!want))) (ht : o.dst = none)
    (h : Nx C e I R (wpAt C.P ops Q (i + 1))) : Nx C e I R (wpAt C.P ops Q i) := by
  unfold wpAt at *
  rw [drop_of (opAt_arr ho)]
  intro a w ha hw
  unfold wpList
  rw [if_neg (by simp [Region.wanted, hg, yielded_of ha hd hb]), ht]
  exact h _ w ha hw
theorem Nx.at_split {j d : Nat} {want : Bool} {p : Prop} [Decidable p] (ho : opAt ops.toList i = some o) (hg : o.guard = some (j, want)) (hd : (ops[j]?).bind (·.dst) = some d) (hb : lk e d = some (.bool (decide p)))
    (ht : p → Nx C ((d, .bool true) :: e) I R (wpAt C.P ops Q i)) (hf : ¬p → Nx C ((d, .bool false) :: e) I R (wpAt C.P ops Q i)) : Nx C e I R (wpAt C.P ops Q i) :=
  have _ := ho; have _ := hg; have _ := hd; Nx.force d hb ht hf
theorem Nx.at_splitb {j d : Nat} {want b : Bool} (ho : opAt ops.toList i = some o) (hg : o.guard = some (j, want)) (hd : (ops[j]?).bind (·.dst) = some d) (hb : lk e d = some (.bool b))
    (ht : b = true → Nx C ((d, .bool true) :: e) I R (wpAt C.P ops Q i)) (hf : b = false → Nx C ((d, .bool false) :: e) I R (wpAt C.P ops Q i)) : Nx C e I R (wpAt C.P ops Q i) :=
  have _ := ho; have _ := hg; have _ := hd; Nx.force_bool d hb ht hf
theorem Nx.at_dec_t {j d : Nat} {want : Bool} {p : Prop} [Decidable p] (ho : opAt ops.toList i = some o) (hg : o.guard = some (j, want)) (hd : (ops[j]?).bind (·.dst) = some d) (hb : lk e d = some (.bool (decide p))) (hp : p)
    (ht : Nx C ((d, .bool true) :: e) I R (wpAt C.P ops Q i)) : Nx C e I R (wpAt C.P ops Q i) := Nx.at_split ho hg hd hb (fun _ => ht) (fun h => absurd hp h)
theorem Nx.at_dec_f {j d : Nat} {want : Bool} {p : Prop} [Decidable p] (ho : opAt ops.toList i = some o) (hg : o.guard = some (j, want)) (hd : (ops[j]?).bind (·.dst) = some d) (hb : lk e d = some (.bool (decide p))) (hp : ¬p)
    (ht : Nx C ((d, .bool false) :: e) I R (wpAt C.P ops Q i)) : Nx C e I R (wpAt C.P ops Q i) := Nx.at_split ho hg hd hb (fun h => absurd h hp) (fun _ => ht)
/-! ### The operations of a region whose order is open -/
variable {S : World → Prop} {loud r : List Nat} {k d : Nat} {v : Value}
theorem Nx.m_quiet (ho : opAt ops.toList k = some o) (hl : loud.contains k = false) (hg : o.guard = none) (hd : o.dst = some d) (hlt : Nat.blt d C.n = true) (hrun : QRun C e S o v) (h : Nx C ((d, v) :: e) I R (wpMix C.P ops Q S loud r)) : Nx C e I R (wpMix C.P ops Q S loud (k :: r)) := Nx.mix_q (opAt_arr ho) hl hg hd hlt hrun h
theorem Nx.m_quiet_do {j dj : Nat} {want : Bool} (ho : opAt ops.toList k = some o) (hl : loud.contains k = false) (hg : o.guard = some (j, want)) (hdj : (ops[j]?).bind (·.dst) = some dj) (hb : lk e dj = some (.bool want)) (hd : o.dst = some d) (hlt : Nat.blt d C.n = true) (hrun : QRun C e S o v)
    (h : Nx C ((d, v) :: e) I R (wpMix C.P ops Q S loud r)) : Nx C e I R (wpMix C.P ops Q S loud (k :: r)) := Nx.mix_q_do (opAt_arr ho) hl hg hdj hb hd hlt hrun h
theorem Nx.m_quiet_no {j dj : Nat} {want : Bool} (ho : opAt ops.toList k = some o) (hl : loud.contains k = false) (hg : o.guard = some (j, want)) (hdj : (ops[j]?).bind (·.dst) = some dj) (hb : lk e dj = some (.bool (!want))) (hd : o.dst = some d) (hlt : Nat.blt d C.n = true)
    (h : Nx C ((d, undef) :: e) I R (wpMix C.P ops Q S loud r)) : Nx C e I R (wpMix C.P ops Q S loud (k :: r)) := Nx.mix_q_no (opAt_arr ho) hl hg hdj hb hd hlt h
theorem Nx.m_loud (ho : opAt ops.toList k = some o) (hl : loud.contains k = true) (hg : o.guard = none) (h : Nx C e I R (opK C.P o (fun a w => S w ∧ wpMix C.P ops Q S loud r a w) Q)) : Nx C e I R (wpMix C.P ops Q S loud (k :: r)) := Nx.mix_l (opAt_arr ho) hl hg h
theorem Nx.m_loud_do {j dj : Nat} {want : Bool} (ho : opAt ops.toList k = some o) (hl : loud.contains k = true) (hg : o.guard = some (j, want)) (hdj : (ops[j]?).bind (·.dst) = some dj) (hb : lk e dj = some (.bool want))
    (h : Nx C e I R (opK C.P o (fun a w => S w ∧ wpMix C.P ops Q S loud r a w) Q)) : Nx C e I R (wpMix C.P ops Q S loud (k :: r)) := Nx.mix_l_do (opAt_arr ho) hl hg hdj hb h
theorem Nx.m_loud_no {j dj : Nat} {want : Bool} (ho : opAt ops.toList k = some o) (hl : loud.contains k = true) (hg : o.guard = some (j, want)) (hdj : (ops[j]?).bind (·.dst) = some dj) (hb : lk e dj = some (.bool (!want))) (hd : o.dst = some d) (hlt : Nat.blt d C.n = true)
    (h : Nx C ((d, undef) :: e) I R (fun a w => S w ∧ wpMix C.P ops Q S loud r a w)) : Nx C e I R (wpMix C.P ops Q S loud (k :: r)) := Nx.mix_l_no (opAt_arr ho) hl hg hdj hb hd hlt h
theorem Nx.m_split {j dj : Nat} {want : Bool} {p : Prop} [Decidable p] (ho : opAt ops.toList k = some o) (hg : o.guard = some (j, want)) (hdj : (ops[j]?).bind (·.dst) = some dj) (hb : lk e dj = some (.bool (decide p)))
    (ht : p → Nx C ((dj, .bool true) :: e) I R (wpMix C.P ops Q S loud (k :: r))) (hf : ¬p → Nx C ((dj, .bool false) :: e) I R (wpMix C.P ops Q S loud (k :: r))) : Nx C e I R (wpMix C.P ops Q S loud (k :: r)) :=
  have _ := ho; have _ := hg; have _ := hdj; Nx.force dj hb ht hf
theorem Nx.m_splitb {j dj : Nat} {want b : Bool} (ho : opAt ops.toList k = some o) (hg : o.guard = some (j, want)) (hdj : (ops[j]?).bind (·.dst) = some dj) (hb : lk e dj = some (.bool b))
    (ht : b = true → Nx C ((dj, .bool true) :: e) I R (wpMix C.P ops Q S loud (k :: r))) (hf : b = false → Nx C ((dj, .bool false) :: e) I R (wpMix C.P ops Q S loud (k :: r))) : Nx C e I R (wpMix C.P ops Q S loud (k :: r)) :=
  have _ := ho; have _ := hg; have _ := hdj; Nx.force_bool dj hb ht hf
theorem Nx.m_dec_t {j dj : Nat} {want : Bool} {p : Prop} [Decidable p] (ho : opAt ops.toList k = some o) (hg : o.guard = some (j, want)) (hdj : (ops[j]?).bind (·.dst) = some dj) (hb : lk e dj = some (.bool (decide p))) (hp : p)
    (ht : Nx C ((dj, .bool true) :: e) I R (wpMix C.P ops Q S loud (k :: r))) : Nx C e I R (wpMix C.P ops Q S loud (k :: r)) := Nx.m_split ho hg hdj hb (fun _ => ht) (fun h => absurd hp h)
theorem Nx.m_dec_f {j dj : Nat} {want : Bool} {p : Prop} [Decidable p] (ho : opAt ops.toList k = some o) (hg : o.guard = some (j, want)) (hdj : (ops[j]?).bind (·.dst) = some dj) (hb : lk e dj = some (.bool (decide p))) (hp : ¬p)
    (ht : Nx C ((dj, .bool false) :: e) I R (wpMix C.P ops Q S loud (k :: r))) : Nx C e I R (wpMix C.P ops Q S loud (k :: r)) := Nx.m_split ho hg hdj hb (fun h => absurd h hp) (fun _ => ht)
/-! ### Ways that meet again -/
def isIf (c : Code) (id : Nat) : Bool := Nat.beq (ck c) 3 && Nat.beq (ck (cl c)) 3 && (Nat.beq (ck (cl (cl c))) 1 || Nat.beq (ck (cl (cl c))) 2) && Nat.beq (cid (cl (cl c))) id && Nat.beq (ck (cr (cl c))) 4
def isBlk (c : Code) (id : Nat) : Bool := Nat.beq (ck c) 3 && Nat.beq (ck (cl c)) 5 && Nat.beq (cid (cl c)) id
def isReg (c : Code) (id : Nat) : Bool := Nat.beq (ck c) 3 && (Nat.beq (ck (cl c)) 1 || Nat.beq (ck (cl c)) 2) && Nat.beq (cid (cl c)) id
theorem Nx.p_stop (id : Nat) (hi : isIf c id = true) (h : Nx C e I R (Stop (c.wp C.P Q))) : Nx C e I R (c.wp C.P Q) := have _ := hi; h
theorem Nx.p_stopb (id : Nat) (hi : isBlk c id = true) (h : Nx C e I R (Stop (c.wp C.P Q))) : Nx C e I R (c.wp C.P Q) := have _ := hi; h
theorem Nx.p_stopr (id : Nat) (hi : isReg c id = true) (h : Nx C e I R (Stop (c.wp C.P Q))) : Nx C e I R (c.wp C.P Q) := have _ := hi; h
theorem Nx.p_merge {σ : Type} (E : σ → Env) (T : σ → List Res) (ok : σ → Prop) (hk : ck c = 3) (h1 : Nx C e I R ((cl c).wp C.P (Exit.then (Upto C E I T ok) Q))) (h2 : ∀ s, ok s → Nx C (E s) I (T s) ((cr c).wp C.P Q)) : Nx C e I R (Stop (c.wp C.P Q)) := by
  cases c <;> first | exact Nx.merge E T ok h1 h2 | (simp [ck] at hk; done) | (rename_i d; cases d <;> simp [ck] at hk)
end
end Go.Eng
/-
  The proof engine, part S: the standard steps of a walk, each with the tactic that finds its premise.
-/
namespace Go.Eng
section
variable {C : Cx} {e e' : Env} {I : PH} {R R' : List Res} {K K' : Act → World → Prop} {Q : Exit → Act → World → Prop} {W : World} {o : Oper}
variable {ty t u : TypeId} {pos : String} {after : Array Edge} {g : Option (Nat × Bool)} {x y z : Operand} {v : Value} {dst : Option Tmp}
variable {ops : Array Oper} {i : Nat} {S : World → Prop} {loud r : List Nat}
theorem yielded_undef {n : Nat} {ops : Array Oper} {a : Act} {j d : Nat} (ha : Mod n e a) (hd : (ops[j]?).bind (·.dst) = some d) (hb : lk e d = some undef) : yielded ops a.tmps j = none := by
  have := ha.get d _ hb
  simp [yielded, hd, this, undef]
/-! Guards that were themselves not run. -/
theorem Nx.at_noU {j d t : Nat} {want : Bool} (ho : opAt ops.toList i = some o) (hg : o.guard = some (j, want)) (hd : (ops[j]?).bind (·.dst) = some d) (hb : lk e d = some undef) (ht : o.dst = some t) (hlt : Nat.blt t C.n = true)
    (h : Nx C ((t, undef) :: e) I R (wpAt C.P ops Q (i + 1))) : Nx C e I R (wpAt C.P ops Q i) := by
  unfold wpAt at *
  rw [drop_of (opAt_arr ho)]
  intro a w ha hw
  unfold wpList
  rw [if_neg (by simp [Region.wanted, hg, yielded_undef ha hd hb]), ht]
  exact h _ w (ha.put hlt _) hw
theorem Nx.at_noU0 {j d : Nat} {want : Bool} (ho : opAt ops.toList i = some o) (hg : o.guard = some (j, want)) (hd : (ops[j]?).bind (·.dst) = some d) (hb : lk e d = some undef) (ht : o.dst = none)
    (h : Nx C e I R (wpAt C.P ops Q (i + 1))) : Nx C e I R (wpAt C.P ops Q i) := by
  unfold wpAt at *
  rw [drop_of (opAt_arr ho)]
  intro a w ha hw
  unfold wpList
  rw [if_neg (by simp [Region.wanted, hg, yielded_undef ha hd hb]), ht]
  exact h _ w ha hw
theorem Nx.m_quiet_noU {k d : Nat} {j dj : Nat} {want : Bool} (ho : opAt ops.toList k = some o) (hl : loud.contains k = false) (hg : o.guard = some (j, want)) (hdj : (ops[j]?).bind (·.dst) = some dj) (hb : lk e dj = some undef) (hd : o.dst = some d) (hlt : Nat.blt d C.n = true)
    (h : Nx C ((d, undef) :: e) I R (wpMix C.P ops Q S loud r)) : Nx C e I R (wpMix C.P ops Q S loud (k :: r)) := by
  intro a w ha hw
  refine ⟨o, opAt_arr ho, ?_⟩
  rw [if_neg (by rw [hl]; simp)]
  refine ⟨undef, .inr ⟨by simp [Region.wanted, hg, yielded_undef ha hdj hb], rfl⟩, ?_⟩
  rw [hd]
  exact h _ w (ha.put hlt undef) hw
theorem Nx.m_loud_noU {k d : Nat} {j dj : Nat} {want : Bool} (ho : opAt ops.toList k = some o) (hl : loud.contains k = true) (hg : o.guard = some (j, want)) (hdj : (ops[j]?).bind (·.dst) = some dj) (hb : lk e dj = some undef) (hd : o.dst = some d) (hlt : Nat.blt d C.n = true)
    (h : Nx C ((d, undef) :: e) I R (fun a w => S w ∧ wpMix C.P ops Q S loud r a w)) : Nx C e I R (wpMix C.P ops Q S loud (k :: r)) := by
  intro a w ha hw
  refine ⟨o, opAt_arr ho, ?_⟩
  rw [if_pos hl]
  unfold wpOp
  simp only [opAt_arr ho]
  rw [if_neg (by simp [Region.wanted, hg, yielded_undef ha hdj hb]), hd]
  exact h _ w (ha.put hlt undef) hw
/-- Behind the operation the description is this one. -/
def OpTo (C : Cx) (o : Oper) (e : Env) (I : PH) (R : List Res) (e' : Env) (R' : List Res) : Prop := ∀ (K : Act → World → Prop) (Q : Exit → Act → World → Prop), Nx C e' I R' K → Nx C e I R (opK C.P o K Q)
def OpToB (C : Cx) (o : Oper) (e : Env) (I : PH) (R : List Res) (e' : Nat → Env) (R' : Nat → List Res) : Prop := ∀ (K : Act → World → Prop) (Q : Exit → Act → World → Prop), (∀ b, Nx C (e' b) I (R' b) K) → Nx C e I R (opK C.P o K Q)
def OpToA (C : Cx) (o : Oper) (e : Env) (I : PH) (R : List Res) (e' : Option Addr → Nat → Env) (R' : Option Addr → Nat → List Res) : Prop := ∀ (K : Act → World → Prop) (Q : Exit → Act → World → Prop), (∀ A c, Nx C (e' A c) I (R' A c) K) → Nx C e I R (opK C.P o K Q)
theorem OpTo.is_load {e1 : Env} {r1 : List Res} (h : OpTo C ⟨dst, .load t x, ty, pos, after, g⟩ e I R e1 r1) : OpTo C ⟨dst, .load t x, ty, pos, after, g⟩ e I R e1 r1 := h
theorem OpTo.is_store {e1 : Env} {r1 : List Res} (h : OpTo C ⟨dst, .store t x y, ty, pos, after, g⟩ e I R e1 r1) : OpTo C ⟨dst, .store t x y, ty, pos, after, g⟩ e I R e1 r1 := h
theorem OpTo.is_bin {e1 : Env} {r1 : List Res} {op : BinOp} (h : OpTo C ⟨dst, .binOp op t x y u, ty, pos, after, g⟩ e I R e1 r1) : OpTo C ⟨dst, .binOp op t x y u, ty, pos, after, g⟩ e I R e1 r1 := h
theorem OpTo.is_un {e1 : Env} {r1 : List Res} {op : UnOp} (h : OpTo C ⟨dst, .unOp op t x, ty, pos, after, g⟩ e I R e1 r1) : OpTo C ⟨dst, .unOp op t x, ty, pos, after, g⟩ e I R e1 r1 := h
theorem OpTo.is_conv {e1 : Env} {r1 : List Res} (h : OpTo C ⟨dst, .convert t u x, ty, pos, after, g⟩ e I R e1 r1) : OpTo C ⟨dst, .convert t u x, ty, pos, after, g⟩ e I R e1 r1 := h
theorem OpTo.is_build {e1 : Env} {r1 : List Res} {p : Array (Nat × Operand)} (h : OpTo C ⟨dst, .build t p, ty, pos, after, g⟩ e I R e1 r1) : OpTo C ⟨dst, .build t p, ty, pos, after, g⟩ e I R e1 r1 := h
theorem OpTo.is_call {e1 : Env} {r1 : List Res} {c : Call} (h : OpTo C ⟨dst, .call c, ty, pos, after, g⟩ e I R e1 r1) : OpTo C ⟨dst, .call c, ty, pos, after, g⟩ e I R e1 r1 := h
theorem OpToB.is_lit {e1 : Nat → Env} {r1 : Nat → List Res} {p : Array (Nat × Operand)} {n : Nat} (h : OpToB C ⟨dst, .buildSlice t n p, ty, pos, after, g⟩ e I R e1 r1) : OpToB C ⟨dst, .buildSlice t n p, ty, pos, after, g⟩ e I R e1 r1 := h
theorem OpToB.is_box {e1 : Nat → Env} {r1 : Nat → List Res} (h : OpToB C ⟨dst, .box t x, ty, pos, after, g⟩ e I R e1 r1) : OpToB C ⟨dst, .box t x, ty, pos, after, g⟩ e I R e1 r1 := h
theorem OpToB.is_alloc {e1 : Nat → Env} {r1 : Nat → List Res} (h : OpToB C ⟨dst, .alloc t, ty, pos, after, g⟩ e I R e1 r1) : OpToB C ⟨dst, .alloc t, ty, pos, after, g⟩ e I R e1 r1 := h
theorem OpToA.is_append {e1 : Option Addr → Nat → Env} {r1 : Option Addr → Nat → List Res} {xs : Array Operand} {tys : Array TypeId} (h : OpToA C ⟨dst, .call { callee := .builtin .append, args := xs, argTypes := tys }, ty, pos, after, g⟩ e I R e1 r1) : OpToA C ⟨dst, .call { callee := .builtin .append, args := xs, argTypes := tys }, ty, pos, after, g⟩ e I R e1 r1 := h
theorem Nx.so {e1 : Env} {r1 : List Res} (h : Nx C e1 I r1 K) (s : OpTo C o e I R e1 r1 := by first | ((with_reducible apply OpTo.is_load); first | exact fun _ _ h => Nx.load rfl rfl rfl (by first | exact Rd.at_ 0 rfl rfl | exact Rd.at_ 1 rfl rfl | exact Rd.at_ 2 rfl rfl | exact Rd.at_ 3 rfl rfl | exact Rd.at_ 4 rfl rfl | exact Rd.at_ 5 rfl rfl | exact Rd.at_ 6 rfl rfl | exact Rd.at_ 7 rfl rfl | exact Rd.at_ 8 rfl rfl | exact Rd.at_ 9 rfl rfl | exact Rd.at_ 10 rfl rfl | exact Rd.at_ 11 rfl rfl) h | exact fun _ _ h => Nx.loads rfl rfl rfl rfl (by first | exact Rds.at_ 0 rfl | exact Rds.at_ 1 rfl | exact Rds.at_ 2 rfl | exact Rds.at_ 3 rfl | exact Rds.at_ 4 rfl | exact Rds.at_ 5 rfl | exact Rds.at_ 6 rfl | exact Rds.at_ 7 rfl | exact Rds.at_ 8 rfl | exact Rds.at_ 9 rfl | exact Rds.at_ 10 rfl | exact Rds.at_ 11 rfl) rfl h) | ((with_reducible apply OpTo.is_bin); first | exact fun _ _ h => Nx.add rfl rfl (by unfold I64; omega) rfl h | exact fun _ _ h => Nx.sub rfl rfl (by unfold I64; omega) rfl h | exact fun _ _ h => Nx.mul rfl rfl (by unfold I64; omega) rfl h | exact fun _ _ h => Nx.rem rfl rfl (by omega) (by omega) rfl h | exact fun _ _ h => Nx.quo rfl rfl (by omega) (by omega) (by unfold I64; omega) rfl h) | ((with_reducible apply OpTo.is_conv); first | exact fun _ _ h => Nx.conv_i64 rfl rfl rfl (by unfold I64; omega) rfl h) | ((with_reducible apply OpTo.is_un); first | exact fun _ _ h => Nx.not_dec rfl rfl h | exact fun _ _ h => Nx.neg rfl (by unfold I64; omega) rfl h) | ((with_reducible apply OpTo.is_build); first | exact fun _ _ h => Nx.build rfl rfl (by kernel_rfl) rfl h) | ((with_reducible apply OpTo.is_store); first | exact fun _ _ h => Nx.store_blk 0 rfl rfl rfl rfl rfl rfl rfl h | exact fun _ _ h => Nx.store_blk 1 rfl rfl rfl rfl rfl rfl rfl h | exact fun _ _ h => Nx.store_blk 2 rfl rfl rfl rfl rfl rfl rfl h | exact fun _ _ h => Nx.store_blk 3 rfl rfl rfl rfl rfl rfl rfl h | exact fun _ _ h => Nx.store_blk 4 rfl rfl rfl rfl rfl rfl rfl h | exact fun _ _ h => Nx.store_blk 5 rfl rfl rfl rfl rfl rfl rfl h | exact fun _ _ h => Nx.store_blk 6 rfl rfl rfl rfl rfl rfl rfl h | exact fun _ _ h => Nx.store_blk 7 rfl rfl rfl rfl rfl rfl rfl h | exact fun _ _ h => Nx.store_blk 8 rfl rfl rfl rfl rfl rfl rfl h | exact fun _ _ h => Nx.store_blk 9 rfl rfl rfl rfl rfl rfl rfl h | exact fun _ _ h => Nx.store_blk 10 rfl rfl rfl rfl rfl rfl rfl h | exact fun _ _ h => Nx.store_blk 11 rfl rfl rfl rfl rfl rfl rfl h | exact fun _ _ h => Nx.store_ints 0 rfl rfl rfl rfl (by omega) h | exact fun _ _ h => Nx.store_ints 1 rfl rfl rfl rfl (by omega) h | exact fun _ _ h => Nx.store_ints 2 rfl rfl rfl rfl (by omega) h | exact fun _ _ h => Nx.store_ints 3 rfl rfl rfl rfl (by omega) h) | ((with_reducible apply OpTo.is_call); first | exact fun _ _ h => Nx.min2 rfl rfl rfl h | exact fun _ _ h => Nx.max2 rfl rfl rfl h) | exact fun _ _ h => Nx.makeFunc rfl rfl rfl h | exact fun _ _ h => Nx.fieldAddr rfl rfl rfl h) : Nx C e I R (opK C.P o K Q) := s K Q h
theorem Nx.sb {e1 : Nat → Env} {r1 : Nat → List Res} (h : ∀ b, Nx C (e1 b) I (r1 b) K) (s : OpToB C o e I R e1 r1 := by first | ((with_reducible apply OpToB.is_box); first | exact fun _ _ h => Nx.box_agg rfl rfl h | exact fun _ _ h => Nx.box1 rfl rfl rfl h) | ((with_reducible apply OpToB.is_alloc); first | exact fun _ _ h => Nx.alloc rfl rfl h) | ((with_reducible apply OpToB.is_lit); first | exact fun _ _ h => Nx.buildSlice0 rfl rfl rfl h | exact fun _ _ h => Nx.buildSlice rfl rfl rfl rfl rfl rfl rfl rfl rfl h) | exact fun _ _ h => Nx.makeInts rfl rfl rfl rfl rfl rfl rfl rfl (by omega) h) : Nx C e I R (opK C.P o K Q) := s K Q h
theorem Nx.sa {e1 : Option Addr → Nat → Env} {r1 : Option Addr → Nat → List Res} (h : ∀ A c, Nx C (e1 A c) I (r1 A c) K) (s : OpToA C o e I R e1 r1 := by first | ((with_reducible apply OpToA.is_append); first | exact fun _ _ h => Nx.append_lit 0 rfl rfl rfl rfl (by kernel_rfl) rfl rfl rfl rfl (by omega) h | exact fun _ _ h => Nx.append_lit 1 rfl rfl rfl rfl (by kernel_rfl) rfl rfl rfl rfl (by omega) h | exact fun _ _ h => Nx.append_lit 2 rfl rfl rfl rfl (by kernel_rfl) rfl rfl rfl rfl (by omega) h | exact fun _ _ h => Nx.append_lit 3 rfl rfl rfl rfl (by kernel_rfl) rfl rfl rfl rfl (by omega) h | exact fun _ _ h => Nx.append_lit 4 rfl rfl rfl rfl (by kernel_rfl) rfl rfl rfl rfl (by omega) h) ) : Nx C e I R (opK C.P o K Q) := s K Q h
theorem QRun.std {S : World → Prop} (s : QRun C e S o v := by first | exact QRun.load rfl rfl (by first | exact Rd.at_ 0 rfl rfl | exact Rd.at_ 1 rfl rfl | exact Rd.at_ 2 rfl rfl | exact Rd.at_ 3 rfl rfl | exact Rd.at_ 4 rfl rfl | exact Rd.at_ 5 rfl rfl | exact Rd.at_ 6 rfl rfl | exact Rd.at_ 7 rfl rfl | exact Rd.at_ 8 rfl rfl | exact Rd.at_ 9 rfl rfl | exact Rd.at_ 10 rfl rfl | exact Rd.at_ 11 rfl rfl) | exact QRun.loads rfl rfl rfl (by first | exact Rds.at_ 0 rfl | exact Rds.at_ 1 rfl | exact Rds.at_ 2 rfl | exact Rds.at_ 3 rfl | exact Rds.at_ 4 rfl | exact Rds.at_ 5 rfl | exact Rds.at_ 6 rfl | exact Rds.at_ 7 rfl | exact Rds.at_ 8 rfl | exact Rds.at_ 9 rfl | exact Rds.at_ 10 rfl | exact Rds.at_ 11 rfl) rfl | exact QRun.add rfl rfl (by unfold I64; omega) | exact QRun.sub rfl rfl (by unfold I64; omega) | exact QRun.mul rfl rfl (by unfold I64; omega) | exact QRun.rem rfl rfl (by omega) (by omega) | exact QRun.quo rfl rfl (by omega) (by omega) (by unfold I64; omega) | exact QRun.conv_i64 rfl rfl rfl (by unfold I64; omega) | exact QRun.build rfl rfl (by kernel_rfl) | exact QRun.min2 rfl rfl | exact QRun.max2 rfl rfl) : QRun C e S o v := s
def Adv (C : Cx) (e : Env) (I : PH) (R : List Res) (K : Act → World → Prop) (e1 : Env) (r1 : List Res) (K1 : Act → World → Prop) : Prop := Nx C e1 I r1 K1 → Nx C e I R K
theorem Adv.is_at {e1 : Env} {r1 : List Res} {ops : Array Oper} {i : Nat} (h : Adv C e I R (wpAt C.P ops Q i) e1 r1 K') : Adv C e I R (wpAt C.P ops Q i) e1 r1 K' := h
theorem Adv.is_wp {e1 : Env} {r1 : List Res} {c : Code} (h : Adv C e I R (c.wp C.P Q) e1 r1 K') : Adv C e I R (c.wp C.P Q) e1 r1 K' := h
theorem Adv.is_mix {e1 : Env} {r1 : List Res} {ops : Array Oper} {S : World → Prop} {l r : List Nat} (h : Adv C e I R (wpMix C.P ops Q S l r) e1 r1 K') : Adv C e I R (wpMix C.P ops Q S l r) e1 r1 K' := h
theorem Adv.is_mixS {e1 : Env} {r1 : List Res} {S : World → Prop} (h : Adv C e I R (fun a w => S w ∧ K a w) e1 r1 K') : Adv C e I R (fun a w => S w ∧ K a w) e1 r1 K' := h
theorem Nx.a {e1 : Env} {r1 : List Res} (h : Nx C e1 I r1 K') (s : Adv C e I R K e1 r1 K' := by first | exact fun h => Nx.at_no rfl rfl rfl rfl rfl rfl h | exact fun h => Nx.at_noU rfl rfl rfl rfl rfl rfl h | exact fun h => Nx.at_noU0 rfl rfl rfl rfl rfl h | exact fun h => Nx.at_endt rfl h | exact fun h => Nx.at_no0 rfl rfl rfl rfl rfl h | exact fun h => Nx.at_end rfl h) : Nx C e I R K := s h
theorem Nx.w {e1 : Env} {r1 : List Res} (h : Nx C e1 I r1 K') (s : Adv C e I R K e1 r1 K' := by first | exact fun h => Nx.p_seq rfl h | exact fun h => Nx.p_region rfl h | exact fun h => Nx.p_ret rfl h | exact fun h => Nx.p_skip rfl h | exact fun h => Nx.p_exit rfl rfl h | exact fun h => Nx.p_block rfl rfl h | exact fun h => Nx.p_t rfl rfl h | exact fun h => Nx.p_f rfl rfl h | exact fun h => Nx.p_label rfl h) : Nx C e I R K := s h
theorem Nx.wo {e1 : Env} {r1 : List Res} (h : Nx C e1 I r1 K') (s : Adv C e I R K e1 r1 K' := by first | exact fun h => Nx.p_seq rfl h | exact fun h => Nx.p_region rfl h | exact fun h => Nx.p_ret rfl h | exact fun h => Nx.p_skip rfl h | exact fun h => Nx.p_exit rfl rfl h | exact fun h => Nx.p_block rfl rfl h | exact fun h => Nx.p_t rfl rfl h | exact fun h => Nx.p_f rfl rfl h | exact fun h => Nx.p_label rfl h | exact fun h => Nx.p_dec_t rfl rfl (by omega) h | exact fun h => Nx.p_dec_f rfl rfl (by omega) h) : Nx C e I R K := s h
theorem Nx.m {e1 : Env} {r1 : List Res} (h : Nx C e1 I r1 K') (s : Adv C e I R K e1 r1 K' := by first | exact fun h => Nx.mix_nil_then h | exact fun h => Nx.mix_nil h | exact fun h => Nx.m_quiet_no rfl rfl rfl rfl rfl rfl rfl h | exact fun h => Nx.m_loud_no rfl rfl rfl rfl rfl rfl rfl h | exact fun h => Nx.m_quiet_noU rfl rfl rfl rfl rfl rfl rfl h | exact fun h => Nx.m_loud_noU rfl rfl rfl rfl rfl rfl rfl h | exact fun h => Nx.m_quiet rfl rfl rfl rfl rfl (by first | exact QRun.opr rfl | exact QRun.std) h | exact fun h => Nx.m_quiet_do rfl rfl rfl rfl rfl rfl rfl (by first | exact QRun.opr rfl | exact QRun.std) h) : Nx C e I R K := s h
theorem Nx.ex {e1 : Env} {r1 : List Res} (h : Nx C e1 I r1 K') (s : Adv C e I R K e1 r1 K' := by first | exact fun h => Nx.then_ret h | exact fun h => Nx.in_ret h | exact fun h => Nx.then_normal h | exact fun h => Nx.in_normal h | exact fun h => Nx.then_exit h | exact fun h => Nx.in_exit h | exact fun h => Nx.in_other rfl h | exact fun h => Nx.mix_T h | ((with_reducible apply Adv.is_mixS); exact fun h => Nx.mix_S (by first | exact Ent.refl _ | exact Ent.drop (Ent.refl _) | exact Ent.drop (Ent.drop (Ent.refl _)) | exact Ent.drop (Ent.drop (Ent.drop (Ent.refl _))) | exact Ent.nil _ | (repeat first | exact Ent.refl _ | exact Ent.nil _ | refine Ent.pick 0 rfl ?_ | refine Ent.pick 1 rfl ?_ | refine Ent.pick 2 rfl ?_ | refine Ent.pick 3 rfl ?_ | refine Ent.pick 4 rfl ?_ | refine Ent.pick 5 rfl ?_ | refine Ent.pick 6 rfl ?_ | refine Ent.pick 7 rfl ?_ | refine Ent.pick 8 rfl ?_)) h)) : Nx C e I R K := s h
end
end Go.Eng
/-
  The proof engine, part Z: from a contract to what a row asks.
-/
namespace Go.Eng
open Go.ChangeShapes Go.WideShapes Go.RowKit
theorem St.start (W : World) : St W (fun i => W.heap[i]?) ([] ++ [fun _ => True]) W :=
  ⟨⟨fun _ => none, ⟨fun _ => none, fun _ => none, fun _ => .inl rfl, by funext i; rfl, trivial, trivial⟩, ⟨fun _ _ h => h, fun _ _ h => (by cases h), fun _ => .inr rfl⟩⟩, Still.refl W⟩
/-- A contract that wants no memory of its own, at a world: the old blocks stay. -/
theorem FnSpec.below {P : Program} {f : FuncId} {args : List Value} {W : World} {Post : Value → List Res → Prop} (h : FnSpec P f args (fun i => W.heap[i]?) [] Post) :
    Calls P f args.toArray W fun e w' => (∃ v R', e = .returned v ∧ Post v R') ∧ Below W.heap.size W w' := by
  refine (h W (fun _ => True) (St.start W)).mono fun e w' => ?_
  rintro ⟨v, R', he, hp, ⟨⟨m, hm, hs⟩, hst⟩⟩
  refine ⟨⟨v, R', he, hp⟩, ⟨hst.os, hst.tape, hst.output, hst.size, fun k hk => ?_⟩⟩
  have hk' : W.heap[k]? = some W.heap[k] := Array.getElem?_eq_getElem hk
  rw [hk']
  exact hs.imm k _ hk'
/-- The same for a law that answers true. -/
theorem FnSpec.isTrue {P : Program} {f : FuncId} {args : List Value} {W : World} (h : FnSpec P f args (fun i => W.heap[i]?) [] (fun v R' => v = .bool true ∧ R' = [])) :
    Calls P f args.toArray W fun e w' => e = .returned (.bool true) ∧ Below W.heap.size W w' := by
  refine h.below.mono fun e w' => ?_
  rintro ⟨⟨v, R', rfl, rfl, _⟩, hb⟩
  exact ⟨rfl, hb⟩
end Go.Eng
namespace Go.Eng
open Go.ChangeShapes Go.WideShapes Go.RowKit
section
variable {H : Type} {enc : TypeId × Value → H} {P : Program}
theorem post_of_below {f : Func} {s : ChangeSpec} {apart fresh handsOn again : Bool} {W W' : World} {args : Array Value} {v : Value} {ds gs : List (DataW H)} {before pa pv : List MemPlace}
    (hW : DataW.Whole enc P f.params.toList s.vars apart W args.toList ds gs before)
    (hres : ∀ (b : Nat) (sp : Nat → Bool) (hd : Bool), DataW.TrodAll enc P W' b sp hd f.resultTypes.toList (v.resultList f.resultTypes.size) (s.fn H (ds ++ gs)).results [])
    (hargs : ∀ sp : Nat → Bool, (∀ p ∈ before, sp p.block = true) → DataW.TrodAll enc P W' 0 sp true f.params.toList args.toList (s.fn H (ds ++ gs)).args pa)
    (hvars : ∀ sp : Nat → Bool, (∀ p ∈ before, sp p.block = true) → DataW.TrodVars enc P W' sp s.vars (s.fn H (ds ++ gs)).vars pv)
    (hps : before = pa ++ pv) (hb : Below W.heap.size W W')
    (hok : ∀ (j : Nat) (t : TypeId) (r : Value), f.resultTypes[j]? = some t → (v.resultList f.resultTypes.size)[j]? = some r → Value.okWide P W' .any 0 t r) :
    s.post enc P f apart fresh handsOn again W args v W' := by
  have hlt : ∀ p ∈ before, p.block < W.heap.size := fun p hp => hW.lt p hp
  have hold : ∀ p ∈ before, (fun b => decide (b < W.heap.size)) p.block = true := fun p hp => by simpa using hlt p hp
  refine ⟨ds, gs, before, [], pa, pv, hW, hres _ _ _, hargs _ hold, hvars _ hold, World.keptBut_mono (fun p hp => ⟨hp, ?_⟩) (hb.frame (· ∈ before)), fun _ => ?_⟩
  · rw [hps, List.mem_append] at hp
    exact Or.inr hp
  · obtain ⟨_, _, _, _, _, hz, hn⟩ := hW
    refine ⟨hok, _, _, ([] ++ pa) ++ pv, ⟨[] ++ pa, pv, trodAll_append (hargs _ (fun _ _ => rfl)) (hres _ _ _), hvars _ (fun _ _ => rfl), rfl, ?_, ?_⟩, ?_⟩
    · intro b off hp
      have hin : MemPlace.cell b off ∈ before := by rw [hps]; simpa using hp
      rw [hb.frozen (hlt _ hin)]
      exact hz b off hin
    · intro ha
      have := hn ha
      rw [hps] at this
      simpa using this
    · intro p hp _
      rw [hps]
      simpa using hp
/-- The arguments read as they did, whatever their types. -/
theorem trodAll_below (hl : laidOutB P = true) {W W' : World} (hb : Below W.heap.size W W') {sp : Nat → Bool} : ∀ {ts : List TypeId} {vs : List Value} {ds : List (DataW H)} {ps : List MemPlace},
    (ts.all fun t => P.readableRec t && decide (t < P.types.size)) = true → DataW.TrodAll enc P W 0 (fun _ => true) true ts vs ds ps → (∀ x ∈ ps, x.block < W.heap.size) → (∀ x ∈ ps, sp x.block = true) → DataW.TrodAll enc P W' 0 sp true ts vs ds ps
  | [], vs, ds, ps, _, h, _, _ => by
    obtain ⟨rfl, rfl, rfl⟩ := trodAll_nil h
    exact trodAll_mk0
  | t :: ts, vs, ds, ps, ht, h, hlt, hsp => by
    simp only [List.all_cons, Bool.and_eq_true, decide_eq_true_eq] at ht
    obtain ⟨v, vs', d, ds', p, q, rfl, rfl, rfl, h1, h2⟩ := trodAll_cons h
    exact trodAll_cons_mk (WideElems.Trod_stays hl ht.1.1 ht.1.2 h1 (fun x hx => hb.same (hlt x (by simp [hx]))) (fun x hx => hsp x (by simp [hx])))
      (trodAll_below hl hb (by simpa [Bool.and_eq_true] using ht.2) h2 (fun x hx => hlt x (by simp [hx])) (fun x hx => hsp x (by simp [hx])))
/-- A slice of integers, opened: a list that lies in the heap. -/
theorem open_list {W : World} {base : Nat} {t el : TypeId} {k : IntKind} {v : Value} {d : DataW H} {ps : List MemPlace} {sp : Nat → Bool} (ht : P.underlying t = some (.slice el)) (he : P.underlying el = some (.int k)) (hc : P.cellsOf el = 1)
    (hval : Value.okWide P W .any base t v) (h : DataW.Trod enc P W 0 sp true t v d ps) :
    ∃ A c l, v = .slice A l.length c ∧ SliceOf (fun x => Value.int k x) (fun i => W.heap[i]?) A c l ∧ ∀ x ∈ l, (Lit.int k x).wf = true := by
  obtain ⟨A, n, c, rfl⟩ := okWide_slice ht hval
  obtain ⟨fuel, hf⟩ := h
  rcases ChangeShapes.open_ints ht he hc hf with ⟨hcs, hx⟩ | ⟨a, len, cap, zs, hcs, _, hle, hm, hz, hx, hcell, hwz⟩
  · simp [Value.cells] at hcs
    obtain ⟨rfl, rfl, rfl⟩ := hcs
    exact ⟨none, 0, [], rfl, SliceOf.nil, by simp⟩
  · simp [Value.cells] at hcs
    obtain ⟨rfl, rfl, rfl⟩ := hcs
    have hzl : n ≤ zs.length := by rw [hz]; split <;> omega
    have hlen : (zs.take n).length = n := by rw [List.length_take]; omega
    refine ⟨some a, c, zs.take n, by rw [hlen], ⟨fun j u hj => ⟨rfl, ?_⟩, by rw [hlen]; exact hle, hm⟩, fun x hx => hwz x (List.mem_of_mem_take hx)⟩
    rw [List.getElem?_map, List.getElem?_take] at hj
    split at hj
    · rename_i hjn
      have := hcell j (by omega)
      rw [List.getElem?_eq_getElem (by omega)] at hj
      simp at hj
      rw [List.getD_eq_getElem?_getD, List.getElem?_eq_getElem (by omega)] at this
      rw [← hj]
      exact this
    · simp at hj
end
end Go.Eng
/-
  The proof engine, part F: memory that nobody writes any more; lists of lists.
-/
namespace Go.Eng
section
variable {C : Cx} {e e' : Env} {I I' : PH} {R R' : List Res} {K K' : Act → World → Prop} {Q : Exit → Act → World → Prop} {W : World}
theorem St.imm_le {w : World} (hle : PH.le I I') (h : St W I' R w) : St W I R w := by
  obtain ⟨⟨m, hm, hs⟩, hst⟩ := h
  exact ⟨⟨m, hm, ⟨fun i o hi => hs.imm i o (hle i o hi), hs.own, dis_sub hs.dis hle (PH.le_refl _)⟩⟩, hst⟩
/-- What was given up need not be told further on. -/
theorem Nx.imm_le (hle : PH.le I I') (h : Nx C e I R K) : Nx C e I' R K := fun a w ha hw => h a w ha (hw.imm_le hle)
theorem Stars.get : ∀ {R : List Res} {m : PH} (k : Nat) {r : Res}, Stars R m → nthL R k = some r → ∃ m', PH.le m' m ∧ r m'
  | [], _, k, r, _, hk => by cases k <;> simp [nthL] at hk
  | r0 :: R, m, 0, r, h, hk => by
    obtain ⟨m1, m2, hd, rfl, h1, _⟩ := h
    simp [nthL] at hk
    subst hk
    exact ⟨m1, PH.le_or_left _ _, h1⟩
  | r0 :: R, m, k + 1, r, h, hk => by
    obtain ⟨m1, m2, hd, rfl, _, h2⟩ := h
    obtain ⟨m', hle, hr⟩ := Stars.get k h2 hk
    exact ⟨m', hle.trans (PH.le_or_right hd), hr⟩
/-- Resource number k is given up for good: from here on nobody writes it. -/
theorem Nx.freezeAt (k : Nat) {r : Res} (hk : nthL R k = some r) (h : ∀ I' m, PH.le I I' → PH.le m I' → r m → Nx C e I' (R.eraseIdx k) K) : Nx C e I R K :=
  Nx.freeze (B := [r]) (R' := R.eraseIdx k) (Ent.pull k R r (nthL_eq.symm.trans hk)) (fun m hd hB => by
    obtain ⟨m1, m2, hd', rfl, hr, _⟩ := hB
    exact h _ m1 (PH.le_or_left _ _) ((PH.le_or_left m1 m2).trans (PH.le_or_right hd)) hr)
/-- Two of them. -/
theorem Nx.unfoldAt (k : Nat) {B : List Res} (hk : nthL R k = some (Stars B)) (h : Nx C e I (B ++ R.eraseIdx k) K) : Nx C e I R K := by
  refine Nx.ent (Ent.pull k R _ (nthL_eq.symm.trans hk)) (Nx.ent ?_ h)
  rintro m ⟨m1, m2, hd, rfl, h1, h2⟩
  obtain ⟨k, hk, hkS⟩ := Stars.join hd h1 h2
  exact ⟨k, hk, hkS⟩
/-- One more resource goes into a bundle: r and the bundle are the two that come first. -/
theorem Ent.bundle {r : Res} {B : List Res} {R : List Res} : Ent (r :: Stars B :: R) (Stars (B ++ [r]) :: R) := by
  refine (Ent.swap _ _ _).trans ?_
  rintro m ⟨m1, m2, hd, rfl, h1, n1, n2, hd', rfl, h2, h3⟩
  obtain ⟨d1, d2⟩ := PH.dis_or.1 hd
  obtain ⟨k, hk, hkS⟩ := Stars.join (a := B) (b := [r]) d1 h1 ⟨n1, fun _ => none, fun _ => .inr rfl, by funext i; unfold PH.or; cases n1 i <;> rfl, h2, trivial⟩
  have hkn : PH.dis k n2 := dis_sub (PH.dis.symm (PH.dis_or.2 ⟨d2.symm, hd'.symm⟩)) hk (PH.le_refl _)
  refine ⟨k.or n2, ?_, k, n2, hkn, rfl, hkS, h3⟩
  rw [← PH.or_assoc]
  refine PH.or_le (hk.trans (PH.le_or_left _ _)) (PH.le_or_right (PH.dis.symm (PH.dis_or.2 ⟨d2.symm, hd'.symm⟩)))
theorem Ent.stars_nil (R : List Res) : Ent R (Stars [] :: R) := fun m hm => ⟨m, PH.le_refl m, fun _ => none, m, fun _ => .inl rfl, by funext i; rfl, trivial, hm⟩
section
variable {d : Nat} {ty t el : TypeId} {pos : String} {after : Array Edge} {g : Option (Nat × Bool)} {x y : Operand} {A : Option Addr} {n c : Nat}
end
end
end Go.Eng
/-
  The proof engine, part G: a statement whose order is open, with allocations that may come at any time between calls.
-/
namespace Go.Eng
/-- An allocation without a guard: its number, its temporary, its type and its cells. -/
structure PoolOp where
  k : Nat
  d : Nat
  t : TypeId
  cs : List Value
def pe : List PoolOp → List (Option Nat) → Env
  | p :: ps, some b :: bs => (p.d, .pointer (some ⟨b, 0, none⟩)) :: pe ps bs
  | _ :: ps, none :: bs => pe ps bs
  | _, _ => []
def pr : List PoolOp → List (Option Nat) → List Res
  | p :: ps, some b :: bs => Blk b p.t p.cs :: pr ps bs
  | _ :: ps, none :: bs => pr ps bs
  | _, _ => []
def keysFree (pool : List PoolOp) : Env → Bool
  | [] => true
  | (t, _) :: e => pool.all (fun p => !Nat.beq p.d t) && keysFree pool e
theorem lk_cons (k : Nat) (u : Value) (r : Env) (t : Nat) : lk ((k, u) :: r) t = match Nat.beq k t with | true => some u | false => lk r t := rfl
theorem Stars.up : ∀ {R : List Res} {m m' : PH}, Stars R m' → PH.le m' m → Stars R m
  | [], _, _, _, _ => trivial
  | r :: rs, m, _, ⟨m1, m2, hd, rfl, hr, h2⟩, hle => by
    refine ⟨m1, fun i => match m1 i with | some _ => none | none => m i, fun i => ?_, ?_, hr, Stars.up h2 fun i o hi => ?_⟩
    · cases h : m1 i with
      | none => exact .inl rfl
      | some o => exact .inr (by show (match m1 i with | some _ => none | none => m i) = none; rw [h])
    · funext i
      show m i = (match m1 i with | some o => some o | none => (match m1 i with | some _ => none | none => m i))
      cases h : m1 i with
      | none => simp only
      | some o => exact hle i o (PH.le_or_left m1 m2 i o h)
    · have h1 : m1 i = none := by
        rcases hd i with h | h
        · exact h
        · rw [h] at hi; cases hi
      show (match m1 i with | some _ => none | none => m i) = some o
      rw [h1]
      exact hle i o (PH.le_or_right hd i o hi)
theorem lk_app_l {a b : Env} {t : Nat} {v : Value} (h : lk a t = some v) : lk (a ++ b) t = some v := by
  induction a with
  | nil => simp [lk] at h
  | cons x r ih =>
    obtain ⟨k, u⟩ := x
    simp only [List.cons_append]
    rw [lk_cons] at h ⊢
    cases hb : Nat.beq k t with
    | true => rw [hb] at h; exact h
    | false => rw [hb] at h; exact ih h
def Good (C : Cx) (ops : Array Oper) (Q : Exit → Act → World → Prop) (S : World → Prop) (I : PH) (pool : List PoolOp) (loud rest : List Nat) : List Nat → Env → List Res → Prop
  | [], e, R => keysFree pool e = true ∧ ∀ bs : List Nat, bs.length = pool.length → Nx C (e ++ pe pool (bs.map some)) I (Stars (pr pool (bs.map some)) :: R) (wpMix C.P ops Q S loud rest)
  | k :: ch, e, R => keysFree pool e = true ∧ ∀ (ex : Env) (X : Res), Nx C (e ++ ex) I (X :: R) (wpOp C.P ops Q k (fun a w => S w ∧ ∃ e' R', Mod C.n (e' ++ ex) a ∧ St C.W I (X :: R') w ∧ Good C ops Q S I pool loud rest ch e' R'))
theorem Good.free {C : Cx} {ops : Array Oper} {Q : Exit → Act → World → Prop} {S : World → Prop} {I : PH} {pool : List PoolOp} {loud rest ch : List Nat} {e : Env} {R : List Res} (h : Good C ops Q S I pool loud rest ch e R) : keysFree pool e = true := by
  cases ch <;> exact h.1
def PoolS (C : Cx) (ops : Array Oper) (Q : Exit → Act → World → Prop) (S : World → Prop) (I : PH) (pool : List PoolOp) (loud rest ch : List Nat) (ex : Env) (X : Res) : Act → World → Prop :=
  fun a w => S w ∧ ∃ e' R', Mod C.n (e' ++ ex) a ∧ St C.W I (X :: R') w ∧ Good C ops Q S I pool loud rest ch e' R'
structure PoolFit (C : Cx) (ops : Array Oper) (p : PoolOp) : Prop where
  op : ∃ ty pos after, ops[p.k]? = some ⟨some p.d, .alloc p.t, ty, pos, after, none⟩
  zero : zeroOf C.P p.t = some p.cs
  lt : Nat.blt p.d C.n = true
section
variable {C : Cx} {e e' : Env} {I : PH} {R R' R0 : List Res} {K K' : Act → World → Prop} {Q : Exit → Act → World → Prop} {W : World}
variable {ops : Array Oper} {S : World → Prop} {loud rest ch : List Nat} {pool : List PoolOp}
/-! The rules for a walk -/
def preOk (ops : Array Oper) (k : Array Bool → Bool) : List Nat → Array Bool → Bool
  | [], listed => k listed
  | q :: r, listed => Region.free .any ops listed q && (Region.ready .any ops listed).contains q && preOk ops k r (listed.setIfInBounds q true)
theorem wpMix_pre {P : Program} {T : Act → World → Prop} (hs : Region.noSelect ops = true) (hQ : PanicOk Q) {k : Array Bool → Bool} {fuel : Nat} (hT : ∀ listed a w, k listed = true → S w → T a w → wpAnyH P .any ops Q S fuel listed a w) : ∀ (q : List Nat) (listed : Array Bool) (a : Act) (w : World),
    preOk ops k q listed = true → S w → wpMix P ops (Exit.then T Q) S [] q a w → wpAnyH P .any ops Q S (fuel + q.length) listed a w
  | [], listed, a, w, hok, hSw, h => hT listed a w hok hSw h
  | i :: r, listed, a, w, hok, hSw, h => by
    obtain ⟨o, ho, h⟩ := h
    simp only [preOk, Bool.and_eq_true] at hok
    rw [if_neg (by simp)] at h
    obtain ⟨v, hy, h⟩ := h
    exact wpAnyH_take ho hs hok.1.1 hok.1.2 (fun c a w => hQ c o.dst v a w) hy hSw (wpMix_pre hs hQ hT r _ _ w hok.2 hSw h)
variable {c : Code}
/-- One call. -/
theorem Good.call {k : Nat} {o : Oper} (hf : keysFree pool e = true) (ho : opAt ops.toList k = some o) (hg : o.guard = none) (h : ∀ (ex : Env) (X : Res), Nx C (e ++ ex) I (X :: R) (opK C.P o (PoolS C ops Q S I pool loud rest ch ex X) Q)) : Good C ops Q S I pool loud rest (k :: ch) e R :=
  ⟨hf, fun ex X a w ha hw => by
    unfold wpOp
    simp only [opAt_arr ho]
    rw [if_pos (by simp [Region.wanted, hg])]
    exact .inl (h ex X a w ha hw)⟩
theorem Good.done (hf : keysFree pool e = true) (h : ∀ bs : List Nat, bs.length = pool.length → Nx C (e ++ pe pool (bs.map some)) I (Stars (pr pool (bs.map some)) :: R) (wpMix C.P ops Q S loud rest)) : Good C ops Q S I pool loud rest [] e R := ⟨hf, h⟩
end
end Go.Eng
/-
  The proof engine, part H: a statement of open order whose last operations write what its first ones read: behind them nothing is asked of the world.
-/
namespace Go.Eng
/-- In whatever order the operations come up, S holds behind each of them that is not among the last ones. -/
def wpAnyF (P : Program) (md : Region.Mode) (ops : Array Oper) (Q : Exit → Act → World → Prop) (S : World → Prop) (fin : List Nat) : Nat → Array Bool → Act → World → Prop
  | 0, listed, a, w => Region.ready md ops listed = [] ∧ Q .normal a w
  | n + 1, listed, a, w => (Region.ready md ops listed = [] → Q .normal a w) ∧
    ∀ i ∈ Region.ready md ops listed, wpOp P ops Q i (fun a' w' => (fin.contains i = false → S w') ∧ wpAnyF P md ops Q S fin n (listed.setIfInBounds i true) a' w') a w
section
variable {P : Program} {ops : Array Oper} {Q : Exit → Act → World → Prop} {md : Region.Mode} {S : World → Prop} {fin : List Nat}
theorem wpAny_of_fin : ∀ (n : Nat) (listed : Array Bool) (a : Act) (w : World), wpAnyF P md ops Q S fin n listed a w → wpAny P md ops Q n listed a w
  | 0, _, _, _, h => h
  | n + 1, _, _, _, h => ⟨h.1, fun i hi => wpOp_mono (fun a' w' h' => wpAny_of_fin n _ a' w' h'.2) (h.2 i hi)⟩
theorem ready_waits {i j : Nat} {oj : Oper} {listed : Array Bool} (hi : i ∈ Region.ready md ops listed) (hj : j ∈ Region.ready md ops listed) (ho : ops[j]? = some oj) : ∀ e ∈ oj.after, Region.binds md e = true → e.on ≠ i := by
  intro e he hb heq
  obtain ⟨_, o, ho', hall⟩ := mem_ready.1 hj
  obtain ⟨h0, _, _, _⟩ := mem_ready.1 hi
  rw [ho] at ho'
  obtain rfl : oj = o := by simpa using ho'
  have h1 := hall e he hb
  subst heq
  rcases Nat.lt_or_ge e.on listed.size with h' | h'
  · simp [h'] at h0 h1
    rw [h0] at h1; cases h1
  · simp [Array.getElem?_eq_none h'] at h1
/-- Whatever has come up, what it waits for has come up. -/
def Closed (md : Region.Mode) (ops : Array Oper) (listed : Array Bool) : Prop := ∀ k o, ops[k]? = some o → listed.getD k false = true → ∀ e ∈ o.after, Region.binds md e = true → listed.getD e.on false = true
theorem Closed.start (n : Nat) : Closed md ops (Array.replicate n false) := fun k o _ h => by
  exfalso
  by_cases hk : k < n <;> simp [hk] at h
theorem Closed.set {i : Nat} {listed : Array Bool} (h : Closed md ops listed) (hi : i ∈ Region.ready md ops listed) : Closed md ops (listed.setIfInBounds i true) := fun k o ho hk e he hb => by
  by_cases hik : i = k
  · subst hik
    obtain ⟨_, o', ho', hall⟩ := mem_ready.1 hi
    rw [ho] at ho'
    obtain rfl : o = o' := by simpa using ho'
    exact getD_set_true (hall e he hb)
  · rw [getD_set_ne false hik] at hk
    exact getD_set_true (h k o ho hk e he hb)
/-- Number j waits for number i, directly or through others. -/
def waitsOn (md : Region.Mode) (ops : Array Oper) : Nat → Nat → Nat → Bool
  | 0, _, _ => false
  | n + 1, j, i => match ops[j]? with
    | some o => o.after.any fun e => Region.binds md e && (Nat.beq e.on i || waitsOn md ops n e.on i)
    | none => false
theorem waitsOn_listed {i : Nat} {listed : Array Bool} (hc : Closed md ops listed) : ∀ (n j : Nat), waitsOn md ops n j i = true → (∀ o, ops[j]? = some o → ∀ e ∈ o.after, Region.binds md e = true → listed.getD e.on false = true) → listed.getD i false = true
  | 0, j, h, _ => by simp [waitsOn] at h
  | n + 1, j, h, hj => by
    unfold waitsOn at h
    split at h
    · rename_i o ho
      obtain ⟨e, he, hb⟩ := Array.any_eq_true'.1 h
      simp only [Bool.and_eq_true, Bool.or_eq_true] at hb
      have h1 := hj o ho e he hb.1
      rcases hb.2 with h2 | h2
      · rw [← Nat.eq_of_beq_eq_true h2]; exact h1
      · exact waitsOn_listed hc n e.on h2 fun o' ho' => hc e.on o' ho' h1
    · cases h
/-- The last ones wait for number i. -/
def finWaits (md : Region.Mode) (ops : Array Oper) (fin : List Nat) (i : Nat) : Bool := fin.all fun j => waitsOn md ops 2 j i || waitsOn md ops 4 j i || waitsOn md ops 9 j i
theorem finWaits_not {i j : Nat} {listed : Array Bool} (hc : Closed md ops listed) (h : finWaits md ops fin i = true) (hi : i ∈ Region.ready md ops listed) (hj : j ∈ Region.ready md ops listed) : fin.contains j = false := by
  cases hf : fin.contains j with
  | false => rfl
  | true =>
    exfalso
    have h1 := List.all_eq_true.1 h j (by simpa using hf)
    obtain ⟨_, oj, hoj, hall⟩ := mem_ready.1 hj
    have hj' : ∀ o, ops[j]? = some o → ∀ e ∈ o.after, Region.binds md e = true → listed.getD e.on false = true := fun o ho => by
      rw [hoj] at ho
      obtain rfl : oj = o := by simpa using ho
      exact hall
    have h2 : listed.getD i false = true := by
      simp only [Bool.or_eq_true] at h1
      rcases h1 with (h1 | h1) | h1 <;> exact waitsOn_listed hc _ j h1 hj'
    have h0 := (mem_ready.1 hi).1
    rcases Nat.lt_or_ge i listed.size with h' | h'
    · simp [h'] at h0 h2
      rw [h0] at h2; cases h2
    · simp [Array.getElem?_eq_none h'] at h2
theorem wpAnyF_first {i : Nat} {oi : Oper} {v : Value} (hi : ops[i]? = some oi) (hs : Region.noSelect ops = true) (hQ : PanicOk Q) (hfin : finWaits md ops fin i = true) :
    ∀ (n : Nat) (listed : Array Bool) (a : Act) (w : World), Closed md ops listed →
      (∀ j oj, ops[j]? = some oj → j ≠ i → listed.getD j true = false → (∀ e ∈ oj.after, Region.binds md e = true → e.on ≠ i) → oi.apart ops oj = true) →
      i ∈ Region.ready md ops listed → YieldsIf P ops S oi v a → S w →
      wpAnyF P md ops Q S fin n (listed.setIfInBounds i true) (a.put oi.dst v) w → wpAnyF P md ops Q S fin (n + 1) listed a w
  | n, listed, a, w, hcl, hap, hr, hy, hS, H => by
    refine ⟨fun h0 => (by rw [h0] at hr; cases hr), fun j hj => ?_⟩
    by_cases hji : j = i
    · subst hji; exact hy.wpOp hi hS ⟨fun _ => hS, H⟩
    · have hj2 := ready_mono hj hji
      obtain ⟨hjun, oj, hoj, _⟩ := mem_ready.1 hj
      have hno := ready_waits hr hj hoj
      have hnf := finWaits_not hcl hfin hr hj
      match n, H with
      | 0, H => rw [H.1] at hj2; cases hj2
      | n + 1, H =>
        have h1 := H.2 j hj2
        have h2 := wpOp_putIf hoj (hap j oj hoj hji hjun hno) (fun cs b => Region.noSelect_spec hs i oi cs b hi) (fun cs b => Region.noSelect_spec hs j oj cs b hoj) (fun c a w => hQ c oi.dst v a w) hy h1
        refine wpOp_mono (fun a' w' h3 => ?_) h2
        obtain ⟨hy', hS', H'⟩ := h3
        refine ⟨fun _ => hS' hnf, wpAnyF_first hi hs hQ hfin n (listed.setIfInBounds j true) a' w' (hcl.set hj) (fun k ok hk hki hun hnk => ?_) (ready_mono hr (Ne.symm hji)) hy' (hS' hnf) ?_⟩
        · refine hap k ok hk hki ?_ hnk
          by_cases hjk : j = k
          · subst hjk; exact hjun
          · rwa [getD_set_ne true hjk] at hun
        · rw [Array.setIfInBounds_comm _ _ hji]
          exact H'
theorem wpOp_then {T : Act → World → Prop} {i : Nat} {a : Act} {w : World} {K : Act → World → Prop} (hh : wpOp P ops (Exit.then T Q) i K a w) : wpOp P ops Q i K a w := by
  unfold wpOp at *
  split
  · simpa [*] using hh
  · rename_i o ho
    simp only [ho] at hh
    split
    · rename_i hw
      simp only [hw, if_true] at hh
      rcases hh with hh | hh
      · refine .inl ?_
        unfold Oper.wp at *
        generalize (execOp a.eval o).run P w = r at *
        cases r with
        | ok n w' =>
          cases n <;> simp only [Oper.upon] at hh ⊢ <;>
            first
              | exact hh
              | exact Calls.mono hh (fun e w'' he => by cases e <;> exact he)
              | exact Rows.mono hh (fun _ _ he => he)
        | halt x w' => cases x <;> simp only [Oper.upon] at hh ⊢ <;> exact hh
      · exact .inr hh
    · rename_i hw
      simpa [hw] using hh
def mixOkF (ops : Array Oper) (fin loud : List Nat) : List Nat → Array Bool → Bool
  | [], listed => mixOk ops fin fin listed
  | k :: r, listed => (if loud.contains k then Region.ready .any ops listed == [k] && !(fin.contains k) else Region.free .any ops listed k && (Region.ready .any ops listed).contains k && finWaits .any ops fin k) && mixOkF ops fin loud r (listed.setIfInBounds k true)
theorem wpMix_fin (hs : Region.noSelect ops = true) (hQ : PanicOk Q) (hall : ∀ k ∈ fin, fin.contains k = true) : ∀ (r : List Nat) (n : Nat) (listed : Array Bool) (a : Act) (w : World), (∀ k ∈ r, fin.contains k = true) →
    mixOk ops fin r listed = true → r.length ≤ n → wpMix P ops Q AnyW fin r a w → wpAnyF P .any ops Q S fin n listed a w
  | [], n, listed, a, w, _, hok, _, h => by
    have hr : Region.ready .any ops listed = [] := by simpa [mixOk] using hok
    cases n with
    | zero => exact ⟨hr, h⟩
    | succ n => exact ⟨fun _ => h, by rw [hr]; simp⟩
  | k :: r, 0, listed, a, w, _, _, hl, _ => by simp at hl
  | k :: r, n + 1, listed, a, w, hk, hok, hl, h => by
    obtain ⟨o, ho, h⟩ := h
    have hkf := hk k (by simp)
    unfold mixOk at hok
    rw [if_pos hkf] at h hok
    simp only [Bool.and_eq_true, beq_iff_eq] at hok
    refine ⟨fun h0 => (by rw [hok.1] at h0; cases h0), fun i hi => ?_⟩
    rw [hok.1] at hi
    obtain rfl : i = k := by simpa using hi
    refine wpOp_mono (fun a' w' h3 => ⟨fun hf => ?_, wpMix_fin hs hQ hall r n _ a' w' (fun j hj => hk j (by simp [hj])) hok.2 (by simpa using hl) h3.2⟩) h
    rw [hkf] at hf; cases hf
theorem wpMix_anyF (hs : Region.noSelect ops = true) (hQ : PanicOk Q) {loud : List Nat} : ∀ (ord : List Nat) (n : Nat) (listed : Array Bool) (a : Act) (w : World), Closed .any ops listed →
    mixOkF ops fin loud ord listed = true → ord.length + fin.length ≤ n → S w → wpMix P ops (Exit.then (wpMix P ops Q AnyW fin fin) Q) S loud ord a w → wpAnyF P .any ops Q S fin n listed a w
  | [], n, listed, a, w, _, hok, hl, _, h => wpMix_fin hs hQ (fun k hk => by simpa using hk) fin n listed a w (fun k hk => by simpa using hk) hok (by simpa using hl) h
  | k :: r, 0, listed, a, w, _, _, hl, _, _ => by simp at hl
  | k :: r, n + 1, listed, a, w, hcl, hok, hl, hS, h => by
    obtain ⟨o, ho, h⟩ := h
    unfold mixOkF at hok
    rw [Bool.and_eq_true] at hok
    obtain ⟨hk, hr⟩ := hok
    have hl' : r.length + fin.length ≤ n := by simp only [List.length_cons] at hl; omega
    by_cases hc : loud.contains k = true
    · rw [if_pos hc] at h hk
      simp only [Bool.and_eq_true, beq_iff_eq, Bool.not_eq_true'] at hk
      refine ⟨fun h0 => (by rw [hk.1] at h0; cases h0), fun i hi => ?_⟩
      rw [hk.1] at hi
      obtain rfl : i = k := by simpa using hi
      refine wpOp_then (T := wpMix P ops Q AnyW fin fin) ?_
      exact wpOp_mono (fun a' w' h3 => ⟨fun _ => h3.1, wpMix_anyF hs hQ r n _ a' w' (hcl.set (by rw [hk.1]; simp)) hr hl' h3.1 h3.2⟩) h
    · rw [if_neg hc] at h hk
      simp only [Bool.and_eq_true] at hk
      obtain ⟨v, hy, h⟩ := h
      exact wpAnyF_first ho hs hQ hk.2 n listed a w hcl (Region.free_spec ho hk.1.1) (by simpa using hk.1.2) hy hS (wpMix_anyF hs hQ r n _ _ w (hcl.set (by simpa using hk.1.2)) hr hl' hS h)
end
section
variable {C : Cx} {e e' : Env} {I : PH} {R R' R0 : List Res} {K K' : Act → World → Prop} {Q : Exit → Act → World → Prop} {W : World} {c : Code} {ops : Array Oper}
theorem Nx.p_drawF {id : Nat} (hid : cid c = id) (ord loud fin : List Nat) (R0 : List Res) (hk : ck c = 2) (hm : C.P.follows .mixedOrders = true) (hs : Region.noSelect (cops c) = true) (hok : mixOkF (cops c) fin loud ord (Array.replicate (cops c).size false) = true) (hlen : Nat.ble (ord.length + fin.length) (cops c).size = true) (hQ : PanicOk Q) (hR : Ent R R0)
    (h : Nx C e I R (wpMix C.P (cops c) (Exit.then (wpMix C.P (cops c) Q AnyW fin fin) Q) (St C.W I R0) loud ord)) : Nx C e I R (c.wp C.P Q) := by
  have hc : c = .region (cid c) (cops c) true := by
    cases c <;> first | (simp [ck] at hk; done) | skip
    rename_i b
    cases b with
    | false => simp [ck] at hk
    | true => rfl
  clear hid
  rw [hc]
  intro a w ha hw
  refine wp_region_any hm (wpAny_of_fin _ _ _ _ (wpMix_anyF (S := St C.W I R0) hs hQ ord _ _ a _ (Closed.start _) hok (Nat.le_of_ble_eq_true hlen) (hw.drew.ent hR) (h a _ ha hw.drew)))
theorem Ent.eraseK : ∀ (k : Nat) (R : List Res), Ent R (R.eraseIdx k)
  | _, [] => Ent.refl _
  | 0, _ :: _ => Ent.drop (Ent.refl _)
  | k + 1, _ :: R => Ent.cons (Ent.eraseK k R)
/-! ## Results: temporaries and variables of the call's own, mixed -/
/-- One result's value. -/
def resOne (tmps : Array Value) : ResultVar → Sem Value
  | .tmp t => pure (tmps.getD t undef)
  | .cell x t => do loadVar t (← asAddr (tmps.getD x undef))
def ROne (C : Cx) (e : Env) (I : PH) (R : List Res) (r : ResultVar) (v : Value) : Prop := ∀ a w, Mod C.n e a → St C.W I R w → (resOne a.tmps r).run C.P w = .ok v w
variable {v v1 v2 v3 : Value}
theorem ROne.tmp {t : Nat} (h : lk e t = some v) : ROne C e I R (.tmp t) v := fun a w ha _ => by simp [resOne, ha.get t v h]
theorem ROne.cell (k : Nat) {nc t0 b : Nat} {ty tb : TypeId} {cs : List Value} (hx : lk e t0 = some (.pointer (some ⟨b, 0, none⟩))) (ht : aggT C.P ty = true) (hn : cellsIn C.P ty = some nc) (hl : cs.length = nc) (hk : nthL R k = some (Blk b tb cs)) : ROne C e I R (.cell t0 ty) (.agg cs.toArray) := fun a w ha hw => by
  have hload := run_loadVar_agg (A := ⟨b, 0, none⟩) ht hn hl (fun j u hj => (Rds.at_ k hk : Rds C.W I R ⟨b, 0, none⟩ cs) j u hj w hw)
  simp [resOne, ha.get t0 _ hx, asAddr, hload]
end
end Go.Eng
/-
  The proof engine, part K: a statement of open order with allocations that may come at any time, in steps that a walk finds by itself.
-/
namespace Go.Eng
/-- What is still to come: a chain of operations (those that only read are taken first, the others come up one behind the other), allocations at any time, and last ones behind all of them. -/
def GoodF (C : Cx) (ops : Array Oper) (Q : Exit → Act → World → Prop) (S : World → Prop) (I : PH) (pool : List PoolOp) (loud fin : List Nat) : List Nat → Env → List Res → Prop
  | [], e, R => keysFree pool e = true ∧ ∀ bs : List Nat, bs.length = pool.length → Nx C (e ++ pe pool (bs.map some)) I (Stars (pr pool (bs.map some)) :: R) (wpMix C.P ops Q AnyW fin fin)
  | k :: ch, e, R => keysFree pool e = true ∧ match loud.contains k with
    | true => ∀ (ex : Env) (X : Res), Nx C (e ++ ex) I (X :: R) (wpOp C.P ops Q k (fun a w => S w ∧ ∃ e' R', Mod C.n (e' ++ ex) a ∧ St C.W I (X :: R') w ∧ GoodF C ops Q S I pool loud fin ch e' R'))
    | false => ∃ o v e', ops[k]? = some o ∧ (∀ a ex, Mod C.n (e ++ ex) a → YieldsIf C.P ops S o v a ∧ Mod C.n (e' ++ ex) (a.put o.dst v)) ∧ GoodF C ops Q S I pool loud fin ch e' R
theorem GoodF.free {C : Cx} {ops : Array Oper} {Q : Exit → Act → World → Prop} {S : World → Prop} {I : PH} {pool : List PoolOp} {loud fin ch : List Nat} {e : Env} {R : List Res} (h : GoodF C ops Q S I pool loud fin ch e R) : keysFree pool e = true := by
  cases ch <;> exact h.1
section
variable {C : Cx} {e e' : Env} {I : PH} {R R' R0 : List Res} {K K' : Act → World → Prop} {Q : Exit → Act → World → Prop} {W : World}
variable {ops : Array Oper} {S : World → Prop} {loud fin ch : List Nat} {pool : List PoolOp} {c : Code} {o : Oper}
theorem GoodF.is (h : GoodF C ops Q S I pool loud fin ch e R) : GoodF C ops Q S I pool loud fin ch e R := h
theorem Mod.app_l {n : Nat} {a : Act} {ex : Env} (h : Mod n (e ++ ex) a) : Mod n e a := ⟨h.size, h.defers, fun t v ht => h.get t v (lk_app_l ht)⟩
theorem GoodF.quiet {k d : Nat} {v : Value} (hf : keysFree pool e = true) (hl : loud.contains k = false) (ho : opAt ops.toList k = some o) (hg : o.guard = none) (hd : o.dst = some d) (hlt : Nat.blt d C.n = true) (hrun : QRun C e S o v) (h : GoodF C ops Q S I pool loud fin ch ((d, v) :: e) R) : GoodF C ops Q S I pool loud fin (k :: ch) e R :=
  ⟨hf, by
    rw [hl]
    refine ⟨o, v, (d, v) :: e, opAt_arr ho, fun a ex ha => ⟨.inl ⟨by simp [Region.wanted, hg], fun w hS => hrun a w ha.app_l hS⟩, ?_⟩, h⟩
    rw [hd]
    exact ha.put hlt v⟩
theorem PoolFit.cons {p : PoolOp} {r : List PoolOp} (h : PoolFit C ops p) (hr : ∀ q ∈ r, PoolFit C ops q) : ∀ q ∈ p :: r, PoolFit C ops q := fun q hq => by
  rcases List.mem_cons.1 hq with rfl | hq
  · exact h
  · exact hr q hq
theorem PoolFit.nil : ∀ q ∈ ([] : List PoolOp), PoolFit C ops q := fun q hq => by simp at hq
end
end Go.Eng
/-
  The proof engine, part U: unsigned whole numbers of 64 bits: sums that wrap, shifts, bits.
-/
namespace Go.Eng
section
variable {P : Program} {t : TypeId} {x y : Operand} {p q : Int}
end
/-! The highest bit -/
/-! A call that the model answers itself -/
section
variable {C : Cx} {e : Env} {I : PH} {R : List Res} {K : Act → World → Prop} {Q : Exit → Act → World → Prop}
variable {d : Nat} {ty : TypeId} {pos : String} {after : Array Edge} {g : Option (Nat × Bool)} {v : Value}
theorem Nx.binr {op : BinOp} {t u : TypeId} {x y : Operand} {vx vy : Value} (hx : evo e x = some vx) (hy : evo e y = some vy) (hv : ∀ w, (do eqGuard op t x y vx vy; binOp op t vx vy).run C.P w = .ok v w) (hlt : Nat.blt d C.n = true)
    (h : Nx C ((d, v) :: e) I R K) : Nx C e I R (opK C.P ⟨some d, .binOp op t x y u, ty, pos, after, g⟩ K Q) :=
  Nx.op_run rfl hlt (fun a w ha _ => by simp only [execOp, ha.eval hx, ha.eval hy]; exact run_v (hv w)) h
end
end Go.Eng
/-
  The proof engine, part R: fractions as rational numbers.
-/
namespace Go.Eng
section
variable {P : Program} {t : TypeId} {x y : Operand} {p q : Int}
theorem run_remT (hq : q ≠ 0) : pureRun P (do eqGuard .rem t x y (.int .i64 p) (.int .i64 q); binOp .rem t (.int .i64 p) (.int .i64 q)) = some (.int .i64 (p.tmod q)) := by
  rw [eqGuard_rem, binOp_rem]
  unfold pureRun
  simp [Op.intDiv, hq]; rfl
end
/-- A fraction's two numbers, not too large. -/
def RB (q : Rat) : Prop := q.num.natAbs ≤ 1152921504606846976 ∧ q.den ≤ 1152921504606846976
instance (q : Rat) : Decidable (RB q) := by unfold RB; infer_instance
def FOk (n d : Int) : Prop := 1 ≤ d ∧ d ≤ 1152921504606846976 ∧ -1152921504606846976 ≤ n ∧ n ≤ 1152921504606846976 ∧ Nat.gcd n.natAbs d.natAbs = 1
instance (n d : Int) : Decidable (FOk n d) := by unfold FOk; infer_instance
end Go.Eng
/-
  The proof engine, part T: a library function that makes new memory and draws; strings.
-/
namespace Go.Eng
open Go.Sort (grow)
theorem St.grown {W w : World} {I : PH} {R : List Res} (h : St W I R w) (k : Nat) (os : Array Obj) : St W I R (grow (w.drewN k) os) := by
  obtain ⟨⟨m, hm, hs⟩, hst⟩ := h
  have hold : ∀ (i : Nat) (o : Obj), w.heap[i]? = some o → (grow (w.drewN k) os).heap[i]? = some o := fun i o hi => by
    have hlt := (Array.getElem?_eq_some_iff.1 hi).1
    show (w.heap ++ os)[i]? = some o
    rw [Array.getElem?_append_left hlt]
    exact hi
  refine ⟨⟨m, hm, ⟨fun i o hi => hold i o (hs.imm i o hi), fun i o hi => hold i o (hs.own i o hi), hs.dis⟩⟩, ⟨hst.os, hst.tape, hst.output, Nat.le_trans hst.size (Lib.size_grow w k os), Nat.le_trans hst.drawn (Nat.le_add_right _ _)⟩⟩
/-- A text, by its bytes. -/
def strV (l : List UInt8) : Value := .string ⟨l.toArray⟩
section
variable {P : Program} {t : TypeId} {x y : Operand} {a b : List UInt8}
theorem run_streq (w : World) : (do eqGuard .eql t x y (.string ⟨a.toArray⟩) (.string ⟨b.toArray⟩); binOp .eql t (.string ⟨a.toArray⟩) (.string ⟨b.toArray⟩)).run P w = .ok (.bool (a == b)) w := by
  rw [eqGuard_at_string, binOp_string_eql, ByteArray.toList_mk, ByteArray.toList_mk]
  rfl
theorem run_strne (w : World) : (do eqGuard .neq t x y (.string ⟨a.toArray⟩) (.string ⟨b.toArray⟩); binOp .neq t (.string ⟨a.toArray⟩) (.string ⟨b.toArray⟩)).run P w = .ok (.bool (!(a == b))) w := by
  rw [eqGuard_at_string, binOp_string_neq, ByteArray.toList_mk, ByteArray.toList_mk]
  rfl
end
end Go.Eng
/-
  The proof engine, part M: maps that are owned, as lists of keys and values.
-/
namespace Go.Eng
open Go.Instr
/-- How keys of one kind lie in a map. -/
structure KeyEnc (P : Program) (kt : TypeId) {κ : Type} [DecidableEq κ] (g : κ → Value) : Prop where
  same : ∃ kind, P.underlying kt = some kind ∧ ∀ a b, sameNow kind (g a) (g b) = some (decide (a = b))
  check : ∀ (em : Bool) (a : κ) (w : World), (checkKey em 10000 kt (g a)).run P w = .ok () w
  bits : ∀ a, sameBits 10000 (g a) (g a) = true
theorem KeyEnc.int {P : Program} {kt : TypeId} {k : IntKind} (h : P.underlying kt = some (.int k)) : KeyEnc P kt (fun x : Int => Value.int k x) := by
  refine ⟨⟨_, h, fun a b => ?_⟩, fun em a w => ?_, fun a => by simp [sameBits]⟩
  · simp only [sameNow, if_pos]
    by_cases hab : a = b <;> simp [hab]
  · unfold checkKey
    rw [Sem.run_bind, run_underlying h, Result.andThen_ok]
    rfl
section
variable {κ α : Type} [DecidableEq κ] {g : κ → Value} {f : α → Value}
end
section
variable {C : Cx} {e e' : Env} {I : PH} {R R' R0 : List Res} {K K' : Act → World → Prop} {Q : Exit → Act → World → Prop} {W : World}
variable {d : Nat} {ty t : TypeId} {pos : String} {after : Array Edge} {gd : Option (Nat × Bool)} {x y z : Operand} {dst : Option Tmp}
variable {κ α : Type}
variable [DecidableEq κ]
end
end Go.Eng
/-
  The proof engine, part X: strings: their bytes, their parts, their order; bytes made into strings and back; a string appended to bytes.
-/
namespace Go.Eng
open Go.Lib (strCells)
open Go.Instr
variable {C : Cx} {e e' : Env} {I : PH} {R R' : List Res} {K K' : Act → World → Prop} {Q : Exit → Act → World → Prop}
variable {d : Nat} {ty t u el : TypeId} {pos : String} {after : Array Edge} {g : Option (Nat × Bool)} {x y z : Operand} {v vx vy vz : Value} {A : Option Addr} {n c : Nat}
/-- A byte's value. -/
def byteV (b : UInt8) : Value := .int .u8 b.toNat
/-- len(s). -/
theorem Nx.len_strV {tys : Array TypeId} {l : List UInt8} (hx : evo e x = some (strV l)) (hty : tys = #[t]) (ht : C.P.underlying t = some .string) (hlt : Nat.blt d C.n = true)
    (h : Nx C ((d, .int .i64 l.length) :: e) I R K) : Nx C e I R (opK C.P ⟨some d, .call { callee := .builtin .len, args := #[x], argTypes := tys }, ty, pos, after, g⟩ K Q) := by
  refine Nx.len_str (s := ⟨l.toArray⟩) hx hty ht hlt ?_
  rw [show ((ByteArray.mk l.toArray).size : Int) = l.length by simp [ByteArray.size]]
  exact h
theorem run_index_str {P : Program} {k : IntKind} {l : List UInt8} {i : Nat} (ht : P.underlying t = some .string) (hi : i < l.length) (w : World) : (Instr.index t (strV l) (.int k (i : Int))).run P w = .ok (byteV (l.getD i default)) w := by
  have h := run_index_string (P := P) w t ⟨l.toArray⟩ k (i : Int) ht
  have hs : (ByteArray.mk l.toArray).size = l.length := by simp [ByteArray.size]
  rw [dif_pos ⟨by omega, by rw [hs]; omega⟩] at h
  have he : (ByteArray.mk l.toArray)[(i : Int).toNat]'(by rw [hs]; omega) = l.getD i default := by
    rw [List.getD_eq_getElem?_getD, List.getElem?_eq_getElem hi]
    show (l.toArray)[(i : Int).toNat]'_ = _
    simp
  rw [he] at h
  exact h
/-- s[i] of a string. -/
theorem Nx.index_str {k : IntKind} {l : List UInt8} {i : Nat} (hx : evo e x = some (strV l)) (hy : evo e y = some (.int k (i : Int))) (ht : C.P.underlying t = some .string)
    (hlt : Nat.blt d C.n = true) (hi : i < l.length) (hk : Nx C ((d, byteV (l.getD i default)) :: e) I R K) : Nx C e I R (opK C.P ⟨some d, .index t x y, ty, pos, after, g⟩ K Q) :=
  Nx.op_run rfl hlt (fun a w ha _ => by
    simp only [execOp, ha.eval hx, ha.eval hy]
    exact run_v (run_index_str ht hi w)) hk
theorem QRun.index_str {S : World → Prop} {dst : Option Tmp} {k : IntKind} {l : List UInt8} {i : Nat} (hx : evo e x = some (strV l)) (hy : evo e y = some (.int k (i : Int))) (ht : C.P.underlying t = some .string) (hi : i < l.length) : QRun C e S ⟨dst, .index t x y, ty, pos, after, g⟩ (byteV (l.getD i default)) :=
  fun a w ha _ => by
    simp only [execOp, ha.eval hx, ha.eval hy]
    exact run_v (run_index_str ht hi w)
/-- string(b). -/
theorem run_bytes_str {P : Program} {W w : World} {I : PH} {R : List Res} {l : List UInt8} (hs : P.underlying t = some (.slice el)) (he : P.underlying el = some (.int .u8)) (hd : P.underlying u = some .string) (hst : St W I R w)
    (hA : l ≠ [] → A.isSome = true) (hr : ∀ j v, (l.map byteV)[j]? = some v → Rd W I R ((ad A).add j) v) : (convert t u (.slice A l.length c)).run P w = .ok (strV l) w := by
  by_cases hl : l = []
  · subst hl
    cases A with
    | none =>
      have h0 := run_convert_bytes_string (P := P) w t u el none 0 c hs he hd
      rw [show ([] : List UInt8).length = 0 from rfl, h0]
      simp [Conv.bytesToString]; rfl
    | some a => exact run_convert_bytes_back w t u el a c [] hs he hd (fun j hj => absurd hj (Nat.not_lt_zero _))
  · cases A with
    | none => exact absurd (hA hl) (by simp)
    | some a => exact run_convert_bytes_back w t u el a c l hs he hd (fun j hj => hr j _ (by simp [List.getElem?_eq_getElem hj]; rfl) w hst)
theorem Nx.bytes_str {l : List UInt8} (hx : evo e x = some (.slice A l.length c)) (hs : C.P.underlying t = some (.slice el)) (he : C.P.underlying el = some (.int .u8)) (hd : C.P.underlying u = some .string) (hlt : Nat.blt d C.n = true)
    (hA : l ≠ [] → A.isSome = true) (hr : ∀ j v, (l.map byteV)[j]? = some v → Rd C.W I R ((ad A).add j) v) (hk : Nx C ((d, strV l) :: e) I R K) : Nx C e I R (opK C.P ⟨some d, .convert t u x, ty, pos, after, g⟩ K Q) :=
  Nx.op_run rfl hlt (fun a w ha hw => by
    simp only [execOp, ha.eval hx]
    exact run_v (run_bytes_str hs he hd hw hA hr)) hk
/-- string(b), b owned: resource number k. -/
theorem Nx.vec_str (k : Nat) {l : List UInt8} (hx : evo e x = some (.slice A n c)) (hn : n = l.length) (hs : C.P.underlying t = some (.slice el)) (he : C.P.underlying el = some (.int .u8)) (hd : C.P.underlying u = some .string) (hlt : Nat.blt d C.n = true)
    (hk : nthL R k = some (Vec el 1 A n c (l.map byteV))) (h : Nx C ((d, strV l) :: e) I R K) : Nx C e I R (opK C.P ⟨some d, .convert t u x, ty, pos, after, g⟩ K Q) := by
  intro a w ha hw
  have hA : l ≠ [] → A.isSome = true := fun hl => by
    obtain ⟨⟨m, hm, hs⟩, hst⟩ := id hw
    obtain ⟨m', hle, hv⟩ := Stars.get k hm hk
    rcases hv.2 with ⟨_, h0, _⟩ | ⟨b, cur, rfl, _⟩
    · exact absurd (List.eq_nil_of_length_eq_zero (hn.symm.trans h0)) hl
    · rfl
  subst hn
  exact Nx.bytes_str hx hs he hd hlt hA (fun j v hj => Rd.ent (Ent.pull k R _ (nthL_eq.symm.trans hk)) (Rd.vec hj)) h a w ha hw
theorem Sat.drew {w : World} {I m : PH} (h : Sat w I m) : Sat w.drew I m := ⟨h.imm, h.own, h.dis⟩
/-- A row that bears the run-time's mark: it is only read. -/
def BlkZ (b : Nat) (t : TypeId) (cs : List Value) : Res := fun m => ∃ fz rest, m b = some (.cells (cs ++ rest).toArray t fz)
theorem BlkZ.sliceOf {α : Type} {f : α → Value} {b : Nat} {m I' : PH} {l : List α} {cap : Nat} (hm : PH.le m I') (h : BlkZ b t (l.map f) m) (hc : l.length ≤ cap) (hl : cap ≤ maxLen) : SliceOf f I' (some ⟨b, 0, none⟩) cap l := by
  obtain ⟨fz, rest, hb⟩ := h
  refine ⟨fun j u hj => ⟨rfl, ?_⟩, hc, hl⟩
  have hlt := (List.getElem?_eq_some_iff.1 hj).1
  rw [ad_some, Addr.add_lit, Nat.zero_add]
  simp only [cellH, hm _ _ hb, Option.isSome_none, Bool.false_eq_true, if_false]
  rw [List.getElem?_toArray, List.getElem?_append_left hlt]
  exact hj
/-- []byte(s). -/
theorem Nx.str_bytes {l : List UInt8} (hx : evo e x = some (strV l)) (hs : C.P.underlying t = some .string) (hd : C.P.underlying u = some (.slice el)) (he : C.P.underlying el = some (.int .u8)) (hlt : Nat.blt d C.n = true) (hl : l.length ≤ 34359738368)
    (h : ∀ b cap, l.length ≤ cap → cap ≤ maxLen → Nx C ((d, .slice (some ⟨b, 0, none⟩) l.length cap) :: e) I (BlkZ b el (l.map byteV) :: R) K) : Nx C e I R (opK C.P ⟨some d, .convert t u x, ty, pos, after, g⟩ K Q) := by
  intro a w ha hw
  have hsz : (ByteArray.mk l.toArray).size = l.length := by simp [ByteArray.size]
  have hr := run_bytes_of_string (P := C.P) w t u el ⟨l.toArray⟩ hs hd he
  rw [hsz] at hr
  unfold opK Oper.wp
  have hrun : (execOp a.eval ⟨some d, .convert t u x, ty, pos, after, g⟩).run C.P w = .ok (.value (.slice (some ⟨w.heap.size, 0, none⟩) l.length (grownCap w l.length 0 el))) (w.drew.alloc (.cells (bytesRow ⟨l.toArray⟩ (grownCap w l.length 0 el)) el ((bytesRow ⟨l.toArray⟩ (grownCap w l.length 0 el)).size, (bytesRow ⟨l.toArray⟩ (grownCap w l.length 0 el)).size + 1))) := by
    simp only [execOp, ha.eval hx]
    exact run_v hr
  rw [hrun]
  refine h w.heap.size (grownCap w l.length 0 el) (grownCap_ge w _ _ _) (grownCap_le_maxLen w _ _ _ (by unfold maxLen; omega)) _ _ (ha.put hlt _) ?_
  have h1 := (St.drew hw).alloc (.cells (bytesRow ⟨l.toArray⟩ (grownCap w l.length 0 el)) el ((bytesRow ⟨l.toArray⟩ (grownCap w l.length 0 el)).size, (bytesRow ⟨l.toArray⟩ (grownCap w l.length 0 el)).size + 1))
  have : bytesRow ⟨l.toArray⟩ (grownCap w l.length 0 el) = (l.map byteV ++ List.replicate (grownCap w l.length 0 el - l.length) (Value.int .u8 0)).toArray := by
    unfold bytesRow
    rw [hsz]
    apply Array.ext'
    simp [byteV]
  refine h1.ent (Ent.head fun m hm => ⟨((bytesRow ⟨l.toArray⟩ (grownCap w l.length 0 el)).size, (bytesRow ⟨l.toArray⟩ (grownCap w l.length 0 el)).size + 1), List.replicate (grownCap w l.length 0 el - l.length) (.int .u8 0), ?_⟩)
  rw [← this]
  exact hm
/-! ### Tests whose outcome is known -/
section
variable {cd : Code}
theorem Nx.p_bool_t {b : Bool} (hk : ck cd = 4) (hc : evo e (ccnd cd) = some (.bool b)) (hp : b = true) (h : Nx C e I R ((cl cd).wp C.P Q)) : Nx C e I R (cd.wp C.P Q) := Nx.p_bool hk hc (fun _ => h) (fun hn => by rw [hp] at hn; cases hn)
theorem Nx.p_bool_f {b : Bool} (hk : ck cd = 4) (hc : evo e (ccnd cd) = some (.bool b)) (hp : b = false) (h : Nx C e I R ((cr cd).wp C.P Q)) : Nx C e I R (cd.wp C.P Q) := Nx.p_bool hk hc (fun hn => by rw [hp] at hn; cases hn) (fun _ => h)
end
/-! ### Strings as keys -/
theorem strV_eq {a b : List UInt8} : (ByteArray.mk a.toArray == ByteArray.mk b.toArray) = decide (a = b) := by
  rw [Bool.eq_iff_iff, MapKept.bytes_beq, decide_eq_true_eq]
  exact ⟨fun he => by have := congrArg (fun x : ByteArray => x.data.toList) he; simpa using this, fun h => by rw [h]⟩
theorem KeyEnc.str {P : Program} {kt : TypeId} (h : P.underlying kt = some .string) : KeyEnc P kt strV := by
  refine ⟨⟨_, h, fun a b => ?_⟩, fun em a w => ?_, fun a => by show (ByteArray.mk a.toArray == ByteArray.mk a.toArray) = true; rw [strV_eq]; simp⟩
  · show some (ByteArray.mk a.toArray == ByteArray.mk b.toArray) = _
    rw [strV_eq]
  · unfold Instr.checkKey
    rw [Sem.run_bind, run_underlying h, Result.andThen_ok]
    rfl
/-! ### The order of strings -/
def strLt (a b : List UInt8) : Bool := Op.bytesLess a b
section
variable {P : Program} {a b : List UInt8}
theorem run_strlt (w : World) : (do eqGuard .lss t x y (.string ⟨a.toArray⟩) (.string ⟨b.toArray⟩); binOp .lss t (.string ⟨a.toArray⟩) (.string ⟨b.toArray⟩)).run P w = .ok (.bool (strLt a b)) w := by
  rw [show eqGuard .lss t x y (Value.string ⟨a.toArray⟩) (.string ⟨b.toArray⟩) = pure () from rfl, binOp_string_lss, ByteArray.toList_mk, ByteArray.toList_mk]
  rfl
theorem run_strgt (w : World) : (do eqGuard .gtr t x y (.string ⟨a.toArray⟩) (.string ⟨b.toArray⟩); binOp .gtr t (.string ⟨a.toArray⟩) (.string ⟨b.toArray⟩)).run P w = .ok (.bool (!(strLt a b || a == b))) w := by
  rw [show eqGuard .gtr t x y (Value.string ⟨a.toArray⟩) (.string ⟨b.toArray⟩) = pure () from rfl, binOp_string_gtr, ByteArray.toList_mk, ByteArray.toList_mk]
  rfl
theorem run_eql_c (w : World) : (do eqGuard .eql t x y (strV a) (.string ⟨b.toArray⟩); binOp .eql t (strV a) (.string ⟨b.toArray⟩)).run P w = .ok (.bool (a == b)) w := run_streq w
theorem run_eql_s (w : World) : (do eqGuard .eql t x y (strV a) (strV b); binOp .eql t (strV a) (strV b)).run P w = .ok (.bool (a == b)) w := run_streq w
theorem run_neq_s (w : World) : (do eqGuard .neq t x y (strV a) (strV b); binOp .neq t (strV a) (strV b)).run P w = .ok (.bool (!(a == b))) w := run_strne w
theorem run_lss_s (w : World) : (do eqGuard .lss t x y (strV a) (strV b); binOp .lss t (strV a) (strV b)).run P w = .ok (.bool (strLt a b)) w := run_strlt w
theorem run_gtr_s (w : World) : (do eqGuard .gtr t x y (strV a) (strV b); binOp .gtr t (strV a) (strV b)).run P w = .ok (.bool (!(strLt a b || a == b))) w := run_strgt w
end
end Go.Eng
/-
  The proof engine, part N: arrays.
-/
namespace Go.Eng
section
variable {C : Cx} {e e' : Env} {I I' : PH} {R R' R0 : List Res} {K K' : Act → World → Prop} {Q : Exit → Act → World → Prop} {W : World}
variable {d : Nat} {ty t el : TypeId} {pos : String} {after : Array Edge} {g : Option (Nat × Bool)} {x y : Operand} {dst : Option Tmp} {S : World → Prop}
/-- An array's literal: its cells are told. -/
theorem Nx.buildX {parts : Array (Nat × Operand)} {vs : List Value} (cs : List Value) (hx : evs e (parts.toList.map (·.2)) = some vs)
    (hv : pureRun C.P (Instr.build t (((parts.toList.map (·.1)).zip vs).toArray)) = some (.agg cs.toArray)) (hlt : Nat.blt d C.n = true)
    (h : Nx C ((d, .agg cs.toArray) :: e) I R K) : Nx C e I R (opK C.P ⟨some d, .build t parts, ty, pos, after, g⟩ K Q) :=
  Nx.op_run rfl hlt (fun a w ha _ => by
    have e1 : (parts.map fun (i, x) => (i, a.eval x)) = ((parts.toList.map (·.1)).zip vs).toArray := by
      rw [← ha.evals hx]
      apply Array.ext'
      simp only [Array.toList_map]
      induction parts.toList with
      | nil => rfl
      | cons p r ih => simp [ih]
    simp only [execOp, e1]
    exact run_v (run_of_pureRun hv w)) h
/-- What is asked of all worlds stays so though more has been given up. -/
theorem Nx.mix_Sle (hle : PH.le I I') (hR : Ent R R0) (h : Nx C e I' R K) : Nx C e I' R (fun a w => St C.W I R0 w ∧ K a w) := fun a w ha hw => ⟨(hw.imm_le hle).ent hR, h a w ha hw⟩
end
end Go.Eng
/- Contracts of functions of the given program, and lemmas about plain lists and numbers: what the laws of this seat lean on. -/
namespace Go.Proofs.Ytaoeapmdhpkidaa
open Go.Eng
attribute [local irreducible] opK wpList Code.wp Exit.then Exit.inBlock fnPost bodyPost Nx Calls Oper.wp Rd Rds Wr Ent Stars Blk Again Vec FnSpec wpMix QRun Stop Upto wpAt
attribute [local irreducible] strV
/-! Names -/
def chB (c : UInt8) : Bool := decide (97 ≤ c.toNat ∧ c.toNat ≤ 122 ∨ 48 ≤ c.toNat ∧ c.toNat ≤ 57 ∨ c.toNat = 95)
def words : List (List UInt8) := [[97, 108, 108], [97, 110, 100], [101, 118, 101, 110, 116], [102, 114, 111, 109], [109, 105, 115, 115, 105, 110, 103], [110, 111, 116], [111, 110], [111, 114], [116, 111], [117, 110, 100, 101, 114], [119, 104, 101, 114, 101]]
def headB (s : List UInt8) : Bool := decide (1 ≤ s.length ∧ s.length ≤ 16 ∧ 97 ≤ (s.getD 0 default).toNat ∧ (s.getD 0 default).toNat ≤ 122)
def nameB (s : List UInt8) : Bool := headB s && s.all chB && !(words.contains s)
theorem all_take {s : List UInt8} {k : Nat} (hk : k < s.length) : (s.take (k + 1)).all chB = ((s.take k).all chB && chB (s.getD k default)) := by
  rw [List.take_succ_eq_append_getElem hk, List.all_append, List.getD_eq_getElem?_getD, List.getElem?_eq_getElem hk]
  simp
theorem all_false {s : List UInt8} {k : Nat} (hk : k < s.length) (h : chB (s.getD k default) = false) : s.all chB = false := by
  rw [List.all_eq_false]
  exact ⟨s.getD k default, by rw [List.getD_eq_getElem?_getD, List.getElem?_eq_getElem hk]; exact List.getElem_mem _, by rw [h]; decide⟩
set_option maxHeartbeats 4000000 in
set_option maxRecDepth 10000 in
theorem Name_spec (s : List UInt8) (hs : 0 ≤ s.length) (I : PH) : FnSpec Try.prog 88 [strV s] I [] (fun v R' => v = .bool (nameB s) ∧ R' = []) := by
  by_cases hh : headB s = true
  · have hh' := of_decide_eq_true hh
    replace hs : s.length ≤ 34359738368 := by omega
    refine FnSpec.enterP Try.func88 rfl Try.ntmps88 rfl fun w F => ?_
    repeat' first
      | ((with_reducible refine Nx.is_wp ?_); first | refine Nx.wo ?_ | refine Nx.p_dec rfl rfl (fun hc => ?_) (fun hc => ?_) | refine Nx.p_bool rfl rfl (fun hc => ?_) (fun hc => ?_))
      | ((first | refine Nx.at_op rfl rfl ?_ | refine Nx.m_loud rfl rfl rfl ?_ | refine Nx.at_do rfl rfl rfl rfl ?_ | refine Nx.m_loud_do rfl rfl rfl rfl rfl ?_); first | refine Nx.opr rfl rfl ?_ | refine Nx.len_strV rfl rfl rfl rfl ?_ | refine Nx.index_str (i := 0) rfl rfl rfl rfl (by omega) ?_ | refine Nx.str_bytes rfl rfl rfl rfl rfl hs (fun b cap h1 h2 => ?_) | refine Nx.so ?_ | refine Nx.sb (fun bx => ?_) | refine Nx.sa (fun A2 c2 => ?_))
      | ((with_reducible refine Nx.is_at ?_); first | refine Nx.a ?_ | ((fail_if_success refine Nx.at_do rfl rfl rfl rfl ?_); first | refine Nx.at_dec_t rfl rfl rfl rfl (by first | assumption | omega) ?_ | refine Nx.at_dec_f rfl rfl rfl rfl (by first | assumption | omega) ?_ | refine Nx.at_split rfl rfl rfl rfl (fun hc => ?_) (fun hc => ?_) | refine Nx.at_splitb rfl rfl rfl rfl (fun hc => ?_) (fun hc => ?_)))
      | ((with_reducible refine Nx.is_mix ?_); first | refine Nx.m ?_ | ((fail_if_success refine Nx.m_quiet_do rfl rfl rfl rfl rfl rfl rfl ?_ ?_); (fail_if_success refine Nx.m_loud_do rfl rfl rfl rfl rfl ?_); first | refine Nx.m_dec_t rfl rfl rfl rfl (by first | assumption | omega) ?_ | refine Nx.m_dec_f rfl rfl rfl rfl (by first | assumption | omega) ?_ | refine Nx.m_split rfl rfl rfl rfl (fun hc => ?_) (fun hc => ?_) | refine Nx.m_splitb rfl rfl rfl rfl (fun hc => ?_) (fun hc => ?_)))
      | ((fail_if_success (with_reducible refine Nx.is_at ?_)); (fail_if_success (with_reducible refine Nx.is_wp ?_)); (fail_if_success (with_reducible refine Nx.is_mix ?_)); first | refine Nx.ex ?_)
    refine Nx.freezeAt 0 rfl fun I1 m1 hI1 hm1 h1' => ?_
    have hb : SliceOf byteV I1 (some ⟨b, 0, none⟩) cap s := BlkZ.sliceOf hm1 h1' h1 h2
    repeat' first
      | ((with_reducible refine Nx.is_wp ?_); first | refine Nx.wo ?_ | refine Nx.p_dec rfl rfl (fun hc => ?_) (fun hc => ?_) | refine Nx.p_bool rfl rfl (fun hc => ?_) (fun hc => ?_))
      | ((first | refine Nx.at_op rfl rfl ?_ | refine Nx.m_loud rfl rfl rfl ?_ | refine Nx.at_do rfl rfl rfl rfl ?_ | refine Nx.m_loud_do rfl rfl rfl rfl rfl ?_); first | refine Nx.opr rfl rfl ?_ | refine Nx.so ?_ | refine Nx.sb (fun bx => ?_) | refine Nx.sa (fun A2 c2 => ?_))
      | ((with_reducible refine Nx.is_at ?_); first | refine Nx.a ?_ | ((fail_if_success refine Nx.at_do rfl rfl rfl rfl ?_); first | refine Nx.at_dec_t rfl rfl rfl rfl (by first | assumption | omega) ?_ | refine Nx.at_dec_f rfl rfl rfl rfl (by first | assumption | omega) ?_ | refine Nx.at_split rfl rfl rfl rfl (fun hc => ?_) (fun hc => ?_) | refine Nx.at_splitb rfl rfl rfl rfl (fun hc => ?_) (fun hc => ?_)))
      | ((with_reducible refine Nx.is_mix ?_); first | refine Nx.m ?_ | ((fail_if_success refine Nx.m_quiet_do rfl rfl rfl rfl rfl rfl rfl ?_ ?_); (fail_if_success refine Nx.m_loud_do rfl rfl rfl rfl rfl ?_); first | refine Nx.m_dec_t rfl rfl rfl rfl (by first | assumption | omega) ?_ | refine Nx.m_dec_f rfl rfl rfl rfl (by first | assumption | omega) ?_ | refine Nx.m_split rfl rfl rfl rfl (fun hc => ?_) (fun hc => ?_) | refine Nx.m_splitb rfl rfl rfl rfl (fun hc => ?_) (fun hc => ?_)))
      | ((fail_if_success (with_reducible refine Nx.is_at ?_)); (fail_if_success (with_reducible refine Nx.is_wp ?_)); (fail_if_success (with_reducible refine Nx.is_mix ?_)); first | refine Nx.ex ?_)
    refine Nx.p_loop (σ := Nat) (fun k => [(0, strV s), (24, .slice (some ⟨b, 0, none⟩) s.length cap), (25, .int .i64 s.length), (26, .int .i64 (k : Int))])
      (fun _ => [F]) (fun k => k ≤ s.length ∧ (s.take k).all chB = true) (fun k => s.length - k) 0 rfl ⟨Nat.zero_le _, rfl⟩ ⟨rfl, rfl, rfl, rfl, trivial⟩ (by (exact Ent.auto)) ?_
    rintro k ⟨hk, hal⟩
    by_cases hlt : k < s.length
    · have ht := all_take hlt
      rw [hal, Bool.true_and] at ht
      have hf := all_false hlt
      by_cases hc : chB (s.getD k default) = true
      · rw [hc] at ht
        have hc' := of_decide_eq_true hc
        repeat' first
          | ((with_reducible refine Nx.is_wp ?_); first | refine Nx.wo ?_ | refine Nx.p_dec rfl rfl (fun hc => ?_) (fun hc => ?_) | refine Nx.p_bool rfl rfl (fun hc => ?_) (fun hc => ?_))
          | ((first | refine Nx.at_op rfl rfl ?_ | refine Nx.m_loud rfl rfl rfl ?_ | refine Nx.at_do rfl rfl rfl rfl ?_ | refine Nx.m_loud_do rfl rfl rfl rfl rfl ?_); first | refine Nx.opr rfl rfl ?_ | refine Nx.indexAddr_nat rfl rfl rfl rfl rfl (by omega) rfl ?_ | refine Nx.load rfl rfl rfl (hb.rd (by omega)) ?_ | refine Nx.so ?_ | refine Nx.sb (fun bx => ?_) | refine Nx.sa (fun A2 c2 => ?_))
          | ((with_reducible refine Nx.is_at ?_); first | refine Nx.a ?_ | ((fail_if_success refine Nx.at_do rfl rfl rfl rfl ?_); first | refine Nx.at_dec_t rfl rfl rfl rfl (by first | assumption | omega) ?_ | refine Nx.at_dec_f rfl rfl rfl rfl (by first | assumption | omega) ?_ | refine Nx.at_split rfl rfl rfl rfl (fun hc => ?_) (fun hc => ?_) | refine Nx.at_splitb rfl rfl rfl rfl (fun hc => ?_) (fun hc => ?_)))
          | ((with_reducible refine Nx.is_mix ?_); first | refine Nx.m ?_ | ((fail_if_success refine Nx.m_quiet_do rfl rfl rfl rfl rfl rfl rfl ?_ ?_); (fail_if_success refine Nx.m_loud_do rfl rfl rfl rfl rfl ?_); first | refine Nx.m_dec_t rfl rfl rfl rfl (by first | assumption | omega) ?_ | refine Nx.m_dec_f rfl rfl rfl rfl (by first | assumption | omega) ?_ | refine Nx.m_split rfl rfl rfl rfl (fun hc => ?_) (fun hc => ?_) | refine Nx.m_splitb rfl rfl rfl rfl (fun hc => ?_) (fun hc => ?_)))
          | ((fail_if_success (with_reducible refine Nx.is_at ?_)); (fail_if_success (with_reducible refine Nx.is_wp ?_)); (fail_if_success (with_reducible refine Nx.is_mix ?_)); first | refine Nx.ex ?_)
        all_goals exact Nx.again (k + 1) ⟨hlt, ht⟩ (by omega) ⟨rfl, rfl, rfl, rfl, trivial⟩ (by (exact Ent.auto))
      · have hc0 : chB (s.getD k default) = false := by simpa using hc
        have hc' := of_decide_eq_false hc0
        have hn : nameB s = false := by unfold nameB; rw [hf hc0]; simp
        rw [hn]
        repeat' first
          | ((with_reducible refine Nx.is_wp ?_); first | refine Nx.wo ?_ | refine Nx.p_dec rfl rfl (fun hc => ?_) (fun hc => ?_) | refine Nx.p_bool rfl rfl (fun hc => ?_) (fun hc => ?_))
          | ((first | refine Nx.at_op rfl rfl ?_ | refine Nx.m_loud rfl rfl rfl ?_ | refine Nx.at_do rfl rfl rfl rfl ?_ | refine Nx.m_loud_do rfl rfl rfl rfl rfl ?_); first | refine Nx.opr rfl rfl ?_ | refine Nx.indexAddr_nat rfl rfl rfl rfl rfl (by omega) rfl ?_ | refine Nx.load rfl rfl rfl (hb.rd (by omega)) ?_ | refine Nx.so ?_ | refine Nx.sb (fun bx => ?_) | refine Nx.sa (fun A2 c2 => ?_))
          | ((with_reducible refine Nx.is_at ?_); first | refine Nx.a ?_ | ((fail_if_success refine Nx.at_do rfl rfl rfl rfl ?_); first | refine Nx.at_dec_t rfl rfl rfl rfl (by first | assumption | omega) ?_ | refine Nx.at_dec_f rfl rfl rfl rfl (by first | assumption | omega) ?_ | refine Nx.at_split rfl rfl rfl rfl (fun hc => ?_) (fun hc => ?_) | refine Nx.at_splitb rfl rfl rfl rfl (fun hc => ?_) (fun hc => ?_)))
          | ((with_reducible refine Nx.is_mix ?_); first | refine Nx.m ?_ | ((fail_if_success refine Nx.m_quiet_do rfl rfl rfl rfl rfl rfl rfl ?_ ?_); (fail_if_success refine Nx.m_loud_do rfl rfl rfl rfl rfl ?_); first | refine Nx.m_dec_t rfl rfl rfl rfl (by first | assumption | omega) ?_ | refine Nx.m_dec_f rfl rfl rfl rfl (by first | assumption | omega) ?_ | refine Nx.m_split rfl rfl rfl rfl (fun hc => ?_) (fun hc => ?_) | refine Nx.m_splitb rfl rfl rfl rfl (fun hc => ?_) (fun hc => ?_)))
          | ((fail_if_success (with_reducible refine Nx.is_at ?_)); (fail_if_success (with_reducible refine Nx.is_wp ?_)); (fail_if_success (with_reducible refine Nx.is_mix ?_)); first | refine Nx.ex ?_)
        all_goals exact Nx.imm_le hI1 (Nx.ret_fn rfl [] ⟨rfl, rfl⟩ (by (exact Ent.auto)))
    · obtain rfl : k = s.length := by omega
      rw [List.take_length] at hal
      have hnb : nameB s = !(words.contains s) := by unfold nameB; rw [hh, hal]; rfl
      repeat' first
        | ((with_reducible refine Nx.is_wp ?_); first | refine Nx.p_bool_t rfl rfl (by assumption) ?_ | refine Nx.p_bool_f rfl rfl (by assumption) ?_ | refine Nx.wo ?_ | refine Nx.p_dec rfl rfl (fun hc => ?_) (fun hc => ?_) | refine Nx.p_bool rfl rfl (fun hc => ?_) (fun hc => ?_))
        | ((first | refine Nx.at_op rfl rfl ?_ | refine Nx.m_loud rfl rfl rfl ?_ | refine Nx.at_do rfl rfl rfl rfl ?_ | refine Nx.m_loud_do rfl rfl rfl rfl rfl ?_); first | refine Nx.opr rfl rfl ?_ | refine Nx.binr rfl rfl run_eql_c rfl ?_ | refine Nx.so ?_ | refine Nx.sb (fun bx => ?_) | refine Nx.sa (fun A2 c2 => ?_))
        | ((with_reducible refine Nx.is_at ?_); first | refine Nx.a ?_ | ((fail_if_success refine Nx.at_do rfl rfl rfl rfl ?_); first | refine Nx.at_dec_t rfl rfl rfl rfl (by first | assumption | omega) ?_ | refine Nx.at_dec_f rfl rfl rfl rfl (by first | assumption | omega) ?_ | refine Nx.at_split rfl rfl rfl rfl (fun hc => ?_) (fun hc => ?_) | refine Nx.at_splitb rfl rfl rfl rfl (fun hc => ?_) (fun hc => ?_)))
        | ((with_reducible refine Nx.is_mix ?_); first | refine Nx.m ?_ | ((fail_if_success refine Nx.m_quiet_do rfl rfl rfl rfl rfl rfl rfl ?_ ?_); (fail_if_success refine Nx.m_loud_do rfl rfl rfl rfl rfl ?_); first | refine Nx.m_dec_t rfl rfl rfl rfl (by first | assumption | omega) ?_ | refine Nx.m_dec_f rfl rfl rfl rfl (by first | assumption | omega) ?_ | refine Nx.m_split rfl rfl rfl rfl (fun hc => ?_) (fun hc => ?_) | refine Nx.m_splitb rfl rfl rfl rfl (fun hc => ?_) (fun hc => ?_)))
        | ((fail_if_success (with_reducible refine Nx.is_at ?_)); (fail_if_success (with_reducible refine Nx.is_wp ?_)); (fail_if_success (with_reducible refine Nx.is_mix ?_)); first | refine Nx.ex ?_)
      all_goals
        refine Nx.imm_le hI1 (Nx.ret_fn rfl [] ⟨?_, rfl⟩ (by (exact Ent.auto)))
        rw [hnb]
        simp only [beq_iff_eq, beq_eq_false_iff_ne] at *
        simp [words, *]
  · have hh0 : headB s = false := by simpa using hh
    have hh' := of_decide_eq_false hh0
    have hn : nameB s = false := by unfold nameB; rw [hh0]; rfl
    rw [hn]
    by_cases h1 : 1 ≤ s.length
    · refine FnSpec.enterP Try.func88 rfl Try.ntmps88 rfl fun w F => ?_
      repeat' first
        | ((with_reducible refine Nx.is_wp ?_); first | refine Nx.wo ?_ | refine Nx.p_dec rfl rfl (fun hc => ?_) (fun hc => ?_) | refine Nx.p_bool rfl rfl (fun hc => ?_) (fun hc => ?_))
        | ((first | refine Nx.at_op rfl rfl ?_ | refine Nx.m_loud rfl rfl rfl ?_ | refine Nx.at_do rfl rfl rfl rfl ?_ | refine Nx.m_loud_do rfl rfl rfl rfl rfl ?_); first | refine Nx.opr rfl rfl ?_ | refine Nx.len_strV rfl rfl rfl rfl ?_ | refine Nx.index_str (i := 0) rfl rfl rfl rfl (by omega) ?_ | refine Nx.so ?_ | refine Nx.sb (fun bx => ?_) | refine Nx.sa (fun A2 c2 => ?_))
        | ((with_reducible refine Nx.is_at ?_); first | refine Nx.a ?_ | ((fail_if_success refine Nx.at_do rfl rfl rfl rfl ?_); first | refine Nx.at_dec_t rfl rfl rfl rfl (by first | assumption | omega) ?_ | refine Nx.at_dec_f rfl rfl rfl rfl (by first | assumption | omega) ?_ | refine Nx.at_split rfl rfl rfl rfl (fun hc => ?_) (fun hc => ?_) | refine Nx.at_splitb rfl rfl rfl rfl (fun hc => ?_) (fun hc => ?_)))
        | ((with_reducible refine Nx.is_mix ?_); first | refine Nx.m ?_ | ((fail_if_success refine Nx.m_quiet_do rfl rfl rfl rfl rfl rfl rfl ?_ ?_); (fail_if_success refine Nx.m_loud_do rfl rfl rfl rfl rfl ?_); first | refine Nx.m_dec_t rfl rfl rfl rfl (by first | assumption | omega) ?_ | refine Nx.m_dec_f rfl rfl rfl rfl (by first | assumption | omega) ?_ | refine Nx.m_split rfl rfl rfl rfl (fun hc => ?_) (fun hc => ?_) | refine Nx.m_splitb rfl rfl rfl rfl (fun hc => ?_) (fun hc => ?_)))
        | ((fail_if_success (with_reducible refine Nx.is_at ?_)); (fail_if_success (with_reducible refine Nx.is_wp ?_)); (fail_if_success (with_reducible refine Nx.is_mix ?_)); first | refine Nx.ex ?_)
      all_goals exact Nx.ret_fn rfl [] ⟨rfl, rfl⟩ (by (exact Ent.auto))
    · refine FnSpec.enterP Try.func88 rfl Try.ntmps88 rfl fun w F => ?_
      repeat' first
        | ((with_reducible refine Nx.is_wp ?_); first | refine Nx.wo ?_ | refine Nx.p_dec rfl rfl (fun hc => ?_) (fun hc => ?_) | refine Nx.p_bool rfl rfl (fun hc => ?_) (fun hc => ?_))
        | ((first | refine Nx.at_op rfl rfl ?_ | refine Nx.m_loud rfl rfl rfl ?_ | refine Nx.at_do rfl rfl rfl rfl ?_ | refine Nx.m_loud_do rfl rfl rfl rfl rfl ?_); first | refine Nx.opr rfl rfl ?_ | refine Nx.len_strV rfl rfl rfl rfl ?_ | refine Nx.so ?_ | refine Nx.sb (fun bx => ?_) | refine Nx.sa (fun A2 c2 => ?_))
        | ((with_reducible refine Nx.is_at ?_); first | refine Nx.a ?_ | ((fail_if_success refine Nx.at_do rfl rfl rfl rfl ?_); first | refine Nx.at_dec_t rfl rfl rfl rfl (by first | assumption | omega) ?_ | refine Nx.at_dec_f rfl rfl rfl rfl (by first | assumption | omega) ?_ | refine Nx.at_split rfl rfl rfl rfl (fun hc => ?_) (fun hc => ?_) | refine Nx.at_splitb rfl rfl rfl rfl (fun hc => ?_) (fun hc => ?_)))
        | ((with_reducible refine Nx.is_mix ?_); first | refine Nx.m ?_ | ((fail_if_success refine Nx.m_quiet_do rfl rfl rfl rfl rfl rfl rfl ?_ ?_); (fail_if_success refine Nx.m_loud_do rfl rfl rfl rfl rfl ?_); first | refine Nx.m_dec_t rfl rfl rfl rfl (by first | assumption | omega) ?_ | refine Nx.m_dec_f rfl rfl rfl rfl (by first | assumption | omega) ?_ | refine Nx.m_split rfl rfl rfl rfl (fun hc => ?_) (fun hc => ?_) | refine Nx.m_splitb rfl rfl rfl rfl (fun hc => ?_) (fun hc => ?_)))
        | ((fail_if_success (with_reducible refine Nx.is_at ?_)); (fail_if_success (with_reducible refine Nx.is_wp ?_)); (fail_if_success (with_reducible refine Nx.is_mix ?_)); first | refine Nx.ex ?_)
      all_goals exact Nx.ret_fn rfl [] ⟨rfl, rfl⟩ (by (exact Ent.auto))
end Go.Proofs.Ytaoeapmdhpkidaa
/-
  The proof engine, part Y: more on strings and closures.
-/
namespace Go.Eng
theorem Blk.cell {b k : Nat} {t : TypeId} {cs : List Value} {v : Value} {m : PH} (h : Blk b t cs m) (hk : nthL cs k = some v) : cellH m ⟨b, k, none⟩ = some v := by
  rw [nthL_eq] at hk
  simp [cellH, show m b = _ from h]
  exact hk
end Go.Eng
