/-
  The proof engine, part E: a statement whose order is open. One walk in an order of one's own serves all orders: operations that only read are taken first, the others come up alone.
-/
import Derived.Test.YtaoeapmdhpkidaaEngD
namespace Go.Eng

/-- What a panic leads to hangs on no temporary. -/
def PanicOk (Q : Exit → Act → World → Prop) : Prop := ∀ c d v a w, Q (.panic c) (Act.put a d v) w → Q (.panic c) a w
theorem PanicOk.fn {P : Program} {fn : Func} {I : PH} {F : Res} {W : World} {Post : Value → List Res → Prop} : PanicOk (fnPost P fn I F W Post) := by
  rintro c d v a w ⟨_, v', R', he, _⟩
  cases he
theorem PanicOk.then_ {K : Act → World → Prop} {Q : Exit → Act → World → Prop} (h : PanicOk Q) : PanicOk (Exit.then K Q) := fun c d v a w hq => h c d v a w hq
theorem PanicOk.inB {id : Nat} {Q : Exit → Act → World → Prop} (h : PanicOk Q) : PanicOk (Exit.inBlock id Q) := fun c d v a w hq => h c d v a w hq

def mixOk (ops : Array Oper) (loud : List Nat) : List Nat → Array Bool → Bool
  | [], listed => (Region.ready .any ops listed).isEmpty
  | k :: r, listed => (if loud.contains k then Region.ready .any ops listed == [k] else Region.free .any ops listed k && (Region.ready .any ops listed).contains k) && mixOk ops loud r (listed.setIfInBounds k true)

/-- The operations in the order that was chosen. -/
def wpMix (P : Program) (ops : Array Oper) (Q : Exit → Act → World → Prop) (S : World → Prop) (loud : List Nat) : List Nat → Act → World → Prop
  | [], a, w => Q .normal a w
  | k :: r, a, w => ∃ o, ops[k]? = some o ∧
    if loud.contains k then wpOp P ops Q k (fun a' w' => S w' ∧ wpMix P ops Q S loud r a' w') a w
    else ∃ v, YieldsIf P ops S o v a ∧ wpMix P ops Q S loud r (a.put o.dst v) w
theorem wpMix_any {P : Program} {ops : Array Oper} {Q : Exit → Act → World → Prop} {S : World → Prop} {loud : List Nat} (hs : Region.noSelect ops = true) (hQ : PanicOk Q) : ∀ (ord : List Nat) (fuel : Nat) (listed : Array Bool) (a : Act) (w : World),
    mixOk ops loud ord listed = true → ord.length ≤ fuel → S w → wpMix P ops Q S loud ord a w → wpAnyH P .any ops Q S fuel listed a w
  | [], fuel, listed, a, w, hok, _, _, h => wpAnyH_done (by simpa [mixOk] using hok) h fuel
  | k :: r, fuel, listed, a, w, hok, hf, hS, h => by
    cases fuel with
    | zero => simp at hf
    | succ fuel =>
      obtain ⟨o, ho, h⟩ := h
      unfold mixOk at hok
      rw [Bool.and_eq_true] at hok
      obtain ⟨hk, hr⟩ := hok
      simp only [List.length_cons] at hf
      by_cases hl : loud.contains k = true
      · rw [if_pos hl] at h hk
        refine wpAnyH_all (rs := [k]) (by simpa using hk) (by simp) fun i hi => ?_
        simp at hi
        subst hi
        exact wpOp_mono (fun a' w' ⟨h1, h2⟩ => ⟨h1, wpMix_any hs hQ r fuel _ a' w' hr (by omega) h1 h2⟩) h
      · rw [if_neg hl] at h hk
        rw [Bool.and_eq_true] at hk
        obtain ⟨v, hy, h⟩ := h
        exact wpAnyH_take ho hs hk.1 hk.2 (fun c a w => hQ c o.dst v a w) hy hS (wpMix_any hs hQ r fuel _ _ w hr (by omega) hS h)

section
variable {C : Cx} {e e' : Env} {I : PH} {R R' R0 : List Res} {K K' : Act → World → Prop} {Q : Exit → Act → World → Prop} {W : World}
variable {ops : Array Oper} {S : World → Prop} {loud r : List Nat} {k d : Nat} {v : Value} {o : Oper}

theorem St.drew {w : World} (h : St W I R w) : St W I R { w with drawn := w.drawn + 1 } :=
  ⟨by obtain ⟨m, hm, hs⟩ := h.mem; exact ⟨m, hm, ⟨hs.imm, hs.own, hs.dis⟩⟩, ⟨h.still.os, h.still.tape, h.still.output, h.still.size, Nat.le_trans h.still.drawn (Nat.le_succ _)⟩⟩
/-- 'ord': the order of the walk; 'loud': those that write, make memory or call; 'R0': what nobody in the region writes. -/
theorem Nx.draw (ord loud : List Nat) (R0 : List Res) {id : Nat} (hm : C.P.follows .mixedOrders = true) (hs : Region.noSelect ops = true) (hok : mixOk ops loud ord (Array.replicate ops.size false) = true) (hlen : Nat.ble ord.length ops.size = true) (hQ : PanicOk Q) (hR : Ent R R0)
    (h : Nx C e I R (wpMix C.P ops Q (St C.W I R0) loud ord)) : Nx C e I R ((Code.region id ops true).wp C.P Q) := by
  intro a w ha hw
  refine wp_region_held (S := St C.W I R0) hm (wpMix_any hs hQ ord _ _ a _ hok (Nat.le_of_ble_eq_true hlen) (hw.drew.ent hR) (h a _ ha hw.drew))
theorem Nx.mix_nil (h : Nx C e I R (Q .normal)) : Nx C e I R (wpMix C.P ops Q S loud []) := fun a w ha hw => h a w ha hw
theorem Nx.mix_nil_then {K : Act → World → Prop} (h : Nx C e I R K) : Nx C e I R (wpMix C.P ops (Exit.then K Q) S loud []) := fun a w ha hw => h a w ha hw
/-- One that only reads. -/
theorem Nx.mix_q (ho : ops[k]? = some o) (hl : loud.contains k = false) (hg : o.guard = none) (hd : o.dst = some d) (hlt : Nat.blt d C.n = true)
    (hrun : ∀ a w, Mod C.n e a → S w → (execOp a.eval o).run C.P w = .ok (.value v) w) (h : Nx C ((d, v) :: e) I R (wpMix C.P ops Q S loud r)) : Nx C e I R (wpMix C.P ops Q S loud (k :: r)) := by
  intro a w ha hw
  refine ⟨o, ho, ?_⟩
  rw [if_neg (by rw [hl]; simp)]
  refine ⟨v, .inl ⟨by simp [Region.wanted, hg], fun w hS => hrun a w ha hS⟩, ?_⟩
  rw [hd]
  exact h _ w (ha.put hlt v) hw
theorem Nx.mix_q_do {j dj : Nat} {want : Bool} (ho : ops[k]? = some o) (hl : loud.contains k = false) (hg : o.guard = some (j, want)) (hdj : (ops[j]?).bind (·.dst) = some dj) (hb : lk e dj = some (.bool want)) (hd : o.dst = some d) (hlt : Nat.blt d C.n = true)
    (hrun : ∀ a w, Mod C.n e a → S w → (execOp a.eval o).run C.P w = .ok (.value v) w) (h : Nx C ((d, v) :: e) I R (wpMix C.P ops Q S loud r)) : Nx C e I R (wpMix C.P ops Q S loud (k :: r)) := by
  intro a w ha hw
  refine ⟨o, ho, ?_⟩
  rw [if_neg (by rw [hl]; simp)]
  refine ⟨v, .inl ⟨by simp [Region.wanted, hg, yielded_of ha hdj hb], fun w hS => hrun a w ha hS⟩, ?_⟩
  rw [hd]
  exact h _ w (ha.put hlt v) hw
theorem Nx.mix_q_no {j dj : Nat} {want : Bool} (ho : ops[k]? = some o) (hl : loud.contains k = false) (hg : o.guard = some (j, want)) (hdj : (ops[j]?).bind (·.dst) = some dj) (hb : lk e dj = some (.bool (!want))) (hd : o.dst = some d) (hlt : Nat.blt d C.n = true)
    (h : Nx C ((d, undef) :: e) I R (wpMix C.P ops Q S loud r)) : Nx C e I R (wpMix C.P ops Q S loud (k :: r)) := by
  intro a w ha hw
  refine ⟨o, ho, ?_⟩
  rw [if_neg (by rw [hl]; simp)]
  refine ⟨undef, .inr ⟨by simp [Region.wanted, hg, yielded_of ha hdj hb], rfl⟩, ?_⟩
  rw [hd]
  exact h _ w (ha.put hlt undef) hw
/-- One that comes up alone. -/
theorem Nx.mix_l (ho : ops[k]? = some o) (hl : loud.contains k = true) (hg : o.guard = none) (h : Nx C e I R (opK C.P o (fun a w => S w ∧ wpMix C.P ops Q S loud r a w) Q)) : Nx C e I R (wpMix C.P ops Q S loud (k :: r)) := by
  intro a w ha hw
  refine ⟨o, ho, ?_⟩
  rw [if_pos hl]
  unfold wpOp
  simp only [ho]
  rw [if_pos (by simp [Region.wanted, hg])]
  exact .inl (h a w ha hw)
theorem Nx.mix_l_do {j dj : Nat} {want : Bool} (ho : ops[k]? = some o) (hl : loud.contains k = true) (hg : o.guard = some (j, want)) (hdj : (ops[j]?).bind (·.dst) = some dj) (hb : lk e dj = some (.bool want))
    (h : Nx C e I R (opK C.P o (fun a w => S w ∧ wpMix C.P ops Q S loud r a w) Q)) : Nx C e I R (wpMix C.P ops Q S loud (k :: r)) := by
  intro a w ha hw
  refine ⟨o, ho, ?_⟩
  rw [if_pos hl]
  unfold wpOp
  simp only [ho]
  rw [if_pos (by simp [Region.wanted, hg, yielded_of ha hdj hb])]
  exact .inl (h a w ha hw)
theorem Nx.mix_l_no {j dj : Nat} {want : Bool} (ho : ops[k]? = some o) (hl : loud.contains k = true) (hg : o.guard = some (j, want)) (hdj : (ops[j]?).bind (·.dst) = some dj) (hb : lk e dj = some (.bool (!want))) (hd : o.dst = some d) (hlt : Nat.blt d C.n = true)
    (h : Nx C ((d, undef) :: e) I R (fun a w => S w ∧ wpMix C.P ops Q S loud r a w)) : Nx C e I R (wpMix C.P ops Q S loud (k :: r)) := by
  intro a w ha hw
  refine ⟨o, ho, ?_⟩
  rw [if_pos hl]
  unfold wpOp
  simp only [ho]
  rw [if_neg (by simp [Region.wanted, hg, yielded_of ha hdj hb]), hd]
  exact h _ w (ha.put hlt undef) hw
/-- The worlds of which nothing is asked. -/
def AnyW : World → Prop := fun _ => True
theorem Nx.mix_T (h : Nx C e I R K) : Nx C e I R (fun a w => AnyW w ∧ K a w) := fun a w ha hw => ⟨trivial, h a w ha hw⟩
theorem Nx.mix_S (hR : Ent R R0) (h : Nx C e I R K) : Nx C e I R (fun a w => St C.W I R0 w ∧ K a w) := fun a w ha hw => ⟨hw.ent hR, h a w ha hw⟩
theorem Nx.mix_split {j dj : Nat} {want : Bool} {p : Prop} [Decidable p] (ho : ops[k]? = some o) (hg : o.guard = some (j, want)) (hdj : (ops[j]?).bind (·.dst) = some dj) (hb : lk e dj = some (.bool (decide p)))
    (ht : p → Nx C ((dj, .bool true) :: e) I R (wpMix C.P ops Q S loud (k :: r))) (hf : ¬p → Nx C ((dj, .bool false) :: e) I R (wpMix C.P ops Q S loud (k :: r))) : Nx C e I R (wpMix C.P ops Q S loud (k :: r)) :=
  have _ := ho; have _ := hg; have _ := hdj; Nx.force dj hb ht hf

/-! ### The quiet operations -/
variable {ty t el : TypeId} {pos : String} {after : Array Edge} {g : Option (Nat × Bool)} {x y : Operand} {A : Option Addr} {ad0 : Addr} {n c : Nat} {vs : List Value}
/-- 'the operation yields v in every world that meets S' -/
def QRun (C : Cx) (e : Env) (S : World → Prop) (o : Oper) (v : Value) : Prop := ∀ a w, Mod C.n e a → S w → (execOp a.eval o).run C.P w = .ok (.value v) w
theorem QRun.opr {op : Op} {dst : Option Tmp} (hv : opRun C.P e op = some v) : QRun C e S ⟨dst, op, ty, pos, after, g⟩ v := fun _ w ha _ => opRun_sound hv ha w
theorem QRun.bin {op : BinOp} {u : TypeId} {vx vy : Value} {dst : Option Tmp} (hx : evo e x = some vx) (hy : evo e y = some vy) (hv : pureRun C.P (do eqGuard op t x y vx vy; binOp op t vx vy) = some v) : QRun C e S ⟨dst, .binOp op t x y u, ty, pos, after, g⟩ v :=
  fun a w ha _ => by simp only [execOp, ha.eval hx, ha.eval hy]; exact run_v (run_of_pureRun hv w)
theorem QRun.binr {op : BinOp} {u : TypeId} {vx vy : Value} {dst : Option Tmp} (hx : evo e x = some vx) (hy : evo e y = some vy) (hv : ∀ w, (do eqGuard op t x y vx vy; binOp op t vx vy).run C.P w = .ok v w) : QRun C e S ⟨dst, .binOp op t x y u, ty, pos, after, g⟩ v :=
  fun a w ha _ => by simp only [execOp, ha.eval hx, ha.eval hy]; exact run_v (hv w)
theorem QRun.add {u : TypeId} {p q : Int} {dst : Option Tmp} (hx : evo e x = some (.int .i64 p)) (hy : evo e y = some (.int .i64 q)) (hr : I64 (p + q)) : QRun C e S ⟨dst, .binOp .add t x y u, ty, pos, after, g⟩ (.int .i64 (p + q)) :=
  QRun.bin hx hy (by rw [← wrap_i64 hr]; rfl)
theorem QRun.sub {u : TypeId} {p q : Int} {dst : Option Tmp} (hx : evo e x = some (.int .i64 p)) (hy : evo e y = some (.int .i64 q)) (hr : I64 (p - q)) : QRun C e S ⟨dst, .binOp .sub t x y u, ty, pos, after, g⟩ (.int .i64 (p - q)) :=
  QRun.bin hx hy (by rw [← wrap_i64 hr]; rfl)
theorem QRun.mul {u : TypeId} {p q : Int} {dst : Option Tmp} (hx : evo e x = some (.int .i64 p)) (hy : evo e y = some (.int .i64 q)) (hr : I64 (p * q)) : QRun C e S ⟨dst, .binOp .mul t x y u, ty, pos, after, g⟩ (.int .i64 (p * q)) :=
  QRun.bin hx hy (by rw [← wrap_i64 hr]; rfl)
theorem QRun.rem {u : TypeId} {p q : Int} {dst : Option Tmp} (hx : evo e x = some (.int .i64 p)) (hy : evo e y = some (.int .i64 q)) (hq : 0 < q) (h0 : 0 ≤ p) : QRun C e S ⟨dst, .binOp .rem t x y u, ty, pos, after, g⟩ (.int .i64 (p % q)) :=
  QRun.bin hx hy (run_rem h0 hq)
theorem QRun.quo {u : TypeId} {p q : Int} {dst : Option Tmp} (hx : evo e x = some (.int .i64 p)) (hy : evo e y = some (.int .i64 q)) (hq : 0 < q) (h0 : 0 ≤ p) (hr : I64 p) : QRun C e S ⟨dst, .binOp .quo t x y u, ty, pos, after, g⟩ (.int .i64 (p / q)) :=
  QRun.bin hx hy (run_quo h0 hq hr)
theorem QRun.conv_i64 {u : TypeId} {k0 : IntKind} {p : Int} {s : TypeDesc} {dst : Option Tmp} (hx : evo e x = some (.int k0 p)) (hs : C.P.underlying t = some s) (ht : C.P.underlying u = some (.int .i64)) (hr : I64 p) : QRun C e S ⟨dst, .convert t u x, ty, pos, after, g⟩ (.int .i64 p) := fun a w ha _ => by
  simp only [execOp, ha.eval hx]
  refine run_v ?_
  unfold convert
  rw [Sem.run_bind, run_underlying hs, Result.andThen_ok, Sem.run_bind, run_underlying ht, Result.andThen_ok]
  show Result.ok (Value.int .i64 (IntKind.i64.wrap p)) w = _
  rw [wrap_i64 hr]
theorem QRun.build {parts : Array (Nat × Operand)} {vs cs : List Value} {dst : Option Tmp} (hx : evs e (parts.toList.map (·.2)) = some vs)
    (hcs : buildV C.P t ((parts.toList.map (·.1)).zip vs) = some cs) (hv : pureRun C.P (Instr.build t (((parts.toList.map (·.1)).zip vs).toArray)) = some (.agg cs.toArray)) : QRun C e S ⟨dst, .build t parts, ty, pos, after, g⟩ (.agg cs.toArray) :=
  have _ := hcs
  fun a w ha _ => by
    have e1 : (parts.map fun (i, x) => (i, a.eval x)) = ((parts.toList.map (·.1)).zip vs).toArray := by
      rw [← ha.evals hx]
      apply Array.ext'
      simp only [Array.toList_map]
      induction parts.toList with
      | nil => rfl
      | cons p r ih => simp [ih]
    simp only [execOp, e1]
    exact run_v (run_of_pureRun hv w)
theorem QRun.min2 {tys : Array TypeId} {k k' : IntKind} {p q : Int} {dst : Option Tmp} (hx : evo e x = some (.int k p)) (hy : evo e y = some (.int k' q)) : QRun C e S ⟨dst, .call { callee := .builtin .min, args := #[x, y], argTypes := tys }, ty, pos, after, g⟩ (.int k (min p q)) := fun a w ha _ => by
  obtain ⟨cs, hcs⟩ := run_builtin (P := C.P) (w := w) (ρ := a.eval) (b := .min) (args := #[x, y]) (dst := dst) (ty := ty) (pos := pos) (after := after) (g := g) (tys := tys) (show [x, y].map a.eval = [Value.int k p, Value.int k' q] from by simp only [List.map_cons, List.map_nil, ha.eval hx, ha.eval hy])
  rw [hcs]
  refine run_v ?_
  show Result.ok (Value.int k (if q < p then q else p)) w = _
  have : (if q < p then q else p) = min p q := by rw [Int.min_def]; split <;> split <;> omega
  rw [this]
theorem QRun.max2 {tys : Array TypeId} {k k' : IntKind} {p q : Int} {dst : Option Tmp} (hx : evo e x = some (.int k p)) (hy : evo e y = some (.int k' q)) : QRun C e S ⟨dst, .call { callee := .builtin .max, args := #[x, y], argTypes := tys }, ty, pos, after, g⟩ (.int k (max p q)) := fun a w ha _ => by
  obtain ⟨cs, hcs⟩ := run_builtin (P := C.P) (w := w) (ρ := a.eval) (b := .max) (args := #[x, y]) (dst := dst) (ty := ty) (pos := pos) (after := after) (g := g) (tys := tys) (show [x, y].map a.eval = [Value.int k p, Value.int k' q] from by simp only [List.map_cons, List.map_nil, ha.eval hx, ha.eval hy])
  rw [hcs]
  refine run_v ?_
  show Result.ok (Value.int k (if q > p then q else p)) w = _
  have : (if q > p then q else p) = max p q := by rw [Int.max_def]; split <;> split <;> omega
  rw [this]
theorem QRun.idx {k0 : IntKind} {i sz : Nat} {dst : Option Tmp} (hx : evo e x = some (.slice A n c)) (hy : evo e y = some (.int k0 (i : Int))) (ht : C.P.underlying t = some (.slice el)) (hsz : cellsIn C.P el = some sz) (h1 : i < n) (hA : A.isSome = true) :
    QRun C e S ⟨dst, .indexAddr t x y, ty, pos, after, g⟩ (.pointer (some ((ad A).add (i * sz)))) := fun a w ha _ => by
  simp only [execOp, ha.eval hx, ha.eval hy]
  refine run_v ?_
  cases A with
  | none => cases hA
  | some a => have := run_indexAt (P := C.P) (c := c) (k := k0) (a := a) ht hsz (i := (i : Int)) (n := n) (by omega) (by omega) w; rw [Int.toNat_natCast] at this; exact this
theorem QRun.idxi {k0 : IntKind} {i : Int} {sz : Nat} {dst : Option Tmp} (hx : evo e x = some (.slice A n c)) (hy : evo e y = some (.int k0 i)) (ht : C.P.underlying t = some (.slice el)) (hsz : cellsIn C.P el = some sz) (h0 : 0 ≤ i) (h1 : i < n) (hA : A.isSome = true) :
    QRun C e S ⟨dst, .indexAddr t x y, ty, pos, after, g⟩ (.pointer (some ((ad A).add (i.toNat * sz)))) := fun a w ha _ => by
  simp only [execOp, ha.eval hx, ha.eval hy]
  refine run_v ?_
  cases A with
  | none => cases hA
  | some a => exact run_indexAt ht hsz h0 h1 w
theorem QRun.load {dst : Option Tmp} (hx : evo e x = some (.pointer (some ad0))) (ht : plainT C.P t = true) (hr : Rd C.W I R0 ad0 v) : QRun C e (St C.W I R0) ⟨dst, .load t x, ty, pos, after, g⟩ v :=
  fun a w ha hw => by simp only [execOp, ha.eval hx]; exact run_v (run_loadVar_plain ht (hr w hw))
theorem QRun.loads {dst : Option Tmp} (hx : evo e x = some (.pointer (some ad0))) (ht : aggT C.P t = true) (hn : cellsIn C.P t = some n) (hr : Rds C.W I R0 ad0 vs) (hl : vs.length = n) : QRun C e (St C.W I R0) ⟨dst, .load t x, ty, pos, after, g⟩ (.agg vs.toArray) :=
  fun a w ha hw => by simp only [execOp, ha.eval hx]; exact run_v (run_loadVar_agg ht hn hl (fun j u hj => hr j u hj w hw))
theorem Nx.mix_quiet (ho : ops[k]? = some o) (hl : loud.contains k = false) (hg : o.guard = none) (hd : o.dst = some d) (hlt : Nat.blt d C.n = true) (hrun : QRun C e S o v) (h : Nx C ((d, v) :: e) I R (wpMix C.P ops Q S loud r)) : Nx C e I R (wpMix C.P ops Q S loud (k :: r)) :=
  Nx.mix_q ho hl hg hd hlt hrun h
theorem Nx.mix_quiet_do {j dj : Nat} {want : Bool} (ho : ops[k]? = some o) (hl : loud.contains k = false) (hg : o.guard = some (j, want)) (hdj : (ops[j]?).bind (·.dst) = some dj) (hb : lk e dj = some (.bool want)) (hd : o.dst = some d) (hlt : Nat.blt d C.n = true) (hrun : QRun C e S o v)
    (h : Nx C ((d, v) :: e) I R (wpMix C.P ops Q S loud r)) : Nx C e I R (wpMix C.P ops Q S loud (k :: r)) :=
  Nx.mix_q_do ho hl hg hdj hb hd hlt hrun h
end
end Go.Eng
