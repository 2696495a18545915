/-
  The proof engine, part D: slices: reading, making, appending; how data lies in memory.
-/
import Derived.Test.YtaoeapmdhpkidaaEngC
import Derived.Laws.Slices
namespace Go.Eng
section
variable {C : Cx} {e e' : Env} {I : PH} {R R' : List Res} {K K' : Act → World → Prop} {Q : Exit → Act → World → Prop} {W : World}
variable {d : Nat} {ty t u el : TypeId} {pos : String} {after : Array Edge} {g : Option (Nat × Bool)} {x y z : Operand} {v vx vy vz : Value}
variable {A B : Option Addr} {n c : Nat}

/-- Where a slice begins. -/
def ad (A : Option Addr) : Addr := A.getD ⟨0, 0, none⟩
theorem ad_some (a : Addr) : ad (some a) = a := rfl

theorem run_builtin {P : Program} {ρ : Operand → Value} {b : Builtin} {args : Array Operand} {tys : Array TypeId} {vs : List Value} {w : World} {dst : Option Tmp}
    (hvs : args.toList.map ρ = vs) : ∃ cs, (execOp ρ ⟨dst, .call { callee := .builtin b, args, argTypes := tys }, ty, pos, after, g⟩).run P w = (builtin b tys ty cs vs.toArray).run P w := by
  have e1 : args.map ρ = vs.toArray := by rw [← hvs]; exact Array.ext' (by rw [Array.toList_map])
  unfold execOp
  simp only [resolve, e1]
  exact ⟨_, rfl⟩
theorem Nx.len_slice {tys : Array TypeId} (hx : evo e x = some (.slice A n c)) (hty : tys = #[t]) (ht : C.P.underlying t = some (.slice el)) (hlt : Nat.blt d C.n = true)
    (h : Nx C ((d, .int .i64 n) :: e) I R K) : Nx C e I R (opK C.P ⟨some d, .call { callee := .builtin .len, args := #[x], argTypes := tys }, ty, pos, after, g⟩ K Q) :=
  Nx.op_run rfl hlt (fun a w ha _ => by
    subst hty
    obtain ⟨cs, hcs⟩ := run_builtin (P := C.P) (w := w) (ρ := a.eval) (b := .len) (args := #[x]) (dst := some d) (ty := ty) (pos := pos) (after := after) (g := g) (tys := #[t]) (show [x].map a.eval = [Value.slice A n c] from by simp only [List.map_cons, List.map_nil, ha.eval hx])
    rw [hcs]
    refine run_v ?_
    unfold Builtin.len_
    simp only [List.getElem?_toArray, List.getElem?_cons_zero]
    rw [Sem.run_bind, run_underlying ht]
    rfl) h
theorem Nx.len_str {tys : Array TypeId} {s : ByteArray} (hx : evo e x = some (.string s)) (hty : tys = #[t]) (ht : C.P.underlying t = some .string) (hlt : Nat.blt d C.n = true)
    (h : Nx C ((d, .int .i64 s.size) :: e) I R K) : Nx C e I R (opK C.P ⟨some d, .call { callee := .builtin .len, args := #[x], argTypes := tys }, ty, pos, after, g⟩ K Q) :=
  Nx.op_run rfl hlt (fun a w ha _ => by
    subst hty
    obtain ⟨cs, hcs⟩ := run_builtin (P := C.P) (w := w) (ρ := a.eval) (b := .len) (args := #[x]) (dst := some d) (ty := ty) (pos := pos) (after := after) (g := g) (tys := #[t]) (show [x].map a.eval = [Value.string s] from by simp only [List.map_cons, List.map_nil, ha.eval hx])
    rw [hcs]
    refine run_v ?_
    unfold Builtin.len_
    simp only [List.getElem?_toArray, List.getElem?_cons_zero]
    rw [Sem.run_bind, run_underlying ht]
    rfl) h
/-- min, max of integers. -/
theorem Nx.min2 {tys : Array TypeId} {k k' : IntKind} {p q : Int} (hx : evo e x = some (.int k p)) (hy : evo e y = some (.int k' q)) (hlt : Nat.blt d C.n = true)
    (h : Nx C ((d, .int k (min p q)) :: e) I R K) : Nx C e I R (opK C.P ⟨some d, .call { callee := .builtin .min, args := #[x, y], argTypes := tys }, ty, pos, after, g⟩ K Q) :=
  Nx.op_run rfl hlt (fun a w ha _ => by
    obtain ⟨cs, hcs⟩ := run_builtin (P := C.P) (w := w) (ρ := a.eval) (b := .min) (args := #[x, y]) (dst := some d) (ty := ty) (pos := pos) (after := after) (g := g) (tys := tys) (show [x, y].map a.eval = [Value.int k p, Value.int k' q] from by simp only [List.map_cons, List.map_nil, ha.eval hx, ha.eval hy])
    rw [hcs]
    refine run_v ?_
    show Result.ok (Value.int k (if q < p then q else p)) w = _
    have : (if q < p then q else p) = min p q := by rw [Int.min_def]; split <;> split <;> omega
    rw [this]) h
theorem Nx.max2 {tys : Array TypeId} {k k' : IntKind} {p q : Int} (hx : evo e x = some (.int k p)) (hy : evo e y = some (.int k' q)) (hlt : Nat.blt d C.n = true)
    (h : Nx C ((d, .int k (max p q)) :: e) I R K) : Nx C e I R (opK C.P ⟨some d, .call { callee := .builtin .max, args := #[x, y], argTypes := tys }, ty, pos, after, g⟩ K Q) :=
  Nx.op_run rfl hlt (fun a w ha _ => by
    obtain ⟨cs, hcs⟩ := run_builtin (P := C.P) (w := w) (ρ := a.eval) (b := .max) (args := #[x, y]) (dst := some d) (ty := ty) (pos := pos) (after := after) (g := g) (tys := tys) (show [x, y].map a.eval = [Value.int k p, Value.int k' q] from by simp only [List.map_cons, List.map_nil, ha.eval hx, ha.eval hy])
    rw [hcs]
    refine run_v ?_
    show Result.ok (Value.int k (if q > p then q else p)) w = _
    have : (if q > p then q else p) = max p q := by rw [Int.max_def]; split <;> split <;> omega
    rw [this]) h

theorem run_indexAt {P : Program} {k : IntKind} {i : Int} {sz : Nat} {a : Addr} (ht : P.underlying t = some (.slice el)) (hsz : cellsIn P el = some sz) (h0 : 0 ≤ i) (h1 : i < n) (w : World) :
    (Instr.indexAt t (.slice (some a) n c) (.int k i)).run P w = .ok (.pointer (some (a.add (i.toNat * sz)))) w := by
  have hz : (sizeOf el).run P w = .ok sz w := cellsIn_run hsz w
  have hand : 0 ≤ i ∧ i < (n : Int) := ⟨h0, h1⟩
  simp [Instr.indexAt, asIntOf, run_underlying ht, hz, hand]
theorem Nx.indexAddr {k : IntKind} {i : Int} {sz : Nat} (hx : evo e x = some (.slice A n c)) (hy : evo e y = some (.int k i)) (ht : C.P.underlying t = some (.slice el)) (hsz : cellsIn C.P el = some sz)
    (hlt : Nat.blt d C.n = true) (h0 : 0 ≤ i) (h1 : i < n) (hA : A.isSome = true)
    (h : Nx C ((d, .pointer (some ((ad A).add (i.toNat * sz)))) :: e) I R K) : Nx C e I R (opK C.P ⟨some d, .indexAddr t x y, ty, pos, after, g⟩ K Q) :=
  Nx.op_run rfl hlt (fun a w ha _ => by
    simp only [execOp, ha.eval hx, ha.eval hy]
    refine run_v ?_
    cases A with
    | none => cases hA
    | some a => exact run_indexAt ht hsz h0 h1 w) h
/-- The same, the index a natural number. -/
theorem Nx.indexAddr_nat {k : IntKind} {i sz : Nat} (hx : evo e x = some (.slice A n c)) (hy : evo e y = some (.int k (i : Int))) (ht : C.P.underlying t = some (.slice el)) (hsz : cellsIn C.P el = some sz)
    (hlt : Nat.blt d C.n = true) (h1 : i < n) (hA : A.isSome = true)
    (h : Nx C ((d, .pointer (some ((ad A).add (i * sz)))) :: e) I R K) : Nx C e I R (opK C.P ⟨some d, .indexAddr t x y, ty, pos, after, g⟩ K Q) :=
  Nx.indexAddr hx hy ht hsz hlt (by omega) (by omega) hA (by rw [Int.toNat_natCast]; exact h)

/-! ## What lies behind a slice -/
def Arr (I : PH) (A : Option Addr) (cs : List Value) : Prop := ∀ j u, cs[j]? = some u → A.isSome = true ∧ cellH I ((ad A).add j) = some u
theorem Arr.mono {I I' : PH} (h : PH.le I I') {cs : List Value} (ha : Arr I A cs) : Arr I' A cs := fun j u hj => ⟨(ha j u hj).1, cellH_mono h (ha j u hj).2⟩
theorem Arr.isSome {I : PH} {cs : List Value} (ha : Arr I A cs) (h : 0 < cs.length) : A.isSome = true := (ha 0 cs[0] (List.getElem?_eq_getElem h)).1
theorem Arr.nil {I : PH} : Arr I A [] := fun j u hj => by simp at hj
theorem Arr.rd {cs : List Value} (ha : Arr I A cs) {j : Nat} (hj : cs[j]? = some v) : Rd W I R ((ad A).add j) v := Rd.imm (ha j v hj).2
theorem Addr.add_add (a : Addr) (i j : Nat) : (a.add i).add j = a.add (i + j) := by
  unfold Addr.add
  by_cases hi : i = 0 <;> by_cases hj : j = 0 <;> simp [hi, hj, Nat.add_assoc]
/-- A number of cells in a row. -/
theorem Arr.rds {cs vs : List Value} (ha : Arr I A cs) {j n : Nat} (hv : (cs.drop j).take n = vs) : Rds W I R ((ad A).add j) vs := fun k u hk => by
  rw [Addr.add_add]
  subst hv
  rw [List.getElem?_take] at hk
  split at hk
  · rw [List.getElem?_drop] at hk; exact ha.rd hk
  · cases hk

/-- A list of values of one cell each, as a slice: 'f' says how an element lies in its cell. -/
structure SliceOf {α : Type} (f : α → Value) (I : PH) (A : Option Addr) (c : Nat) (l : List α) : Prop where
  arr : Arr I A (l.map f)
  cap : l.length ≤ c
  max : c ≤ maxLen
theorem SliceOf.mono {α : Type} {f : α → Value} {I I' : PH} {l : List α} (hle : PH.le I I') (h : SliceOf f I A c l) : SliceOf f I' A c l := ⟨h.arr.mono hle, h.cap, h.max⟩
theorem SliceOf.isSome {α : Type} {f : α → Value} {l : List α} (h : SliceOf f I A c l) (hk : 0 < l.length) : A.isSome = true := h.arr.isSome (by rw [List.length_map]; omega)
theorem SliceOf.len {α : Type} {f : α → Value} {l : List α} (h : SliceOf f I A c l) : (l.length : Int) ≤ 9223372036854775807 := by
  have h1 := h.cap; have h2 := h.max; unfold maxLen at h2; omega
theorem SliceOf.nil {α : Type} {f : α → Value} : SliceOf f I none 0 ([] : List α) := ⟨Arr.nil, Nat.le_refl _, by unfold maxLen; omega⟩
theorem SliceOf.rd {α : Type} [Inhabited α] {f : α → Value} {l : List α} {k : Nat} (h : SliceOf f I A c l) (hk : k < l.length) : Rd W I R ((ad A).add (k * 1)) (f (l.getD k default)) := by
  rw [Nat.mul_one]
  refine h.arr.rd ?_
  rw [List.getElem?_map, List.getD_eq_getElem?_getD, List.getElem?_eq_getElem hk]
  rfl
abbrev Ints := SliceOf (fun x : Int => Value.int .i64 x)

/-- The same, elements of 'sz' cells each. -/
structure SliceN {α : Type} (f : α → List Value) (sz : Nat) (I : PH) (A : Option Addr) (c : Nat) (l : List α) : Prop where
  arr : Arr I A (l.flatMap f)
  cap : l.length ≤ c
  max : c ≤ maxLen
  cells : ∀ x ∈ l, (f x).length = sz
theorem flatMap_at {α : Type} [Inhabited α] {f : α → List Value} {sz : Nat} : ∀ {l : List α} {k : Nat}, (∀ x ∈ l, (f x).length = sz) → k < l.length → ((l.flatMap f).drop (k * sz)).take sz = f (l.getD k default)
  | [], k, _, hk => by simp at hk
  | x :: r, 0, h, _ => by
    have := h x (by simp)
    simp only [List.flatMap_cons, Nat.zero_mul, List.drop_zero, List.getD_cons_zero]
    rw [List.take_append_of_le_length (by omega), ← this, List.take_length]
  | x :: r, k + 1, h, hk => by
    have h0 := h x (by simp)
    simp only [List.flatMap_cons, List.getD_cons_succ]
    rw [List.drop_append, List.drop_eq_nil_of_le (by rw [h0, Nat.add_mul]; omega), List.nil_append, h0, show (k + 1) * sz - sz = k * sz by rw [Nat.add_mul]; omega]
    exact flatMap_at (fun y hy => h y (by simp [hy])) (by simpa using hk)
theorem SliceN.mono {α : Type} {f : α → List Value} {sz : Nat} {I I' : PH} {l : List α} (hle : PH.le I I') (h : SliceN f sz I A c l) : SliceN f sz I' A c l := ⟨h.arr.mono hle, h.cap, h.max, h.cells⟩
theorem SliceN.len {α : Type} {f : α → List Value} {sz : Nat} {l : List α} (h : SliceN f sz I A c l) : (l.length : Int) ≤ 9223372036854775807 := by
  have h1 := h.cap; have h2 := h.max; unfold maxLen at h2; omega
theorem SliceN.isSome {α : Type} {f : α → List Value} {sz : Nat} {l : List α} (h : SliceN f sz I A c l) (hk : 0 < l.length) (hsz : 0 < sz) : A.isSome = true := by
  refine h.arr.isSome ?_
  cases l with
  | nil => simp at hk
  | cons x r => have := h.cells x (by simp); simp only [List.flatMap_cons, List.length_append]; omega
theorem SliceN.rds {α : Type} [Inhabited α] {f : α → List Value} {sz : Nat} {l : List α} {k : Nat} (h : SliceN f sz I A c l) (hk : k < l.length) : Rds W I R ((ad A).add (k * sz)) (f (l.getD k default)) :=
  h.arr.rds (flatMap_at h.cells hk)
theorem Blk.arr {m : PH} {t : TypeId} {b : Nat} {cs : List Value} (h : Blk b t cs m) : Arr m (some ⟨b, 0, none⟩) cs := fun j u hj => ⟨rfl, by
  rw [ad_some, Addr.add_lit, Nat.zero_add]
  simp [cellH, show m b = _ from h, hj]⟩

/-! ## s[lo:hi] -/
def offA (A : Option Addr) (c l sz : Nat) : Option Addr := if c = l then A else A.map (·.add (l * sz))
theorem run_slice_of {P : Program} {sz : Nat} {lo hi : Option Value} {l h : Nat} (ht : P.underlying t = some (.slice el)) (hsz : cellsIn P el = some sz) (w : World)
    (hb : (Instr.sliceBounds true n c lo hi none).run P w = .ok (l, h, c) w) : (Instr.sliceAt t (.slice A n c) lo hi none).run P w = .ok (.slice (offA A c l sz) (h - l) (c - l)) w := by
  have hz : (sizeOf el).run P w = .ok sz w := cellsIn_run hsz w
  simp [Instr.sliceAt, run_underlying ht, Instr.slice, hb, hz, offA]
theorem offA_zero {sz : Nat} : offA A c 0 sz = A := by
  unfold offA
  split
  · rfl
  · cases A with
    | none => rfl
    | some a => simp [Addr.add]
theorem Nx.slice_hi {k : IntKind} {h sz : Nat} (hx : evo e x = some (.slice A n c)) (hy : evo e y = some (.int k (h : Int))) (ht : C.P.underlying t = some (.slice el)) (hsz : cellsIn C.P el = some sz)
    (hlt : Nat.blt d C.n = true) (h2 : h ≤ c) (hk : Nx C ((d, .slice A h c) :: e) I R K) : Nx C e I R (opK C.P ⟨some d, .slice t x none (some y) none, ty, pos, after, g⟩ K Q) :=
  Nx.op_run rfl hlt (fun a w ha _ => by
    simp only [execOp, ha.eval hx, ha.eval hy, Option.map_some, Option.map_none]
    refine run_v ?_
    have := run_slice_of (A := A) (n := n) (c := c) (lo := none) (hi := some (.int k (h : Int))) (l := 0) (h := h) ht hsz w (by simp [Instr.sliceBounds, run_sliceBound, h2])
    rw [offA_zero] at this
    exact this) hk
theorem Nx.slice_lo {k : IntKind} {l sz : Nat} (hx : evo e x = some (.slice A n c)) (hy : evo e y = some (.int k (l : Int))) (ht : C.P.underlying t = some (.slice el)) (hsz : cellsIn C.P el = some sz)
    (hlt : Nat.blt d C.n = true) (h2 : l ≤ n) (hk : Nx C ((d, .slice (offA A c l sz) (n - l) (c - l)) :: e) I R K) : Nx C e I R (opK C.P ⟨some d, .slice t x (some y) none none, ty, pos, after, g⟩ K Q) :=
  Nx.op_run rfl hlt (fun a w ha _ => by
    simp only [execOp, ha.eval hx, ha.eval hy, Option.map_some, Option.map_none]
    refine run_v ?_
    exact run_slice_of (A := A) (n := n) (c := c) (lo := some (.int k (l : Int))) (hi := none) (l := l) (h := n) ht hsz w (by simp [Instr.sliceBounds, run_sliceBound, h2])) hk
theorem Nx.slice_lohi {k k' : IntKind} {l h sz : Nat} (hx : evo e x = some (.slice A n c)) (hy : evo e y = some (.int k (l : Int))) (hz : evo e z = some (.int k' (h : Int))) (ht : C.P.underlying t = some (.slice el)) (hsz : cellsIn C.P el = some sz)
    (hlt : Nat.blt d C.n = true) (h1 : l ≤ h) (h2 : h ≤ c) (hk : Nx C ((d, .slice (offA A c l sz) (h - l) (c - l)) :: e) I R K) : Nx C e I R (opK C.P ⟨some d, .slice t x (some y) (some z) none, ty, pos, after, g⟩ K Q) :=
  Nx.op_run rfl hlt (fun a w ha _ => by
    simp only [execOp, ha.eval hx, ha.eval hy, ha.eval hz, Option.map_some, Option.map_none]
    refine run_v ?_
    exact run_slice_of (A := A) (n := n) (c := c) (lo := some (.int k (l : Int))) (hi := some (.int k' (h : Int))) (l := l) (h := h) ht hsz w (by simp [Instr.sliceBounds, run_sliceBound, h1, h2])) hk
theorem SliceOf.take {α : Type} {f : α → Value} {l : List α} (h : SliceOf f I A c l) (k : Nat) : SliceOf f I A c (l.take k) :=
  ⟨fun j u hj => by
    rw [List.map_take, List.getElem?_take] at hj
    split at hj
    · exact h.arr j u hj
    · (cases hj), by have := h.cap; rw [List.length_take]; omega, h.max⟩
theorem SliceOf.drop {α : Type} {f : α → Value} {l : List α} (h : SliceOf f I A c l) {k : Nat} (hk : k ≤ l.length) : SliceOf f I (offA A c k 1) (c - k) (l.drop k) :=
  ⟨fun j u hj => by
    rw [List.map_drop, List.getElem?_drop] at hj
    have h1 := h.arr (k + j) u hj
    have hlt := (List.getElem?_eq_some_iff.1 hj).1
    rw [List.length_map] at hlt
    have hc := h.cap
    unfold offA
    rw [if_neg (by omega), Nat.mul_one]
    cases A with
    | none => cases h1.1
    | some a => exact ⟨rfl, by rw [Option.map_some, ad_some, Addr.add_add]; exact h1.2⟩, by have := h.cap; rw [List.length_drop]; omega, by have := h.max; omega⟩

/-! ## Slices that are owned -/
def Vec (t : TypeId) (sz : Nat) (A : Option Addr) (n c : Nat) (xs : List Value) : Res := fun m =>
  xs.length = n * sz ∧ ((A = none ∧ n = 0 ∧ c = 0) ∨
    ∃ b cur, A = some ⟨b, 0, none⟩ ∧ m b = some (.cells cur t (0, 0)) ∧ n ≤ c ∧ c ≤ maxLen ∧ cur.size = c * sz ∧ cur.toList.take (n * sz) = xs)
theorem Vec.nil {m : PH} {t : TypeId} {sz : Nat} : Vec t sz none 0 0 [] m := ⟨by simp, .inl ⟨rfl, rfl, rfl⟩⟩
/-- An empty list may be begun anywhere. -/
theorem Ent.vec_nil (t : TypeId) (sz : Nat) (R : List Res) : Ent R (Vec t sz none 0 0 [] :: R) :=
  fun m hm => ⟨m, PH.le_refl m, fun _ => none, m, fun _ => .inl rfl, by funext i; rfl, Vec.nil, hm⟩
theorem Vec.arr {m : PH} {sz : Nat} {xs : List Value} (h : Vec t sz A n c xs m) : Arr m A xs := by
  rcases h.2 with ⟨rfl, rfl, rfl⟩ | ⟨b, cur, rfl, hb, _, _, _, htake⟩
  · have : xs = [] := List.eq_nil_of_length_eq_zero (by simpa using h.1)
    subst this; exact Arr.nil
  · intro j u hj
    refine ⟨rfl, ?_⟩
    rw [ad_some, Addr.add_lit, Nat.zero_add]
    simp only [cellH, hb, Option.isSome_none, Bool.false_eq_true, if_false]
    rw [← htake, List.getElem?_take] at hj
    split at hj
    · simpa using hj
    · cases hj
theorem Vec.le {m : PH} {sz : Nat} {xs : List Value} (h : Vec t sz A n c xs m) : n ≤ c ∧ c ≤ maxLen := by
  rcases h.2 with ⟨_, rfl, rfl⟩ | ⟨b, cur, _, _, h1, h2, _⟩
  · exact ⟨Nat.le_refl _, by unfold maxLen; omega⟩
  · exact ⟨h1, h2⟩
/-- It may be read as a slice by whoever it is lent to. -/
theorem Vec.slice {α : Type} {f : α → Value} {m : PH} {l : List α} (h : Vec t 1 A n c (l.map f) m) : SliceOf f m A c l ∧ n = l.length := by
  have h1 := h.1
  simp at h1
  exact ⟨⟨h.arr, by have := h.le.1; omega, h.le.2⟩, h1.symm⟩
theorem Rd.vec {sz j : Nat} {xs : List Value} (hj : xs[j]? = some v) : Rd W I (Vec t sz A n c xs :: R) ((ad A).add j) v := Rd.own fun _ hm => ((Vec.arr hm) j v hj).2
theorem Rd.vec_at {α : Type} [Inhabited α] {f : α → Value} {l : List α} {k : Nat} (hk : k < l.length) : Rd W I (Vec t 1 A n c (l.map f) :: R) ((ad A).add (k * 1)) (f (l.getD k default)) := by
  rw [Nat.mul_one]
  refine Rd.vec ?_
  rw [List.getElem?_map, List.getD_eq_getElem?_getD, List.getElem?_eq_getElem hk]
  rfl
theorem Rd.vecAt (k : Nat) {sz j : Nat} {xs : List Value} (hk : nthL R k = some (Vec t sz A n c xs)) (hj : nthL xs j = some v) : Rd W I R ((ad A).add j) v :=
  Rd.ent (Ent.pull k R _ (nthL_eq.symm.trans hk)) (Rd.vec (nthL_eq.symm.trans hj))
theorem Rd.vecAt2 (k : Nat) {sz i j : Nat} {xs : List Value} (hk : nthL R k = some (Vec t sz A n c xs)) (hj : nthL xs (i + j) = some v) : Rd W I R (((ad A).add i).add j) v := by
  rw [Addr.add_add]; exact Rd.vecAt k hk hj
/-- The element number i of a list that is owned. -/
theorem Rd.vecEl (k : Nat) {α : Type} [Inhabited α] {f : α → Value} {l : List α} {i : Nat} (hk : nthL R k = some (Vec t 1 A n c (l.map f))) (hi : i < l.length) : Rd W I R ((ad A).add (i * 1)) (f (l.getD i default)) :=
  Rd.ent (Ent.pull k R _ (nthL_eq.symm.trans hk)) (Rd.vec_at hi)
/-- What is known of an owned slice in every state that holds it. -/
theorem Nx.vec_fact {sz : Nat} {xs : List Value} (h : (xs.length = n * sz → n ≤ c → c ≤ maxLen → (0 < n → A.isSome = true) → Nx C e I (Vec t sz A n c xs :: R) K)) : Nx C e I (Vec t sz A n c xs :: R) K := by
  intro a w ha hw
  obtain ⟨⟨m, ⟨m1, m2, hd, rfl, hv, h2⟩, hs⟩, hst⟩ := id hw
  refine h hv.1 hv.le.1 hv.le.2 (fun hn => ?_) a w ha hw
  rcases hv.2 with ⟨_, h0, _⟩ | ⟨b, cur, rfl, _⟩
  · omega
  · rfl
theorem Vec.owns {w : World} {m1 m2 : PH} {sz : Nat} {xs : List Value} (h : Vec t sz A n c xs m1) (hs : ∀ i o, (m1.or m2) i = some o → w.heap[i]? = some o) : w.ownsRow 0 t sz (.slice A n c) n xs := by
  refine ⟨h.1, ?_⟩
  rcases h.2 with ⟨rfl, rfl, rfl⟩ | ⟨b, cur, rfl, hb, h1, h2, h3, h4⟩
  · exact .inl ⟨rfl, rfl⟩
  · exact .inr ⟨b, c, cur, rfl, Nat.zero_le _, hs b _ (PH.le_or_left _ _ _ _ hb), h1, h2, h3, h4⟩
def elemOk (P : Program) (el : TypeId) (sz by_ : Nat) : Prop := ∃ i z, P.info? el = some i ∧ i.zero = some z ∧ i.size = sz ∧ i.bytes = by_ ∧ z.cells.size = sz ∧ 0 < sz
/-- The cells behind the slice 'B' of k elements: 'ys', in every such state. -/
structure Src (W : World) (I : PH) (R : List Res) (B : Option Addr) (k sz : Nat) (ys : List Value) : Prop where
  len : ys.length = k * sz
  rds : ∀ b, B = some b → Rds W I R b ys
  noAd : B = none → k = 0
  one : ∀ u ∈ ys, u.oneCell' = true
theorem Src.blk {b k sz : Nat} {cs : List Value} (hl : cs.length = k * sz) (h1 : ∀ u ∈ cs, u.oneCell' = true) : Src W I (Blk b t cs :: R) (some ⟨b, 0, none⟩) k sz cs :=
  ⟨hl, fun a ha => by cases ha; exact Rds.blk0, (fun h => by cases h), h1⟩
theorem Src.tail {r : Res} {k sz : Nat} {ys : List Value} (h : Src W I R B k sz ys) : Src W I (r :: R) B k sz ys := ⟨h.len, fun b hb => (h.rds b hb).tail, h.noAd, h.one⟩
theorem Src.arr {k sz : Nat} {ys : List Value} (h : Arr I B ys) (hl : ys.length = k * sz) (hsz : 0 < sz) (h1 : ∀ u ∈ ys, u.oneCell' = true) : Src W I R B k sz ys :=
  ⟨hl, fun b hb j u hj => by subst hb; exact h.rd hj, (fun hb => by
    rcases Nat.eq_zero_or_pos k with h0 | h0
    · exact h0
    · have := h.isSome (by rw [hl]; exact Nat.mul_pos h0 hsz)
      rw [hb] at this; cases this), h1⟩
def elemIs (P : Program) (el : TypeId) (sz : Nat) : Bool := match P.info? el with
  | some i => match i.zero with
    | some z => Nat.beq i.size sz && Nat.ble i.bytes 4096 && Nat.beq z.cells.size sz && Nat.blt 0 sz
    | none => false
  | none => false
theorem elemIs_ok {P : Program} {sz : Nat} (h : elemIs P el sz = true) : ∃ by_, by_ ≤ 4096 ∧ elemOk P el sz by_ := by
  unfold elemIs at h
  split at h
  · rename_i i hi
    split at h
    · rename_i z hz
      simp only [Bool.and_eq_true] at h
      exact ⟨i.bytes, Nat.le_of_ble_eq_true h.1.1.2, i, z, hi, hz, Nat.eq_of_beq_eq_true h.1.1.1, rfl, Nat.eq_of_beq_eq_true h.1.2, by simpa [Nat.blt_eq] using h.2⟩
    · cases h
  · cases h
theorem append_run {P : Program} {w : World} {sz by_ k c2 : Nat} {xs ys : List Value} (ht : P.underlying t = some (.slice el)) (hel : elemOk P el sz by_)
    (hown : w.ownsRow 0 el sz (.slice A n c) n xs) (hsrc : Src W I R B k sz ys) (hst : St W I R w) (h63 : n + k ≤ maxLen) (hby : (n + k) * by_ ≤ 140737488355328) :
    ∃ v' w', (Builtin.append_ #[t, t] ty #[.slice A n c, .slice B k c2]).run P w = .ok v' w' ∧ w'.ownsRow 0 el sz v' (n + k) (xs ++ ys) ∧ w.grownBy w' (Value.slice A n c).ownBlock ∧
      (v'.ownBlock = (Value.slice A n c).ownBlock ∨ v'.ownBlock = some w.heap.size) := by
  obtain ⟨i, zv, hi, hz, hsize, hbytes, hzs, hpos⟩ := hel
  cases B with
  | none =>
    have hk := hsrc.noAd rfl
    subst hk
    have hy : ys = [] := List.eq_nil_of_length_eq_zero (by simpa using hsrc.len)
    subst hy
    refine ⟨.slice A n c, w, ?_, by simpa using hown, ⟨rfl, rfl, rfl, Nat.le_refl _, fun _ _ _ => rfl⟩, .inl rfl⟩
    rcases hown.2 with ⟨hv, rfl⟩ | ⟨b', cap, cur, hv, _, _, hnc, _⟩
    · cases hv; simp [Builtin.append_, run_underlying ht, sizeOf, typeInfo, hi, Builtin.lenOf, Builtin.firstCells]
    · cases hv; simp [Builtin.append_, run_underlying ht, sizeOf, typeInfo, hi, Builtin.lenOf, Builtin.firstCells, hnc, storeCells]
  | some b =>
    obtain ⟨v', w', hr, h2, h3, _, h5⟩ := run_append_own_at (P := P) w 0 t ty el i zv sz by_ ht hi hz hsize hbytes hzs hpos (.slice A n c) n xs hown b k c2 ys hsrc.len (fun j u hj => hsrc.rds b rfl j u hj w hst) hsrc.one h63 hby (Nat.zero_le _)
    exact ⟨v', w', hr, h2, h3, h5⟩
/-- Behind an append: the owned slice has grown, all else is as it was. -/
theorem St.append {w w' : World} {sz m : Nat} {xs xs' : List Value} {v' : Value} (h : St W I (Vec el sz A n c xs :: R) w) (hown : w'.ownsRow 0 el sz v' m xs') (hg : w.grownBy w' (Value.slice A n c).ownBlock)
    (hat : v'.ownBlock = (Value.slice A n c).ownBlock ∨ v'.ownBlock = some w.heap.size) (hdr : w.drawn ≤ w'.drawn) : ∃ A' c', v' = .slice A' m c' ∧ St W I (Vec el sz A' m c' xs' :: R) w' := by
  obtain ⟨⟨mm, ⟨m1, m2, hd, rfl, hv, h2⟩, hs⟩, hst⟩ := h
  have hlt : ∀ {i : Nat} {o' : Obj}, w.heap[i]? = some o' → i < w.heap.size := fun {i o'} hi => (Array.getElem?_eq_some_iff.1 hi).1
  have hnotI : ∀ i, some i = (Value.slice A n c).ownBlock → I i = none ∧ m2 i = none := by
    intro i hi
    rcases hv.2 with ⟨rfl, _, _⟩ | ⟨b, cur, rfl, hb, _⟩
    · simp [Value.ownBlock] at hi
    · simp [Value.ownBlock] at hi
      subst hi
      refine ⟨?_, ?_⟩
      · rcases hs.dis i with e | e
        · exact e
        · rw [(PH.or_eq_none.1 e).1] at hb; cases hb
      · rcases hd i with e | e
        · rw [e] at hb; cases hb
        · exact e
  have keepI : ∀ i o, I i = some o → w'.heap[i]? = some o := fun i o hi => by
    rw [hg.block i (hlt (hs.imm i o hi)) (fun he => by rw [(hnotI i he).1] at hi; cases hi)]; exact hs.imm i o hi
  have keep2 : ∀ i o, m2 i = some o → w'.heap[i]? = some o := fun i o hi => by
    have h0 := hs.own i o (PH.le_or_right hd i o hi)
    rw [hg.block i (hlt h0) (fun he => by rw [(hnotI i he).2] at hi; cases hi)]; exact h0
  have hst' : Still W w' := hst.trans ⟨hg.os, hg.tape, hg.output, hg.size, hdr⟩
  rcases hown.2 with ⟨rfl, rfl⟩ | ⟨b', cap', cur', rfl, _, hb', hnc, hcm, hsz, htake⟩
  · exact ⟨none, 0, rfl, ⟨⟨_, ⟨fun _ => none, m2, fun _ => .inl rfl, by funext i; rfl, ⟨hown.1, .inl ⟨rfl, rfl, rfl⟩⟩, h2⟩, ⟨keepI, keep2, (PH.dis_or.1 hs.dis).2⟩⟩, hst'⟩⟩
  · have hfree : I b' = none ∧ m2 b' = none := by
      rcases hat with he | he
      · exact hnotI b' (by rw [← he]; rfl)
      · have : b' = w.heap.size := by simpa [Value.ownBlock] using he
        subst this
        refine ⟨?_, ?_⟩
        · cases hi : I w.heap.size with
          | none => rfl
          | some o => have := hlt (hs.imm _ o hi); omega
        · cases hi : m2 w.heap.size with
          | none => rfl
          | some o => have := hlt (hs.own _ o (PH.le_or_right hd _ o hi)); omega
    refine ⟨some ⟨b', 0, none⟩, cap', rfl, ⟨⟨(PH.single b' (.cells cur' el (0, 0))).or m2, ⟨PH.single b' (.cells cur' el (0, 0)), m2, ?_, rfl, ⟨hown.1, .inr ⟨b', cur', rfl, by simp [PH.single], hnc, hcm, hsz, htake⟩⟩, h2⟩, ⟨keepI, ?_, ?_⟩⟩, hst'⟩⟩
    · intro i
      unfold PH.single
      by_cases hi : i = b'
      · right; rw [hi]; exact hfree.2
      · left; rw [if_neg hi]
    · intro i o hi
      rcases PH.or_eq_some hi with h1 | ⟨_, h1⟩
      · have h1' : (if i = b' then some (Obj.cells cur' el (0, 0)) else none) = some o := h1
        by_cases hib : i = b'
        · rw [if_pos hib] at h1'; subst hib
          obtain rfl : Obj.cells cur' el (0, 0) = o := by simpa using h1'
          exact hb'
        · rw [if_neg hib] at h1'; cases h1'
      · exact keep2 i o h1
    · refine PH.dis_or.2 ⟨fun i => ?_, (PH.dis_or.1 hs.dis).2⟩
      unfold PH.single
      by_cases hi : i = b'
      · left; rw [hi]; exact hfree.1
      · right; rw [if_neg hi]
/-- append onto an owned slice (the first resource). -/
theorem Nx.append {tys : Array TypeId} {sz k c2 : Nat} {xs ys : List Value} (hx : evo e x = some (.slice A n c)) (hy : evo e y = some (.slice B k c2)) (hty : tys = #[t, t]) (ht : C.P.underlying t = some (.slice el)) (hel : elemIs C.P el sz = true)
    (hlt : Nat.blt d C.n = true) (hsrc : Src C.W I (Vec el sz A n c xs :: R) B k sz ys) (h63 : n + k ≤ 34359738368)
    (h : ∀ A' c', Nx C ((d, .slice A' (n + k) c') :: e) I (Vec el sz A' (n + k) c' (xs ++ ys) :: R) K) : Nx C e I (Vec el sz A n c xs :: R) (opK C.P ⟨some d, .call { callee := .builtin .append, args := #[x, y], argTypes := tys }, ty, pos, after, g⟩ K Q) := by
  subst hty
  intro a w ha hw
  obtain ⟨⟨m, ⟨m1, m2, hd, rfl, hv, h2⟩, hs⟩, hst⟩ := id hw
  obtain ⟨by_, hby0, hel⟩ := elemIs_ok hel
  have hby : (n + k) * by_ ≤ 140737488355328 := Nat.le_trans (Nat.mul_le_mul h63 hby0) (by decide)
  have h63 : n + k ≤ maxLen := by unfold maxLen; omega
  obtain ⟨v', w', hr, hown', hg, hat⟩ := append_run (ty := ty) (c2 := c2) ht hel (hv.owns hs.own) hsrc hw h63 hby
  obtain ⟨A', c', rfl, hst'⟩ := St.append hw hown' hg hat (run_drawn _ _ hr)
  unfold opK Oper.wp
  have hrun : (execOp a.eval ⟨some d, .call { callee := .builtin .append, args := #[x, y], argTypes := #[t, t] }, ty, pos, after, g⟩).run C.P w = .ok (.value (.slice A' (n + k) c')) w' := by
    obtain ⟨cs, hcs⟩ := run_builtin (P := C.P) (w := w) (ρ := a.eval) (b := .append) (args := #[x, y]) (dst := some d) (ty := ty) (pos := pos) (after := after) (g := g) (tys := #[t, t]) (show [x, y].map a.eval = [Value.slice A n c, Value.slice B k c2] from by simp only [List.map_cons, List.map_nil, ha.eval hx, ha.eval hy])
    rw [hcs]
    exact run_v hr
  rw [hrun]
  exact h A' c' _ w' (ha.put hlt _) hst'
/-- The same, what is appended a literal that has just been laid; the owned slice is resource number k behind it. -/
theorem Nx.append_lit (k : Nat) {tys : Array TypeId} {sz m c2 b : Nat} {xs cs : List Value} (hx : evo e x = some (.slice A n c)) (hy : evo e y = some (.slice (some ⟨b, 0, none⟩) m c2)) (hty : tys = #[t, t]) (ht : C.P.underlying t = some (.slice el)) (hel : elemIs C.P el sz = true)
    (hlt : Nat.blt d C.n = true) (hk : nthL R k = some (Vec el sz A n c xs)) (hl : Nat.beq cs.length (m * sz) = true) (h1 : cs.all Value.oneCell' = true) (h63 : n + m ≤ 34359738368)
    (h : ∀ A' c', Nx C ((d, .slice A' (n + m) c') :: e) I (Vec el sz A' (n + m) c' (xs ++ cs) :: R.eraseIdx k) K) : Nx C e I (Blk b el cs :: R) (opK C.P ⟨some d, .call { callee := .builtin .append, args := #[x, y], argTypes := tys }, ty, pos, after, g⟩ K Q) := by
  refine Nx.ent (R' := Vec el sz A n c xs :: Blk b el cs :: R.eraseIdx k) ((Ent.cons (Ent.pull k R _ (nthL_eq.symm.trans hk))).trans (Ent.swap _ _ _)) ?_
  refine Nx.append hx hy hty ht hel hlt (Src.tail (Src.blk (Nat.eq_of_beq_eq_true hl) (fun u hu => List.all_eq_true.1 h1 u hu))) h63 fun A' c' => ?_
  exact (h A' c').ent (Ent.cons (Ent.drop (Ent.refl _)))

/-- A call whose value is known and which leaves nothing. -/
theorem Nx.callv {fx : Operand} {args : Array Operand} {tys : Array TypeId} {f : FuncId} {c1 c2 : Array Value} {vs al : List Value} {V : Value}
    (hfx : evo e fx = some (.func (.func f) c1 c2)) (hvs : evs e args.toList = some vs) (hal : c1.toList ++ vs ++ c2.toList = al) (hc : callable C.P f = true) (hlt : Nat.blt d C.n = true)
    (hs : FnSpec C.P f al I [] (fun v R' => v = V ∧ R' = [])) (h : Nx C ((d, V) :: e) I R K) : Nx C e I R (opK C.P ⟨some d, .call { callee := .value fx, args, argTypes := tys }, ty, pos, after, g⟩ K Q) :=
  Nx.call (Rpre := []) (Rrest := R) hfx hvs hal hc hlt hs (Ent.refl _) (by rintro v R' ⟨rfl, rfl⟩; exact h)

/-- make([]T, n), T of one cell. -/
theorem Nx.makeSlice {kl kc : IntKind} {by_ m : Nat} {z0 : Value} {i : TypeInfo} (hx : evo e x = some (.int kl (m : Int))) (hy : evo e y = some (.int kc (m : Int))) (ht : C.P.underlying t = some (.slice el))
    (hi : C.P.info? el = some i) (hz : i.zero = some z0) (hs : i.size = 1) (hb : i.bytes = by_) (hz1 : z0.cells = #[z0]) (hlt : Nat.blt d C.n = true) (hbytes : by_ * m ≤ 281474976710656) (h63 : m ≤ maxLen)
    (h : ∀ b, Nx C ((d, .slice (some ⟨b, 0, none⟩) m m) :: e) I (Vec el 1 (some ⟨b, 0, none⟩) m m (List.replicate m z0) :: R) K) : Nx C e I R (opK C.P ⟨some d, .makeSlice t x y, ty, pos, after, g⟩ K Q) := by
  refine Nx.op_new (v := fun b => .slice (some ⟨b, 0, none⟩) m m) (ob := .cells (madeCells z0.cells (m * 1)) el) rfl hlt (fun a w ha hw => ?_) (fun b => ?_)
  · simp only [execOp, ha.eval hx, ha.eval hy]
    refine run_v ?_
    have hbb : (i.bytes : Int) * (m : Int) ≤ 281474976710656 := by
      have h : ((i.bytes * m : Nat) : Int) ≤ 281474976710656 := by rw [hb]; omega
      rwa [Int.natCast_mul] at h
    unfold maxLen at h63
    have hr := run_make (P := C.P) w t el i z0 ht hi hz kl kc m m (by omega) (by omega) hbb (by omega)
    simp only [Int.toNat_natCast, hs] at hr
    exact hr
  · refine (h b).ent (Ent.head fun mm hm => ⟨by simp, .inr ⟨b, _, rfl, hm, Nat.le_refl _, h63, by rw [size_madeCells], ?_⟩⟩)
    rw [hz1, Nat.mul_one, toList_madeCells_one]
    simp
/-- A store into an owned slice of one-cell elements. -/
theorem Wr.vec {P : Program} {i : Nat} {xs : List Value} (hi : i < n) (h1 : v.oneCell' = true) : Wr P W I (Vec t 1 A n c xs :: R) ((ad A).add i) [v] (Vec t 1 A n c (xs.set i v) :: R) := by
  intro w hw
  obtain ⟨⟨m, ⟨m1, m2, hd, rfl, hv, h2⟩, hsat⟩, hst⟩ := id hw
  rcases hv.2 with ⟨_, h0, _⟩ | ⟨b, cur, rfl, hb, hnc, hcm, hsz, htake⟩
  · omega
  have hb0 : w.heap[b]? = some (.cells cur t (0, 0)) := hsat.own _ _ (PH.le_or_left _ _ _ _ hb)
  have hrun := run_store1 (P := P) hb0 (i := i) (by omega) h1
  refine ⟨w.setCell ⟨b, i, none⟩ v, ?_, hw.upd (o := .cells (cur.setIfInBounds i v) t (0, 0)) (b := b) (fun mm hm => ?_) ?_ (fun k hne o' ho => (heap_setCell_other w ⟨b, i, none⟩ k v hne).trans ho) ⟨rfl, rfl, rfl, by simp, Nat.le_refl _⟩⟩
  · rw [ad_some, Addr.add_lit, Nat.zero_add]
    unfold storeCells
    rw [Sem.run_bind, Addr.add_zero', hrun]
    rfl
  · rcases hm.2 with ⟨he, _, _⟩ | ⟨b', cur', he, hb', h1', h2', h3', h4'⟩
    · cases he
    · cases he
      refine ⟨by rw [hb']; rfl, by simpa using hm.1, .inr ⟨b, cur.setIfInBounds i v, rfl, by simp, h1', h2', by simpa using hsz, ?_⟩⟩
      rw [← htake]
      simp only [Array.toList_setIfInBounds, Nat.mul_one]
      rw [List.take_set]
  · exact heap_setCell_same w b i cur t v hb0
/-- A literal may be taken as a list that is owned. -/
theorem Blk.vec {b n sz : Nat} {cs : List Value} (hl : cs.length = n * sz) (hm : n ≤ maxLen) : ∀ m, Blk b t cs m → Vec t sz (some ⟨b, 0, none⟩) n n cs m :=
  fun m h => ⟨hl, .inr ⟨b, cs.toArray, rfl, h, Nat.le_refl _, hm, by simpa using hl, by simp [← hl]⟩⟩
theorem Nx.blk_vec (k : Nat) (n sz : Nat) {b : Nat} {cs : List Value} (hk : nthL R k = some (Blk b t cs)) (hl : cs.length = n * sz) (hm : n ≤ 34359738368) (h : Nx C e I (Vec t sz (some ⟨b, 0, none⟩) n n cs :: R.eraseIdx k) K) : Nx C e I R K :=
  Nx.ent ((Ent.pull k R _ (nthL_eq.symm.trans hk)).trans (Ent.head (Blk.vec hl (by unfold maxLen; omega)))) h
/-- A store into an owned list of integers, resource number k. -/
theorem Nx.store_ints (k : Nat) {i : Nat} {l : List Int} {z : Int} (hx : evo e x = some (.pointer (some ((ad A).add (i * 1))))) (hy : evo e y = some (.int .i64 z)) (hn : cellsIn C.P t = some 1) (hk : nthL R k = some (Vec el 1 A n c (l.map (Value.int .i64)))) (hi : i < n)
    (h : Nx C e I (Vec el 1 A n c ((l.set i z).map (Value.int .i64)) :: R.eraseIdx k) K) : Nx C e I R (opK C.P ⟨none, .store t x y, ty, pos, after, g⟩ K Q) := by
  rw [Nat.mul_one] at hx
  refine Nx.ent (Ent.pull k R _ (nthL_eq.symm.trans hk)) (Nx.store hx hy rfl hn rfl (Wr.vec hi rfl) ?_)
  rw [List.map_set] at h
  exact h
/-- make([]int, m). -/
theorem Nx.makeInts {kl kc : IntKind} {m : Nat} {i : TypeInfo} (hx : evo e x = some (.int kl (m : Int))) (hy : evo e y = some (.int kc (m : Int))) (ht : C.P.underlying t = some (.slice el))
    (hi : C.P.info? el = some i) (hz : i.zero = some (.int .i64 0)) (hs : i.size = 1) (hb : i.bytes = 8) (hlt : Nat.blt d C.n = true) (h63 : m ≤ 34359738368)
    (h : ∀ b, Nx C ((d, .slice (some ⟨b, 0, none⟩) m m) :: e) I (Vec el 1 (some ⟨b, 0, none⟩) m m ((List.replicate m (0 : Int)).map (Value.int .i64)) :: R) K) : Nx C e I R (opK C.P ⟨some d, .makeSlice t x y, ty, pos, after, g⟩ K Q) :=
  Nx.makeSlice hx hy ht hi hz hs hb rfl hlt (by omega) (by unfold maxLen; omega) (fun b => by have := h b; rw [List.map_replicate] at this; exact this)
/-- A call to which resource number k is lent for reading. -/
theorem Nx.call_lendR (k : Nat) {fx : Operand} {args : Array Operand} {tys : Array TypeId} {f : FuncId} {c1 c2 : Array Value} {vs al : List Value} {r : Res} {Post : Value → List Res → Prop}
    (hfx : evo e fx = some (.func (.func f) c1 c2)) (hvs : evs e args.toList = some vs) (hal : c1.toList ++ vs ++ c2.toList = al) (hc : callable C.P f = true) (hlt : Nat.blt d C.n = true) (hk : nthL R k = some r)
    (hs : ∀ m I', PH.le I I' → PH.le m I' → r m → FnSpec C.P f al I' [] Post) (h : ∀ v R', Post v R' → Nx C ((d, v) :: e) I (r :: (R' ++ R.eraseIdx k)) K) : Nx C e I R (opK C.P ⟨some d, .call { callee := .value fx, args, argTypes := tys }, ty, pos, after, g⟩ K Q) :=
  Nx.call_lend (B := [r]) (Rpre := []) (Rrest := R.eraseIdx k) hfx hvs hal hc hlt (fun m hd hB => by
    obtain ⟨m1, m2, hd', rfl, hr, _⟩ := hB
    exact hs m1 _ (PH.le_or_left _ _) ((PH.le_or_left m1 m2).trans (PH.le_or_right hd)) hr) (Ent.pull k R r (nthL_eq.symm.trans hk)) h
/-- Two resources are lent: those of numbers k and, behind that, j. -/
theorem Nx.call_lendR2 (k j : Nat) {fx : Operand} {args : Array Operand} {tys : Array TypeId} {f : FuncId} {c1 c2 : Array Value} {vs al : List Value} {r r2 : Res} {Post : Value → List Res → Prop}
    (hfx : evo e fx = some (.func (.func f) c1 c2)) (hvs : evs e args.toList = some vs) (hal : c1.toList ++ vs ++ c2.toList = al) (hc : callable C.P f = true) (hlt : Nat.blt d C.n = true) (hk : nthL R k = some r) (hj : nthL (R.eraseIdx k) j = some r2)
    (hs : ∀ m m2 I', PH.le I I' → PH.le m I' → r m → PH.le m2 I' → r2 m2 → FnSpec C.P f al I' [] Post) (h : ∀ v R', Post v R' → Nx C ((d, v) :: e) I (r :: r2 :: (R' ++ (R.eraseIdx k).eraseIdx j)) K) : Nx C e I R (opK C.P ⟨some d, .call { callee := .value fx, args, argTypes := tys }, ty, pos, after, g⟩ K Q) :=
  Nx.call_lend (B := [r, r2]) (Rpre := []) (Rrest := (R.eraseIdx k).eraseIdx j) hfx hvs hal hc hlt (fun m hd hB => by
    obtain ⟨m1, m', hd1, rfl, hr, m2, m3, hd2, rfl, hr2, _⟩ := hB
    have hmI := PH.le_or_right hd
    exact hs m1 m2 _ (PH.le_or_left _ _) ((PH.le_or_left _ _).trans hmI) hr (((PH.le_or_left m2 m3).trans (PH.le_or_right hd1)).trans hmI) hr2) ((Ent.pull k R r (nthL_eq.symm.trans hk)).trans (Ent.cons (Ent.pull j _ r2 (nthL_eq.symm.trans hj)))) h
theorem Vec.sliceN {α : Type} {f : α → List Value} {sz : Nat} {m I' : PH} {l : List α} (hm : PH.le m I') (h : Vec t sz A l.length c (l.flatMap f) m) (hf : ∀ x ∈ l, (f x).length = sz) : SliceN f sz I' A c l :=
  ⟨h.arr.mono hm, h.le.1, h.le.2, hf⟩
theorem Vec.sliceOf {α : Type} {f : α → Value} {m I' : PH} {l : List α} (hm : PH.le m I') (h : Vec t 1 A l.length c (l.map f) m) : SliceOf f I' A c l := ⟨h.arr.mono hm, h.le.1, h.le.2⟩
theorem Blk.sliceN {α : Type} {f : α → List Value} {sz b : Nat} {m I' : PH} {l : List α} (hm : PH.le m I') (h : Blk b t (l.flatMap f) m) (hf : ∀ x ∈ l, (f x).length = sz) (hl : l.length ≤ maxLen) : SliceN f sz I' (some ⟨b, 0, none⟩) l.length l :=
  ⟨(Blk.arr h).mono hm, Nat.le_refl _, hl, hf⟩
theorem Blk.sliceOf {α : Type} {f : α → Value} {b : Nat} {m I' : PH} {l : List α} (hm : PH.le m I') (h : Blk b t (l.map f) m) (hl : l.length ≤ maxLen) : SliceOf f I' (some ⟨b, 0, none⟩) l.length l :=
  ⟨(Blk.arr h).mono hm, Nat.le_refl _, hl⟩
/-- append(s, t...), t owned too (the first resource); s is resource number k behind it. -/
theorem Nx.append_vec (k : Nat) {tys : Array TypeId} {sz m c2 : Nat} {xs ys : List Value} (hx : evo e x = some (.slice A n c)) (hy : evo e y = some (.slice B m c2)) (hty : tys = #[t, t]) (ht : C.P.underlying t = some (.slice el)) (hel : elemIs C.P el sz = true)
    (hlt : Nat.blt d C.n = true) (hk : nthL R k = some (Vec el sz A n c xs)) (h1 : ∀ u ∈ ys, u.oneCell' = true) (h63 : n + m ≤ 34359738368)
    (h : ∀ A' c', Nx C ((d, .slice A' (n + m) c') :: e) I (Vec el sz A' (n + m) c' (xs ++ ys) :: R.eraseIdx k) K) : Nx C e I (Vec el sz B m c2 ys :: R) (opK C.P ⟨some d, .call { callee := .builtin .append, args := #[x, y], argTypes := tys }, ty, pos, after, g⟩ K Q) := by
  refine Nx.vec_fact fun hl _ _ hB => ?_
  refine Nx.ent (R' := Vec el sz A n c xs :: Vec el sz B m c2 ys :: R.eraseIdx k) ((Ent.cons (Ent.pull k R _ (nthL_eq.symm.trans hk))).trans (Ent.swap _ _ _)) ?_
  refine Nx.append hx hy hty ht hel hlt (Src.tail ⟨hl, fun b hb j u hj => ?_, fun hb => ?_, h1⟩) h63 fun A' c' => ?_
  · subst hb; exact Rd.vec hj
  · rcases Nat.eq_zero_or_pos m with h0 | h0
    · exact h0
    · have := hB h0; rw [hb] at this; cases this
  · exact (h A' c').ent (Ent.cons (Ent.drop (Ent.refl _)))
end
end Go.Eng
