/-
  The proof engine, part U: unsigned whole numbers of 64 bits: sums that wrap, shifts, bits.
-/
import Derived.Laws.Bits64
import Derived.Laws.Bits64b
import Derived.Laws.Externs
import Derived.Shelf.Spec.BitsCarry
import Derived.Lib.ItoaNum
import Derived.Lib.TrailingZeros
import Derived.Sort.Grow
import Derived.Lib.AppendIntMem
import Derived.Lib.ItoaLen
import Derived.Laws.Concat
import Derived.Laws.Strings
import Derived.Laws.StructEq
import Derived.Laws.Small
import Derived.Lib.AppendStr
import Derived.Laws.IdiomStrings
import Derived.Laws.Strings2
import Derived.Laws.Cover1
import Derived.Test.YtpmlehplbobjmaaDoorCa4
namespace Go.Eng
/-- 2^64 -/
abbrev B64 : Int := 18446744073709551616
section
variable {P : Program} {t : TypeId} {x y : Operand} {p q : Int}
theorem ofInt_nat {a : Nat} (ha : a < 18446744073709551616) : (BitVec.ofInt 64 (a : Int)).toNat = a := by
  rw [BitVec.toNat_ofInt]
  omega
theorem wrap_nat {a : Nat} (ha : a < 18446744073709551616) : IntKind.u64.wrap (a : Int) = a := by rw [IntKind.wrap_u64]; omega
theorem run_andU {a b : Nat} (ha : a < 18446744073709551616) (hb : b < 18446744073709551616) : pureRun P (do eqGuard .and t x y (.int .u64 (a : Int)) (.int .u64 (b : Int)); binOp .and t (.int .u64 (a : Int)) (.int .u64 (b : Int))) = some (.int .u64 ((a &&& b : Nat) : Int)) := by
  have h : (BitVec.ofInt 64 (a : Int) &&& BitVec.ofInt 64 (b : Int)).toNat = a &&& b := by rw [BitVec.toNat_and, ofInt_nat ha, ofInt_nat hb]
  have hlt : a &&& b < 18446744073709551616 := Nat.lt_of_le_of_lt Nat.and_le_left ha
  rw [← wrap_nat hlt, ← h]
  rfl
theorem run_shrU {k : IntKind} {n : Nat} (hn : n ≤ 64) : pureRun P (do eqGuard .shr t x y (.int .u64 p) (.int k (n : Int)); binOp .shr t (.int .u64 p) (.int k (n : Int))) = some (.int .u64 (p / 2 ^ n)) := by
  have h1 : ¬ (n : Int) < 0 := by omega
  have h2 : min ((n : Int).toNat) IntKind.u64.bits = n := by rw [Int.toNat_natCast]; exact Nat.min_eq_left (by simp [IntKind.bits]; omega)
  have h3 : Op.shift .shr .u64 p k (n : Int) = pure (.int .u64 (p / 2 ^ n)) := by
    unfold Op.shift
    rw [if_neg h1, h2]
    simp only [Int.fdiv_eq_ediv_of_nonneg p (show (0 : Int) ≤ 2 ^ n from Int.pow_nonneg (by omega))]
  show pureRun P (Op.shift .shr .u64 p k (n : Int)) = _
  rw [h3]; rfl
theorem run_shrI {k : IntKind} {n : Nat} (hn : n ≤ 64) : pureRun P (do eqGuard .shr t x y (.int .i64 p) (.int k (n : Int)); binOp .shr t (.int .i64 p) (.int k (n : Int))) = some (.int .i64 (p / 2 ^ n)) := by
  have h1 : ¬ (n : Int) < 0 := by omega
  have h2 : min ((n : Int).toNat) IntKind.i64.bits = n := by rw [Int.toNat_natCast]; exact Nat.min_eq_left (by simp [IntKind.bits]; omega)
  have h3 : Op.shift .shr .i64 p k (n : Int) = pure (.int .i64 (p / 2 ^ n)) := by
    unfold Op.shift
    rw [if_neg h1, h2]
    simp only [Int.fdiv_eq_ediv_of_nonneg p (show (0 : Int) ≤ 2 ^ n from Int.pow_nonneg (by omega))]
  show pureRun P (Op.shift .shr .i64 p k (n : Int)) = _
  rw [h3]; rfl
end
/-! The highest bit -/
/-! A call that the model answers itself -/
section
variable {C : Cx} {e : Env} {I : PH} {R : List Res} {K : Act → World → Prop} {Q : Exit → Act → World → Prop}
variable {d : Nat} {ty : TypeId} {pos : String} {after : Array Edge} {g : Option (Nat × Bool)} {v : Value}
/-- Conversion of an integer to uint64. -/
theorem Nx.conv_u64 {t u : TypeId} {x : Operand} {k : IntKind} {p : Int} {s : TypeDesc} (hx : evo e x = some (.int k p)) (hs : C.P.underlying t = some s) (ht : C.P.underlying u = some (.int .u64)) (hlt : Nat.blt d C.n = true)
    (h : Nx C ((d, .int .u64 (p % B64)) :: e) I R K) : Nx C e I R (opK C.P ⟨some d, .convert t u x, ty, pos, after, g⟩ K Q) :=
  Nx.op_run rfl hlt (fun a w ha _ => by
    simp only [execOp, ha.eval hx]
    refine run_v ?_
    unfold convert
    rw [Sem.run_bind, run_underlying hs, Result.andThen_ok, Sem.run_bind, run_underlying ht, Result.andThen_ok]
    show Result.ok (Value.int .u64 (IntKind.u64.wrap p)) w = _
    rw [IntKind.wrap_u64]) h
end
end Go.Eng
/-
  The proof engine, part W: wide numbers: shifts, lengths, zeros; greatest common divisors.
-/
namespace Go.Eng
section
variable {P : Program} {t : TypeId} {x y : Operand} {p q : Int}
theorem run_shrN {k : IntKind} (n : Nat) (hq : q = (n : Int)) (hn : n ≤ 64) : pureRun P (do eqGuard .shr t x y (.int .u64 p) (.int k q); binOp .shr t (.int .u64 p) (.int k q)) = some (.int .u64 (p / 2 ^ n)) := by
  subst hq; exact run_shrU hn
end
section
variable {P : Program} {t : TypeId} {x y : Operand} {p q : Int}
theorem run_and1 (n : Nat) (hp : p = (n : Int)) (hn : n < 18446744073709551616) : pureRun P (do eqGuard .and t x y (.int .u64 p) (.int .u64 1); binOp .and t (.int .u64 p) (.int .u64 1)) = some (.int .u64 ((n % 2 : Nat) : Int)) := by
  subst hp
  have := run_andU (P := P) (t := t) (x := x) (y := y) (a := n) (b := 1) hn (by decide)
  rw [Nat.and_one_is_mod] at this
  exact this
end
/-! One bit -/
/-! Number of bits -/
/-! How often 2 divides -/
/-! The greatest common divisor by halving -/
end Go.Eng
/-
  The proof engine, part R: fractions as rational numbers.
-/
namespace Go.Eng
section
variable {P : Program} {t : TypeId} {x y : Operand} {p q : Int}
theorem run_remT (hq : q ≠ 0) : pureRun P (do eqGuard .rem t x y (.int .i64 p) (.int .i64 q); binOp .rem t (.int .i64 p) (.int .i64 q)) = some (.int .i64 (p.tmod q)) := by
  rw [eqGuard_rem, binOp_rem]
  unfold pureRun
  simp [Op.intDiv, hq]; rfl
end
/-- A fraction's two numbers, not too large. -/
def RB (q : Rat) : Prop := q.num.natAbs ≤ 1152921504606846976 ∧ q.den ≤ 1152921504606846976
instance (q : Rat) : Decidable (RB q) := by unfold RB; infer_instance
def FOk (n d : Int) : Prop := 1 ≤ d ∧ d ≤ 1152921504606846976 ∧ -1152921504606846976 ≤ n ∧ n ≤ 1152921504606846976 ∧ Nat.gcd n.natAbs d.natAbs = 1
instance (n d : Int) : Decidable (FOk n d) := by unfold FOk; infer_instance
end Go.Eng
/-
  The proof engine, part T: a library function that makes new memory and draws; strings.
-/
namespace Go.Eng
open Go.Sort (grow)
theorem St.grown {W w : World} {I : PH} {R : List Res} (h : St W I R w) (k : Nat) (os : Array Obj) : St W I R (grow (w.drewN k) os) := by
  obtain ⟨⟨m, hm, hs⟩, hst⟩ := h
  have hold : ∀ (i : Nat) (o : Obj), w.heap[i]? = some o → (grow (w.drewN k) os).heap[i]? = some o := fun i o hi => by
    have hlt := (Array.getElem?_eq_some_iff.1 hi).1
    show (w.heap ++ os)[i]? = some o
    rw [Array.getElem?_append_left hlt]
    exact hi
  refine ⟨⟨m, hm, ⟨fun i o hi => hold i o (hs.imm i o hi), fun i o hi => hold i o (hs.own i o hi), hs.dis⟩⟩, ⟨hst.os, hst.tape, hst.output, Nat.le_trans hst.size (Lib.size_grow w k os), Nat.le_trans hst.drawn (Nat.le_add_right _ _)⟩⟩
/-- A text, by its bytes. -/
def strV (l : List UInt8) : Value := .string ⟨l.toArray⟩
section
variable {P : Program} {t : TypeId} {x y : Operand} {a b : List UInt8}
end
end Go.Eng
/-
  The proof engine, part X: strings: their bytes, their parts, their order; bytes made into strings and back; a string appended to bytes.
-/
namespace Go.Eng
open Go.Lib (strCells)
open Go.Instr
variable {C : Cx} {e e' : Env} {I : PH} {R R' : List Res} {K K' : Act → World → Prop} {Q : Exit → Act → World → Prop}
variable {d : Nat} {ty t u el : TypeId} {pos : String} {after : Array Edge} {g : Option (Nat × Bool)} {x y z : Operand} {v vx vy vz : Value} {A : Option Addr} {n c : Nat}
/-- A byte's value. -/
def byteV (b : UInt8) : Value := .int .u8 b.toNat
theorem strCells_mk (l : List UInt8) : strCells ⟨l.toArray⟩ = l.map byteV := by simp [strCells, byteV]
theorem append_str_run {P : Program} {w : World} {xs : List Value} {s : ByteArray} {i : TypeInfo} (ht : P.underlying t = some (.slice el)) (hu : P.underlying u = some .string) (hi : P.info? el = some i) (hz : i.zero = some (.int .u8 0))
    (hsize : i.size = 1) (hby : i.bytes = 1) (hown : w.ownsRow 0 el 1 (.slice A n c) n xs) (h63 : n + s.size ≤ maxLen) (hbytes : n + s.size ≤ 140737488355328) :
    ∃ v' w', (Builtin.append_ #[t, u] ty #[.slice A n c, .string s]).run P w = .ok v' w' ∧ w'.ownsRow 0 el 1 v' (n + s.size) (xs ++ strCells s) ∧ w.grownBy w' (Value.slice A n c).ownBlock ∧
      (v'.ownBlock = (Value.slice A n c).ownBlock ∨ v'.ownBlock = some w.heap.size) := by
  have hsmall : n + s.size ≤ 9223372036854775807 := by simp only [maxLen] at h63; omega
  have hxl : xs.length = n := by simpa using hown.1
  have hlen : (xs ++ strCells s).length = (n + s.size) * 1 := by rw [List.length_append, hxl, Lib.strCells_length, Nat.mul_one]
  have grown : ∀ (old : Nat), old < n + s.size → ∀ (row : Option Nat),
      (w.drew.alloc (.cells (xs.toArray ++ (strCells s).toArray ++ Builtin.zeroCells (Value.int .u8 0).cells (grownCap w (n + s.size) old el - (n + s.size))) el)).ownsRow 0 el 1
        (.slice (some ⟨w.heap.size, 0, none⟩) (n + s.size) (grownCap w (n + s.size) old el)) (n + s.size) (xs ++ strCells s) ∧
      w.grownBy (w.drew.alloc (.cells (xs.toArray ++ (strCells s).toArray ++ Builtin.zeroCells (Value.int .u8 0).cells (grownCap w (n + s.size) old el - (n + s.size))) el)) row := by
    intro old ho row
    have hge := grownCap_ge w (n + s.size) old el
    have hcm : grownCap w (n + s.size) old el ≤ maxLen := grownCap_le_maxLen w (n + s.size) old el h63
    refine ⟨⟨hlen, .inr ⟨w.heap.size, _, _, rfl, Nat.zero_le _, heap_alloc_new w.drew _, hge, hcm, ?_, ?_⟩⟩, ⟨rfl, rfl, rfl, by simp, fun k hk _ => by first | exact heap_alloc_old w.drew _ k hk | exact heap_alloc_old w.drew _ hk⟩⟩
    · have hz1 : (Value.int IntKind.u8 0).cells.size = 1 := rfl
      simp only [Array.size_append, List.size_toArray, size_zeroCells, hz1, hxl, Lib.strCells_length]
      omega
    · simp only [Array.toList_append, List.append_assoc]
      rw [← List.append_assoc, ← hlen]
      exact List.take_left
  rcases hown.2 with ⟨hv, rfl⟩ | ⟨g, cap, cur, hv, hbg, hg, hnc, hcm, hcs, htake⟩
  · have hx : xs = [] := List.eq_nil_of_length_eq_zero hxl
    subst hx
    cases hv
    by_cases hm : s.size = 0
    · have hn : strCells s = [] := List.eq_nil_of_length_eq_zero (by rw [Lib.strCells_length]; exact hm)
      refine ⟨.slice none 0 0, w, ?_, by rw [hm, hn]; exact World.ownsRow_nil w 0 el 1, ⟨rfl, rfl, rfl, Nat.le_refl _, fun _ _ _ => rfl⟩, .inl rfl⟩
      have hf := Lib.run_firstCells_string (P := P) w 1 s
      rw [hm] at hf
      simp [Builtin.append_, run_underlying ht, run_underlying hu, sizeOf, typeInfo, hi, hsize, Builtin.lenOf, hm, hf]
    · have hr := run_append_nil_string (P := P) w t u ty el i (.int .u8 0) ht hu hi hz s (by omega) (by omega) (by rw [hby]; omega)
      have hgr := grown 0 (by omega) (Value.ownBlock (.slice none 0 0))
      simp only [Nat.zero_add, List.nil_append, Array.empty_append] at hgr ⊢
      have e1 : (s.data.map fun b => Value.int .u8 b.toNat) = (strCells s).toArray := by
        apply Array.ext'
        simp [strCells]
      rw [e1] at hr
      exact ⟨_, _, hr, hgr.1, hgr.2, .inr rfl⟩
  · cases hv
    by_cases hroom : n + s.size ≤ c
    · have hcs' : cur.size = c := by simpa using hcs
      have hr := Lib.run_append_room_string (P := P) w t u ty el i ht hu hi hsize g n c cur hg s hroom (by omega)
      refine ⟨_, _, hr, ⟨hlen, .inr ⟨g, c, _, rfl, hbg, setRow_heap w g cur _ el _ hg, hroom, hcm, ?_, ?_⟩⟩, ⟨rfl, rfl, rfl, by simp, fun k _ hk => setRow_other w g k _ (fun e => hk (by simp [Value.ownBlock, e]))⟩, .inl rfl⟩
      · simp only [List.size_toArray, List.length_append, List.length_take, List.length_drop, Array.length_toList, Lib.strCells_length]
        omega
      · have ht' : cur.toList.take n = xs := by simpa using htake
        rw [ht', ← hlen]
        exact List.take_left
    · have holds : ∀ j u, xs[j]? = some u → w.cell? ((⟨g, 0, none⟩ : Addr).add j) = some u := hown.cells (g := g) rfl
      have hr := Lib.run_append_grow_string (P := P) w t u ty el i (.int .u8 0) ht hu hi hz ⟨g, 0, none⟩ n c xs (by rw [hsize]; simpa using hxl) holds s (by omega) (by omega) (by rw [hby]; exact growslice_fits (by omega) (by omega))
      have hgr := grown c (by omega) (Value.ownBlock (.slice (some ⟨g, 0, none⟩) n c))
      exact ⟨_, _, hr, hgr.1, hgr.2, .inr rfl⟩
def byteTy (P : Program) (el : TypeId) : Bool := match P.info? el with
  | some i => (match i.zero with | some (.int .u8 z) => decide (z = 0) | _ => false) && Nat.beq i.size 1 && Nat.beq i.bytes 1
  | none => false
theorem byteTy_ok {P : Program} (h : byteTy P el = true) : ∃ i, P.info? el = some i ∧ i.zero = some (.int .u8 0) ∧ i.size = 1 ∧ i.bytes = 1 := by
  unfold byteTy at h
  split at h
  · rename_i i hi
    simp only [Bool.and_eq_true] at h
    obtain ⟨⟨h1, h2⟩, h3⟩ := h
    refine ⟨i, hi, ?_, Nat.eq_of_beq_eq_true h2, Nat.eq_of_beq_eq_true h3⟩
    split at h1
    · rename_i z hz
      rw [hz, of_decide_eq_true h1]
    · cases h1
  · cases h
/-- append(b, s...), b owned (the first resource). -/
theorem Nx.append_str {tys : Array TypeId} {l : List UInt8} {xs : List Value} (hx : evo e x = some (.slice A n c)) (hy : evo e y = some (strV l)) (hty : tys = #[t, u]) (ht : C.P.underlying t = some (.slice el)) (hu : C.P.underlying u = some .string) (hel : byteTy C.P el = true)
    (hlt : Nat.blt d C.n = true) (h63 : n + l.length ≤ 34359738368)
    (h : ∀ A' c', Nx C ((d, .slice A' (n + l.length) c') :: e) I (Vec el 1 A' (n + l.length) c' (xs ++ l.map byteV) :: R) K) : Nx C e I (Vec el 1 A n c xs :: R) (opK C.P ⟨some d, .call { callee := .builtin .append, args := #[x, y], argTypes := tys }, ty, pos, after, g⟩ K Q) := by
  subst hty
  intro a w ha hw
  obtain ⟨⟨m, ⟨m1, m2, hd, rfl, hv, h2⟩, hs⟩, hst⟩ := id hw
  obtain ⟨i, hi, hz, hsize, hby⟩ := byteTy_ok hel
  have hsz : (ByteArray.mk l.toArray).size = l.length := by simp [ByteArray.size]
  have h63m : n + l.length ≤ maxLen := by unfold maxLen; omega
  obtain ⟨v', w', hr, hown', hg, hat⟩ := append_str_run (ty := ty) (s := ⟨l.toArray⟩) ht hu hi hz hsize hby (hv.owns hs.own) (by rw [hsz]; exact h63m) (by rw [hsz]; omega)
  rw [hsz, strCells_mk] at hown'
  obtain ⟨A', c', rfl, hst'⟩ := St.append hw hown' hg hat (run_drawn _ _ hr)
  unfold opK Oper.wp
  have hrun : (execOp a.eval ⟨some d, .call { callee := .builtin .append, args := #[x, y], argTypes := #[t, u] }, ty, pos, after, g⟩).run C.P w = .ok (.value (.slice A' (n + l.length) c')) w' := by
    obtain ⟨cs, hcs⟩ := run_builtin (P := C.P) (w := w) (ρ := a.eval) (b := .append) (args := #[x, y]) (dst := some d) (ty := ty) (pos := pos) (after := after) (g := g) (tys := #[t, u]) (show [x, y].map a.eval = [Value.slice A n c, strV l] from by simp only [List.map_cons, List.map_nil, ha.eval hx, ha.eval hy])
    rw [hcs]
    exact run_v hr
  rw [hrun]
  exact h A' c' _ w' (ha.put hlt _) hst'
/-- The same, resource number k, bytes told as bytes. -/
theorem Nx.append_strB (k : Nat) {tys : Array TypeId} {l l2 : List UInt8} (hx : evo e x = some (.slice A l.length c)) (hy : evo e y = some (strV l2)) (hty : tys = #[t, u]) (ht : C.P.underlying t = some (.slice el)) (hu : C.P.underlying u = some .string) (hel : byteTy C.P el = true)
    (hlt : Nat.blt d C.n = true) (hk : nthL R k = some (Vec el 1 A l.length c (l.map byteV))) (h63 : l.length + l2.length ≤ 34359738368)
    (h : ∀ A' c', Nx C ((d, .slice A' (l ++ l2).length c') :: e) I (Vec el 1 A' (l ++ l2).length c' ((l ++ l2).map byteV) :: R.eraseIdx k) K) : Nx C e I R (opK C.P ⟨some d, .call { callee := .builtin .append, args := #[x, y], argTypes := tys }, ty, pos, after, g⟩ K Q) := by
  refine Nx.pull k (nthL_eq.symm.trans hk) (Nx.append_str hx hy hty ht hu hel hlt h63 fun A' c' => ?_)
  have := h A' c'
  rw [List.length_append, List.map_append] at this
  exact this
/-- append(b, lit...): a literal of bytes that has just been laid. -/
theorem Nx.append_bytes (k : Nat) {tys : Array TypeId} {l l2 : List UInt8} {m c2 b : Nat} {cs : List Value} (hx : evo e x = some (.slice A l.length c)) (hy : evo e y = some (.slice (some ⟨b, 0, none⟩) m c2)) (hty : tys = #[t, t]) (ht : C.P.underlying t = some (.slice el)) (hel : elemIs C.P el 1 = true)
    (hlt : Nat.blt d C.n = true) (hk : nthL R k = some (Vec el 1 A l.length c (l.map byteV))) (hcs : cs = l2.map byteV) (hl : Nat.beq cs.length (m * 1) = true) (h1 : cs.all Value.oneCell' = true) (h63 : l.length + m ≤ 34359738368)
    (h : ∀ A' c', Nx C ((d, .slice A' (l ++ l2).length c') :: e) I (Vec el 1 A' (l ++ l2).length c' ((l ++ l2).map byteV) :: R.eraseIdx k) K) : Nx C e I (Blk b el cs :: R) (opK C.P ⟨some d, .call { callee := .builtin .append, args := #[x, y], argTypes := tys }, ty, pos, after, g⟩ K Q) := by
  have hm : m = l2.length := by
    have := Nat.eq_of_beq_eq_true hl
    rw [hcs, List.length_map] at this; omega
  subst hm
  refine Nx.append_lit k hx hy hty ht hel hlt hk hl h1 h63 fun A' c' => ?_
  have := h A' c'
  rw [List.length_append, List.map_append, ← hcs] at this
  exact this
/-- s[lo:hi] of a string. -/
theorem Nx.slice_str {k k' : IntKind} {l : List UInt8} {i j : Nat} (hx : evo e x = some (strV l)) (hy : evo e y = some (.int k (i : Int))) (hz : evo e z = some (.int k' (j : Int))) (ht : C.P.underlying t = some .string)
    (hlt : Nat.blt d C.n = true) (h1 : i ≤ j) (h2 : j ≤ l.length) (hk : Nx C ((d, strV ((l.drop i).take (j - i))) :: e) I R K) : Nx C e I R (opK C.P ⟨some d, .slice t x (some y) (some z) none, ty, pos, after, g⟩ K Q) :=
  Nx.op_run rfl hlt (fun a w ha _ => by
    simp only [execOp, ha.eval hx, ha.eval hy, ha.eval hz, Option.map_some, Option.map_none]
    refine run_v ?_
    have h3 := run_slice_string (P := C.P) w t ⟨l.toArray⟩ k k' (i : Int) (j : Int) ht (by omega) (by omega) (by simp [ByteArray.size]; omega)
    rw [Int.toNat_natCast, Int.toNat_natCast, ByteArray.extract_mk] at h3
    rw [run_sliceAt_string w t (strV l) _ _ _ ht]
    exact h3) hk
/-- string(b). -/
theorem run_bytes_str {P : Program} {W w : World} {I : PH} {R : List Res} {l : List UInt8} (hs : P.underlying t = some (.slice el)) (he : P.underlying el = some (.int .u8)) (hd : P.underlying u = some .string) (hst : St W I R w)
    (hA : l ≠ [] → A.isSome = true) (hr : ∀ j v, (l.map byteV)[j]? = some v → Rd W I R ((ad A).add j) v) : (convert t u (.slice A l.length c)).run P w = .ok (strV l) w := by
  by_cases hl : l = []
  · subst hl
    cases A with
    | none =>
      have h0 := run_convert_bytes_string (P := P) w t u el none 0 c hs he hd
      rw [show ([] : List UInt8).length = 0 from rfl, h0]
      simp [Conv.bytesToString]; rfl
    | some a => exact run_convert_bytes_back w t u el a c [] hs he hd (fun j hj => absurd hj (Nat.not_lt_zero _))
  · cases A with
    | none => exact absurd (hA hl) (by simp)
    | some a => exact run_convert_bytes_back w t u el a c l hs he hd (fun j hj => hr j _ (by simp [List.getElem?_eq_getElem hj]; rfl) w hst)
theorem Nx.bytes_str {l : List UInt8} (hx : evo e x = some (.slice A l.length c)) (hs : C.P.underlying t = some (.slice el)) (he : C.P.underlying el = some (.int .u8)) (hd : C.P.underlying u = some .string) (hlt : Nat.blt d C.n = true)
    (hA : l ≠ [] → A.isSome = true) (hr : ∀ j v, (l.map byteV)[j]? = some v → Rd C.W I R ((ad A).add j) v) (hk : Nx C ((d, strV l) :: e) I R K) : Nx C e I R (opK C.P ⟨some d, .convert t u x, ty, pos, after, g⟩ K Q) :=
  Nx.op_run rfl hlt (fun a w ha hw => by
    simp only [execOp, ha.eval hx]
    exact run_v (run_bytes_str hs he hd hw hA hr)) hk
/-- string(b), b owned: resource number k. -/
theorem Nx.vec_str (k : Nat) {l : List UInt8} (hx : evo e x = some (.slice A n c)) (hn : n = l.length) (hs : C.P.underlying t = some (.slice el)) (he : C.P.underlying el = some (.int .u8)) (hd : C.P.underlying u = some .string) (hlt : Nat.blt d C.n = true)
    (hk : nthL R k = some (Vec el 1 A n c (l.map byteV))) (h : Nx C ((d, strV l) :: e) I R K) : Nx C e I R (opK C.P ⟨some d, .convert t u x, ty, pos, after, g⟩ K Q) := by
  intro a w ha hw
  have hA : l ≠ [] → A.isSome = true := fun hl => by
    obtain ⟨⟨m, hm, hs⟩, hst⟩ := id hw
    obtain ⟨m', hle, hv⟩ := Stars.get k hm hk
    rcases hv.2 with ⟨_, h0, _⟩ | ⟨b, cur, rfl, _⟩
    · exact absurd (List.eq_nil_of_length_eq_zero (hn.symm.trans h0)) hl
    · rfl
  subst hn
  exact Nx.bytes_str hx hs he hd hlt hA (fun j v hj => Rd.ent (Ent.pull k R _ (nthL_eq.symm.trans hk)) (Rd.vec hj)) h a w ha hw
theorem Sat.drew {w : World} {I m : PH} (h : Sat w I m) : Sat w.drew I m := ⟨h.imm, h.own, h.dis⟩
/-- A row that bears the run-time's mark: it is only read. -/
def BlkZ (b : Nat) (t : TypeId) (cs : List Value) : Res := fun m => ∃ fz rest, m b = some (.cells (cs ++ rest).toArray t fz)
theorem BlkZ.sliceOf {α : Type} {f : α → Value} {b : Nat} {m I' : PH} {l : List α} {cap : Nat} (hm : PH.le m I') (h : BlkZ b t (l.map f) m) (hc : l.length ≤ cap) (hl : cap ≤ maxLen) : SliceOf f I' (some ⟨b, 0, none⟩) cap l := by
  obtain ⟨fz, rest, hb⟩ := h
  refine ⟨fun j u hj => ⟨rfl, ?_⟩, hc, hl⟩
  have hlt := (List.getElem?_eq_some_iff.1 hj).1
  rw [ad_some, Addr.add_lit, Nat.zero_add]
  simp only [cellH, hm _ _ hb, Option.isSome_none, Bool.false_eq_true, if_false]
  rw [List.getElem?_toArray, List.getElem?_append_left hlt]
  exact hj
/-! ### Tests whose outcome is known -/
section
variable {cd : Code}
end
/-! ### Strings as keys -/
theorem strV_eq {a b : List UInt8} : (ByteArray.mk a.toArray == ByteArray.mk b.toArray) = decide (a = b) := by
  rw [Bool.eq_iff_iff, MapKept.bytes_beq, decide_eq_true_eq]
  exact ⟨fun he => by have := congrArg (fun x : ByteArray => x.data.toList) he; simpa using this, fun h => by rw [h]⟩
theorem KeyEnc.str {P : Program} {kt : TypeId} (h : P.underlying kt = some .string) : KeyEnc P kt strV := by
  refine ⟨⟨_, h, fun a b => ?_⟩, fun em a w => ?_, fun a => by show (ByteArray.mk a.toArray == ByteArray.mk a.toArray) = true; rw [strV_eq]; simp⟩
  · show some (ByteArray.mk a.toArray == ByteArray.mk b.toArray) = _
    rw [strV_eq]
  · unfold Instr.checkKey
    rw [Sem.run_bind, run_underlying h, Result.andThen_ok]
    rfl
/-! ### The order of strings -/
section
variable {P : Program} {a b : List UInt8}
end
end Go.Eng
/- Contracts of functions of the given program, and lemmas about plain lists and numbers: what the laws of this seat lean on. -/
namespace Go.Proofs.YtpmlehplbobjmaaDoor
open Go.Eng
attribute [local irreducible] opK wpList Code.wp Exit.then Exit.inBlock fnPost bodyPost Nx Calls Oper.wp Rd Rds Wr Ent Stars Blk Again Vec FnSpec wpMix QRun Stop Upto wpAt
/-! Texts of views -/
/-- A small number as a text. -/
def numT (z : Int) : List UInt8 := if z < 0 then [45, UInt8.ofNat (48 + (-z).toNat)] else [UInt8.ofNat (48 + z.toNat)]
abbrev bytesR (A : Option Addr) (c : Nat) (l : List UInt8) : Res := Vec 5 1 A l.length c (l.map byteV)
set_option maxHeartbeats 2000000 in
set_option maxRecDepth 10000 in
theorem small_spec (z : Nat) (hz : z ≤ 9) (I : PH) : FnSpec Tryd.prog 57 [.int .i64 z] I [] (fun v R' => v = strV [UInt8.ofNat (48 + z)] ∧ R' = []) := by
  refine FnSpec.enterP Tryd.func57 rfl Tryd.ntmps57 rfl fun w F => ?_
  repeat' first
    | ((with_reducible refine Nx.is_wp ?_); first | refine Nx.wo ?_ | refine Nx.zp (fun hc => ?_) (fun hc => ?_))
    | (refine Nx.zo ?_; first | refine Nx.opr rfl rfl ?_ | refine Nx.slice_str (l := [48, 49, 50, 51, 52, 53, 54, 55, 56, 57, 97, 98, 99, 100, 101, 102, 103, 104, 105, 106, 107, 108, 109, 110, 111, 112, 113, 114, 115, 116, 117, 118, 119, 120, 121, 122]) (i := z) (j := z + 1) rfl rfl rfl rfl rfl (by omega) (by simp; omega) ?_ | refine Nx.so ?_ | refine Nx.sb (fun bx => ?_) | refine Nx.sa (fun A2 c2 => ?_))
    | refine Nx.za ?_ | refine Nx.zr (fun hc => ?_) (fun hc => ?_)
    | refine Nx.zq ?_ | refine Nx.zu (fun hc => ?_) (fun hc => ?_)
    | refine Nx.zx ?_ | fail
  refine Nx.ret_fn rfl [] ⟨?_, rfl⟩ (by (exact Ent.auto))
  have : z = 0 ∨ z = 1 ∨ z = 2 ∨ z = 3 ∨ z = 4 ∨ z = 5 ∨ z = 6 ∨ z = 7 ∨ z = 8 ∨ z = 9 := by omega
  rcases this with rfl | rfl | rfl | rfl | rfl | rfl | rfl | rfl | rfl | rfl <;> rfl
set_option maxHeartbeats 2000000 in
set_option maxRecDepth 10000 in
theorem AppendUint_spec (A : Option Addr) (c : Nat) (l : List UInt8) (z : Nat) (hz : z ≤ 9) (hl : l.length ≤ 100000) (I : PH) : FnSpec Tryd.prog 56 [.slice A l.length c, .int .u64 z, .int .i64 10] I [bytesR A c l]
    (fun v R' => ∃ A' c', v = .slice A' (l ++ [UInt8.ofNat (48 + z)]).length c' ∧ R' = [bytesR A' c' (l ++ [UInt8.ofNat (48 + z)])]) := by
  refine FnSpec.enterP Tryd.func56 rfl Tryd.ntmps56 rfl fun w F => ?_
  repeat' first
    | ((with_reducible refine Nx.is_wp ?_); first | refine Nx.wo ?_ | refine Nx.zp (fun hc => ?_) (fun hc => ?_))
    | (refine Nx.zo ?_; first | refine Nx.opr rfl rfl ?_ | refine Nx.callv rfl rfl rfl (by kernel_rfl) rfl (small_spec z hz I) ?_ | refine Nx.append_strB 0 rfl rfl rfl rfl rfl (by kernel_rfl) rfl rfl (by simp; omega) (fun A2 c2 => ?_) | refine Nx.so ?_ | refine Nx.sb (fun bx => ?_) | refine Nx.sa (fun A2 c2 => ?_))
    | refine Nx.za ?_ | refine Nx.zr (fun hc => ?_) (fun hc => ?_)
    | refine Nx.zq ?_ | refine Nx.zu (fun hc => ?_) (fun hc => ?_)
    | refine Nx.zx ?_ | fail
  exact Nx.ret_fn rfl [_] ⟨_, _, rfl, rfl⟩ (by (exact Ent.auto))
theorem negU {m : Nat} (hm : m ≤ 9) : IntKind.u64.wrap (0 - -(m : Int) % B64) = m := by
  rw [IntKind.wrap_u64]; unfold B64; omega
theorem run_negU {P : Program} {m : Nat} (hm : m ≤ 9) : pureRun P (Op.unary .neg (.int .u64 (-(m : Int) % B64))) = some (.int .u64 (m : Int)) := by
  show some (Value.int .u64 (IntKind.u64.wrap (0 - -(m : Int) % B64))) = _
  rw [negU hm]
set_option maxHeartbeats 2000000 in
set_option maxRecDepth 10000 in
theorem AppendInt0_spec (A : Option Addr) (c : Nat) (l : List UInt8) (z : Int) (hz : -9 ≤ z ∧ z ≤ 9) (hl : l.length ≤ 90000) (I : PH) : FnSpec Tryd.prog 55 [.slice A l.length c, .int .i64 z, .int .i64 10] I [bytesR A c l]
    (fun v R' => ∃ A' c', v = .slice A' (l ++ numT z).length c' ∧ R' = [bytesR A' c' (l ++ numT z)]) := by
  by_cases h0 : z < 0
  · unfold numT
    rw [if_pos h0]
    obtain ⟨m, hm⟩ : ∃ m : Nat, (-z).toNat = m ∧ m ≤ 9 ∧ z = -(m : Int) := ⟨(-z).toNat, rfl, by omega, by omega⟩
    obtain ⟨hm1, hm2, rfl⟩ := hm
    rw [hm1]
    refine FnSpec.enterP Tryd.func55 rfl Tryd.ntmps55 rfl fun w F => ?_
    repeat' first
      | ((with_reducible refine Nx.is_wp ?_); first | refine Nx.wo ?_ | refine Nx.zp (fun hc => ?_) (fun hc => ?_))
      | (refine Nx.zo ?_; first | refine Nx.opr rfl rfl ?_ | refine Nx.conv_u64 rfl rfl rfl rfl ?_ | refine Nx.un rfl (v := .int .u64 (m : Int)) (run_negU hm2) rfl ?_ | refine Nx.append_bytes 0 (l := l) (l2 := [45]) rfl rfl rfl rfl (by kernel_rfl) rfl rfl rfl rfl rfl (by omega) (fun A2 c2 => ?_) | refine Nx.so ?_ | refine Nx.sb (fun bx => ?_) | refine Nx.sa (fun A2 c2 => ?_))
      | refine Nx.za ?_ | refine Nx.zr (fun hc => ?_) (fun hc => ?_)
      | refine Nx.zq ?_ | refine Nx.zu (fun hc => ?_) (fun hc => ?_)
      | refine Nx.zx ?_ | fail
    refine Nx.at_op rfl rfl ?_
    refine Nx.call rfl rfl rfl (by kernel_rfl) rfl (AppendUint_spec A2 c2 (l ++ [45]) m hm2 (by simp; omega) I) (by (exact Ent.auto)) ?_
    rintro u R' ⟨A3, c3, rfl, rfl⟩
    repeat' first
      | ((with_reducible refine Nx.is_wp ?_); first | refine Nx.wo ?_ | refine Nx.zp (fun hc => ?_) (fun hc => ?_))
      | (refine Nx.zo ?_; first | refine Nx.opr rfl rfl ?_ | refine Nx.so ?_ | refine Nx.sb (fun bx => ?_) | refine Nx.sa (fun A2 c2 => ?_))
      | refine Nx.za ?_ | refine Nx.zr (fun hc => ?_) (fun hc => ?_)
      | refine Nx.zq ?_ | refine Nx.zu (fun hc => ?_) (fun hc => ?_)
      | refine Nx.zx ?_ | fail
    refine Nx.ret_fn rfl [_] ⟨A3, c3, ?_, ?_⟩ (by (exact Ent.auto))
    · rw [List.append_assoc]; rfl
    · rw [List.append_assoc]; rfl
  · unfold numT
    rw [if_neg h0]
    obtain ⟨m, rfl⟩ : ∃ m : Nat, z = m := ⟨z.toNat, by omega⟩
    rw [Int.toNat_natCast]
    have hm64 : (m : Int) % B64 = m := by unfold B64; omega
    refine FnSpec.enterP Tryd.func55 rfl Tryd.ntmps55 rfl fun w F => ?_
    repeat' first
      | ((with_reducible refine Nx.is_wp ?_); first | refine Nx.wo ?_ | refine Nx.zp (fun hc => ?_) (fun hc => ?_))
      | (refine Nx.zo ?_; first | refine Nx.opr rfl rfl ?_ | refine Nx.conv_u64 rfl rfl rfl rfl ?_ | refine Nx.so ?_ | refine Nx.sb (fun bx => ?_) | refine Nx.sa (fun A2 c2 => ?_))
      | refine Nx.za ?_ | refine Nx.zr (fun hc => ?_) (fun hc => ?_)
      | refine Nx.zq ?_ | refine Nx.zu (fun hc => ?_) (fun hc => ?_)
      | refine Nx.zx ?_ | fail
    rw [hm64]
    refine Nx.at_op rfl rfl ?_
    refine Nx.call rfl rfl rfl (by kernel_rfl) rfl (AppendUint_spec A c l m (by omega) (by omega) I) (by (exact Ent.auto)) ?_
    rintro u R' ⟨A3, c3, rfl, rfl⟩
    repeat' first
      | ((with_reducible refine Nx.is_wp ?_); first | refine Nx.wo ?_ | refine Nx.zp (fun hc => ?_) (fun hc => ?_))
      | (refine Nx.zo ?_; first | refine Nx.opr rfl rfl ?_ | refine Nx.so ?_ | refine Nx.sb (fun bx => ?_) | refine Nx.sa (fun A2 c2 => ?_))
      | refine Nx.za ?_ | refine Nx.zr (fun hc => ?_) (fun hc => ?_)
      | refine Nx.zq ?_ | refine Nx.zu (fun hc => ?_) (fun hc => ?_)
      | refine Nx.zx ?_ | fail
    exact Nx.ret_fn rfl [_] ⟨A3, c3, rfl, rfl⟩ (by (exact Ent.auto))
set_option maxHeartbeats 2000000 in
set_option maxRecDepth 10000 in
theorem AppendInt_spec (A : Option Addr) (c : Nat) (l : List UInt8) (z : Int) (hz : -9 ≤ z ∧ z ≤ 9) (hl : l.length ≤ 90000) (I : PH) : FnSpec Tryd.prog 51 [.slice A l.length c, .int .i64 z, .int .i64 10] I [bytesR A c l]
    (fun v R' => ∃ A' c', v = .slice A' (l ++ numT z).length c' ∧ R' = [bytesR A' c' (l ++ numT z)]) := by
  refine FnSpec.enterP Tryd.func51 rfl Tryd.ntmps51 rfl fun w F => ?_
  repeat' first
    | ((with_reducible refine Nx.is_wp ?_); first | refine Nx.wo ?_ | refine Nx.zp (fun hc => ?_) (fun hc => ?_))
    | (refine Nx.zo ?_; first | refine Nx.opr rfl rfl ?_ | refine Nx.so ?_ | refine Nx.sb (fun bx => ?_) | refine Nx.sa (fun A2 c2 => ?_))
    | refine Nx.za ?_ | refine Nx.zr (fun hc => ?_) (fun hc => ?_)
    | refine Nx.zq ?_ | refine Nx.zu (fun hc => ?_) (fun hc => ?_)
    | refine Nx.zx ?_ | fail
  refine Nx.at_op rfl rfl ?_
  refine Nx.call rfl rfl rfl (by kernel_rfl) rfl (AppendInt0_spec A c l z hz hl I) (by (exact Ent.auto)) ?_
  rintro u R' ⟨A3, c3, rfl, rfl⟩
  repeat' first
    | ((with_reducible refine Nx.is_wp ?_); first | refine Nx.wo ?_ | refine Nx.zp (fun hc => ?_) (fun hc => ?_))
    | (refine Nx.zo ?_; first | refine Nx.opr rfl rfl ?_ | refine Nx.so ?_ | refine Nx.sb (fun bx => ?_) | refine Nx.sa (fun A2 c2 => ?_))
    | refine Nx.za ?_ | refine Nx.zr (fun hc => ?_) (fun hc => ?_)
    | refine Nx.zq ?_ | refine Nx.zu (fun hc => ?_) (fun hc => ?_)
    | refine Nx.zx ?_ | fail
  exact Nx.ret_fn rfl [_] ⟨A3, c3, rfl, rfl⟩ (by (exact Ent.auto))
/-- The text of one dimension, and of a view. -/
def rowT (l : List Int) : List UInt8 := l.flatMap fun z => numT z ++ [32]
def viewT (v : List Row) : List UInt8 := v.flatMap fun r => rowT r.2.2 ++ [59]
theorem numT_len (z : Int) : 1 ≤ (numT z).length ∧ (numT z).length ≤ 2 := by unfold numT; split <;> simp
theorem rowT_succ {l : List Int} {k : Nat} (hk : k < l.length) : rowT (l.take (k + 1)) = rowT (l.take k) ++ numT (l.getD k default) ++ [32] := by
  unfold rowT
  rw [List.take_succ_eq_append_getElem hk, List.flatMap_append, List.getD_eq_getElem?_getD, List.getElem?_eq_getElem hk]
  simp
theorem rowT_len (l : List Int) : (rowT l).length ≤ 3 * l.length := by
  induction l with
  | nil => simp [rowT]
  | cons z r ih =>
    have := numT_len z
    unfold rowT at ih ⊢
    simp only [List.flatMap_cons, List.length_append, List.length_cons, List.length_nil]
    omega
theorem viewT_succ {v : List Row} {k : Nat} (hk : k < v.length) : viewT (v.take (k + 1)) = viewT (v.take k) ++ (rowT (v.getD k default).2.2 ++ [59]) := by
  unfold viewT
  rw [List.take_succ_eq_append_getElem hk, List.flatMap_append, List.getD_eq_getElem?_getD, List.getElem?_eq_getElem hk]
  simp
theorem viewT_len {v : List Row} (h : ∀ r ∈ v, r.2.2.length ≤ 1000) : (viewT v).length ≤ 3001 * v.length := by
  induction v with
  | nil => simp [viewT]
  | cons r v ih =>
    have h1 := rowT_len r.2.2
    have h2 := h r List.mem_cons_self
    have h3 := ih (fun x hx => h x (List.mem_cons_of_mem _ hx))
    unfold viewT at h3 ⊢
    simp only [List.flatMap_cons, List.length_append, List.length_cons, List.length_nil]
    omega
theorem row_mem {v : List Row} {k : Nat} (h : k < v.length) : v.getD k default ∈ v := by
  rw [List.getD_eq_getElem?_getD, List.getElem?_eq_getElem h]; exact List.getElem_mem _
set_option maxHeartbeats 2000000 in
set_option maxRecDepth 10000 in
theorem text_spec (B : Option Addr) (cv : Nat) (v : List Row) (I : PH) (hv : RowsOf I B cv v) (hl : v.length ≤ 20) (h1 : ∀ r ∈ v, r.2.2.length ≤ 1000 ∧ ∀ z ∈ r.2.2, -9 ≤ z ∧ z ≤ 9) :
    FnSpec Tryd.prog 34 [.agg #[.slice B v.length cv]] I [] (fun u R' => u = strV (viewT v) ∧ R' = []) := by
  refine FnSpec.enterP Tryd.func34 rfl Tryd.ntmps34 rfl fun w F => ?_
  repeat' first
    | ((with_reducible refine Nx.is_wp ?_); first | refine Nx.wo ?_ | refine Nx.zp (fun hc => ?_) (fun hc => ?_))
    | (refine Nx.zo ?_; first | refine Nx.opr rfl rfl ?_ | refine Nx.so ?_ | refine Nx.sb (fun bx => ?_) | refine Nx.sa (fun A2 c2 => ?_))
    | refine Nx.za ?_ | refine Nx.zr (fun hc => ?_) (fun hc => ?_)
    | refine Nx.zq ?_ | refine Nx.zu (fun hc => ?_) (fun hc => ?_)
    | refine Nx.zx ?_ | fail
  refine Nx.p_loop (σ := Nat × Option Addr × Nat) (fun s => [(1, .pointer (some ⟨bx, 0, none⟩)), (3, .slice s.2.1 (viewT (v.take s.1)).length s.2.2), (9, .slice B v.length cv), (10, .int .i64 v.length), (11, .int .i64 (s.1 : Int))])
    (fun s => [bytesR s.2.1 s.2.2 (viewT (v.take s.1)), Blk bx 31 [.slice B v.length cv], F]) (fun s => s.1 ≤ v.length) (fun s => v.length - s.1) (0, none, 0) rfl (Nat.zero_le _) ⟨rfl, rfl, rfl, rfl, rfl, trivial⟩ ((Ent.vec_nil _ _ _).trans (by (exact Ent.auto))) ?_
  rintro ⟨k, A, c⟩ hk
  dsimp only at hk ⊢
  have hlen := viewT_len (v := v.take k) (fun r hr => (h1 r (List.mem_of_mem_take hr)).1)
  rw [List.length_take] at hlen
  by_cases hlt : k < v.length
  · have hr := h1 _ (row_mem hlt)
    have hin := hv.at hlt
    have hil := hin.len
    have hsucc := viewT_succ hlt
    repeat' first
      | ((with_reducible refine Nx.is_wp ?_); first | refine Nx.wo ?_ | refine Nx.zp (fun hc => ?_) (fun hc => ?_))
      | (refine Nx.zo ?_; first | refine Nx.opr rfl rfl ?_ | refine Nx.indexAddr_nat rfl rfl rfl rfl rfl (by omega) (hv.outer.isSome (by omega)) ?_ | refine Nx.load rfl rfl rfl (hv.outer.rd (by omega)) ?_ | refine Nx.so ?_ | refine Nx.sb (fun bx => ?_) | refine Nx.sa (fun A2 c2 => ?_))
      | refine Nx.za ?_ | refine Nx.zr (fun hc => ?_) (fun hc => ?_)
      | refine Nx.zq ?_ | refine Nx.zu (fun hc => ?_) (fun hc => ?_)
      | refine Nx.zx ?_ | fail
    generalize hrow : v.getD k default = row at hr hin hil hsucc ⊢
    obtain ⟨Ar, cr, l⟩ := row
    dsimp only at hr hin hil hsucc
    refine Nx.p_loop (σ := Nat × Option Addr × Nat) (fun s => [(1, .pointer (some ⟨bx, 0, none⟩)), (3, .slice s.2.1 (viewT (v.take k) ++ rowT (l.take s.1)).length s.2.2), (9, .slice B v.length cv), (10, .int .i64 v.length), (11, .int .i64 (k : Int)), (15, .slice Ar l.length cr), (16, .int .i64 l.length), (17, .int .i64 (s.1 : Int))])
      (fun s => [bytesR s.2.1 s.2.2 (viewT (v.take k) ++ rowT (l.take s.1)), Blk bx 31 [.slice B v.length cv], F]) (fun s => s.1 ≤ l.length) (fun s => l.length - s.1) (0, A, c) rfl (Nat.zero_le _) ⟨rfl, by simp [rowT]; rfl, rfl, rfl, rfl, rfl, rfl, rfl, trivial⟩ ?_ ?_
    · simp only [List.take_zero, rowT, List.flatMap_nil, List.append_nil]; (exact Ent.auto)
    rintro ⟨j, A2, c2⟩ hj
    dsimp only at hj ⊢
    have hrl := rowT_len (l.take j)
    rw [List.length_take] at hrl
    by_cases hjl : j < l.length
    · have hz := hr.2 _ (getD_mem hjl)
      have hsj := rowT_succ hjl
      repeat' first
        | ((with_reducible refine Nx.is_wp ?_); first | refine Nx.wo ?_ | refine Nx.zp (fun hc => ?_) (fun hc => ?_))
        | (refine Nx.zo ?_; first | refine Nx.opr rfl rfl ?_ | refine Nx.indexAddr_nat rfl rfl rfl rfl rfl (by omega) (hin.isSome (by omega)) ?_ | refine Nx.load rfl rfl rfl (hin.rd (by omega)) ?_ | refine Nx.so ?_ | refine Nx.sb (fun bx => ?_) | refine Nx.sa (fun A2 c2 => ?_))
        | refine Nx.za ?_ | refine Nx.zr (fun hc => ?_) (fun hc => ?_)
        | refine Nx.zq ?_ | refine Nx.zu (fun hc => ?_) (fun hc => ?_)
        | refine Nx.zx ?_ | fail
      refine Nx.at_op rfl rfl ?_
      refine Nx.call rfl rfl rfl (by kernel_rfl) rfl (AppendInt_spec A2 c2 (viewT (v.take k) ++ rowT (l.take j)) (l.getD j default) hz (by simp; omega) I) (by (exact Ent.auto)) ?_
      rintro u R' ⟨A3, c3, rfl, rfl⟩
      have hn2 := numT_len (l.getD j default)
      repeat' first
        | ((with_reducible refine Nx.is_wp ?_); first | refine Nx.wo ?_ | refine Nx.zp (fun hc => ?_) (fun hc => ?_))
        | (refine Nx.zo ?_; first | refine Nx.opr rfl rfl ?_ | refine Nx.append_bytes 0 (l2 := [32]) rfl rfl rfl rfl (by kernel_rfl) rfl rfl rfl rfl rfl (by simp only [List.length_append]; omega) (fun A2 c2 => ?_) | refine Nx.so ?_ | refine Nx.sb (fun bx => ?_) | refine Nx.sa (fun A2 c2 => ?_))
        | refine Nx.za ?_ | refine Nx.zr (fun hc => ?_) (fun hc => ?_)
        | refine Nx.zq ?_ | refine Nx.zu (fun hc => ?_) (fun hc => ?_)
        | refine Nx.zx ?_ | fail
      have e : viewT (v.take k) ++ rowT (l.take j) ++ numT (l.getD j default) ++ [32] = viewT (v.take k) ++ rowT (l.take (j + 1)) := by rw [hsj]; simp only [List.append_assoc]
      rw [e]
      exact Nx.again (j + 1, _, _) hjl (by dsimp only; omega) ⟨rfl, rfl, rfl, rfl, rfl, rfl, rfl, rfl, trivial⟩ (by (exact Ent.auto))
    · obtain rfl : j = l.length := by omega
      rw [List.take_length] at hrl ⊢
      repeat' first
        | ((with_reducible refine Nx.is_wp ?_); first | refine Nx.wo ?_ | refine Nx.zp (fun hc => ?_) (fun hc => ?_))
        | (refine Nx.zo ?_; first | refine Nx.opr rfl rfl ?_ | refine Nx.append_bytes 0 (l2 := [59]) rfl rfl rfl rfl (by kernel_rfl) rfl rfl rfl rfl rfl (by simp only [List.length_append]; omega) (fun A2 c2 => ?_) | refine Nx.so ?_ | refine Nx.sb (fun bx => ?_) | refine Nx.sa (fun A2 c2 => ?_))
        | refine Nx.za ?_ | refine Nx.zr (fun hc => ?_) (fun hc => ?_)
        | refine Nx.zq ?_ | refine Nx.zu (fun hc => ?_) (fun hc => ?_)
        | refine Nx.zx ?_ | fail
      rw [List.append_assoc, ← hsucc]
      exact Nx.again (k + 1, _, _) hlt (by dsimp only; omega) ⟨rfl, rfl, rfl, rfl, rfl, trivial⟩ (by (exact Ent.auto))
  · obtain rfl : k = v.length := by omega
    rw [List.take_length]
    repeat' first
      | ((with_reducible refine Nx.is_wp ?_); first | refine Nx.wo ?_ | refine Nx.zp (fun hc => ?_) (fun hc => ?_))
      | (refine Nx.zo ?_; first | refine Nx.opr rfl rfl ?_ | refine Nx.vec_str 0 rfl rfl rfl rfl rfl rfl rfl ?_ | refine Nx.so ?_ | refine Nx.sb (fun bx => ?_) | refine Nx.sa (fun A2 c2 => ?_))
      | refine Nx.za ?_ | refine Nx.zr (fun hc => ?_) (fun hc => ?_)
      | refine Nx.zq ?_ | refine Nx.zu (fun hc => ?_) (fun hc => ?_)
      | refine Nx.zx ?_ | fail
    exact Nx.ret_fn rfl [] ⟨rfl, rfl⟩ (by (exact Ent.auto))
end Go.Proofs.YtpmlehplbobjmaaDoor
/- Contracts of functions of the given program, and lemmas about plain lists and numbers: what the laws of this seat lean on. -/
namespace Go.Proofs.YtpmlehplbobjmaaDoor
open Go.Eng
attribute [local irreducible] opK wpList Code.wp Exit.then Exit.inBlock fnPost bodyPost Nx Calls Oper.wp Rd Rds Wr Ent Stars Blk Again Vec FnSpec wpMix QRun Stop Upto wpAt
abbrev intsR (A : Option Addr) (c : Nat) (l : List Int) : Res := Vec 3 1 A l.length c (l.map (Value.int .i64))
set_option maxHeartbeats 2000000 in
set_option maxRecDepth 10000 in
theorem Clone_spec (A : Option Addr) (c : Nat) (l : List Int) (I : PH) (hl : Ints I A c l) (h9 : l.length ≤ 1000000) :
    FnSpec Tryd.prog 36 [.slice A l.length c] I [] (fun v R' => ∃ A' c', v = .slice A' l.length c' ∧ R' = [intsR A' c' l]) := by
  cases A with
  | none =>
    have h0 : l = [] := by
      rcases Nat.eq_zero_or_pos l.length with h | h
      · exact List.eq_nil_of_length_eq_zero h
      · have := hl.isSome h; cases this
    subst h0
    refine FnSpec.enterP Tryd.func36 rfl Tryd.ntmps36 rfl fun w F => ?_
    repeat' first
      | ((with_reducible refine Nx.is_wp ?_); first | refine Nx.wo ?_ | refine Nx.zp (fun hc => ?_) (fun hc => ?_))
      | (refine Nx.zo ?_; first | refine Nx.opr rfl rfl ?_ | refine Nx.so ?_ | refine Nx.sb (fun bx => ?_) | refine Nx.sa (fun A2 c2 => ?_))
      | refine Nx.za ?_ | refine Nx.zr (fun hc => ?_) (fun hc => ?_)
      | refine Nx.zq ?_ | refine Nx.zu (fun hc => ?_) (fun hc => ?_)
      | refine Nx.zx ?_ | fail
    refine Nx.ret_fn rfl [intsR none 0 []] ⟨none, 0, rfl, rfl⟩ (Ent.vec_nil _ _ _)
  | some a =>
    refine FnSpec.enterP Tryd.func36 rfl Tryd.ntmps36 rfl fun w F => ?_
    repeat' first
      | ((with_reducible refine Nx.is_wp ?_); first | refine Nx.wo ?_ | refine Nx.zp (fun hc => ?_) (fun hc => ?_))
      | (refine Nx.zo ?_; first | refine Nx.opr rfl rfl ?_ | refine Nx.so ?_ | refine Nx.sb (fun bx => ?_) | refine Nx.sa (fun A2 c2 => ?_))
      | refine Nx.za ?_ | refine Nx.zr (fun hc => ?_) (fun hc => ?_)
      | refine Nx.zq ?_ | refine Nx.zu (fun hc => ?_) (fun hc => ?_)
      | refine Nx.zx ?_ | fail
    refine Nx.blk_vec 0 0 1 rfl rfl (by omega) ?_
    refine Nx.at_op rfl rfl ?_
    refine Nx.append rfl rfl rfl rfl (by kernel_rfl) rfl (Src.arr hl.arr (by simp) (by omega) (fun u hu => by obtain ⟨z, _, rfl⟩ := List.mem_map.1 hu; rfl)) (by omega) fun A' c' => ?_
    rw [Nat.zero_add, List.nil_append]
    repeat' first
      | ((with_reducible refine Nx.is_wp ?_); first | refine Nx.wo ?_ | refine Nx.zp (fun hc => ?_) (fun hc => ?_))
      | (refine Nx.zo ?_; first | refine Nx.opr rfl rfl ?_ | refine Nx.so ?_ | refine Nx.sb (fun bx => ?_) | refine Nx.sa (fun A2 c2 => ?_))
      | refine Nx.za ?_ | refine Nx.zr (fun hc => ?_) (fun hc => ?_)
      | refine Nx.zq ?_ | refine Nx.zu (fun hc => ?_) (fun hc => ?_)
      | refine Nx.zx ?_ | fail
    exact Nx.ret_fn rfl [_] ⟨A', c', rfl, rfl⟩ (by (exact Ent.auto))
set_option maxHeartbeats 2000000 in
set_option maxRecDepth 10000 in
theorem one_spec (A : Option Addr) (c : Nat) (l : List Int) (I : PH) (hl : Ints I A c l) (h9 : l.length ≤ 1000000) :
    FnSpec Tryd.prog 35 [.slice A l.length c] I [] (fun v R' => ∃ A' c', v = .slice A' (oneL l).length c' ∧ R' = [intsR A' c' (oneL l)]) := by
  have hol := oneL_len l
  refine FnSpec.enterP Tryd.func35 rfl Tryd.ntmps35 rfl fun w F => ?_
  repeat' first
    | ((with_reducible refine Nx.is_wp ?_); first | refine Nx.wo ?_ | refine Nx.zp (fun hc => ?_) (fun hc => ?_))
    | (refine Nx.zo ?_; first | refine Nx.opr rfl rfl ?_ | refine Nx.so ?_ | refine Nx.sb (fun bx => ?_) | refine Nx.sa (fun A2 c2 => ?_))
    | refine Nx.za ?_ | refine Nx.zr (fun hc => ?_) (fun hc => ?_)
    | refine Nx.zq ?_ | refine Nx.zu (fun hc => ?_) (fun hc => ?_)
    | refine Nx.zx ?_ | fail
  refine Nx.at_op rfl rfl ?_
  refine Nx.call rfl rfl rfl (by kernel_rfl) rfl (Clone_spec A c l I hl h9) (by (exact Ent.auto)) ?_
  rintro u R' ⟨A', c', rfl, rfl⟩
  repeat' first
    | ((with_reducible refine Nx.is_wp ?_); first | refine Nx.wo ?_ | refine Nx.zp (fun hc => ?_) (fun hc => ?_))
    | (refine Nx.zo ?_; first | refine Nx.opr rfl rfl ?_ | refine Nx.so ?_ | refine Nx.sb (fun bx => ?_) | refine Nx.sa (fun A2 c2 => ?_))
    | refine Nx.za ?_ | refine Nx.zr (fun hc => ?_) (fun hc => ?_)
    | refine Nx.zq ?_ | refine Nx.zu (fun hc => ?_) (fun hc => ?_)
    | refine Nx.zx ?_ | fail
  refine Nx.vec_fact fun _ _ _ hA => ?_
  refine Nx.p_loop (σ := Nat) (fun k => [(3, .slice A' l.length c'), (8, .slice A' l.length c'), (9, .int .i64 l.length), (10, .int .i64 (k : Int))])
    (fun k => [Vec 3 1 A' l.length c' (((oneL l).take k ++ l.drop k).map (Value.int .i64)), F]) (fun k => k ≤ l.length) (fun k => l.length - k) 0 rfl (Nat.zero_le _) ⟨rfl, rfl, rfl, rfl, trivial⟩ (by (exact Ent.auto)) ?_
  intro k hk
  have hml := mix_len hol hk
  by_cases hlt : k < l.length
  · have hm := mix_at hol hlt
    have hA := hA (by omega)
    repeat' first
      | ((with_reducible refine Nx.is_wp ?_); first | refine Nx.wo ?_ | refine Nx.zp (fun hc => ?_) (fun hc => ?_))
      | (refine Nx.zo ?_; first | refine Nx.opr rfl rfl ?_ | refine Nx.indexAddr_nat rfl rfl rfl rfl rfl (by omega) hA ?_ | refine Nx.load rfl rfl rfl (Rd.vecEl 0 rfl (by omega)) ?_ | refine Nx.so ?_ | refine Nx.sb (fun bx => ?_) | refine Nx.sa (fun A2 c2 => ?_))
      | refine Nx.za ?_ | refine Nx.zr (fun hc => ?_) (fun hc => ?_)
      | refine Nx.zq ?_ | refine Nx.zu (fun hc => ?_) (fun hc => ?_)
      | refine Nx.zx ?_ | fail
    refine Nx.again (k + 1) hlt (by omega) ⟨rfl, rfl, rfl, rfl, trivial⟩ ?_
    refine Ent.pickE 0 rfl ?_ (by (exact Ent.auto))
    rw [hm, ← oneL_at, mix_set hol hlt]
  · obtain rfl : k = l.length := by omega
    have hfull : (oneL l).take l.length ++ l.drop l.length = oneL l := by rw [List.drop_length, List.append_nil, ← hol, List.take_length]
    rw [hfull]
    repeat' first
      | ((with_reducible refine Nx.is_wp ?_); first | refine Nx.wo ?_ | refine Nx.zp (fun hc => ?_) (fun hc => ?_))
      | (refine Nx.zo ?_; first | refine Nx.opr rfl rfl ?_ | refine Nx.so ?_ | refine Nx.sb (fun bx => ?_) | refine Nx.sa (fun A2 c2 => ?_))
      | refine Nx.za ?_ | refine Nx.zr (fun hc => ?_) (fun hc => ?_)
      | refine Nx.zq ?_ | refine Nx.zu (fun hc => ?_) (fun hc => ?_)
      | refine Nx.zx ?_ | fail
    exact Nx.ret_fn rfl [intsR A' c' (oneL l)] ⟨A', c', by rw [hol], rfl⟩ (by unfold intsR; rw [hol]; (exact Ent.auto))
/-! Margins -/
/-- A view that is owned: where its list of rows lies, its room, and the rows. -/
abbrev VRow := Option Addr × Nat × List Row
def vrowV (r : VRow) : Value := .slice r.1 r.2.2.length r.2.1
def vrowR (r : VRow) : Res := ViewR r.1 r.2.1 r.2.2
theorem run_shl1 {P : Program} {t : TypeId} {x y : Operand} {n : Nat} (hn : n ≤ 4) : pureRun P (do eqGuard .shl t x y (.int .i64 1) (.int .i64 (n : Int)); binOp .shl t (.int .i64 1) (.int .i64 (n : Int))) = some (.int .i64 ((2 ^ n : Nat) : Int)) := by
  have : n = 0 ∨ n = 1 ∨ n = 2 ∨ n = 3 ∨ n = 4 := by omega
  rcases this with rfl | rfl | rfl | rfl | rfl <;> rfl
theorem run_and1 {P : Program} {t : TypeId} {x y : Operand} {a : Nat} (ha : a < 16) : pureRun P (do eqGuard .and t x y (.int .i64 (a : Int)) (.int .i64 1); binOp .and t (.int .i64 (a : Int)) (.int .i64 1)) = some (.int .i64 ((a % 2 : Nat) : Int)) := by
  have : a = 0 ∨ a = 1 ∨ a = 2 ∨ a = 3 ∨ a = 4 ∨ a = 5 ∨ a = 6 ∨ a = 7 ∨ a = 8 ∨ a = 9 ∨ a = 10 ∨ a = 11 ∨ a = 12 ∨ a = 13 ∨ a = 14 ∨ a = 15 := by omega
  rcases this with rfl | rfl | rfl | rfl | rfl | rfl | rfl | rfl | rfl | rfl | rfl | rfl | rfl | rfl | rfl | rfl <;> rfl
end Go.Proofs.YtpmlehplbobjmaaDoor
/- Contracts of functions of the given program, and lemmas about plain lists and numbers: what the laws of this seat lean on. -/
namespace Go.Proofs.YtpmlehplbobjmaaDoor
open Go.Eng
/-! The margins of a view, as plain lists; two views of one text are one -/
def lsts (v : List Row) : List (List Int) := v.map fun r => r.2.2
theorem lsts_len (v : List Row) : (lsts v).length = v.length := by simp [lsts]
theorem lsts_at (v : List Row) {i : Nat} (hi : i < v.length) : (lsts v).getD i [] = (v.getD i default).2.2 := by
  unfold lsts
  rw [List.getD_eq_getElem?_getD, List.getElem?_map, List.getD_eq_getElem?_getD, List.getElem?_eq_getElem hi]; rfl
def textL (L : List (List Int)) : List UInt8 := L.flatMap fun l => rowT l ++ [59]
theorem viewT_lsts (v : List Row) : viewT v = textL (lsts v) := by
  unfold viewT textL lsts
  rw [List.flatMap_map]
def Small (l : List Int) : Prop := ∀ z ∈ l, -9 ≤ z ∧ z ≤ 9
theorem ofNat_inj {a b : Nat} (ha : a ≤ 9) (hb : b ≤ 9) (h : UInt8.ofNat (48 + a) = UInt8.ofNat (48 + b)) : a = b := by
  have := congrArg UInt8.toNat h
  simp only [UInt8.toNat_ofNat'] at this
  omega
theorem dig_ne {a : Nat} (ha : a ≤ 9) : UInt8.ofNat (48 + a) ≠ 45 ∧ UInt8.ofNat (48 + a) ≠ 59 ∧ UInt8.ofNat (48 + a) ≠ 32 := by
  have key : ∀ c : UInt8, c.toNat < 48 ∨ 57 < c.toNat → UInt8.ofNat (48 + a) ≠ c := fun c hc h => by
    have := congrArg UInt8.toNat h
    simp only [UInt8.toNat_ofNat'] at this
    omega
  exact ⟨key _ (by decide), key _ (by decide), key _ (by decide)⟩
theorem numT_inj {z z' : Int} (hz : -9 ≤ z ∧ z ≤ 9) (hz' : -9 ≤ z' ∧ z' ≤ 9) {X X' : List UInt8} (h : numT z ++ X = numT z' ++ X') : z = z' ∧ X = X' := by
  unfold numT at h
  by_cases h0 : z < 0 <;> by_cases h1 : z' < 0
  · rw [if_pos h0, if_pos h1] at h
    simp only [List.cons_append, List.nil_append, List.cons.injEq, true_and] at h
    have := ofNat_inj (by omega) (by omega) h.1
    exact ⟨by omega, h.2⟩
  · rw [if_pos h0, if_neg h1] at h
    simp only [List.cons_append, List.nil_append, List.cons.injEq] at h
    exact absurd h.1.symm (dig_ne (by omega)).1
  · rw [if_neg h0, if_pos h1] at h
    simp only [List.cons_append, List.nil_append, List.cons.injEq] at h
    exact absurd h.1 (dig_ne (by omega)).1
  · rw [if_neg h0, if_neg h1] at h
    simp only [List.cons_append, List.nil_append, List.cons.injEq] at h
    have := ofNat_inj (by omega) (by omega) h.1
    exact ⟨by omega, h.2⟩
theorem numT_59 {z : Int} (hz : -9 ≤ z ∧ z ≤ 9) {X X' : List UInt8} : numT z ++ X ≠ 59 :: X' := fun h => by
  unfold numT at h
  split at h
  · simp only [List.cons_append, List.cons.injEq] at h
    exact absurd h.1 (by decide)
  · simp only [List.cons_append, List.cons.injEq] at h
    exact (dig_ne (by omega)).2.1 h.1
theorem rowT_cons (z : Int) (l : List Int) : rowT (z :: l) = numT z ++ (32 :: rowT l) := by simp [rowT]
theorem rowT_inj : ∀ {l l' : List Int} {X X' : List UInt8}, Small l → Small l' → rowT l ++ 59 :: X = rowT l' ++ 59 :: X' → l = l' ∧ X = X'
  | [], [], X, X', _, _, h => by
    simp only [rowT, List.flatMap_nil, List.nil_append, List.cons.injEq, true_and] at h
    exact ⟨rfl, h⟩
  | [], z :: l', X, X', _, h2, h => by
    rw [rowT_cons, List.append_assoc] at h
    exact absurd h.symm (numT_59 (h2 z List.mem_cons_self))
  | z :: l, [], X, X', h1, _, h => by
    rw [rowT_cons, List.append_assoc] at h
    exact absurd h (numT_59 (h1 z List.mem_cons_self))
  | z :: l, z' :: l', X, X', h1, h2, h => by
    rw [rowT_cons, rowT_cons, List.append_assoc, List.append_assoc] at h
    obtain ⟨he, h⟩ := numT_inj (h1 z List.mem_cons_self) (h2 z' List.mem_cons_self) h
    simp only [List.cons_append, List.cons.injEq, true_and] at h
    obtain ⟨hl, hX⟩ := rowT_inj (fun x hx => h1 x (List.mem_cons_of_mem _ hx)) (fun x hx => h2 x (List.mem_cons_of_mem _ hx)) h
    exact ⟨by rw [he, hl], hX⟩
theorem textL_inj : ∀ {L L' : List (List Int)}, (∀ l ∈ L, Small l) → (∀ l ∈ L', Small l) → textL L = textL L' → L = L'
  | [], [], _, _, _ => rfl
  | [], l :: L', _, _, h => by
    have := congrArg List.length h
    simp [textL] at this
  | l :: L, [], _, _, h => by
    have := congrArg List.length h
    simp [textL] at this
  | l :: L, l' :: L', h1, h2, h => by
    unfold textL at h
    simp only [List.flatMap_cons, List.append_assoc, List.singleton_append] at h
    obtain ⟨he, hX⟩ := rowT_inj (h1 l List.mem_cons_self) (h2 l' List.mem_cons_self) h
    rw [he, textL_inj (fun x hx => h1 x (List.mem_cons_of_mem _ hx)) (fun x hx => h2 x (List.mem_cons_of_mem _ hx)) hX]
/-- The dimensions chosen by a number's bits in one. -/
def margV (L : List (List Int)) (set : Nat) : List (List Int) := (List.range L.length).map fun i => margL set i (L.getD i [])
theorem margV_len (L : List (List Int)) (set : Nat) : (margV L set).length = L.length := by simp [margV]
theorem margV_at (L : List (List Int)) (set : Nat) {i : Nat} (hi : i < L.length) : (margV L set).getD i [] = margL set i (L.getD i []) := by
  unfold margV
  rw [List.getD_eq_getElem?_getD, List.getElem?_map, List.getElem?_range hi]; rfl
theorem margV_take {L : List (List Int)} {set i : Nat} (hi : i < L.length) : (margV L set).take (i + 1) = (margV L set).take i ++ [margL set i (L.getD i [])] := by
  have h := margV_at L set hi
  have hl := margV_len L set
  rw [List.take_succ_eq_append_getElem (by omega)]
  rw [List.getD_eq_getElem?_getD, List.getElem?_eq_getElem (by omega)] at h
  have h : (margV L set)[i]'(by omega) = margL set i (L.getD i []) := h
  rw [h]
/-- The margins for the first n choices, each once, without the view itself. -/
def margs (L : List (List Int)) : Nat → List (List (List Int))
  | 0 => []
  | n + 1 => if margV L (n + 1) = L ∨ margV L (n + 1) ∈ margs L n then margs L n else margs L n ++ [margV L (n + 1)]
theorem margs_len (L : List (List Int)) : ∀ n, (margs L n).length ≤ n
  | 0 => Nat.le_refl _
  | n + 1 => by
    have := margs_len L n
    unfold margs
    split
    · omega
    · rw [List.length_append, List.length_singleton]; omega
theorem oneL_small {l : List Int} (h : Small l) : Small (oneL l) := fun z hz => by
  obtain ⟨x, hx, rfl⟩ := List.mem_map.1 hz
  have := h x hx
  omega
theorem margV_small {L : List (List Int)} (h : ∀ l ∈ L, Small l) (set : Nat) : ∀ l ∈ margV L set, Small l := fun l hl => by
  obtain ⟨i, hi, rfl⟩ := List.mem_map.1 hl
  rw [List.mem_range] at hi
  have : L.getD i [] ∈ L := by rw [List.getD_eq_getElem?_getD, List.getElem?_eq_getElem hi]; exact List.getElem_mem _
  unfold margL
  split
  · exact oneL_small (h _ this)
  · exact h _ this
/-- What the map of seen texts says. -/
structure SeenT (L : List (List Int)) (n : Nat) (sl : List (List UInt8 × Bool)) : Prop where
  iff : ∀ M : List (List Int), (∀ l ∈ M, Small l) → ((mget sl (textL M)).getD false = true ↔ (M = L ∨ M ∈ margs L n))
theorem SeenT.start {L : List (List Int)} (hL : ∀ l ∈ L, Small l) : SeenT L 0 (mset [] (textL L) true) := ⟨fun M hM => by
  rw [mget_set]
  by_cases h : textL M = textL L
  · rw [if_pos h]
    exact ⟨fun _ => .inl (textL_inj hM hL h), fun _ => rfl⟩
  · rw [if_neg h]
    simp only [mget, Option.getD_none, Bool.false_eq_true, false_iff]
    rintro (rfl | h2)
    · exact h rfl
    · cases h2⟩
theorem SeenT.old {L : List (List Int)} {n : Nat} {sl : List (List UInt8 × Bool)} (hL : ∀ l ∈ L, Small l) (h : SeenT L n sl) (ho : (mget sl (textL (margV L (n + 1)))).getD false = true) : margs L (n + 1) = margs L n ∧ SeenT L (n + 1) sl := by
  have h1 := (h.iff _ (margV_small hL _)).1 ho
  have e : margs L (n + 1) = margs L n := by
    show (if _ then _ else _) = _
    rw [if_pos h1]
  exact ⟨e, ⟨fun M hM => by rw [e]; exact h.iff M hM⟩⟩
theorem SeenT.new {L : List (List Int)} {n : Nat} {sl : List (List UInt8 × Bool)} (hL : ∀ l ∈ L, Small l) (h : SeenT L n sl) (ho : (mget sl (textL (margV L (n + 1)))).getD false = false) : margs L (n + 1) = margs L n ++ [margV L (n + 1)] ∧ SeenT L (n + 1) (mset sl (textL (margV L (n + 1))) true) := by
  have h1 : ¬(margV L (n + 1) = L ∨ margV L (n + 1) ∈ margs L n) := fun h2 => by
    have := (h.iff _ (margV_small hL _)).2 h2
    rw [ho] at this; cases this
  have e : margs L (n + 1) = margs L n ++ [margV L (n + 1)] := by
    show (if _ then _ else _) = _
    rw [if_neg h1]
  refine ⟨e, ⟨fun M hM => ?_⟩⟩
  rw [mget_set, e, List.mem_append, List.mem_singleton]
  by_cases h2 : textL M = textL (margV L (n + 1))
  · rw [if_pos h2]
    have := textL_inj hM (margV_small hL _) h2
    exact ⟨fun _ => .inr (.inr this), fun _ => rfl⟩
  · rw [if_neg h2, h.iff M hM]
    constructor
    · rintro (h3 | h3)
      · exact .inl h3
      · exact .inr (.inl h3)
    · rintro (h3 | h3 | h3)
      · exact .inl h3
      · exact .inr h3
      · rw [h3] at h2; exact absurd rfl h2
end Go.Proofs.YtpmlehplbobjmaaDoor
/- Contracts of functions of the given program, and lemmas about plain lists and numbers: what the laws of this seat lean on. -/
namespace Go.Proofs.YtpmlehplbobjmaaDoor
open Go.Eng
attribute [local irreducible] opK wpList Code.wp Exit.then Exit.inBlock fnPost bodyPost Nx Calls Oper.wp Rd Rds Wr Ent Stars Blk Again Vec FnSpec wpMix QRun Stop Upto wpAt
theorem small_of {l : List Int} (hs : (l.length : Int) ≤ 8) (hn : numbB l = true) : Small l := fun z hz => by
  have hg := grouped_of hn
  obtain ⟨k, hk, rfl⟩ := mem_getD hz
  have := hg.each k hk
  have := hg.max
  omega
theorem Viewed.small {l : List Int} {v : List Row} (hs : Sizes l) (hw : Viewed l v) : ∀ x ∈ lsts v, Small x := fun x hx => by
  obtain ⟨r, hr, rfl⟩ := List.mem_map.1 hx
  obtain ⟨k, hk, he⟩ := List.mem_iff_getElem.1 hr
  have h1 := hw.each k (by rw [← hw.len]; exact hk)
  have h2 := hs.at (k := k) (by rw [← hw.len]; exact hk)
  have he : v.getD k default = r := by rw [List.getD_eq_getElem?_getD, List.getElem?_eq_getElem hk]; exact he
  rw [he] at h1
  exact small_of (by omega) h1.2
theorem snoc_lsts (v : List Row) (r : Row) : lsts (v ++ [r]) = lsts v ++ [r.2.2] := by simp [lsts]
theorem run_shlP {P : Program} {t : TypeId} {x y : Operand} {n p : Nat} (hn : n ≤ 4) (hp : p = 2 ^ n) : pureRun P (do eqGuard .shl t x y (.int .i64 1) (.int .i64 (n : Int)); binOp .shl t (.int .i64 1) (.int .i64 (n : Int))) = some (.int .i64 (p : Int)) := by
  rw [hp]; exact run_shl1 hn
theorem run_shrN {P : Program} {t : TypeId} {x y : Operand} {a n q : Nat} (hn : n ≤ 64) (hq : q = a / 2 ^ n) : pureRun P (do eqGuard .shr t x y (.int .i64 (a : Int)) (.int .i64 (n : Int)); binOp .shr t (.int .i64 (a : Int)) (.int .i64 (n : Int))) = some (.int .i64 (q : Int)) := by
  rw [run_shrI hn, hq, Int.natCast_ediv, Int.natCast_pow]; rfl
theorem MargIn_len {L : List (List Int)} {n : Nat} {ms : List VRow} (h : ms.map (fun m : VRow => lsts m.2.2) = margs L n) : ms.length ≤ n := by
  have := congrArg List.length h
  rw [List.length_map] at this
  have h2 := margs_len L n
  omega
set_option maxRecDepth 10000 in
set_option maxHeartbeats 4000000 in
theorem Margins_spec (A B : Option Addr) (c cv : Nat) (l : List Int) (v : List Row) (I : PH) (hl : Ints I A c l) (hs : Sizes l) (hv : RowsOf I B cv v) (hw : Viewed l v) :
    FnSpec Tryd.prog 11 [.agg #[.slice A l.length c], .agg #[.slice B v.length cv]] I []
      (fun u R' => ∃ (A' : Option Addr) (c' : Nat) (ms : List VRow), u = .tuple #[.slice A' ms.length c', .int .i64 0] ∧ ms.map (fun m : VRow => lsts m.2.2) = margs (lsts v) (2 ^ l.length - 1) ∧
        R' = [Vec 31 1 A' ms.length c' (ms.map vrowV), Stars (ms.map vrowR)]) := by
  have hlen := hl.len
  have hd := hs.dims
  have hvl := hw.len
  have hsm := hw.small hs
  have hrow : ∀ r ∈ v, r.2.2.length ≤ 1000 ∧ ∀ z ∈ r.2.2, -9 ≤ z ∧ z ≤ 9 := fun r hr => by
    obtain ⟨k, hk, he⟩ := List.mem_iff_getElem.1 hr
    have he : v.getD k default = r := by rw [List.getD_eq_getElem?_getD, List.getElem?_eq_getElem hk]; exact he
    have h1 := (hw.each k (by omega)).1
    have h2 := hs.at (k := k) (by omega)
    rw [he] at h1
    exact ⟨by omega, hsm r.2.2 (List.mem_map.2 ⟨r, hr, rfl⟩)⟩
  have KE : KeyEnc Tryd.prog 9 strV := KeyEnc.str (by kernel_rfl)
  obtain ⟨P, hPe, hP⟩ : ∃ P : Nat, P = 2 ^ v.length ∧ 2 ≤ P ∧ P ≤ 16 := by
    have : v.length = 1 ∨ v.length = 2 ∨ v.length = 3 ∨ v.length = 4 := by omega
    refine ⟨_, rfl, ?_⟩
    rcases this with h | h | h | h <;> rw [h] <;> decide
  refine FnSpec.enterP Tryd.func11 rfl Tryd.ntmps11 rfl fun w F => ?_
  repeat' first
    | ((with_reducible refine Nx.is_wp ?_); first | refine Nx.wo ?_ | refine Nx.zp (fun hc => ?_) (fun hc => ?_))
    | (refine Nx.zo ?_; first | refine Nx.opr rfl rfl ?_ | refine Nx.callv rfl rfl rfl (by kernel_rfl) rfl (View_spec _ _ _ _ _ _ _ hl hs hv hw) ?_ | refine Nx.so ?_ | refine Nx.sb (fun bx => ?_) | refine Nx.sa (fun A2 c2 => ?_))
    | refine Nx.za ?_ | refine Nx.zr (fun hc => ?_) (fun hc => ?_)
    | refine Nx.zq ?_ | refine Nx.zu (fun hc => ?_) (fun hc => ?_)
    | refine Nx.zx ?_ | fail
  refine Nx.at_op rfl rfl ?_
  refine Nx.makeMap strV Value.bool rfl (fun bm => ?_)
  repeat' first
    | ((with_reducible refine Nx.is_wp ?_); first | refine Nx.wo ?_ | refine Nx.zp (fun hc => ?_) (fun hc => ?_))
    | (refine Nx.zo ?_; first | refine Nx.opr rfl rfl ?_ | refine Nx.callv rfl rfl rfl (by kernel_rfl) rfl (text_spec B cv v I hv (by omega) hrow) ?_ | refine Nx.so ?_ | refine Nx.sb (fun bx => ?_) | refine Nx.sa (fun A2 c2 => ?_))
    | refine Nx.za ?_ | refine Nx.zr (fun hc => ?_) (fun hc => ?_)
    | refine Nx.zq ?_ | refine Nx.zu (fun hc => ?_) (fun hc => ?_)
    | refine Nx.zx ?_ | fail
  refine Nx.at_op rfl rfl ?_
  refine Nx.mapSet 0 strV Value.bool (k := viewT v) (v := true) (.inl rfl) rfl rfl rfl KE rfl rfl ?_
  repeat' first
    | ((with_reducible refine Nx.is_wp ?_); first | refine Nx.wo ?_ | refine Nx.zp (fun hc => ?_) (fun hc => ?_))
    | (refine Nx.zo ?_; first | refine Nx.opr rfl rfl ?_ | refine Nx.so ?_ | refine Nx.sb (fun bx => ?_) | refine Nx.sa (fun A2 c2 => ?_))
    | refine Nx.za ?_ | refine Nx.zr (fun hc => ?_) (fun hc => ?_)
    | refine Nx.zq ?_ | refine Nx.zu (fun hc => ?_) (fun hc => ?_)
    | refine Nx.zx ?_ | fail
  revert bx; intro bv
  refine Nx.p_loop (σ := Nat × Option Addr × Nat × List VRow × List (List UInt8 × Bool)) (fun s => [(3, .pointer (some ⟨bv, 0, none⟩)), (7, .map (some bm)), (8, .slice s.2.1 s.2.2.2.1.length s.2.2.1), (9, .int .i64 ((s.1 + 1 : Nat) : Int))])
    (fun s => [MapR strV Value.bool bm s.2.2.2.2, Vec 31 1 s.2.1 s.2.2.2.1.length s.2.2.1 (s.2.2.2.1.map vrowV), Stars (s.2.2.2.1.map vrowR), Blk bv 31 [.slice B v.length cv], F])
    (fun s => s.1 + 1 ≤ P ∧ s.2.2.2.1.map (fun m : VRow => lsts m.2.2) = margs (lsts v) s.1 ∧ SeenT (lsts v) s.1 s.2.2.2.2) (fun s => P - s.1) (0, none, 0, [], mset [] (viewT v) true) rfl
    ⟨by omega, rfl, by rw [viewT_lsts]; exact SeenT.start hsm⟩ ⟨rfl, rfl, rfl, rfl, trivial⟩ (((Ent.vec_nil _ _ _).trans (Ent.stars_nil _)).trans (by (exact Ent.auto))) ?_
  rintro ⟨n, As, cs, ms, sl⟩ ⟨hn, hms, hsl⟩
  dsimp only at hn hms hsl ⊢
  have hmsl := MargIn_len hms
  by_cases hlt : n + 1 < P
  · repeat' first
      | ((with_reducible refine Nx.is_wp ?_); first | refine Nx.wo ?_ | refine Nx.zp (fun hc => ?_) (fun hc => ?_))
      | (refine Nx.zo ?_; first | refine Nx.opr rfl rfl ?_ | refine Nx.bin rfl rfl (run_shlP (by omega) hPe) rfl ?_ | refine Nx.so ?_ | refine Nx.sb (fun bx => ?_) | refine Nx.sa (fun A2 c2 => ?_))
      | refine Nx.za ?_ | refine Nx.zr (fun hc => ?_) (fun hc => ?_)
      | refine Nx.zq ?_ | refine Nx.zu (fun hc => ?_) (fun hc => ?_)
      | refine Nx.zx ?_ | fail
    revert bx; intro b10
    refine Nx.p_loop (σ := Nat × Option Addr × Nat × List Row) (fun s => [(3, .pointer (some ⟨bv, 0, none⟩)), (7, .map (some bm)), (8, .slice As ms.length cs), (9, .int .i64 ((n + 1 : Nat) : Int)), (10, .pointer (some ⟨b10, 0, none⟩)), (33, .slice B v.length cv), (34, .int .i64 v.length), (35, .int .i64 (s.1 : Int))])
      (fun s => [Blk b10 31 [.slice s.2.1 s.2.2.2.length s.2.2.1], Vec 25 1 s.2.1 s.2.2.2.length s.2.2.1 (s.2.2.2.map rowV), Stars (s.2.2.2.map rowR), MapR strV Value.bool bm sl, Vec 31 1 As ms.length cs (ms.map vrowV), Stars (ms.map vrowR), Blk bv 31 [.slice B v.length cv], F])
      (fun s => s.1 ≤ v.length ∧ lsts s.2.2.2 = (margV (lsts v) (n + 1)).take s.1) (fun s => v.length - s.1) (0, none, 0, []) rfl ⟨Nat.zero_le _, rfl⟩ ⟨rfl, rfl, rfl, rfl, rfl, rfl, rfl, rfl, trivial⟩ (((Ent.vec_nil _ _ _).trans (Ent.stars_nil _)).trans (by (exact Ent.auto))) ?_
    rintro ⟨i, Am, cm, mr⟩ ⟨hi, hmr⟩
    dsimp only at hi hmr ⊢
    have hmrl : mr.length = i := by
      have := congrArg List.length hmr
      rw [lsts_len, List.length_take, margV_len, lsts_len] at this
      omega
    by_cases hil : i < v.length
    · have hin := hv.at hil
      have hrl := (hrow _ (row_mem hil)).1
      obtain ⟨q, hq⟩ : ∃ q, q = (n + 1) / 2 ^ i := ⟨_, rfl⟩
      have hq16 : q < 16 := by rw [hq]; exact Nat.lt_of_le_of_lt (Nat.div_le_self _ _) (by omega)
      have htk := margV_take (set := n + 1) (L := lsts v) (i := i) (by rw [lsts_len]; exact hil)
      rw [lsts_at v hil] at htk
      unfold margL at htk
      rw [← hq] at htk
      repeat' first
        | ((with_reducible refine Nx.is_wp ?_); first | refine Nx.wo ?_ | refine Nx.zp (fun hc => ?_) (fun hc => ?_))
        | (refine Nx.zo ?_; first | refine Nx.opr rfl rfl ?_ | refine Nx.indexAddr_nat rfl rfl rfl rfl rfl (by omega) (hv.outer.isSome (by omega)) ?_ | refine Nx.load rfl rfl rfl (hv.outer.rd (by omega)) ?_ | refine Nx.bin rfl rfl (run_shrN (by omega) hq) rfl ?_ | refine Nx.bin rfl rfl (run_and1 hq16) rfl ?_ | refine Nx.so ?_ | refine Nx.sb (fun bx => ?_) | refine Nx.sa (fun A2 c2 => ?_))
        | refine Nx.za ?_ | refine Nx.zr (fun hc => ?_) (fun hc => ?_)
        | refine Nx.zq ?_ | refine Nx.zu (fun hc => ?_) (fun hc => ?_)
        | refine Nx.zx ?_ | fail
      · rw [if_pos (by omega)] at htk
        repeat' first
          | ((with_reducible refine Nx.is_wp ?_); first | refine Nx.wo ?_ | refine Nx.p_drawF (id := 14) rfl [0, 1, 2, 3, 4] [3, 4] [5, 6, 7] _ rfl rfl (by kernel_rfl) (by kernel_rfl) rfl PanicOk.auto (Ent.refl _) ?_ | refine Nx.p_drawF (id := 15) rfl [0, 1, 2, 3, 4] [3, 4] [5, 6, 7] _ rfl rfl (by kernel_rfl) (by kernel_rfl) rfl PanicOk.auto (Ent.refl _) ?_ | refine Nx.zp (fun hc => ?_) (fun hc => ?_))
          | (refine Nx.zo ?_; first | refine Nx.opr rfl rfl ?_ | (refine Nx.call (Rpre := []) rfl rfl rfl (by kernel_rfl) rfl (one_spec _ _ _ _ hin (by omega)) (Ent.refl _) ?_; rintro _ _ ⟨A', c', rfl, rfl⟩) | refine Nx.so ?_ | refine Nx.sb (fun bx => ?_) | refine Nx.sa (fun A2 c2 => ?_))
          | refine Nx.za ?_ | refine Nx.zr (fun hc => ?_) (fun hc => ?_)
          | ((with_reducible refine Nx.is_mix ?_); first | refine Nx.m_quiet rfl rfl rfl rfl rfl (by first | exact QRun.opr rfl | exact QRun.load rfl rfl (Rd.at_ 0 rfl rfl)) ?_ | refine Nx.m_quiet_do rfl rfl rfl rfl rfl rfl rfl (by first | exact QRun.opr rfl | exact QRun.load rfl rfl (Rd.at_ 0 rfl rfl)) ?_ | refine Nx.m ?_ | refine Nx.zm ?_ | refine Nx.zt (fun hc => ?_) (fun hc => ?_))
          | refine Nx.zx ?_ | fail
        refine Nx.again (i + 1, A2, c2, mr ++ [(A', c', oneL (v.getD i default).2.2)]) ⟨hil, by dsimp only; rw [snoc_lsts, hmr, htk]⟩ (by dsimp only; omega) ⟨rfl, rfl, rfl, rfl, rfl, rfl, rfl, rfl, trivial⟩ ?_
        dsimp only
        refine Ent.trans (R' := [rowR (A', c', oneL (v.getD i default).2.2), Stars (mr.map rowR), Blk b10 31 [.slice A2 (mr.length + 1) c2], Vec 25 1 A2 (mr.length + 1) c2 (mr.map rowV ++ [rowV (A', c', oneL (v.getD i default).2.2)]), MapR strV Value.bool bm sl, Vec 31 1 As ms.length cs (ms.map vrowV), Stars (ms.map vrowR), Blk bv 31 [.slice B v.length cv], F]) (by unfold rowR rowV; (exact Ent.auto)) (Ent.bundle.trans ?_)
        rw [List.length_append, List.map_append, List.map_append]
        exact (by (exact Ent.auto))
      · rw [if_neg (by omega)] at htk
        repeat' first
          | ((with_reducible refine Nx.is_wp ?_); first | refine Nx.wo ?_ | refine Nx.p_drawF (id := 14) rfl [0, 1, 2, 3, 4] [3, 4] [5, 6, 7] _ rfl rfl (by kernel_rfl) (by kernel_rfl) rfl PanicOk.auto (Ent.refl _) ?_ | refine Nx.p_drawF (id := 15) rfl [0, 1, 2, 3, 4] [3, 4] [5, 6, 7] _ rfl rfl (by kernel_rfl) (by kernel_rfl) rfl PanicOk.auto (Ent.refl _) ?_ | refine Nx.zp (fun hc => ?_) (fun hc => ?_))
          | (refine Nx.zo ?_; first | refine Nx.opr rfl rfl ?_ | (refine Nx.call (Rpre := []) rfl rfl rfl (by kernel_rfl) rfl (Clone_spec _ _ _ _ hin (by omega)) (Ent.refl _) ?_; rintro _ _ ⟨A', c', rfl, rfl⟩) | refine Nx.so ?_ | refine Nx.sb (fun bx => ?_) | refine Nx.sa (fun A2 c2 => ?_))
          | refine Nx.za ?_ | refine Nx.zr (fun hc => ?_) (fun hc => ?_)
          | ((with_reducible refine Nx.is_mix ?_); first | refine Nx.m_quiet rfl rfl rfl rfl rfl (by first | exact QRun.opr rfl | exact QRun.load rfl rfl (Rd.at_ 0 rfl rfl)) ?_ | refine Nx.m_quiet_do rfl rfl rfl rfl rfl rfl rfl (by first | exact QRun.opr rfl | exact QRun.load rfl rfl (Rd.at_ 0 rfl rfl)) ?_ | refine Nx.m ?_ | refine Nx.zm ?_ | refine Nx.zt (fun hc => ?_) (fun hc => ?_))
          | refine Nx.zx ?_ | fail
        refine Nx.again (i + 1, A2, c2, mr ++ [(A', c', (v.getD i default).2.2)]) ⟨hil, by dsimp only; rw [snoc_lsts, hmr, htk]⟩ (by dsimp only; omega) ⟨rfl, rfl, rfl, rfl, rfl, rfl, rfl, rfl, trivial⟩ ?_
        dsimp only
        refine Ent.trans (R' := [rowR (A', c', (v.getD i default).2.2), Stars (mr.map rowR), Blk b10 31 [.slice A2 (mr.length + 1) c2], Vec 25 1 A2 (mr.length + 1) c2 (mr.map rowV ++ [rowV (A', c', (v.getD i default).2.2)]), MapR strV Value.bool bm sl, Vec 31 1 As ms.length cs (ms.map vrowV), Stars (ms.map vrowR), Blk bv 31 [.slice B v.length cv], F]) (by unfold rowR rowV; (exact Ent.auto)) (Ent.bundle.trans ?_)
        rw [List.length_append, List.map_append, List.map_append]
        exact (by (exact Ent.auto))
    · obtain rfl : i = v.length := by omega
      have hmr : lsts mr = margV (lsts v) (n + 1) := by rw [hmr, List.take_of_length_le (by rw [margV_len, lsts_len]; exact Nat.le_refl _)]
      have hmsml : ∀ x ∈ lsts mr, Small x := by rw [hmr]; exact margV_small hsm _
      have hmrow : ∀ r ∈ mr, r.2.2.length ≤ 1000 ∧ ∀ z ∈ r.2.2, -9 ≤ z ∧ z ≤ 9 := fun r hr => by
        refine ⟨?_, hmsml _ (List.mem_map.2 ⟨r, hr, rfl⟩)⟩
        obtain ⟨k, hk, he⟩ := List.mem_iff_getElem.1 hr
        have h1 : (lsts mr).getD k [] = r.2.2 := by rw [lsts_at mr hk, List.getD_eq_getElem?_getD, List.getElem?_eq_getElem hk, he]; rfl
        have hkv : k < v.length := by omega
        rw [hmr, margV_at _ _ (by rw [lsts_len]; exact hkv), lsts_at v hkv] at h1
        have h2 := (hrow _ (row_mem hkv)).1
        rw [← h1]
        unfold margL
        split
        · rw [oneL_len]; exact h2
        · exact h2
      refine Nx.ent (R' := [ViewR Am cm mr, Blk b10 31 [.slice Am mr.length cm], MapR strV Value.bool bm sl, Vec 31 1 As ms.length cs (ms.map vrowV), Stars (ms.map vrowR), Blk bv 31 [.slice B v.length cv], F]) ((Ent.trans (R' := [Vec 25 1 Am mr.length cm (mr.map rowV), Stars (mr.map rowR), Blk b10 31 [.slice Am mr.length cm], MapR strV Value.bool bm sl, Vec 31 1 As ms.length cs (ms.map vrowV), Stars (ms.map vrowR), Blk bv 31 [.slice B v.length cv], F]) (by (exact Ent.auto)) Ent.pack2)) ?_
      have htx : viewT mr = textL (margV (lsts v) (n + 1)) := by rw [viewT_lsts, hmr]
      repeat' first
        | ((with_reducible refine Nx.is_wp ?_); first | refine Nx.wo ?_ | refine Nx.zp (fun hc => ?_) (fun hc => ?_))
        | (refine Nx.zo ?_; first | refine Nx.opr rfl rfl ?_ | (refine Nx.call_lendR 0 rfl rfl rfl (by kernel_rfl) rfl rfl (fun m I' hI hm h => text_spec Am cm mr I' (ViewR.rows hm h) (by omega) hmrow) ?_; rintro _ R' ⟨rfl, rfl⟩) | refine Nx.mapGet 2 strV Value.bool (z := false) (ok := false) rfl rfl KE rfl rfl rfl rfl rfl ?_ | refine Nx.so ?_ | refine Nx.sb (fun bx => ?_) | refine Nx.sa (fun A2 c2 => ?_))
        | refine Nx.za ?_ | refine Nx.zr (fun hc => ?_) (fun hc => ?_)
        | refine Nx.zq ?_ | refine Nx.zu (fun hc => ?_) (fun hc => ?_)
        | refine Nx.zx ?_ | fail
      · have hno : (mget sl (textL (margV (lsts v) (n + 1)))).getD false = false := by rw [← htx]; simpa using hc
        obtain ⟨hme, hsl'⟩ := hsl.new hsm hno
        rw [← htx] at hsl'
        refine Nx.at_op rfl rfl ?_
        refine Nx.mapSet 2 strV Value.bool (k := viewT mr) (v := true) (.inr rfl) rfl rfl rfl KE rfl rfl ?_
        repeat' first
          | ((with_reducible refine Nx.is_wp ?_); first | refine Nx.wo ?_ | refine Nx.zp (fun hc => ?_) (fun hc => ?_))
          | (refine Nx.zo ?_; first | refine Nx.opr rfl rfl ?_ | refine Nx.so ?_ | refine Nx.sb (fun bx => ?_) | refine Nx.sa (fun A2 c2 => ?_))
          | refine Nx.za ?_ | refine Nx.zr (fun hc => ?_) (fun hc => ?_)
          | refine Nx.zq ?_ | refine Nx.zu (fun hc => ?_) (fun hc => ?_)
          | refine Nx.zx ?_ | fail
        refine Nx.again (n + 1, A2, c2, ms ++ [(Am, cm, mr)], mset sl (viewT mr) true) ⟨hlt, by dsimp only; rw [List.map_append, hms, hme, ← hmr]; rfl, hsl'⟩ (by dsimp only; omega) ⟨rfl, rfl, by dsimp only; rw [List.length_append]; rfl, rfl, trivial⟩ ?_
        dsimp only
        refine Ent.trans (R' := [ViewR Am cm mr, Stars (ms.map vrowR), MapR strV Value.bool bm (mset sl (viewT mr) true), Vec 31 1 A2 (ms.length + 1) c2 (ms.map vrowV ++ [.slice Am mr.length cm]), Blk bv 31 [.slice B v.length cv], F]) (by (exact Ent.auto)) (Ent.bundle.trans ?_)
        rw [List.length_append, List.map_append, List.map_append]
        exact (by (exact Ent.auto))
      · have hno : (mget sl (textL (margV (lsts v) (n + 1)))).getD false = true := by rw [← htx]; simpa using hc
        obtain ⟨hme, hsl'⟩ := hsl.old hsm hno
        refine Nx.again (n + 1, As, cs, ms, sl) ⟨hlt, by dsimp only; rw [hms, hme], hsl'⟩ (by dsimp only; omega) ⟨rfl, rfl, rfl, rfl, trivial⟩ (by (exact Ent.auto))
  · obtain rfl : P = n + 1 := by omega
    repeat' first
      | ((with_reducible refine Nx.is_wp ?_); first | refine Nx.wo ?_ | refine Nx.zp (fun hc => ?_) (fun hc => ?_))
      | (refine Nx.zo ?_; first | refine Nx.opr rfl rfl ?_ | refine Nx.bin rfl rfl (run_shlP (by omega) hPe) rfl ?_ | refine Nx.so ?_ | refine Nx.sb (fun bx => ?_) | refine Nx.sa (fun A2 c2 => ?_))
      | refine Nx.za ?_ | refine Nx.zr (fun hc => ?_) (fun hc => ?_)
      | refine Nx.zq ?_ | refine Nx.zu (fun hc => ?_) (fun hc => ?_)
      | refine Nx.zx ?_ | fail
    exact Nx.ret_fn rfl [_, _] ⟨As, cs, ms, rfl, by rw [← hvl, ← hPe]; exact hms, rfl⟩ (by (exact Ent.auto))
end Go.Proofs.YtpmlehplbobjmaaDoor
/- Contracts of functions of the given program, and lemmas about plain lists and numbers: what the laws of this seat lean on. -/
namespace Go.Proofs.YtpmlehplbobjmaaDoor
open Go.Eng
attribute [local irreducible] opK wpList Code.wp Exit.then Exit.inBlock fnPost bodyPost Nx Calls Oper.wp Rd Rds Wr Ent Stars Blk Again Vec FnSpec wpMix QRun Stop Upto wpAt
theorem vrow_at {ms : List VRow} {m I' : PH} (hm : PH.le m I') (h : Stars (ms.map vrowR) m) {k : Nat} (hk : k < ms.length) : RowsOf I' (ms.getD k default).1 (ms.getD k default).2.1 (ms.getD k default).2.2 := by
  obtain ⟨m3, h3le, h3⟩ := Stars.get k (r := vrowR (ms.getD k default)) h (by rw [nthL_eq, List.getElem?_map, List.getD_eq_getElem?_getD, List.getElem?_eq_getElem hk]; rfl)
  exact ViewR.rows (h3le.trans hm) h3
theorem SliceOf.rds1 {α : Type} [Inhabited α] {f : α → Value} {W : World} {I : PH} {R : List Res} {A : Option Addr} {c : Nat} {l : List α} (h : SliceOf f I A c l) {k : Nat} (hk : k < l.length) : Rds W I R ((ad A).add (k * 1)) [f (l.getD k default)] := by
  refine Arr.rds h.arr (n := 1) ?_
  rw [Nat.mul_one, List.drop_eq_getElem_cons (by rw [List.length_map]; exact hk), List.getElem_map, List.getD_eq_getElem?_getD, List.getElem?_eq_getElem hk]
  simp
end Go.Proofs.YtpmlehplbobjmaaDoor
/- Contracts of functions of the given program, and lemmas about plain lists and numbers: what the laws of this seat lean on. -/
namespace Go.Proofs.YtpmlehplbobjmaaDoor
open Go.Eng
attribute [local irreducible] opK wpList Code.wp Exit.then Exit.inBlock fnPost bodyPost Nx Calls Oper.wp Rd Rds Wr Ent Stars Blk Again Vec FnSpec wpMix QRun Stop Upto wpAt
/-! Any spaces, views, places and numbers: At, Index, Finer, Margins -/
def atA (l : List Int) (n : Int) : List Int × Int := if sizesB l = true then (if 0 ≤ n ∧ n < prod l then (pl l n, 0) else ([], 2)) else ([], 55)
set_option maxHeartbeats 2000000 in
set_option maxRecDepth 10000 in
theorem AtA_spec (A : Option Addr) (c : Nat) (l : List Int) (n : Int) (I : PH) (hl : Ints I A c l) :
    FnSpec Tryd.prog 18 [.agg #[.slice A l.length c], .int .i64 n] I [] (fun u R' => ∃ A' c', u = .tuple #[.slice A' (atA l n).1.length c', .int .i64 (atA l n).2] ∧ R' = [isR A' c' (atA l n).1]) := by
  unfold atA
  by_cases hs : Sizes l
  case neg =>
    rw [if_neg fun h => hs (sizes_iff.1 h)]
    have hC := CheckA_spec A c l I hl
    rw [szE_no hs] at hC
    refine FnSpec.enterP Tryd.func18 rfl Tryd.ntmps18 rfl fun w F => ?_
    repeat' first
      | ((with_reducible refine Nx.is_wp ?_); first | refine Nx.wo ?_ | refine Nx.zp (fun hc => ?_) (fun hc => ?_))
      | (refine Nx.zo ?_; first | refine Nx.opr rfl rfl ?_ | refine Nx.callv rfl rfl rfl (by kernel_rfl) rfl hC ?_ | refine Nx.so ?_ | refine Nx.sb (fun bx => ?_) | refine Nx.sa (fun A2 c2 => ?_))
      | refine Nx.za ?_ | refine Nx.zr (fun hc => ?_) (fun hc => ?_)
      | refine Nx.zq ?_ | refine Nx.zu (fun hc => ?_) (fun hc => ?_)
      | refine Nx.zx ?_ | fail
    exact Nx.ret_fn rfl [_] ⟨none, 0, rfl, rfl⟩ ((Ent.vec_nil _ _ _).trans (by (exact Ent.auto)))
  rw [if_pos (sizes_iff.2 hs)]
  by_cases hn : 0 ≤ n ∧ n < prod l
  · rw [if_pos hn]
    refine FnSpec.mono (At_spec A c l n I hl hs hn) fun u R' h => ?_
    obtain ⟨b, xs, h1, h2, h3, _, h5⟩ := h
    obtain rfl := pl_of hs h2 h3
    exact ⟨some ⟨b, 0, none⟩, (pl l n).length, h1, h5⟩
  rw [if_neg hn]
  have hC := CheckA_spec A c l I hl
  rw [szE_ok hs] at hC
  have hP := product_spec A c l I hl hs
  generalize prod l = P at hn hP
  refine FnSpec.enterP Tryd.func18 rfl Tryd.ntmps18 rfl fun w F => ?_
  by_cases hn0 : n < 0
  · repeat' first
      | ((with_reducible refine Nx.is_wp ?_); first | refine Nx.wo ?_ | refine Nx.zp (fun hc => ?_) (fun hc => ?_))
      | (refine Nx.zo ?_; first | refine Nx.opr rfl rfl ?_ | refine Nx.callv rfl rfl rfl (by kernel_rfl) rfl hC ?_ | refine Nx.so ?_ | refine Nx.sb (fun bx => ?_) | refine Nx.sa (fun A2 c2 => ?_))
      | refine Nx.za ?_ | refine Nx.zr (fun hc => ?_) (fun hc => ?_)
      | refine Nx.zq ?_ | refine Nx.zu (fun hc => ?_) (fun hc => ?_)
      | refine Nx.zx ?_ | fail
    exact Nx.ret_fn rfl [_] ⟨none, 0, rfl, rfl⟩ ((Ent.vec_nil _ _ _).trans (by (exact Ent.auto)))
  have hn1 : P ≤ n := by omega
  repeat' first
    | ((with_reducible refine Nx.is_wp ?_); first | refine Nx.wo ?_ | refine Nx.zp (fun hc => ?_) (fun hc => ?_))
    | (refine Nx.zo ?_; first | refine Nx.opr rfl rfl ?_ | refine Nx.callv rfl rfl rfl (by kernel_rfl) rfl hC ?_ | refine Nx.callv rfl rfl rfl (by kernel_rfl) rfl hP ?_ | refine Nx.so ?_ | refine Nx.sb (fun bx => ?_) | refine Nx.sa (fun A2 c2 => ?_))
    | refine Nx.za ?_ | refine Nx.zr (fun hc => ?_) (fun hc => ?_)
    | refine Nx.zq ?_ | refine Nx.zu (fun hc => ?_) (fun hc => ?_)
    | refine Nx.zx ?_ | fail
  exact Nx.ret_fn rfl [_] ⟨none, 0, rfl, rfl⟩ ((Ent.vec_nil _ _ _).trans (by (exact Ent.auto)))
set_option maxHeartbeats 2000000 in
set_option maxRecDepth 10000 in
theorem RAtA_spec (A : Option Addr) (c : Nat) (l : List Int) (n : Int) (I : PH) (hl : Ints I A c l) :
    FnSpec Tryd.prog 19 [.agg #[.slice A l.length c], .int .i64 n] I [] (fun u R' => ∃ A' c', u = .tuple #[.slice A' (atA l n).1.length c', .int .i64 (atA l n).2] ∧ R' = [isR A' c' (atA l n).1]) := by
  unfold atA
  by_cases hs : Sizes l
  case neg =>
    rw [if_neg fun h => hs (sizes_iff.1 h)]
    have hC := RCheckA_spec A c l I hl
    rw [szE_no hs] at hC
    refine FnSpec.enterP Tryd.func19 rfl Tryd.ntmps19 rfl fun w F => ?_
    repeat' first
      | ((with_reducible refine Nx.is_wp ?_); first | refine Nx.wo ?_ | refine Nx.zp (fun hc => ?_) (fun hc => ?_))
      | (refine Nx.zo ?_; first | refine Nx.opr rfl rfl ?_ | refine Nx.callv rfl rfl rfl (by kernel_rfl) rfl hC ?_ | refine Nx.so ?_ | refine Nx.sb (fun bx => ?_) | refine Nx.sa (fun A2 c2 => ?_))
      | refine Nx.za ?_ | refine Nx.zr (fun hc => ?_) (fun hc => ?_)
      | refine Nx.zq ?_ | refine Nx.zu (fun hc => ?_) (fun hc => ?_)
      | refine Nx.zx ?_ | fail
    exact Nx.ret_fn rfl [_] ⟨none, 0, rfl, rfl⟩ ((Ent.vec_nil _ _ _).trans (by (exact Ent.auto)))
  rw [if_pos (sizes_iff.2 hs)]
  by_cases hn : 0 ≤ n ∧ n < prod l
  · rw [if_pos hn]
    refine FnSpec.mono (RAt_spec A c l n I hl hs hn) fun u R' h => ?_
    obtain ⟨b, xs, h1, h2, h3, h5⟩ := h
    obtain rfl := pl_of hs h2 h3
    exact ⟨some ⟨b, 0, none⟩, (pl l n).length, h1, h5⟩
  rw [if_neg hn]
  have hC := RCheckA_spec A c l I hl
  rw [szE_ok hs] at hC
  have hP := RCount_spec A c l I hl hs
  generalize prod l = P at hn hP
  refine FnSpec.enterP Tryd.func19 rfl Tryd.ntmps19 rfl fun w F => ?_
  by_cases hn0 : n < 0
  · repeat' first
      | ((with_reducible refine Nx.is_wp ?_); first | refine Nx.wo ?_ | refine Nx.zp (fun hc => ?_) (fun hc => ?_))
      | (refine Nx.zo ?_; first | refine Nx.opr rfl rfl ?_ | refine Nx.callv rfl rfl rfl (by kernel_rfl) rfl hC ?_ | refine Nx.so ?_ | refine Nx.sb (fun bx => ?_) | refine Nx.sa (fun A2 c2 => ?_))
      | refine Nx.za ?_ | refine Nx.zr (fun hc => ?_) (fun hc => ?_)
      | refine Nx.zq ?_ | refine Nx.zu (fun hc => ?_) (fun hc => ?_)
      | refine Nx.zx ?_ | fail
    exact Nx.ret_fn rfl [_] ⟨none, 0, rfl, rfl⟩ ((Ent.vec_nil _ _ _).trans (by (exact Ent.auto)))
  have hn1 : P ≤ n := by omega
  repeat' first
    | ((with_reducible refine Nx.is_wp ?_); first | refine Nx.wo ?_ | refine Nx.zp (fun hc => ?_) (fun hc => ?_))
    | (refine Nx.zo ?_; first | refine Nx.opr rfl rfl ?_ | refine Nx.callv rfl rfl rfl (by kernel_rfl) rfl hC ?_ | refine Nx.callv rfl rfl rfl (by kernel_rfl) rfl hP ?_ | refine Nx.so ?_ | refine Nx.sb (fun bx => ?_) | refine Nx.sa (fun A2 c2 => ?_))
    | refine Nx.za ?_ | refine Nx.zr (fun hc => ?_) (fun hc => ?_)
    | refine Nx.zq ?_ | refine Nx.zu (fun hc => ?_) (fun hc => ?_)
    | refine Nx.zx ?_ | fail
  exact Nx.ret_fn rfl [_] ⟨none, 0, rfl, rfl⟩ ((Ent.vec_nil _ _ _).trans (by (exact Ent.auto)))
def inB (l xs : List Int) : Bool := (List.range l.length).all fun k => decide (0 ≤ xs.getD k default ∧ xs.getD k default < l.getD k default)
theorem inB_iff {l xs : List Int} (h : xs.length = l.length) : inB l xs = true ↔ InR l xs := by
  unfold inB
  rw [List.all_eq_true]
  exact ⟨fun h1 => ⟨h, fun k hk => of_decide_eq_true (h1 k (List.mem_range.2 hk))⟩, fun h1 k hk => decide_eq_true (h1.each k (List.mem_range.1 hk))⟩
def idxA (l xs : List Int) : Int × Int := if sizesB l = true then (if xs.length = l.length then (if inB l xs = true then (numK l xs l.length, 0) else (0, 2)) else (0, 17)) else (0, 55)
set_option maxHeartbeats 2000000 in
set_option maxRecDepth 10000 in
theorem IndexA_spec (A B : Option Addr) (c c2 : Nat) (l xs : List Int) (I : PH) (hl : Ints I A c l) (hx : Ints I B c2 xs) :
    FnSpec Tryd.prog 16 [.agg #[.slice A l.length c], .slice B xs.length c2] I [] (fun v R' => v = .tuple #[.int .i64 (idxA l xs).1, .int .i64 (idxA l xs).2] ∧ R' = []) := by
  have hlen := hl.len
  have hxlen := hx.len
  unfold idxA
  by_cases hs : Sizes l
  case neg =>
    rw [if_neg fun h => hs (sizes_iff.1 h)]
    have hC := CheckA_spec A c l I hl
    rw [szE_no hs] at hC
    refine FnSpec.enterP Tryd.func16 rfl Tryd.ntmps16 rfl fun w F => ?_
    repeat' first
      | ((with_reducible refine Nx.is_wp ?_); first | refine Nx.wo ?_ | refine Nx.zp (fun hc => ?_) (fun hc => ?_))
      | (refine Nx.zo ?_; first | refine Nx.opr rfl rfl ?_ | refine Nx.callv rfl rfl rfl (by kernel_rfl) rfl hC ?_ | refine Nx.so ?_ | refine Nx.sb (fun bx => ?_) | refine Nx.sa (fun A2 c2 => ?_))
      | refine Nx.za ?_ | refine Nx.zr (fun hc => ?_) (fun hc => ?_)
      | refine Nx.zq ?_ | refine Nx.zu (fun hc => ?_) (fun hc => ?_)
      | refine Nx.zx ?_ | fail
    exact Nx.ret_fn rfl [] ⟨rfl, rfl⟩ (by (exact Ent.auto))
  rw [if_pos (sizes_iff.2 hs)]
  by_cases hxl : xs.length = l.length
  case neg =>
    rw [if_neg hxl]
    have hC := CheckA_spec A c l I hl
    rw [szE_ok hs] at hC
    have hne : ¬ (xs.length : Int) = l.length := by omega
    refine FnSpec.enterP Tryd.func16 rfl Tryd.ntmps16 rfl fun w F => ?_
    repeat' first
      | ((with_reducible refine Nx.is_wp ?_); first | refine Nx.wo ?_ | refine Nx.zp (fun hc => ?_) (fun hc => ?_))
      | (refine Nx.zo ?_; first | refine Nx.opr rfl rfl ?_ | refine Nx.callv rfl rfl rfl (by kernel_rfl) rfl hC ?_ | refine Nx.so ?_ | refine Nx.sb (fun bx => ?_) | refine Nx.sa (fun A2 c2 => ?_))
      | refine Nx.za ?_ | refine Nx.zr (fun hc => ?_) (fun hc => ?_)
      | refine Nx.zq ?_ | refine Nx.zu (fun hc => ?_) (fun hc => ?_)
      | refine Nx.zx ?_ | fail
    exact Nx.ret_fn rfl [] ⟨rfl, rfl⟩ (by (exact Ent.auto))
  rw [if_pos hxl]
  by_cases hr : inB l xs = true
  · rw [if_pos hr]; exact Index_spec A B c c2 l xs I hl hx hs ((inB_iff hxl).1 hr)
  rw [if_neg hr]
  have hC := CheckA_spec A c l I hl
  rw [szE_ok hs] at hC
  refine FnSpec.enterP Tryd.func16 rfl Tryd.ntmps16 rfl fun w F => ?_
  repeat' first
    | ((with_reducible refine Nx.is_wp ?_); first | refine Nx.wo ?_ | refine Nx.zp (fun hc => ?_) (fun hc => ?_))
    | (refine Nx.zo ?_; first | refine Nx.opr rfl rfl ?_ | refine Nx.callv rfl rfl rfl (by kernel_rfl) rfl hC ?_ | refine Nx.so ?_ | refine Nx.sb (fun bx => ?_) | refine Nx.sa (fun A2 c2 => ?_))
    | refine Nx.za ?_ | refine Nx.zr (fun hc => ?_) (fun hc => ?_)
    | refine Nx.zq ?_ | refine Nx.zu (fun hc => ?_) (fun hc => ?_)
    | refine Nx.zx ?_ | fail
  refine Nx.p_loop (σ := Nat) (fun k => [(1, .slice B xs.length c2), (2, .pointer (some ⟨bx, 0, none⟩)), (20, .slice B xs.length c2), (21, .int .i64 xs.length), (22, .int .i64 (k : Int))])
    (fun _ => [Blk bx 27 [.slice A l.length c], F]) (fun k => k ≤ xs.length ∧ ∀ j, j < k → 0 ≤ xs.getD j default ∧ xs.getD j default < l.getD j default) (fun k => xs.length - k) 0 rfl ⟨Nat.zero_le _, fun j hj => absurd hj (Nat.not_lt_zero _)⟩ ⟨rfl, rfl, rfl, rfl, rfl, trivial⟩ (by (exact Ent.auto)) ?_
  rintro k ⟨hk, hup⟩
  by_cases hlt : k < xs.length
  case neg => exact absurd ((inB_iff hxl).2 ⟨hxl, fun j hj => hup j (by omega)⟩) hr
  have hxr : ∀ (W : World) (R : List Res), Rd W I R ((ad B).add (k * 1)) (.int .i64 (xs.getD k default)) := fun W R => hx.rd hlt
  have hlr : ∀ (W : World) (R : List Res), Rd W I R ((ad A).add (k * 1)) (.int .i64 (l.getD k default)) := fun W R => hl.rd (by omega)
  have hBs := hx.isSome (by omega)
  have hAs := hl.isSome (by omega)
  have hup2 : (0 ≤ xs.getD k default ∧ xs.getD k default < l.getD k default) → ∀ j, j < k + 1 → 0 ≤ xs.getD j default ∧ xs.getD j default < l.getD j default := fun h j hj => by
    rcases Nat.lt_or_ge j k with hj2 | hj2
    · exact hup j hj2
    · obtain rfl : j = k := by omega
      exact h
  generalize xs.getD k default = x at hxr hup2
  generalize l.getD k default = y at hlr hup2
  by_cases hx0 : x < 0
  · repeat' first
      | ((with_reducible refine Nx.is_wp ?_); first | refine Nx.wo ?_ | refine Nx.zp (fun hc => ?_) (fun hc => ?_))
      | (refine Nx.zo ?_; first | refine Nx.opr rfl rfl ?_ | refine Nx.indexAddr_nat (A := B) (i := k) (sz := 1) rfl rfl rfl rfl rfl hlt hBs ?_ | refine Nx.load rfl rfl rfl (hxr _ _) ?_ | refine Nx.so ?_ | refine Nx.sb (fun bx => ?_) | refine Nx.sa (fun A2 c2 => ?_))
      | refine Nx.za ?_ | refine Nx.zr (fun hc => ?_) (fun hc => ?_)
      | refine Nx.zq ?_ | refine Nx.zu (fun hc => ?_) (fun hc => ?_)
      | refine Nx.zx ?_ | fail
    exact Nx.ret_fn rfl [] ⟨rfl, rfl⟩ (by (exact Ent.auto))
  by_cases hxy : y ≤ x
  · repeat' first
      | ((with_reducible refine Nx.is_wp ?_); first | refine Nx.wo ?_ | refine Nx.zp (fun hc => ?_) (fun hc => ?_))
      | (refine Nx.zo ?_; first | refine Nx.opr rfl rfl ?_ | refine Nx.indexAddr_nat (A := B) (i := k) (sz := 1) rfl rfl rfl rfl rfl hlt hBs ?_ | refine Nx.load rfl rfl rfl (hxr _ _) ?_ | refine Nx.indexAddr_nat (A := A) (i := k) (sz := 1) rfl rfl rfl rfl rfl (by omega) hAs ?_ | refine Nx.load rfl rfl rfl (hlr _ _) ?_ | refine Nx.so ?_ | refine Nx.sb (fun bx => ?_) | refine Nx.sa (fun A2 c2 => ?_))
      | refine Nx.za ?_ | refine Nx.zr (fun hc => ?_) (fun hc => ?_)
      | refine Nx.zq ?_ | refine Nx.zu (fun hc => ?_) (fun hc => ?_)
      | refine Nx.zx ?_ | fail
    exact Nx.ret_fn rfl [] ⟨rfl, rfl⟩ (by (exact Ent.auto))
  repeat' first
    | ((with_reducible refine Nx.is_wp ?_); first | refine Nx.wo ?_ | refine Nx.zp (fun hc => ?_) (fun hc => ?_))
    | (refine Nx.zo ?_; first | refine Nx.opr rfl rfl ?_ | refine Nx.indexAddr_nat (A := B) (i := k) (sz := 1) rfl rfl rfl rfl rfl hlt hBs ?_ | refine Nx.load rfl rfl rfl (hxr _ _) ?_ | refine Nx.indexAddr_nat (A := A) (i := k) (sz := 1) rfl rfl rfl rfl rfl (by omega) hAs ?_ | refine Nx.load rfl rfl rfl (hlr _ _) ?_ | refine Nx.so ?_ | refine Nx.sb (fun bx => ?_) | refine Nx.sa (fun A2 c2 => ?_))
    | refine Nx.za ?_ | refine Nx.zr (fun hc => ?_) (fun hc => ?_)
    | refine Nx.zq ?_ | refine Nx.zu (fun hc => ?_) (fun hc => ?_)
    | refine Nx.zx ?_ | fail
  exact Nx.again (k + 1) ⟨hlt, hup2 ⟨by omega, by omega⟩⟩ (by omega) ⟨rfl, rfl, rfl, rfl, rfl, trivial⟩ (by (exact Ent.auto))
def finA (l : List Int) (u v : List Row) : Bool := viewB l u && (viewB l v && decide (FinerP l u v))
theorem viewB_no {l : List Int} {v : List Row} (h : ¬ (Sizes l ∧ Viewed l v)) : viewB l v = false := Bool.eq_false_iff.2 fun h2 => h (view_iff.1 h2)
set_option maxHeartbeats 2000000 in
set_option maxRecDepth 10000 in
theorem FinerA_spec (A B D : Option Addr) (c cu cv : Nat) (l : List Int) (u v : List Row) (I : PH) (hl : Ints I A c l) (hu : RowsOf I B cu u) (hv : RowsOf I D cv v) :
    FnSpec Tryd.prog 14 [.agg #[.slice A l.length c], .agg #[.slice B u.length cu], .agg #[.slice D v.length cv]] I [] (fun r R' => r = .bool (finA l u v) ∧ R' = []) := by
  have h1 := ViewA_spec A B c cu l u I hl hu
  have h2 := ViewA_spec A D c cv l v I hl hv
  unfold finA
  by_cases hwu : Sizes l ∧ Viewed l u
  case neg =>
    rw [viewB_no hwu, Bool.false_and]
    rw [viE_no hwu] at h1
    refine FnSpec.enterP Tryd.func14 rfl Tryd.ntmps14 rfl fun w F => ?_
    repeat' first
      | ((with_reducible refine Nx.is_wp ?_); first | refine Nx.wo ?_ | refine Nx.zp (fun hc => ?_) (fun hc => ?_))
      | (refine Nx.zo ?_; first | refine Nx.opr rfl rfl ?_ | refine Nx.callv rfl rfl rfl (by kernel_rfl) rfl h1 ?_ | refine Nx.so ?_ | refine Nx.sb (fun bx => ?_) | refine Nx.sa (fun A2 c2 => ?_))
      | refine Nx.za ?_ | refine Nx.zr (fun hc => ?_) (fun hc => ?_)
      | refine Nx.zq ?_ | refine Nx.zu (fun hc => ?_) (fun hc => ?_)
      | refine Nx.zx ?_ | fail
    exact Nx.ret_fn rfl [] ⟨rfl, rfl⟩ (by (exact Ent.auto))
  rw [view_iff.2 hwu, Bool.true_and]
  rw [viE_ok hwu.1 hwu.2] at h1
  by_cases hwv : Sizes l ∧ Viewed l v
  case neg =>
    rw [viewB_no hwv, Bool.false_and]
    rw [viE_no hwv] at h2
    refine FnSpec.enterP Tryd.func14 rfl Tryd.ntmps14 rfl fun w F => ?_
    repeat' first
      | ((with_reducible refine Nx.is_wp ?_); first | refine Nx.wo ?_ | refine Nx.zp (fun hc => ?_) (fun hc => ?_))
      | (refine Nx.zo ?_; first | refine Nx.opr rfl rfl ?_ | refine Nx.callv rfl rfl rfl (by kernel_rfl) rfl h1 ?_ | refine Nx.callv rfl rfl rfl (by kernel_rfl) rfl h2 ?_ | refine Nx.so ?_ | refine Nx.sb (fun bx => ?_) | refine Nx.sa (fun A2 c2 => ?_))
      | refine Nx.za ?_ | refine Nx.zr (fun hc => ?_) (fun hc => ?_)
      | refine Nx.zq ?_ | refine Nx.zu (fun hc => ?_) (fun hc => ?_)
      | refine Nx.zx ?_ | fail
    exact Nx.ret_fn rfl [] ⟨rfl, rfl⟩ (by (exact Ent.auto))
  rw [view_iff.2 hwv, Bool.true_and]
  exact Finer_spec A B D c cu cv l u v I hl hwu.1 hu hv hwu.2 hwv.2
abbrev vsR (A : Option Addr) (c : Nat) (ms : List VRow) : List Res := [Vec 31 1 A ms.length c (ms.map vrowV), Stars (ms.map vrowR)]
def marA (l : List Int) (v : List Row) : List (List (List Int)) × Int := if viewB l v = true then (margs (lsts v) (2 ^ l.length - 1), 0) else ([], 55)
set_option maxHeartbeats 2000000 in
set_option maxRecDepth 10000 in
theorem MarginsA_spec (A B : Option Addr) (c cv : Nat) (l : List Int) (v : List Row) (I : PH) (hl : Ints I A c l) (hv : RowsOf I B cv v) :
    FnSpec Tryd.prog 11 [.agg #[.slice A l.length c], .agg #[.slice B v.length cv]] I []
      (fun u R' => ∃ (A' : Option Addr) (c' : Nat) (ms : List VRow), u = .tuple #[.slice A' ms.length c', .int .i64 (marA l v).2] ∧ ms.map (fun m : VRow => lsts m.2.2) = (marA l v).1 ∧ R' = vsR A' c' ms) := by
  unfold marA
  by_cases hs : Sizes l ∧ Viewed l v
  · rw [if_pos (view_iff.2 hs)]; exact Margins_spec A B c cv l v I hl hs.1 hv hs.2
  rw [if_neg fun h => hs (view_iff.1 h)]
  have hC := ViewA_spec A B c cv l v I hl hv
  rw [viE_no hs] at hC
  refine FnSpec.enterP Tryd.func11 rfl Tryd.ntmps11 rfl fun w F => ?_
  repeat' first
    | ((with_reducible refine Nx.is_wp ?_); first | refine Nx.wo ?_ | refine Nx.zp (fun hc => ?_) (fun hc => ?_))
    | (refine Nx.zo ?_; first | refine Nx.opr rfl rfl ?_ | refine Nx.callv rfl rfl rfl (by kernel_rfl) rfl hC ?_ | refine Nx.so ?_ | refine Nx.sb (fun bx => ?_) | refine Nx.sa (fun A2 c2 => ?_))
    | refine Nx.za ?_ | refine Nx.zr (fun hc => ?_) (fun hc => ?_)
    | refine Nx.zq ?_ | refine Nx.zu (fun hc => ?_) (fun hc => ?_)
    | refine Nx.zx ?_ | fail
  exact Nx.ret_fn rfl [_, _] ⟨none, 0, [], rfl, rfl, rfl⟩ (((Ent.vec_nil _ _ _).trans (Ent.stars_nil _)).trans (by (exact Ent.auto)))
end Go.Proofs.YtpmlehplbobjmaaDoor
/- Contracts of functions of the given program, and lemmas about plain lists and numbers: what the laws of this seat lean on. -/
namespace Go.Proofs.YtpmlehplbobjmaaDoor
open Go.Eng
attribute [local irreducible] opK wpList Code.wp Exit.then Exit.inBlock fnPost bodyPost Nx Calls Oper.wp Rd Rds Wr Ent Stars Blk Again Vec FnSpec wpMix QRun Stop Upto wpAt
/-! The reference: Index, Finer, Same for anything -/
set_option maxHeartbeats 2000000 in
set_option maxRecDepth 10000 in
theorem RIndexA_spec (A B : Option Addr) (c c2 : Nat) (l xs : List Int) (I : PH) (hl : Ints I A c l) (hx : Ints I B c2 xs) :
    FnSpec Tryd.prog 17 [.agg #[.slice A l.length c], .slice B xs.length c2] I [] (fun v R' => v = .tuple #[.int .i64 (idxA l xs).1, .int .i64 (idxA l xs).2] ∧ R' = []) := by
  have hlen := hl.len
  have hxlen := hx.len
  have hC := RCheckA_spec A c l I hl
  unfold idxA
  by_cases hs : Sizes l
  case neg =>
    rw [if_neg fun h => hs (sizes_iff.1 h)]
    rw [szE_no hs] at hC
    refine FnSpec.enterP Tryd.func17 rfl Tryd.ntmps17 rfl fun w F => ?_
    repeat' first
      | ((with_reducible refine Nx.is_wp ?_); first | refine Nx.wo ?_ | refine Nx.zp (fun hc => ?_) (fun hc => ?_))
      | (refine Nx.zo ?_; first | refine Nx.opr rfl rfl ?_ | refine Nx.callv rfl rfl rfl (by kernel_rfl) rfl hC ?_ | refine Nx.so ?_ | refine Nx.sb (fun bx => ?_) | refine Nx.sa (fun A2 c2 => ?_))
      | refine Nx.za ?_ | refine Nx.zr (fun hc => ?_) (fun hc => ?_)
      | refine Nx.zq ?_ | refine Nx.zu (fun hc => ?_) (fun hc => ?_)
      | refine Nx.zx ?_ | fail
    exact Nx.ret_fn rfl [] ⟨rfl, rfl⟩ (by (exact Ent.auto))
  rw [if_pos (sizes_iff.2 hs)]
  rw [szE_ok hs] at hC
  by_cases hxl : xs.length = l.length
  case neg =>
    rw [if_neg hxl]
    have hne : ¬ (xs.length : Int) = l.length := by omega
    refine FnSpec.enterP Tryd.func17 rfl Tryd.ntmps17 rfl fun w F => ?_
    repeat' first
      | ((with_reducible refine Nx.is_wp ?_); first | refine Nx.wo ?_ | refine Nx.zp (fun hc => ?_) (fun hc => ?_))
      | (refine Nx.zo ?_; first | refine Nx.opr rfl rfl ?_ | refine Nx.callv rfl rfl rfl (by kernel_rfl) rfl hC ?_ | refine Nx.so ?_ | refine Nx.sb (fun bx => ?_) | refine Nx.sa (fun A2 c2 => ?_))
      | refine Nx.za ?_ | refine Nx.zr (fun hc => ?_) (fun hc => ?_)
      | refine Nx.zq ?_ | refine Nx.zu (fun hc => ?_) (fun hc => ?_)
      | refine Nx.zx ?_ | fail
    exact Nx.ret_fn rfl [] ⟨rfl, rfl⟩ (by (exact Ent.auto))
  rw [if_pos hxl]
  have hall : (∀ j, j < xs.length → 0 ≤ xs.getD j default ∧ xs.getD j default < l.getD j default) → inB l xs = true := fun h => (inB_iff hxl).2 ⟨hxl, fun j hj => h j (by omega)⟩
  have hbad : ∀ j, j < xs.length → ¬ (0 ≤ xs.getD j default ∧ xs.getD j default < l.getD j default) → inB l xs = false := fun j hj h => Bool.eq_false_iff.2 fun h2 => h (((inB_iff hxl).1 h2).each j (by omega))
  refine FnSpec.enterP Tryd.func17 rfl Tryd.ntmps17 rfl fun w F => ?_
  repeat' first
    | ((with_reducible refine Nx.is_wp ?_); first | refine Nx.wo ?_ | refine Nx.zp (fun hc => ?_) (fun hc => ?_))
    | (refine Nx.zo ?_; first | refine Nx.opr rfl rfl ?_ | refine Nx.callv rfl rfl rfl (by kernel_rfl) rfl hC ?_ | refine Nx.so ?_ | refine Nx.sb (fun bx => ?_) | refine Nx.sa (fun A2 c2 => ?_))
    | refine Nx.za ?_ | refine Nx.zr (fun hc => ?_) (fun hc => ?_)
    | refine Nx.zq ?_ | refine Nx.zu (fun hc => ?_) (fun hc => ?_)
    | refine Nx.zx ?_ | fail
  refine Nx.p_loop (σ := Nat) (fun k => [(1, .slice B xs.length c2), (2, .pointer (some ⟨bx, 0, none⟩)), (7, .int .i64 (numK l xs k)), (21, .int .i64 xs.length), (22, .int .i64 (k : Int))])
    (fun _ => [Blk bx 27 [.slice A l.length c], F]) (fun k => k ≤ xs.length ∧ ∀ j, j < k → 0 ≤ xs.getD j default ∧ xs.getD j default < l.getD j default) (fun k => xs.length - k) 0 rfl ⟨Nat.zero_le _, fun j hj => absurd hj (Nat.not_lt_zero _)⟩ ⟨rfl, rfl, rfl, rfl, rfl, trivial⟩ (by (exact Ent.auto)) ?_
  rintro k ⟨hk, hup⟩
  by_cases hlt : k < xs.length
  case neg =>
    obtain rfl : k = xs.length := by omega
    rw [if_pos (hall hup), ← hxl]
    repeat' first
      | ((with_reducible refine Nx.is_wp ?_); first | refine Nx.wo ?_ | refine Nx.zp (fun hc => ?_) (fun hc => ?_))
      | (refine Nx.zo ?_; first | refine Nx.opr rfl rfl ?_ | refine Nx.so ?_ | refine Nx.sb (fun bx => ?_) | refine Nx.sa (fun A2 c2 => ?_))
      | refine Nx.za ?_ | refine Nx.zr (fun hc => ?_) (fun hc => ?_)
      | refine Nx.zq ?_ | refine Nx.zu (fun hc => ?_) (fun hc => ?_)
      | refine Nx.zx ?_ | fail
    exact Nx.ret_fn rfl [] ⟨rfl, rfl⟩ (by (exact Ent.auto))
  have hxr : ∀ (W : World) (R : List Res), Rd W I R ((ad B).add (k * 1)) (.int .i64 (xs.getD k default)) := fun W R => hx.rd hlt
  have hlr : ∀ (W : World) (R : List Res), Rd W I R ((ad A).add (k * 1)) (.int .i64 (l.getD k default)) := fun W R => hl.rd (by omega)
  have hBs := hx.isSome (by omega)
  have hAs := hl.isSome (by omega)
  have hpre := numK_pre (s := l) (gs := xs) (i := k) hup (by omega)
  have hbd := hs.bound (k := k) (by omega)
  have hat := hs.at (k := k) (by omega)
  have hbadk := hbad k hlt
  have hsucc : numK l xs (k + 1) = numK l xs k * l.getD k default + xs.getD k default := rfl
  have hmul : 0 ≤ numK l xs k * l.getD k default ∧ numK l xs k * l.getD k default ≤ 4096 * 8 := ⟨Int.mul_nonneg hpre.1 (by omega), Int.mul_le_mul (by omega) (by omega) (by omega) (by omega)⟩
  have hup2 : (0 ≤ xs.getD k default ∧ xs.getD k default < l.getD k default) → ∀ j, j < k + 1 → 0 ≤ xs.getD j default ∧ xs.getD j default < l.getD j default := fun h j hj => by
    rcases Nat.lt_or_ge j k with hj2 | hj2
    · exact hup j hj2
    · obtain rfl : j = k := by omega
      exact h
  generalize xs.getD k default = x at hxr hup2 hbadk hsucc
  generalize l.getD k default = y at hlr hup2 hbadk hsucc hat hmul
  by_cases hx0 : x < 0
  · rw [if_neg (by rw [hbadk (by omega)]; decide)]
    repeat' first
      | ((with_reducible refine Nx.is_wp ?_); first | refine Nx.wo ?_ | refine Nx.p_draw (id := 10) rfl [0, 1, 2, 3, 4, 5, 6, 7, 8, 9, 10, 11, 12, 13, 14, 15, 16] [] _ rfl rfl (by kernel_rfl) (by kernel_rfl) rfl PanicOk.auto (Ent.refl _) ?_ | refine Nx.p_draw (id := 12) rfl [0, 1, 2, 3, 4, 5, 6, 7, 8, 9, 10, 11, 12] [] _ rfl rfl (by kernel_rfl) (by kernel_rfl) rfl PanicOk.auto (Ent.refl _) ?_ | refine Nx.zp (fun hc => ?_) (fun hc => ?_))
      | (refine Nx.zo ?_; first | refine Nx.opr rfl rfl ?_ | refine Nx.so ?_ | refine Nx.sb (fun bx => ?_) | refine Nx.sa (fun A2 c2 => ?_))
      | refine Nx.za ?_ | refine Nx.zr (fun hc => ?_) (fun hc => ?_)
      | ((with_reducible refine Nx.is_mix ?_); first | refine Nx.m_quiet rfl rfl rfl rfl rfl (by first | exact QRun.opr rfl | exact QRun.idx (A := B) (i := k) (sz := 1) rfl rfl rfl rfl hlt hBs | exact QRun.idx (A := A) (i := k) (sz := 1) rfl rfl rfl rfl (by omega) hAs | exact QRun.load rfl rfl (hxr _ _) | exact QRun.load rfl rfl (hlr _ _)) ?_ | refine Nx.m_quiet_do rfl rfl rfl rfl rfl rfl rfl (by first | exact QRun.opr rfl | exact QRun.idx (A := B) (i := k) (sz := 1) rfl rfl rfl rfl hlt hBs | exact QRun.idx (A := A) (i := k) (sz := 1) rfl rfl rfl rfl (by omega) hAs | exact QRun.load rfl rfl (hxr _ _) | exact QRun.load rfl rfl (hlr _ _)) ?_ | refine Nx.m ?_ | refine Nx.zm ?_ | refine Nx.zt (fun hc => ?_) (fun hc => ?_))
      | refine Nx.zx ?_ | fail
    exact Nx.ret_fn rfl [] ⟨rfl, rfl⟩ (by (exact Ent.auto))
  by_cases hxy : y ≤ x
  · rw [if_neg (by rw [hbadk (by omega)]; decide)]
    repeat' first
      | ((with_reducible refine Nx.is_wp ?_); first | refine Nx.wo ?_ | refine Nx.p_draw (id := 10) rfl [0, 1, 2, 3, 4, 5, 6, 7, 8, 9, 10, 11, 12, 13, 14, 15, 16] [] _ rfl rfl (by kernel_rfl) (by kernel_rfl) rfl PanicOk.auto (Ent.refl _) ?_ | refine Nx.p_draw (id := 12) rfl [0, 1, 2, 3, 4, 5, 6, 7, 8, 9, 10, 11, 12] [] _ rfl rfl (by kernel_rfl) (by kernel_rfl) rfl PanicOk.auto (Ent.refl _) ?_ | refine Nx.zp (fun hc => ?_) (fun hc => ?_))
      | (refine Nx.zo ?_; first | refine Nx.opr rfl rfl ?_ | refine Nx.so ?_ | refine Nx.sb (fun bx => ?_) | refine Nx.sa (fun A2 c2 => ?_))
      | refine Nx.za ?_ | refine Nx.zr (fun hc => ?_) (fun hc => ?_)
      | ((with_reducible refine Nx.is_mix ?_); first | refine Nx.m_quiet rfl rfl rfl rfl rfl (by first | exact QRun.opr rfl | exact QRun.idx (A := B) (i := k) (sz := 1) rfl rfl rfl rfl hlt hBs | exact QRun.idx (A := A) (i := k) (sz := 1) rfl rfl rfl rfl (by omega) hAs | exact QRun.load rfl rfl (hxr _ _) | exact QRun.load rfl rfl (hlr _ _)) ?_ | refine Nx.m_quiet_do rfl rfl rfl rfl rfl rfl rfl (by first | exact QRun.opr rfl | exact QRun.idx (A := B) (i := k) (sz := 1) rfl rfl rfl rfl hlt hBs | exact QRun.idx (A := A) (i := k) (sz := 1) rfl rfl rfl rfl (by omega) hAs | exact QRun.load rfl rfl (hxr _ _) | exact QRun.load rfl rfl (hlr _ _)) ?_ | refine Nx.m ?_ | refine Nx.zm ?_ | refine Nx.zt (fun hc => ?_) (fun hc => ?_))
      | refine Nx.zx ?_ | fail
    exact Nx.ret_fn rfl [] ⟨rfl, rfl⟩ (by (exact Ent.auto))
  repeat' first
    | ((with_reducible refine Nx.is_wp ?_); first | refine Nx.wo ?_ | refine Nx.p_draw (id := 10) rfl [0, 1, 2, 3, 4, 5, 6, 7, 8, 9, 10, 11, 12, 13, 14, 15, 16] [] _ rfl rfl (by kernel_rfl) (by kernel_rfl) rfl PanicOk.auto (Ent.refl _) ?_ | refine Nx.p_draw (id := 12) rfl [0, 1, 2, 3, 4, 5, 6, 7, 8, 9, 10, 11, 12] [] _ rfl rfl (by kernel_rfl) (by kernel_rfl) rfl PanicOk.auto (Ent.refl _) ?_ | refine Nx.zp (fun hc => ?_) (fun hc => ?_))
    | (refine Nx.zo ?_; first | refine Nx.opr rfl rfl ?_ | refine Nx.so ?_ | refine Nx.sb (fun bx => ?_) | refine Nx.sa (fun A2 c2 => ?_))
    | refine Nx.za ?_ | refine Nx.zr (fun hc => ?_) (fun hc => ?_)
    | ((with_reducible refine Nx.is_mix ?_); first | refine Nx.m_quiet rfl rfl rfl rfl rfl (by first | exact QRun.opr rfl | exact QRun.idx (A := B) (i := k) (sz := 1) rfl rfl rfl rfl hlt hBs | exact QRun.idx (A := A) (i := k) (sz := 1) rfl rfl rfl rfl (by omega) hAs | exact QRun.load rfl rfl (hxr _ _) | exact QRun.load rfl rfl (hlr _ _)) ?_ | refine Nx.m_quiet_do rfl rfl rfl rfl rfl rfl rfl (by first | exact QRun.opr rfl | exact QRun.idx (A := B) (i := k) (sz := 1) rfl rfl rfl rfl hlt hBs | exact QRun.idx (A := A) (i := k) (sz := 1) rfl rfl rfl rfl (by omega) hAs | exact QRun.load rfl rfl (hxr _ _) | exact QRun.load rfl rfl (hlr _ _)) ?_ | refine Nx.m ?_ | refine Nx.zm ?_ | refine Nx.zt (fun hc => ?_) (fun hc => ?_))
    | refine Nx.zx ?_ | fail
  exact Nx.again (k + 1) ⟨hlt, hup2 ⟨by omega, by omega⟩⟩ (by omega) ⟨rfl, rfl, by rw [hsucc]; rfl, rfl, rfl, trivial⟩ (by (exact Ent.auto))
theorem within_iff {x y : List Int} (hx : ∀ k, k < x.length → -1 ≤ x.getD k default) (hy : ∀ k, k < x.length → -1 ≤ y.getD k default) :
    WithinP x y ↔ ∀ c, c < x.length → ¬ (x.getD c default < 0 ∧ 0 ≤ y.getD c default) ∧ ∀ d, d < x.length → ¬ (0 ≤ x.getD c default ∧ x.getD c default = x.getD d default ∧ ¬ y.getD c default = y.getD d default) := by
  constructor
  · rintro ⟨h1, h2⟩ c hc
    refine ⟨fun h => ?_, fun d hd h => ?_⟩
    · have := h1 c hc (by have := hx c hc; omega)
      omega
    · exact h.2.2 (h2 c hc d hd h.2.1.symm).symm
  · intro h
    have h0 : ∀ k, k < x.length → x.getD k default = -1 → y.getD k default = -1 := fun k hk he => by
      have h1 := (h k hk).1
      have h2 := hy k hk
      omega
    refine ⟨h0, fun k hk j hj he => ?_⟩
    by_cases hp : 0 ≤ x.getD k default
    · exact Classical.byContradiction fun hne => (h k hk).2 j hj ⟨hp, he.symm, fun h2 => hne h2.symm⟩
    · have h1 := hx k hk
      rw [h0 k hk (by omega), h0 j hj (by omega)]
set_option maxHeartbeats 2000000 in
set_option maxRecDepth 10000 in
theorem RFiner_spec (A B D : Option Addr) (c cu cv : Nat) (l : List Int) (u v : List Row) (I : PH) (hl : Ints I A c l) (hs : Sizes l) (hu : RowsOf I B cu u) (hv : RowsOf I D cv v) (hwu : Viewed l u) (hwv : Viewed l v) :
    FnSpec Tryd.prog 26 [.agg #[.slice A l.length c], .agg #[.slice B u.length cu], .agg #[.slice D v.length cv]] I [] (fun r R' => r = .bool (decide (FinerP l u v)) ∧ R' = []) := by
  have hd := hs.dims
  have hul := hwu.len
  have hvl := hwv.len
  have h1 := RViewA_spec A B c cu l u I hl hu
  have h2 := RViewA_spec A D c cv l v I hl hv
  rw [viE_ok hs hwu] at h1
  rw [viE_ok hs hwv] at h2
  refine FnSpec.enterP Tryd.func26 rfl Tryd.ntmps26 rfl fun w F => ?_
  repeat' first
    | ((with_reducible refine Nx.is_wp ?_); first | refine Nx.wo ?_ | refine Nx.zp (fun hc => ?_) (fun hc => ?_))
    | (refine Nx.zo ?_; first | refine Nx.opr rfl rfl ?_ | refine Nx.callv rfl rfl rfl (by kernel_rfl) rfl h1 ?_ | refine Nx.callv rfl rfl rfl (by kernel_rfl) rfl h2 ?_ | refine Nx.so ?_ | refine Nx.sb (fun bx => ?_) | refine Nx.sa (fun A2 c2 => ?_))
    | refine Nx.za ?_ | refine Nx.zr (fun hc => ?_) (fun hc => ?_)
    | refine Nx.zq ?_ | refine Nx.zu (fun hc => ?_) (fun hc => ?_)
    | refine Nx.zx ?_ | fail
  rename_i b3 b4
  revert bx; intro b5
  refine Nx.p_loop (σ := Nat) (fun i => [(4, .pointer (some ⟨b4, 0, none⟩)), (5, .pointer (some ⟨b5, 0, none⟩)), (24, .int .i64 u.length), (25, .int .i64 (i : Int))])
    (fun _ => [Blk b4 31 [.slice B u.length cu], Blk b5 31 [.slice D v.length cv], F]) (fun i => i ≤ u.length ∧ ∀ j, j < i → WithinP (u.getD j default).2.2 (v.getD j default).2.2) (fun i => u.length - i) 0 rfl ⟨Nat.zero_le _, fun j hj => absurd hj (Nat.not_lt_zero _)⟩ ⟨rfl, rfl, rfl, rfl, trivial⟩ (by (exact Ent.auto)) ?_
  rintro i ⟨hi, hall⟩
  by_cases hlt : i < u.length
  case neg =>
    repeat' first
      | ((with_reducible refine Nx.is_wp ?_); first | refine Nx.wo ?_ | refine Nx.zp (fun hc => ?_) (fun hc => ?_))
      | (refine Nx.zo ?_; first | refine Nx.opr rfl rfl ?_ | refine Nx.so ?_ | refine Nx.sb (fun bx => ?_) | refine Nx.sa (fun A2 c2 => ?_))
      | refine Nx.za ?_ | refine Nx.zr (fun hc => ?_) (fun hc => ?_)
      | refine Nx.zq ?_ | refine Nx.zu (fun hc => ?_) (fun hc => ?_)
      | refine Nx.zx ?_ | fail
    exact Nx.ret_fn rfl [] ⟨by rw [decide_eq_true]; exact fun j hj => hall j (by omega), rfl⟩ (by (exact Ent.auto))
  have hx := hu.at hlt
  have hy := hv.at (k := i) (by omega)
  have e1 := (hwu.each i (by omega)).1
  have e2 := (hwv.each i (by omega)).1
  have g1 := (hwu.grouped (k := i) (by omega)).each
  have g2 := (hwv.grouped (k := i) (by omega)).each
  have hru : ∀ (W : World) (R : List Res), Rd W I R ((ad B).add (i * 1)) (rowV (u.getD i default)) := fun W R => hu.outer.rd hlt
  have hrv : ∀ (W : World) (R : List Res), Rd W I R ((ad D).add (i * 1)) (rowV (v.getD i default)) := fun W R => hv.outer.rd (by omega)
  have hBu := hu.outer.isSome (by omega)
  have hDv := hv.outer.isSome (by omega)
  have hgood : WithinP (u.getD i default).2.2 (v.getD i default).2.2 → ∀ j, j < i + 1 → WithinP (u.getD j default).2.2 (v.getD j default).2.2 := fun h j hj => by
    rcases Nat.lt_or_ge j i with hj2 | hj2
    · exact hall j hj2
    · obtain rfl : j = i := by omega
      exact h
  have hbad : ¬ WithinP (u.getD i default).2.2 (v.getD i default).2.2 → decide (FinerP l u v) = false := fun h => decide_eq_false fun hf => h (hf i (by omega))
  generalize u.getD i default = ru at hx e1 g1 hru hgood hbad
  generalize v.getD i default = rv at hy e2 g2 hrv hgood hbad
  obtain ⟨X, cx, x⟩ := ru
  obtain ⟨Y, cy, y⟩ := rv
  dsimp only at hx hy e1 e2 g1 g2 hgood hbad
  replace hru : ∀ (W : World) (R : List Res), Rd W I R ((ad B).add (i * 1)) (.slice X x.length cx) := hru
  replace hrv : ∀ (W : World) (R : List Res), Rd W I R ((ad D).add (i * 1)) (.slice Y y.length cy) := hrv
  have hxl := hx.len
  have hxy : y.length = x.length := by omega
  have hwi := within_iff (x := x) (y := y) (fun k hk => (g1 k hk).1) (fun k hk => (g2 k (by omega)).1)
  repeat' first
    | ((with_reducible refine Nx.is_wp ?_); first | refine Nx.wo ?_ | refine Nx.p_draw (id := 6) rfl [0, 1, 2, 3, 4, 5, 6, 7, 8, 9, 10, 11] [] _ rfl rfl (by kernel_rfl) (by kernel_rfl) rfl PanicOk.auto (Ent.refl _) ?_ | refine Nx.p_draw (id := 15) rfl [0, 1, 2, 3, 4, 5, 6, 7, 8, 9, 10, 11, 12, 13, 14, 15, 16, 17, 18, 19, 20, 21, 22, 23, 24, 25, 26] [] _ rfl rfl (by kernel_rfl) (by kernel_rfl) rfl PanicOk.auto (Ent.refl _) ?_ | refine Nx.zp (fun hc => ?_) (fun hc => ?_))
    | (refine Nx.zo ?_; first | refine Nx.opr rfl rfl ?_ | refine Nx.so ?_ | refine Nx.sb (fun bx => ?_) | refine Nx.sa (fun A2 c2 => ?_))
    | refine Nx.za ?_ | refine Nx.zr (fun hc => ?_) (fun hc => ?_)
    | ((with_reducible refine Nx.is_mix ?_); first | refine Nx.m_quiet rfl rfl rfl rfl rfl (by first | exact QRun.opr rfl | exact QRun.idx (A := B) (i := i) (sz := 1) rfl rfl rfl rfl hlt hBu | exact QRun.idx (A := D) (i := i) (sz := 1) rfl rfl rfl rfl (by omega) hDv | exact QRun.load rfl rfl (hru _ _) | exact QRun.load rfl rfl (hrv _ _)) ?_ | refine Nx.m_quiet_do rfl rfl rfl rfl rfl rfl rfl (by first | exact QRun.opr rfl | exact QRun.idx (A := B) (i := i) (sz := 1) rfl rfl rfl rfl hlt hBu | exact QRun.idx (A := D) (i := i) (sz := 1) rfl rfl rfl rfl (by omega) hDv | exact QRun.load rfl rfl (hru _ _) | exact QRun.load rfl rfl (hrv _ _)) ?_ | refine Nx.m ?_ | refine Nx.zm ?_ | refine Nx.zt (fun hc => ?_) (fun hc => ?_))
    | refine Nx.zx ?_ | fail
  refine Nx.p_loop (σ := Nat) (fun k => [(4, .pointer (some ⟨b4, 0, none⟩)), (5, .pointer (some ⟨b5, 0, none⟩)), (24, .int .i64 u.length), (25, .int .i64 (i : Int)), (8, .slice X x.length cx), (9, .slice Y y.length cy), (39, .int .i64 x.length), (40, .int .i64 (k : Int))])
    (fun _ => [Blk b4 31 [.slice B u.length cu], Blk b5 31 [.slice D v.length cv], F])
    (fun k => k ≤ x.length ∧ ∀ j, j < k → ¬ (x.getD j default < 0 ∧ 0 ≤ y.getD j default) ∧ ∀ d, d < x.length → ¬ (0 ≤ x.getD j default ∧ x.getD j default = x.getD d default ∧ ¬ y.getD j default = y.getD d default)) (fun k => x.length - k) 0 rfl ⟨Nat.zero_le _, fun j hj => absurd hj (Nat.not_lt_zero _)⟩ ⟨rfl, rfl, rfl, rfl, rfl, rfl, rfl, rfl, trivial⟩ (by (exact Ent.auto)) ?_
  rintro k ⟨hk, hup⟩
  by_cases hkl : k < x.length
  case neg =>
    repeat' first
      | ((with_reducible refine Nx.is_wp ?_); first | refine Nx.wo ?_ | refine Nx.zp (fun hc => ?_) (fun hc => ?_))
      | (refine Nx.zo ?_; first | refine Nx.opr rfl rfl ?_ | refine Nx.so ?_ | refine Nx.sb (fun bx => ?_) | refine Nx.sa (fun A2 c2 => ?_))
      | refine Nx.za ?_ | refine Nx.zr (fun hc => ?_) (fun hc => ?_)
      | refine Nx.zq ?_ | refine Nx.zu (fun hc => ?_) (fun hc => ?_)
      | refine Nx.zx ?_ | fail
    exact Nx.again (i + 1) ⟨hlt, hgood (hwi.2 fun j hj => hup j (by omega))⟩ (by omega) ⟨rfl, rfl, rfl, rfl, trivial⟩ (by (exact Ent.auto))
  have hXs := hx.isSome (by omega)
  have hYs := hy.isSome (by omega)
  have rxk : ∀ (W : World) (R : List Res), Rd W I R ((ad X).add (k * 1)) (.int .i64 (x.getD k default)) := fun W R => hx.rd hkl
  have ryk : ∀ (W : World) (R : List Res), Rd W I R ((ad Y).add (k * 1)) (.int .i64 (y.getD k default)) := fun W R => hy.rd (by omega)
  have hno : ¬ (¬ (x.getD k default < 0 ∧ 0 ≤ y.getD k default) ∧ ∀ d, d < x.length → ¬ (0 ≤ x.getD k default ∧ x.getD k default = x.getD d default ∧ ¬ y.getD k default = y.getD d default)) → decide (FinerP l u v) = false := fun h => hbad fun hw => h (hwi.1 hw k hkl)
  have hup2 : (¬ (x.getD k default < 0 ∧ 0 ≤ y.getD k default) ∧ ∀ d, d < x.length → ¬ (0 ≤ x.getD k default ∧ x.getD k default = x.getD d default ∧ ¬ y.getD k default = y.getD d default)) → ∀ j, j < k + 1 → ¬ (x.getD j default < 0 ∧ 0 ≤ y.getD j default) ∧ ∀ d, d < x.length → ¬ (0 ≤ x.getD j default ∧ x.getD j default = x.getD d default ∧ ¬ y.getD j default = y.getD d default) := fun h j hj => by
    rcases Nat.lt_or_ge j k with hj2 | hj2
    · exact hup j hj2
    · obtain rfl : j = k := by omega
      exact h
  generalize x.getD k default = xk at rxk hno hup2
  generalize y.getD k default = yk at ryk hno hup2
  have hcases : (xk < 0 ∧ 0 ≤ yk) ∨ (xk < 0 ∧ yk < 0) ∨ 0 ≤ xk := by omega
  rcases hcases with ⟨p1, p2⟩ | ⟨p1, p2⟩ | p1
  · rw [hno fun h => h.1 ⟨p1, p2⟩]
    repeat' first
      | ((with_reducible refine Nx.is_wp ?_); first | refine Nx.wo ?_ | refine Nx.zp (fun hc => ?_) (fun hc => ?_))
      | (refine Nx.zo ?_; first | refine Nx.opr rfl rfl ?_ | refine Nx.indexAddr_nat (A := X) (i := k) (sz := 1) rfl rfl rfl rfl rfl hkl hXs ?_ | refine Nx.load rfl rfl rfl (rxk _ _) ?_ | refine Nx.indexAddr_nat (A := Y) (i := k) (sz := 1) rfl rfl rfl rfl rfl (by omega) hYs ?_ | refine Nx.load rfl rfl rfl (ryk _ _) ?_ | refine Nx.so ?_ | refine Nx.sb (fun bx => ?_) | refine Nx.sa (fun A2 c2 => ?_))
      | refine Nx.za ?_ | refine Nx.zr (fun hc => ?_) (fun hc => ?_)
      | refine Nx.zq ?_ | refine Nx.zu (fun hc => ?_) (fun hc => ?_)
      | refine Nx.zx ?_ | fail
    exact Nx.ret_fn rfl [] ⟨rfl, rfl⟩ (by (exact Ent.auto))
  all_goals
    repeat' first
      | ((with_reducible refine Nx.is_wp ?_); first | refine Nx.wo ?_ | refine Nx.zp (fun hc => ?_) (fun hc => ?_))
      | (refine Nx.zo ?_; first | refine Nx.opr rfl rfl ?_ | refine Nx.indexAddr_nat (A := X) (i := k) (sz := 1) rfl rfl rfl rfl rfl hkl hXs ?_ | refine Nx.load rfl rfl rfl (rxk _ _) ?_ | refine Nx.indexAddr_nat (A := Y) (i := k) (sz := 1) rfl rfl rfl rfl rfl (by omega) hYs ?_ | refine Nx.load rfl rfl rfl (ryk _ _) ?_ | refine Nx.so ?_ | refine Nx.sb (fun bx => ?_) | refine Nx.sa (fun A2 c2 => ?_))
      | refine Nx.za ?_ | refine Nx.zr (fun hc => ?_) (fun hc => ?_)
      | refine Nx.zq ?_ | refine Nx.zu (fun hc => ?_) (fun hc => ?_)
      | refine Nx.zx ?_ | fail
    refine Nx.p_loop (σ := Nat) (fun d => [(4, .pointer (some ⟨b4, 0, none⟩)), (5, .pointer (some ⟨b5, 0, none⟩)), (24, .int .i64 u.length), (25, .int .i64 (i : Int)), (8, .slice X x.length cx), (9, .slice Y y.length cy), (39, .int .i64 x.length), (40, .int .i64 (k : Int)), (10, .int .i64 (k : Int)), (56, .int .i64 x.length), (57, .int .i64 (d : Int))])
      (fun _ => [Blk b4 31 [.slice B u.length cu], Blk b5 31 [.slice D v.length cv], F])
      (fun d => d ≤ x.length ∧ ∀ j, j < d → ¬ (0 ≤ xk ∧ xk = x.getD j default ∧ ¬ yk = y.getD j default)) (fun d => x.length - d) 0 rfl ⟨Nat.zero_le _, fun j hj => absurd hj (Nat.not_lt_zero _)⟩ ⟨rfl, rfl, rfl, rfl, rfl, rfl, rfl, rfl, rfl, rfl, rfl, trivial⟩ (by (exact Ent.auto)) ?_
    rintro d ⟨hd, hdp⟩
    by_cases hdl : d < x.length
    case neg =>
      repeat' first
        | ((with_reducible refine Nx.is_wp ?_); first | refine Nx.wo ?_ | refine Nx.zp (fun hc => ?_) (fun hc => ?_))
        | (refine Nx.zo ?_; first | refine Nx.opr rfl rfl ?_ | refine Nx.so ?_ | refine Nx.sb (fun bx => ?_) | refine Nx.sa (fun A2 c2 => ?_))
        | refine Nx.za ?_ | refine Nx.zr (fun hc => ?_) (fun hc => ?_)
        | refine Nx.zq ?_ | refine Nx.zu (fun hc => ?_) (fun hc => ?_)
        | refine Nx.zx ?_ | fail
      exact Nx.again (k + 1) ⟨hkl, hup2 ⟨by omega, fun j hj => hdp j (by omega)⟩⟩ (by omega) ⟨rfl, rfl, rfl, rfl, rfl, rfl, rfl, rfl, trivial⟩ (by (exact Ent.auto))
    have rxd : ∀ (W : World) (R : List Res), Rd W I R ((ad X).add (d * 1)) (.int .i64 (x.getD d default)) := fun W R => hx.rd hdl
    have ryd : ∀ (W : World) (R : List Res), Rd W I R ((ad Y).add (d * 1)) (.int .i64 (y.getD d default)) := fun W R => hy.rd (by omega)
    have hdno := fun h1 => hno fun h => h.2 d hdl h1
    have hdp2 : ¬ (0 ≤ xk ∧ xk = x.getD d default ∧ ¬ yk = y.getD d default) → ∀ j, j < d + 1 → ¬ (0 ≤ xk ∧ xk = x.getD j default ∧ ¬ yk = y.getD j default) := fun h j hj => by
      rcases Nat.lt_or_ge j d with hj2 | hj2
      · exact hdp j hj2
      · obtain rfl : j = d := by omega
        exact h
    generalize x.getD d default = xd at rxd hdno hdp2
    generalize y.getD d default = yd at ryd hdno hdp2
    by_cases q1 : 0 ≤ xk ∧ xk = xd ∧ ¬ yk = yd
    · rw [hdno q1]
      obtain ⟨q1, q2, q3⟩ := q1
      repeat' first
        | ((with_reducible refine Nx.is_wp ?_); first | refine Nx.wo ?_ | refine Nx.p_draw (id := 6) rfl [0, 1, 2, 3, 4, 5, 6, 7, 8, 9, 10, 11] [] _ rfl rfl (by kernel_rfl) (by kernel_rfl) rfl PanicOk.auto (Ent.refl _) ?_ | refine Nx.p_draw (id := 15) rfl [0, 1, 2, 3, 4, 5, 6, 7, 8, 9, 10, 11, 12, 13, 14, 15, 16, 17, 18, 19, 20, 21, 22, 23, 24, 25, 26] [] _ rfl rfl (by kernel_rfl) (by kernel_rfl) rfl PanicOk.auto (Ent.refl _) ?_ | refine Nx.zp (fun hc => ?_) (fun hc => ?_))
        | (refine Nx.zo ?_; first | refine Nx.opr rfl rfl ?_ | refine Nx.so ?_ | refine Nx.sb (fun bx => ?_) | refine Nx.sa (fun A2 c2 => ?_))
        | refine Nx.za ?_ | refine Nx.zr (fun hc => ?_) (fun hc => ?_)
        | ((with_reducible refine Nx.is_mix ?_); first | refine Nx.m_quiet rfl rfl rfl rfl rfl (by first | exact QRun.opr rfl | exact QRun.idx (A := X) (i := k) (sz := 1) rfl rfl rfl rfl hkl hXs | exact QRun.idx (A := X) (i := d) (sz := 1) rfl rfl rfl rfl hdl hXs | exact QRun.idx (A := Y) (i := k) (sz := 1) rfl rfl rfl rfl (by omega) hYs | exact QRun.idx (A := Y) (i := d) (sz := 1) rfl rfl rfl rfl (by omega) hYs | exact QRun.load rfl rfl (rxk _ _) | exact QRun.load rfl rfl (rxd _ _) | exact QRun.load rfl rfl (ryk _ _) | exact QRun.load rfl rfl (ryd _ _)) ?_ | refine Nx.m_quiet_do rfl rfl rfl rfl rfl rfl rfl (by first | exact QRun.opr rfl | exact QRun.idx (A := X) (i := k) (sz := 1) rfl rfl rfl rfl hkl hXs | exact QRun.idx (A := X) (i := d) (sz := 1) rfl rfl rfl rfl hdl hXs | exact QRun.idx (A := Y) (i := k) (sz := 1) rfl rfl rfl rfl (by omega) hYs | exact QRun.idx (A := Y) (i := d) (sz := 1) rfl rfl rfl rfl (by omega) hYs | exact QRun.load rfl rfl (rxk _ _) | exact QRun.load rfl rfl (rxd _ _) | exact QRun.load rfl rfl (ryk _ _) | exact QRun.load rfl rfl (ryd _ _)) ?_ | refine Nx.m ?_ | refine Nx.zm ?_ | refine Nx.zt (fun hc => ?_) (fun hc => ?_))
        | refine Nx.zx ?_ | fail
      exact Nx.ret_fn rfl [] ⟨rfl, rfl⟩ (by (exact Ent.auto))
    have hq := hdp2 q1
    have q2 : xk < 0 ∨ (0 ≤ xk ∧ ¬ xk = xd) ∨ (0 ≤ xk ∧ xk = xd ∧ yk = yd) := by omega
    rcases q2 with q2 | ⟨q2, q3⟩ | ⟨q2, q3, q4⟩
    all_goals
      repeat' first
        | ((with_reducible refine Nx.is_wp ?_); first | refine Nx.wo ?_ | refine Nx.p_draw (id := 6) rfl [0, 1, 2, 3, 4, 5, 6, 7, 8, 9, 10, 11] [] _ rfl rfl (by kernel_rfl) (by kernel_rfl) rfl PanicOk.auto (Ent.refl _) ?_ | refine Nx.p_draw (id := 15) rfl [0, 1, 2, 3, 4, 5, 6, 7, 8, 9, 10, 11, 12, 13, 14, 15, 16, 17, 18, 19, 20, 21, 22, 23, 24, 25, 26] [] _ rfl rfl (by kernel_rfl) (by kernel_rfl) rfl PanicOk.auto (Ent.refl _) ?_ | refine Nx.zp (fun hc => ?_) (fun hc => ?_))
        | (refine Nx.zo ?_; first | refine Nx.opr rfl rfl ?_ | refine Nx.so ?_ | refine Nx.sb (fun bx => ?_) | refine Nx.sa (fun A2 c2 => ?_))
        | refine Nx.za ?_ | refine Nx.zr (fun hc => ?_) (fun hc => ?_)
        | ((with_reducible refine Nx.is_mix ?_); first | refine Nx.m_quiet rfl rfl rfl rfl rfl (by first | exact QRun.opr rfl | exact QRun.idx (A := X) (i := k) (sz := 1) rfl rfl rfl rfl hkl hXs | exact QRun.idx (A := X) (i := d) (sz := 1) rfl rfl rfl rfl hdl hXs | exact QRun.idx (A := Y) (i := k) (sz := 1) rfl rfl rfl rfl (by omega) hYs | exact QRun.idx (A := Y) (i := d) (sz := 1) rfl rfl rfl rfl (by omega) hYs | exact QRun.load rfl rfl (rxk _ _) | exact QRun.load rfl rfl (rxd _ _) | exact QRun.load rfl rfl (ryk _ _) | exact QRun.load rfl rfl (ryd _ _)) ?_ | refine Nx.m_quiet_do rfl rfl rfl rfl rfl rfl rfl (by first | exact QRun.opr rfl | exact QRun.idx (A := X) (i := k) (sz := 1) rfl rfl rfl rfl hkl hXs | exact QRun.idx (A := X) (i := d) (sz := 1) rfl rfl rfl rfl hdl hXs | exact QRun.idx (A := Y) (i := k) (sz := 1) rfl rfl rfl rfl (by omega) hYs | exact QRun.idx (A := Y) (i := d) (sz := 1) rfl rfl rfl rfl (by omega) hYs | exact QRun.load rfl rfl (rxk _ _) | exact QRun.load rfl rfl (rxd _ _) | exact QRun.load rfl rfl (ryk _ _) | exact QRun.load rfl rfl (ryd _ _)) ?_ | refine Nx.m ?_ | refine Nx.zm ?_ | refine Nx.zt (fun hc => ?_) (fun hc => ?_))
        | refine Nx.zx ?_ | fail
      all_goals first
        | (exfalso; omega)
        | exact Nx.again (d + 1) ⟨hdl, hq⟩ (by omega) ⟨rfl, rfl, rfl, rfl, rfl, rfl, rfl, rfl, rfl, rfl, rfl, trivial⟩ (by (exact Ent.auto))
set_option maxHeartbeats 2000000 in
set_option maxRecDepth 10000 in
theorem RFinerA_spec (A B D : Option Addr) (c cu cv : Nat) (l : List Int) (u v : List Row) (I : PH) (hl : Ints I A c l) (hu : RowsOf I B cu u) (hv : RowsOf I D cv v) :
    FnSpec Tryd.prog 26 [.agg #[.slice A l.length c], .agg #[.slice B u.length cu], .agg #[.slice D v.length cv]] I [] (fun r R' => r = .bool (finA l u v) ∧ R' = []) := by
  have h1 := RViewA_spec A B c cu l u I hl hu
  have h2 := RViewA_spec A D c cv l v I hl hv
  unfold finA
  by_cases hwu : Sizes l ∧ Viewed l u
  case neg =>
    rw [viewB_no hwu, Bool.false_and]
    rw [viE_no hwu] at h1
    refine FnSpec.enterP Tryd.func26 rfl Tryd.ntmps26 rfl fun w F => ?_
    repeat' first
      | ((with_reducible refine Nx.is_wp ?_); first | refine Nx.wo ?_ | refine Nx.zp (fun hc => ?_) (fun hc => ?_))
      | (refine Nx.zo ?_; first | refine Nx.opr rfl rfl ?_ | refine Nx.callv rfl rfl rfl (by kernel_rfl) rfl h1 ?_ | refine Nx.so ?_ | refine Nx.sb (fun bx => ?_) | refine Nx.sa (fun A2 c2 => ?_))
      | refine Nx.za ?_ | refine Nx.zr (fun hc => ?_) (fun hc => ?_)
      | refine Nx.zq ?_ | refine Nx.zu (fun hc => ?_) (fun hc => ?_)
      | refine Nx.zx ?_ | fail
    exact Nx.ret_fn rfl [] ⟨rfl, rfl⟩ (by (exact Ent.auto))
  rw [view_iff.2 hwu, Bool.true_and]
  rw [viE_ok hwu.1 hwu.2] at h1
  by_cases hwv : Sizes l ∧ Viewed l v
  case neg =>
    rw [viewB_no hwv, Bool.false_and]
    rw [viE_no hwv] at h2
    refine FnSpec.enterP Tryd.func26 rfl Tryd.ntmps26 rfl fun w F => ?_
    repeat' first
      | ((with_reducible refine Nx.is_wp ?_); first | refine Nx.wo ?_ | refine Nx.zp (fun hc => ?_) (fun hc => ?_))
      | (refine Nx.zo ?_; first | refine Nx.opr rfl rfl ?_ | refine Nx.callv rfl rfl rfl (by kernel_rfl) rfl h1 ?_ | refine Nx.callv rfl rfl rfl (by kernel_rfl) rfl h2 ?_ | refine Nx.so ?_ | refine Nx.sb (fun bx => ?_) | refine Nx.sa (fun A2 c2 => ?_))
      | refine Nx.za ?_ | refine Nx.zr (fun hc => ?_) (fun hc => ?_)
      | refine Nx.zq ?_ | refine Nx.zu (fun hc => ?_) (fun hc => ?_)
      | refine Nx.zx ?_ | fail
    exact Nx.ret_fn rfl [] ⟨rfl, rfl⟩ (by (exact Ent.auto))
  rw [view_iff.2 hwv, Bool.true_and]
  exact RFiner_spec A B D c cu cv l u v I hl hwu.1 hu hv hwu.2 hwv.2
theorem lsts_ext {u v : List Row} (h : u.length = v.length) (he : ∀ i, i < u.length → (u.getD i default).2.2 = (v.getD i default).2.2) : lsts u = lsts v := by
  refine List.ext_getElem (by rw [lsts_len, lsts_len, h]) fun i h1 h2 => ?_
  rw [lsts_len] at h1 h2
  have h3 := he i h1
  rw [← lsts_at u h1, ← lsts_at v h2, List.getD_eq_getElem?_getD, List.getD_eq_getElem?_getD, List.getElem?_eq_getElem (by rw [lsts_len]; exact h1), List.getElem?_eq_getElem (by rw [lsts_len]; exact h2)] at h3
  exact h3
set_option maxHeartbeats 2000000 in
set_option maxRecDepth 10000 in
theorem SameD_spec (B D : Option Addr) (cu cv : Nat) (u v : List Row) (I : PH) (hu : RowsOf I B cu u) (hv : RowsOf I D cv v) :
    FnSpec Tryd.prog 46 [.agg #[.slice B u.length cu], .agg #[.slice D v.length cv]] I [] (fun r R' => r = .bool (decide (lsts u = lsts v)) ∧ R' = []) := by
  by_cases he : lsts u = lsts v
  · rw [decide_eq_true he]
    have hl : u.length = v.length := by have := congrArg List.length he; rwa [lsts_len, lsts_len] at this
    exact Same_spec B D cu cv u v I hu hv hl fun i hi => by rw [← lsts_at u hi, ← lsts_at v (by omega), he]
  rw [decide_eq_false he]
  have hul := hu.outer.len
  have hvl := hv.outer.len
  refine FnSpec.enterP Tryd.func46 rfl Tryd.ntmps46 rfl fun w F => ?_
  by_cases hl : u.length = v.length
  case neg =>
    have hne : ¬ (u.length : Int) = v.length := by omega
    repeat' first
      | ((with_reducible refine Nx.is_wp ?_); first | refine Nx.wo ?_ | refine Nx.zp (fun hc => ?_) (fun hc => ?_))
      | (refine Nx.zo ?_; first | refine Nx.opr rfl rfl ?_ | refine Nx.so ?_ | refine Nx.sb (fun bx => ?_) | refine Nx.sa (fun A2 c2 => ?_))
      | refine Nx.za ?_ | refine Nx.zr (fun hc => ?_) (fun hc => ?_)
      | refine Nx.zq ?_ | refine Nx.zu (fun hc => ?_) (fun hc => ?_)
      | refine Nx.zx ?_ | fail
    exact Nx.ret_fn rfl [] ⟨rfl, rfl⟩ (by (exact Ent.auto))
  repeat' first
    | ((with_reducible refine Nx.is_wp ?_); first | refine Nx.wo ?_ | refine Nx.zp (fun hc => ?_) (fun hc => ?_))
    | (refine Nx.zo ?_; first | refine Nx.opr rfl rfl ?_ | refine Nx.so ?_ | refine Nx.sb (fun bx => ?_) | refine Nx.sa (fun A2 c2 => ?_))
    | refine Nx.za ?_ | refine Nx.zr (fun hc => ?_) (fun hc => ?_)
    | refine Nx.zq ?_ | refine Nx.zu (fun hc => ?_) (fun hc => ?_)
    | refine Nx.zx ?_ | fail
  rename_i b2
  revert bx; intro b3
  refine Nx.p_loop (σ := Nat) (fun i => [(2, .pointer (some ⟨b2, 0, none⟩)), (3, .pointer (some ⟨b3, 0, none⟩)), (15, .int .i64 u.length), (16, .int .i64 (i : Int))])
    (fun _ => [Blk b2 31 [.slice B u.length cu], Blk b3 31 [.slice D v.length cv], F]) (fun i => i ≤ u.length ∧ ∀ j, j < i → (u.getD j default).2.2 = (v.getD j default).2.2) (fun i => u.length - i) 0 rfl ⟨Nat.zero_le _, fun j hj => absurd hj (Nat.not_lt_zero _)⟩ ⟨rfl, rfl, rfl, rfl, trivial⟩ (by (exact Ent.auto)) ?_
  rintro i ⟨hi, hup⟩
  by_cases hlt : i < u.length
  case neg => exact absurd (lsts_ext hl fun j hj => hup j (by omega)) he
  have hI := Ints_spec _ _ _ _ _ _ _ (hu.at hlt) (hv.at (k := i) (by omega))
  by_cases hr : (u.getD i default).2.2 = (v.getD i default).2.2
  · rw [decide_eq_true hr] at hI
    repeat' first
      | ((with_reducible refine Nx.is_wp ?_); first | refine Nx.wo ?_ | refine Nx.p_draw (id := 6) rfl [0, 1, 2, 3, 4, 5, 6, 7, 8, 9, 10, 11] [10] _ rfl rfl (by kernel_rfl) (by kernel_rfl) rfl PanicOk.auto (Ent.refl _) ?_ | refine Nx.zp (fun hc => ?_) (fun hc => ?_))
      | (refine Nx.zo ?_; first | refine Nx.opr rfl rfl ?_ | refine Nx.callv rfl rfl rfl (by kernel_rfl) rfl hI ?_ | refine Nx.so ?_ | refine Nx.sb (fun bx => ?_) | refine Nx.sa (fun A2 c2 => ?_))
      | refine Nx.za ?_ | refine Nx.zr (fun hc => ?_) (fun hc => ?_)
      | ((with_reducible refine Nx.is_mix ?_); first | refine Nx.m_quiet rfl rfl rfl rfl rfl (by first | exact QRun.opr rfl | exact QRun.idx rfl rfl rfl rfl (by omega) (hu.outer.isSome (by omega)) | exact QRun.load rfl rfl (hu.outer.rd (by omega)) | exact QRun.idx rfl rfl rfl rfl (by omega) (hv.outer.isSome (by omega)) | exact QRun.load rfl rfl (hv.outer.rd (by omega))) ?_ | refine Nx.m_quiet_do rfl rfl rfl rfl rfl rfl rfl (by first | exact QRun.opr rfl | exact QRun.idx rfl rfl rfl rfl (by omega) (hu.outer.isSome (by omega)) | exact QRun.load rfl rfl (hu.outer.rd (by omega)) | exact QRun.idx rfl rfl rfl rfl (by omega) (hv.outer.isSome (by omega)) | exact QRun.load rfl rfl (hv.outer.rd (by omega))) ?_ | refine Nx.m ?_ | refine Nx.zm ?_ | refine Nx.zt (fun hc => ?_) (fun hc => ?_))
      | refine Nx.zx ?_ | fail
    exact Nx.again (i + 1) ⟨hlt, fun j hj => by
      rcases Nat.lt_or_ge j i with hj2 | hj2
      · exact hup j hj2
      · obtain rfl : j = i := by omega
        exact hr⟩ (by omega) ⟨rfl, rfl, rfl, rfl, trivial⟩ (by (exact Ent.auto))
  · rw [decide_eq_false hr] at hI
    repeat' first
      | ((with_reducible refine Nx.is_wp ?_); first | refine Nx.wo ?_ | refine Nx.p_draw (id := 6) rfl [0, 1, 2, 3, 4, 5, 6, 7, 8, 9, 10, 11] [10] _ rfl rfl (by kernel_rfl) (by kernel_rfl) rfl PanicOk.auto (Ent.refl _) ?_ | refine Nx.zp (fun hc => ?_) (fun hc => ?_))
      | (refine Nx.zo ?_; first | refine Nx.opr rfl rfl ?_ | refine Nx.callv rfl rfl rfl (by kernel_rfl) rfl hI ?_ | refine Nx.so ?_ | refine Nx.sb (fun bx => ?_) | refine Nx.sa (fun A2 c2 => ?_))
      | refine Nx.za ?_ | refine Nx.zr (fun hc => ?_) (fun hc => ?_)
      | ((with_reducible refine Nx.is_mix ?_); first | refine Nx.m_quiet rfl rfl rfl rfl rfl (by first | exact QRun.opr rfl | exact QRun.idx rfl rfl rfl rfl (by omega) (hu.outer.isSome (by omega)) | exact QRun.load rfl rfl (hu.outer.rd (by omega)) | exact QRun.idx rfl rfl rfl rfl (by omega) (hv.outer.isSome (by omega)) | exact QRun.load rfl rfl (hv.outer.rd (by omega))) ?_ | refine Nx.m_quiet_do rfl rfl rfl rfl rfl rfl rfl (by first | exact QRun.opr rfl | exact QRun.idx rfl rfl rfl rfl (by omega) (hu.outer.isSome (by omega)) | exact QRun.load rfl rfl (hu.outer.rd (by omega)) | exact QRun.idx rfl rfl rfl rfl (by omega) (hv.outer.isSome (by omega)) | exact QRun.load rfl rfl (hv.outer.rd (by omega))) ?_ | refine Nx.m ?_ | refine Nx.zm ?_ | refine Nx.zt (fun hc => ?_) (fun hc => ?_))
      | refine Nx.zx ?_ | fail
    exact Nx.ret_fn rfl [] ⟨rfl, rfl⟩ (by (exact Ent.auto))
end Go.Proofs.YtpmlehplbobjmaaDoor
