/-
  The proof engine, part U: unsigned whole numbers of 64 bits: sums that wrap, shifts, bits.
-/
import Derived.Test.YtaoeapmdhpkidaaEngF
import Derived.Test.YtaoeapmdhpkidaaEngK
import Derived.Laws.Bits64
import Derived.Laws.Bits64b
import Derived.Laws.Externs
import Derived.Shelf.Spec.BitsCarry
namespace Go.Eng
/-- 2^64 -/
abbrev B64 : Int := 18446744073709551616
section
variable {P : Program} {t : TypeId} {x y : Operand} {p q : Int}
theorem run_addU : pureRun P (do eqGuard .add t x y (.int .u64 p) (.int .u64 q); binOp .add t (.int .u64 p) (.int .u64 q)) = some (.int .u64 ((p + q) % B64)) := by rw [← IntKind.wrap_u64]; rfl
theorem run_subU : pureRun P (do eqGuard .sub t x y (.int .u64 p) (.int .u64 q); binOp .sub t (.int .u64 p) (.int .u64 q)) = some (.int .u64 ((p - q) % B64)) := by rw [← IntKind.wrap_u64]; rfl
theorem run_mulU : pureRun P (do eqGuard .mul t x y (.int .u64 p) (.int .u64 q); binOp .mul t (.int .u64 p) (.int .u64 q)) = some (.int .u64 ((p * q) % B64)) := by rw [← IntKind.wrap_u64]; rfl
theorem bits_eq (op : BinOp) (a b : Int) : (Op.intBits op .u64 a b) = (match op with
    | .and => pure (.int .u64 (IntKind.u64.wrap ((BitVec.ofInt 64 a &&& BitVec.ofInt 64 b).toNat)))
    | .or => pure (.int .u64 (IntKind.u64.wrap ((BitVec.ofInt 64 a ||| BitVec.ofInt 64 b).toNat)))
    | .xor => pure (.int .u64 (IntKind.u64.wrap ((BitVec.ofInt 64 a ^^^ BitVec.ofInt 64 b).toNat)))
    | .andNot => pure (.int .u64 (IntKind.u64.wrap ((BitVec.ofInt 64 a &&& ~~~BitVec.ofInt 64 b).toNat)))
    | _ => stuck "intBits: & | ^ &^ expected") := by cases op <;> rfl
theorem ofInt_nat {a : Nat} (ha : a < 18446744073709551616) : (BitVec.ofInt 64 (a : Int)).toNat = a := by
  rw [BitVec.toNat_ofInt]
  omega
theorem wrap_nat {a : Nat} (ha : a < 18446744073709551616) : IntKind.u64.wrap (a : Int) = a := by rw [IntKind.wrap_u64]; omega
theorem run_andU {a b : Nat} (ha : a < 18446744073709551616) (hb : b < 18446744073709551616) : pureRun P (do eqGuard .and t x y (.int .u64 (a : Int)) (.int .u64 (b : Int)); binOp .and t (.int .u64 (a : Int)) (.int .u64 (b : Int))) = some (.int .u64 ((a &&& b : Nat) : Int)) := by
  have h : (BitVec.ofInt 64 (a : Int) &&& BitVec.ofInt 64 (b : Int)).toNat = a &&& b := by rw [BitVec.toNat_and, ofInt_nat ha, ofInt_nat hb]
  have hlt : a &&& b < 18446744073709551616 := Nat.lt_of_le_of_lt Nat.and_le_left ha
  rw [← wrap_nat hlt, ← h]
  rfl
theorem run_orU {a b : Nat} (ha : a < 18446744073709551616) (hb : b < 18446744073709551616) : pureRun P (do eqGuard .or t x y (.int .u64 (a : Int)) (.int .u64 (b : Int)); binOp .or t (.int .u64 (a : Int)) (.int .u64 (b : Int))) = some (.int .u64 ((a ||| b : Nat) : Int)) := by
  have h : (BitVec.ofInt 64 (a : Int) ||| BitVec.ofInt 64 (b : Int)).toNat = a ||| b := by rw [BitVec.toNat_or, ofInt_nat ha, ofInt_nat hb]
  have hlt : a ||| b < 18446744073709551616 := Nat.or_lt_two_pow (n := 64) ha hb
  rw [← wrap_nat hlt, ← h]
  rfl
theorem run_xorU {a b : Nat} (ha : a < 18446744073709551616) (hb : b < 18446744073709551616) : pureRun P (do eqGuard .xor t x y (.int .u64 (a : Int)) (.int .u64 (b : Int)); binOp .xor t (.int .u64 (a : Int)) (.int .u64 (b : Int))) = some (.int .u64 ((a ^^^ b : Nat) : Int)) := by
  have h : (BitVec.ofInt 64 (a : Int) ^^^ BitVec.ofInt 64 (b : Int)).toNat = a ^^^ b := by rw [BitVec.toNat_xor, ofInt_nat ha, ofInt_nat hb]
  have hlt : a ^^^ b < 18446744073709551616 := Nat.xor_lt_two_pow (n := 64) ha hb
  rw [← wrap_nat hlt, ← h]
  rfl
theorem run_andNotU {a b : Nat} (ha : a < 18446744073709551616) (hb : b < 18446744073709551616) : pureRun P (do eqGuard .andNot t x y (.int .u64 (a : Int)) (.int .u64 (b : Int)); binOp .andNot t (.int .u64 (a : Int)) (.int .u64 (b : Int))) = some (.int .u64 ((a &&& (18446744073709551615 - b) : Nat) : Int)) := by
  have h : (BitVec.ofInt 64 (a : Int) &&& ~~~BitVec.ofInt 64 (b : Int)).toNat = a &&& (18446744073709551615 - b) := by
    rw [BitVec.toNat_and, BitVec.toNat_not, ofInt_nat ha, ofInt_nat hb]
  have hlt : a &&& (18446744073709551615 - b) < 18446744073709551616 := Nat.lt_of_le_of_lt Nat.and_le_left ha
  rw [← wrap_nat hlt, ← h]
  rfl
/-- ^a -/
theorem run_notU {a : Nat} (ha : a < 18446744073709551616) : pureRun P (Op.unary .xor (.int .u64 (a : Int))) = some (.int .u64 ((18446744073709551615 - a : Nat) : Int)) := by
  have h : (BitVec.ofInt 64 (IntKind.u64.max) ^^^ BitVec.ofInt 64 (a : Int)).toNat = 18446744073709551615 - a := by
    have e : BitVec.ofInt 64 (IntKind.u64.max) = BitVec.allOnes 64 := by decide
    rw [e, BitVec.allOnes_xor, BitVec.toNat_not, ofInt_nat ha]
  have hlt : 18446744073709551615 - a < 18446744073709551616 := by omega
  rw [← wrap_nat hlt, ← h]
  rfl
/-- Shifts by a number that is known to be small. -/
theorem run_shlU {k : IntKind} {n : Nat} (hn : n ≤ 64) : pureRun P (do eqGuard .shl t x y (.int .u64 p) (.int k (n : Int)); binOp .shl t (.int .u64 p) (.int k (n : Int))) = some (.int .u64 ((p * 2 ^ n) % B64)) := by
  have h1 : ¬ (n : Int) < 0 := by omega
  have h2 : min ((n : Int).toNat) IntKind.u64.bits = n := by rw [Int.toNat_natCast]; exact Nat.min_eq_left (by simp [IntKind.bits]; omega)
  have h3 : Op.shift .shl .u64 p k (n : Int) = pure (.int .u64 (IntKind.u64.wrap (p * 2 ^ n))) := by
    unfold Op.shift
    rw [if_neg h1, h2]
  rw [← IntKind.wrap_u64]
  show pureRun P (Op.shift .shl .u64 p k (n : Int)) = _
  rw [h3]; rfl
theorem run_shrU {k : IntKind} {n : Nat} (hn : n ≤ 64) : pureRun P (do eqGuard .shr t x y (.int .u64 p) (.int k (n : Int)); binOp .shr t (.int .u64 p) (.int k (n : Int))) = some (.int .u64 (p / 2 ^ n)) := by
  have h1 : ¬ (n : Int) < 0 := by omega
  have h2 : min ((n : Int).toNat) IntKind.u64.bits = n := by rw [Int.toNat_natCast]; exact Nat.min_eq_left (by simp [IntKind.bits]; omega)
  have h3 : Op.shift .shr .u64 p k (n : Int) = pure (.int .u64 (p / 2 ^ n)) := by
    unfold Op.shift
    rw [if_neg h1, h2]
    simp only [Int.fdiv_eq_ediv_of_nonneg p (show (0 : Int) ≤ 2 ^ n from Int.pow_nonneg (by omega))]
  show pureRun P (Op.shift .shr .u64 p k (n : Int)) = _
  rw [h3]; rfl
/-- An or of two that have no bit in common is their sum. -/
theorem run_orD {p q : Int} (n m k : Nat) (hp : p = ((2 ^ n * m : Nat) : Int)) (hq : q = (k : Int)) (hm : 2 ^ n * m < 18446744073709551616) (hk : k < 2 ^ n) (hk2 : k < 18446744073709551616) :
    pureRun P (do eqGuard .or t x y (.int .u64 p) (.int .u64 q); binOp .or t (.int .u64 p) (.int .u64 q)) = some (.int .u64 (p + q)) := by
  subst hp
  subst hq
  rw [run_orU hm hk2, ← Nat.two_pow_add_eq_or_of_lt hk m]
  rfl
theorem run_shrI {k : IntKind} {n : Nat} (hn : n ≤ 64) : pureRun P (do eqGuard .shr t x y (.int .i64 p) (.int k (n : Int)); binOp .shr t (.int .i64 p) (.int k (n : Int))) = some (.int .i64 (p / 2 ^ n)) := by
  have h1 : ¬ (n : Int) < 0 := by omega
  have h2 : min ((n : Int).toNat) IntKind.i64.bits = n := by rw [Int.toNat_natCast]; exact Nat.min_eq_left (by simp [IntKind.bits]; omega)
  have h3 : Op.shift .shr .i64 p k (n : Int) = pure (.int .i64 (p / 2 ^ n)) := by
    unfold Op.shift
    rw [if_neg h1, h2]
    simp only [Int.fdiv_eq_ediv_of_nonneg p (show (0 : Int) ≤ 2 ^ n from Int.pow_nonneg (by omega))]
  show pureRun P (Op.shift .shr .i64 p k (n : Int)) = _
  rw [h3]; rfl
end
/-! The highest bit -/
theorem top_cases {a : Nat} (h : a < 18446744073709551616) : a / 9223372036854775808 = 0 ∨ a / 9223372036854775808 = 1 := by omega
theorem and_top (a b : Nat) : (a &&& b) / 9223372036854775808 = (a / 9223372036854775808) &&& (b / 9223372036854775808) := Nat.and_div_two_pow (n := 63)
theorem or_top (a b : Nat) : (a ||| b) / 9223372036854775808 = (a / 9223372036854775808) ||| (b / 9223372036854775808) := Nat.or_div_two_pow (n := 63)
theorem xor_top (a b : Nat) : (a ^^^ b) / 9223372036854775808 = (a / 9223372036854775808) ^^^ (b / 9223372036854775808) := Nat.xor_div_two_pow (n := 63)
theorem not_top {s : Nat} (hs : s < 18446744073709551616) : (18446744073709551615 - s) / 9223372036854775808 = 1 - s / 9223372036854775808 := by omega
theorem carry64 {x y c : Nat} (hx : x < 18446744073709551616) (hy : y < 18446744073709551616) (hc : c ≤ 1) :
    ((x &&& y) ||| ((x ||| y) &&& (18446744073709551615 - (x + y + c) % 18446744073709551616))) / 9223372036854775808 = (x + y + c) / 18446744073709551616 := by
  have hs : (x + y + c) % 18446744073709551616 < 18446744073709551616 := Nat.mod_lt _ (by decide)
  rw [or_top, and_top, and_top, or_top, not_top hs]
  rcases top_cases hx with h1 | h1 <;> rcases top_cases hy with h2 | h2 <;> rcases top_cases hs with h3 | h3 <;> rw [h1, h2, h3] <;> simp only [Nat.reduceSub] <;> (first | (show 0 = _; omega) | (show 1 = _; omega))
theorem borrow64 {x y c : Nat} (hx : x < 18446744073709551616) (hy : y < 18446744073709551616) (hc : c ≤ 1) :
    (((18446744073709551615 - x) &&& y) ||| ((18446744073709551615 - (x ^^^ y)) &&& ((x + (18446744073709551616 - y) + (18446744073709551616 - c)) % 18446744073709551616))) / 9223372036854775808 = (if x < y + c then 1 else 0) := by
  have hs : (x + (18446744073709551616 - y) + (18446744073709551616 - c)) % 18446744073709551616 < 18446744073709551616 := Nat.mod_lt _ (by decide)
  have hxor : x ^^^ y < 18446744073709551616 := Nat.xor_lt_two_pow (n := 64) hx hy
  rw [or_top, and_top, and_top, not_top hx, not_top hxor, xor_top]
  rcases top_cases hx with h1 | h1 <;> rcases top_cases hy with h2 | h2 <;> rcases top_cases hs with h3 | h3 <;> rw [h1, h2, h3] <;> simp only [Nat.reduceSub] <;> split <;> (first | rfl | (exfalso; omega))
/-! A call that the model answers itself -/
section
variable {C : Cx} {e : Env} {I : PH} {R : List Res} {K : Act → World → Prop} {Q : Exit → Act → World → Prop}
variable {d : Nat} {ty : TypeId} {pos : String} {after : Array Edge} {g : Option (Nat × Bool)} {v : Value}
theorem Nx.binr {op : BinOp} {t u : TypeId} {x y : Operand} {vx vy : Value} (hx : evo e x = some vx) (hy : evo e y = some vy) (hv : ∀ w, (do eqGuard op t x y vx vy; binOp op t vx vy).run C.P w = .ok v w) (hlt : Nat.blt d C.n = true)
    (h : Nx C ((d, v) :: e) I R K) : Nx C e I R (opK C.P ⟨some d, .binOp op t x y u, ty, pos, after, g⟩ K Q) :=
  Nx.op_run rfl hlt (fun a w ha _ => by simp only [execOp, ha.eval hx, ha.eval hy]; exact run_v (hv w)) h
/-- Conversion of an integer to uint64. -/
theorem Nx.conv_u64 {t u : TypeId} {x : Operand} {k : IntKind} {p : Int} {s : TypeDesc} (hx : evo e x = some (.int k p)) (hs : C.P.underlying t = some s) (ht : C.P.underlying u = some (.int .u64)) (hlt : Nat.blt d C.n = true)
    (h : Nx C ((d, .int .u64 (p % B64)) :: e) I R K) : Nx C e I R (opK C.P ⟨some d, .convert t u x, ty, pos, after, g⟩ K Q) :=
  Nx.op_run rfl hlt (fun a w ha _ => by
    simp only [execOp, ha.eval hx]
    refine run_v ?_
    unfold convert
    rw [Sem.run_bind, run_underlying hs, Result.andThen_ok, Sem.run_bind, run_underlying ht, Result.andThen_ok]
    show Result.ok (Value.int .u64 (IntKind.u64.wrap p)) w = _
    rw [IntKind.wrap_u64]) h
theorem Nx.call_run {fx : Operand} {args : Array Operand} {tys : Array TypeId} {f : FuncId} {c1 c2 : Array Value} {vs al : List Value}
    (hfx : evo e fx = some (.func (.func f) c1 c2)) (hvs : evs e args.toList = some vs) (hal : c1.toList ++ vs ++ c2.toList = al) (hlt : Nat.blt d C.n = true)
    (hr : ∀ w, (callFunc f al.toArray).run C.P w = .ok (.value v) w)
    (h : Nx C ((d, v) :: e) I R K) : Nx C e I R (opK C.P ⟨some d, .call { callee := .value fx, args, argTypes := tys }, ty, pos, after, g⟩ K Q) :=
  Nx.op_run rfl hlt (fun a w ha _ => by
    have e1 : c1 ++ args.map a.eval ++ c2 = al.toArray := by
      rw [← hal, ← ha.evals hvs]
      apply Array.ext'
      simp
    unfold execOp
    simp only [resolve, ha.eval hfx, Deferred.ofValue]
    rw [Sem.run_bind]
    show Sem.run C.P (callFunc f (c1 ++ args.map a.eval ++ c2)) w = _
    rw [e1]
    exact hr w) h
end
/-- A function that leaves memory as it is, by a contract of the library. -/
theorem FnSpec.of_same {P : Program} {f : FuncId} {args : List Value} {I : PH} {v : Value} (h : ∀ (w W : World) (R : List Res), St W I R w → Calls P f args.toArray w fun e w' => e = .returned v ∧ w' = w) :
    FnSpec P f args I [] (fun u R' => u = v ∧ R' = []) := fun w _ hw =>
  (h w w _ hw).mono fun _ _ ⟨he, hw'⟩ => ⟨v, [], he, ⟨rfl, rfl⟩, hw' ▸ hw⟩
end Go.Eng
