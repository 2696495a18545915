/-
  The proof engine, part X: strings: their bytes, their parts, their order; bytes made into strings and back; a string appended to bytes.
-/
import Derived.Lib.AppendStr
import Derived.Laws.IdiomStrings
import Derived.Laws.Strings2
import Derived.Laws.Cover1
import Derived.Test.YtjnhoemgceghlaaGreatTr3
namespace Go.Eng
open Go.Lib (strCells)
open Go.Instr
variable {C : Cx} {e e' : Env} {I : PH} {R R' : List Res} {K K' : Act → World → Prop} {Q : Exit → Act → World → Prop}
variable {d : Nat} {ty t u el : TypeId} {pos : String} {after : Array Edge} {g : Option (Nat × Bool)} {x y z : Operand} {v vx vy vz : Value} {A : Option Addr} {n c : Nat}
/-- A byte's value. -/
def byteV (b : UInt8) : Value := .int .u8 b.toNat
/-- len(s). -/
theorem Nx.len_strV {tys : Array TypeId} {l : List UInt8} (hx : evo e x = some (strV l)) (hty : tys = #[t]) (ht : C.P.underlying t = some .string) (hlt : Nat.blt d C.n = true)
    (h : Nx C ((d, .int .i64 l.length) :: e) I R K) : Nx C e I R (opK C.P ⟨some d, .call { callee := .builtin .len, args := #[x], argTypes := tys }, ty, pos, after, g⟩ K Q) := by
  refine Nx.len_str (s := ⟨l.toArray⟩) hx hty ht hlt ?_
  rw [show ((ByteArray.mk l.toArray).size : Int) = l.length by simp [ByteArray.size]]
  exact h
theorem run_index_str {P : Program} {k : IntKind} {l : List UInt8} {i : Nat} (ht : P.underlying t = some .string) (hi : i < l.length) (w : World) : (Instr.index t (strV l) (.int k (i : Int))).run P w = .ok (byteV (l.getD i default)) w := by
  have h := run_index_string (P := P) w t ⟨l.toArray⟩ k (i : Int) ht
  have hs : (ByteArray.mk l.toArray).size = l.length := by simp [ByteArray.size]
  rw [dif_pos ⟨by omega, by rw [hs]; omega⟩] at h
  have he : (ByteArray.mk l.toArray)[(i : Int).toNat]'(by rw [hs]; omega) = l.getD i default := by
    rw [List.getD_eq_getElem?_getD, List.getElem?_eq_getElem hi]
    show (l.toArray)[(i : Int).toNat]'_ = _
    simp
  rw [he] at h
  exact h
/-- s[i] of a string. -/
theorem Nx.index_str {k : IntKind} {l : List UInt8} {i : Nat} (hx : evo e x = some (strV l)) (hy : evo e y = some (.int k (i : Int))) (ht : C.P.underlying t = some .string)
    (hlt : Nat.blt d C.n = true) (hi : i < l.length) (hk : Nx C ((d, byteV (l.getD i default)) :: e) I R K) : Nx C e I R (opK C.P ⟨some d, .index t x y, ty, pos, after, g⟩ K Q) :=
  Nx.op_run rfl hlt (fun a w ha _ => by
    simp only [execOp, ha.eval hx, ha.eval hy]
    exact run_v (run_index_str ht hi w)) hk
theorem QRun.index_str {S : World → Prop} {dst : Option Tmp} {k : IntKind} {l : List UInt8} {i : Nat} (hx : evo e x = some (strV l)) (hy : evo e y = some (.int k (i : Int))) (ht : C.P.underlying t = some .string) (hi : i < l.length) : QRun C e S ⟨dst, .index t x y, ty, pos, after, g⟩ (byteV (l.getD i default)) :=
  fun a w ha _ => by
    simp only [execOp, ha.eval hx, ha.eval hy]
    exact run_v (run_index_str ht hi w)
theorem Sat.drew {w : World} {I m : PH} (h : Sat w I m) : Sat w.drew I m := ⟨h.imm, h.own, h.dis⟩
/-- A row that bears the run-time's mark: it is only read. -/
def BlkZ (b : Nat) (t : TypeId) (cs : List Value) : Res := fun m => ∃ fz rest, m b = some (.cells (cs ++ rest).toArray t fz)
theorem BlkZ.sliceOf {α : Type} {f : α → Value} {b : Nat} {m I' : PH} {l : List α} {cap : Nat} (hm : PH.le m I') (h : BlkZ b t (l.map f) m) (hc : l.length ≤ cap) (hl : cap ≤ maxLen) : SliceOf f I' (some ⟨b, 0, none⟩) cap l := by
  obtain ⟨fz, rest, hb⟩ := h
  refine ⟨fun j u hj => ⟨rfl, ?_⟩, hc, hl⟩
  have hlt := (List.getElem?_eq_some_iff.1 hj).1
  rw [ad_some, Addr.add_lit, Nat.zero_add]
  simp only [cellH, hm _ _ hb, Option.isSome_none, Bool.false_eq_true, if_false]
  rw [List.getElem?_toArray, List.getElem?_append_left hlt]
  exact hj
/-- []byte(s). -/
theorem Nx.str_bytes {l : List UInt8} (hx : evo e x = some (strV l)) (hs : C.P.underlying t = some .string) (hd : C.P.underlying u = some (.slice el)) (he : C.P.underlying el = some (.int .u8)) (hlt : Nat.blt d C.n = true) (hl : l.length ≤ 34359738368)
    (h : ∀ b cap, l.length ≤ cap → cap ≤ maxLen → Nx C ((d, .slice (some ⟨b, 0, none⟩) l.length cap) :: e) I (BlkZ b el (l.map byteV) :: R) K) : Nx C e I R (opK C.P ⟨some d, .convert t u x, ty, pos, after, g⟩ K Q) := by
  intro a w ha hw
  have hsz : (ByteArray.mk l.toArray).size = l.length := by simp [ByteArray.size]
  have hr := run_bytes_of_string (P := C.P) w t u el ⟨l.toArray⟩ hs hd he
  rw [hsz] at hr
  unfold opK Oper.wp
  have hrun : (execOp a.eval ⟨some d, .convert t u x, ty, pos, after, g⟩).run C.P w = .ok (.value (.slice (some ⟨w.heap.size, 0, none⟩) l.length (grownCap w l.length 0 el))) (w.drew.alloc (.cells (bytesRow ⟨l.toArray⟩ (grownCap w l.length 0 el)) el ((bytesRow ⟨l.toArray⟩ (grownCap w l.length 0 el)).size, (bytesRow ⟨l.toArray⟩ (grownCap w l.length 0 el)).size + 1))) := by
    simp only [execOp, ha.eval hx]
    exact run_v hr
  rw [hrun]
  refine h w.heap.size (grownCap w l.length 0 el) (grownCap_ge w _ _ _) (grownCap_le_maxLen w _ _ _ (by unfold maxLen; omega)) _ _ (ha.put hlt _) ?_
  have h1 := (St.drew hw).alloc (.cells (bytesRow ⟨l.toArray⟩ (grownCap w l.length 0 el)) el ((bytesRow ⟨l.toArray⟩ (grownCap w l.length 0 el)).size, (bytesRow ⟨l.toArray⟩ (grownCap w l.length 0 el)).size + 1))
  have : bytesRow ⟨l.toArray⟩ (grownCap w l.length 0 el) = (l.map byteV ++ List.replicate (grownCap w l.length 0 el - l.length) (Value.int .u8 0)).toArray := by
    unfold bytesRow
    rw [hsz]
    apply Array.ext'
    simp [byteV]
  refine h1.ent (Ent.head fun m hm => ⟨((bytesRow ⟨l.toArray⟩ (grownCap w l.length 0 el)).size, (bytesRow ⟨l.toArray⟩ (grownCap w l.length 0 el)).size + 1), List.replicate (grownCap w l.length 0 el - l.length) (.int .u8 0), ?_⟩)
  rw [← this]
  exact hm
/-! ### Tests whose outcome is known -/
section
variable {cd : Code}
theorem Nx.p_bool_t {b : Bool} (hk : ck cd = 4) (hc : evo e (ccnd cd) = some (.bool b)) (hp : b = true) (h : Nx C e I R ((cl cd).wp C.P Q)) : Nx C e I R (cd.wp C.P Q) := Nx.p_bool hk hc (fun _ => h) (fun hn => by rw [hp] at hn; cases hn)
theorem Nx.p_bool_f {b : Bool} (hk : ck cd = 4) (hc : evo e (ccnd cd) = some (.bool b)) (hp : b = false) (h : Nx C e I R ((cr cd).wp C.P Q)) : Nx C e I R (cd.wp C.P Q) := Nx.p_bool hk hc (fun hn => by rw [hp] at hn; cases hn) (fun _ => h)
end
/-! ### Strings as keys -/
theorem strV_eq {a b : List UInt8} : (ByteArray.mk a.toArray == ByteArray.mk b.toArray) = decide (a = b) := by
  rw [Bool.eq_iff_iff, MapKept.bytes_beq, decide_eq_true_eq]
  exact ⟨fun he => by have := congrArg (fun x : ByteArray => x.data.toList) he; simpa using this, fun h => by rw [h]⟩
theorem KeyEnc.str {P : Program} {kt : TypeId} (h : P.underlying kt = some .string) : KeyEnc P kt strV := by
  refine ⟨⟨_, h, fun a b => ?_⟩, fun em a w => ?_, fun a => by show (ByteArray.mk a.toArray == ByteArray.mk a.toArray) = true; rw [strV_eq]; simp⟩
  · show some (ByteArray.mk a.toArray == ByteArray.mk b.toArray) = _
    rw [strV_eq]
  · unfold Instr.checkKey
    rw [Sem.run_bind, run_underlying h, Result.andThen_ok]
    rfl
/-! ### The order of strings -/
def strLt (a b : List UInt8) : Bool := Op.bytesLess a b
section
variable {P : Program} {a b : List UInt8}
theorem run_strlt (w : World) : (do eqGuard .lss t x y (.string ⟨a.toArray⟩) (.string ⟨b.toArray⟩); binOp .lss t (.string ⟨a.toArray⟩) (.string ⟨b.toArray⟩)).run P w = .ok (.bool (strLt a b)) w := by
  rw [show eqGuard .lss t x y (Value.string ⟨a.toArray⟩) (.string ⟨b.toArray⟩) = pure () from rfl, binOp_string_lss, ByteArray.toList_mk, ByteArray.toList_mk]
  rfl
theorem run_strgt (w : World) : (do eqGuard .gtr t x y (.string ⟨a.toArray⟩) (.string ⟨b.toArray⟩); binOp .gtr t (.string ⟨a.toArray⟩) (.string ⟨b.toArray⟩)).run P w = .ok (.bool (!(strLt a b || a == b))) w := by
  rw [show eqGuard .gtr t x y (Value.string ⟨a.toArray⟩) (.string ⟨b.toArray⟩) = pure () from rfl, binOp_string_gtr, ByteArray.toList_mk, ByteArray.toList_mk]
  rfl
theorem run_eql_c (w : World) : (do eqGuard .eql t x y (strV a) (.string ⟨b.toArray⟩); binOp .eql t (strV a) (.string ⟨b.toArray⟩)).run P w = .ok (.bool (a == b)) w := run_streq w
theorem run_eql_s (w : World) : (do eqGuard .eql t x y (strV a) (strV b); binOp .eql t (strV a) (strV b)).run P w = .ok (.bool (a == b)) w := run_streq w
theorem run_neq_s (w : World) : (do eqGuard .neq t x y (strV a) (strV b); binOp .neq t (strV a) (strV b)).run P w = .ok (.bool (!(a == b))) w := run_strne w
theorem run_lss_s (w : World) : (do eqGuard .lss t x y (strV a) (strV b); binOp .lss t (strV a) (strV b)).run P w = .ok (.bool (strLt a b)) w := run_strlt w
theorem run_gtr_s (w : World) : (do eqGuard .gtr t x y (strV a) (strV b); binOp .gtr t (strV a) (strV b)).run P w = .ok (.bool (!(strLt a b || a == b))) w := run_strgt w
end
end Go.Eng
/-
  The proof engine, part AC: bundles: one of their resources taken out and put back; lists of structs, one field set.
-/
namespace Go.Eng
/-- A statement with a part ahead of it (if n := ..; ..), by the number of its first region. -/
def isSq (c : Code) (id : Nat) : Bool := Nat.beq (ck c) 3 && Nat.beq (ck (cl c)) 3 && (Nat.beq (ck (cl (cl c))) 1 || Nat.beq (ck (cl (cl c))) 2) && Nat.beq (cid (cl (cl c))) id
theorem Nx.p_stops {C : Cx} {e : Env} {I : PH} {R : List Res} {Q : Exit → Act → World → Prop} {c : Code} (id : Nat) (hi : isSq c id = true) (h : Nx C e I R (Stop (c.wp C.P Q))) : Nx C e I R (c.wp C.P Q) := have _ := hi; h
theorem Ent.unstars {B R : List Res} : Ent (Stars B :: R) (B ++ R) := by
  rintro m ⟨m1, m2, hd, rfl, h1, h2⟩
  obtain ⟨k, hk, hkS⟩ := Stars.join hd h1 h2
  exact ⟨k, hk, hkS⟩
theorem Ent.stars {B R : List Res} : Ent (B ++ R) (Stars B :: R) := by
  intro m hm
  obtain ⟨m1, m2, hd, rfl, h1, h2⟩ := Stars.append hm
  exact ⟨_, PH.le_refl _, m1, m2, hd, rfl, h1, h2⟩
set_option maxHeartbeats 8000000 in
theorem Ent.push : ∀ (k : Nat) (R : List Res) (r : Res), R[k]? = some r → Ent (r :: R.eraseIdx k) R
  | 0, r' :: R, r, h => by simp at h; subst h; exact Ent.refl _
  | k + 1, r' :: R, r, h => (Ent.swap _ _ _).trans (Ent.pick 0 rfl (Ent.push k R r (by simpa using h)))
  | k, [], r, h => by simp at h
set_option maxHeartbeats 8000000 in
/-- Number k of a bundle is taken out. -/
theorem Ent.takeOut (k : Nat) {B R : List Res} {r : Res} (h : B[k]? = some r) : Ent (Stars B :: R) (r :: Stars (B.eraseIdx k) :: R) := by
  have hk := (List.getElem?_eq_some_iff.1 h).1
  refine Ent.unstars.trans ((Ent.pull k (B ++ R) r (by rw [List.getElem?_append_left hk]; exact h)).trans ?_)
  rw [List.eraseIdx_append_of_lt_length hk]
  exact Ent.pick 0 rfl Ent.stars
set_option maxHeartbeats 8000000 in
/-- .. and another one is put in its place. -/
theorem Ent.putIn (k : Nat) {B R : List Res} {r : Res} (hk : k < B.length) : Ent (r :: Stars (B.eraseIdx k) :: R) (Stars (B.set k r) :: R) := by
  have e : (B.set k r).eraseIdx k = B.eraseIdx k := List.eraseIdx_set_eq
  have hk2 : k < (B.set k r).length := by rw [List.length_set]; exact hk
  have h1 : Ent (r :: Stars (B.eraseIdx k) :: R) (r :: (B.eraseIdx k ++ R)) := Ent.pick 0 rfl Ent.unstars
  refine h1.trans (Ent.trans ?_ Ent.stars)
  rw [← e, ← List.eraseIdx_append_of_lt_length hk2]
  exact Ent.push k _ r (by rw [List.getElem?_append_left hk2, List.getElem?_set_self hk])
section
variable {C : Cx} {e : Env} {I : PH} {R : List Res} {K : Act → World → Prop} {Q : Exit → Act → World → Prop} {S : World → Prop} {d : Nat} {dst : Option Tmp} {ty t u : TypeId} {pos : String} {after : Array Edge} {g : Option (Nat × Bool)} {x y : Operand} {a b : List UInt8}
end
theorem flat_len {α : Type} {f : α → List Value} {sz : Nat} (hf : ∀ x, (f x).length = sz) (l : List α) : (l.flatMap f).length = l.length * sz := by
  induction l with
  | nil => simp
  | cons x l ih => rw [List.flatMap_cons, List.length_append, ih, hf, List.length_cons, Nat.succ_mul]; omega
section
variable {α : Type} [Inhabited α] {f : α → List Value} {sz : Nat}
end
end Go.Eng
/-
  The proof engine, part AE: operations with one operand, in an open statement.
-/
namespace Go.Eng
section
variable {C : Cx} {e : Env} {S : World → Prop} {ty t u : TypeId} {pos : String} {after : Array Edge} {g : Option (Nat × Bool)} {x : Operand} {dst : Option Tmp}
theorem QRun.un {op : UnOp} {vx v : Value} (hx : evo e x = some vx) (hv : pureRun C.P (Op.unary op vx) = some v) : QRun C e S ⟨dst, .unOp op t x, ty, pos, after, g⟩ v :=
  fun a w ha _ => by simp only [execOp, ha.eval hx]; exact run_v (run_of_pureRun hv w)
theorem QRun.neg {p : Int} (hx : evo e x = some (.int .i64 p)) (hr : I64 (-p)) : QRun C e S ⟨dst, .unOp .neg t x, ty, pos, after, g⟩ (.int .i64 (-p)) :=
  QRun.un hx (by rw [← wrap_i64 hr, ← Int.zero_sub]; rfl)
theorem Nx.unstop {I : PH} {R : List Res} {K : Act → World → Prop} (h : Nx C e I R K) : Nx C e I R (Stop K) := h
end
end Go.Eng
/- Contracts of functions of the given program, and lemmas about plain lists and numbers: what the laws of this seat lean on. -/
namespace Go.Proofs.YtjnhoemgceghlaaGreat
open Go.Eng
attribute [local irreducible] opK wpList Code.wp Exit.then Exit.inBlock fnPost bodyPost Nx Calls Oper.wp Rd Rds Wr Ent Stars Blk Again Vec FnSpec wpMix QRun Stop Upto wpAt
/-! Rounding: near, choices, sums, what is asked -/
theorem run_quoK {P : Program} {t : TypeId} {x y : Operand} {p q r : Int} (h0 : 0 ≤ p) (hq : 0 < q) (hr : I64 p) (h : p / q = r) : pureRun P (do eqGuard .quo t x y (.int .i64 p) (.int .i64 q); binOp .quo t (.int .i64 p) (.int .i64 q)) = some (.int .i64 r) := by rw [← h]; exact run_quo h0 hq hr
theorem run_remK {P : Program} {t : TypeId} {x y : Operand} {p q r : Int} (h0 : 0 ≤ p) (hq : 0 < q) (h : p % q = r) : pureRun P (do eqGuard .rem t x y (.int .i64 p) (.int .i64 q); binOp .rem t (.int .i64 p) (.int .i64 q)) = some (.int .i64 r) := by rw [← h]; exact run_rem h0 hq
theorem run_addK {P : Program} {t : TypeId} {x y : Operand} {p q r : Int} (hr : I64 (p + q)) (h : p + q = r) : pureRun P (do eqGuard .add t x y (.int .i64 p) (.int .i64 q); binOp .add t (.int .i64 p) (.int .i64 q)) = some (.int .i64 r) := by rw [← h, ← wrap_i64 hr]; rfl
set_option maxHeartbeats 8000000 in
set_option maxRecDepth 10000 in
theorem rndNear_spec (n r b : Int) (hn : -1000000000 ≤ n ∧ n ≤ 1000000000) (hr : 0 ≤ r) (hb : 1 ≤ b ∧ b ≤ 1000000) (I : PH) :
    FnSpec Tryz.prog 72 [.int .i64 n, .int .i64 r, .int .i64 b] I [] (fun v R' => v = .bool (nearB n r b) ∧ R' = []) := by
  refine FnSpec.enterP Tryz.func72 rfl Tryz.ntmps72 rfl fun w F => ?_
  repeat' first
    | ((with_reducible refine Nx.is_wp ?_); first | refine Nx.wo ?_ | refine Nx.zp (fun hc => ?_) (fun hc => ?_))
    | (refine Nx.zo ?_; first | refine Nx.opr rfl rfl ?_ | refine Nx.so ?_ | refine Nx.sb (fun bx => ?_) | refine Nx.sa (fun A2 c2 => ?_))
    | ((with_reducible refine Nx.is_at ?_); first | refine Nx.a ?_ | refine Nx.zd ?_ | refine Nx.zs (fun hc => ?_) (fun hc => ?_))
    | ((with_reducible refine Nx.is_mix ?_); first | refine Nx.m ?_ | refine Nx.zm ?_ | refine Nx.zt (fun hc => ?_) (fun hc => ?_))
    | refine Nx.zx ?_ | fail
  all_goals exact Nx.ret_fn rfl [] ⟨by unfold nearB; congr 1; simp_all <;> omega, rfl⟩ (by (exact Ent.auto))
set_option maxHeartbeats 8000000 in
set_option maxRecDepth 10000 in
theorem choices_spec (n b : Int) (hn : 0 ≤ n ∧ n ≤ 1000000000) (hb : 1 ≤ b ∧ b ≤ 1000000) (I : PH) :
    FnSpec Tryz.prog 73 [.int .i64 n, .int .i64 b] I [] (fun v R' => ∃ A', v = .slice A' (chL n b).length (chL n b).length ∧ R' = [Vec 3 1 A' (chL n b).length (chL n b).length ((chL n b).map (Value.int .i64))]) := by
  have m1 := Int.emod_nonneg n (show b ≠ 0 by omega)
  have m2 := Int.emod_lt_of_pos n (show 0 < b by omega)
  refine FnSpec.enterP Tryz.func73 rfl Tryz.ntmps73 rfl fun w F => ?_
  repeat' first
    | ((with_reducible refine Nx.is_wp ?_); first | refine Nx.wo ?_ | refine Nx.zp (fun hc => ?_) (fun hc => ?_))
    | (refine Nx.zo ?_; first | refine Nx.opr rfl rfl ?_ | refine Nx.so ?_ | refine Nx.sb (fun bx => ?_) | refine Nx.sa (fun A2 c2 => ?_))
    | ((with_reducible refine Nx.is_at ?_); first | refine Nx.a ?_ | refine Nx.zd ?_ | refine Nx.zs (fun hc => ?_) (fun hc => ?_))
    | ((with_reducible refine Nx.is_mix ?_); first | refine Nx.m ?_ | refine Nx.zm ?_ | refine Nx.zt (fun hc => ?_) (fun hc => ?_))
    | refine Nx.zx ?_ | fail
  · have e : chL n b = [n] := by unfold chL; rw [if_pos (by omega)]
    rw [e]
    refine Nx.blk_vec 0 1 1 rfl rfl (by omega) ?_
    exact Nx.ret_fn rfl [_] ⟨_, rfl, rfl⟩ (by (exact Ent.auto))
  · have e : chL n b = [n - n % b, n - n % b + b] := by unfold chL; rw [if_neg (by omega)]
    rw [e]
    refine Nx.blk_vec 0 2 1 rfl rfl (by omega) ?_
    exact Nx.ret_fn rfl [_] ⟨_, rfl, rfl⟩ (by (exact Ent.auto))
/-- A number is added at a place. -/
def addAt (o : List Int) (k : Nat) (n : Int) : List Int := o.set k (o.getD k default + n)
theorem addAt_len (o : List Int) (k : Nat) (n : Int) : (addAt o k n).length = o.length := by unfold addAt; rw [List.length_set]
theorem addAt_at {o : List Int} {k j : Nat} {n : Int} (hk : k < o.length) : at0 (addAt o k n) j = at0 o j + if j = k then n else 0 := by
  unfold addAt
  rw [at0_set hk]
  split
  · rename_i h; subst h; rfl
  · omega
set_option maxRecDepth 10000 in
set_option maxHeartbeats 4000000 in
theorem sums_spec (c R : Nat) (A : Option Addr) (ct : Nat) (t : List Int) (I : PH) (ht : Ints I A ct t) (hc : 1 ≤ c ∧ c ≤ 1000) (hR : 1 ≤ R ∧ R ≤ 1000) (hl : t.length = R * c) (h9 : R * c ≤ 1000) (hb : ∀ j, j < t.length → 0 ≤ at0 t j ∧ at0 t j ≤ 1000000) :
    FnSpec Tryz.prog 45 [.int .i64 (c : Int), .slice A t.length ct] I [] (fun v R' => ∃ (A' : Option Addr) (o : List Int), v = .slice A' o.length o.length ∧ o.length = R + c + 1 ∧ (∀ k, k < R + c + 1 → at0 o k = ac c R (at0 t) (R * c) k) ∧ R' = [Vec 3 1 A' o.length o.length (o.map (Value.int .i64))]) := by
  have hdiv : (t.length : Int) / (c : Int) = (R : Int) := by rw [hl, Int.natCast_mul, Int.mul_ediv_cancel _ (by omega)]
  have hts := fun h : 0 < t.length => ht.isSome h
  refine FnSpec.enterP Tryz.func45 rfl Tryz.ntmps45 rfl fun w F => ?_
  repeat' first
    | ((with_reducible refine Nx.is_wp ?_); first | refine Nx.p_stopr 2 rfl ?_ | refine Nx.wo ?_ | refine Nx.zp (fun hc => ?_) (fun hc => ?_))
    | (refine Nx.zo ?_; first | refine Nx.opr rfl rfl ?_ | refine Nx.bin rfl rfl (run_quoK (by omega) (by omega) (by unfold I64; omega) hdiv) rfl ?_ | refine Nx.so ?_ | refine Nx.sb (fun bx => ?_) | refine Nx.sa (fun A2 c2 => ?_))
    | ((with_reducible refine Nx.is_at ?_); first | refine Nx.a ?_ | refine Nx.zd ?_ | refine Nx.zs (fun hc => ?_) (fun hc => ?_))
    | ((with_reducible refine Nx.is_mix ?_); first | refine Nx.m ?_ | refine Nx.zm ?_ | refine Nx.zt (fun hc => ?_) (fun hc => ?_))
    | refine Nx.zx ?_ | fail
  refine Nx.unstop ?_
  obtain ⟨m, hm⟩ : ∃ m : Nat, m = R + c + 1 := ⟨_, rfl⟩
  have hmi : (R : Int) + (c : Int) + 1 = (m : Int) := by omega
  repeat' first
    | ((with_reducible refine Nx.is_wp ?_); first | refine Nx.p_stopr 3 rfl ?_ | refine Nx.wo ?_ | refine Nx.zp (fun hc => ?_) (fun hc => ?_))
    | (refine Nx.zo ?_; first | refine Nx.opr rfl rfl ?_ | refine Nx.bin rfl rfl (run_addK (by unfold I64; omega) hmi) rfl ?_ | refine Nx.makeInts rfl rfl rfl rfl rfl rfl rfl rfl (by omega) (fun bx => ?_) | refine Nx.so ?_ | refine Nx.sb (fun bx => ?_) | refine Nx.sa (fun A2 c2 => ?_))
    | ((with_reducible refine Nx.is_at ?_); first | refine Nx.a ?_ | refine Nx.zd ?_ | refine Nx.zs (fun hc => ?_) (fun hc => ?_))
    | ((with_reducible refine Nx.is_mix ?_); first | refine Nx.m ?_ | refine Nx.zm ?_ | refine Nx.zt (fun hc => ?_) (fun hc => ?_))
    | refine Nx.zx ?_ | fail
  refine Nx.unstop ?_
  revert bx; intro b6
  repeat' first
    | ((with_reducible refine Nx.is_wp ?_); first | refine Nx.wo ?_ | refine Nx.zp (fun hc => ?_) (fun hc => ?_))
    | (refine Nx.zo ?_; first | refine Nx.opr rfl rfl ?_ | refine Nx.so ?_ | refine Nx.sb (fun bx => ?_) | refine Nx.sa (fun A2 c2 => ?_))
    | ((with_reducible refine Nx.is_at ?_); first | refine Nx.a ?_ | refine Nx.zd ?_ | refine Nx.zs (fun hc => ?_) (fun hc => ?_))
    | ((with_reducible refine Nx.is_mix ?_); first | refine Nx.m ?_ | refine Nx.zm ?_ | refine Nx.zt (fun hc => ?_) (fun hc => ?_))
    | refine Nx.zx ?_ | fail
  refine Nx.p_loop (σ := Nat × List Int) (fun q => [(0, .int .i64 (c : Int)), (1, .slice A t.length ct), (5, .int .i64 (R : Int)), (6, .slice (some ⟨b6, 0, none⟩) m m), (18, .slice A t.length ct), (19, .int .i64 (t.length : Int)), (20, .int .i64 (q.1 : Int))])
    (fun q => [Vec 3 1 (some ⟨b6, 0, none⟩) m m (q.2.map (Value.int .i64)), F]) (fun q => q.1 ≤ t.length ∧ q.2.length = m ∧ ∀ k, k < m → at0 q.2 k = ac c R (at0 t) q.1 k) (fun q => t.length - q.1) (0, List.replicate m 0) rfl
    ⟨Nat.zero_le _, List.length_replicate, fun k hk => by unfold at0; rw [List.getD_eq_getElem?_getD, List.getElem?_replicate, if_pos hk]; rfl⟩ ⟨rfl, rfl, rfl, rfl, rfl, rfl, rfl, trivial⟩ (by (exact Ent.auto)) ?_
  rintro ⟨i, o⟩ ⟨hi, hol, hoa⟩
  dsimp only at hi hol hoa ⊢
  by_cases hil : i < t.length
  case neg =>
    obtain rfl : i = t.length := by omega
    repeat' first
      | ((with_reducible refine Nx.is_wp ?_); first | refine Nx.wo ?_ | refine Nx.zp (fun hc => ?_) (fun hc => ?_))
      | (refine Nx.zo ?_; first | refine Nx.opr rfl rfl ?_ | refine Nx.so ?_ | refine Nx.sb (fun bx => ?_) | refine Nx.sa (fun A2 c2 => ?_))
      | ((with_reducible refine Nx.is_at ?_); first | refine Nx.a ?_ | refine Nx.zd ?_ | refine Nx.zs (fun hc => ?_) (fun hc => ?_))
      | ((with_reducible refine Nx.is_mix ?_); first | refine Nx.m ?_ | refine Nx.zm ?_ | refine Nx.zt (fun hc => ?_) (fun hc => ?_))
      | refine Nx.zx ?_ | fail
    exact Nx.ret_fn rfl [_] ⟨some ⟨b6, 0, none⟩, o, by rw [hol], by omega, fun k hk => by rw [hoa k (by omega), hl], rfl⟩ (by rw [hol]; (exact Ent.auto))
  have hac : ∀ k, 0 ≤ ac c R (at0 t) i k ∧ ac c R (at0 t) i k ≤ 1000000000 := fun k => by
    have := ac_bd (c := c) (R := R) (i := i) (k := k) (z := at0 t) (M := 1000000) (by decide) fun j hj => hb j (by omega)
    omega
  have hd : i / c < R := Nat.div_lt_of_lt_mul (by rw [Nat.mul_comm]; omega)
  have hm2 := Nat.mod_lt i (show 0 < c by omega)
  have hq : (i : Int) / (c : Int) = ((i / c : Nat) : Int) := (Int.natCast_ediv i c).symm
  have hr : (i : Int) % (c : Int) = ((i % c : Nat) : Int) := (Int.natCast_emod i c).symm
  have hnx := fun k => ac_succ c R (at0 t) i k
  generalize i / c = q at hd hq hnx
  generalize i % c = r at hm2 hr hnx
  have hni := hb i hil
  have htr : ∀ (W : World) (Q : List Res), Rd W I Q ((ad A).add (i * 1)) (.int .i64 (at0 t i)) := fun W Q => ht.rd hil
  generalize at0 t i = n at hni htr hnx
  have e1 := fun j => addAt_at (o := o) (k := q) (j := j) (n := n) (by omega)
  have l1 := addAt_len o q n
  have e2 := fun j => addAt_at (o := addAt o q n) (k := R + r) (j := j) (n := n) (by omega)
  have l2 := addAt_len (addAt o q n) (R + r) n
  have e3 := fun j => addAt_at (o := addAt (addAt o q n) (R + r) n) (k := R + c) (j := j) (n := n) (by omega)
  have l3 := addAt_len (addAt (addAt o q n) (R + r) n) (R + c) n
  have b1 : I64 (o.getD q default + n) := by
    have := hoa q (by omega)
    have := hac q
    unfold at0 at *
    unfold I64
    omega
  have b2 : I64 ((addAt o q n).getD (R + r) default + n) := by
    have h1 := hoa (R + r) (by omega)
    have h2 := hac (R + r)
    have h3 := e1 (R + r)
    unfold at0 at h1 h2 h3
    unfold I64
    split at h3 <;> omega
  have b3 : I64 ((addAt (addAt o q n) (R + r) n).getD (R + c) default + n) := by
    have h1 := hoa (R + c) (by omega)
    have h2 := hac (R + c)
    have h3 := e1 (R + c)
    have h4 := e2 (R + c)
    unfold at0 at h1 h2 h3 h4
    unfold I64
    split at h3 <;> split at h4 <;> omega
  have hRr : (R : Int) + (r : Int) = ((R + r : Nat) : Int) := by omega
  have hRc : (R : Int) + (c : Int) = ((R + c : Nat) : Int) := by omega
  repeat' first
    | ((with_reducible refine Nx.is_wp ?_); first | refine Nx.p_stopr 7 rfl ?_ | refine Nx.wo ?_ | refine Nx.zp (fun hc => ?_) (fun hc => ?_))
    | (refine Nx.zo ?_; first | refine Nx.opr rfl rfl ?_ | refine Nx.indexAddr_nat (A := A) (i := i) (sz := 1) rfl rfl rfl rfl rfl hil (hts (by omega)) ?_ | refine Nx.load rfl rfl rfl (htr _ _) ?_ | refine Nx.bin rfl rfl (run_quoK (by omega) (by omega) (by unfold I64; omega) hq) rfl ?_ | refine Nx.indexAddr_nat (A := some ⟨b6, 0, none⟩) (i := q) (sz := 1) rfl rfl rfl rfl rfl (by omega) rfl ?_ | refine Nx.load rfl rfl rfl (Rd.vecEl 0 (f := Value.int .i64) (i := q) rfl (by omega)) ?_ | refine Nx.add rfl rfl b1 rfl ?_ | refine Nx.store_ints 0 (A := some ⟨b6, 0, none⟩) (i := q) (l := o) (z := o.getD q default + n) rfl rfl rfl rfl (by omega) ?_ | refine Nx.so ?_ | refine Nx.sb (fun bx => ?_) | refine Nx.sa (fun A2 c2 => ?_))
    | ((with_reducible refine Nx.is_at ?_); first | refine Nx.a ?_ | refine Nx.zd ?_ | refine Nx.zs (fun hc => ?_) (fun hc => ?_))
    | ((with_reducible refine Nx.is_mix ?_); first | refine Nx.m ?_ | refine Nx.zm ?_ | refine Nx.zt (fun hc => ?_) (fun hc => ?_))
    | refine Nx.zx ?_ | fail
  refine Nx.unstop ?_
  refine Nx.ent (R' := [Vec 3 1 (some ⟨b6, 0, none⟩) m m ((addAt o q n).map (Value.int .i64)), F]) (by unfold addAt; (exact Ent.auto)) ?_
  generalize addAt o q n = o1 at l1 e1 l2 e2 b2 l3 e3 b3
  repeat' first
    | ((with_reducible refine Nx.is_wp ?_); first | refine Nx.wo ?_ | refine Nx.zp (fun hc => ?_) (fun hc => ?_))
    | (refine Nx.zo ?_; first | refine Nx.opr rfl rfl ?_ | refine Nx.bin rfl rfl (run_remK (by omega) (by omega) hr) rfl ?_ | refine Nx.bin rfl rfl (run_addK (by unfold I64; omega) hRr) rfl ?_ | refine Nx.indexAddr_nat (A := some ⟨b6, 0, none⟩) (i := R + r) (sz := 1) rfl rfl rfl rfl rfl (by omega) rfl ?_ | refine Nx.load rfl rfl rfl (Rd.vecEl 0 (f := Value.int .i64) (i := R + r) rfl (by omega)) ?_ | refine Nx.add rfl rfl b2 rfl ?_ | refine Nx.store_ints 0 (A := some ⟨b6, 0, none⟩) (i := R + r) (l := o1) (z := o1.getD (R + r) default + n) rfl rfl rfl rfl (by omega) ?_ | refine Nx.bin rfl rfl (run_addK (by unfold I64; omega) hRc) rfl ?_ | refine Nx.so ?_ | refine Nx.sb (fun bx => ?_) | refine Nx.sa (fun A2 c2 => ?_))
    | ((with_reducible refine Nx.is_at ?_); first | refine Nx.a ?_ | refine Nx.zd ?_ | refine Nx.zs (fun hc => ?_) (fun hc => ?_))
    | ((with_reducible refine Nx.is_mix ?_); first | refine Nx.m ?_ | refine Nx.zm ?_ | refine Nx.zt (fun hc => ?_) (fun hc => ?_))
    | refine Nx.zx ?_ | fail
  refine Nx.ent (R' := [Vec 3 1 (some ⟨b6, 0, none⟩) m m ((addAt o1 (R + r) n).map (Value.int .i64)), F]) (by unfold addAt; (exact Ent.auto)) ?_
  generalize addAt o1 (R + r) n = o2 at l2 e2 l3 e3 b3
  repeat' first
    | ((with_reducible refine Nx.is_wp ?_); first | refine Nx.wo ?_ | refine Nx.zp (fun hc => ?_) (fun hc => ?_))
    | (refine Nx.zo ?_; first | refine Nx.opr rfl rfl ?_ | refine Nx.bin rfl rfl (run_addK (by unfold I64; omega) hRc) rfl ?_ | refine Nx.indexAddr_nat (A := some ⟨b6, 0, none⟩) (i := R + c) (sz := 1) rfl rfl rfl rfl rfl (by omega) rfl ?_ | refine Nx.load rfl rfl rfl (Rd.vecEl 0 (f := Value.int .i64) (i := R + c) rfl (by omega)) ?_ | refine Nx.add rfl rfl b3 rfl ?_ | refine Nx.store_ints 0 (A := some ⟨b6, 0, none⟩) (i := R + c) (l := o2) (z := o2.getD (R + c) default + n) rfl rfl rfl rfl (by omega) ?_ | refine Nx.so ?_ | refine Nx.sb (fun bx => ?_) | refine Nx.sa (fun A2 c2 => ?_))
    | ((with_reducible refine Nx.is_at ?_); first | refine Nx.a ?_ | refine Nx.zd ?_ | refine Nx.zs (fun hc => ?_) (fun hc => ?_))
    | ((with_reducible refine Nx.is_mix ?_); first | refine Nx.m ?_ | refine Nx.zm ?_ | refine Nx.zt (fun hc => ?_) (fun hc => ?_))
    | refine Nx.zx ?_ | fail
  refine Nx.again (i + 1, addAt o2 (R + c) n) ⟨hil, by dsimp only; omega, fun k hk => ?_⟩ (by dsimp only; omega) ⟨rfl, rfl, rfl, rfl, rfl, rfl, rfl, trivial⟩ (by unfold addAt; (exact Ent.auto))
  dsimp only
  rw [e3, e2, e1, hoa k hk, hnx]
  by_cases h1 : q = k
  · rw [if_pos h1.symm, if_neg (show ¬ k = R + r by omega), if_neg (show ¬ k = R + c by omega), if_pos (.inl h1)]; omega
  · by_cases h2 : R + r = k
    · rw [if_neg (Ne.symm h1), if_pos h2.symm, if_neg (show ¬ k = R + c by omega), if_pos (.inr (.inl h2))]; omega
    · by_cases h3 : R + c = k
      · rw [if_neg (Ne.symm h1), if_neg (Ne.symm h2), if_pos h3.symm, if_pos (.inr (.inr h3))]; omega
      · rw [if_neg (Ne.symm h1), if_neg (Ne.symm h2), if_neg (Ne.symm h3), if_neg (by omega)]; omega
set_option maxHeartbeats 8000000 in
set_option maxRecDepth 10000 in
theorem rounds_spec (A B : Option Addr) (ca cb : Nat) (l o : List Int) (b : Int) (I : PH) (hl : Ints I A ca l) (ho : Ints I B cb o) (hlo : l.length ≤ o.length) (hb : 1 ≤ b ∧ b ≤ 1000000) (hn : ∀ j, j < l.length → -1000000000 ≤ at0 l j ∧ at0 l j ≤ 1000000000) (hr : ∀ j, j < l.length → 0 ≤ at0 o j)
    (hg : ∀ j, j < l.length → nearB (at0 l j) (at0 o j) b = true) :
    FnSpec Tryz.prog 47 [.slice A l.length ca, .slice B o.length cb, .int .i64 b] I [] (fun v R' => v = .bool true ∧ R' = []) := by
  refine FnSpec.enterP Tryz.func47 rfl Tryz.ntmps47 rfl fun w F => ?_
  have hlen := hl.len
  have hlen2 := ho.len
  repeat' first
    | ((with_reducible refine Nx.is_wp ?_); first | refine Nx.wo ?_ | refine Nx.zp (fun hc => ?_) (fun hc => ?_))
    | (refine Nx.zo ?_; first | refine Nx.opr rfl rfl ?_ | refine Nx.so ?_ | refine Nx.sb (fun bx => ?_) | refine Nx.sa (fun A2 c2 => ?_))
    | ((with_reducible refine Nx.is_at ?_); first | refine Nx.a ?_ | refine Nx.zd ?_ | refine Nx.zs (fun hc => ?_) (fun hc => ?_))
    | ((with_reducible refine Nx.is_mix ?_); first | refine Nx.m ?_ | refine Nx.zm ?_ | refine Nx.zt (fun hc => ?_) (fun hc => ?_))
    | refine Nx.zx ?_ | fail
  refine Nx.p_loop (σ := Nat) (fun k => [(0, .slice A l.length ca), (1, .slice B o.length cb), (2, .int .i64 b), (9, .slice A l.length ca), (10, .int .i64 (l.length : Int)), (11, .int .i64 (k : Int))])
    (fun _ => [F]) (fun k => k ≤ l.length) (fun k => l.length - k) 0 rfl (Nat.zero_le _) ⟨rfl, rfl, rfl, rfl, rfl, rfl, trivial⟩ (by (exact Ent.auto)) ?_
  intro k hk
  have hk : k ≤ l.length := hk
  by_cases hkl : k < l.length
  case neg =>
    repeat' first
      | ((with_reducible refine Nx.is_wp ?_); first | refine Nx.wo ?_ | refine Nx.zp (fun hc => ?_) (fun hc => ?_))
      | (refine Nx.zo ?_; first | refine Nx.opr rfl rfl ?_ | refine Nx.so ?_ | refine Nx.sb (fun bx => ?_) | refine Nx.sa (fun A2 c2 => ?_))
      | ((with_reducible refine Nx.is_at ?_); first | refine Nx.a ?_ | refine Nx.zd ?_ | refine Nx.zs (fun hc => ?_) (fun hc => ?_))
      | ((with_reducible refine Nx.is_mix ?_); first | refine Nx.m ?_ | refine Nx.zm ?_ | refine Nx.zt (fun hc => ?_) (fun hc => ?_))
      | refine Nx.zx ?_ | fail
    exact Nx.ret_fn rfl [] ⟨rfl, rfl⟩ (by (exact Ent.auto))
  have hN := rndNear_spec (at0 l k) (at0 o k) b (hn k hkl) (hr k hkl) hb I
  rw [hg k hkl] at hN
  have r1 : ∀ (W : World) (Q : List Res), Rd W I Q ((ad A).add (k * 1)) (.int .i64 (at0 l k)) := fun W Q => hl.rd hkl
  have r2 : ∀ (W : World) (Q : List Res), Rd W I Q ((ad B).add (k * 1)) (.int .i64 (at0 o k)) := fun W Q => ho.rd (by omega)
  repeat' first
    | ((with_reducible refine Nx.is_wp ?_); first | refine Nx.wo ?_ | refine Nx.zp (fun hc => ?_) (fun hc => ?_))
    | (refine Nx.zo ?_; first | refine Nx.opr rfl rfl ?_ | refine Nx.indexAddr_nat (A := A) (i := k) (sz := 1) rfl rfl rfl rfl rfl hkl (hl.isSome (by omega)) ?_ | refine Nx.load rfl rfl rfl (r1 _ _) ?_ | refine Nx.indexAddr_nat (A := B) (i := k) (sz := 1) rfl rfl rfl rfl rfl (by omega) (ho.isSome (by omega)) ?_ | refine Nx.load rfl rfl rfl (r2 _ _) ?_ | refine Nx.callv rfl rfl rfl (by kernel_rfl) rfl hN ?_ | refine Nx.so ?_ | refine Nx.sb (fun bx => ?_) | refine Nx.sa (fun A2 c2 => ?_))
    | ((with_reducible refine Nx.is_at ?_); first | refine Nx.a ?_ | refine Nx.zd ?_ | refine Nx.zs (fun hc => ?_) (fun hc => ?_))
    | ((with_reducible refine Nx.is_mix ?_); first | refine Nx.m ?_ | refine Nx.zm ?_ | refine Nx.zt (fun hc => ?_) (fun hc => ?_))
    | refine Nx.zx ?_ | fail
  exact Nx.again (k + 1) hkl (by omega) ⟨rfl, rfl, rfl, rfl, rfl, rfl, trivial⟩ (by (exact Ent.auto))
def badN (x : Int) : Bool := decide (x < 0 ∨ 1000000 < x)
set_option maxHeartbeats 8000000 in
set_option maxRecDepth 10000 in
theorem badN_spec (x : Int) (I : PH) : FnSpec Tryz.prog 98 [.int .i64 x] I [] (fun v R' => v = .bool (badN x) ∧ R' = []) := by
  refine FnSpec.enterP Tryz.func98 rfl Tryz.ntmps98 rfl fun w F => ?_
  repeat' first
    | ((with_reducible refine Nx.is_wp ?_); first | refine Nx.wo ?_ | refine Nx.zp (fun hc => ?_) (fun hc => ?_))
    | (refine Nx.zo ?_; first | refine Nx.opr rfl rfl ?_ | refine Nx.so ?_ | refine Nx.sb (fun bx => ?_) | refine Nx.sa (fun A2 c2 => ?_))
    | ((with_reducible refine Nx.is_at ?_); first | refine Nx.a ?_ | refine Nx.zd ?_ | refine Nx.zs (fun hc => ?_) (fun hc => ?_))
    | ((with_reducible refine Nx.is_mix ?_); first | refine Nx.m ?_ | refine Nx.zm ?_ | refine Nx.zt (fun hc => ?_) (fun hc => ?_))
    | refine Nx.zx ?_ | fail
  all_goals exact Nx.ret_fn rfl [] ⟨by unfold badN; congr 1; simp; omega, rfl⟩ (Ent.refl _)
set_option maxHeartbeats 8000000 in
set_option maxRecDepth 10000 in
theorem rndRight_spec (A : Option Addr) (ct : Nat) (t : List Int) (b : Int) (I : PH) (ht : Ints I A ct t) (hb : 1 ≤ b ∧ b ≤ 20) (hg : ∀ x ∈ t, 0 ≤ x ∧ x ≤ 1000000) :
    FnSpec Tryz.prog 71 [.slice A t.length ct, .int .i64 b] I [] (fun v R' => v = .bool true ∧ R' = []) := by
  have hC := ContainsFunc_spec 98 badN A ct t I ht (by kernel_rfl) (fun x => badN_spec x I)
  rw [show t.any badN = false from List.any_eq_false.2 fun x hx => by have := hg x hx; unfold badN; simp; omega] at hC
  refine FnSpec.enterP Tryz.func71 rfl Tryz.ntmps71 rfl fun w F => ?_
  repeat' first
    | ((with_reducible refine Nx.is_wp ?_); first | refine Nx.wo ?_ | refine Nx.zp (fun hc => ?_) (fun hc => ?_))
    | (refine Nx.zo ?_; first | refine Nx.opr rfl rfl ?_ | refine Nx.callv rfl rfl rfl (by kernel_rfl) rfl hC ?_ | refine Nx.so ?_ | refine Nx.sb (fun bx => ?_) | refine Nx.sa (fun A2 c2 => ?_))
    | ((with_reducible refine Nx.is_at ?_); first | refine Nx.a ?_ | refine Nx.zd ?_ | refine Nx.zs (fun hc => ?_) (fun hc => ?_))
    | ((with_reducible refine Nx.is_mix ?_); first | refine Nx.m ?_ | refine Nx.zm ?_ | refine Nx.zt (fun hc => ?_) (fun hc => ?_))
    | refine Nx.zx ?_ | fail
  all_goals first | exact Nx.ret_fn rfl [] ⟨rfl, rfl⟩ (by (exact Ent.auto)) | (exfalso; omega)
set_option maxHeartbeats 8000000 in
set_option maxRecDepth 10000 in
theorem rndCheck_spec (R c : Nat) (A : Option Addr) (ct : Nat) (t : List Int) (b : Int) (I : PH) (ht : Ints I A ct t) (hR : 1 ≤ R ∧ R ≤ 3) (hc : 1 ≤ c ∧ c ≤ 3) (hl : t.length = R * c) (hb : 1 ≤ b ∧ b ≤ 20) (hg : ∀ x ∈ t, 0 ≤ x ∧ x ≤ 1000000) :
    FnSpec Tryz.prog 44 [.int .i64 (R : Int), .int .i64 (c : Int), .slice A t.length ct, .int .i64 b] I [] (fun v R' => v = .int .i64 0 ∧ R' = []) := by
  have hr := rndRight_spec A ct t b I ht hb hg
  have hc3 : c = 1 ∨ c = 2 ∨ c = 3 := by omega
  refine FnSpec.enterP Tryz.func44 rfl Tryz.ntmps44 rfl fun w F => ?_
  rcases hc3 with rfl | rfl | rfl
  all_goals
    repeat' first
      | ((with_reducible refine Nx.is_wp ?_); first | refine Nx.wo ?_ | refine Nx.zp (fun hc => ?_) (fun hc => ?_))
      | (refine Nx.zo ?_; first | refine Nx.opr rfl rfl ?_ | refine Nx.callv rfl rfl rfl (by kernel_rfl) rfl hr ?_ | refine Nx.so ?_ | refine Nx.sb (fun bx => ?_) | refine Nx.sa (fun A2 c2 => ?_))
      | ((with_reducible refine Nx.is_at ?_); first | refine Nx.a ?_ | refine Nx.zd ?_ | refine Nx.zs (fun hc => ?_) (fun hc => ?_))
      | ((with_reducible refine Nx.is_mix ?_); first | refine Nx.m ?_ | refine Nx.zm ?_ | refine Nx.zt (fun hc => ?_) (fun hc => ?_))
      | refine Nx.zx ?_ | fail
    all_goals first | exact Nx.ret_fn rfl [] ⟨rfl, rfl⟩ (by (exact Ent.auto)) | (exfalso; have e1 : (12 : Int) / min ((1 : Nat) : Int) 13 = 12 := rfl; have e2 : (12 : Int) / min ((2 : Nat) : Int) 13 = 6 := rfl; have e3 : (12 : Int) / min ((3 : Nat) : Int) 13 = 4 := rfl; omega)
end Go.Proofs.YtjnhoemgceghlaaGreat
/- Contracts of functions of the given program, and lemmas about plain lists and numbers: what the laws of this seat lean on. -/
namespace Go.Proofs.YtjnhoemgceghlaaGreat
open Go.Eng
attribute [local irreducible] opK wpList Code.wp Exit.then Exit.inBlock fnPost bodyPost Nx Calls Oper.wp Rd Rds Wr Ent Stars Blk Again Vec FnSpec wpMix QRun Stop Upto wpAt
/-! Rounding: the search -/
theorem run_subK {P : Program} {t : TypeId} {x y : Operand} {p q r : Int} (hr : I64 (p - q)) (h : p - q = r) : pureRun P (do eqGuard .sub t x y (.int .i64 p) (.int .i64 q); binOp .sub t (.int .i64 p) (.int .i64 q)) = some (.int .i64 r) := by rw [← h, ← wrap_i64 hr]; rfl
abbrev colV (f : Nat → Int) : List Value := [.int .i64 (f 0), .int .i64 (f 1), .int .i64 (f 2), .int .i64 (f 3), .int .i64 (f 4), .int .i64 (f 5), .int .i64 (f 6), .int .i64 (f 7), .int .i64 (f 8), .int .i64 (f 9), .int .i64 (f 10), .int .i64 (f 11)]
abbrev xC (c b : Int) (T O W : Value) (f : Nat → Int) (row all : Int) : List Value := [.int .i64 c, .int .i64 b, T, O, W, .int .i64 (f 0), .int .i64 (f 1), .int .i64 (f 2), .int .i64 (f 3), .int .i64 (f 4), .int .i64 (f 5), .int .i64 (f 6), .int .i64 (f 7), .int .i64 (f 8), .int .i64 (f 9), .int .i64 (f 10), .int .i64 (f 11), .int .i64 row, .int .i64 all]
theorem xC_col {c b : Int} {T O W : Value} {f : Nat → Int} {row all : Int} {k : Nat} (hk : k < 3) : nthL (xC c b T O W f row all) (0 + 5 + k * 1) = some (.int .i64 (f k)) := by
  have : k = 0 ∨ k = 1 ∨ k = 2 := by omega
  rcases this with rfl | rfl | rfl <;> rfl
def upd (f : Nat → Int) (k : Nat) (v : Int) : Nat → Int := fun j => if j = k then v else f j
theorem xC_set {c b : Int} {T O W : Value} {f : Nat → Int} {row all v : Int} {k : Nat} (hk : k < 3) : setsAt (xC c b T O W f row all) (0 + 5 + k * 1) (cellsL (.int .i64 v)) = some (xC c b T O W (upd f k v) row all) := by
  have : k = 0 ∨ k = 1 ∨ k = 2 := by omega
  rcases this with rfl | rfl | rfl <;> rfl
/-- The search's block, of which only the first cells are known. -/
def XB (b1 : Nat) (c b : Int) (T O W : Value) : Res := fun m => ∃ (f : Nat → Int) (row all : Int), Blk b1 88 (xC c b T O W f row all) m
theorem Ent.xb (k : Nat) {b1 : Nat} {c b : Int} {T O W : Value} {f : Nat → Int} {row all : Int} {R R' : List Res} (hk : R[k]? = some (Blk b1 88 (xC c b T O W f row all))) (h : Ent (R.eraseIdx k) R') : Ent R (XB b1 c b T O W :: R') := (Ent.pull k R _ hk).trans ((Ent.head fun _ hm => ⟨f, row, all, hm⟩).trans (Ent.cons h))
theorem Rd.xb {W0 : World} {I : PH} {R : List Res} {b1 : Nat} {c b : Int} {T O W : Value} : Rd W0 I (XB b1 c b T O W :: R) ⟨b1, 3, none⟩ O := Rd.own fun m hm => by
  obtain ⟨f, row, all, hm⟩ := hm
  have h := ((Blk.arr hm) 3 O rfl).2
  rw [ad_some, Addr.add_lit] at h
  exact h
theorem Nx.is_mixS {C : Cx} {e : Env} {I : PH} {R : List Res} {K : Act → World → Prop} {S : World → Prop} (h : Nx C e I R (fun a w => S w ∧ K a w)) : Nx C e I R (fun a w => S w ∧ K a w) := h
/-- What the search is told. -/
structure Srch (c R : Nat) (b : Int) (t wl : List Int) : Prop where
  hc : 1 ≤ c ∧ c ≤ 3
  hR : 1 ≤ R ∧ R ≤ 3
  hb : 1 ≤ b ∧ b ≤ 20
  hl : t.length = R * c
  ht : ∀ j, j < t.length → 0 ≤ at0 t j ∧ at0 t j ≤ 1000000
  wlen : wl.length = R + c + 1
  want : ∀ k, k < R + c + 1 → at0 wl k = ac c R (at0 t) (R * c) k
/-- Where it stands. -/
structure Where (c R : Nat) (b : Int) (t o : List Int) (i : Nat) (f : Nat → Int) (row all : Int) : Prop where
  pre : PreT c R b t o i
  le : i ≤ R * c
  bd : ∀ j, j < i → 0 ≤ at0 o j ∧ at0 o j ≤ 2000000
  row : row = if i = 0 then 0 else ac c R (at0 o) i ((i - 1) / c)
  col : ∀ k, k < c → f k = ac c R (at0 o) i (R + k)
  all : all = ac c R (at0 o) i (R + c)
theorem Srch.few {c R : Nat} {b : Int} {t wl : List Int} (h : Srch c R b t wl) : R * c ≤ 9 := Nat.mul_le_mul h.hR.2 h.hc.2
theorem Srch.wbd {c R : Nat} {b : Int} {t wl : List Int} (h : Srch c R b t wl) {k : Nat} (hk : k < R + c + 1) : 0 ≤ at0 wl k ∧ at0 wl k ≤ 9000000 := by
  rw [h.want k hk]
  have := ac_bd (c := c) (R := R) (i := R * c) (k := k) (z := at0 t) (M := 1000000) (by decide) fun j hj => h.ht j (by rw [h.hl]; exact hj)
  have := h.few
  omega
theorem Where.abd {c R : Nat} {b : Int} {t o wl : List Int} {i : Nat} {f : Nat → Int} {row all : Int} (hs : Srch c R b t wl) (h : Where c R b t o i f row all) (k : Nat) : 0 ≤ ac c R (at0 o) i k ∧ ac c R (at0 o) i k ≤ 18000000 := by
  have := ac_bd (c := c) (R := R) (i := i) (k := k) (z := at0 o) (M := 2000000) (by decide) h.bd
  have := hs.few
  have := h.le
  omega
theorem Where.rbd {c R : Nat} {b : Int} {t o wl : List Int} {i : Nat} {f : Nat → Int} {row all : Int} (hs : Srch c R b t wl) (h : Where c R b t o i f row all) : 0 ≤ row ∧ row ≤ 18000000 := by
  rw [h.row]
  split
  · omega
  · exact h.abd hs _
theorem ac_step {c R : Nat} {o o' : List Int} {i k : Nat} {v : Int} (h : o'.take i = o.take i) (hi : i < o'.length) : ac c R (at0 (o'.set i v)) (i + 1) k = ac c R (at0 o) i k + if i / c = k ∨ R + i % c = k ∨ R + c = k then v else 0 := by
  rw [ac_succ, at0_set hi, if_pos rfl, ac_congr (z := at0 (o'.set i v)) (z' := at0 o) fun j hj => by rw [at0_set hi, if_neg (by omega), take_at0 h hj]]
theorem PreT.take {c R : Nat} {b : Int} {t o o' : List Int} {i : Nat} (h : PreT c R b t o i) (hl : o'.length = R * c) (he : o'.take i = o.take i) : PreT c R b t o' i :=
  ⟨hl, fun j hj => by rw [take_at0 he hj]; exact h.near j hj, fun k hk => by rw [ac_congr (z' := at0 o) fun j hj => take_at0 he hj]; exact h.rows k hk⟩
/-- One number more. -/
theorem Where.next {c R : Nat} {b : Int} {t o o' wl : List Int} {i : Nat} {f : Nat → Int} {row all v : Int} (hs : Srch c R b t wl) (h : Where c R b t o i f row all) (hl : o'.length = R * c) (he : o'.take i = o.take i) (hi : i < R * c) (hv : v ∈ chL (at0 t i) b)
    (hr : 0 < i → i % c = 0 → nearB (ac c R (at0 t) (R * c) (i / c - 1)) (ac c R (at0 o) i (i / c - 1)) b = true) : Where c R b t (o'.set i v) (i + 1) (upd f (i % c) (f (i % c) + v)) (ac c R (at0 o) i (i / c) + v) (all + v) := by
  have hti := hs.ht i (by rw [hs.hl]; exact hi)
  obtain ⟨n1, n2, n3⟩ := chL_near hs.hb.1 hti.1 hv
  have hb := hs.hb
  have hc := hs.hc
  have hd : i / c < R := Nat.div_lt_of_lt_mul (by rw [Nat.mul_comm]; exact hi)
  have hm := Nat.mod_lt i (show 0 < c by omega)
  refine ⟨(h.pre.take hl he).next hc.1 hi n1 fun h0 h1 => ?_, hi, fun j hj => ?_, ?_, fun k hk => ?_, ?_⟩
  · rw [ac_congr (z := at0 o') (z' := at0 o) fun j hj => take_at0 he hj]; exact hr h0 h1
  · rw [at0_set (by omega)]
    split
    · omega
    · rw [take_at0 he (by omega)]; exact h.bd j (by omega)
  · rw [if_neg (by omega), Nat.add_sub_cancel, ac_step he (by omega), if_pos (.inl rfl)]
  · rw [ac_step he (by omega)]
    unfold upd
    by_cases hki : k = i % c
    · subst hki
      rw [if_pos rfl, if_pos (.inr (.inl rfl)), h.col _ hk]
    · rw [if_neg hki, if_neg (by omega), h.col k hk, Int.add_zero]
  · rw [ac_step he (by omega), if_pos (.inr (.inr rfl)), ← h.all]
def nextPost (c R : Nat) (b : Int) (t wl : List Int) (bx : Nat) (At Ao Aw : Option Addr) (ct co cw i : Nat) (o : List Int) (v : Value) (R' : List Res) : Prop :=
  ∃ (r : Bool) (o' : List Int) (f' : Nat → Int) (row' all' : Int), v = .bool r ∧ o'.length = R * c ∧ o'.take i = o.take i ∧ (r = true → GoodT c R b t o') ∧ (r = false → ∀ z, z.take i = o.take i → ¬ GoodT c R b t z) ∧
    R' = [Blk bx 88 (xC (c : Int) b (.slice At t.length ct) (.slice Ao t.length co) (.slice Aw wl.length cw) f' row' all'), Vec 3 1 Ao t.length co (o'.map (Value.int .i64))]
abbrev nextR (c : Nat) (b : Int) (t wl : List Int) (bx : Nat) (At Ao Aw : Option Addr) (ct co cw : Nat) (o : List Int) (f : Nat → Int) (row all : Int) : List Res :=
  [Blk bx 88 (xC (c : Int) b (.slice At t.length ct) (.slice Ao t.length co) (.slice Aw wl.length cw) f row all), Vec 3 1 Ao t.length co (o.map (Value.int .i64))]
set_option maxHeartbeats 16000000 in
set_option maxRecDepth 10000 in
/-- Behind the test of a row that is complete. -/
theorem next_two (c R : Nat) (b : Int) (t wl : List Int) (I : PH) (At Ao Aw : Option Addr) (ct co cw b1 i : Nat) (ht : Ints I At ct t) (hs : Srch c R b t wl) (hi : i < R * c) (o : List Int) (f : Nat → Int) (row all : Int) (hw : Where c R b t o i f row all)
    (hr : 0 < i → i % c = 0 → nearB (ac c R (at0 t) (R * c) (i / c - 1)) (ac c R (at0 o) i (i / c - 1)) b = true)
    (ih : ∀ I', PH.le I I' → ∀ (o : List Int) (f : Nat → Int) (row all : Int), Where c R b t o (i + 1) f row all → FnSpec Tryz.prog 46 [.pointer (some ⟨b1, 0, none⟩), .int .i64 ((i : Int) + 1)] I' (nextR c b t wl b1 At Ao Aw ct co cw o f row all) (nextPost c R b t wl b1 At Ao Aw ct co cw (i + 1) o))
    (w : World) (F : Res) :
    Nx ⟨Tryz.prog, 195, w⟩ [(0, .pointer (some ⟨b1, 0, none⟩)), (1, .int .i64 (i : Int)), (7, .int .i64 (ac c R (at0 o) i (i / c)))] I (nextR c b t wl b1 At Ao Aw ct co cw o f row all ++ [F])
      (Code.wp Tryz.prog (cr (cr (cr (cr (cr (cr (bodyOf Tryz.f46))))))) (fnPost Tryz.prog Tryz.f46 I F w (nextPost c R b t wl b1 At Ao Aw ct co cw i o))) := by
  have hcc := hs.hc
  have hR := hs.hR
  have hb := hs.hb
  have hl := hs.hl
  have hfew := hs.few
  have hol := hw.pre.len
  have hti := hs.ht i (by omega)
  have hab := hw.abd hs (i / c)
  have hall := hw.abd hs (R + c)
  rw [← hw.all] at hall
  have hmod := Nat.mod_lt i (show 0 < c by omega)
  have hcol := hw.abd hs (R + i % c)
  rw [← hw.col _ hmod] at hcol
  have hrem : (i : Int) % (c : Int) = ((i % c : Nat) : Int) := (Int.natCast_emod i c).symm
  have htr : ∀ (W : World) (Q : List Res), Rd W I Q ((ad At).add (i * 1)) (.int .i64 (at0 t i)) := fun W Q => ht.rd (by omega)
  have hCh := choices_spec (at0 t i) b (by omega) (by omega) I
  have hmem := fun v hv => chL_near (v := v) hb.1 hti.1 hv
  have hgood := fun z (hz : GoodT c R b t z) => near_chL hb.1 (hz.near i hi)
  have hstep := fun (o' : List Int) (v : Int) (h1 : o'.length = R * c) (h2 : o'.take i = o.take i) (h3 : v ∈ chL (at0 t i) b) => Where.next hs hw h1 h2 hi h3 hr
  have hrow0 : (i / c) = i / c := rfl
  have hm3 : i % c < 3 := by omega
  generalize ac c R (at0 o) i (i / c) = rp at hab hstep ⊢
  generalize i % c = m at hmod hcol hrem hstep hm3
  generalize chL (at0 t i) b = ch at hCh hmem hgood hstep
  have hAts := ht.isSome (by omega)
  clear hrow0 hr
  refine Nx.ent (R' := [Vec 3 1 Ao t.length co (o.map (Value.int .i64)), Blk b1 88 (xC (c : Int) b (.slice At t.length ct) (.slice Ao t.length co) (.slice Aw wl.length cw) f row all), F]) (by (exact Ent.auto)) ?_
  refine Nx.vec_fact fun _ _ _ hAo => ?_
  replace hAo := hAo (by omega)
  refine Nx.ent (R' := [Blk b1 88 (xC (c : Int) b (.slice At t.length ct) (.slice Ao t.length co) (.slice Aw wl.length cw) f row all), Vec 3 1 Ao t.length co (o.map (Value.int .i64)), F]) (by (exact Ent.auto)) ?_
  show Nx _ _ _ [Blk b1 88 (xC (c : Int) b (.slice At t.length ct) (.slice Ao t.length co) (.slice Aw wl.length cw) f row all), Vec 3 1 Ao t.length co (o.map (Value.int .i64)), F] _
  repeat' first
    | ((with_reducible refine Nx.is_wp ?_); first | refine Nx.wo ?_ | refine Nx.p_drawF (id := 1) rfl [0, 1, 2, 3, 4, 5, 6, 7, 8, 9, 10] [] [] _ rfl rfl (by kernel_rfl) (by kernel_rfl) rfl (by repeat first | exact PanicOk.fn | refine PanicOk.then_ ?_ | refine PanicOk.inB ?_) (Ent.refl _) ?_ | refine Nx.p_drawF (id := 2) rfl [0, 1, 2, 3, 4, 5, 6, 7, 8, 9, 10, 11, 12, 13, 14, 15, 16, 17, 18, 19, 20, 21, 22, 23, 24, 25, 26, 27, 28, 29, 30, 31, 32, 33, 34, 35] [33] [] _ rfl rfl (by kernel_rfl) (by kernel_rfl) rfl (by repeat first | exact PanicOk.fn | refine PanicOk.then_ ?_ | refine PanicOk.inB ?_) (Ent.refl _) ?_ | refine Nx.p_drawF (id := 8) rfl [0, 1, 2, 3, 4, 5, 6, 7, 8, 9, 10, 11, 12, 13, 14, 15, 16, 17, 18] [] [19, 20] _ rfl rfl (by kernel_rfl) (by kernel_rfl) rfl (by repeat first | exact PanicOk.fn | refine PanicOk.then_ ?_ | refine PanicOk.inB ?_) (Ent.refl _) ?_ | refine Nx.p_drawF (id := 11) rfl [0, 1, 2, 3, 4, 5, 6, 7, 8, 9, 10, 11, 12, 13, 14, 15, 16, 17, 18, 19] [] [20, 21] _ rfl rfl (by kernel_rfl) (by kernel_rfl) rfl (by repeat first | exact PanicOk.fn | refine PanicOk.then_ ?_ | refine PanicOk.inB ?_) (Ent.refl _) ?_ | refine Nx.p_drawF (id := 15) rfl [0, 1, 2, 3, 4, 5, 6, 7, 8, 9, 10] [8, 9] [] _ rfl rfl (by kernel_rfl) (by kernel_rfl) rfl (by repeat first | exact PanicOk.fn | refine PanicOk.then_ ?_ | refine PanicOk.inB ?_) (Ent.refl _) ?_ | refine Nx.p_drawF (id := 16) rfl [0, 1, 2, 3, 4, 5, 6, 7, 8, 9, 10, 13, 11, 12] [11] [] _ rfl rfl (by kernel_rfl) (by kernel_rfl) rfl (by repeat first | exact PanicOk.fn | refine PanicOk.then_ ?_ | refine PanicOk.inB ?_) (Ent.refl _) ?_ | refine Nx.p_drawF (id := 19) rfl [0, 1, 2, 3, 4, 5, 6, 7, 8, 9, 10, 11, 12, 13, 14, 15, 16, 17, 18, 19, 20, 21, 22, 23, 24, 25] [17, 20, 23] [26] _ rfl rfl (by kernel_rfl) (by kernel_rfl) rfl (by repeat first | exact PanicOk.fn | refine PanicOk.then_ ?_ | refine PanicOk.inB ?_) (Ent.refl _) ?_ | refine Nx.p_drawF (id := 20) rfl [0, 1, 2, 3, 4, 5, 6, 7, 8, 9, 10, 11, 12, 13, 14, 15] [] [16] _ rfl rfl (by kernel_rfl) (by kernel_rfl) rfl (by repeat first | exact PanicOk.fn | refine PanicOk.then_ ?_ | refine PanicOk.inB ?_) (Ent.refl _) ?_ | refine Nx.zp (fun hc => ?_) (fun hc => ?_))
    | (refine Nx.zo ?_; first | refine Nx.opr rfl rfl ?_ | (refine Nx.call (Rpre := []) rfl rfl rfl (by kernel_rfl) rfl hCh (Ent.refl _) ?_; rintro _ _ ⟨Ac, rfl, rfl⟩) | refine Nx.so ?_ | refine Nx.sb (fun bx => ?_) | refine Nx.sa (fun A2 c2 => ?_))
    | ((with_reducible refine Nx.is_at ?_); first | refine Nx.a ?_ | refine Nx.zd ?_ | refine Nx.zs (fun hc => ?_) (fun hc => ?_))
    | ((with_reducible refine Nx.is_mix ?_); first | refine Nx.m_quiet rfl rfl rfl rfl rfl (by first | exact QRun.opr rfl | exact QRun.loads rfl rfl rfl (Rds.cut 0 12 rfl rfl) rfl | exact QRun.idx (A := At) (i := i) (sz := 1) rfl rfl rfl rfl (by omega) hAts | exact QRun.load rfl rfl (htr _ _)) ?_ | refine Nx.m_quiet_do rfl rfl rfl rfl rfl rfl rfl (by first | exact QRun.opr rfl | exact QRun.loads rfl rfl rfl (Rds.cut 0 12 rfl rfl) rfl | exact QRun.idx (A := At) (i := i) (sz := 1) rfl rfl rfl rfl (by omega) hAts | exact QRun.load rfl rfl (htr _ _)) ?_ | refine Nx.m ?_ | refine Nx.zm ?_ | refine Nx.zt (fun hc => ?_) (fun hc => ?_))
    | refine Nx.zx ?_ | fail
  revert bx; intro b8
  refine Nx.ent (R' := [Vec 3 1 Ac ch.length ch.length (ch.map (Value.int .i64)), Blk b8 86 (colV f), Blk b1 88 (xC (c : Int) b (.slice At t.length ct) (.slice Ao t.length co) (.slice Aw wl.length cw) f row all), Vec 3 1 Ao t.length co (o.map (Value.int .i64)), F]) (by (exact Ent.auto)) ?_
  refine Nx.freezeAt 0 rfl fun I2 m2 hI2 hm2 h2 => ?_
  have hch : Ints I2 Ac ch.length ch := Vec.sliceOf hm2 h2
  replace ih := ih I2 hI2
  refine Nx.p_loop (σ := Nat × List Int × (Nat → Int) × Int × Int) (fun q => [(0, .pointer (some ⟨b1, 0, none⟩)), (1, .int .i64 (i : Int)), (7, .int .i64 rp), (8, .pointer (some ⟨b8, 0, none⟩)), (9, .int .i64 all), (145, .slice Ac ch.length ch.length), (146, .int .i64 (ch.length : Int)), (147, .int .i64 (q.1 : Int))])
    (fun q => [Blk b8 86 (colV f), Blk b1 88 (xC (c : Int) b (.slice At t.length ct) (.slice Ao t.length co) (.slice Aw wl.length cw) q.2.2.1 q.2.2.2.1 q.2.2.2.2), Vec 3 1 Ao t.length co (q.2.1.map (Value.int .i64)), F]) (fun q => q.1 ≤ ch.length ∧ q.2.1.length = R * c ∧ q.2.1.take i = o.take i ∧ ∀ j, j < q.1 → ∀ z, z.take i = o.take i → at0 z i = at0 ch j → ¬ GoodT c R b t z) (fun q => ch.length - q.1) (0, o, f, row, all) rfl
    ⟨Nat.zero_le _, hol, rfl, fun j hj => absurd hj (Nat.not_lt_zero _)⟩ ⟨rfl, rfl, rfl, rfl, rfl, rfl, rfl, rfl, trivial⟩ (by (exact Ent.auto)) ?_
  rintro ⟨k, o', f', row', all'⟩ ⟨hk, ho'l, ho't, hno⟩
  dsimp only at hk ho'l ho't hno ⊢
  by_cases hkl : k < ch.length
  case neg =>
    repeat' first
      | ((with_reducible refine Nx.is_wp ?_); first | refine Nx.wo ?_ | refine Nx.zp (fun hc => ?_) (fun hc => ?_))
      | (refine Nx.zo ?_; first | refine Nx.opr rfl rfl ?_ | refine Nx.so ?_ | refine Nx.sb (fun bx => ?_) | refine Nx.sa (fun A2 c2 => ?_))
      | ((with_reducible refine Nx.is_at ?_); first | refine Nx.a ?_ | refine Nx.zd ?_ | refine Nx.zs (fun hc => ?_) (fun hc => ?_))
      | ((with_reducible refine Nx.is_mix ?_); first | refine Nx.m ?_ | refine Nx.zm ?_ | refine Nx.zt (fun hc => ?_) (fun hc => ?_))
      | refine Nx.zx ?_ | fail
    refine Nx.imm_le hI2 (Nx.ret_fn rfl [_, _] ⟨false, o', f', row', all', rfl, ho'l, ho't, fun h => (by cases h), fun _ z hz hg => ?_, rfl⟩ (by (exact Ent.auto)))
    obtain ⟨j, hj, he⟩ := List.mem_iff_getElem.1 (hgood z hg)
    refine hno j (by omega) z hz ?_ hg
    unfold at0
    rw [List.getD_eq_getElem?_getD (l := ch), List.getElem?_eq_getElem hj, Option.getD_some, he]; rfl
  have hvm : at0 ch k ∈ ch := by
    unfold at0
    rw [List.getD_eq_getElem?_getD, List.getElem?_eq_getElem hkl]; exact List.getElem_mem _
  have hnx := hstep o' (at0 ch k) ho'l ho't hvm
  have hvb := (hmem _ hvm).2
  have hvr : ∀ (W : World) (Q : List Res), Rd W I2 Q ((ad Ac).add (k * 1)) (.int .i64 (at0 ch k)) := fun W Q => hch.rd hkl
  have hAc := hch.isSome (by omega)
  have hchl := hch.len
  have hset : ∀ z : List Int, z.length = R * c → z.take i = o.take i → at0 z i = at0 ch k → z.take (i + 1) = (o'.set i (at0 ch k)).take (i + 1) := fun z hzl hz1 hz2 => by
    refine at0_take (by rw [List.length_set]; omega) (by omega) fun j hj => ?_
    rw [at0_set (by omega)]
    split
    · rename_i h; subst h; exact hz2
    · rw [take_at0 (hz1.trans ho't.symm) (by omega)]
  generalize hv : at0 ch k = v at hvm hnx hvb hvr hset
  have ihk := ih _ _ _ _ hnx
  have htk : ∀ o2 : List Int, o2.length = R * c → o2.take (i + 1) = (o'.set i v).take (i + 1) → o2.take i = o.take i := fun o2 h1 h2 => by
    refine at0_take (by omega) (by omega) fun j hj => ?_
    rw [take_at0 h2 (by omega), at0_set (by omega), if_neg (by omega), take_at0 ho't hj]
  have hin : i < t.length := by omega
  have hfm : I64 (f m + v) := by unfold I64; omega
  clear hstep ih hnx
  have hE : Ent [Blk b8 86 (colV f), Blk b1 88 (xC (c : Int) b (.slice At t.length ct) (.slice Ao t.length co) (.slice Aw wl.length cw) f' row' all'), Vec 3 1 Ao t.length co (o'.map (Value.int .i64)), F] [XB b1 (c : Int) b (.slice At t.length ct) (.slice Ao t.length co) (.slice Aw wl.length cw), Blk b8 86 (colV f)] := Ent.xb 1 rfl (Ent.pick 0 rfl (Ent.nil _))
  repeat' first
    | ((with_reducible refine Nx.is_mixS ?_); refine Nx.mix_S (by first | exact Ent.xb 2 rfl (Ent.pick 1 rfl (Ent.nil _)) | exact Ent.xb 0 rfl (Ent.pick 1 rfl (Ent.nil _))) ?_)
    | ((with_reducible refine Nx.is_wp ?_); first | refine Nx.p_drawF (id := 19) rfl [0, 1, 2, 3, 4, 5, 6, 7, 8, 9, 10, 11, 12, 13, 14, 15, 16, 17, 18, 19, 20, 21, 22, 23, 24, 25] [17, 20, 23] [26] _ rfl rfl (by kernel_rfl) (by kernel_rfl) rfl (by repeat first | exact PanicOk.fn | refine PanicOk.then_ ?_ | refine PanicOk.inB ?_) hE ?_ | refine Nx.p_stopr 20 rfl ?_ | refine Nx.wo ?_ | refine Nx.p_drawF (id := 1) rfl [0, 1, 2, 3, 4, 5, 6, 7, 8, 9, 10] [] [] _ rfl rfl (by kernel_rfl) (by kernel_rfl) rfl (by repeat first | exact PanicOk.fn | refine PanicOk.then_ ?_ | refine PanicOk.inB ?_) (Ent.refl _) ?_ | refine Nx.p_drawF (id := 2) rfl [0, 1, 2, 3, 4, 5, 6, 7, 8, 9, 10, 11, 12, 13, 14, 15, 16, 17, 18, 19, 20, 21, 22, 23, 24, 25, 26, 27, 28, 29, 30, 31, 32, 33, 34, 35] [33] [] _ rfl rfl (by kernel_rfl) (by kernel_rfl) rfl (by repeat first | exact PanicOk.fn | refine PanicOk.then_ ?_ | refine PanicOk.inB ?_) (Ent.refl _) ?_ | refine Nx.p_drawF (id := 8) rfl [0, 1, 2, 3, 4, 5, 6, 7, 8, 9, 10, 11, 12, 13, 14, 15, 16, 17, 18] [] [19, 20] _ rfl rfl (by kernel_rfl) (by kernel_rfl) rfl (by repeat first | exact PanicOk.fn | refine PanicOk.then_ ?_ | refine PanicOk.inB ?_) (Ent.refl _) ?_ | refine Nx.p_drawF (id := 11) rfl [0, 1, 2, 3, 4, 5, 6, 7, 8, 9, 10, 11, 12, 13, 14, 15, 16, 17, 18, 19] [] [20, 21] _ rfl rfl (by kernel_rfl) (by kernel_rfl) rfl (by repeat first | exact PanicOk.fn | refine PanicOk.then_ ?_ | refine PanicOk.inB ?_) (Ent.refl _) ?_ | refine Nx.p_drawF (id := 15) rfl [0, 1, 2, 3, 4, 5, 6, 7, 8, 9, 10] [8, 9] [] _ rfl rfl (by kernel_rfl) (by kernel_rfl) rfl (by repeat first | exact PanicOk.fn | refine PanicOk.then_ ?_ | refine PanicOk.inB ?_) (Ent.refl _) ?_ | refine Nx.p_drawF (id := 16) rfl [0, 1, 2, 3, 4, 5, 6, 7, 8, 9, 10, 13, 11, 12] [11] [] _ rfl rfl (by kernel_rfl) (by kernel_rfl) rfl (by repeat first | exact PanicOk.fn | refine PanicOk.then_ ?_ | refine PanicOk.inB ?_) (Ent.refl _) ?_ | refine Nx.p_drawF (id := 19) rfl [0, 1, 2, 3, 4, 5, 6, 7, 8, 9, 10, 11, 12, 13, 14, 15, 16, 17, 18, 19, 20, 21, 22, 23, 24, 25] [17, 20, 23] [26] _ rfl rfl (by kernel_rfl) (by kernel_rfl) rfl (by repeat first | exact PanicOk.fn | refine PanicOk.then_ ?_ | refine PanicOk.inB ?_) (Ent.refl _) ?_ | refine Nx.p_drawF (id := 20) rfl [0, 1, 2, 3, 4, 5, 6, 7, 8, 9, 10, 11, 12, 13, 14, 15] [] [16] _ rfl rfl (by kernel_rfl) (by kernel_rfl) rfl (by repeat first | exact PanicOk.fn | refine PanicOk.then_ ?_ | refine PanicOk.inB ?_) (Ent.refl _) ?_ | refine Nx.zp (fun hc => ?_) (fun hc => ?_))
    | (refine Nx.zo ?_; first | refine Nx.opr rfl rfl ?_ | refine Nx.indexAddr_nat (A := Ac) (i := k) (sz := 1) rfl rfl rfl rfl rfl hkl hAc ?_ | refine Nx.load rfl rfl rfl (hvr _ _) ?_ | refine Nx.store_ints 2 (A := Ao) (i := i) (l := o') (z := v) rfl rfl rfl rfl hin ?_ | refine Nx.so ?_ | refine Nx.sb (fun bx => ?_) | refine Nx.sa (fun A2 c2 => ?_))
    | ((with_reducible refine Nx.is_at ?_); first | refine Nx.a ?_ | refine Nx.zd ?_ | refine Nx.zs (fun hc => ?_) (fun hc => ?_))
    | ((with_reducible refine Nx.is_mix ?_); first | refine Nx.m_quiet rfl rfl rfl rfl rfl (by first | exact QRun.opr rfl | exact QRun.load rfl rfl Rd.xb | exact QRun.loads rfl rfl rfl (Rds.cut 1 12 rfl rfl) rfl | exact QRun.idx (A := Ao) (i := i) (sz := 1) rfl rfl rfl rfl hin hAo) ?_ | refine Nx.m_quiet_do rfl rfl rfl rfl rfl rfl rfl (by first | exact QRun.opr rfl | exact QRun.load rfl rfl Rd.xb | exact QRun.loads rfl rfl rfl (Rds.cut 1 12 rfl rfl) rfl | exact QRun.idx (A := Ao) (i := i) (sz := 1) rfl rfl rfl rfl hin hAo) ?_ | refine Nx.m ?_ | refine Nx.zm ?_ | refine Nx.zt (fun hc => ?_) (fun hc => ?_))
    | refine Nx.zx ?_ | fail
  refine Nx.unstop ?_
  refine Nx.ent (R' := [Blk b1 88 (xC (c : Int) b (.slice At t.length ct) (.slice Ao t.length co) (.slice Aw wl.length cw) f (rp + v) (all + v)), Blk b8 86 (colV f), Vec 3 1 Ao t.length co ((o'.set i v).map (Value.int .i64)), F]) (by (exact Ent.auto)) ?_
  repeat' first
    | ((with_reducible refine Nx.is_wp ?_); first | refine Nx.wo ?_ | refine Nx.p_drawF (id := 1) rfl [0, 1, 2, 3, 4, 5, 6, 7, 8, 9, 10] [] [] _ rfl rfl (by kernel_rfl) (by kernel_rfl) rfl (by repeat first | exact PanicOk.fn | refine PanicOk.then_ ?_ | refine PanicOk.inB ?_) (Ent.refl _) ?_ | refine Nx.p_drawF (id := 2) rfl [0, 1, 2, 3, 4, 5, 6, 7, 8, 9, 10, 11, 12, 13, 14, 15, 16, 17, 18, 19, 20, 21, 22, 23, 24, 25, 26, 27, 28, 29, 30, 31, 32, 33, 34, 35] [33] [] _ rfl rfl (by kernel_rfl) (by kernel_rfl) rfl (by repeat first | exact PanicOk.fn | refine PanicOk.then_ ?_ | refine PanicOk.inB ?_) (Ent.refl _) ?_ | refine Nx.p_drawF (id := 8) rfl [0, 1, 2, 3, 4, 5, 6, 7, 8, 9, 10, 11, 12, 13, 14, 15, 16, 17, 18] [] [19, 20] _ rfl rfl (by kernel_rfl) (by kernel_rfl) rfl (by repeat first | exact PanicOk.fn | refine PanicOk.then_ ?_ | refine PanicOk.inB ?_) (Ent.refl _) ?_ | refine Nx.p_drawF (id := 11) rfl [0, 1, 2, 3, 4, 5, 6, 7, 8, 9, 10, 11, 12, 13, 14, 15, 16, 17, 18, 19] [] [20, 21] _ rfl rfl (by kernel_rfl) (by kernel_rfl) rfl (by repeat first | exact PanicOk.fn | refine PanicOk.then_ ?_ | refine PanicOk.inB ?_) (Ent.refl _) ?_ | refine Nx.p_drawF (id := 15) rfl [0, 1, 2, 3, 4, 5, 6, 7, 8, 9, 10] [8, 9] [] _ rfl rfl (by kernel_rfl) (by kernel_rfl) rfl (by repeat first | exact PanicOk.fn | refine PanicOk.then_ ?_ | refine PanicOk.inB ?_) (Ent.refl _) ?_ | refine Nx.p_drawF (id := 16) rfl [0, 1, 2, 3, 4, 5, 6, 7, 8, 9, 10, 13, 11, 12] [11] [] _ rfl rfl (by kernel_rfl) (by kernel_rfl) rfl (by repeat first | exact PanicOk.fn | refine PanicOk.then_ ?_ | refine PanicOk.inB ?_) (Ent.refl _) ?_ | refine Nx.p_drawF (id := 19) rfl [0, 1, 2, 3, 4, 5, 6, 7, 8, 9, 10, 11, 12, 13, 14, 15, 16, 17, 18, 19, 20, 21, 22, 23, 24, 25] [17, 20, 23] [26] _ rfl rfl (by kernel_rfl) (by kernel_rfl) rfl (by repeat first | exact PanicOk.fn | refine PanicOk.then_ ?_ | refine PanicOk.inB ?_) (Ent.refl _) ?_ | refine Nx.p_drawF (id := 20) rfl [0, 1, 2, 3, 4, 5, 6, 7, 8, 9, 10, 11, 12, 13, 14, 15] [] [16] _ rfl rfl (by kernel_rfl) (by kernel_rfl) rfl (by repeat first | exact PanicOk.fn | refine PanicOk.then_ ?_ | refine PanicOk.inB ?_) (Ent.refl _) ?_ | refine Nx.zp (fun hc => ?_) (fun hc => ?_))
    | (refine Nx.zo ?_; first | refine Nx.opr rfl rfl ?_ | refine Nx.store_blk 0 rfl rfl rfl (xC_set hm3) rfl rfl rfl ?_ | (refine Nx.call rfl rfl rfl (by kernel_rfl) rfl ihk (by (exact Ent.auto)) ?_; rintro _ _ ⟨r, o2, f2, row2, all2, rfl, h2l, h2t, h2g, h2n, rfl⟩) | refine Nx.so ?_ | refine Nx.sb (fun bx => ?_) | refine Nx.sa (fun A2 c2 => ?_))
    | ((with_reducible refine Nx.is_at ?_); first | refine Nx.a ?_ | refine Nx.zd ?_ | refine Nx.zs (fun hc => ?_) (fun hc => ?_))
    | ((with_reducible refine Nx.is_mix ?_); first | refine Nx.m_quiet rfl rfl rfl rfl rfl (by first | exact QRun.opr rfl | exact QRun.bin rfl rfl (run_remK (by omega) (by omega) hrem) | exact QRun.idxArr (i := m) (n := 12) (sz := 1) (o := 0 + 5) rfl rfl rfl rfl (by rw [Nat.blt_eq]; omega) | exact QRun.load rfl rfl (Rd.at_ 0 rfl (xC_col hm3)) | exact QRun.add rfl rfl hfm) ?_ | refine Nx.m_quiet_do rfl rfl rfl rfl rfl rfl rfl (by first | exact QRun.opr rfl | exact QRun.bin rfl rfl (run_remK (by omega) (by omega) hrem) | exact QRun.idxArr (i := m) (n := 12) (sz := 1) (o := 0 + 5) rfl rfl rfl rfl (by rw [Nat.blt_eq]; omega) | exact QRun.load rfl rfl (Rd.at_ 0 rfl (xC_col hm3)) | exact QRun.add rfl rfl hfm) ?_ | refine Nx.m ?_ | refine Nx.zm ?_ | refine Nx.zt (fun hc => ?_) (fun hc => ?_))
    | refine Nx.zx ?_ | fail
  · exact Nx.imm_le hI2 (Nx.ret_fn rfl [_, _] ⟨true, o2, f2, row2, all2, rfl, h2l, htk o2 h2l h2t, fun _ => h2g hc, fun h => (by cases h), rfl⟩ (by (exact Ent.auto)))
  · refine Nx.again (k + 1, o2, f2, row2, all2) ⟨hkl, h2l, htk o2 h2l h2t, fun j hj z hz hzi hg => ?_⟩ (by dsimp only; omega) ⟨rfl, rfl, rfl, rfl, rfl, rfl, rfl, rfl, trivial⟩ (by (exact Ent.auto))
    by_cases hjk : j < k
    · exact hno j hjk z hz hzi hg
    · obtain rfl : j = k := by dsimp only at hj; omega
      exact h2n hc z (hset z hg.len hz (hzi.trans hv)) hg
end Go.Proofs.YtjnhoemgceghlaaGreat
/- Contracts of functions of the given program, and lemmas about plain lists and numbers: what the laws of this seat lean on. -/
namespace Go.Proofs.YtjnhoemgceghlaaGreat
open Go.Eng
attribute [local irreducible] opK wpList Code.wp Exit.then Exit.inBlock fnPost bodyPost Nx Calls Oper.wp Rd Rds Wr Ent Stars Blk Again Vec FnSpec wpMix QRun Stop Upto wpAt
/-! Rounding: the whole search -/
theorem ac_same {c R i k : Nat} {o z : List Int} (h : z.take i = o.take i) : ac c R (at0 z) i k = ac c R (at0 o) i k := ac_congr fun _ hj => take_at0 h hj
set_option maxRecDepth 10000 in
set_option maxHeartbeats 16000000 in
theorem next_tail (c R : Nat) (b : Int) (t wl : List Int) (I : PH) (At Ao Aw : Option Addr) (ct co cw b1 i : Nat) (ht : Ints I At ct t) (hwl : Ints I Aw cw wl) (hs : Srch c R b t wl) (o : List Int) (f : Nat → Int) (row all : Int) (hw : Where c R b t o i f row all)
    (hr : 0 < i → i % c = 0 → nearB (ac c R (at0 t) (R * c) (i / c - 1)) (ac c R (at0 o) i (i / c - 1)) b = true)
    (ih : i < R * c → ∀ I', PH.le I I' → ∀ (o : List Int) (f : Nat → Int) (row all : Int), Where c R b t o (i + 1) f row all → FnSpec Tryz.prog 46 [.pointer (some ⟨b1, 0, none⟩), .int .i64 ((i : Int) + 1)] I' (nextR c b t wl b1 At Ao Aw ct co cw o f row all) (nextPost c R b t wl b1 At Ao Aw ct co cw (i + 1) o))
    (w : World) (F : Res) :
    Nx ⟨Tryz.prog, 195, w⟩ [(0, .pointer (some ⟨b1, 0, none⟩)), (1, .int .i64 (i : Int)), (5, .int .i64 (R : Int))] I (nextR c b t wl b1 At Ao Aw ct co cw o f row all ++ [F])
      (Code.wp Tryz.prog (cr (cr (cr (bodyOf Tryz.f46)))) (fnPost Tryz.prog Tryz.f46 I F w (nextPost c R b t wl b1 At Ao Aw ct co cw i o))) := by
  have hcc := hs.hc
  have hR := hs.hR
  have hb := hs.hb
  have hl := hs.hl
  have hfew := hs.few
  have hol := hw.pre.len
  have hrb := hw.rbd hs
  show Nx _ _ _ [Blk b1 88 (xC (c : Int) b (.slice At t.length ct) (.slice Ao t.length co) (.slice Aw wl.length cw) f row all), Vec 3 1 Ao t.length co (o.map (Value.int .i64)), F] _
  by_cases hin : i < R * c
  · have hrem : (i : Int) % (c : Int) = ((i % c : Nat) : Int) := (Int.natCast_emod i c).symm
    have h2 := next_two c R b t wl I At Ao Aw ct co cw b1 i ht hs hin o f row all hw hr (ih hin) w F
    by_cases hm0 : i % c = 0
    · rw [ac_new hcc.1 hin hm0] at h2
      rw [hm0] at hrem
      clear ih hr
      repeat' first
        | ((with_reducible refine Nx.is_wp ?_); first | refine Nx.p_stopr 15 rfl ?_ | refine Nx.wo ?_ | refine Nx.zp (fun hc => ?_) (fun hc => ?_))
        | (refine Nx.zo ?_; first | refine Nx.opr rfl rfl ?_ | refine Nx.bin rfl rfl (run_remK (by omega) (by omega) hrem) rfl ?_ | refine Nx.so ?_ | refine Nx.sb (fun bx => ?_) | refine Nx.sa (fun A2 c2 => ?_))
        | ((with_reducible refine Nx.is_at ?_); first | refine Nx.a ?_ | refine Nx.zd ?_ | refine Nx.zs (fun hc => ?_) (fun hc => ?_))
        | ((with_reducible refine Nx.is_mix ?_); first | refine Nx.m ?_ | refine Nx.zm ?_ | refine Nx.zt (fun hc => ?_) (fun hc => ?_))
        | refine Nx.zx ?_ | fail
      refine Nx.unstop ?_
      exact Nx.weak (by exact ⟨rfl, rfl, rfl, trivial⟩) (by (exact Ent.auto)) h2
    · have hi0 : i ≠ 0 := fun h => hm0 (by rw [h]; exact Nat.zero_mod c)
      have hrow := hw.row
      rw [if_neg hi0, div_pred hcc.1 hm0] at hrow
      rw [← hrow] at h2
      obtain ⟨m, hm⟩ : ∃ m, m = i % c := ⟨_, rfl⟩
      rw [← hm] at hrem hm0
      clear ih hr hm
      repeat' first
        | ((with_reducible refine Nx.is_wp ?_); first | refine Nx.p_stopr 15 rfl ?_ | refine Nx.wo ?_ | refine Nx.zp (fun hc => ?_) (fun hc => ?_))
        | (refine Nx.zo ?_; first | refine Nx.opr rfl rfl ?_ | refine Nx.bin rfl rfl (run_remK (by omega) (by omega) hrem) rfl ?_ | refine Nx.so ?_ | refine Nx.sb (fun bx => ?_) | refine Nx.sa (fun A2 c2 => ?_))
        | ((with_reducible refine Nx.is_at ?_); first | refine Nx.a ?_ | refine Nx.zd ?_ | refine Nx.zs (fun hc => ?_) (fun hc => ?_))
        | ((with_reducible refine Nx.is_mix ?_); first | refine Nx.m ?_ | refine Nx.zm ?_ | refine Nx.zt (fun hc => ?_) (fun hc => ?_))
        | refine Nx.zx ?_ | fail
      refine Nx.unstop ?_
      exact Nx.weak (by exact ⟨rfl, rfl, rfl, trivial⟩) (by (exact Ent.auto)) h2
  have hin : i = R * c := by have := hw.le; omega
  clear ih
  have hbad : ∀ k, k < R + c + 1 → nearB (ac c R (at0 t) (R * c) k) (ac c R (at0 o) i k) b = false → ∀ z : List Int, z.take i = o.take i → ¬ GoodT c R b t z := fun k hk hn z hz hg => by
    have := hg.sums k hk
    rw [← hin, ac_same hz, hin] at this
    rw [hin, this] at hn
    cases hn
  have hall := hw.abd hs (R + c)
  repeat' first
    | ((with_reducible refine Nx.is_wp ?_); first | refine Nx.wo ?_ | refine Nx.zp (fun hc => ?_) (fun hc => ?_))
    | (refine Nx.zo ?_; first | refine Nx.opr rfl rfl ?_ | refine Nx.so ?_ | refine Nx.sb (fun bx => ?_) | refine Nx.sa (fun A2 c2 => ?_))
    | ((with_reducible refine Nx.is_at ?_); first | refine Nx.a ?_ | refine Nx.zd ?_ | refine Nx.zs (fun hc => ?_) (fun hc => ?_))
    | ((with_reducible refine Nx.is_mix ?_); first | refine Nx.m ?_ | refine Nx.zm ?_ | refine Nx.zt (fun hc => ?_) (fun hc => ?_))
    | refine Nx.zx ?_ | fail
  refine Nx.p_loop (σ := Nat) (fun k => [(0, .pointer (some ⟨b1, 0, none⟩)), (1, .int .i64 (i : Int)), (5, .int .i64 (R : Int)), (68, .int .i64 (c : Int)), (69, .int .i64 (k : Int))])
    (fun _ => [Blk b1 88 (xC (c : Int) b (.slice At t.length ct) (.slice Ao t.length co) (.slice Aw wl.length cw) f row all), Vec 3 1 Ao t.length co (o.map (Value.int .i64)), F]) (fun k => k ≤ c ∧ ∀ j, j < k → nearB (ac c R (at0 t) (R * c) (R + j)) (ac c R (at0 o) i (R + j)) b = true) (fun k => c - k) 0 rfl
    ⟨Nat.zero_le _, fun j hj => absurd hj (Nat.not_lt_zero _)⟩ ⟨rfl, rfl, rfl, rfl, rfl, trivial⟩ (by (exact Ent.auto)) ?_
  rintro k ⟨hk, hdone⟩
  have hRk : (R : Int) + (k : Int) = ((R + k : Nat) : Int) := by omega
  have hwr : ∀ (W : World) (Q : List Res), Rd W I Q ((ad Aw).add ((R + k) * 1)) (.int .i64 (ac c R (at0 t) (R * c) (R + k))) := fun W Q => by
    have := hwl.rd (W := W) (R := Q) (k := R + k) (by rw [hs.wlen]; omega)
    rw [show wl.getD (R + k) default = ac c R (at0 t) (R * c) (R + k) from hs.want _ (by omega)] at this
    exact this
  have hwb := hs.wbd (k := R + k) (by omega)
  rw [hs.want _ (by omega)] at hwb
  have hAw := hwl.isSome (by rw [hs.wlen]; omega)
  have hwlen := hs.wlen
  by_cases hkc : k < c
  case neg =>
    obtain rfl : k = c := by omega
    have hN := rndNear_spec (ac k R (at0 t) (R * k) (R + k)) all b (by omega) (by rw [hw.all]; exact hall.1) (by omega) I
    have hg : nearB (ac k R (at0 t) (R * k) (R + k)) all b = true → GoodT k R b t o := fun h => by
      have hp : PreT k R b t o (R * k) := hin ▸ hw.pre
      rw [hw.all, hin] at h
      refine hp.good hcc.1 ?_ (fun j hj => ?_) h
      · have := hr (by rw [hin]; exact Nat.mul_pos (by omega) (by omega)) (by rw [hin]; exact Nat.mul_mod_left _ _)
        rwa [hin] at this
      · have := hdone j hj
        rwa [hin] at this
    have hng : nearB (ac k R (at0 t) (R * k) (R + k)) all b = false → ∀ z : List Int, z.take i = o.take i → ¬ GoodT k R b t z := fun h => hbad (R + k) (by omega) (by rwa [hw.all] at h)
    generalize nearB (ac k R (at0 t) (R * k) (R + k)) all b = res at hN hg hng
    repeat' first
      | ((with_reducible refine Nx.is_wp ?_); first | refine Nx.wo ?_ | refine Nx.p_drawF (id := 1) rfl [0, 1, 2, 3, 4, 5, 6, 7, 8, 9, 10] [] [] _ rfl rfl (by kernel_rfl) (by kernel_rfl) rfl (by repeat first | exact PanicOk.fn | refine PanicOk.then_ ?_ | refine PanicOk.inB ?_) (Ent.refl _) ?_ | refine Nx.p_drawF (id := 2) rfl [0, 1, 2, 3, 4, 5, 6, 7, 8, 9, 10, 11, 12, 13, 14, 15, 16, 17, 18, 19, 20, 21, 22, 23, 24, 25, 26, 27, 28, 29, 30, 31, 32, 33, 34, 35] [33] [] _ rfl rfl (by kernel_rfl) (by kernel_rfl) rfl (by repeat first | exact PanicOk.fn | refine PanicOk.then_ ?_ | refine PanicOk.inB ?_) (Ent.refl _) ?_ | refine Nx.p_drawF (id := 8) rfl [0, 1, 2, 3, 4, 5, 6, 7, 8, 9, 10, 11, 12, 13, 14, 15, 16, 17, 18] [] [19, 20] _ rfl rfl (by kernel_rfl) (by kernel_rfl) rfl (by repeat first | exact PanicOk.fn | refine PanicOk.then_ ?_ | refine PanicOk.inB ?_) (Ent.refl _) ?_ | refine Nx.p_drawF (id := 11) rfl [0, 1, 2, 3, 4, 5, 6, 7, 8, 9, 10, 11, 12, 13, 14, 15, 16, 17, 18, 19] [] [20, 21] _ rfl rfl (by kernel_rfl) (by kernel_rfl) rfl (by repeat first | exact PanicOk.fn | refine PanicOk.then_ ?_ | refine PanicOk.inB ?_) (Ent.refl _) ?_ | refine Nx.p_drawF (id := 15) rfl [0, 1, 2, 3, 4, 5, 6, 7, 8, 9, 10] [8, 9] [] _ rfl rfl (by kernel_rfl) (by kernel_rfl) rfl (by repeat first | exact PanicOk.fn | refine PanicOk.then_ ?_ | refine PanicOk.inB ?_) (Ent.refl _) ?_ | refine Nx.p_drawF (id := 16) rfl [0, 1, 2, 3, 4, 5, 6, 7, 8, 9, 10, 13, 11, 12] [11] [] _ rfl rfl (by kernel_rfl) (by kernel_rfl) rfl (by repeat first | exact PanicOk.fn | refine PanicOk.then_ ?_ | refine PanicOk.inB ?_) (Ent.refl _) ?_ | refine Nx.p_drawF (id := 19) rfl [0, 1, 2, 3, 4, 5, 6, 7, 8, 9, 10, 11, 12, 13, 14, 15, 16, 17, 18, 19, 20, 21, 22, 23, 24, 25] [17, 20, 23] [26] _ rfl rfl (by kernel_rfl) (by kernel_rfl) rfl (by repeat first | exact PanicOk.fn | refine PanicOk.then_ ?_ | refine PanicOk.inB ?_) (Ent.refl _) ?_ | refine Nx.p_drawF (id := 20) rfl [0, 1, 2, 3, 4, 5, 6, 7, 8, 9, 10, 11, 12, 13, 14, 15] [] [16] _ rfl rfl (by kernel_rfl) (by kernel_rfl) rfl (by repeat first | exact PanicOk.fn | refine PanicOk.then_ ?_ | refine PanicOk.inB ?_) (Ent.refl _) ?_ | refine Nx.zp (fun hc => ?_) (fun hc => ?_))
      | (refine Nx.zo ?_; first | refine Nx.opr rfl rfl ?_ | refine Nx.callv rfl rfl rfl (by kernel_rfl) rfl hN ?_ | refine Nx.so ?_ | refine Nx.sb (fun bx => ?_) | refine Nx.sa (fun A2 c2 => ?_))
      | ((with_reducible refine Nx.is_at ?_); first | refine Nx.a ?_ | refine Nx.zd ?_ | refine Nx.zs (fun hc => ?_) (fun hc => ?_))
      | ((with_reducible refine Nx.is_mix ?_); first | refine Nx.m_quiet rfl rfl rfl rfl rfl (by first | exact QRun.opr rfl | exact QRun.bin rfl rfl (run_addK (by unfold I64; omega) hRk) | exact QRun.idx (A := Aw) (i := R + k) (sz := 1) rfl rfl rfl rfl (by omega) hAw | exact QRun.load rfl rfl (hwr _ _)) ?_ | refine Nx.m_quiet_do rfl rfl rfl rfl rfl rfl rfl (by first | exact QRun.opr rfl | exact QRun.bin rfl rfl (run_addK (by unfold I64; omega) hRk) | exact QRun.idx (A := Aw) (i := R + k) (sz := 1) rfl rfl rfl rfl (by omega) hAw | exact QRun.load rfl rfl (hwr _ _)) ?_ | refine Nx.m ?_ | refine Nx.zm ?_ | refine Nx.zt (fun hc => ?_) (fun hc => ?_))
      | refine Nx.zx ?_ | fail
    exact Nx.ret_fn rfl [_, _] ⟨res, o, f, row, all, rfl, hol, rfl, hg, hng, rfl⟩ (by (exact Ent.auto))
  have hcb := hw.abd hs (R + k)
  rw [← hw.col k hkc] at hcb
  have hN := rndNear_spec (ac c R (at0 t) (R * c) (R + k)) (f k) b (by omega) hcb.1 (by omega) I
  have hk3 : k < 3 := by omega
  cases hres : nearB (ac c R (at0 t) (R * c) (R + k)) (f k) b with
  | true =>
    rw [hres] at hN
    repeat' first
      | ((with_reducible refine Nx.is_wp ?_); first | refine Nx.wo ?_ | refine Nx.p_drawF (id := 1) rfl [0, 1, 2, 3, 4, 5, 6, 7, 8, 9, 10] [] [] _ rfl rfl (by kernel_rfl) (by kernel_rfl) rfl (by repeat first | exact PanicOk.fn | refine PanicOk.then_ ?_ | refine PanicOk.inB ?_) (Ent.refl _) ?_ | refine Nx.p_drawF (id := 2) rfl [0, 1, 2, 3, 4, 5, 6, 7, 8, 9, 10, 11, 12, 13, 14, 15, 16, 17, 18, 19, 20, 21, 22, 23, 24, 25, 26, 27, 28, 29, 30, 31, 32, 33, 34, 35] [33] [] _ rfl rfl (by kernel_rfl) (by kernel_rfl) rfl (by repeat first | exact PanicOk.fn | refine PanicOk.then_ ?_ | refine PanicOk.inB ?_) (Ent.refl _) ?_ | refine Nx.p_drawF (id := 8) rfl [0, 1, 2, 3, 4, 5, 6, 7, 8, 9, 10, 11, 12, 13, 14, 15, 16, 17, 18] [] [19, 20] _ rfl rfl (by kernel_rfl) (by kernel_rfl) rfl (by repeat first | exact PanicOk.fn | refine PanicOk.then_ ?_ | refine PanicOk.inB ?_) (Ent.refl _) ?_ | refine Nx.p_drawF (id := 11) rfl [0, 1, 2, 3, 4, 5, 6, 7, 8, 9, 10, 11, 12, 13, 14, 15, 16, 17, 18, 19] [] [20, 21] _ rfl rfl (by kernel_rfl) (by kernel_rfl) rfl (by repeat first | exact PanicOk.fn | refine PanicOk.then_ ?_ | refine PanicOk.inB ?_) (Ent.refl _) ?_ | refine Nx.p_drawF (id := 15) rfl [0, 1, 2, 3, 4, 5, 6, 7, 8, 9, 10] [8, 9] [] _ rfl rfl (by kernel_rfl) (by kernel_rfl) rfl (by repeat first | exact PanicOk.fn | refine PanicOk.then_ ?_ | refine PanicOk.inB ?_) (Ent.refl _) ?_ | refine Nx.p_drawF (id := 16) rfl [0, 1, 2, 3, 4, 5, 6, 7, 8, 9, 10, 13, 11, 12] [11] [] _ rfl rfl (by kernel_rfl) (by kernel_rfl) rfl (by repeat first | exact PanicOk.fn | refine PanicOk.then_ ?_ | refine PanicOk.inB ?_) (Ent.refl _) ?_ | refine Nx.p_drawF (id := 19) rfl [0, 1, 2, 3, 4, 5, 6, 7, 8, 9, 10, 11, 12, 13, 14, 15, 16, 17, 18, 19, 20, 21, 22, 23, 24, 25] [17, 20, 23] [26] _ rfl rfl (by kernel_rfl) (by kernel_rfl) rfl (by repeat first | exact PanicOk.fn | refine PanicOk.then_ ?_ | refine PanicOk.inB ?_) (Ent.refl _) ?_ | refine Nx.p_drawF (id := 20) rfl [0, 1, 2, 3, 4, 5, 6, 7, 8, 9, 10, 11, 12, 13, 14, 15] [] [16] _ rfl rfl (by kernel_rfl) (by kernel_rfl) rfl (by repeat first | exact PanicOk.fn | refine PanicOk.then_ ?_ | refine PanicOk.inB ?_) (Ent.refl _) ?_ | refine Nx.zp (fun hc => ?_) (fun hc => ?_))
      | (refine Nx.zo ?_; first | refine Nx.opr rfl rfl ?_ | refine Nx.callv rfl rfl rfl (by kernel_rfl) rfl hN ?_ | refine Nx.so ?_ | refine Nx.sb (fun bx => ?_) | refine Nx.sa (fun A2 c2 => ?_))
      | ((with_reducible refine Nx.is_at ?_); first | refine Nx.a ?_ | refine Nx.zd ?_ | refine Nx.zs (fun hc => ?_) (fun hc => ?_))
      | ((with_reducible refine Nx.is_mix ?_); first | refine Nx.m_quiet rfl rfl rfl rfl rfl (by first | exact QRun.opr rfl | exact QRun.bin rfl rfl (run_addK (by unfold I64; omega) hRk) | exact QRun.idx (A := Aw) (i := R + k) (sz := 1) rfl rfl rfl rfl (by omega) hAw | exact QRun.load rfl rfl (hwr _ _) | exact QRun.idxArr (i := k) (n := 12) (sz := 1) (o := 0 + 5) rfl rfl rfl rfl (by rw [Nat.blt_eq]; omega) | exact QRun.load rfl rfl (Rd.at_ 0 rfl (xC_col hk3))) ?_ | refine Nx.m_quiet_do rfl rfl rfl rfl rfl rfl rfl (by first | exact QRun.opr rfl | exact QRun.bin rfl rfl (run_addK (by unfold I64; omega) hRk) | exact QRun.idx (A := Aw) (i := R + k) (sz := 1) rfl rfl rfl rfl (by omega) hAw | exact QRun.load rfl rfl (hwr _ _) | exact QRun.idxArr (i := k) (n := 12) (sz := 1) (o := 0 + 5) rfl rfl rfl rfl (by rw [Nat.blt_eq]; omega) | exact QRun.load rfl rfl (Rd.at_ 0 rfl (xC_col hk3))) ?_ | refine Nx.m ?_ | refine Nx.zm ?_ | refine Nx.zt (fun hc => ?_) (fun hc => ?_))
      | refine Nx.zx ?_ | fail
    refine Nx.again (k + 1) ⟨hkc, fun j hj => ?_⟩ (by omega) ⟨rfl, rfl, rfl, rfl, rfl, trivial⟩ (by (exact Ent.auto))
    by_cases hjk : j < k
    · exact hdone j hjk
    · obtain rfl : j = k := by omega
      rwa [hw.col j hkc] at hres
  | false =>
    rw [hres] at hN
    repeat' first
      | ((with_reducible refine Nx.is_wp ?_); first | refine Nx.wo ?_ | refine Nx.p_drawF (id := 1) rfl [0, 1, 2, 3, 4, 5, 6, 7, 8, 9, 10] [] [] _ rfl rfl (by kernel_rfl) (by kernel_rfl) rfl (by repeat first | exact PanicOk.fn | refine PanicOk.then_ ?_ | refine PanicOk.inB ?_) (Ent.refl _) ?_ | refine Nx.p_drawF (id := 2) rfl [0, 1, 2, 3, 4, 5, 6, 7, 8, 9, 10, 11, 12, 13, 14, 15, 16, 17, 18, 19, 20, 21, 22, 23, 24, 25, 26, 27, 28, 29, 30, 31, 32, 33, 34, 35] [33] [] _ rfl rfl (by kernel_rfl) (by kernel_rfl) rfl (by repeat first | exact PanicOk.fn | refine PanicOk.then_ ?_ | refine PanicOk.inB ?_) (Ent.refl _) ?_ | refine Nx.p_drawF (id := 8) rfl [0, 1, 2, 3, 4, 5, 6, 7, 8, 9, 10, 11, 12, 13, 14, 15, 16, 17, 18] [] [19, 20] _ rfl rfl (by kernel_rfl) (by kernel_rfl) rfl (by repeat first | exact PanicOk.fn | refine PanicOk.then_ ?_ | refine PanicOk.inB ?_) (Ent.refl _) ?_ | refine Nx.p_drawF (id := 11) rfl [0, 1, 2, 3, 4, 5, 6, 7, 8, 9, 10, 11, 12, 13, 14, 15, 16, 17, 18, 19] [] [20, 21] _ rfl rfl (by kernel_rfl) (by kernel_rfl) rfl (by repeat first | exact PanicOk.fn | refine PanicOk.then_ ?_ | refine PanicOk.inB ?_) (Ent.refl _) ?_ | refine Nx.p_drawF (id := 15) rfl [0, 1, 2, 3, 4, 5, 6, 7, 8, 9, 10] [8, 9] [] _ rfl rfl (by kernel_rfl) (by kernel_rfl) rfl (by repeat first | exact PanicOk.fn | refine PanicOk.then_ ?_ | refine PanicOk.inB ?_) (Ent.refl _) ?_ | refine Nx.p_drawF (id := 16) rfl [0, 1, 2, 3, 4, 5, 6, 7, 8, 9, 10, 13, 11, 12] [11] [] _ rfl rfl (by kernel_rfl) (by kernel_rfl) rfl (by repeat first | exact PanicOk.fn | refine PanicOk.then_ ?_ | refine PanicOk.inB ?_) (Ent.refl _) ?_ | refine Nx.p_drawF (id := 19) rfl [0, 1, 2, 3, 4, 5, 6, 7, 8, 9, 10, 11, 12, 13, 14, 15, 16, 17, 18, 19, 20, 21, 22, 23, 24, 25] [17, 20, 23] [26] _ rfl rfl (by kernel_rfl) (by kernel_rfl) rfl (by repeat first | exact PanicOk.fn | refine PanicOk.then_ ?_ | refine PanicOk.inB ?_) (Ent.refl _) ?_ | refine Nx.p_drawF (id := 20) rfl [0, 1, 2, 3, 4, 5, 6, 7, 8, 9, 10, 11, 12, 13, 14, 15] [] [16] _ rfl rfl (by kernel_rfl) (by kernel_rfl) rfl (by repeat first | exact PanicOk.fn | refine PanicOk.then_ ?_ | refine PanicOk.inB ?_) (Ent.refl _) ?_ | refine Nx.zp (fun hc => ?_) (fun hc => ?_))
      | (refine Nx.zo ?_; first | refine Nx.opr rfl rfl ?_ | refine Nx.callv rfl rfl rfl (by kernel_rfl) rfl hN ?_ | refine Nx.so ?_ | refine Nx.sb (fun bx => ?_) | refine Nx.sa (fun A2 c2 => ?_))
      | ((with_reducible refine Nx.is_at ?_); first | refine Nx.a ?_ | refine Nx.zd ?_ | refine Nx.zs (fun hc => ?_) (fun hc => ?_))
      | ((with_reducible refine Nx.is_mix ?_); first | refine Nx.m_quiet rfl rfl rfl rfl rfl (by first | exact QRun.opr rfl | exact QRun.bin rfl rfl (run_addK (by unfold I64; omega) hRk) | exact QRun.idx (A := Aw) (i := R + k) (sz := 1) rfl rfl rfl rfl (by omega) hAw | exact QRun.load rfl rfl (hwr _ _) | exact QRun.idxArr (i := k) (n := 12) (sz := 1) (o := 0 + 5) rfl rfl rfl rfl (by rw [Nat.blt_eq]; omega) | exact QRun.load rfl rfl (Rd.at_ 0 rfl (xC_col hk3))) ?_ | refine Nx.m_quiet_do rfl rfl rfl rfl rfl rfl rfl (by first | exact QRun.opr rfl | exact QRun.bin rfl rfl (run_addK (by unfold I64; omega) hRk) | exact QRun.idx (A := Aw) (i := R + k) (sz := 1) rfl rfl rfl rfl (by omega) hAw | exact QRun.load rfl rfl (hwr _ _) | exact QRun.idxArr (i := k) (n := 12) (sz := 1) (o := 0 + 5) rfl rfl rfl rfl (by rw [Nat.blt_eq]; omega) | exact QRun.load rfl rfl (Rd.at_ 0 rfl (xC_col hk3))) ?_ | refine Nx.m ?_ | refine Nx.zm ?_ | refine Nx.zt (fun hc => ?_) (fun hc => ?_))
      | refine Nx.zx ?_ | fail
    exact Nx.ret_fn rfl [_, _] ⟨false, o, f, row, all, rfl, hol, rfl, fun h => (by cases h), fun _ => hbad (R + k) (by omega) (by rwa [hw.col k hkc] at hres), rfl⟩ (by (exact Ent.auto))
set_option maxRecDepth 10000 in
set_option maxHeartbeats 16000000 in
theorem next_body (c R : Nat) (b : Int) (t wl : List Int) (I : PH) (At Ao Aw : Option Addr) (ct co cw b1 i : Nat) (ht : Ints I At ct t) (hwl : Ints I Aw cw wl) (hs : Srch c R b t wl) (o : List Int) (f : Nat → Int) (row all : Int) (hw : Where c R b t o i f row all)
    (ih : i < R * c → ∀ I', PH.le I I' → ∀ (o : List Int) (f : Nat → Int) (row all : Int), Where c R b t o (i + 1) f row all → FnSpec Tryz.prog 46 [.pointer (some ⟨b1, 0, none⟩), .int .i64 ((i : Int) + 1)] I' (nextR c b t wl b1 At Ao Aw ct co cw o f row all) (nextPost c R b t wl b1 At Ao Aw ct co cw (i + 1) o)) :
    FnSpec Tryz.prog 46 [.pointer (some ⟨b1, 0, none⟩), .int .i64 (i : Int)] I (nextR c b t wl b1 At Ao Aw ct co cw o f row all) (nextPost c R b t wl b1 At Ao Aw ct co cw i o) := by
  have hcc := hs.hc
  have hR := hs.hR
  have hb := hs.hb
  have hl := hs.hl
  have hfew := hs.few
  have hol := hw.pre.len
  have hrb := hw.rbd hs
  have hle := hw.le
  have hdiv : (t.length : Int) / (c : Int) = (R : Int) := by rw [hl, Int.natCast_mul, Int.mul_ediv_cancel _ (by omega)]
  have hrem : (i : Int) % (c : Int) = ((i % c : Nat) : Int) := (Int.natCast_emod i c).symm
  have hquo : (i : Int) / (c : Int) = ((i / c : Nat) : Int) := (Int.natCast_ediv i c).symm
  have htail := fun hr w F => next_tail c R b t wl I At Ao Aw ct co cw b1 i ht hwl hs o f row all hw hr ih w F
  have hdm := Nat.div_add_mod i c
  refine FnSpec.enterP Tryz.func46 rfl Tryz.ntmps46 rfl fun w F => ?_
  show Nx _ _ _ [Blk b1 88 (xC (c : Int) b (.slice At t.length ct) (.slice Ao t.length co) (.slice Aw wl.length cw) f row all), Vec 3 1 Ao t.length co (o.map (Value.int .i64)), F] _
  clear ih
  by_cases hi0 : i = 0
  · have ht2 := htail (fun h => absurd h (by omega)) w F
    clear htail
    subst hi0
    repeat' first
      | ((with_reducible refine Nx.is_wp ?_); first | refine Nx.p_stops 4 rfl ?_ | refine Nx.wo ?_ | refine Nx.p_drawF (id := 1) rfl [0, 1, 2, 3, 4, 5, 6, 7, 8, 9, 10] [] [] _ rfl rfl (by kernel_rfl) (by kernel_rfl) rfl (by repeat first | exact PanicOk.fn | refine PanicOk.then_ ?_ | refine PanicOk.inB ?_) (Ent.refl _) ?_ | refine Nx.p_drawF (id := 2) rfl [0, 1, 2, 3, 4, 5, 6, 7, 8, 9, 10, 11, 12, 13, 14, 15, 16, 17, 18, 19, 20, 21, 22, 23, 24, 25, 26, 27, 28, 29, 30, 31, 32, 33, 34, 35] [33] [] _ rfl rfl (by kernel_rfl) (by kernel_rfl) rfl (by repeat first | exact PanicOk.fn | refine PanicOk.then_ ?_ | refine PanicOk.inB ?_) (Ent.refl _) ?_ | refine Nx.p_drawF (id := 8) rfl [0, 1, 2, 3, 4, 5, 6, 7, 8, 9, 10, 11, 12, 13, 14, 15, 16, 17, 18] [] [19, 20] _ rfl rfl (by kernel_rfl) (by kernel_rfl) rfl (by repeat first | exact PanicOk.fn | refine PanicOk.then_ ?_ | refine PanicOk.inB ?_) (Ent.refl _) ?_ | refine Nx.p_drawF (id := 11) rfl [0, 1, 2, 3, 4, 5, 6, 7, 8, 9, 10, 11, 12, 13, 14, 15, 16, 17, 18, 19] [] [20, 21] _ rfl rfl (by kernel_rfl) (by kernel_rfl) rfl (by repeat first | exact PanicOk.fn | refine PanicOk.then_ ?_ | refine PanicOk.inB ?_) (Ent.refl _) ?_ | refine Nx.p_drawF (id := 15) rfl [0, 1, 2, 3, 4, 5, 6, 7, 8, 9, 10] [8, 9] [] _ rfl rfl (by kernel_rfl) (by kernel_rfl) rfl (by repeat first | exact PanicOk.fn | refine PanicOk.then_ ?_ | refine PanicOk.inB ?_) (Ent.refl _) ?_ | refine Nx.p_drawF (id := 16) rfl [0, 1, 2, 3, 4, 5, 6, 7, 8, 9, 10, 13, 11, 12] [11] [] _ rfl rfl (by kernel_rfl) (by kernel_rfl) rfl (by repeat first | exact PanicOk.fn | refine PanicOk.then_ ?_ | refine PanicOk.inB ?_) (Ent.refl _) ?_ | refine Nx.p_drawF (id := 19) rfl [0, 1, 2, 3, 4, 5, 6, 7, 8, 9, 10, 11, 12, 13, 14, 15, 16, 17, 18, 19, 20, 21, 22, 23, 24, 25] [17, 20, 23] [26] _ rfl rfl (by kernel_rfl) (by kernel_rfl) rfl (by repeat first | exact PanicOk.fn | refine PanicOk.then_ ?_ | refine PanicOk.inB ?_) (Ent.refl _) ?_ | refine Nx.p_drawF (id := 20) rfl [0, 1, 2, 3, 4, 5, 6, 7, 8, 9, 10, 11, 12, 13, 14, 15] [] [16] _ rfl rfl (by kernel_rfl) (by kernel_rfl) rfl (by repeat first | exact PanicOk.fn | refine PanicOk.then_ ?_ | refine PanicOk.inB ?_) (Ent.refl _) ?_ | refine Nx.zp (fun hc => ?_) (fun hc => ?_))
      | (refine Nx.zo ?_; first | refine Nx.opr rfl rfl ?_ | refine Nx.so ?_ | refine Nx.sb (fun bx => ?_) | refine Nx.sa (fun A2 c2 => ?_))
      | ((with_reducible refine Nx.is_at ?_); first | refine Nx.a ?_ | refine Nx.zd ?_ | refine Nx.zs (fun hc => ?_) (fun hc => ?_))
      | ((with_reducible refine Nx.is_mix ?_); first | refine Nx.m_quiet rfl rfl rfl rfl rfl (by first | exact QRun.opr rfl | exact QRun.bin rfl rfl (run_quoK (by omega) (by omega) (by unfold I64; omega) hdiv)) ?_ | refine Nx.m_quiet_do rfl rfl rfl rfl rfl rfl rfl (by first | exact QRun.opr rfl | exact QRun.bin rfl rfl (run_quoK (by omega) (by omega) (by unfold I64; omega) hdiv)) ?_ | refine Nx.m ?_ | refine Nx.zm ?_ | refine Nx.zt (fun hc => ?_) (fun hc => ?_))
      | refine Nx.zx ?_ | fail
    refine Nx.unstop ?_
    exact Nx.weak (by exact ⟨rfl, rfl, rfl, trivial⟩) (by (exact Ent.auto)) ht2
  by_cases hm0 : i % c = 0
  case neg =>
    have ht2 := htail (fun _ h => absurd h hm0) w F
    clear htail hquo hdm
    generalize i % c = m at hrem hm0
    repeat' first
      | ((with_reducible refine Nx.is_wp ?_); first | refine Nx.p_stops 4 rfl ?_ | refine Nx.wo ?_ | refine Nx.p_drawF (id := 1) rfl [0, 1, 2, 3, 4, 5, 6, 7, 8, 9, 10] [] [] _ rfl rfl (by kernel_rfl) (by kernel_rfl) rfl (by repeat first | exact PanicOk.fn | refine PanicOk.then_ ?_ | refine PanicOk.inB ?_) (Ent.refl _) ?_ | refine Nx.p_drawF (id := 2) rfl [0, 1, 2, 3, 4, 5, 6, 7, 8, 9, 10, 11, 12, 13, 14, 15, 16, 17, 18, 19, 20, 21, 22, 23, 24, 25, 26, 27, 28, 29, 30, 31, 32, 33, 34, 35] [33] [] _ rfl rfl (by kernel_rfl) (by kernel_rfl) rfl (by repeat first | exact PanicOk.fn | refine PanicOk.then_ ?_ | refine PanicOk.inB ?_) (Ent.refl _) ?_ | refine Nx.p_drawF (id := 8) rfl [0, 1, 2, 3, 4, 5, 6, 7, 8, 9, 10, 11, 12, 13, 14, 15, 16, 17, 18] [] [19, 20] _ rfl rfl (by kernel_rfl) (by kernel_rfl) rfl (by repeat first | exact PanicOk.fn | refine PanicOk.then_ ?_ | refine PanicOk.inB ?_) (Ent.refl _) ?_ | refine Nx.p_drawF (id := 11) rfl [0, 1, 2, 3, 4, 5, 6, 7, 8, 9, 10, 11, 12, 13, 14, 15, 16, 17, 18, 19] [] [20, 21] _ rfl rfl (by kernel_rfl) (by kernel_rfl) rfl (by repeat first | exact PanicOk.fn | refine PanicOk.then_ ?_ | refine PanicOk.inB ?_) (Ent.refl _) ?_ | refine Nx.p_drawF (id := 15) rfl [0, 1, 2, 3, 4, 5, 6, 7, 8, 9, 10] [8, 9] [] _ rfl rfl (by kernel_rfl) (by kernel_rfl) rfl (by repeat first | exact PanicOk.fn | refine PanicOk.then_ ?_ | refine PanicOk.inB ?_) (Ent.refl _) ?_ | refine Nx.p_drawF (id := 16) rfl [0, 1, 2, 3, 4, 5, 6, 7, 8, 9, 10, 13, 11, 12] [11] [] _ rfl rfl (by kernel_rfl) (by kernel_rfl) rfl (by repeat first | exact PanicOk.fn | refine PanicOk.then_ ?_ | refine PanicOk.inB ?_) (Ent.refl _) ?_ | refine Nx.p_drawF (id := 19) rfl [0, 1, 2, 3, 4, 5, 6, 7, 8, 9, 10, 11, 12, 13, 14, 15, 16, 17, 18, 19, 20, 21, 22, 23, 24, 25] [17, 20, 23] [26] _ rfl rfl (by kernel_rfl) (by kernel_rfl) rfl (by repeat first | exact PanicOk.fn | refine PanicOk.then_ ?_ | refine PanicOk.inB ?_) (Ent.refl _) ?_ | refine Nx.p_drawF (id := 20) rfl [0, 1, 2, 3, 4, 5, 6, 7, 8, 9, 10, 11, 12, 13, 14, 15] [] [16] _ rfl rfl (by kernel_rfl) (by kernel_rfl) rfl (by repeat first | exact PanicOk.fn | refine PanicOk.then_ ?_ | refine PanicOk.inB ?_) (Ent.refl _) ?_ | refine Nx.zp (fun hc => ?_) (fun hc => ?_))
      | (refine Nx.zo ?_; first | refine Nx.opr rfl rfl ?_ | refine Nx.so ?_ | refine Nx.sb (fun bx => ?_) | refine Nx.sa (fun A2 c2 => ?_))
      | ((with_reducible refine Nx.is_at ?_); first | refine Nx.a ?_ | refine Nx.zd ?_ | refine Nx.zs (fun hc => ?_) (fun hc => ?_))
      | ((with_reducible refine Nx.is_mix ?_); first | refine Nx.m_quiet rfl rfl rfl rfl rfl (by first | exact QRun.opr rfl | exact QRun.bin rfl rfl (run_quoK (by omega) (by omega) (by unfold I64; omega) hdiv) | exact QRun.bin rfl rfl (run_remK (by omega) (by omega) hrem)) ?_ | refine Nx.m_quiet_do rfl rfl rfl rfl rfl rfl rfl (by first | exact QRun.opr rfl | exact QRun.bin rfl rfl (run_quoK (by omega) (by omega) (by unfold I64; omega) hdiv) | exact QRun.bin rfl rfl (run_remK (by omega) (by omega) hrem)) ?_ | refine Nx.m ?_ | refine Nx.zm ?_ | refine Nx.zt (fun hc => ?_) (fun hc => ?_))
      | refine Nx.zx ?_ | fail
    refine Nx.unstop ?_
    exact Nx.weak (by exact ⟨rfl, rfl, rfl, trivial⟩) (by (exact Ent.auto)) ht2
  have hrow := hw.row
  rw [if_neg hi0, div_pred0 hcc.1 (by omega) hm0] at hrow
  have hq1 : 1 ≤ i / c := by
    rcases Nat.eq_zero_or_pos (i / c) with h5 | h5
    · rw [h5, Nat.mul_zero] at hdm; omega
    · exact h5
  have hqR : i / c ≤ R := by
    refine Nat.le_of_not_lt fun hn => ?_
    have := Nat.mul_le_mul_left c (show R + 1 ≤ i / c by omega)
    rw [Nat.mul_add, Nat.mul_comm c R] at this
    omega
  rw [hm0] at hrem
  have hno : nearB (ac c R (at0 t) (R * c) (i / c - 1)) row b = false → ∀ z : List Int, z.take i = o.take i → ¬ GoodT c R b t z := fun h z hz hg => by
    have := hg.row hcc.1 hz hle (by omega) hm0
    rw [← hrow, h] at this
    cases this
  have ht2 := fun (h : nearB (ac c R (at0 t) (R * c) (i / c - 1)) row b = true) => htail (fun _ _ => by rwa [hrow] at h) w F
  clear htail hdm hrow
  generalize i / c = q at hquo hq1 hqR hno ht2
  obtain ⟨q', rfl⟩ : ∃ q', q = q' + 1 := ⟨q - 1, by omega⟩
  rw [Nat.add_sub_cancel] at hno ht2
  have hqs : ((q' + 1 : Nat) : Int) - 1 = (q' : Int) := by omega
  have hwr : ∀ (W : World) (Q : List Res), Rd W I Q ((ad Aw).add (q' * 1)) (.int .i64 (ac c R (at0 t) (R * c) q')) := fun W Q => by
    have := hwl.rd (W := W) (R := Q) (k := q') (by rw [hs.wlen]; omega)
    rw [show wl.getD q' default = ac c R (at0 t) (R * c) q' from hs.want _ (by omega)] at this
    exact this
  have hwb := hs.wbd (k := q') (by omega)
  rw [hs.want _ (by omega)] at hwb
  have hwlen := hs.wlen
  have hAw := hwl.isSome (by omega)
  have hN := rndNear_spec (ac c R (at0 t) (R * c) q') row b (by omega) hrb.1 (by omega) I
  cases hres : nearB (ac c R (at0 t) (R * c) q') row b with
  | true =>
    rw [hres] at hN
    have ht3 := ht2 hres
    clear ht2 hno
    repeat' first
      | ((with_reducible refine Nx.is_wp ?_); first | refine Nx.p_stops 4 rfl ?_ | refine Nx.wo ?_ | refine Nx.p_drawF (id := 1) rfl [0, 1, 2, 3, 4, 5, 6, 7, 8, 9, 10] [] [] _ rfl rfl (by kernel_rfl) (by kernel_rfl) rfl (by repeat first | exact PanicOk.fn | refine PanicOk.then_ ?_ | refine PanicOk.inB ?_) (Ent.refl _) ?_ | refine Nx.p_drawF (id := 2) rfl [0, 1, 2, 3, 4, 5, 6, 7, 8, 9, 10, 11, 12, 13, 14, 15, 16, 17, 18, 19, 20, 21, 22, 23, 24, 25, 26, 27, 28, 29, 30, 31, 32, 33, 34, 35] [33] [] _ rfl rfl (by kernel_rfl) (by kernel_rfl) rfl (by repeat first | exact PanicOk.fn | refine PanicOk.then_ ?_ | refine PanicOk.inB ?_) (Ent.refl _) ?_ | refine Nx.p_drawF (id := 8) rfl [0, 1, 2, 3, 4, 5, 6, 7, 8, 9, 10, 11, 12, 13, 14, 15, 16, 17, 18] [] [19, 20] _ rfl rfl (by kernel_rfl) (by kernel_rfl) rfl (by repeat first | exact PanicOk.fn | refine PanicOk.then_ ?_ | refine PanicOk.inB ?_) (Ent.refl _) ?_ | refine Nx.p_drawF (id := 11) rfl [0, 1, 2, 3, 4, 5, 6, 7, 8, 9, 10, 11, 12, 13, 14, 15, 16, 17, 18, 19] [] [20, 21] _ rfl rfl (by kernel_rfl) (by kernel_rfl) rfl (by repeat first | exact PanicOk.fn | refine PanicOk.then_ ?_ | refine PanicOk.inB ?_) (Ent.refl _) ?_ | refine Nx.p_drawF (id := 15) rfl [0, 1, 2, 3, 4, 5, 6, 7, 8, 9, 10] [8, 9] [] _ rfl rfl (by kernel_rfl) (by kernel_rfl) rfl (by repeat first | exact PanicOk.fn | refine PanicOk.then_ ?_ | refine PanicOk.inB ?_) (Ent.refl _) ?_ | refine Nx.p_drawF (id := 16) rfl [0, 1, 2, 3, 4, 5, 6, 7, 8, 9, 10, 13, 11, 12] [11] [] _ rfl rfl (by kernel_rfl) (by kernel_rfl) rfl (by repeat first | exact PanicOk.fn | refine PanicOk.then_ ?_ | refine PanicOk.inB ?_) (Ent.refl _) ?_ | refine Nx.p_drawF (id := 19) rfl [0, 1, 2, 3, 4, 5, 6, 7, 8, 9, 10, 11, 12, 13, 14, 15, 16, 17, 18, 19, 20, 21, 22, 23, 24, 25] [17, 20, 23] [26] _ rfl rfl (by kernel_rfl) (by kernel_rfl) rfl (by repeat first | exact PanicOk.fn | refine PanicOk.then_ ?_ | refine PanicOk.inB ?_) (Ent.refl _) ?_ | refine Nx.p_drawF (id := 20) rfl [0, 1, 2, 3, 4, 5, 6, 7, 8, 9, 10, 11, 12, 13, 14, 15] [] [16] _ rfl rfl (by kernel_rfl) (by kernel_rfl) rfl (by repeat first | exact PanicOk.fn | refine PanicOk.then_ ?_ | refine PanicOk.inB ?_) (Ent.refl _) ?_ | refine Nx.zp (fun hc => ?_) (fun hc => ?_))
      | (refine Nx.zo ?_; first | refine Nx.opr rfl rfl ?_ | refine Nx.callv rfl rfl rfl (by kernel_rfl) rfl hN ?_ | refine Nx.so ?_ | refine Nx.sb (fun bx => ?_) | refine Nx.sa (fun A2 c2 => ?_))
      | ((with_reducible refine Nx.is_at ?_); first | refine Nx.a ?_ | refine Nx.zd ?_ | refine Nx.zs (fun hc => ?_) (fun hc => ?_))
      | ((with_reducible refine Nx.is_mix ?_); first | refine Nx.m_quiet rfl rfl rfl rfl rfl (by first | exact QRun.opr rfl | exact QRun.bin rfl rfl (run_quoK (by omega) (by omega) (by unfold I64; omega) hdiv) | exact QRun.bin rfl rfl (run_remK (by omega) (by omega) hrem) | exact QRun.bin rfl rfl (run_quoK (by omega) (by omega) (by unfold I64; omega) hquo) | exact QRun.bin rfl rfl (run_subK (by unfold I64; omega) hqs) | exact QRun.idx (A := Aw) (i := q') (sz := 1) rfl rfl rfl rfl (by omega) hAw | exact QRun.load rfl rfl (hwr _ _)) ?_ | refine Nx.m_quiet_do rfl rfl rfl rfl rfl rfl rfl (by first | exact QRun.opr rfl | exact QRun.bin rfl rfl (run_quoK (by omega) (by omega) (by unfold I64; omega) hdiv) | exact QRun.bin rfl rfl (run_remK (by omega) (by omega) hrem) | exact QRun.bin rfl rfl (run_quoK (by omega) (by omega) (by unfold I64; omega) hquo) | exact QRun.bin rfl rfl (run_subK (by unfold I64; omega) hqs) | exact QRun.idx (A := Aw) (i := q') (sz := 1) rfl rfl rfl rfl (by omega) hAw | exact QRun.load rfl rfl (hwr _ _)) ?_ | refine Nx.m ?_ | refine Nx.zm ?_ | refine Nx.zt (fun hc => ?_) (fun hc => ?_))
      | refine Nx.zx ?_ | fail
    refine Nx.unstop ?_
    exact Nx.weak (by exact ⟨rfl, rfl, rfl, trivial⟩) (by (exact Ent.auto)) ht3
  | false =>
    rw [hres] at hN
    have hno := hno hres
    clear ht2
    repeat' first
      | ((with_reducible refine Nx.is_wp ?_); first | refine Nx.p_stops 4 rfl ?_ | refine Nx.wo ?_ | refine Nx.p_drawF (id := 1) rfl [0, 1, 2, 3, 4, 5, 6, 7, 8, 9, 10] [] [] _ rfl rfl (by kernel_rfl) (by kernel_rfl) rfl (by repeat first | exact PanicOk.fn | refine PanicOk.then_ ?_ | refine PanicOk.inB ?_) (Ent.refl _) ?_ | refine Nx.p_drawF (id := 2) rfl [0, 1, 2, 3, 4, 5, 6, 7, 8, 9, 10, 11, 12, 13, 14, 15, 16, 17, 18, 19, 20, 21, 22, 23, 24, 25, 26, 27, 28, 29, 30, 31, 32, 33, 34, 35] [33] [] _ rfl rfl (by kernel_rfl) (by kernel_rfl) rfl (by repeat first | exact PanicOk.fn | refine PanicOk.then_ ?_ | refine PanicOk.inB ?_) (Ent.refl _) ?_ | refine Nx.p_drawF (id := 8) rfl [0, 1, 2, 3, 4, 5, 6, 7, 8, 9, 10, 11, 12, 13, 14, 15, 16, 17, 18] [] [19, 20] _ rfl rfl (by kernel_rfl) (by kernel_rfl) rfl (by repeat first | exact PanicOk.fn | refine PanicOk.then_ ?_ | refine PanicOk.inB ?_) (Ent.refl _) ?_ | refine Nx.p_drawF (id := 11) rfl [0, 1, 2, 3, 4, 5, 6, 7, 8, 9, 10, 11, 12, 13, 14, 15, 16, 17, 18, 19] [] [20, 21] _ rfl rfl (by kernel_rfl) (by kernel_rfl) rfl (by repeat first | exact PanicOk.fn | refine PanicOk.then_ ?_ | refine PanicOk.inB ?_) (Ent.refl _) ?_ | refine Nx.p_drawF (id := 15) rfl [0, 1, 2, 3, 4, 5, 6, 7, 8, 9, 10] [8, 9] [] _ rfl rfl (by kernel_rfl) (by kernel_rfl) rfl (by repeat first | exact PanicOk.fn | refine PanicOk.then_ ?_ | refine PanicOk.inB ?_) (Ent.refl _) ?_ | refine Nx.p_drawF (id := 16) rfl [0, 1, 2, 3, 4, 5, 6, 7, 8, 9, 10, 13, 11, 12] [11] [] _ rfl rfl (by kernel_rfl) (by kernel_rfl) rfl (by repeat first | exact PanicOk.fn | refine PanicOk.then_ ?_ | refine PanicOk.inB ?_) (Ent.refl _) ?_ | refine Nx.p_drawF (id := 19) rfl [0, 1, 2, 3, 4, 5, 6, 7, 8, 9, 10, 11, 12, 13, 14, 15, 16, 17, 18, 19, 20, 21, 22, 23, 24, 25] [17, 20, 23] [26] _ rfl rfl (by kernel_rfl) (by kernel_rfl) rfl (by repeat first | exact PanicOk.fn | refine PanicOk.then_ ?_ | refine PanicOk.inB ?_) (Ent.refl _) ?_ | refine Nx.p_drawF (id := 20) rfl [0, 1, 2, 3, 4, 5, 6, 7, 8, 9, 10, 11, 12, 13, 14, 15] [] [16] _ rfl rfl (by kernel_rfl) (by kernel_rfl) rfl (by repeat first | exact PanicOk.fn | refine PanicOk.then_ ?_ | refine PanicOk.inB ?_) (Ent.refl _) ?_ | refine Nx.zp (fun hc => ?_) (fun hc => ?_))
      | (refine Nx.zo ?_; first | refine Nx.opr rfl rfl ?_ | refine Nx.callv rfl rfl rfl (by kernel_rfl) rfl hN ?_ | refine Nx.so ?_ | refine Nx.sb (fun bx => ?_) | refine Nx.sa (fun A2 c2 => ?_))
      | ((with_reducible refine Nx.is_at ?_); first | refine Nx.a ?_ | refine Nx.zd ?_ | refine Nx.zs (fun hc => ?_) (fun hc => ?_))
      | ((with_reducible refine Nx.is_mix ?_); first | refine Nx.m_quiet rfl rfl rfl rfl rfl (by first | exact QRun.opr rfl | exact QRun.bin rfl rfl (run_quoK (by omega) (by omega) (by unfold I64; omega) hdiv) | exact QRun.bin rfl rfl (run_remK (by omega) (by omega) hrem) | exact QRun.bin rfl rfl (run_quoK (by omega) (by omega) (by unfold I64; omega) hquo) | exact QRun.bin rfl rfl (run_subK (by unfold I64; omega) hqs) | exact QRun.idx (A := Aw) (i := q') (sz := 1) rfl rfl rfl rfl (by omega) hAw | exact QRun.load rfl rfl (hwr _ _)) ?_ | refine Nx.m_quiet_do rfl rfl rfl rfl rfl rfl rfl (by first | exact QRun.opr rfl | exact QRun.bin rfl rfl (run_quoK (by omega) (by omega) (by unfold I64; omega) hdiv) | exact QRun.bin rfl rfl (run_remK (by omega) (by omega) hrem) | exact QRun.bin rfl rfl (run_quoK (by omega) (by omega) (by unfold I64; omega) hquo) | exact QRun.bin rfl rfl (run_subK (by unfold I64; omega) hqs) | exact QRun.idx (A := Aw) (i := q') (sz := 1) rfl rfl rfl rfl (by omega) hAw | exact QRun.load rfl rfl (hwr _ _)) ?_ | refine Nx.m ?_ | refine Nx.zm ?_ | refine Nx.zt (fun hc => ?_) (fun hc => ?_))
      | refine Nx.zx ?_ | fail
    exact Nx.ret_fn rfl [_, _] ⟨false, o, f, row, all, rfl, hol, rfl, fun h => (by cases h), fun _ => hno, rfl⟩ (by (exact Ent.auto))
set_option maxHeartbeats 8000000 in
/-- The search finds a rounded table that begins so, if there is one. -/
theorem rndNext_spec (c R : Nat) (b : Int) (t wl : List Int) (At Ao Aw : Option Addr) (ct co cw b1 : Nat) (hs : Srch c R b t wl) : ∀ (d i : Nat), i + d = R * c → ∀ (I : PH) (_ : Ints I At ct t) (_ : Ints I Aw cw wl) (o : List Int) (f : Nat → Int) (row all : Int), Where c R b t o i f row all →
    FnSpec Tryz.prog 46 [.pointer (some ⟨b1, 0, none⟩), .int .i64 (i : Int)] I (nextR c b t wl b1 At Ao Aw ct co cw o f row all) (nextPost c R b t wl b1 At Ao Aw ct co cw i o)
  | 0, i, hi, I, ht, hwl, o, f, row, all, hw => next_body c R b t wl I At Ao Aw ct co cw b1 i ht hwl hs o f row all hw fun h => absurd h (by omega)
  | d + 1, i, hi, I, ht, hwl, o, f, row, all, hw => next_body c R b t wl I At Ao Aw ct co cw b1 i ht hwl hs o f row all hw fun _ I' hle o' f' row' all' hw' => by
    have := rndNext_spec c R b t wl At Ao Aw ct co cw b1 hs d (i + 1) (by omega) I' (ht.mono hle) (hwl.mono hle) o' f' row' all' hw'
    rwa [show ((i + 1 : Nat) : Int) = (i : Int) + 1 by omega] at this
end Go.Proofs.YtjnhoemgceghlaaGreat
/-
  The proof engine, part L: a statement of open order in which several operations that make memory may come up next: the walk forks.
-/
namespace Go.Eng
section
variable {P : Program} {ops : Array Oper} {Q : Exit → Act → World → Prop} {S : World → Prop} {loud fin : List Nat}
def wpFork (P : Program) (ops : Array Oper) (Q : Exit → Act → World → Prop) (S : World → Prop) (loud fin : List Nat) : Nat → Array Bool → Act → World → Prop
  | 0, _, _, _ => False
  | n + 1, listed, a, w => (mixOk ops loud fin listed = true ∧ fin.length ≤ n + 1 ∧ wpMix P ops Q S loud fin a w) ∨
    (Region.ready .any ops listed ≠ [] ∧ ∀ i ∈ Region.ready .any ops listed, wpOp P ops Q i (fun a' w' => S w' ∧ wpFork P ops Q S loud fin n (listed.setIfInBounds i true) a' w') a w)
theorem wpFork_any (hs : Region.noSelect ops = true) (hQ : PanicOk Q) : ∀ (n : Nat) (listed : Array Bool) (a : Act) (w : World), wpFork P ops Q S loud fin n listed a w → S w → wpAnyH P .any ops Q S n listed a w
  | 0, _, _, _, h, _ => h.elim
  | n + 1, listed, a, w, h, hS => by
    rcases h with ⟨h1, h2, h3⟩ | ⟨h1, h2⟩
    · exact wpMix_any hs hQ fin (n + 1) listed a w h1 h2 hS h3
    · exact wpAnyH_all rfl h1 fun i hi => wpOp_mono (fun a' w' ⟨h3, h4⟩ => ⟨h3, wpFork_any hs hQ n _ a' w' h4 h3⟩) (h2 i hi)
end
def listedOf (n : Nat) (q : List Nat) : Array Bool := q.foldl (fun a i => a.setIfInBounds i true) (Array.replicate n false)
section
variable {C : Cx} {e e' : Env} {I : PH} {R R' R0 : List Res} {K K' : Act → World → Prop} {Q : Exit → Act → World → Prop} {W : World}
variable {ops : Array Oper} {S : World → Prop} {loud fin : List Nat} {c : Code} {n i j : Nat} {o oi oj : Oper} {listed : Array Bool}
/-- 'q': what only reads and waits for nothing that writes; 'fin': what comes when all the others have come up. -/
theorem Nx.p_fork {id : Nat} (hid : cid c = id) (q fin loud : List Nat) (R0 : List Res) (fuel : Nat) (hk : ck c = 2) (hm : C.P.follows .mixedOrders = true) (hs : Region.noSelect (cops c) = true)
    (hok : preOk (cops c) (fun l => l == listedOf (cops c).size q) q (Array.replicate (cops c).size false) = true) (hlen : fuel + q.length = (cops c).size) (hQ : PanicOk Q) (hR : Ent R R0)
    (h : Nx C e I R (wpMix C.P (cops c) (Exit.then (wpFork C.P (cops c) Q (St C.W I R0) loud fin fuel (listedOf (cops c).size q)) Q) (St C.W I R0) [] q)) : Nx C e I R (c.wp C.P Q) := by
  have hc : c = .region (cid c) (cops c) true := by
    cases c <;> first | (simp [ck] at hk; done) | skip
    rename_i b
    cases b with
    | false => simp [ck] at hk
    | true => rfl
  clear hid
  rw [hc]
  intro a w ha hw
  refine wp_region_held (S := St C.W I R0) hm ?_
  have key := fun hT => wpMix_pre (fuel := fuel) (S := St C.W I R0) (Q := Q) hs hQ hT q _ a _ hok (hw.drew.ent hR) (h a _ ha hw.drew)
  rw [hlen] at key
  refine key (fun listed a w hpo hSw hT => ?_)
  have hl : listed = listedOf (cops c).size q := by simpa using hpo
  subst hl
  exact wpFork_any hs hQ fuel _ a w hT hSw
theorem Nx.fork_fin (hok : mixOk ops loud fin listed = true) (hl : Nat.ble fin.length (n + 1) = true) (h : Nx C e I R (wpMix C.P ops Q S loud fin)) : Nx C e I R (wpFork C.P ops Q S loud fin (n + 1) listed) :=
  fun a w ha hw => .inl ⟨hok, Nat.le_of_ble_eq_true hl, h a w ha hw⟩
theorem wpOp_of {k : Nat} (ho : opAt ops.toList k = some o) (hg : o.guard = none) (h : Nx C e I R (opK C.P o K Q)) : ∀ a w, Mod C.n e a → St C.W I R w → wpOp C.P ops Q k K a w := fun a w ha hw => by
  unfold wpOp
  rw [opAt_arr ho]
  dsimp only
  rw [if_pos (by simp [Region.wanted, hg])]
  exact .inl (h a w ha hw)
theorem Nx.fork1 (hr : Region.ready .any ops listed = [i]) (ho : opAt ops.toList i = some oi) (hg : oi.guard = none)
    (h : Nx C e I R (opK C.P oi (fun a w => S w ∧ wpFork C.P ops Q S loud fin n (listed.setIfInBounds i true) a w) Q)) : Nx C e I R (wpFork C.P ops Q S loud fin (n + 1) listed) := fun a w ha hw =>
  .inr ⟨by rw [hr]; simp, fun k hk => by
    rw [hr, List.mem_singleton] at hk
    subst hk
    exact wpOp_of ho hg h a w ha hw⟩
theorem Nx.fork2 (hr : Region.ready .any ops listed = [i, j]) (hoi : opAt ops.toList i = some oi) (hgi : oi.guard = none) (hoj : opAt ops.toList j = some oj) (hgj : oj.guard = none)
    (hi : Nx C e I R (opK C.P oi (fun a w => S w ∧ wpFork C.P ops Q S loud fin n (listed.setIfInBounds i true) a w) Q))
    (hj : Nx C e I R (opK C.P oj (fun a w => S w ∧ wpFork C.P ops Q S loud fin n (listed.setIfInBounds j true) a w) Q)) : Nx C e I R (wpFork C.P ops Q S loud fin (n + 1) listed) := fun a w ha hw =>
  .inr ⟨by rw [hr]; simp, fun k hk => by
    rw [hr, List.mem_cons, List.mem_singleton] at hk
    rcases hk with rfl | rfl
    · exact wpOp_of hoi hgi hi a w ha hw
    · exact wpOp_of hoj hgj hj a w ha hw⟩
end
end Go.Eng
/-
  The proof engine, part AP: a contract of a function that reads what its caller owns: it is lent and given back.
-/
namespace Go.Eng
set_option maxHeartbeats 8000000 in
theorem FnSpec.keep {P : Program} {f : FuncId} {al : List Value} {I : PH} {Rpre : List Res} {Post : Value → List Res → Prop} (B : List Res)
    (hs : ∀ m I', PH.le I I' → PH.le m I' → Stars B m → FnSpec P f al I' Rpre Post) : FnSpec P f al I (B ++ Rpre) (fun v R' => ∃ R0, Post v R0 ∧ R' = B ++ R0) := by
  intro w F hw
  rw [List.append_assoc] at hw
  obtain ⟨m, hd, hB, hl, hback⟩ := hw.lend
  refine Calls.mono (hs m _ (PH.le_or_left _ _) (PH.le_or_right hd) hB w F hl) ?_
  rintro en w' ⟨v, R', rfl, hv, hst⟩
  exact ⟨v, B ++ R', rfl, ⟨R', hv, rfl⟩, by rw [List.append_assoc]; exact hback hst⟩
theorem Ent.pre : ∀ (A B R : List Res), Ent (A ++ (B ++ R)) (A ++ R)
  | [], [], R => Ent.refl R
  | [], b :: B, R => Ent.drop (Ent.pre [] B R)
  | a :: A, B, R => Ent.cons (Ent.pre A B R)
end Go.Eng
/- Contracts of functions of the given program, and lemmas about plain lists and numbers: what the laws of this seat lean on. -/
namespace Go.Proofs.YtjnhoemgceghlaaGreat
open Go.Eng
attribute [local irreducible] opK wpList Code.wp Exit.then Exit.inBlock fnPost bodyPost Nx Calls Oper.wp Rd Rds Wr Ent Stars Blk Again Vec FnSpec wpMix QRun Stop Upto wpAt
attribute [local irreducible] wpFork
/-! Rounding: what is exported -/
theorem run_mulK {P : Program} {t : TypeId} {x y : Operand} {p q r : Int} (hr : I64 (p * q)) (h : p * q = r) : pureRun P (do eqGuard .mul t x y (.int .i64 p) (.int .i64 q); binOp .mul t (.int .i64 p) (.int .i64 q)) = some (.int .i64 r) := by rw [← h, ← wrap_i64 hr]; rfl
theorem mem_at0 {l : List Int} {x : Int} (h : x ∈ l) : ∃ j, j < l.length ∧ at0 l j = x := by
  obtain ⟨j, hj, rfl⟩ := List.mem_iff_getElem.1 h
  exact ⟨j, hj, by unfold at0; rw [List.getD_eq_getElem?_getD, List.getElem?_eq_getElem hj]; rfl⟩
theorem GoodT.bd {c R : Nat} {b : Int} {t z : List Int} {M : Int} (hb : 1 ≤ b) (hg : GoodT c R b t z) (ht : ∀ j, j < R * c → 0 ≤ at0 t j ∧ at0 t j ≤ M) : ∀ j, j < R * c → 0 ≤ at0 z j ∧ at0 z j ≤ M + b := fun j hj => by
  have h1 := ht j hj
  obtain ⟨_, h2, h3⟩ := chL_near hb h1.1 (near_chL hb (hg.near j hj))
  omega
set_option maxRecDepth 10000 in
set_option maxHeartbeats 8000000 in
theorem Round_spec (R c : Nat) (A : Option Addr) (ct : Nat) (t : List Int) (b : Int) (I : PH) (ht : Ints I A ct t) (hR : 1 ≤ R ∧ R ≤ 3) (hc : 1 ≤ c ∧ c ≤ 3) (hl : t.length = R * c) (hb : 1 ≤ b ∧ b ≤ 20) (htb : ∀ j, j < t.length → 0 ≤ at0 t j ∧ at0 t j ≤ 1000000) :
    FnSpec Tryz.prog 20 [.int .i64 (R : Int), .int .i64 (c : Int), .slice A t.length ct, .int .i64 b] I [] (fun v R' => ∃ (A' : Option Addr) (o : List Int), v = .tuple #[.slice A' t.length t.length, .int .i64 0] ∧ GoodT c R b t o ∧ R' = [Vec 3 1 A' t.length t.length (o.map (Value.int .i64))]) := by
  have h9 : R * c ≤ 9 := Nat.mul_le_mul hR.2 hc.2
  have hK := rndCheck_spec R c A ct t b I ht hR hc hl hb fun x hx => by obtain ⟨j, hj, rfl⟩ := mem_at0 hx; exact htb j hj
  have hS := sums_spec c R A ct t I ht (by omega) (by omega) hl (by omega) htb
  refine FnSpec.enterP Tryz.func20 rfl Tryz.ntmps20 rfl fun w F => ?_
  repeat' first
    | ((with_reducible refine Nx.is_wp ?_); first | refine Nx.p_stopr 4 rfl ?_ | refine Nx.wo ?_ | refine Nx.zp (fun hc => ?_) (fun hc => ?_))
    | (refine Nx.zo ?_; first | refine Nx.opr rfl rfl ?_ | refine Nx.callv rfl rfl rfl (by kernel_rfl) rfl hK ?_ | refine Nx.so ?_ | refine Nx.sb (fun bx => ?_) | refine Nx.sa (fun A2 c2 => ?_))
    | ((with_reducible refine Nx.is_at ?_); first | refine Nx.a ?_ | refine Nx.zd ?_ | refine Nx.zs (fun hc => ?_) (fun hc => ?_))
    | ((with_reducible refine Nx.is_mix ?_); first | refine Nx.m ?_ | refine Nx.zm ?_ | refine Nx.zt (fun hc => ?_) (fun hc => ?_))
    | refine Nx.zx ?_ | fail
  refine Nx.unstop ?_
  refine Nx.p_seq rfl ?_
  refine Nx.p_fork (id := 4) rfl [0, 1, 2, 3, 4, 6, 7] [9, 10, 11] [5, 8, 10] [] 5 rfl rfl (by kernel_rfl) (by kernel_rfl) (by kernel_rfl) (by repeat first | exact PanicOk.fn | refine PanicOk.then_ ?_ | refine PanicOk.inB ?_) (Ent.nil _) ?_
  repeat' first
    | ((with_reducible refine Nx.is_wp ?_); first | refine Nx.wo ?_ | refine Nx.zp (fun hc => ?_) (fun hc => ?_))
    | (refine Nx.zo ?_; first | refine Nx.opr rfl rfl ?_ | refine Nx.so ?_ | refine Nx.sb (fun bx => ?_) | refine Nx.sa (fun A2 c2 => ?_))
    | ((with_reducible refine Nx.is_at ?_); first | refine Nx.a ?_ | refine Nx.zd ?_ | refine Nx.zs (fun hc => ?_) (fun hc => ?_))
    | ((with_reducible refine Nx.is_mix ?_); first | refine Nx.m ?_ | refine Nx.zm ?_ | refine Nx.zt (fun hc => ?_) (fun hc => ?_))
    | refine Nx.zx ?_ | fail
  have hfin : ∀ (bo bx : Nat) (As : Option Addr) (wl : List Int), wl.length = R + c + 1 → (∀ k, k < R + c + 1 → at0 wl k = ac c R (at0 t) (R * c) k) →
      Nx ⟨Tryz.prog, 37, w⟩ [(11, .pointer (some ⟨bx, 0, none⟩))] I [Vec 3 1 As wl.length wl.length (wl.map (Value.int .i64)), Blk bx 88 (xC (c : Int) b (.slice A t.length ct) (.slice (some ⟨bo, 0, none⟩) t.length t.length) (.slice As wl.length wl.length) (fun _ => 0) 0 0), Vec 3 1 (some ⟨bo, 0, none⟩) t.length t.length ((List.replicate t.length 0).map (Value.int .i64)), F]
        (Code.wp Tryz.prog (cr (cr (cr (bodyOf Tryz.f20)))) (fnPost Tryz.prog Tryz.f20 I F w (fun v R' => ∃ (A' : Option Addr) (o : List Int), v = .tuple #[.slice A' t.length t.length, .int .i64 0] ∧ GoodT c R b t o ∧ R' = [Vec 3 1 A' t.length t.length (o.map (Value.int .i64))]))) := by
    intro bo bx As wl hwl hwk
    refine Nx.freezeAt 0 rfl fun I2 m2 hI2 hm2 h2 => ?_
    have hW : Ints I2 As wl.length wl := Vec.sliceOf hm2 h2
    have hs : Srch c R b t wl := ⟨hc, hR, hb, hl, htb, hwl, hwk⟩
    have hN := rndNext_spec c R b t wl A (some ⟨bo, 0, none⟩) As ct t.length wl.length bx hs (R * c) 0 (Nat.zero_add _) I2 (ht.mono hI2) hW (List.replicate t.length 0) (fun _ => 0) 0 0 ⟨PreT.zero (by rw [List.length_replicate]; exact hl), Nat.zero_le _, fun j hj => absurd hj (Nat.not_lt_zero _), rfl, fun _ _ => rfl, rfl⟩
    repeat' first
      | ((with_reducible refine Nx.is_wp ?_); first | refine Nx.wo ?_ | refine Nx.zp (fun hc => ?_) (fun hc => ?_))
      | (refine Nx.zo ?_; first | refine Nx.opr rfl rfl ?_ | (refine Nx.call rfl rfl rfl (by kernel_rfl) rfl hN (by (exact Ent.auto)) ?_; rintro _ _ ⟨r, o2, f2, row2, all2, rfl, h2l, -, h2g, h2n, rfl⟩) | refine Nx.so ?_ | refine Nx.sb (fun bx => ?_) | refine Nx.sa (fun A2 c2 => ?_))
      | ((with_reducible refine Nx.is_at ?_); first | refine Nx.a ?_ | refine Nx.zd ?_ | refine Nx.zs (fun hc => ?_) (fun hc => ?_))
      | ((with_reducible refine Nx.is_mix ?_); first | refine Nx.m ?_ | refine Nx.zm ?_ | refine Nx.zt (fun hc => ?_) (fun hc => ?_))
      | refine Nx.zx ?_ | fail
    obtain ⟨z, hz⟩ := good_ex (c := c) (R := R) hb.1 hc.1 t
    have hr : r = true := by
      cases r with
      | true => rfl
      | false => exact absurd hz (h2n rfl z rfl)
    exact Nx.imm_le hI2 (Nx.ret_fn rfl [_] ⟨some ⟨bo, 0, none⟩, o2, rfl, h2g hr, rfl⟩ (by (exact Ent.auto)))
  refine Nx.fork2 (i := 5) (j := 8) (by kernel_rfl) rfl rfl rfl rfl ?_ ?_
  · refine Nx.makeInts rfl rfl rfl rfl rfl rfl rfl rfl (by omega) (fun bo => ?_)
    refine Nx.mix_S (Ent.nil _) ?_
    refine Nx.fork1 (i := 8) (by kernel_rfl) rfl rfl ?_
    refine Nx.call (Rpre := []) rfl rfl rfl (by kernel_rfl) rfl hS (Ent.refl _) ?_
    rintro _ _ ⟨As, wl, rfl, hwl, hwk, rfl⟩
    refine Nx.mix_S (Ent.nil _) ?_
    refine Nx.fork_fin (by kernel_rfl) rfl ?_
    repeat' first
      | ((with_reducible refine Nx.is_wp ?_); first | refine Nx.p_stopr 5 rfl ?_ | refine Nx.wo ?_ | refine Nx.zp (fun hc => ?_) (fun hc => ?_))
      | (refine Nx.zo ?_; first | refine Nx.opr rfl rfl ?_ | refine Nx.so ?_ | refine Nx.sb (fun bx => ?_) | refine Nx.sa (fun A2 c2 => ?_))
      | ((with_reducible refine Nx.is_at ?_); first | refine Nx.a ?_ | refine Nx.zd ?_ | refine Nx.zs (fun hc => ?_) (fun hc => ?_))
      | ((with_reducible refine Nx.is_mix ?_); first | refine Nx.m ?_ | refine Nx.zm ?_ | refine Nx.zt (fun hc => ?_) (fun hc => ?_))
      | refine Nx.zx ?_ | fail
    refine Nx.unstop ?_
    exact Nx.weak (by exact ⟨rfl, trivial⟩) (by (exact Ent.auto)) (hfin bo bx As wl hwl hwk)
  · refine Nx.call (Rpre := []) rfl rfl rfl (by kernel_rfl) rfl hS (Ent.refl _) ?_
    rintro _ _ ⟨As, wl, rfl, hwl, hwk, rfl⟩
    refine Nx.mix_S (Ent.nil _) ?_
    refine Nx.fork1 (i := 5) (by kernel_rfl) rfl rfl ?_
    refine Nx.makeInts rfl rfl rfl rfl rfl rfl rfl rfl (by omega) (fun bo => ?_)
    refine Nx.mix_S (Ent.nil _) ?_
    refine Nx.fork_fin (by kernel_rfl) rfl ?_
    repeat' first
      | ((with_reducible refine Nx.is_wp ?_); first | refine Nx.p_stopr 5 rfl ?_ | refine Nx.wo ?_ | refine Nx.zp (fun hc => ?_) (fun hc => ?_))
      | (refine Nx.zo ?_; first | refine Nx.opr rfl rfl ?_ | refine Nx.so ?_ | refine Nx.sb (fun bx => ?_) | refine Nx.sa (fun A2 c2 => ?_))
      | ((with_reducible refine Nx.is_at ?_); first | refine Nx.a ?_ | refine Nx.zd ?_ | refine Nx.zs (fun hc => ?_) (fun hc => ?_))
      | ((with_reducible refine Nx.is_mix ?_); first | refine Nx.m ?_ | refine Nx.zm ?_ | refine Nx.zt (fun hc => ?_) (fun hc => ?_))
      | refine Nx.zx ?_ | fail
    refine Nx.unstop ?_
    exact Nx.weak (by exact ⟨rfl, trivial⟩) (by (exact Ent.auto)) (hfin bo bx As wl hwl hwk)
set_option maxRecDepth 10000 in
set_option maxHeartbeats 8000000 in
theorem Check_spec2 (R c : Nat) (A B : Option Addr) (ct cb : Nat) (t o : List Int) (b : Int) (I : PH) (ht : Ints I A ct t) (ho : Ints I B cb o) (hR : 1 ≤ R ∧ R ≤ 3) (hc : 1 ≤ c ∧ c ≤ 3) (hl : t.length = R * c) (hb : 1 ≤ b ∧ b ≤ 20) (htb : ∀ j, j < t.length → 0 ≤ at0 t j ∧ at0 t j ≤ 1000) (hg : GoodT c R b t o) :
    FnSpec Tryz.prog 21 [.int .i64 (R : Int), .int .i64 (c : Int), .slice A t.length ct, .slice B o.length cb, .int .i64 b] I [] (fun v R' => v = .tuple #[.bool true, .int .i64 0] ∧ R' = []) := by
  have h9 : R * c ≤ 9 := Nat.mul_le_mul hR.2 hc.2
  have hob := hg.bd hb.1 (M := 1000) fun j hj => htb j (by omega)
  have hol := hg.len
  have hK := rndCheck_spec R c A ct t b I ht hR hc hl hb fun x hx => by obtain ⟨j, hj, rfl⟩ := mem_at0 hx; have := htb j hj; omega
  have hS1 := sums_spec c R A ct t I ht (by omega) (by omega) hl (by omega) fun j hj => by have := htb j hj; omega
  have hS2 := sums_spec c R B cb o I ho (by omega) (by omega) hol (by omega) fun j hj => by have := hob j (by omega); omega
  have hr1 := rounds_spec A B ct cb t o b I ht ho (by omega) (by omega) (fun j hj => by have := htb j hj; omega) (fun j hj => (hob j (by omega)).1) fun j hj => hg.near j (by omega)
  have hr2 := fun (A1 A2 : Option Addr) (s1 s2 : List Int) (l1 : s1.length = R + c + 1) (l2 : s2.length = R + c + 1) (k1 : ∀ k, k < R + c + 1 → at0 s1 k = ac c R (at0 t) (R * c) k) (k2 : ∀ k, k < R + c + 1 → at0 s2 k = ac c R (at0 o) (R * c) k) (m I' : PH) (hle : PH.le I I') (hm : PH.le m I') (hv : Stars [Vec 3 1 A1 s1.length s1.length (s1.map (Value.int .i64)), Vec 3 1 A2 s2.length s2.length (s2.map (Value.int .i64))] m) => (by
    have _ := hle
    obtain ⟨q1, z1, y1⟩ := Stars.get 0 hv rfl
    obtain ⟨q2, z2, y2⟩ := Stars.get 1 hv rfl
    have hac : ∀ k, 0 ≤ ac c R (at0 t) (R * c) k ∧ ac c R (at0 t) (R * c) k ≤ 9000 := fun k => by
      have := ac_bd (c := c) (R := R) (i := R * c) (k := k) (z := at0 t) (M := 1000) (by decide) fun j hj => htb j (by omega)
      omega
    have hao : ∀ k, 0 ≤ ac c R (at0 o) (R * c) k := fun k => (ac_bd (c := c) (R := R) (i := R * c) (k := k) (z := at0 o) (M := 1000 + b) (by omega) fun j hj => hob j hj).1
    exact rounds_spec A1 A2 s1.length s2.length s1 s2 b I' (Vec.sliceOf (z1.trans hm) y1) (Vec.sliceOf (z2.trans hm) y2) (by omega) (by omega) (fun j hj => by rw [k1 j (by omega)]; have := hac j; omega) (fun j hj => by rw [k2 j (by omega)]; exact hao j) (fun j hj => by rw [k1 j (by omega), k2 j (by omega)]; exact hg.sums j (by omega)) :
    FnSpec Tryz.prog 47 [.slice A1 s1.length s1.length, .slice A2 s2.length s2.length, .int .i64 b] I' [] (fun v R' => v = .bool true ∧ R' = []))
  have hmul : (R : Int) * (c : Int) = (t.length : Int) := by rw [hl]; exact (Int.natCast_mul R c).symm
  refine FnSpec.enterP Tryz.func21 rfl Tryz.ntmps21 rfl fun w F => ?_
  repeat' first
    | ((with_reducible refine Nx.is_wp ?_); first | refine Nx.wo ?_ | refine Nx.zp (fun hc => ?_) (fun hc => ?_))
    | (refine Nx.zo ?_; first | refine Nx.opr rfl rfl ?_ | refine Nx.callv rfl rfl rfl (by kernel_rfl) rfl hK ?_ | refine Nx.bin rfl rfl (run_mulK (by unfold I64; omega) hmul) rfl ?_ | refine Nx.callv rfl rfl rfl (by kernel_rfl) rfl hr1 ?_ | (refine Nx.call (Rpre := []) rfl rfl rfl (by kernel_rfl) rfl hS1 (Ent.refl _) ?_; rintro _ _ ⟨A1, s1, rfl, l1, k1, rfl⟩) | (refine Nx.call (Rpre := []) rfl rfl rfl (by kernel_rfl) rfl hS2 (Ent.refl _) ?_; rintro _ _ ⟨A2, s2, rfl, l2, k2, rfl⟩) | (refine Nx.call rfl rfl rfl (by kernel_rfl) rfl (FnSpec.keep [Vec 3 1 _ _ _ (_ : List Value), Vec 3 1 _ _ _ (_ : List Value)] fun m I' hle hm hv => hr2 A1 A2 s1 s2 l1 l2 k1 k2 m I' hle hm hv) (by (exact Ent.auto)) ?_; rintro _ _ ⟨_, ⟨rfl, rfl⟩, rfl⟩) | refine Nx.so ?_ | refine Nx.sb (fun bx => ?_) | refine Nx.sa (fun A2 c2 => ?_))
    | ((with_reducible refine Nx.is_at ?_); first | refine Nx.a ?_ | refine Nx.zd ?_ | refine Nx.zs (fun hc => ?_) (fun hc => ?_))
    | ((with_reducible refine Nx.is_mix ?_); first | refine Nx.m ?_ | refine Nx.zm ?_ | refine Nx.zt (fun hc => ?_) (fun hc => ?_))
    | refine Nx.zx ?_ | fail
  exact Nx.ret_fn rfl [] ⟨rfl, rfl⟩ (by (exact Ent.auto))
end Go.Proofs.YtjnhoemgceghlaaGreat
