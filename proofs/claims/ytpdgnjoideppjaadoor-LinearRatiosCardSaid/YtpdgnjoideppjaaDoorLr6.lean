/-
  The proof engine, part AH: one less than a number that counts.
-/
import Derived.Laws.StructEq
import Derived.Test.YtpdgnjoideppjaaDoorProg
import Derived.Test.YtpdgnjoideppjaaDoorLr5
namespace Go.Eng
section
variable {C : Cx} {e : Env} {I : PH} {R : List Res} {K : Act → World → Prop} {Q : Exit → Act → World → Prop} {S : World → Prop} {d n : Nat} {t u ty : TypeId} {pos : String} {after : Array Edge} {g : Option (Nat × Bool)} {x y : Operand} {dst : Option Tmp}
theorem Nx.pred (hx : evo e x = some (.int .i64 ((n + 1 : Nat) : Int))) (hy : evo e y = some (.int .i64 1)) (hn : n ≤ 1000000) (hlt : Nat.blt d C.n = true)
    (h : Nx C ((d, .int .i64 (n : Int)) :: e) I R K) : Nx C e I R (opK C.P ⟨some d, .binOp .sub t x y u, ty, pos, after, g⟩ K Q) :=
  Nx.sub hx hy (by unfold I64; omega) hlt (by rw [show ((n + 1 : Nat) : Int) - 1 = n by omega]; exact h)
theorem QRun.pred (hx : evo e x = some (.int .i64 ((n + 1 : Nat) : Int))) (hy : evo e y = some (.int .i64 1)) (hn : n ≤ 1000000) : QRun C e S ⟨dst, .binOp .sub t x y u, ty, pos, after, g⟩ (.int .i64 (n : Int)) := by
  have e1 : (n : Int) = ((n + 1 : Nat) : Int) - 1 := by omega
  rw [e1]
  exact QRun.sub hx hy (by unfold I64; omega)
theorem QRun.less (k : Nat) (hx : evo e x = some (.int .i64 ((n + k : Nat) : Int))) (hy : evo e y = some (.int .i64 (k : Int))) (hn : n + k ≤ 1000000) : QRun C e S ⟨dst, .binOp .sub t x y u, ty, pos, after, g⟩ (.int .i64 (n : Int)) := by
  have e1 : (n : Int) = ((n + k : Nat) : Int) - (k : Int) := by omega
  rw [e1]
  exact QRun.sub hx hy (by unfold I64; omega)
end
end Go.Eng
/- Contracts of functions of the given program, and lemmas about plain lists and numbers: what the laws of this seat lean on. -/
namespace Go.Proofs.YtpdgnjoideppjaaDoor
open Go.Eng Go.Det
attribute [local irreducible] opK wpList Code.wp Exit.then Exit.inBlock fnPost bodyPost Nx Calls Oper.wp Rd Rds Wr Ent Stars Blk Again Vec FnSpec wpMix QRun Stop Upto wpAt
/-! The reference's Kernel -/
theorem rep_row {m : List (List Int)} {j i : Nat} {b : List Int} (hi : i < m.length) : (repL m j b).getD i [] = (m.getD i []).set j (b.getD i 0) := by
  unfold repL
  rw [List.getD_eq_getElem?_getD, List.getElem?_map, List.getElem?_range hi]
  rfl
end Go.Proofs.YtpdgnjoideppjaaDoor
/- Contracts of functions of the given program, and lemmas about plain lists and numbers: what the laws of this seat lean on. -/
namespace Go.Proofs.YtpdgnjoideppjaaDoor
open Go.Eng
/-! Fractions compared, and program and reference compared -/
theorem part_frac0 (a b : Int) (w : World) : (part 3 #[.int .i64 a, .int .i64 b] 0).run Tryd.prog w = .ok (.int .i64 a) w := run_of_pureRun (by kernel_rfl) w
theorem part_frac1 (a b : Int) (w : World) : (part 3 #[.int .i64 a, .int .i64 b] 1).run Tryd.prog w = .ok (.int .i64 b) w := run_of_pureRun (by kernel_rfl) w
theorem eqFields_frac (a b c d : Int) (w : World) (fs : List Field) (hf : fs.map (fun f => (f.name, f.type, f.offset)) = [("Num", 3, 0), ("Den", 3, 1)]) :
    (Op.eqFields 9999 #[.int .i64 a, .int .i64 b] #[.int .i64 c, .int .i64 d] fs).run Tryd.prog w = .ok (a == c && b == d) w := by
  obtain ⟨f, g, rfl⟩ : ∃ f g, fs = [f, g] := by
    rcases fs with _ | ⟨f, _ | ⟨g, _ | ⟨k, r⟩⟩⟩
    · simp at hf
    · simp at hf
    · exact ⟨f, g, rfl⟩
    · simp at hf
  · simp only [List.map_cons, List.map_nil, List.cons.injEq, Prod.mk.injEq, and_true] at hf
    obtain ⟨⟨h1, h2, h3⟩, h4, h5, h6⟩ := hf
    simp only [Op.eqFields, h1, h2, h3, h4, h5, h6]
    rw [if_pos (by decide), if_pos (by decide), Sem.run_bind, part_frac0, Result.andThen_ok, Sem.run_bind, part_frac0, Result.andThen_ok, Sem.run_bind, run_equalIn_int _ 9998 _ .i64 .i64 a c Tryd.underlying3, Result.andThen_ok]
    cases (a == c)
    · rfl
    · rw [if_neg (by decide), Sem.run_bind, part_frac1, Result.andThen_ok, Sem.run_bind, part_frac1, Result.andThen_ok, Sem.run_bind, run_equalIn_int _ 9998 _ .i64 .i64 b d Tryd.underlying3, Result.andThen_ok]
      cases (b == d) <;> rfl
theorem frac_bool (a b c d : Int) : (a == c && b == d) = decide (a = c ∧ b = d) := by
  rw [Bool.eq_iff_iff]
  simp
theorem eql_frac {x y : Operand} (a b c d : Int) (w : World) :
    (do eqGuard .eql 37 x y (.agg #[.int .i64 a, .int .i64 b]) (.agg #[.int .i64 c, .int .i64 d]); binOp .eql 37 (.agg #[.int .i64 a, .int .i64 b]) (.agg #[.int .i64 c, .int .i64 d])).run Tryd.prog w = .ok (.bool (decide (a = c ∧ b = d))) w := by
  rw [Sem.run_bind, run_eqGuard_agg _ _ _ _ _ _ _ Tryd.eqGuardType37, Result.andThen_ok, run_eql_struct, run_equalIn_struct _ 9999 37 _ _ (by kernel_rfl) Tryd.stoodInHeld37,
    eqFields_frac a b c d w _ (by kernel_rfl), frac_bool]
  rfl
theorem neq_frac {x y : Operand} (a b c d : Int) (w : World) :
    (do eqGuard .neq 37 x y (.agg #[.int .i64 a, .int .i64 b]) (.agg #[.int .i64 c, .int .i64 d]); binOp .neq 37 (.agg #[.int .i64 a, .int .i64 b]) (.agg #[.int .i64 c, .int .i64 d])).run Tryd.prog w = .ok (.bool (decide (¬(a = c ∧ b = d)))) w := by
  rw [Sem.run_bind, run_eqGuard_agg _ _ _ _ _ _ _ Tryd.eqGuardType37, Result.andThen_ok, run_neq_struct, run_equalIn_struct _ 9999 37 _ _ (by kernel_rfl) Tryd.stoodInHeld37,
    eqFields_frac a b c d w _ (by kernel_rfl), frac_bool, show decide (¬(a = c ∧ b = d)) = !decide (a = c ∧ b = d) by simp]
  rfl
theorem eql_same {x y : Operand} (a b : Int) (w : World) :
    (do eqGuard .eql 37 x y (.agg #[.int .i64 a, .int .i64 b]) (.agg #[.int .i64 a, .int .i64 b]); binOp .eql 37 (.agg #[.int .i64 a, .int .i64 b]) (.agg #[.int .i64 a, .int .i64 b])).run Tryd.prog w = .ok (.bool true) w := by
  rw [eql_frac, decide_eq_true ⟨rfl, rfl⟩]
theorem neq_same {x y : Operand} (a b : Int) (w : World) :
    (do eqGuard .neq 37 x y (.agg #[.int .i64 a, .int .i64 b]) (.agg #[.int .i64 a, .int .i64 b]); binOp .neq 37 (.agg #[.int .i64 a, .int .i64 b]) (.agg #[.int .i64 a, .int .i64 b])).run Tryd.prog w = .ok (.bool false) w := by
  rw [neq_frac, decide_eq_false fun h => h ⟨rfl, rfl⟩]
section
open Go.Det
attribute [local irreducible] opK wpList Code.wp Exit.then Exit.inBlock fnPost bodyPost Nx Calls Oper.wp Rd Rds Wr Ent Stars Blk Again Vec FnSpec wpMix QRun Stop Upto wpAt
/-- A list of fractions, given up. -/
abbrev Fracs (I : PH) (A : Option Addr) (c : Nat) (l : List (Int × Int)) : Prop := SliceN frC 2 I A c l
set_option maxRecDepth 10000 in
set_option maxHeartbeats 4000000 in
theorem Same_fr (A B : Option Addr) (c d : Nat) (l : List (Int × Int)) (I : PH) (h : Fracs I A c l) (h' : Fracs I B d l) : FnSpec Tryd.prog 27 [.slice A l.length c, .slice B l.length d] I [] (fun v R' => v = .bool true ∧ R' = []) := by
  have hlen := h.len
  refine FnSpec.enterP Tryd.func27 rfl Tryd.ntmps27 rfl fun w F => ?_
  repeat' first
    | ((with_reducible refine Nx.is_wp ?_); first | refine Nx.wo ?_ | refine Nx.p_dec rfl rfl (fun hc => ?_) (fun hc => ?_) | refine Nx.p_bool rfl rfl (fun hc => ?_) (fun hc => ?_))
    | ((first | refine Nx.at_op rfl rfl ?_ | refine Nx.m_loud rfl rfl rfl ?_ | refine Nx.at_do rfl rfl rfl rfl ?_ | refine Nx.m_loud_do rfl rfl rfl rfl rfl ?_); first | refine Nx.opr rfl rfl ?_ | refine Nx.so ?_ | refine Nx.sb (fun bx => ?_) | refine Nx.sa (fun A2 c2 => ?_))
    | ((with_reducible refine Nx.is_at ?_); first | refine Nx.a ?_ | ((fail_if_success refine Nx.at_do rfl rfl rfl rfl ?_); first | refine Nx.at_dec_t rfl rfl rfl rfl (by first | assumption | omega) ?_ | refine Nx.at_dec_f rfl rfl rfl rfl (by first | assumption | omega) ?_ | refine Nx.at_split rfl rfl rfl rfl (fun hc => ?_) (fun hc => ?_) | refine Nx.at_splitb rfl rfl rfl rfl (fun hc => ?_) (fun hc => ?_)))
    | ((with_reducible refine Nx.is_mix ?_); first | refine Nx.m ?_ | ((fail_if_success refine Nx.m_quiet_do rfl rfl rfl rfl rfl rfl rfl ?_ ?_); (fail_if_success refine Nx.m_loud_do rfl rfl rfl rfl rfl ?_); first | refine Nx.m_dec_t rfl rfl rfl rfl (by first | assumption | omega) ?_ | refine Nx.m_dec_f rfl rfl rfl rfl (by first | assumption | omega) ?_ | refine Nx.m_split rfl rfl rfl rfl (fun hc => ?_) (fun hc => ?_) | refine Nx.m_splitb rfl rfl rfl rfl (fun hc => ?_) (fun hc => ?_)))
    | ((fail_if_success (with_reducible refine Nx.is_at ?_)); (fail_if_success (with_reducible refine Nx.is_wp ?_)); (fail_if_success (with_reducible refine Nx.is_mix ?_)); first | refine Nx.ex ?_)
  refine Nx.p_loop (σ := Nat) (fun k => [(0, .slice A l.length c), (1, .slice B l.length d), (5, .int .i64 (k : Int))]) (fun _ => [F]) (fun k => k ≤ l.length) (fun k => l.length - k) 0 rfl (Nat.zero_le _) ⟨rfl, rfl, rfl, trivial⟩ (by (exact Ent.auto)) ?_
  intro k hk
  have hk : k ≤ l.length := hk
  by_cases hkl : k < l.length
  case neg =>
    repeat' first
      | ((with_reducible refine Nx.is_wp ?_); first | refine Nx.wo ?_ | refine Nx.p_dec rfl rfl (fun hc => ?_) (fun hc => ?_) | refine Nx.p_bool rfl rfl (fun hc => ?_) (fun hc => ?_))
      | ((first | refine Nx.at_op rfl rfl ?_ | refine Nx.m_loud rfl rfl rfl ?_ | refine Nx.at_do rfl rfl rfl rfl ?_ | refine Nx.m_loud_do rfl rfl rfl rfl rfl ?_); first | refine Nx.opr rfl rfl ?_ | refine Nx.so ?_ | refine Nx.sb (fun bx => ?_) | refine Nx.sa (fun A2 c2 => ?_))
      | ((with_reducible refine Nx.is_at ?_); first | refine Nx.a ?_ | ((fail_if_success refine Nx.at_do rfl rfl rfl rfl ?_); first | refine Nx.at_dec_t rfl rfl rfl rfl (by first | assumption | omega) ?_ | refine Nx.at_dec_f rfl rfl rfl rfl (by first | assumption | omega) ?_ | refine Nx.at_split rfl rfl rfl rfl (fun hc => ?_) (fun hc => ?_) | refine Nx.at_splitb rfl rfl rfl rfl (fun hc => ?_) (fun hc => ?_)))
      | ((with_reducible refine Nx.is_mix ?_); first | refine Nx.m ?_ | ((fail_if_success refine Nx.m_quiet_do rfl rfl rfl rfl rfl rfl rfl ?_ ?_); (fail_if_success refine Nx.m_loud_do rfl rfl rfl rfl rfl ?_); first | refine Nx.m_dec_t rfl rfl rfl rfl (by first | assumption | omega) ?_ | refine Nx.m_dec_f rfl rfl rfl rfl (by first | assumption | omega) ?_ | refine Nx.m_split rfl rfl rfl rfl (fun hc => ?_) (fun hc => ?_) | refine Nx.m_splitb rfl rfl rfl rfl (fun hc => ?_) (fun hc => ?_)))
      | ((fail_if_success (with_reducible refine Nx.is_at ?_)); (fail_if_success (with_reducible refine Nx.is_wp ?_)); (fail_if_success (with_reducible refine Nx.is_mix ?_)); first | refine Nx.ex ?_)
    exact Nx.ret_fn rfl [] ⟨rfl, rfl⟩ (by (exact Ent.auto))
  have hr1 : ∀ (W : World) (R : List Res), Rds W I R ((ad A).add (k * 2)) (frC (l.getD k default)) := fun W R => h.rds hkl
  have hr2 : ∀ (W : World) (R : List Res), Rds W I R ((ad B).add (k * 2)) (frC (l.getD k default)) := fun W R => h'.rds hkl
  generalize l.getD k default = x at hr1 hr2
  obtain ⟨a, b⟩ := x
  repeat' first
    | ((with_reducible refine Nx.is_wp ?_); first | refine Nx.wo ?_ | refine Nx.p_drawF (id := 6) rfl [0, 1, 2, 3, 4, 5, 6, 7, 8] [] [] _ rfl rfl (by kernel_rfl) (by kernel_rfl) rfl (by repeat first | exact PanicOk.fn | refine PanicOk.then_ ?_ | refine PanicOk.inB ?_) (Ent.refl _) ?_ | refine Nx.p_dec rfl rfl (fun hc => ?_) (fun hc => ?_) | refine Nx.p_bool rfl rfl (fun hc => ?_) (fun hc => ?_))
    | ((first | refine Nx.at_op rfl rfl ?_ | refine Nx.m_loud rfl rfl rfl ?_ | refine Nx.at_do rfl rfl rfl rfl ?_ | refine Nx.m_loud_do rfl rfl rfl rfl rfl ?_); first | refine Nx.opr rfl rfl ?_ | refine Nx.so ?_ | refine Nx.sb (fun bx => ?_) | refine Nx.sa (fun A2 c2 => ?_))
    | ((with_reducible refine Nx.is_at ?_); first | refine Nx.a ?_ | ((fail_if_success refine Nx.at_do rfl rfl rfl rfl ?_); first | refine Nx.at_dec_t rfl rfl rfl rfl (by first | assumption | omega) ?_ | refine Nx.at_dec_f rfl rfl rfl rfl (by first | assumption | omega) ?_ | refine Nx.at_split rfl rfl rfl rfl (fun hc => ?_) (fun hc => ?_) | refine Nx.at_splitb rfl rfl rfl rfl (fun hc => ?_) (fun hc => ?_)))
    | ((with_reducible refine Nx.is_mix ?_); first | refine Nx.m_quiet rfl rfl rfl rfl rfl (by first | exact QRun.opr rfl | exact QRun.idx (A := A) (c := c) (sz := 2) rfl rfl rfl rfl (by omega) (h.isSome (by omega) (by decide)) | exact QRun.idx (A := B) (c := d) (sz := 2) rfl rfl rfl rfl (by omega) (h'.isSome (by omega) (by decide)) | exact QRun.loads rfl rfl rfl (hr1 _ _) rfl | exact QRun.loads rfl rfl rfl (hr2 _ _) rfl | exact QRun.binr rfl rfl (neq_same _ _)) ?_ | refine Nx.m_quiet_do rfl rfl rfl rfl rfl rfl rfl (by first | exact QRun.opr rfl | exact QRun.idx (A := A) (c := c) (sz := 2) rfl rfl rfl rfl (by omega) (h.isSome (by omega) (by decide)) | exact QRun.idx (A := B) (c := d) (sz := 2) rfl rfl rfl rfl (by omega) (h'.isSome (by omega) (by decide)) | exact QRun.loads rfl rfl rfl (hr1 _ _) rfl | exact QRun.loads rfl rfl rfl (hr2 _ _) rfl | exact QRun.binr rfl rfl (neq_same _ _)) ?_ | refine Nx.m ?_ | ((fail_if_success refine Nx.m_quiet_do rfl rfl rfl rfl rfl rfl rfl ?_ ?_); (fail_if_success refine Nx.m_loud_do rfl rfl rfl rfl rfl ?_); first | refine Nx.m_dec_t rfl rfl rfl rfl (by first | assumption | omega) ?_ | refine Nx.m_dec_f rfl rfl rfl rfl (by first | assumption | omega) ?_ | refine Nx.m_split rfl rfl rfl rfl (fun hc => ?_) (fun hc => ?_) | refine Nx.m_splitb rfl rfl rfl rfl (fun hc => ?_) (fun hc => ?_)))
    | ((fail_if_success (with_reducible refine Nx.is_at ?_)); (fail_if_success (with_reducible refine Nx.is_wp ?_)); (fail_if_success (with_reducible refine Nx.is_mix ?_)); first | refine Nx.ex ?_)
  exact Nx.again (k + 1) hkl (by omega) ⟨rfl, rfl, rfl, trivial⟩ (by (exact Ent.auto))
end
end Go.Proofs.YtpdgnjoideppjaaDoor
/- Contracts of functions of the given program, and lemmas about plain lists and numbers: what the laws of this seat lean on. -/
namespace Go.Proofs.YtpdgnjoideppjaaDoor
open Go.Eng Go.Det
attribute [local irreducible] opK wpList Code.wp Exit.then Exit.inBlock fnPost bodyPost Nx Calls Oper.wp Rd Rds Wr Ent Stars Blk Again Vec FnSpec wpMix QRun Stop Upto wpAt
/-! The sanity check -/
theorem row_given {I : PH} {b : Nat} {l : List Int} {m1 : PH} {t : TypeId} (hm : PH.le m1 I) (h : Blk b t (l.map (Value.int .i64)) m1) (h9 : l.length ≤ 1000) : Ints I (some ⟨b, 0, none⟩) l.length l :=
  Blk.sliceOf hm h (by unfold maxLen; omega)
theorem mat_lit {I : PH} {b : Nat} {v : List Row} {m1 : PH} {t : TypeId} (hm : PH.le m1 I) (h : Blk b t (v.map rowV) m1) (hr : ∀ r ∈ v, Ints I r.1 r.2.1 r.2.2) (h9 : v.length ≤ 1000) : Mat I (some ⟨b, 0, none⟩) v.length v :=
  ⟨Blk.sliceOf hm h (by unfold maxLen; omega), hr⟩
theorem two_rows {I : PH} {r s : Row} (h1 : Ints I r.1 r.2.1 r.2.2) (h2 : Ints I s.1 s.2.1 s.2.2) : ∀ x ∈ [r, s], Ints I x.1 x.2.1 x.2.2 := fun x hx => by
  rcases List.mem_cons.1 hx with rfl | hx
  · exact h1
  · rw [List.mem_singleton.1 hx]; exact h2
theorem one_row {I : PH} {r : Row} (h1 : Ints I r.1 r.2.1 r.2.2) : ∀ x ∈ [r], Ints I x.1 x.2.1 x.2.2 := fun x hx => by
  rw [List.mem_singleton.1 hx]; exact h1
theorem aw_sol : solL [[2, 1], [1, -1]] [5, 1] = [(2, 1), (1, 1)] ∧ solE [[2, 1], [1, -1]] [5, 1] = 0 := by decide +kernel
theorem aw_ratio : ratioV [[3]] [[6]] = .tuple #[.agg #[.int .i64 1, .int .i64 2], .int .i64 0] := by
  unfold ratioV
  rw [if_neg (by decide +kernel), if_neg (by decide +kernel), if_neg (by decide +kernel), show detM [[3]] = 3 by decide +kernel, show detM [[6]] = 6 by decide +kernel, redV_pos (by decide +kernel)]
  unfold ratV fracV
  rw [show (Rat.divInt 3 6).num = 1 by decide +kernel, show (Rat.divInt 3 6).den = 2 by decide +kernel]
  rfl
theorem aw_ker : Ker [[1, 2], [2, 4]] 1 (fun _ => Rat.divInt (-2) 1) := by
  refine ⟨[0], ⟨by decide, fun r hr => ?_, by decide +kernel⟩, fun _ r hr => ?_, rfl, by decide, fun j hj => ?_⟩
  · rw [List.mem_singleton.1 hr]; decide
  · have : r = 0 ∨ r = 1 := by
      have : r < 2 := hr
      omega
    rcases this with rfl | rfl <;> decide +kernel
  · obtain rfl : j = 0 := by omega
    rw [show numN [[1, 2], [2, 4]] [0] 1 0 = 2 by decide +kernel, show denD [[1, 2], [2, 4]] [0] 1 = 1 by decide +kernel]
theorem aw_kerL : kerL (fun _ => Rat.divInt (-2) 1) 1 2 = [(-2, 1), (1, 1)] := by decide +kernel
theorem aw_zero : zeroB [[1, 2], [2, 4]] = true ∧ zeroB [[0]] = true := by decide +kernel
theorem aw_post {l : List (Int × Int)} (h : zeroB [[1, 2], [2, 4]] = true → ∃ k x, Ker [[1, 2], [2, 4]] k x ∧ l = kerL x k [[1, 2], [2, 4]].length) : l = [(-2, 1), (1, 1)] := by
  obtain ⟨k, x, hk, rfl⟩ := h aw_zero.1
  rw [← aw_kerL]
  exact hk.list aw_ker
set_option maxRecDepth 10000 in
set_option maxHeartbeats 8000000 in
theorem awake_spec (I : PH) (hT : TabI I) : FnSpec Tryd.prog 14 [] I [] (fun x R' => x = .bool true ∧ R' = []) := by
  refine FnSpec.enterP Tryd.func14 rfl Tryd.ntmps14 rfl fun w F => ?_
  repeat' first
    | ((with_reducible refine Nx.is_wp ?_); first | refine Nx.wo ?_ | refine Nx.p_dec rfl rfl (fun hc => ?_) (fun hc => ?_) | refine Nx.p_bool rfl rfl (fun hc => ?_) (fun hc => ?_))
    | ((first | refine Nx.at_op rfl rfl ?_ | refine Nx.m_loud rfl rfl rfl ?_ | refine Nx.at_do rfl rfl rfl rfl ?_ | refine Nx.m_loud_do rfl rfl rfl rfl rfl ?_); first | refine Nx.opr rfl rfl ?_ | refine Nx.so ?_ | refine Nx.sb (fun bx => ?_) | refine Nx.sa (fun A2 c2 => ?_))
    | ((with_reducible refine Nx.is_at ?_); first | refine Nx.a ?_ | ((fail_if_success refine Nx.at_do rfl rfl rfl rfl ?_); first | refine Nx.at_dec_t rfl rfl rfl rfl (by first | assumption | omega) ?_ | refine Nx.at_dec_f rfl rfl rfl rfl (by first | assumption | omega) ?_ | refine Nx.at_split rfl rfl rfl rfl (fun hc => ?_) (fun hc => ?_) | refine Nx.at_splitb rfl rfl rfl rfl (fun hc => ?_) (fun hc => ?_)))
    | ((with_reducible refine Nx.is_mix ?_); first | refine Nx.m ?_ | ((fail_if_success refine Nx.m_quiet_do rfl rfl rfl rfl rfl rfl rfl ?_ ?_); (fail_if_success refine Nx.m_loud_do rfl rfl rfl rfl rfl ?_); first | refine Nx.m_dec_t rfl rfl rfl rfl (by first | assumption | omega) ?_ | refine Nx.m_dec_f rfl rfl rfl rfl (by first | assumption | omega) ?_ | refine Nx.m_split rfl rfl rfl rfl (fun hc => ?_) (fun hc => ?_) | refine Nx.m_splitb rfl rfl rfl rfl (fun hc => ?_) (fun hc => ?_)))
    | ((fail_if_success (with_reducible refine Nx.is_at ?_)); (fail_if_success (with_reducible refine Nx.is_wp ?_)); (fail_if_success (with_reducible refine Nx.is_mix ?_)); first | refine Nx.ex ?_)
  rename_i b7 b8 b9
  revert bx; intro b10
  refine Nx.freezeAt 0 rfl fun I1 m1 hI1 hm1 h1 => ?_
  refine Nx.freezeAt 0 rfl fun I2 m2 hI2 hm2 h2 => ?_
  refine Nx.freezeAt 0 rfl fun I3 m3 hI3 hm3 h3 => ?_
  refine Nx.freezeAt 0 rfl fun I4 m4 hI4 hm4 h4 => ?_
  have hle4 : PH.le I I4 := ((hI1.trans hI2).trans hI3).trans hI4
  have hB : Ints I4 (some ⟨b10, 0, none⟩) 2 [5, 1] := row_given (l := [5, 1]) (((hm1.trans hI2).trans hI3).trans hI4) h1 (by decide)
  have hM : Mat I4 (some ⟨b9, 0, none⟩) 2 [(some ⟨b7, 0, none⟩, 2, [2, 1]), (some ⟨b8, 0, none⟩, 2, [1, -1])] :=
    mat_lit (v := [(some ⟨b7, 0, none⟩, 2, [2, 1]), (some ⟨b8, 0, none⟩, 2, [1, -1])]) ((hm2.trans hI3).trans hI4) h2 (two_rows (row_given (l := [2, 1]) hm4 h4 (by decide)) (row_given (l := [1, -1]) (hm3.trans hI4) h3 (by decide))) (by show (2 : Nat) ≤ 1000; decide)
  have hT4 := TabI.mono hle4 hT
  have hS : FnSpec Tryd.prog 12 [.slice (some ⟨b9, 0, none⟩) 2 2, .slice (some ⟨b10, 0, none⟩) 2 2] I4 [] (fracPost [(2, 1), (1, 1)] 0) := by
    have := Solve_spec _ 2 _ I4 hT4 hM _ 2 [5, 1] hB
    rw [show matL [((some ⟨b7, 0, none⟩, 2, [2, 1]) : Row), (some ⟨b8, 0, none⟩, 2, [1, -1])] = [[2, 1], [1, -1]] from rfl, aw_sol.1, aw_sol.2] at this
    exact this
  repeat' first
    | ((with_reducible refine Nx.is_wp ?_); first | refine Nx.wo ?_ | refine Nx.p_dec rfl rfl (fun hc => ?_) (fun hc => ?_) | refine Nx.p_bool rfl rfl (fun hc => ?_) (fun hc => ?_))
    | ((first | refine Nx.at_op rfl rfl ?_ | refine Nx.m_loud rfl rfl rfl ?_ | refine Nx.at_do rfl rfl rfl rfl ?_ | refine Nx.m_loud_do rfl rfl rfl rfl rfl ?_); first | refine Nx.opr rfl rfl ?_ | (refine Nx.call (Rpre := []) rfl rfl rfl (by kernel_rfl) rfl hS (Ent.refl _) ?_; rintro _ _ ⟨A1, c1, rfl, rfl⟩) | refine Nx.so ?_ | refine Nx.sb (fun bx => ?_) | refine Nx.sa (fun A2 c2 => ?_))
    | ((with_reducible refine Nx.is_at ?_); first | refine Nx.a ?_ | ((fail_if_success refine Nx.at_do rfl rfl rfl rfl ?_); first | refine Nx.at_dec_t rfl rfl rfl rfl (by first | assumption | omega) ?_ | refine Nx.at_dec_f rfl rfl rfl rfl (by first | assumption | omega) ?_ | refine Nx.at_split rfl rfl rfl rfl (fun hc => ?_) (fun hc => ?_) | refine Nx.at_splitb rfl rfl rfl rfl (fun hc => ?_) (fun hc => ?_)))
    | ((with_reducible refine Nx.is_mix ?_); first | refine Nx.m ?_ | ((fail_if_success refine Nx.m_quiet_do rfl rfl rfl rfl rfl rfl rfl ?_ ?_); (fail_if_success refine Nx.m_loud_do rfl rfl rfl rfl rfl ?_); first | refine Nx.m_dec_t rfl rfl rfl rfl (by first | assumption | omega) ?_ | refine Nx.m_dec_f rfl rfl rfl rfl (by first | assumption | omega) ?_ | refine Nx.m_split rfl rfl rfl rfl (fun hc => ?_) (fun hc => ?_) | refine Nx.m_splitb rfl rfl rfl rfl (fun hc => ?_) (fun hc => ?_)))
    | ((fail_if_success (with_reducible refine Nx.is_at ?_)); (fail_if_success (with_reducible refine Nx.is_wp ?_)); (fail_if_success (with_reducible refine Nx.is_mix ?_)); first | refine Nx.ex ?_)
  rename_i b14 b15
  revert bx; intro b16
  refine Nx.freezeAt 0 rfl fun I5 m5 hI5 hm5 h5 => ?_
  refine Nx.freezeAt 0 rfl fun I6 m6 hI6 hm6 h6 => ?_
  refine Nx.freezeAt 0 rfl fun I7 m7 hI7 hm7 h7 => ?_
  have hle7 : PH.le I I7 := ((hle4.trans hI5).trans hI6).trans hI7
  have hT7 := TabI.mono hle7 hT
  have hM7 : Mat I7 (some ⟨b16, 0, none⟩) 2 [(some ⟨b14, 0, none⟩, 2, [1, 2]), (some ⟨b15, 0, none⟩, 2, [2, 4])] :=
    mat_lit (v := [(some ⟨b14, 0, none⟩, 2, [1, 2]), (some ⟨b15, 0, none⟩, 2, [2, 4])]) ((hm5.trans hI6).trans hI7) h5 (two_rows (row_given (l := [1, 2]) hm7 h7 (by decide)) (row_given (l := [2, 4]) (hm6.trans hI7) h6 (by decide))) (by show (2 : Nat) ≤ 1000; decide)
  have hK : FnSpec Tryd.prog 19 [.slice (some ⟨b16, 0, none⟩) 2 2] I7 [] (fun u R' => ∃ A' c', u = .slice A' 2 c' ∧ R' = [fracsR A' c' [(-2, 1), (1, 1)]]) :=
    (Kernel_spec _ 2 _ I7 hM7 hT7).mono fun u R' ⟨A', c', l, e1, _, e3, e4⟩ => by
      have := aw_post e3
      subst this
      exact ⟨A', c', e1, e4⟩
  repeat' first
    | ((with_reducible refine Nx.is_wp ?_); first | refine Nx.wo ?_ | refine Nx.p_dec rfl rfl (fun hc => ?_) (fun hc => ?_) | refine Nx.p_bool rfl rfl (fun hc => ?_) (fun hc => ?_))
    | ((first | refine Nx.at_op rfl rfl ?_ | refine Nx.m_loud rfl rfl rfl ?_ | refine Nx.at_do rfl rfl rfl rfl ?_ | refine Nx.m_loud_do rfl rfl rfl rfl rfl ?_); first | refine Nx.opr rfl rfl ?_ | (refine Nx.call (Rpre := []) rfl rfl rfl (by kernel_rfl) rfl hK (Ent.refl _) ?_; rintro _ _ ⟨A2, c2, rfl, rfl⟩) | refine Nx.so ?_ | refine Nx.sb (fun bx => ?_) | refine Nx.sa (fun A2 c2 => ?_))
    | ((with_reducible refine Nx.is_at ?_); first | refine Nx.a ?_ | ((fail_if_success refine Nx.at_do rfl rfl rfl rfl ?_); first | refine Nx.at_dec_t rfl rfl rfl rfl (by first | assumption | omega) ?_ | refine Nx.at_dec_f rfl rfl rfl rfl (by first | assumption | omega) ?_ | refine Nx.at_split rfl rfl rfl rfl (fun hc => ?_) (fun hc => ?_) | refine Nx.at_splitb rfl rfl rfl rfl (fun hc => ?_) (fun hc => ?_)))
    | ((with_reducible refine Nx.is_mix ?_); first | refine Nx.m ?_ | ((fail_if_success refine Nx.m_quiet_do rfl rfl rfl rfl rfl rfl rfl ?_ ?_); (fail_if_success refine Nx.m_loud_do rfl rfl rfl rfl rfl ?_); first | refine Nx.m_dec_t rfl rfl rfl rfl (by first | assumption | omega) ?_ | refine Nx.m_dec_f rfl rfl rfl rfl (by first | assumption | omega) ?_ | refine Nx.m_split rfl rfl rfl rfl (fun hc => ?_) (fun hc => ?_) | refine Nx.m_splitb rfl rfl rfl rfl (fun hc => ?_) (fun hc => ?_)))
    | ((fail_if_success (with_reducible refine Nx.is_at ?_)); (fail_if_success (with_reducible refine Nx.is_wp ?_)); (fail_if_success (with_reducible refine Nx.is_mix ?_)); first | refine Nx.ex ?_)
  rename_i b19 b20 b21
  revert bx; intro b22
  refine Nx.freezeAt 0 rfl fun I8 m8 hI8 hm8 h8 => ?_
  refine Nx.freezeAt 0 rfl fun I9 m9 hI9 hm9 h9 => ?_
  refine Nx.freezeAt 0 rfl fun I10 m10 hI10 hm10 h10 => ?_
  refine Nx.freezeAt 0 rfl fun I11 m11 hI11 hm11 h11 => ?_
  have hle11 : PH.le I I11 := (((hle7.trans hI8).trans hI9).trans hI10).trans hI11
  have hT11 := TabI.mono hle11 hT
  have hA : Mat I11 (some ⟨b20, 0, none⟩) 1 [(some ⟨b19, 0, none⟩, 1, [3])] :=
    mat_lit (v := [(some ⟨b19, 0, none⟩, 1, [3])]) (hm10.trans hI11) h10 (one_row (row_given (l := [3]) hm11 h11 (by decide))) (by show (1 : Nat) ≤ 1000; decide)
  have hB2 : Mat I11 (some ⟨b22, 0, none⟩) 1 [(some ⟨b21, 0, none⟩, 1, [6])] :=
    mat_lit (v := [(some ⟨b21, 0, none⟩, 1, [6])]) (((hm8.trans hI9).trans hI10).trans hI11) h8 (one_row (row_given (l := [6]) ((hm9.trans hI10).trans hI11) h9 (by decide))) (by show (1 : Nat) ≤ 1000; decide)
  have hR : FnSpec Tryd.prog 16 [.slice (some ⟨b20, 0, none⟩) 1 1, .slice (some ⟨b22, 0, none⟩) 1 1] I11 [] (fun u R' => u = .tuple #[.agg #[.int .i64 1, .int .i64 2], .int .i64 0] ∧ R' = []) := by
    have := Ratio_spec _ _ 1 1 _ _ I11 hT11 hA hB2
    rw [show matL [((some ⟨b19, 0, none⟩, 1, [3]) : Row)] = [[3]] from rfl, show matL [((some ⟨b21, 0, none⟩, 1, [6]) : Row)] = [[6]] from rfl, aw_ratio] at this
    exact this
  have hZ : ∀ (b b' : Nat) (I' : PH), Mat I' (some ⟨b, 0, none⟩) 1 [(some ⟨b', 0, none⟩, 1, [0])] → FnSpec Tryd.prog 13 [.slice (some ⟨b, 0, none⟩) 1 1] I' [] (fun u R' => u = .bool true ∧ R' = []) := fun b b' I' h => by
    have := Zero_spec _ 1 _ I' h
    rw [show matL [((some ⟨b', 0, none⟩, 1, [0]) : Row)] = [[0]] from rfl, aw_zero.2] at this
    exact this
  repeat' first
    | ((with_reducible refine Nx.is_wp ?_); first | refine Nx.wo ?_ | refine Nx.p_dec rfl rfl (fun hc => ?_) (fun hc => ?_) | refine Nx.p_bool rfl rfl (fun hc => ?_) (fun hc => ?_))
    | ((first | refine Nx.at_op rfl rfl ?_ | refine Nx.m_loud rfl rfl rfl ?_ | refine Nx.at_do rfl rfl rfl rfl ?_ | refine Nx.m_loud_do rfl rfl rfl rfl rfl ?_); first | refine Nx.opr rfl rfl ?_ | refine Nx.callv rfl rfl rfl (by kernel_rfl) rfl hR ?_ | (refine Nx.call_lendR2 0 2 rfl rfl rfl (by kernel_rfl) rfl rfl rfl (fun m1 m2 I' hI hm1 h1 hm2 h2 => Same_fr A1 (some _) c1 2 [(2, 1), (1, 1)] I' (Vec.sliceN hm2 h2 fun _ _ => rfl) (Blk.sliceN (l := [(2, 1), (1, 1)]) hm1 h1 (fun _ _ => rfl) (by show (2 : Nat) ≤ maxLen; decide))) ?_; rintro _ _ ⟨rfl, rfl⟩) | (refine Nx.call_lendR2 0 3 rfl rfl rfl (by kernel_rfl) rfl rfl rfl (fun m1 m2 I' hI hm1 h1 hm2 h2 => Same_fr A2 (some _) c2 2 [(-2, 1), (1, 1)] I' (Vec.sliceN hm2 h2 fun _ _ => rfl) (Blk.sliceN (l := [(-2, 1), (1, 1)]) hm1 h1 (fun _ _ => rfl) (by show (2 : Nat) ≤ maxLen; decide))) ?_; rintro _ _ ⟨rfl, rfl⟩) | refine Nx.binr rfl rfl (eql_same _ _) rfl ?_ | (refine Nx.call_lendR2 0 0 rfl rfl rfl (by kernel_rfl) rfl rfl rfl (fun m1 m2 I' hI hm1 h1 hm2 h2 => hZ _ _ I' (mat_lit (v := [(some _, 1, [0])]) hm1 h1 (one_row (row_given (l := [0]) hm2 h2 (by decide))) (by show (1 : Nat) ≤ 1000; decide))) ?_; rintro _ _ ⟨rfl, rfl⟩) | refine Nx.so ?_ | refine Nx.sb (fun bx => ?_) | refine Nx.sa (fun A2 c2 => ?_))
    | ((with_reducible refine Nx.is_at ?_); first | refine Nx.a ?_ | ((fail_if_success refine Nx.at_do rfl rfl rfl rfl ?_); first | refine Nx.at_dec_t rfl rfl rfl rfl (by first | assumption | omega) ?_ | refine Nx.at_dec_f rfl rfl rfl rfl (by first | assumption | omega) ?_ | refine Nx.at_split rfl rfl rfl rfl (fun hc => ?_) (fun hc => ?_) | refine Nx.at_splitb rfl rfl rfl rfl (fun hc => ?_) (fun hc => ?_)))
    | ((with_reducible refine Nx.is_mix ?_); first | refine Nx.m ?_ | ((fail_if_success refine Nx.m_quiet_do rfl rfl rfl rfl rfl rfl rfl ?_ ?_); (fail_if_success refine Nx.m_loud_do rfl rfl rfl rfl rfl ?_); first | refine Nx.m_dec_t rfl rfl rfl rfl (by first | assumption | omega) ?_ | refine Nx.m_dec_f rfl rfl rfl rfl (by first | assumption | omega) ?_ | refine Nx.m_split rfl rfl rfl rfl (fun hc => ?_) (fun hc => ?_) | refine Nx.m_splitb rfl rfl rfl rfl (fun hc => ?_) (fun hc => ?_)))
    | ((fail_if_success (with_reducible refine Nx.is_at ?_)); (fail_if_success (with_reducible refine Nx.is_wp ?_)); (fail_if_success (with_reducible refine Nx.is_mix ?_)); first | refine Nx.ex ?_)
  exact Nx.imm_le hle11 (Nx.ret_fn rfl [] ⟨rfl, rfl⟩ (by (exact Ent.auto)))
end Go.Proofs.YtpdgnjoideppjaaDoor
/- Contracts of functions of the given program, and lemmas about plain lists and numbers: what the laws of this seat lean on. -/
namespace Go.Proofs.YtpdgnjoideppjaaDoor
open Go.Eng
attribute [local irreducible] opK wpList Code.wp Exit.then Exit.inBlock fnPost bodyPost Nx Calls Oper.wp Rd Rds Wr Ent Stars Blk Again Vec FnSpec wpMix QRun Stop Upto wpAt
/-! Codes, from which all made values are drawn -/
set_option maxRecDepth 10000 in
theorem New_spec (A : Option Addr) (c : Nat) (l : List Int) (I : PH) (hl : SliceOf (fun x : Int => Value.int .u8 x) I A c l) :
    FnSpec Tryd.prog 8 [.slice A l.length c] I [] (fun v R' => ∃ b, v = .pointer (some ⟨b, 0, none⟩) ∧ R' = [Blk b 53 [.slice A (l.take 400).length c, .int .i64 0]]) := by
  have hlen := hl.len
  have hcap := hl.cap
  have e1 : (min (l.length : Int) 400) = ((min l.length 400 : Nat) : Int) := by omega
  have e2 : (l.take 400).length = min l.length 400 := by rw [List.length_take]; omega
  refine FnSpec.enterP Tryd.func8 rfl Tryd.ntmps8 rfl fun w F => ?_
  repeat' first
    | ((with_reducible refine Nx.is_wp ?_); first | refine Nx.wo ?_ | refine Nx.p_dec rfl rfl (fun hc => ?_) (fun hc => ?_) | refine Nx.p_bool rfl rfl (fun hc => ?_) (fun hc => ?_))
    | ((first | refine Nx.at_op rfl rfl ?_ | refine Nx.m_loud rfl rfl rfl ?_ | refine Nx.at_do rfl rfl rfl rfl ?_ | refine Nx.m_loud_do rfl rfl rfl rfl rfl ?_); first | refine Nx.opr rfl rfl ?_ | refine Nx.so ?_ | refine Nx.sb (fun bx => ?_) | refine Nx.sa (fun A2 c2 => ?_))
    | ((with_reducible refine Nx.is_at ?_); first | refine Nx.a ?_ | ((fail_if_success refine Nx.at_do rfl rfl rfl rfl ?_); first | refine Nx.at_dec_t rfl rfl rfl rfl (by first | assumption | omega) ?_ | refine Nx.at_dec_f rfl rfl rfl rfl (by first | assumption | omega) ?_ | refine Nx.at_split rfl rfl rfl rfl (fun hc => ?_) (fun hc => ?_) | refine Nx.at_splitb rfl rfl rfl rfl (fun hc => ?_) (fun hc => ?_)))
    | ((with_reducible refine Nx.is_mix ?_); first | refine Nx.m ?_ | ((fail_if_success refine Nx.m_quiet_do rfl rfl rfl rfl rfl rfl rfl ?_ ?_); (fail_if_success refine Nx.m_loud_do rfl rfl rfl rfl rfl ?_); first | refine Nx.m_dec_t rfl rfl rfl rfl (by first | assumption | omega) ?_ | refine Nx.m_dec_f rfl rfl rfl rfl (by first | assumption | omega) ?_ | refine Nx.m_split rfl rfl rfl rfl (fun hc => ?_) (fun hc => ?_) | refine Nx.m_splitb rfl rfl rfl rfl (fun hc => ?_) (fun hc => ?_)))
    | ((fail_if_success (with_reducible refine Nx.is_at ?_)); (fail_if_success (with_reducible refine Nx.is_wp ?_)); (fail_if_success (with_reducible refine Nx.is_mix ?_)); first | refine Nx.ex ?_)
  rw [e1]
  repeat' first
    | ((with_reducible refine Nx.is_wp ?_); first | refine Nx.wo ?_ | refine Nx.p_dec rfl rfl (fun hc => ?_) (fun hc => ?_) | refine Nx.p_bool rfl rfl (fun hc => ?_) (fun hc => ?_))
    | ((first | refine Nx.at_op rfl rfl ?_ | refine Nx.m_loud rfl rfl rfl ?_ | refine Nx.at_do rfl rfl rfl rfl ?_ | refine Nx.m_loud_do rfl rfl rfl rfl rfl ?_); first | refine Nx.opr rfl rfl ?_ | refine Nx.slice_hi rfl rfl rfl rfl rfl (by omega) ?_ | refine Nx.so ?_ | refine Nx.sb (fun bx => ?_) | refine Nx.sa (fun A2 c2 => ?_))
    | ((with_reducible refine Nx.is_at ?_); first | refine Nx.a ?_ | ((fail_if_success refine Nx.at_do rfl rfl rfl rfl ?_); first | refine Nx.at_dec_t rfl rfl rfl rfl (by first | assumption | omega) ?_ | refine Nx.at_dec_f rfl rfl rfl rfl (by first | assumption | omega) ?_ | refine Nx.at_split rfl rfl rfl rfl (fun hc => ?_) (fun hc => ?_) | refine Nx.at_splitb rfl rfl rfl rfl (fun hc => ?_) (fun hc => ?_)))
    | ((with_reducible refine Nx.is_mix ?_); first | refine Nx.m ?_ | ((fail_if_success refine Nx.m_quiet_do rfl rfl rfl rfl rfl rfl rfl ?_ ?_); (fail_if_success refine Nx.m_loud_do rfl rfl rfl rfl rfl ?_); first | refine Nx.m_dec_t rfl rfl rfl rfl (by first | assumption | omega) ?_ | refine Nx.m_dec_f rfl rfl rfl rfl (by first | assumption | omega) ?_ | refine Nx.m_split rfl rfl rfl rfl (fun hc => ?_) (fun hc => ?_) | refine Nx.m_splitb rfl rfl rfl rfl (fun hc => ?_) (fun hc => ?_)))
    | ((fail_if_success (with_reducible refine Nx.is_at ?_)); (fail_if_success (with_reducible refine Nx.is_wp ?_)); (fail_if_success (with_reducible refine Nx.is_mix ?_)); first | refine Nx.ex ?_)
  rw [e2]
  exact Nx.ret_fn rfl [_] ⟨_, rfl, rfl⟩ (by (exact Ent.auto))
set_option maxRecDepth 10000 in
/-- Where a draw stands, and what it yields: any number below n. -/
theorem Next_spec (b : Nat) (A : Option Addr) (c : Nat) (l : List Int) (k : Nat) (n : Int) (I : PH) (hl : SliceOf (fun x : Int => Value.int .u8 x) I A c l) (hx : ∀ x ∈ l, 0 ≤ x ∧ x < 256) (hk : k ≤ l.length) (hn : 1 ≤ n ∧ n ≤ 1000000) :
    FnSpec Tryd.prog 18 [.pointer (some ⟨b, 0, none⟩), .int .i64 n] I [Blk b 53 [.slice A l.length c, .int .i64 (k : Int)]]
      (fun v R' => ∃ (r : Int) (k' : Nat), v = .int .i64 r ∧ (0 ≤ r ∧ r < n) ∧ k' ≤ l.length ∧ R' = [Blk b 53 [.slice A l.length c, .int .i64 (k' : Int)]]) := by
  have hlen := hl.len
  refine FnSpec.enterP Tryd.func18 rfl Tryd.ntmps18 rfl fun w F => ?_
  have hget : ∀ j : Nat, j < l.length → 0 ≤ l.getD j default ∧ l.getD j default < 256 := fun j h => hx _ (by rw [List.getD_eq_getElem?_getD, List.getElem?_eq_getElem h]; exact List.getElem_mem _)
  have hg1 : 0 < l.length - k → 0 ≤ l.getD ((k : Int) + 1 - 1).toNat default ∧ l.getD ((k : Int) + 1 - 1).toNat default < 256 := fun h => hget _ (by omega)
  have hg2 : 0 < l.length - (k + 1) → 0 ≤ l.getD ((k : Int) + 1).toNat default ∧ l.getD ((k : Int) + 1).toNat default < 256 := fun h => hget _ (by omega)
  repeat' first
    | ((with_reducible refine Nx.is_wp ?_); first | refine Nx.wo ?_ | refine Nx.p_draw (id := 1) rfl [0, 1, 2, 3, 4, 5, 6, 7, 8, 9, 10, 11, 12, 13] [] _ rfl rfl (by kernel_rfl) (by kernel_rfl) rfl (by repeat first | exact PanicOk.fn | refine PanicOk.then_ ?_ | refine PanicOk.inB ?_) (Ent.refl _) ?_ | refine Nx.p_draw (id := 4) rfl [0, 1, 2, 3, 4, 5, 6, 7, 8, 9, 10, 11, 12] [] _ rfl rfl (by kernel_rfl) (by kernel_rfl) rfl (by repeat first | exact PanicOk.fn | refine PanicOk.then_ ?_ | refine PanicOk.inB ?_) (Ent.refl _) ?_ | refine Nx.p_draw (id := 5) rfl [0, 1, 2, 3, 4, 5, 6, 7, 8, 9, 10, 11, 12, 13] [] _ rfl rfl (by kernel_rfl) (by kernel_rfl) rfl (by repeat first | exact PanicOk.fn | refine PanicOk.then_ ?_ | refine PanicOk.inB ?_) (Ent.refl _) ?_ | refine Nx.p_draw (id := 6) rfl [0, 1, 2, 3, 4, 5, 6, 7, 8, 9, 10, 11, 12, 13, 14] [] _ rfl rfl (by kernel_rfl) (by kernel_rfl) rfl (by repeat first | exact PanicOk.fn | refine PanicOk.then_ ?_ | refine PanicOk.inB ?_) (Ent.refl _) ?_ | refine Nx.p_dec rfl rfl (fun hc => ?_) (fun hc => ?_) | refine Nx.p_bool rfl rfl (fun hc => ?_) (fun hc => ?_))
    | ((first | refine Nx.at_op rfl rfl ?_ | refine Nx.m_loud rfl rfl rfl ?_ | refine Nx.at_do rfl rfl rfl rfl ?_ | refine Nx.m_loud_do rfl rfl rfl rfl rfl ?_); first | refine Nx.opr rfl rfl ?_ | refine Nx.so ?_ | refine Nx.sb (fun bx => ?_) | refine Nx.sa (fun A2 c2 => ?_))
    | ((with_reducible refine Nx.is_at ?_); first | refine Nx.a ?_ | ((fail_if_success refine Nx.at_do rfl rfl rfl rfl ?_); first | refine Nx.at_dec_t rfl rfl rfl rfl (by first | assumption | omega) ?_ | refine Nx.at_dec_f rfl rfl rfl rfl (by first | assumption | omega) ?_ | refine Nx.at_split rfl rfl rfl rfl (fun hc => ?_) (fun hc => ?_) | refine Nx.at_splitb rfl rfl rfl rfl (fun hc => ?_) (fun hc => ?_)))
    | ((with_reducible refine Nx.is_mix ?_); first | refine Nx.m_quiet rfl rfl rfl rfl rfl (by first | exact QRun.opr rfl | exact QRun.idxi rfl rfl rfl rfl (by omega) (by omega) (hl.isSome (by omega)) | exact QRun.load rfl rfl (hl.rd (by omega))) ?_ | refine Nx.m_quiet_do rfl rfl rfl rfl rfl rfl rfl (by first | exact QRun.opr rfl | exact QRun.idxi rfl rfl rfl rfl (by omega) (by omega) (hl.isSome (by omega)) | exact QRun.load rfl rfl (hl.rd (by omega))) ?_ | refine Nx.m ?_ | ((fail_if_success refine Nx.m_quiet_do rfl rfl rfl rfl rfl rfl rfl ?_ ?_); (fail_if_success refine Nx.m_loud_do rfl rfl rfl rfl rfl ?_); first | refine Nx.m_dec_t rfl rfl rfl rfl (by first | assumption | omega) ?_ | refine Nx.m_dec_f rfl rfl rfl rfl (by first | assumption | omega) ?_ | refine Nx.m_split rfl rfl rfl rfl (fun hc => ?_) (fun hc => ?_) | refine Nx.m_splitb rfl rfl rfl rfl (fun hc => ?_) (fun hc => ?_)))
    | ((fail_if_success (with_reducible refine Nx.is_at ?_)); (fail_if_success (with_reducible refine Nx.is_wp ?_)); (fail_if_success (with_reducible refine Nx.is_mix ?_)); first | refine Nx.ex ?_)
  · exact Nx.ret_fn rfl [_] ⟨0, k, rfl, ⟨by omega, by omega⟩, hk, rfl⟩ (Ent.refl _)
  · exact Nx.ret_fn rfl [_] ⟨_, k + 2, rfl, ⟨Int.emod_nonneg _ (by omega), Int.emod_lt_of_pos _ (by omega)⟩, by omega, by rw [show ((k + 2 : Nat) : Int) = (k : Int) + 1 + 1 by omega]⟩ (by (exact Ent.auto))
  · exact Nx.ret_fn rfl [_] ⟨_, k + 1, rfl, ⟨Int.emod_nonneg _ (by omega), Int.emod_lt_of_pos _ (by omega)⟩, by omega, by rw [show ((k + 1 : Nat) : Int) = (k : Int) + 1 by omega]⟩ (by (exact Ent.auto))
  · exact Nx.ret_fn rfl [_] ⟨_, k + 1, rfl, ⟨Int.emod_nonneg _ (by omega), Int.emod_lt_of_pos _ (by omega)⟩, by omega, by rw [show ((k + 1 : Nat) : Int) = (k : Int) + 1 by omega]⟩ (by (exact Ent.auto))
end Go.Proofs.YtpdgnjoideppjaaDoor
/- Contracts of functions of the given program, and lemmas about plain lists and numbers: what the laws of this seat lean on. -/
namespace Go.Proofs.YtpdgnjoideppjaaDoor
open Go.Eng
attribute [local irreducible] opK wpList Code.wp Exit.then Exit.inBlock fnPost bodyPost Nx Calls Oper.wp Rd Rds Wr Ent Stars Blk Again Vec FnSpec wpMix QRun Stop Upto wpAt
/-- Codes: bytes, at most 400 of them, and how many are used up. -/
structure CodesI (I : PH) (A : Option Addr) (c : Nat) (L : List Int) : Prop where
  sl : SliceOf (fun x : Int => Value.int .u8 x) I A c L
  each : ∀ x ∈ L, 0 ≤ x ∧ x < 256
def CodesR (b : Nat) (A : Option Addr) (c : Nat) (L : List Int) (k : Nat) : Res := Blk b 53 [.slice A L.length c, .int .i64 (k : Int)]
theorem CodesI.mono {I I' : PH} {A : Option Addr} {c : Nat} {L : List Int} (hle : PH.le I I') (h : CodesI I A c L) : CodesI I' A c L := ⟨h.sl.mono hle, h.each⟩
theorem Next_codes (b : Nat) (A : Option Addr) (c : Nat) (L : List Int) (k : Nat) (n : Int) (I : PH) (hL : CodesI I A c L) (hk : k ≤ L.length) (hn : 1 ≤ n ∧ n ≤ 1000000) :
    FnSpec Tryd.prog 18 [.pointer (some ⟨b, 0, none⟩), .int .i64 n] I [CodesR b A c L k]
      (fun v R' => ∃ (r : Int) (k' : Nat), v = .int .i64 r ∧ (0 ≤ r ∧ r < n) ∧ k' ≤ L.length ∧ R' = [CodesR b A c L k']) := Next_spec b A c L k n I hL.sl hL.each hk hn
theorem New_codes (A : Option Addr) (c : Nat) (l : List Int) (I : PH) (hl : SliceOf (fun x : Int => Value.int .u8 x) I A c l) (hx : ∀ x ∈ l, 0 ≤ x ∧ x < 256) :
    CodesI I A c (l.take 400) ∧ FnSpec Tryd.prog 8 [.slice A l.length c] I [] (fun v R' => ∃ b, v = .pointer (some ⟨b, 0, none⟩) ∧ R' = [CodesR b A c (l.take 400) 0]) := by
  refine ⟨⟨⟨?_, ?_, hl.max⟩, fun x h => hx x (List.mem_of_mem_take h)⟩, New_spec A c l I hl⟩
  · intro j u hj
    refine hl.arr j u ?_
    rw [List.map_take, List.getElem?_take] at hj
    split at hj
    · exact hj
    · cases hj
  · have := hl.cap
    rw [List.length_take]
    omega
set_option maxRecDepth 10000 in
theorem Range_codes (b : Nat) (A : Option Addr) (c : Nat) (L : List Int) (k : Nat) (lo hi : Int) (I : PH) (hL : CodesI I A c L) (hk : k ≤ L.length) (hlo : -1000000 ≤ lo ∧ lo ≤ 1000000) (hh : lo ≤ hi ∧ hi ≤ lo + 999999) :
    FnSpec Tryd.prog 9 [.pointer (some ⟨b, 0, none⟩), .int .i64 lo, .int .i64 hi] I [CodesR b A c L k]
      (fun v R' => ∃ (r : Int) (k' : Nat), v = .int .i64 r ∧ (lo ≤ r ∧ r ≤ hi) ∧ k' ≤ L.length ∧ R' = [CodesR b A c L k']) := by
  refine FnSpec.enterP Tryd.func9 rfl Tryd.ntmps9 rfl fun w F => ?_
  repeat' first
    | ((with_reducible refine Nx.is_wp ?_); first | refine Nx.wo ?_ | refine Nx.p_dec rfl rfl (fun hc => ?_) (fun hc => ?_) | refine Nx.p_bool rfl rfl (fun hc => ?_) (fun hc => ?_))
    | ((first | refine Nx.at_op rfl rfl ?_ | refine Nx.m_loud rfl rfl rfl ?_ | refine Nx.at_do rfl rfl rfl rfl ?_ | refine Nx.m_loud_do rfl rfl rfl rfl rfl ?_); first | refine Nx.opr rfl rfl ?_ | refine Nx.call rfl rfl rfl (by kernel_rfl) rfl (Next_codes b A c L k _ I hL hk (by omega)) (Ent.refl _) ?_; rintro _ _ ⟨r, k1, rfl, hr, hk1, rfl⟩ | refine Nx.so ?_ | refine Nx.sb (fun bx => ?_) | refine Nx.sa (fun A2 c2 => ?_))
    | ((with_reducible refine Nx.is_at ?_); first | refine Nx.a ?_ | ((fail_if_success refine Nx.at_do rfl rfl rfl rfl ?_); first | refine Nx.at_dec_t rfl rfl rfl rfl (by first | assumption | omega) ?_ | refine Nx.at_dec_f rfl rfl rfl rfl (by first | assumption | omega) ?_ | refine Nx.at_split rfl rfl rfl rfl (fun hc => ?_) (fun hc => ?_) | refine Nx.at_splitb rfl rfl rfl rfl (fun hc => ?_) (fun hc => ?_)))
    | ((with_reducible refine Nx.is_mix ?_); first | refine Nx.m ?_ | ((fail_if_success refine Nx.m_quiet_do rfl rfl rfl rfl rfl rfl rfl ?_ ?_); (fail_if_success refine Nx.m_loud_do rfl rfl rfl rfl rfl ?_); first | refine Nx.m_dec_t rfl rfl rfl rfl (by first | assumption | omega) ?_ | refine Nx.m_dec_f rfl rfl rfl rfl (by first | assumption | omega) ?_ | refine Nx.m_split rfl rfl rfl rfl (fun hc => ?_) (fun hc => ?_) | refine Nx.m_splitb rfl rfl rfl rfl (fun hc => ?_) (fun hc => ?_)))
    | ((fail_if_success (with_reducible refine Nx.is_at ?_)); (fail_if_success (with_reducible refine Nx.is_wp ?_)); (fail_if_success (with_reducible refine Nx.is_mix ?_)); first | refine Nx.ex ?_)
  exact Nx.ret_fn rfl [_] ⟨_, k1, rfl, ⟨by omega, by omega⟩, hk1, rfl⟩ (by (exact Ent.auto))
end Go.Proofs.YtpdgnjoideppjaaDoor
/- Contracts of functions of the given program, and lemmas about plain lists and numbers: what the laws of this seat lean on. -/
namespace Go.Proofs.YtpdgnjoideppjaaDoor
open Go.Eng Go.Det
attribute [local irreducible] opK wpList Code.wp Exit.then Exit.inBlock fnPost bodyPost Nx Calls Oper.wp Rd Rds Wr Ent Stars Blk Again Vec FnSpec wpMix QRun Stop Upto wpAt
/-! What is drawn -/
set_option maxRecDepth 10000 in
theorem One_codes (b : Nat) (A : Option Addr) (c : Nat) (L : List Int) (k : Nat) (n : Int) (I : PH) (hL : CodesI I A c L) (hk : k ≤ L.length) (hn : 1 ≤ n ∧ n ≤ 1000000) :
    FnSpec Tryd.prog 22 [.pointer (some ⟨b, 0, none⟩), .int .i64 n] I [CodesR b A c L k]
      (fun v R' => ∃ (r : Bool) (k' : Nat), v = .bool r ∧ k' ≤ L.length ∧ R' = [CodesR b A c L k']) := by
  refine FnSpec.enterP Tryd.func22 rfl Tryd.ntmps22 rfl fun w F => ?_
  repeat' first
    | ((with_reducible refine Nx.is_wp ?_); first | refine Nx.wo ?_ | refine Nx.p_dec rfl rfl (fun hc => ?_) (fun hc => ?_) | refine Nx.p_bool rfl rfl (fun hc => ?_) (fun hc => ?_))
    | ((first | refine Nx.at_op rfl rfl ?_ | refine Nx.m_loud rfl rfl rfl ?_ | refine Nx.at_do rfl rfl rfl rfl ?_ | refine Nx.m_loud_do rfl rfl rfl rfl rfl ?_); first | refine Nx.opr rfl rfl ?_ | refine Nx.call rfl rfl rfl (by kernel_rfl) rfl (Next_codes b A c L k n I hL hk hn) (Ent.refl _) ?_; rintro _ _ ⟨r, k1, rfl, hr, hk1, rfl⟩ | refine Nx.so ?_ | refine Nx.sb (fun bx => ?_) | refine Nx.sa (fun A2 c2 => ?_))
    | ((with_reducible refine Nx.is_at ?_); first | refine Nx.a ?_ | ((fail_if_success refine Nx.at_do rfl rfl rfl rfl ?_); first | refine Nx.at_dec_t rfl rfl rfl rfl (by first | assumption | omega) ?_ | refine Nx.at_dec_f rfl rfl rfl rfl (by first | assumption | omega) ?_ | refine Nx.at_split rfl rfl rfl rfl (fun hc => ?_) (fun hc => ?_) | refine Nx.at_splitb rfl rfl rfl rfl (fun hc => ?_) (fun hc => ?_)))
    | ((with_reducible refine Nx.is_mix ?_); first | refine Nx.m ?_ | ((fail_if_success refine Nx.m_quiet_do rfl rfl rfl rfl rfl rfl rfl ?_ ?_); (fail_if_success refine Nx.m_loud_do rfl rfl rfl rfl rfl ?_); first | refine Nx.m_dec_t rfl rfl rfl rfl (by first | assumption | omega) ?_ | refine Nx.m_dec_f rfl rfl rfl rfl (by first | assumption | omega) ?_ | refine Nx.m_split rfl rfl rfl rfl (fun hc => ?_) (fun hc => ?_) | refine Nx.m_splitb rfl rfl rfl rfl (fun hc => ?_) (fun hc => ?_)))
    | ((fail_if_success (with_reducible refine Nx.is_at ?_)); (fail_if_success (with_reducible refine Nx.is_wp ?_)); (fail_if_success (with_reducible refine Nx.is_mix ?_)); first | refine Nx.ex ?_)
  exact Nx.ret_fn rfl [_] ⟨_, k1, rfl, hk1, rfl⟩ (by (exact Ent.auto))
/-- Numbers of a size. -/
def Sized (l : List Int) (b : Int) : Prop := ∀ x ∈ l, -b ≤ x ∧ x ≤ b
theorem Sized.snoc {l : List Int} {b z : Int} (h : Sized l b) (hz : -b ≤ z ∧ z ≤ b) : Sized (l ++ [z]) b := fun x hx => by
  rcases List.mem_append.1 hx with h1 | h1
  · exact h x h1
  · rw [List.mem_singleton.1 h1]; exact hz
/-! A matrix that is built and changed -/
/-- n rows of n numbers, of which something holds. -/
structure MOk (o : List Row) (n : Nat) (P : Nat → Nat → Int → Prop) : Prop where
  len : o.length = n
  row : ∀ i, i < n → (o.getD i default).2.2.length = n
  some : ∀ i, i < n → (o.getD i default).1.isSome = true
  ent : ∀ i j, i < n → j < n → P i j ((o.getD i default).2.2.getD j default)
theorem MOk.weak {o : List Row} {n : Nat} {P Q : Nat → Nat → Int → Prop} (h : MOk o n P) (hPQ : ∀ i j z, P i j z → Q i j z) : MOk o n Q := ⟨h.len, h.row, h.some, fun i j hi hj => hPQ _ _ _ (h.ent i j hi hj)⟩
/-- A number is changed. -/
def setRow (o : List Row) (i j : Nat) (z : Int) : List Row := o.set i ((o.getD i default).1, (o.getD i default).2.1, (o.getD i default).2.2.set j z)
theorem getD_set {α : Type} [Inhabited α] {l : List α} {i k : Nat} {x : α} (hk : k < l.length) : (l.set i x).getD k default = if k = i then x else l.getD k default := by
  rw [List.getD_eq_getElem?_getD, List.getElem?_set]
  by_cases h : i = k
  · rw [if_pos h, if_pos h.symm, if_pos (by omega)]; rfl
  · rw [if_neg h, if_neg (Ne.symm h), ← List.getD_eq_getElem?_getD]
theorem MOk.set {o : List Row} {n : Nat} {P : Nat → Nat → Int → Prop} (h : MOk o n P) {i j : Nat} {z : Int} (hz : P i j z) : MOk (setRow o i j z) n P := by
  have hl := h.len
  refine ⟨by unfold setRow; rw [List.length_set]; exact hl, fun k hk => ?_, fun k hk => ?_, fun k m hk hm => ?_⟩
  · unfold setRow
    rw [getD_set (by omega)]
    split
    · rename_i he; subst he; rw [List.length_set]; exact h.row k hk
    · exact h.row k hk
  · unfold setRow
    rw [getD_set (by omega)]
    split
    · rename_i he; subst he; exact h.some k hk
    · exact h.some k hk
  · unfold setRow
    rw [getD_set (by omega)]
    split
    · rename_i he
      subst he
      rw [getD_set (by rw [h.row k hk]; exact hm)]
      split
      · rename_i he2; subst he2; exact hz
      · exact h.ent k m hk hm
    · exact h.ent k m hk hm
theorem setRow_outer {o : List Row} {i j : Nat} {z : Int} (hi : i < o.length) : (setRow o i j z).map rowV = o.map rowV := by
  have e : rowV ((o.getD i default).1, (o.getD i default).2.1, (o.getD i default).2.2.set j z) = (o.map rowV)[i]'(by rw [List.length_map]; exact hi) := by
    rw [List.getElem_map, show o.getD i default = o[i] by rw [List.getD_eq_getElem?_getD, List.getElem?_eq_getElem hi]; rfl]
    show Value.slice _ (List.set _ _ _).length _ = Value.slice _ _ _
    rw [List.length_set]
  unfold setRow
  rw [List.map_set, e, List.set_getElem_self]
theorem row_get {o : List Row} {i : Nat} (hi : i < o.length) : (o.map rowR)[i]? = some (rowR (o.getD i default)) := by
  rw [List.getElem?_map, List.getElem?_eq_getElem hi, List.getD_eq_getElem?_getD, List.getElem?_eq_getElem hi]; rfl
/-- A number of an owned matrix is read. -/
theorem row_rd {W : World} {I : PH} {R : List Res} (k : Nat) {o : List Row} (hk : nthL R k = some (Stars (o.map rowR))) {i j : Nat} (hi : i < o.length) (hj : j < (o.getD i default).2.2.length) : Rd W I R ((ad (o.getD i default).1).add (j * 1)) (.int .i64 ((o.getD i default).2.2.getD j default)) :=
  Rd.ent ((Ent.pull k R _ (nthL_eq.symm.trans hk)).trans (Ent.takeOut i (row_get hi))) (Rd.vecEl 0 (f := Value.int .i64) rfl hj)
/-- A number of an owned matrix is changed. -/
theorem Nx.store_row {C : Cx} {e : Env} {I : PH} {R : List Res} {K : Act → World → Prop} {Q : Exit → Act → World → Prop} {t ty : TypeId} {pos : String} {after : Array Edge} {g : Option (Nat × Bool)} {x y : Operand} (k : Nat) {o : List Row} {i j : Nat} {z : Int} (hx : evo e x = some (.pointer (some ((ad (o.getD i default).1).add (j * 1))))) (hy : evo e y = some (.int .i64 z)) (hn : Go.Eng.cellsIn C.P t = some 1) (hk : nthL R k = some (Stars (o.map rowR))) (hi : i < o.length) (hj : j < (o.getD i default).2.2.length)
    (h : Nx C e I (Stars ((setRow o i j z).map rowR) :: R.eraseIdx k) K) : Nx C e I R (opK C.P ⟨none, .store t x y, ty, pos, after, g⟩ K Q) := by
  refine Nx.ent ((Ent.pull k R _ (nthL_eq.symm.trans hk)).trans (Ent.takeOut i (row_get hi))) ?_
  refine Nx.store_of 0 (Value.int .i64) hx hy rfl rfl hn rfl hj ?_
  refine Nx.ent ?_ h
  have h1 := Ent.putIn i (B := o.map rowR) (R := R.eraseIdx k) (r := rowR ((o.getD i default).1, (o.getD i default).2.1, (o.getD i default).2.2.set j z)) (by rw [List.length_map]; exact hi)
  have h2 : (setRow o i j z).map rowR = (o.map rowR).set i (rowR ((o.getD i default).1, (o.getD i default).2.1, (o.getD i default).2.2.set j z)) := List.map_set
  rw [h2]
  refine Ent.trans ?_ h1
  unfold rowR intsR
  dsimp only
  rw [List.length_set]
  exact Ent.refl _
end Go.Proofs.YtpdgnjoideppjaaDoor
/-
  The proof engine, part AI: conversion to a number without sign, in an open statement.
-/
namespace Go.Eng
theorem QRun.conv_u64 {C : Cx} {e : Env} {S : World → Prop} {ty t u : TypeId} {pos : String} {after : Array Edge} {g : Option (Nat × Bool)} {x : Operand} {k : IntKind} {p : Int} {s : TypeDesc} {dst : Option Tmp} (hx : evo e x = some (.int k p)) (hs : C.P.underlying t = some s) (ht : C.P.underlying u = some (.int .u64)) : QRun C e S ⟨dst, .convert t u x, ty, pos, after, g⟩ (.int .u64 (p % B64)) := fun a w ha _ => by
  simp only [execOp, ha.eval hx]
  refine run_v ?_
  unfold convert
  rw [Sem.run_bind, run_underlying hs, Result.andThen_ok, Sem.run_bind, run_underlying ht, Result.andThen_ok]
  show Result.ok (Value.int .u64 (IntKind.u64.wrap p)) w = _
  rw [IntKind.wrap_u64]
end Go.Eng
/- Contracts of functions of the given program, and lemmas about plain lists and numbers: what the laws of this seat lean on. -/
namespace Go.Proofs.YtpdgnjoideppjaaDoor
open Go.Eng Go.Det
attribute [local irreducible] opK wpList Code.wp Exit.then Exit.inBlock fnPost bodyPost Nx Calls Oper.wp Rd Rds Wr Ent Stars Blk Again Vec FnSpec wpMix QRun Stop Upto wpAt
/-! A matrix is drawn -/
/-- What holds of all numbers of a matrix that is drawn. -/
def Big (z : Int) : Prop := -12884901888 ≤ z ∧ z ≤ 12884901888
/-- .. and that all rows but the first one are small. -/
def Fine (i : Nat) (z : Int) : Prop := Big z ∧ (1 ≤ i → -54 ≤ z ∧ z ≤ 54)
def matDrawn (b : Nat) (A : Option Addr) (c : Nat) (L : List Int) (n : Nat) (v : Value) (R' : List Res) : Prop :=
  ∃ (A' : Option Addr) (c' : Nat) (o : List Row) (k' : Nat), v = .slice A' o.length c' ∧ MOk o n (fun i _ z => Fine i z) ∧ k' ≤ L.length ∧ R' = [Vec 28 1 A' o.length c' (o.map rowV), Stars (o.map rowR), CodesR b A c L k']
theorem run_shlJ {P : Program} {t : TypeId} {x y : Operand} {n p : Nat} {z : Int} (hz : z = (n : Int)) (hn : n < 33) (hp : p = 2 ^ n) : pureRun P (do eqGuard .shl t x y (.int .i64 1) (.int .u64 z); binOp .shl t (.int .i64 1) (.int .u64 z)) = some (.int .i64 (p : Int)) := by
  subst hz hp
  have : n = 0 ∨ n = 1 ∨ n = 2 ∨ n = 3 ∨ n = 4 ∨ n = 5 ∨ n = 6 ∨ n = 7 ∨ n = 8 ∨ n = 9 ∨ n = 10 ∨ n = 11 ∨ n = 12 ∨ n = 13 ∨ n = 14 ∨ n = 15 ∨ n = 16 ∨ n = 17 ∨ n = 18 ∨ n = 19 ∨ n = 20 ∨ n = 21 ∨ n = 22 ∨ n = 23 ∨ n = 24 ∨ n = 25 ∨ n = 26 ∨ n = 27 ∨ n = 28 ∨ n = 29 ∨ n = 30 ∨ n = 31 ∨ n = 32 := by omega
  rcases this with rfl | rfl | rfl | rfl | rfl | rfl | rfl | rfl | rfl | rfl | rfl | rfl | rfl | rfl | rfl | rfl | rfl | rfl | rfl | rfl | rfl | rfl | rfl | rfl | rfl | rfl | rfl | rfl | rfl | rfl | rfl | rfl | rfl <;> rfl
set_option maxRecDepth 10000 in
theorem mat4 (b : Nat) (A : Option Addr) (c : Nat) (L : List Int) (n : Nat) (I : PH) (w : World) (F : Res) (Ao : Option Addr) (co : Nat) (o : List Row) (k : Nat) (hk : k ≤ L.length) (hM : MOk o n (fun i _ z => Fine i z)) : Nx ⟨Tryd.prog, 98, w⟩ [(0, .pointer (some ⟨b, 0, none⟩)), (1, .int .i64 (n : Int)), (5, .slice Ao n co)] I [Vec 28 1 Ao n co (o.map rowV), Stars (o.map rowR), CodesR b A c L k, F] (Code.wp Tryd.prog (cr (cr (cr (cr (cr (cr (bodyOf Tryd.f10))))))) (fnPost Tryd.prog Tryd.f10 I F w (matDrawn b A c L n))) := by
  have hol := hM.len
  repeat' first
    | ((with_reducible refine Nx.is_wp ?_); first | refine Nx.wo ?_ | refine Nx.p_dec rfl rfl (fun hc => ?_) (fun hc => ?_) | refine Nx.p_bool rfl rfl (fun hc => ?_) (fun hc => ?_))
    | ((first | refine Nx.at_op rfl rfl ?_ | refine Nx.m_loud rfl rfl rfl ?_ | refine Nx.at_do rfl rfl rfl rfl ?_ | refine Nx.m_loud_do rfl rfl rfl rfl rfl ?_); first | refine Nx.opr rfl rfl ?_ | refine Nx.so ?_ | refine Nx.sb (fun bx => ?_) | refine Nx.sa (fun A2 c2 => ?_))
    | ((with_reducible refine Nx.is_at ?_); first | refine Nx.a ?_ | ((fail_if_success refine Nx.at_do rfl rfl rfl rfl ?_); first | refine Nx.at_dec_t rfl rfl rfl rfl (by first | assumption | omega) ?_ | refine Nx.at_dec_f rfl rfl rfl rfl (by first | assumption | omega) ?_ | refine Nx.at_split rfl rfl rfl rfl (fun hc => ?_) (fun hc => ?_) | refine Nx.at_splitb rfl rfl rfl rfl (fun hc => ?_) (fun hc => ?_)))
    | ((with_reducible refine Nx.is_mix ?_); first | refine Nx.m ?_ | ((fail_if_success refine Nx.m_quiet_do rfl rfl rfl rfl rfl rfl rfl ?_ ?_); (fail_if_success refine Nx.m_loud_do rfl rfl rfl rfl rfl ?_); first | refine Nx.m_dec_t rfl rfl rfl rfl (by first | assumption | omega) ?_ | refine Nx.m_dec_f rfl rfl rfl rfl (by first | assumption | omega) ?_ | refine Nx.m_split rfl rfl rfl rfl (fun hc => ?_) (fun hc => ?_) | refine Nx.m_splitb rfl rfl rfl rfl (fun hc => ?_) (fun hc => ?_)))
    | ((fail_if_success (with_reducible refine Nx.is_at ?_)); (fail_if_success (with_reducible refine Nx.is_wp ?_)); (fail_if_success (with_reducible refine Nx.is_mix ?_)); first | refine Nx.ex ?_)
  exact Nx.ret_fn rfl [Vec 28 1 Ao o.length co (o.map rowV), Stars (o.map rowR), CodesR b A c L k] ⟨Ao, co, o, k, by rw [hol], hM, hk, rfl⟩ (by rw [hol]; (exact Ent.auto))
set_option maxRecDepth 10000 in
set_option maxHeartbeats 8000000 in
theorem mat3 (b : Nat) (A : Option Addr) (c : Nat) (L : List Int) (n : Nat) (I : PH) (w : World) (F : Res) (hL : CodesI I A c L) (hn : 1 ≤ n ∧ n ≤ 1000) (Ao : Option Addr) (co : Nat) (o : List Row) (k : Nat) (hk : k ≤ L.length) (hM : MOk o n (fun i _ z => (-4294967296 ≤ z ∧ z ≤ 4294967296) ∧ (1 ≤ i → -18 ≤ z ∧ z ≤ 18))) : Nx ⟨Tryd.prog, 98, w⟩ [(0, .pointer (some ⟨b, 0, none⟩)), (1, .int .i64 (n : Int)), (5, .slice Ao n co)] I [Vec 28 1 Ao n co (o.map rowV), Stars (o.map rowR), CodesR b A c L k, F] (Code.wp Tryd.prog (cl (cr (cr (cr (cr (cr (bodyOf Tryd.f10))))))) (Exit.then (Code.wp Tryd.prog (cr (cr (cr (cr (cr (cr (bodyOf Tryd.f10))))))) (fnPost Tryd.prog Tryd.f10 I F w (matDrawn b A c L n))) (fnPost Tryd.prog Tryd.f10 I F w (matDrawn b A c L n)))) := by
  by_cases hn1 : 1 < n
  case neg =>
    repeat' first
      | ((with_reducible refine Nx.is_wp ?_); first | refine Nx.p_stopr 23 rfl ?_ | refine Nx.wo ?_ | refine Nx.p_dec rfl rfl (fun hc => ?_) (fun hc => ?_) | refine Nx.p_bool rfl rfl (fun hc => ?_) (fun hc => ?_))
      | ((first | refine Nx.at_op rfl rfl ?_ | refine Nx.m_loud rfl rfl rfl ?_ | refine Nx.at_do rfl rfl rfl rfl ?_ | refine Nx.m_loud_do rfl rfl rfl rfl rfl ?_); first | refine Nx.opr rfl rfl ?_ | refine Nx.so ?_ | refine Nx.sb (fun bx => ?_) | refine Nx.sa (fun A2 c2 => ?_))
      | ((with_reducible refine Nx.is_at ?_); first | refine Nx.a ?_ | ((fail_if_success refine Nx.at_do rfl rfl rfl rfl ?_); first | refine Nx.at_dec_t rfl rfl rfl rfl (by first | assumption | omega) ?_ | refine Nx.at_dec_f rfl rfl rfl rfl (by first | assumption | omega) ?_ | refine Nx.at_split rfl rfl rfl rfl (fun hc => ?_) (fun hc => ?_) | refine Nx.at_splitb rfl rfl rfl rfl (fun hc => ?_) (fun hc => ?_)))
      | ((with_reducible refine Nx.is_mix ?_); first | refine Nx.m ?_ | ((fail_if_success refine Nx.m_quiet_do rfl rfl rfl rfl rfl rfl rfl ?_ ?_); (fail_if_success refine Nx.m_loud_do rfl rfl rfl rfl rfl ?_); first | refine Nx.m_dec_t rfl rfl rfl rfl (by first | assumption | omega) ?_ | refine Nx.m_dec_f rfl rfl rfl rfl (by first | assumption | omega) ?_ | refine Nx.m_split rfl rfl rfl rfl (fun hc => ?_) (fun hc => ?_) | refine Nx.m_splitb rfl rfl rfl rfl (fun hc => ?_) (fun hc => ?_)))
      | ((fail_if_success (with_reducible refine Nx.is_at ?_)); (fail_if_success (with_reducible refine Nx.is_wp ?_)); (fail_if_success (with_reducible refine Nx.is_mix ?_)); first | refine Nx.ex ?_)
    exact Nx.unstop (Nx.weak (by exact ⟨rfl, rfl, rfl, trivial⟩) (by (exact Ent.auto)) (mat4 b A c L n I w F Ao co o k hk (hM.weak fun i _ z hz => by unfold Fine Big; omega)))
  repeat' first
    | ((with_reducible refine Nx.is_wp ?_); first | refine Nx.p_stopr 23 rfl ?_ | refine Nx.wo ?_ | refine Nx.p_dec rfl rfl (fun hc => ?_) (fun hc => ?_) | refine Nx.p_bool rfl rfl (fun hc => ?_) (fun hc => ?_))
    | ((first | refine Nx.at_op rfl rfl ?_ | refine Nx.m_loud rfl rfl rfl ?_ | refine Nx.at_do rfl rfl rfl rfl ?_ | refine Nx.m_loud_do rfl rfl rfl rfl rfl ?_); first | refine Nx.opr rfl rfl ?_ | (refine Nx.call rfl rfl rfl (by kernel_rfl) rfl (One_codes b A c L k 6 I hL hk (by omega)) (by (exact Ent.auto)) ?_; rintro _ _ ⟨r, k1, rfl, hk1, rfl⟩) | refine Nx.so ?_ | refine Nx.sb (fun bx => ?_) | refine Nx.sa (fun A2 c2 => ?_))
    | ((with_reducible refine Nx.is_at ?_); first | refine Nx.a ?_ | ((fail_if_success refine Nx.at_do rfl rfl rfl rfl ?_); first | refine Nx.at_dec_t rfl rfl rfl rfl (by first | assumption | omega) ?_ | refine Nx.at_dec_f rfl rfl rfl rfl (by first | assumption | omega) ?_ | refine Nx.at_split rfl rfl rfl rfl (fun hc => ?_) (fun hc => ?_) | refine Nx.at_splitb rfl rfl rfl rfl (fun hc => ?_) (fun hc => ?_)))
    | ((with_reducible refine Nx.is_mix ?_); first | refine Nx.m ?_ | ((fail_if_success refine Nx.m_quiet_do rfl rfl rfl rfl rfl rfl rfl ?_ ?_); (fail_if_success refine Nx.m_loud_do rfl rfl rfl rfl rfl ?_); first | refine Nx.m_dec_t rfl rfl rfl rfl (by first | assumption | omega) ?_ | refine Nx.m_dec_f rfl rfl rfl rfl (by first | assumption | omega) ?_ | refine Nx.m_split rfl rfl rfl rfl (fun hc => ?_) (fun hc => ?_) | refine Nx.m_splitb rfl rfl rfl rfl (fun hc => ?_) (fun hc => ?_)))
    | ((fail_if_success (with_reducible refine Nx.is_at ?_)); (fail_if_success (with_reducible refine Nx.is_wp ?_)); (fail_if_success (with_reducible refine Nx.is_mix ?_)); first | refine Nx.ex ?_)
  · refine Nx.ent (R' := [Vec 28 1 Ao n co (o.map rowV), Stars (o.map rowR), CodesR b A c L k1, F]) (by (exact Ent.auto)) ?_
    refine Nx.vec_fact fun hv1 hv2 hv3 hAo => ?_
    refine Nx.p_loop (σ := Nat × List Row) (fun x => [(0, .pointer (some ⟨b, 0, none⟩)), (1, .int .i64 (n : Int)), (5, .slice Ao n co), (10, .int .i64 (x.1 : Int))])
      (fun x => [Vec 28 1 Ao n co (x.2.map rowV), Stars (x.2.map rowR), CodesR b A c L k1, F]) (fun x => x.1 ≤ n ∧ MOk x.2 n (fun i j z => ((-4294967296 ≤ z ∧ z ≤ 4294967296) ∧ (1 ≤ i → -18 ≤ z ∧ z ≤ 18)) ∨ j = 1 ∧ Fine i z)) (fun x => n - x.1) (0, o) rfl ⟨Nat.zero_le _, hM.weak fun _ _ _ hz => Or.inl hz⟩ ⟨rfl, rfl, rfl, rfl, trivial⟩ (by (exact Ent.auto)) ?_
    rintro ⟨i, o'⟩ ⟨hi, hM'⟩
    dsimp only at hi hM' ⊢
    by_cases hlt : i < n
    case neg =>
      repeat' first
        | ((with_reducible refine Nx.is_wp ?_); first | refine Nx.p_stopr 23 rfl ?_ | refine Nx.wo ?_ | refine Nx.p_dec rfl rfl (fun hc => ?_) (fun hc => ?_) | refine Nx.p_bool rfl rfl (fun hc => ?_) (fun hc => ?_))
        | ((first | refine Nx.at_op rfl rfl ?_ | refine Nx.m_loud rfl rfl rfl ?_ | refine Nx.at_do rfl rfl rfl rfl ?_ | refine Nx.m_loud_do rfl rfl rfl rfl rfl ?_); first | refine Nx.opr rfl rfl ?_ | refine Nx.so ?_ | refine Nx.sb (fun bx => ?_) | refine Nx.sa (fun A2 c2 => ?_))
        | ((with_reducible refine Nx.is_at ?_); first | refine Nx.a ?_ | ((fail_if_success refine Nx.at_do rfl rfl rfl rfl ?_); first | refine Nx.at_dec_t rfl rfl rfl rfl (by first | assumption | omega) ?_ | refine Nx.at_dec_f rfl rfl rfl rfl (by first | assumption | omega) ?_ | refine Nx.at_split rfl rfl rfl rfl (fun hc => ?_) (fun hc => ?_) | refine Nx.at_splitb rfl rfl rfl rfl (fun hc => ?_) (fun hc => ?_)))
        | ((with_reducible refine Nx.is_mix ?_); first | refine Nx.m ?_ | ((fail_if_success refine Nx.m_quiet_do rfl rfl rfl rfl rfl rfl rfl ?_ ?_); (fail_if_success refine Nx.m_loud_do rfl rfl rfl rfl rfl ?_); first | refine Nx.m_dec_t rfl rfl rfl rfl (by first | assumption | omega) ?_ | refine Nx.m_dec_f rfl rfl rfl rfl (by first | assumption | omega) ?_ | refine Nx.m_split rfl rfl rfl rfl (fun hc => ?_) (fun hc => ?_) | refine Nx.m_splitb rfl rfl rfl rfl (fun hc => ?_) (fun hc => ?_)))
        | ((fail_if_success (with_reducible refine Nx.is_at ?_)); (fail_if_success (with_reducible refine Nx.is_wp ?_)); (fail_if_success (with_reducible refine Nx.is_mix ?_)); first | refine Nx.ex ?_)
      exact Nx.unstop (Nx.weak (by exact ⟨rfl, rfl, rfl, trivial⟩) (by (exact Ent.auto)) (mat4 b A c L n I w F Ao co o' k1 hk1 (hM'.weak fun i _ z hz => by rcases hz with hz | ⟨_, hz⟩ <;> unfold Fine Big at * <;> omega)))
    have hol := hM'.len
    have hri := hM'.row i hlt
    have hsi := hM'.some i hlt
    have he := (hM'.ent i 0 hlt (by omega)).resolve_right fun h => absurd h.1 (by decide)
    repeat' first
      | ((with_reducible refine Nx.is_wp ?_); first | refine Nx.p_stopr 23 rfl ?_ | refine Nx.wo ?_ | refine Nx.p_drawF (id := 15) rfl [0, 1, 2, 3, 4, 5, 6, 7, 8, 9, 10, 11, 12, 13, 14, 15, 16, 17, 18, 19, 20, 21, 22] [] [23] _ rfl rfl (by kernel_rfl) (by kernel_rfl) rfl (by repeat first | exact PanicOk.fn | refine PanicOk.then_ ?_ | refine PanicOk.inB ?_) (Ent.refl _) ?_ | refine Nx.p_drawF (id := 17) rfl [0, 1, 2, 3, 4, 5, 6, 7] [4] [8] _ rfl rfl (by kernel_rfl) (by kernel_rfl) rfl (by repeat first | exact PanicOk.fn | refine PanicOk.then_ ?_ | refine PanicOk.inB ?_) (Ent.refl _) ?_ | refine Nx.p_drawF (id := 22) rfl [0, 1, 2, 3, 4, 5, 6, 7, 8, 9, 10, 11] [] [12] _ rfl rfl (by kernel_rfl) (by kernel_rfl) rfl (by repeat first | exact PanicOk.fn | refine PanicOk.then_ ?_ | refine PanicOk.inB ?_) (Ent.refl _) ?_ | refine Nx.p_dec rfl rfl (fun hc => ?_) (fun hc => ?_) | refine Nx.p_bool rfl rfl (fun hc => ?_) (fun hc => ?_))
      | ((first | refine Nx.at_op rfl rfl ?_ | refine Nx.m_loud rfl rfl rfl ?_ | refine Nx.at_do rfl rfl rfl rfl ?_ | refine Nx.m_loud_do rfl rfl rfl rfl rfl ?_); first | refine Nx.opr rfl rfl ?_ | refine Nx.store_row 1 (o := o') (i := i) (j := 1) rfl rfl rfl rfl (by omega) (by omega) ?_ | refine Nx.so ?_ | refine Nx.sb (fun bx => ?_) | refine Nx.sa (fun A2 c2 => ?_))
      | ((with_reducible refine Nx.is_at ?_); first | refine Nx.a ?_ | ((fail_if_success refine Nx.at_do rfl rfl rfl rfl ?_); first | refine Nx.at_dec_t rfl rfl rfl rfl (by first | assumption | omega) ?_ | refine Nx.at_dec_f rfl rfl rfl rfl (by first | assumption | omega) ?_ | refine Nx.at_split rfl rfl rfl rfl (fun hc => ?_) (fun hc => ?_) | refine Nx.at_splitb rfl rfl rfl rfl (fun hc => ?_) (fun hc => ?_)))
      | ((with_reducible refine Nx.is_mix ?_); first | refine Nx.m_quiet rfl rfl rfl rfl rfl (by first | exact QRun.opr rfl | exact QRun.idx (A := Ao) (i := i) (sz := 1) rfl rfl rfl rfl (by omega) (hAo (by omega)) | exact QRun.load rfl rfl (Rd.vecEl 0 (f := rowV) rfl (by omega)) | exact QRun.idx (A := (o'.getD i default).1) (i := 0) (sz := 1) rfl rfl rfl rfl (by omega) hsi | exact QRun.idx (A := (o'.getD i default).1) (i := 1) (sz := 1) rfl rfl rfl rfl (by omega) hsi | exact QRun.load rfl rfl (row_rd 1 rfl (by omega) (by omega))) ?_ | refine Nx.m_quiet_do rfl rfl rfl rfl rfl rfl rfl (by first | exact QRun.opr rfl | exact QRun.idx (A := Ao) (i := i) (sz := 1) rfl rfl rfl rfl (by omega) (hAo (by omega)) | exact QRun.load rfl rfl (Rd.vecEl 0 (f := rowV) rfl (by omega)) | exact QRun.idx (A := (o'.getD i default).1) (i := 0) (sz := 1) rfl rfl rfl rfl (by omega) hsi | exact QRun.idx (A := (o'.getD i default).1) (i := 1) (sz := 1) rfl rfl rfl rfl (by omega) hsi | exact QRun.load rfl rfl (row_rd 1 rfl (by omega) (by omega))) ?_ | refine Nx.m ?_ | ((fail_if_success refine Nx.m_quiet_do rfl rfl rfl rfl rfl rfl rfl ?_ ?_); (fail_if_success refine Nx.m_loud_do rfl rfl rfl rfl rfl ?_); first | refine Nx.m_dec_t rfl rfl rfl rfl (by first | assumption | omega) ?_ | refine Nx.m_dec_f rfl rfl rfl rfl (by first | assumption | omega) ?_ | refine Nx.m_split rfl rfl rfl rfl (fun hc => ?_) (fun hc => ?_) | refine Nx.m_splitb rfl rfl rfl rfl (fun hc => ?_) (fun hc => ?_)))
      | ((fail_if_success (with_reducible refine Nx.is_at ?_)); (fail_if_success (with_reducible refine Nx.is_wp ?_)); (fail_if_success (with_reducible refine Nx.is_mix ?_)); first | refine Nx.ex ?_)
    exact Nx.again (i + 1, setRow o' i 1 (3 * (o'.getD i default).2.2.getD 0 default)) ⟨hlt, hM'.set (Or.inr ⟨rfl, by unfold Fine Big; omega⟩)⟩ (by dsimp only; omega) ⟨rfl, rfl, rfl, rfl, trivial⟩ (by dsimp only; rw [setRow_outer (by omega)]; (exact Ent.auto))
  · exact Nx.unstop (Nx.weak (by exact ⟨rfl, rfl, rfl, trivial⟩) (by (exact Ent.auto)) (mat4 b A c L n I w F Ao co o k1 hk1 (hM.weak fun i _ z hz => by unfold Fine Big; omega)))
set_option maxRecDepth 10000 in
set_option maxHeartbeats 8000000 in
theorem mat2 (b : Nat) (A : Option Addr) (c : Nat) (L : List Int) (n : Nat) (I : PH) (w : World) (F : Res) (hL : CodesI I A c L) (hn : 1 ≤ n ∧ n ≤ 1000) (Ao : Option Addr) (co : Nat) (o : List Row) (k : Nat) (hk : k ≤ L.length) (hM : MOk o n (fun _ _ z => -18 ≤ z ∧ z ≤ 18)) : Nx ⟨Tryd.prog, 98, w⟩ [(0, .pointer (some ⟨b, 0, none⟩)), (1, .int .i64 (n : Int)), (5, .slice Ao n co)] I [Vec 28 1 Ao n co (o.map rowV), Stars (o.map rowR), CodesR b A c L k, F] (Code.wp Tryd.prog (cl (cr (cr (cr (cr (bodyOf Tryd.f10)))))) (Exit.then (Code.wp Tryd.prog (cr (cr (cr (cr (cr (bodyOf Tryd.f10)))))) (fnPost Tryd.prog Tryd.f10 I F w (matDrawn b A c L n))) (fnPost Tryd.prog Tryd.f10 I F w (matDrawn b A c L n)))) := by
  have hol := hM.len
  have hri := hM.row 0 (by omega)
  have hsi := hM.some 0 (by omega)
  refine Nx.vec_fact fun hv1 hv2 hv3 hAo => ?_
  repeat' first
    | ((with_reducible refine Nx.is_wp ?_); first | refine Nx.p_stopr 18 rfl ?_ | refine Nx.wo ?_ | refine Nx.p_drawF (id := 15) rfl [0, 1, 2, 3, 4, 5, 6, 7, 8, 9, 10, 11, 12, 13, 14, 15, 16, 17, 18, 19, 20, 21, 22] [] [23] _ rfl rfl (by kernel_rfl) (by kernel_rfl) rfl (by repeat first | exact PanicOk.fn | refine PanicOk.then_ ?_ | refine PanicOk.inB ?_) (Ent.refl _) ?_ | refine Nx.p_drawF (id := 17) rfl [0, 1, 2, 3, 4, 5, 6, 7] [4] [8] _ rfl rfl (by kernel_rfl) (by kernel_rfl) rfl (by repeat first | exact PanicOk.fn | refine PanicOk.then_ ?_ | refine PanicOk.inB ?_) (Ent.eraseK 0 _) ?_ | refine Nx.p_drawF (id := 22) rfl [0, 1, 2, 3, 4, 5, 6, 7, 8, 9, 10, 11] [] [12] _ rfl rfl (by kernel_rfl) (by kernel_rfl) rfl (by repeat first | exact PanicOk.fn | refine PanicOk.then_ ?_ | refine PanicOk.inB ?_) (Ent.refl _) ?_ | refine Nx.p_dec rfl rfl (fun hc => ?_) (fun hc => ?_) | refine Nx.p_bool rfl rfl (fun hc => ?_) (fun hc => ?_))
    | ((first | refine Nx.at_op rfl rfl ?_ | refine Nx.m_loud rfl rfl rfl ?_ | refine Nx.at_do rfl rfl rfl rfl ?_ | refine Nx.m_loud_do rfl rfl rfl rfl rfl ?_); first | refine Nx.opr rfl rfl ?_ | (refine Nx.call rfl rfl rfl (by kernel_rfl) rfl (One_codes b A c L k 6 I hL hk (by omega)) (by (exact Ent.auto)) ?_; rintro _ _ ⟨r, k1, rfl, hk1, rfl⟩) | (refine Nx.call rfl rfl rfl (by kernel_rfl) rfl (Next_codes b A c L k1 33 I hL hk1 (by omega)) (by (exact Ent.auto)) ?_; rintro _ _ ⟨z, k2, rfl, hz, hk2, rfl⟩; obtain ⟨m, rfl⟩ := Int.eq_ofNat_of_zero_le hz.1) | refine Nx.store_row 2 (o := o) (i := 0) (j := 0) rfl rfl rfl rfl (by omega) (by omega) ?_ | refine Nx.so ?_ | refine Nx.sb (fun bx => ?_) | refine Nx.sa (fun A2 c2 => ?_))
    | ((with_reducible refine Nx.is_at ?_); first | refine Nx.a ?_ | ((fail_if_success refine Nx.at_do rfl rfl rfl rfl ?_); first | refine Nx.at_dec_t rfl rfl rfl rfl (by first | assumption | omega) ?_ | refine Nx.at_dec_f rfl rfl rfl rfl (by first | assumption | omega) ?_ | refine Nx.at_split rfl rfl rfl rfl (fun hc => ?_) (fun hc => ?_) | refine Nx.at_splitb rfl rfl rfl rfl (fun hc => ?_) (fun hc => ?_)))
    | ((with_reducible refine Nx.is_mix ?_); first | refine Nx.m_quiet rfl rfl rfl rfl rfl (by first | exact QRun.opr rfl | exact QRun.idx (A := Ao) (i := 0) (sz := 1) rfl rfl rfl rfl (by omega) (hAo (by omega)) | exact QRun.load rfl rfl (Rd.vecEl 0 (f := rowV) rfl (by omega)) | exact QRun.conv_u64 rfl rfl rfl | exact QRun.bin rfl rfl (run_shlJ (n := m) (by unfold B64; omega) (by omega) rfl) | exact QRun.idx (A := (o.getD 0 default).1) (i := 0) (sz := 1) rfl rfl rfl rfl (by omega) hsi) ?_ | refine Nx.m_quiet_do rfl rfl rfl rfl rfl rfl rfl (by first | exact QRun.opr rfl | exact QRun.idx (A := Ao) (i := 0) (sz := 1) rfl rfl rfl rfl (by omega) (hAo (by omega)) | exact QRun.load rfl rfl (Rd.vecEl 0 (f := rowV) rfl (by omega)) | exact QRun.conv_u64 rfl rfl rfl | exact QRun.bin rfl rfl (run_shlJ (n := m) (by unfold B64; omega) (by omega) rfl) | exact QRun.idx (A := (o.getD 0 default).1) (i := 0) (sz := 1) rfl rfl rfl rfl (by omega) hsi) ?_ | refine Nx.m ?_ | ((fail_if_success refine Nx.m_quiet_do rfl rfl rfl rfl rfl rfl rfl ?_ ?_); (fail_if_success refine Nx.m_loud_do rfl rfl rfl rfl rfl ?_); first | refine Nx.m_dec_t rfl rfl rfl rfl (by first | assumption | omega) ?_ | refine Nx.m_dec_f rfl rfl rfl rfl (by first | assumption | omega) ?_ | refine Nx.m_split rfl rfl rfl rfl (fun hc => ?_) (fun hc => ?_) | refine Nx.m_splitb rfl rfl rfl rfl (fun hc => ?_) (fun hc => ?_)))
    | ((fail_if_success (with_reducible refine Nx.is_at ?_)); (fail_if_success (with_reducible refine Nx.is_wp ?_)); (fail_if_success (with_reducible refine Nx.is_mix ?_)); first | refine Nx.ex ?_)
  · have hp : (2 : Nat) ^ m ≤ 4294967296 := (Nat.pow_le_pow_right (by decide) (by omega) : 2 ^ m ≤ 2 ^ 32)
    exact Nx.unstop (Nx.weak (by exact ⟨rfl, rfl, rfl, trivial⟩) (by rw [← setRow_outer (o := o) (i := 0) (j := 0) (z := ((2 ^ m : Nat) : Int)) (by omega)]; (exact Ent.auto)) (mat3 b A c L n I w F hL hn Ao co (setRow o 0 0 ((2 ^ m : Nat) : Int)) k2 hk2 ((hM.weak fun i _ z hz => (by omega : (-4294967296 ≤ z ∧ z ≤ 4294967296) ∧ (1 ≤ i → -18 ≤ z ∧ z ≤ 18))).set (by have := Int.natCast_nonneg (2 ^ m); omega))))
  · exact Nx.unstop (Nx.weak (by exact ⟨rfl, rfl, rfl, trivial⟩) (by (exact Ent.auto)) (mat3 b A c L n I w F hL hn Ao co o k1 hk1 (hM.weak fun _ _ z hz => by omega)))
set_option maxRecDepth 10000 in
set_option maxHeartbeats 8000000 in
theorem mat1 (b : Nat) (A : Option Addr) (c : Nat) (L : List Int) (n : Nat) (I : PH) (w : World) (F : Res) (hL : CodesI I A c L) (hn : 1 ≤ n ∧ n ≤ 1000) (Ao : Option Addr) (co : Nat) (o : List Row) (k : Nat) (hk : k ≤ L.length) (hM : MOk o n (fun _ _ z => -6 ≤ z ∧ z ≤ 6)) : Nx ⟨Tryd.prog, 98, w⟩ [(0, .pointer (some ⟨b, 0, none⟩)), (1, .int .i64 (n : Int)), (5, .slice Ao n co)] I [Vec 28 1 Ao n co (o.map rowV), Stars (o.map rowR), CodesR b A c L k, F] (Code.wp Tryd.prog (cl (cr (cr (cr (bodyOf Tryd.f10))))) (Exit.then (Code.wp Tryd.prog (cr (cr (cr (cr (bodyOf Tryd.f10))))) (fnPost Tryd.prog Tryd.f10 I F w (matDrawn b A c L n))) (fnPost Tryd.prog Tryd.f10 I F w (matDrawn b A c L n)))) := by
  by_cases hn1 : 1 < n
  case neg =>
    repeat' first
      | ((with_reducible refine Nx.is_wp ?_); first | refine Nx.p_stopr 16 rfl ?_ | refine Nx.wo ?_ | refine Nx.p_dec rfl rfl (fun hc => ?_) (fun hc => ?_) | refine Nx.p_bool rfl rfl (fun hc => ?_) (fun hc => ?_))
      | ((first | refine Nx.at_op rfl rfl ?_ | refine Nx.m_loud rfl rfl rfl ?_ | refine Nx.at_do rfl rfl rfl rfl ?_ | refine Nx.m_loud_do rfl rfl rfl rfl rfl ?_); first | refine Nx.opr rfl rfl ?_ | refine Nx.so ?_ | refine Nx.sb (fun bx => ?_) | refine Nx.sa (fun A2 c2 => ?_))
      | ((with_reducible refine Nx.is_at ?_); first | refine Nx.a ?_ | ((fail_if_success refine Nx.at_do rfl rfl rfl rfl ?_); first | refine Nx.at_dec_t rfl rfl rfl rfl (by first | assumption | omega) ?_ | refine Nx.at_dec_f rfl rfl rfl rfl (by first | assumption | omega) ?_ | refine Nx.at_split rfl rfl rfl rfl (fun hc => ?_) (fun hc => ?_) | refine Nx.at_splitb rfl rfl rfl rfl (fun hc => ?_) (fun hc => ?_)))
      | ((with_reducible refine Nx.is_mix ?_); first | refine Nx.m ?_ | ((fail_if_success refine Nx.m_quiet_do rfl rfl rfl rfl rfl rfl rfl ?_ ?_); (fail_if_success refine Nx.m_loud_do rfl rfl rfl rfl rfl ?_); first | refine Nx.m_dec_t rfl rfl rfl rfl (by first | assumption | omega) ?_ | refine Nx.m_dec_f rfl rfl rfl rfl (by first | assumption | omega) ?_ | refine Nx.m_split rfl rfl rfl rfl (fun hc => ?_) (fun hc => ?_) | refine Nx.m_splitb rfl rfl rfl rfl (fun hc => ?_) (fun hc => ?_)))
      | ((fail_if_success (with_reducible refine Nx.is_at ?_)); (fail_if_success (with_reducible refine Nx.is_wp ?_)); (fail_if_success (with_reducible refine Nx.is_mix ?_)); first | refine Nx.ex ?_)
    exact Nx.unstop (Nx.weak (by exact ⟨rfl, rfl, rfl, trivial⟩) (by (exact Ent.auto)) (mat2 b A c L n I w F hL hn Ao co o k hk (hM.weak fun _ _ z hz => by omega)))
  obtain ⟨m, rfl⟩ : ∃ m, n = m + 2 := ⟨n - 2, by omega⟩
  repeat' first
    | ((with_reducible refine Nx.is_wp ?_); first | refine Nx.p_stopr 16 rfl ?_ | refine Nx.wo ?_ | refine Nx.p_dec rfl rfl (fun hc => ?_) (fun hc => ?_) | refine Nx.p_bool rfl rfl (fun hc => ?_) (fun hc => ?_))
    | ((first | refine Nx.at_op rfl rfl ?_ | refine Nx.m_loud rfl rfl rfl ?_ | refine Nx.at_do rfl rfl rfl rfl ?_ | refine Nx.m_loud_do rfl rfl rfl rfl rfl ?_); first | refine Nx.opr rfl rfl ?_ | (refine Nx.call rfl rfl rfl (by kernel_rfl) rfl (One_codes b A c L k 3 I hL hk (by omega)) (by (exact Ent.auto)) ?_; rintro _ _ ⟨r, k1, rfl, hk1, rfl⟩) | refine Nx.so ?_ | refine Nx.sb (fun bx => ?_) | refine Nx.sa (fun A2 c2 => ?_))
    | ((with_reducible refine Nx.is_at ?_); first | refine Nx.a ?_ | ((fail_if_success refine Nx.at_do rfl rfl rfl rfl ?_); first | refine Nx.at_dec_t rfl rfl rfl rfl (by first | assumption | omega) ?_ | refine Nx.at_dec_f rfl rfl rfl rfl (by first | assumption | omega) ?_ | refine Nx.at_split rfl rfl rfl rfl (fun hc => ?_) (fun hc => ?_) | refine Nx.at_splitb rfl rfl rfl rfl (fun hc => ?_) (fun hc => ?_)))
    | ((with_reducible refine Nx.is_mix ?_); first | refine Nx.m ?_ | ((fail_if_success refine Nx.m_quiet_do rfl rfl rfl rfl rfl rfl rfl ?_ ?_); (fail_if_success refine Nx.m_loud_do rfl rfl rfl rfl rfl ?_); first | refine Nx.m_dec_t rfl rfl rfl rfl (by first | assumption | omega) ?_ | refine Nx.m_dec_f rfl rfl rfl rfl (by first | assumption | omega) ?_ | refine Nx.m_split rfl rfl rfl rfl (fun hc => ?_) (fun hc => ?_) | refine Nx.m_splitb rfl rfl rfl rfl (fun hc => ?_) (fun hc => ?_)))
    | ((fail_if_success (with_reducible refine Nx.is_at ?_)); (fail_if_success (with_reducible refine Nx.is_wp ?_)); (fail_if_success (with_reducible refine Nx.is_mix ?_)); first | refine Nx.ex ?_)
  · refine Nx.ent (R' := [Vec 28 1 Ao (m + 2) co (o.map rowV), Stars (o.map rowR), CodesR b A c L k1, F]) (by (exact Ent.auto)) ?_
    refine Nx.vec_fact fun hv1 hv2 hv3 hAo => ?_
    refine Nx.p_loop (σ := Nat × List Row) (fun x => [(0, .pointer (some ⟨b, 0, none⟩)), (1, .int .i64 ((m + 2 : Nat) : Int)), (5, .slice Ao (m + 2) co), (9, .int .i64 (x.1 : Int))])
      (fun x => [Vec 28 1 Ao (m + 2) co (x.2.map rowV), Stars (x.2.map rowR), CodesR b A c L k1, F]) (fun x => x.1 ≤ m + 2 ∧ MOk x.2 (m + 2) (fun i _ z => (-6 ≤ z ∧ z ≤ 6) ∨ i = m + 1 ∧ -18 ≤ z ∧ z ≤ 18)) (fun x => m + 2 - x.1) (0, o) rfl ⟨Nat.zero_le _, hM.weak fun _ _ _ hz => Or.inl hz⟩ ⟨rfl, rfl, rfl, rfl, trivial⟩ (by (exact Ent.auto)) ?_
    rintro ⟨i, o'⟩ ⟨hi, hM'⟩
    dsimp only at hi hM' ⊢
    by_cases hlt : i < m + 2
    case neg =>
      repeat' first
        | ((with_reducible refine Nx.is_wp ?_); first | refine Nx.p_stopr 16 rfl ?_ | refine Nx.wo ?_ | refine Nx.p_dec rfl rfl (fun hc => ?_) (fun hc => ?_) | refine Nx.p_bool rfl rfl (fun hc => ?_) (fun hc => ?_))
        | ((first | refine Nx.at_op rfl rfl ?_ | refine Nx.m_loud rfl rfl rfl ?_ | refine Nx.at_do rfl rfl rfl rfl ?_ | refine Nx.m_loud_do rfl rfl rfl rfl rfl ?_); first | refine Nx.opr rfl rfl ?_ | refine Nx.so ?_ | refine Nx.sb (fun bx => ?_) | refine Nx.sa (fun A2 c2 => ?_))
        | ((with_reducible refine Nx.is_at ?_); first | refine Nx.a ?_ | ((fail_if_success refine Nx.at_do rfl rfl rfl rfl ?_); first | refine Nx.at_dec_t rfl rfl rfl rfl (by first | assumption | omega) ?_ | refine Nx.at_dec_f rfl rfl rfl rfl (by first | assumption | omega) ?_ | refine Nx.at_split rfl rfl rfl rfl (fun hc => ?_) (fun hc => ?_) | refine Nx.at_splitb rfl rfl rfl rfl (fun hc => ?_) (fun hc => ?_)))
        | ((with_reducible refine Nx.is_mix ?_); first | refine Nx.m ?_ | ((fail_if_success refine Nx.m_quiet_do rfl rfl rfl rfl rfl rfl rfl ?_ ?_); (fail_if_success refine Nx.m_loud_do rfl rfl rfl rfl rfl ?_); first | refine Nx.m_dec_t rfl rfl rfl rfl (by first | assumption | omega) ?_ | refine Nx.m_dec_f rfl rfl rfl rfl (by first | assumption | omega) ?_ | refine Nx.m_split rfl rfl rfl rfl (fun hc => ?_) (fun hc => ?_) | refine Nx.m_splitb rfl rfl rfl rfl (fun hc => ?_) (fun hc => ?_)))
        | ((fail_if_success (with_reducible refine Nx.is_at ?_)); (fail_if_success (with_reducible refine Nx.is_wp ?_)); (fail_if_success (with_reducible refine Nx.is_mix ?_)); first | refine Nx.ex ?_)
      exact Nx.unstop (Nx.weak (by exact ⟨rfl, rfl, rfl, trivial⟩) (by (exact Ent.auto)) (mat2 b A c L (m + 2) I w F hL hn Ao co o' k1 hk1 (hM'.weak fun _ _ z hz => by omega)))
    have hol := hM'.len
    have hr0 := hM'.row 0 (by omega)
    have hs0 := hM'.some 0 (by omega)
    have he0 := (hM'.ent 0 i (by omega) hlt).resolve_right fun h => absurd h.1 (by omega)
    have hrm := hM'.row m (by omega)
    have hsm := hM'.some m (by omega)
    have hem := (hM'.ent m i (by omega) hlt).resolve_right fun h => absurd h.1 (by omega)
    have hr1 := hM'.row (m + 1) (by omega)
    have hs1 := hM'.some (m + 1) (by omega)
    repeat' first
      | ((with_reducible refine Nx.is_wp ?_); first | refine Nx.p_stopr 16 rfl ?_ | refine Nx.wo ?_ | refine Nx.p_drawF (id := 15) rfl [0, 1, 2, 3, 4, 5, 6, 7, 8, 9, 10, 11, 12, 13, 14, 15, 16, 17, 18, 19, 20, 21, 22] [] [23] _ rfl rfl (by kernel_rfl) (by kernel_rfl) rfl (by repeat first | exact PanicOk.fn | refine PanicOk.then_ ?_ | refine PanicOk.inB ?_) (Ent.refl _) ?_ | refine Nx.p_drawF (id := 17) rfl [0, 1, 2, 3, 4, 5, 6, 7] [4] [8] _ rfl rfl (by kernel_rfl) (by kernel_rfl) rfl (by repeat first | exact PanicOk.fn | refine PanicOk.then_ ?_ | refine PanicOk.inB ?_) (Ent.refl _) ?_ | refine Nx.p_drawF (id := 22) rfl [0, 1, 2, 3, 4, 5, 6, 7, 8, 9, 10, 11] [] [12] _ rfl rfl (by kernel_rfl) (by kernel_rfl) rfl (by repeat first | exact PanicOk.fn | refine PanicOk.then_ ?_ | refine PanicOk.inB ?_) (Ent.refl _) ?_ | refine Nx.p_dec rfl rfl (fun hc => ?_) (fun hc => ?_) | refine Nx.p_bool rfl rfl (fun hc => ?_) (fun hc => ?_))
      | ((first | refine Nx.at_op rfl rfl ?_ | refine Nx.m_loud rfl rfl rfl ?_ | refine Nx.at_do rfl rfl rfl rfl ?_ | refine Nx.m_loud_do rfl rfl rfl rfl rfl ?_); first | refine Nx.opr rfl rfl ?_ | refine Nx.store_row 1 (o := o') (i := m + 1) (j := i) rfl rfl rfl rfl (by omega) (by omega) ?_ | refine Nx.so ?_ | refine Nx.sb (fun bx => ?_) | refine Nx.sa (fun A2 c2 => ?_))
      | ((with_reducible refine Nx.is_at ?_); first | refine Nx.a ?_ | ((fail_if_success refine Nx.at_do rfl rfl rfl rfl ?_); first | refine Nx.at_dec_t rfl rfl rfl rfl (by first | assumption | omega) ?_ | refine Nx.at_dec_f rfl rfl rfl rfl (by first | assumption | omega) ?_ | refine Nx.at_split rfl rfl rfl rfl (fun hc => ?_) (fun hc => ?_) | refine Nx.at_splitb rfl rfl rfl rfl (fun hc => ?_) (fun hc => ?_)))
      | ((with_reducible refine Nx.is_mix ?_); first | refine Nx.m_quiet rfl rfl rfl rfl rfl (by first | exact QRun.opr rfl | exact QRun.pred (n := m + 1) rfl rfl (by omega) | exact QRun.less (n := m) 2 rfl rfl (by omega) | exact QRun.idx (A := Ao) (i := m + 1) (sz := 1) rfl rfl rfl rfl (by omega) (hAo (by omega)) | exact QRun.idx (A := Ao) (i := 0) (sz := 1) rfl rfl rfl rfl (by omega) (hAo (by omega)) | exact QRun.idx (A := Ao) (i := m) (sz := 1) rfl rfl rfl rfl (by omega) (hAo (by omega)) | exact QRun.load rfl rfl (Rd.vecEl 0 (f := rowV) rfl (by omega)) | exact QRun.idx (A := (o'.getD (m + 1) default).1) (i := i) (sz := 1) rfl rfl rfl rfl (by omega) hs1 | exact QRun.idx (A := (o'.getD 0 default).1) (i := i) (sz := 1) rfl rfl rfl rfl (by omega) hs0 | exact QRun.idx (A := (o'.getD m default).1) (i := i) (sz := 1) rfl rfl rfl rfl (by omega) hsm | exact QRun.load rfl rfl (row_rd 1 (o := o') (i := 0) (j := i) rfl (by omega) (by omega)) | exact QRun.load rfl rfl (row_rd 1 (o := o') (i := m) (j := i) rfl (by omega) (by omega))) ?_ | refine Nx.m_quiet_do rfl rfl rfl rfl rfl rfl rfl (by first | exact QRun.opr rfl | exact QRun.pred (n := m + 1) rfl rfl (by omega) | exact QRun.less (n := m) 2 rfl rfl (by omega) | exact QRun.idx (A := Ao) (i := m + 1) (sz := 1) rfl rfl rfl rfl (by omega) (hAo (by omega)) | exact QRun.idx (A := Ao) (i := 0) (sz := 1) rfl rfl rfl rfl (by omega) (hAo (by omega)) | exact QRun.idx (A := Ao) (i := m) (sz := 1) rfl rfl rfl rfl (by omega) (hAo (by omega)) | exact QRun.load rfl rfl (Rd.vecEl 0 (f := rowV) rfl (by omega)) | exact QRun.idx (A := (o'.getD (m + 1) default).1) (i := i) (sz := 1) rfl rfl rfl rfl (by omega) hs1 | exact QRun.idx (A := (o'.getD 0 default).1) (i := i) (sz := 1) rfl rfl rfl rfl (by omega) hs0 | exact QRun.idx (A := (o'.getD m default).1) (i := i) (sz := 1) rfl rfl rfl rfl (by omega) hsm | exact QRun.load rfl rfl (row_rd 1 (o := o') (i := 0) (j := i) rfl (by omega) (by omega)) | exact QRun.load rfl rfl (row_rd 1 (o := o') (i := m) (j := i) rfl (by omega) (by omega))) ?_ | refine Nx.m ?_ | ((fail_if_success refine Nx.m_quiet_do rfl rfl rfl rfl rfl rfl rfl ?_ ?_); (fail_if_success refine Nx.m_loud_do rfl rfl rfl rfl rfl ?_); first | refine Nx.m_dec_t rfl rfl rfl rfl (by first | assumption | omega) ?_ | refine Nx.m_dec_f rfl rfl rfl rfl (by first | assumption | omega) ?_ | refine Nx.m_split rfl rfl rfl rfl (fun hc => ?_) (fun hc => ?_) | refine Nx.m_splitb rfl rfl rfl rfl (fun hc => ?_) (fun hc => ?_)))
      | ((fail_if_success (with_reducible refine Nx.is_at ?_)); (fail_if_success (with_reducible refine Nx.is_wp ?_)); (fail_if_success (with_reducible refine Nx.is_mix ?_)); first | refine Nx.ex ?_)
    exact Nx.again (i + 1, setRow o' (m + 1) i (2 * (o'.getD 0 default).2.2.getD i default - (o'.getD m default).2.2.getD i default)) ⟨hlt, hM'.set (Or.inr ⟨rfl, by omega⟩)⟩ (by dsimp only; omega) ⟨rfl, rfl, rfl, rfl, trivial⟩ (by dsimp only; rw [setRow_outer (by omega)]; (exact Ent.auto))
  · exact Nx.unstop (Nx.weak (by exact ⟨rfl, rfl, rfl, trivial⟩) (by (exact Ent.auto)) (mat2 b A c L (m + 2) I w F hL hn Ao co o k1 hk1 (hM.weak fun _ _ z hz => by omega)))
set_option maxRecDepth 10000 in
set_option maxHeartbeats 8000000 in
theorem matrix_spec (b : Nat) (A : Option Addr) (c : Nat) (L : List Int) (k n : Nat) (I : PH) (hL : CodesI I A c L) (hk : k ≤ L.length) (hn : 1 ≤ n ∧ n ≤ 1000) :
    FnSpec Tryd.prog 10 [.pointer (some ⟨b, 0, none⟩), .int .i64 (n : Int)] I [CodesR b A c L k] (matDrawn b A c L n) := by
  refine FnSpec.enterP Tryd.func10 rfl Tryd.ntmps10 rfl fun w F => ?_
  repeat' first
    | ((with_reducible refine Nx.is_wp ?_); first | refine Nx.wo ?_ | refine Nx.p_dec rfl rfl (fun hc => ?_) (fun hc => ?_) | refine Nx.p_bool rfl rfl (fun hc => ?_) (fun hc => ?_))
    | ((first | refine Nx.at_op rfl rfl ?_ | refine Nx.m_loud rfl rfl rfl ?_ | refine Nx.at_do rfl rfl rfl rfl ?_ | refine Nx.m_loud_do rfl rfl rfl rfl rfl ?_); first | refine Nx.opr rfl rfl ?_ | refine Nx.so ?_ | refine Nx.sb (fun bx => ?_) | refine Nx.sa (fun A2 c2 => ?_))
    | ((with_reducible refine Nx.is_at ?_); first | refine Nx.a ?_ | ((fail_if_success refine Nx.at_do rfl rfl rfl rfl ?_); first | refine Nx.at_dec_t rfl rfl rfl rfl (by first | assumption | omega) ?_ | refine Nx.at_dec_f rfl rfl rfl rfl (by first | assumption | omega) ?_ | refine Nx.at_split rfl rfl rfl rfl (fun hc => ?_) (fun hc => ?_) | refine Nx.at_splitb rfl rfl rfl rfl (fun hc => ?_) (fun hc => ?_)))
    | ((with_reducible refine Nx.is_mix ?_); first | refine Nx.m ?_ | ((fail_if_success refine Nx.m_quiet_do rfl rfl rfl rfl rfl rfl rfl ?_ ?_); (fail_if_success refine Nx.m_loud_do rfl rfl rfl rfl rfl ?_); first | refine Nx.m_dec_t rfl rfl rfl rfl (by first | assumption | omega) ?_ | refine Nx.m_dec_f rfl rfl rfl rfl (by first | assumption | omega) ?_ | refine Nx.m_split rfl rfl rfl rfl (fun hc => ?_) (fun hc => ?_) | refine Nx.m_splitb rfl rfl rfl rfl (fun hc => ?_) (fun hc => ?_)))
    | ((fail_if_success (with_reducible refine Nx.is_at ?_)); (fail_if_success (with_reducible refine Nx.is_wp ?_)); (fail_if_success (with_reducible refine Nx.is_mix ?_)); first | refine Nx.ex ?_)
  refine Nx.p_loop (σ := Nat × Option Addr × Nat × List Row × Nat) (fun x => [(0, .pointer (some ⟨b, 0, none⟩)), (1, .int .i64 (n : Int)), (5, .slice x.2.1 x.2.2.2.1.length x.2.2.1), (6, .int .i64 (x.1 : Int))])
    (fun x => [Vec 28 1 x.2.1 x.2.2.2.1.length x.2.2.1 (x.2.2.2.1.map rowV), Stars (x.2.2.2.1.map rowR), CodesR b A c L x.2.2.2.2, F]) (fun x => x.1 ≤ n ∧ x.2.2.2.1.length = x.1 ∧ (∀ r ∈ x.2.2.2.1, r.2.2.length = n ∧ r.1.isSome = true ∧ Sized r.2.2 6) ∧ x.2.2.2.2 ≤ L.length) (fun x => n - x.1) (0, none, 0, [], k) rfl ⟨Nat.zero_le _, rfl, fun x hx => absurd hx List.not_mem_nil, hk⟩ ⟨rfl, rfl, rfl, rfl, trivial⟩ ((Ent.vec_nil _ _ _).trans (Ent.pick 0 rfl ((Ent.stars_nil _).trans (by (exact Ent.auto))))) ?_
  rintro ⟨i, Ao, co, o, k1⟩ ⟨hi, hol, hrows, hk1⟩
  dsimp only at hi hol hrows hk1 ⊢
  by_cases hlt : i < n
  · repeat' first
      | ((with_reducible refine Nx.is_wp ?_); first | refine Nx.wo ?_ | refine Nx.p_dec rfl rfl (fun hc => ?_) (fun hc => ?_) | refine Nx.p_bool rfl rfl (fun hc => ?_) (fun hc => ?_))
      | ((first | refine Nx.at_op rfl rfl ?_ | refine Nx.m_loud rfl rfl rfl ?_ | refine Nx.at_do rfl rfl rfl rfl ?_ | refine Nx.m_loud_do rfl rfl rfl rfl rfl ?_); first | refine Nx.opr rfl rfl ?_ | refine Nx.so ?_ | refine Nx.sb (fun bx => ?_) | refine Nx.sa (fun A2 c2 => ?_))
      | ((with_reducible refine Nx.is_at ?_); first | refine Nx.a ?_ | ((fail_if_success refine Nx.at_do rfl rfl rfl rfl ?_); first | refine Nx.at_dec_t rfl rfl rfl rfl (by first | assumption | omega) ?_ | refine Nx.at_dec_f rfl rfl rfl rfl (by first | assumption | omega) ?_ | refine Nx.at_split rfl rfl rfl rfl (fun hc => ?_) (fun hc => ?_) | refine Nx.at_splitb rfl rfl rfl rfl (fun hc => ?_) (fun hc => ?_)))
      | ((with_reducible refine Nx.is_mix ?_); first | refine Nx.m ?_ | ((fail_if_success refine Nx.m_quiet_do rfl rfl rfl rfl rfl rfl rfl ?_ ?_); (fail_if_success refine Nx.m_loud_do rfl rfl rfl rfl rfl ?_); first | refine Nx.m_dec_t rfl rfl rfl rfl (by first | assumption | omega) ?_ | refine Nx.m_dec_f rfl rfl rfl rfl (by first | assumption | omega) ?_ | refine Nx.m_split rfl rfl rfl rfl (fun hc => ?_) (fun hc => ?_) | refine Nx.m_splitb rfl rfl rfl rfl (fun hc => ?_) (fun hc => ?_)))
      | ((fail_if_success (with_reducible refine Nx.is_at ?_)); (fail_if_success (with_reducible refine Nx.is_wp ?_)); (fail_if_success (with_reducible refine Nx.is_mix ?_)); first | refine Nx.ex ?_)
    refine Nx.p_loop (σ := Nat × Option Addr × Nat × List Int × Nat) (fun x => [(0, .pointer (some ⟨b, 0, none⟩)), (1, .int .i64 (n : Int)), (5, .slice Ao o.length co), (6, .int .i64 (i : Int)), (7, .slice x.2.1 x.2.2.2.1.length x.2.2.1), (8, .int .i64 (x.1 : Int))])
      (fun x => [intsR x.2.1 x.2.2.1 x.2.2.2.1, CodesR b A c L x.2.2.2.2, Vec 28 1 Ao o.length co (o.map rowV), Stars (o.map rowR), F]) (fun x => x.1 ≤ n ∧ x.2.2.2.1.length = x.1 ∧ Sized x.2.2.2.1 6 ∧ x.2.2.2.2 ≤ L.length) (fun x => n - x.1) (0, none, 0, [], k1) rfl ⟨Nat.zero_le _, rfl, fun x hx => absurd hx List.not_mem_nil, hk1⟩ ⟨rfl, rfl, rfl, rfl, rfl, rfl, trivial⟩ ((Ent.vec_nil _ _ _).trans (by (exact Ent.auto))) ?_
    rintro ⟨j, A1, c1, l, k2⟩ ⟨hj, hl, hs, hk2⟩
    dsimp only at hj hl hs hk2 ⊢
    by_cases hjl : j < n
    · repeat' first
        | ((with_reducible refine Nx.is_wp ?_); first | refine Nx.wo ?_ | refine Nx.p_dec rfl rfl (fun hc => ?_) (fun hc => ?_) | refine Nx.p_bool rfl rfl (fun hc => ?_) (fun hc => ?_))
        | ((first | refine Nx.at_op rfl rfl ?_ | refine Nx.m_loud rfl rfl rfl ?_ | refine Nx.at_do rfl rfl rfl rfl ?_ | refine Nx.m_loud_do rfl rfl rfl rfl rfl ?_); first | refine Nx.opr rfl rfl ?_ | (refine Nx.call rfl rfl rfl (by kernel_rfl) rfl (Range_codes b A c L k2 (-6) 6 I hL hk2 (by omega) (by omega)) (by (exact Ent.auto)) ?_; rintro _ _ ⟨r, k3, rfl, hr, hk3, rfl⟩) | refine Nx.so ?_ | refine Nx.sb (fun bx => ?_) | refine Nx.sa (fun A2 c2 => ?_))
        | ((with_reducible refine Nx.is_at ?_); first | refine Nx.a ?_ | ((fail_if_success refine Nx.at_do rfl rfl rfl rfl ?_); first | refine Nx.at_dec_t rfl rfl rfl rfl (by first | assumption | omega) ?_ | refine Nx.at_dec_f rfl rfl rfl rfl (by first | assumption | omega) ?_ | refine Nx.at_split rfl rfl rfl rfl (fun hc => ?_) (fun hc => ?_) | refine Nx.at_splitb rfl rfl rfl rfl (fun hc => ?_) (fun hc => ?_)))
        | ((with_reducible refine Nx.is_mix ?_); first | refine Nx.m ?_ | ((fail_if_success refine Nx.m_quiet_do rfl rfl rfl rfl rfl rfl rfl ?_ ?_); (fail_if_success refine Nx.m_loud_do rfl rfl rfl rfl rfl ?_); first | refine Nx.m_dec_t rfl rfl rfl rfl (by first | assumption | omega) ?_ | refine Nx.m_dec_f rfl rfl rfl rfl (by first | assumption | omega) ?_ | refine Nx.m_split rfl rfl rfl rfl (fun hc => ?_) (fun hc => ?_) | refine Nx.m_splitb rfl rfl rfl rfl (fun hc => ?_) (fun hc => ?_)))
        | ((fail_if_success (with_reducible refine Nx.is_at ?_)); (fail_if_success (with_reducible refine Nx.is_wp ?_)); (fail_if_success (with_reducible refine Nx.is_mix ?_)); first | refine Nx.ex ?_)
      have hl2 : (l ++ [r]).length = l.length + 1 := by simp
      exact Nx.again (j + 1, A2, c2, l ++ [r], k3) ⟨hjl, by dsimp only; omega, hs.snoc (by omega), hk3⟩ (by dsimp only; omega) ⟨rfl, rfl, rfl, rfl, by dsimp only; rw [hl2]; rfl, rfl, trivial⟩ (by dsimp only; unfold intsR; rw [hl2, List.map_append]; (exact Ent.auto))
    · obtain rfl : j = n := by omega
      repeat' first
        | ((with_reducible refine Nx.is_wp ?_); first | refine Nx.wo ?_ | refine Nx.p_dec rfl rfl (fun hc => ?_) (fun hc => ?_) | refine Nx.p_bool rfl rfl (fun hc => ?_) (fun hc => ?_))
        | ((first | refine Nx.at_op rfl rfl ?_ | refine Nx.m_loud rfl rfl rfl ?_ | refine Nx.at_do rfl rfl rfl rfl ?_ | refine Nx.m_loud_do rfl rfl rfl rfl rfl ?_); first | refine Nx.opr rfl rfl ?_ | refine Nx.so ?_ | refine Nx.sb (fun bx => ?_) | refine Nx.sa (fun A2 c2 => ?_))
        | ((with_reducible refine Nx.is_at ?_); first | refine Nx.a ?_ | ((fail_if_success refine Nx.at_do rfl rfl rfl rfl ?_); first | refine Nx.at_dec_t rfl rfl rfl rfl (by first | assumption | omega) ?_ | refine Nx.at_dec_f rfl rfl rfl rfl (by first | assumption | omega) ?_ | refine Nx.at_split rfl rfl rfl rfl (fun hc => ?_) (fun hc => ?_) | refine Nx.at_splitb rfl rfl rfl rfl (fun hc => ?_) (fun hc => ?_)))
        | ((with_reducible refine Nx.is_mix ?_); first | refine Nx.m ?_ | ((fail_if_success refine Nx.m_quiet_do rfl rfl rfl rfl rfl rfl rfl ?_ ?_); (fail_if_success refine Nx.m_loud_do rfl rfl rfl rfl rfl ?_); first | refine Nx.m_dec_t rfl rfl rfl rfl (by first | assumption | omega) ?_ | refine Nx.m_dec_f rfl rfl rfl rfl (by first | assumption | omega) ?_ | refine Nx.m_split rfl rfl rfl rfl (fun hc => ?_) (fun hc => ?_) | refine Nx.m_splitb rfl rfl rfl rfl (fun hc => ?_) (fun hc => ?_)))
        | ((fail_if_success (with_reducible refine Nx.is_at ?_)); (fail_if_success (with_reducible refine Nx.is_wp ?_)); (fail_if_success (with_reducible refine Nx.is_mix ?_)); first | refine Nx.ex ?_)
      have hol' : (o ++ [((A1, c1, l) : Row)]).length = o.length + 1 := by simp
      refine Nx.ent (R' := [Vec 3 1 A1 l.length c1 (l.map (Value.int .i64)), Vec 28 1 A2 (o.length + 1) c2 (o.map rowV ++ [.slice A1 l.length c1]), Stars (o.map rowR), CodesR b A c L k2, F]) (by unfold intsR; (exact Ent.auto)) ?_
      refine Nx.vec_fact fun hv1 hv2 hv3 hA1 => ?_
      refine Nx.again (i + 1, A2, c2, o ++ [(A1, c1, l)], k2) ⟨hlt, by dsimp only; omega, fun r hr => ?_, hk2⟩ (by dsimp only; omega) ⟨rfl, rfl, by dsimp only; rw [hol']; rfl, rfl, trivial⟩ ?_
      · rcases List.mem_append.1 hr with h1 | h1
        · exact hrows r h1
        · rw [List.mem_singleton.1 h1]; exact ⟨hl, hA1 (by omega), hs⟩
      · dsimp only
        rw [hol', List.map_append, List.map_append]
        exact Ent.trans (R' := rowR (A1, c1, l) :: Stars (o.map rowR) :: Vec 28 1 A2 (o.length + 1) c2 (o.map rowV ++ [.slice A1 l.length c1]) :: CodesR b A c L k2 :: [F]) (by unfold rowR intsR; (exact Ent.auto)) (Ent.bundle.trans (by (exact Ent.auto)))
  · obtain rfl : i = n := by omega
    have hM : MOk o i (fun _ _ z => -6 ≤ z ∧ z ≤ 6) := ⟨hol, fun j hj => (hrows _ (row_mem (by omega))).1, fun j hj => (hrows _ (row_mem (by omega))).2.1, fun j m hj hm => by
      have h1 := hrows _ (row_mem (v := o) (k := j) (by omega))
      have h2 := h1.2.2 ((o.getD j default).2.2.getD m default) (getD_memI (by rw [h1.1]; exact hm))
      omega⟩
    repeat' first
      | ((with_reducible refine Nx.is_wp ?_); first | refine Nx.p_stopr 11 rfl ?_ | refine Nx.wo ?_ | refine Nx.p_dec rfl rfl (fun hc => ?_) (fun hc => ?_) | refine Nx.p_bool rfl rfl (fun hc => ?_) (fun hc => ?_))
      | ((first | refine Nx.at_op rfl rfl ?_ | refine Nx.m_loud rfl rfl rfl ?_ | refine Nx.at_do rfl rfl rfl rfl ?_ | refine Nx.m_loud_do rfl rfl rfl rfl rfl ?_); first | refine Nx.opr rfl rfl ?_ | refine Nx.so ?_ | refine Nx.sb (fun bx => ?_) | refine Nx.sa (fun A2 c2 => ?_))
      | ((with_reducible refine Nx.is_at ?_); first | refine Nx.a ?_ | ((fail_if_success refine Nx.at_do rfl rfl rfl rfl ?_); first | refine Nx.at_dec_t rfl rfl rfl rfl (by first | assumption | omega) ?_ | refine Nx.at_dec_f rfl rfl rfl rfl (by first | assumption | omega) ?_ | refine Nx.at_split rfl rfl rfl rfl (fun hc => ?_) (fun hc => ?_) | refine Nx.at_splitb rfl rfl rfl rfl (fun hc => ?_) (fun hc => ?_)))
      | ((with_reducible refine Nx.is_mix ?_); first | refine Nx.m ?_ | ((fail_if_success refine Nx.m_quiet_do rfl rfl rfl rfl rfl rfl rfl ?_ ?_); (fail_if_success refine Nx.m_loud_do rfl rfl rfl rfl rfl ?_); first | refine Nx.m_dec_t rfl rfl rfl rfl (by first | assumption | omega) ?_ | refine Nx.m_dec_f rfl rfl rfl rfl (by first | assumption | omega) ?_ | refine Nx.m_split rfl rfl rfl rfl (fun hc => ?_) (fun hc => ?_) | refine Nx.m_splitb rfl rfl rfl rfl (fun hc => ?_) (fun hc => ?_)))
      | ((fail_if_success (with_reducible refine Nx.is_at ?_)); (fail_if_success (with_reducible refine Nx.is_wp ?_)); (fail_if_success (with_reducible refine Nx.is_mix ?_)); first | refine Nx.ex ?_)
    exact Nx.unstop (Nx.weak (by exact ⟨rfl, rfl, by rw [hol]; rfl, trivial⟩) (by rw [hol]; (exact Ent.auto)) (mat1 b A c L i I w F hL hn Ao co o k1 hk1 hM))
end Go.Proofs.YtpdgnjoideppjaaDoor
/- Contracts of functions of the given program, and lemmas about plain lists and numbers: what the laws of this seat lean on. -/
namespace Go.Proofs.YtpdgnjoideppjaaDoor
open Go.Eng Go.Det
/-! Plain facts about matrices that are drawn: their sizes, systems made for a solution -/
/-- n rows of n numbers, small in all rows but the first one. -/
structure Made (m : List (List Int)) (n : Nat) (B : Nat) : Prop where
  len : m.length = n
  row : ∀ r ∈ m, r.length = n
  ent : ∀ i j, 1 ≤ i → i < n → j < n → (entM m i j).natAbs ≤ B
theorem Made.at {m : List (List Int)} {n B : Nat} (h : Made m n B) {i : Nat} (hi : i < n) : (m.getD i []).length = n :=
  h.row _ (by rw [List.getD_eq_getElem?_getD, List.getElem?_eq_getElem (by rw [h.len]; exact hi)]; exact List.getElem_mem _)
theorem MOk.made {o : List Row} {n : Nat} (h : MOk o n (fun i _ z => Fine i z)) : Made (matL o) n 54 := by
  have hol := h.len
  refine ⟨by rw [matL_len]; exact hol, fun r hr => ?_, fun i j hi hin hj => ?_⟩
  · obtain ⟨x, hx, rfl⟩ := List.mem_map.1 hr
    obtain ⟨i, hi, rfl⟩ := List.mem_iff_getElem.1 hx
    have := h.row i (by omega)
    rw [List.getD_eq_getElem?_getD, List.getElem?_eq_getElem hi] at this
    exact this
  · have := (h.ent i j hin hj).2 hi
    have he : entM (matL o) i j = (o.getD i default).2.2.getD j default := by unfold entM; rw [matL_at (by omega)]; rfl
    rw [he]
    omega
theorem absS_bd {l : List Int} {B : Nat} (h : ∀ x ∈ l, x.natAbs ≤ B) : absS l ≤ l.length * B := by
  induction l with
  | nil => simp [absS]
  | cons x l ih =>
    have h1 := h x (by simp)
    have h2 := ih fun y hy => h y (by simp [hy])
    simp only [absS, List.length_cons, Nat.succ_mul]; omega
theorem prodM_bd {B : Nat} (hB : 1 ≤ B) : ∀ {m : List (List Int)}, (∀ r ∈ m, absS r ≤ B) → prodM m ≤ B ^ m.length
  | [], _ => Nat.le_refl _
  | r :: m, h => by
    have h1 := h r (by simp)
    have h2 := prodM_bd hB (m := m) fun y hy => h y (by simp [hy])
    simp only [prodM, List.length_cons]
    rw [Nat.pow_succ, Nat.mul_comm (B ^ m.length)]
    exact Nat.mul_le_mul (by omega) h2
/-- The product of the sums, where the numbers of the first row are within the limits. -/
theorem Made.prod {m : List (List Int)} {n B : Nat} (h : Made m n B) (hn : 1 ≤ n ∧ n ≤ 4) (hB : 1 ≤ B) (hr : rngB m = true) : prodM m ≤ 8589934592 * (4 * B) ^ 3 := by
  have hl := h.len
  cases m with
  | nil => simp at hl; omega
  | cons r0 rest =>
    simp only [List.length_cons] at hl
    unfold rngB at hr
    rw [List.all_cons, Bool.and_eq_true] at hr
    have h0 : absS r0 ≤ r0.length * 2147483648 := absS_le fun x hx => of_decide_eq_true (List.all_eq_true.1 hr.1 x hx)
    have hl0 := h.row r0 (by simp)
    have h1 : prodM rest ≤ (4 * B) ^ rest.length := prodM_bd (by omega) fun r hrm => by
      obtain ⟨i, hi, rfl⟩ := List.mem_iff_getElem.1 hrm
      have hlr := h.row rest[i] (by simp)
      have h2 : absS rest[i] ≤ rest[i].length * B := absS_bd fun x hx => by
        obtain ⟨j, hj, rfl⟩ := List.mem_iff_getElem.1 hx
        have := h.ent (i + 1) j (by omega) (by omega) (by omega)
        unfold entM at this
        rw [List.getD_cons_succ, List.getD_eq_getElem?_getD (l := rest), List.getElem?_eq_getElem hi] at this
        show (rest[i][j]).natAbs ≤ B
        have e : (rest[i]).getD j 0 = rest[i][j] := by rw [List.getD_eq_getElem?_getD, List.getElem?_eq_getElem hj]; rfl
        rw [← e]
        exact this
      rw [hlr] at h2
      exact Nat.le_trans h2 (Nat.mul_le_mul_right _ hn.2)
    simp only [prodM]
    have h3 : (4 * B) ^ rest.length ≤ (4 * B) ^ 3 := Nat.pow_le_pow_right (by omega) (by omega)
    exact Nat.mul_le_mul (by omega) (Nat.le_trans h1 h3)
theorem Made.chk {m : List (List Int)} {n B : Nat} (h : Made m n B) (hn : 1 ≤ n ∧ n ≤ 4) (hB : 1 ≤ B) (hB2 : B ≤ 6000) : chkE m = 0 ∨ chkE m = 2 := by
  have hl := h.len
  have hlen : lenB m = true := by
    unfold lenB
    rw [List.all_eq_true]
    intro r hr
    rw [h.row r hr, hl]
    exact decide_eq_true rfl
  unfold chkE
  rw [if_neg (by omega), if_neg (by omega), if_neg (by rw [hlen]; decide)]
  by_cases hr : rngB m = false
  · rw [if_pos hr]; exact Or.inr rfl
  · rw [if_neg hr]
    have h1 := h.prod hn hB (by cases hx : rngB m with | true => rfl | false => exact absurd hx hr)
    have h2 : (4 * B) ^ 3 ≤ 24000 ^ 3 := Nat.pow_le_pow_left (by omega) 3
    rw [if_neg (by unfold T120; have := Nat.mul_le_mul_left 8589934592 h2; omega)]
    exact Or.inl rfl
theorem rep_ent {m : List (List Int)} {n B : Nat} (h : Made m n B) {j : Nat} {b : List Int} {r c : Nat} (hr : r < n) (hc : c < n) : entM (repL m j b) r c = rep (entM m) j (fun r => b.getD r 0) r c := by
  have hl := h.len
  have hrow := h.at hr
  show ((repL m j b).getD r []).getD c 0 = if c = j then _ else (m.getD r []).getD c 0
  rw [rep_row (by omega)]
  by_cases h1 : c = j
  · rw [if_pos h1, h1, List.getD_eq_getElem?_getD, List.getElem?_set_self (by omega)]
    rfl
  · rw [if_neg h1, List.getD_eq_getElem?_getD, List.getElem?_set_ne (Ne.symm h1), ← List.getD_eq_getElem?_getD]
theorem Made.rep {m : List (List Int)} {n B C : Nat} (h : Made m n B) (hBC : B ≤ C) {j : Nat} {b : List Int} (hb : ∀ i, 1 ≤ i → i < n → (b.getD i 0).natAbs ≤ C) : Made (repL m j b) n C := by
  have hl := h.len
  refine ⟨by unfold repL; simp [hl], fun r hr => ?_, fun i c hi hin hc => ?_⟩
  · obtain ⟨i, hi, rfl⟩ := List.mem_map.1 hr
    rw [List.length_set]
    exact h.at (by have := List.mem_range.1 hi; omega)
  · rw [rep_ent h hin hc]
    unfold Go.Det.rep
    split
    · exact hb i hi hin
    · exact Nat.le_trans (h.ent i c hi hin hc) hBC
/-- A number as a fraction. -/
theorem red_int {z : Int} (h : z.natAbs ≤ 1152921504606846976) : redN (z : Rat) = z ∧ redD (z : Rat) = 1 ∧ redE (z : Rat) = 0 := by
  have hb : RB (z : Rat) := ⟨h, by show (1 : Nat) ≤ _; decide⟩
  unfold redN redD redE
  rw [if_pos hb, if_pos hb, if_pos hb]
  exact ⟨rfl, rfl, rfl⟩
theorem div_int {x D : Int} (hD : D ≠ 0) : Rat.divInt (x * D) D = (x : Rat) := by
  have h1 := Rat.divInt_mul_right (n := x) (d := 1) hD
  rw [Int.one_mul] at h1
  rw [h1]
  exact Rat.mkRat_self (x : Rat)
/-- What the equations give. -/
def rhs (m : List (List Int)) (x : List Int) (n : Nat) : List Int := (List.range n).map fun i => sumR (fun k => entM m i k * x.getD k 0) n
end Go.Proofs.YtpdgnjoideppjaaDoor
/- Contracts of functions of the given program, and lemmas about plain lists and numbers: what the laws of this seat lean on. -/
namespace Go.Proofs.YtpdgnjoideppjaaDoor
open Go.Eng Go.Det
/-! Two rows exchanged, a row times a number -/
theorem chk_turn (r0 r1 : List Int) (rest : List (List Int)) : chkE (r1 :: r0 :: rest) = chkE (r0 :: r1 :: rest) := by
  have e1 : lenB (r1 :: r0 :: rest) = lenB (r0 :: r1 :: rest) := by
    unfold lenB
    simp only [List.all_cons, List.length_cons]
    rw [← Bool.and_assoc, ← Bool.and_assoc]
    congr 1
    exact Bool.and_comm _ _
  have e2 : rngB (r1 :: r0 :: rest) = rngB (r0 :: r1 :: rest) := by
    unfold rngB
    simp only [List.all_cons]
    rw [← Bool.and_assoc, ← Bool.and_assoc]
    congr 1
    exact Bool.and_comm _ _
  have e3 : prodM (r1 :: r0 :: rest) = prodM (r0 :: r1 :: rest) := by
    simp only [prodM]
    exact Nat.mul_left_comm _ _ _
  unfold chkE
  rw [e1, e2, e3]
  rfl
def swp (r : Nat) : Nat := if r = 0 then 1 else if r = 1 then 0 else r
theorem range_two (n : Nat) : List.range (n + 2) = 0 :: 1 :: List.range' 2 n := by
  rw [List.range_eq_range', List.range'_succ, List.range'_succ]
theorem det_turn (r0 r1 : List Int) (rest : List (List Int)) : detM (r1 :: r0 :: rest) = -detM (r0 :: r1 :: rest) := by
  unfold detM
  simp only [List.length_cons]
  have h1 : entM (r1 :: r0 :: rest) = fun r c => entM (r0 :: r1 :: rest) (swp r) c := by
    funext r c
    unfold entM swp
    match r with
    | 0 => rfl
    | 1 => rfl
    | k + 2 => rw [if_neg (by omega), if_neg (by omega)]; rfl
  rw [h1, minr_rowmap, show rest.length + 1 + 1 = rest.length + 2 from rfl]
  have h2 : (List.range (rest.length + 2)).map swp = 1 :: 0 :: List.range' 2 rest.length := by
    rw [range_two, List.map_cons, List.map_cons]
    congr 2
    have : ∀ l : List Nat, (∀ x ∈ l, 2 ≤ x) → l.map swp = l := fun l hl => by
      induction l with
      | nil => rfl
      | cons a l ih =>
        rw [List.map_cons, ih fun x hx => hl x (by simp [hx])]
        have := hl a (by simp)
        unfold swp
        rw [if_neg (by omega), if_neg (by omega)]
    exact this _ fun x hx => (List.mem_range'_1.1 hx).1
  rw [h2, range_two]
  exact minr_rows (entM (r0 :: r1 :: rest)) 0 1 (List.range' 2 rest.length) [] _
theorem det_scale (r0 : List Int) (rest : List (List Int)) (t : Int) : detM (r0.map (· * t) :: rest) = t * detM (r0 :: rest) := by
  unfold detM
  simp only [List.length_cons]
  have hr : List.range (rest.length + 1) = 0 :: List.range' 1 rest.length := by rw [List.range_eq_range', List.range'_succ]
  rw [hr, minr_cons, minr_cons, ← spl_mul]
  refine spl_congr _ _ fun p c q _ _ => ?_
  have e1 : entM (r0.map (· * t) :: rest) 0 c = entM (r0 :: rest) 0 c * t := by
    unfold entM
    show (r0.map (· * t)).getD c 0 = r0.getD c 0 * t
    rw [List.getD_eq_getElem?_getD, List.getElem?_map, List.getD_eq_getElem?_getD]
    cases r0[c]? with
    | none => simp
    | some x => rfl
  have e2 : minr (entM (r0.map (· * t) :: rest)) (List.range' 1 rest.length) (p ++ q) = minr (entM (r0 :: rest)) (List.range' 1 rest.length) (p ++ q) := minr_congr _ _ fun r hr c hc => by
    have := (List.mem_range'_1.1 hr).1
    obtain ⟨k, rfl⟩ : ∃ k, r = k + 1 := ⟨r - 1, by omega⟩
    rfl
  rw [e1, e2]
  grind
theorem Made.scale {r0 : List Int} {rest : List (List Int)} {n B : Nat} (h : Made (r0 :: rest) n B) (t : Int) : Made (r0.map (· * t) :: rest) n B := by
  have hl := h.len
  refine ⟨hl, fun r hr => ?_, fun i j hi hin hj => ?_⟩
  · rcases List.mem_cons.1 hr with rfl | hr
    · rw [List.length_map]; exact h.row r0 (by simp)
    · exact h.row r (by simp [hr])
  · obtain ⟨k, rfl⟩ : ∃ k, i = k + 1 := ⟨i - 1, by omega⟩
    exact h.ent (k + 1) j hi hin hj
theorem redV_int {z : Int} (h : z.natAbs ≤ 1152921504606846976) : redV (z : Rat) = .tuple #[.agg #[.int .i64 z, .int .i64 1], .int .i64 0] := by
  obtain ⟨h1, h2, h3⟩ := red_int h
  unfold redV
  rw [h1, h2, h3]
theorem ratio_self {m : List (List Int)} (h0 : chkE m = 0) (hd : detM m ≠ 0) : ratioV m m = .tuple #[.agg #[.int .i64 1, .int .i64 1], .int .i64 0] := by
  unfold ratioV
  rw [if_neg (by omega), if_neg (by omega), if_neg hd]
  have := div_int (x := 1) hd
  rw [Int.one_mul] at this
  rw [this]
  exact redV_int (by decide)
theorem ratio_turn {r0 r1 : List Int} {rest : List (List Int)} (h0 : chkE (r0 :: r1 :: rest) = 0) (hd : detM (r0 :: r1 :: rest) ≠ 0) : ratioV (r1 :: r0 :: rest) (r0 :: r1 :: rest) = .tuple #[.agg #[.int .i64 (-1), .int .i64 1], .int .i64 0] := by
  unfold ratioV
  rw [chk_turn, if_neg (by omega), if_neg (by omega), if_neg hd, det_turn]
  have := div_int (x := -1) hd
  rw [Int.neg_mul, Int.one_mul] at this
  rw [this]
  exact redV_int (by decide)
theorem ratio_scale {r0 : List Int} {rest : List (List Int)} {n : Nat} (hm : Made (r0 :: rest) n 54) (hn : 1 ≤ n ∧ n ≤ 4) (h0 : chkE (r0 :: rest) = 0) (hd : detM (r0 :: rest) ≠ 0) {t : Int} (ht : -128 ≤ t ∧ t < 128) :
    ratioV (r0.map (· * t) :: rest) (r0 :: rest) = .tuple #[.agg #[.int .i64 0, .int .i64 0], .int .i64 2] ∨ ratioV (r0.map (· * t) :: rest) (r0 :: rest) = .tuple #[.agg #[.int .i64 t, .int .i64 1], .int .i64 0] := by
  unfold ratioV
  rcases (hm.scale t).chk hn (by decide) (by decide) with h1 | h1
  · right
    rw [if_neg (by omega), if_neg (by omega), if_neg hd, det_scale, div_int hd]
    exact redV_int (by omega)
  · left
    rw [if_pos (by rw [h1]; decide), h1]
    rfl
end Go.Proofs.YtpdgnjoideppjaaDoor
