/- Contracts of functions of the given program, and lemmas about plain lists and numbers: what the laws of this seat lean on. -/
import Derived.Test.YtlhnhjconifacaaDoorF24
import Derived.Test.YtlhnhjconifacaaDoorF30
import Derived.Test.YtlhnhjconifacaaDoorEngN
namespace Go.Proofs.YtlhnhjconifacaaDoor
open Go.Eng
attribute [local irreducible] opK wpList Code.wp Exit.then Exit.inBlock fnPost bodyPost Nx Calls Oper.wp Rd Rds Wr Ent Stars Blk Again Vec FnSpec wpMix QRun Stop Upto wpAt
theorem tmod_mod (k : Int) {n : Int} (hn : 0 < n) : (k.tmod n < 0 → k.tmod n + n = k % n) ∧ (¬ k.tmod n < 0 → k.tmod n = k % n) := by
  have h1 := Int.mul_tdiv_add_tmod k n
  have h2 : (k.tmod n).natAbs < n.natAbs := by rw [Int.natAbs_tmod]; exact Nat.mod_lt _ (by omega)
  refine ⟨fun h => ?_, fun h => ?_⟩
  · refine ((Int.ediv_emod_unique hn).2 ⟨?_, ?_, ?_⟩ : k / n = k.tdiv n - 1 ∧ k % n = k.tmod n + n).2.symm
    · rw [Int.mul_sub]; omega
    · omega
    · omega
  · refine ((Int.ediv_emod_unique hn).2 ⟨?_, ?_, ?_⟩ : k / n = k.tdiv n ∧ k % n = k.tmod n).2.symm
    · omega
    · omega
    · omega
theorem Mod_spec (k n : Int) (hk : I64 k) (hn : 1 ≤ n ∧ n ≤ 1000000) (I : PH) : FnSpec Tryd.prog 8 [.int .i64 k, .int .i64 n] I [] (fun v R' => v = .int .i64 (k % n) ∧ R' = []) := by
  obtain ⟨e1, e2⟩ := tmod_mod k (by omega : 0 < n)
  have hb : (k.tmod n).natAbs < n.natAbs := by rw [Int.natAbs_tmod]; exact Nat.mod_lt _ (by omega)
  refine FnSpec.enterP Tryd.func8 rfl Tryd.ntmps8 rfl fun w F => ?_
  repeat' first
    | ((with_reducible refine Nx.is_wp ?_); first | refine Nx.wo ?_ | refine Nx.p_dec rfl rfl (fun hc => ?_) (fun hc => ?_) | refine Nx.p_bool rfl rfl (fun hc => ?_) (fun hc => ?_))
    | ((first | refine Nx.at_op rfl rfl ?_ | refine Nx.m_loud rfl rfl rfl ?_ | refine Nx.at_do rfl rfl rfl rfl ?_ | refine Nx.m_loud_do rfl rfl rfl rfl rfl ?_); first | refine Nx.opr rfl rfl ?_ | refine Nx.bin rfl rfl (run_remT (by omega)) rfl ?_ | refine Nx.so ?_ | refine Nx.sb (fun bx => ?_) | refine Nx.sa (fun A2 c2 => ?_))
    | ((with_reducible refine Nx.is_at ?_); first | refine Nx.a ?_ | ((fail_if_success refine Nx.at_do rfl rfl rfl rfl ?_); first | refine Nx.at_dec_t rfl rfl rfl rfl (by first | assumption | omega) ?_ | refine Nx.at_dec_f rfl rfl rfl rfl (by first | assumption | omega) ?_ | refine Nx.at_split rfl rfl rfl rfl (fun hc => ?_) (fun hc => ?_) | refine Nx.at_splitb rfl rfl rfl rfl (fun hc => ?_) (fun hc => ?_)))
    | ((with_reducible refine Nx.is_mix ?_); first | refine Nx.m ?_ | ((fail_if_success refine Nx.m_quiet_do rfl rfl rfl rfl rfl rfl rfl ?_ ?_); (fail_if_success refine Nx.m_loud_do rfl rfl rfl rfl rfl ?_); first | refine Nx.m_dec_t rfl rfl rfl rfl (by first | assumption | omega) ?_ | refine Nx.m_dec_f rfl rfl rfl rfl (by first | assumption | omega) ?_ | refine Nx.m_split rfl rfl rfl rfl (fun hc => ?_) (fun hc => ?_) | refine Nx.m_splitb rfl rfl rfl rfl (fun hc => ?_) (fun hc => ?_)))
    | ((fail_if_success (with_reducible refine Nx.is_at ?_)); (fail_if_success (with_reducible refine Nx.is_wp ?_)); (fail_if_success (with_reducible refine Nx.is_mix ?_)); first | refine Nx.ex ?_)
  all_goals first
    | exact Nx.ret_fn rfl [] ⟨by rw [e1 (by assumption)], rfl⟩ (Ent.refl _)
    | exact Nx.ret_fn rfl [] ⟨by rw [e2 (by assumption)], rfl⟩ (Ent.refl _)
/-- What returns a fraction and an error. -/
theorem ofV_form (n d : Int) : ∃ x y z, ofV n d = .tuple #[.agg #[.int .i64 x, .int .i64 y], .int .i64 z] := by
  unfold ofV
  split
  · exact ⟨_, _, _, rfl⟩
  · exact ⟨_, _, _, rfl⟩
section
variable {C : Cx} {e : Env} {I : PH} {R : List Res} {K : Act → World → Prop} {Q : Exit → Act → World → Prop} {d : Nat} {v : Value} {o : Oper} {P : Program} {t : TypeId} {x y : Operand} {p q : Int}
/-- An operation that only reads, in its place. -/
theorem Nx.quietly (hd : o.dst = some d) (hlt : Nat.blt d C.n = true) (h : QRun C e (St C.W I R) o v) (k : Nx C ((d, v) :: e) I R K) : Nx C e I R (opK C.P o K Q) := Nx.op_run hd hlt (fun a w ha hw => by unfold QRun at h; exact h a w ha hw) k
/-- An array's literal whose parts stand one behind the other. -/
theorem Nx.buildA {ty : TypeId} {pos : String} {after : Array Edge} {g : Option (Nat × Bool)} {parts : Array (Nat × Operand)} {vs cs : List Value} (hx : evs e (parts.toList.map (·.2)) = some vs) (hcs : forceL vs = some cs)
    (hv : pureRun C.P (Instr.build t (((parts.toList.map (·.1)).zip vs).toArray)) = some (.agg cs.toArray)) (hlt : Nat.blt d C.n = true)
    (h : Nx C ((d, .agg cs.toArray) :: e) I R K) : Nx C e I R (opK C.P ⟨some d, .build t parts, ty, pos, after, g⟩ K Q) := have _ := hcs; Nx.buildX cs hx hv hlt h
theorem run_rem8 (h0 : 0 ≤ p) (hq : 0 < q) : pureRun P (do eqGuard .rem t x y (.int .u8 p) (.int .u8 q); binOp .rem t (.int .u8 p) (.int .u8 q)) = some (.int .u8 (p % q)) := by
  rw [eqGuard_rem, binOp_rem]
  have hne : q ≠ 0 := by omega
  have : p.tmod q = p % q := Int.tmod_eq_emod_of_nonneg h0
  unfold pureRun
  simp [Op.intDiv, hne, this]; rfl
theorem run_quo8 (h0 : 0 ≤ p ∧ p < 256) (hq : 0 < q) : pureRun P (do eqGuard .quo t x y (.int .u8 p) (.int .u8 q); binOp .quo t (.int .u8 p) (.int .u8 q)) = some (.int .u8 (p / q)) := by
  rw [eqGuard_quo, binOp_quo]
  have hne : q ≠ 0 := by omega
  have : p.tdiv q = p / q := Int.tdiv_eq_ediv_of_nonneg h0.1
  have h1 : p / q ≤ p := Int.ediv_le_self _ h0.1
  have h2 : 0 ≤ p / q := Int.ediv_nonneg h0.1 (by omega)
  have hw : IntKind.u8.wrap (p / q) = p / q := wrap_u rfl h2 (by simp [IntKind.bits]; omega)
  unfold pureRun
  simp [Op.intDiv, hne, this, hw]; rfl
theorem run_shrIN {k : IntKind} (n : Nat) (hq : q = (n : Int)) (hn : n ≤ 64) : pureRun P (do eqGuard .shr t x y (.int .i64 p) (.int k q); binOp .shr t (.int .i64 p) (.int k q)) = some (.int .i64 (p / 2 ^ n)) := by
  subst hq; exact run_shrI hn
end
theorem shr_i64 {a : Int} (ha : I64 a) (n : Nat) : I64 (a / 2 ^ n) := by
  have h : (0 : Int) < 2 ^ n := Int.pow_pos (by decide)
  unfold I64 at *
  by_cases h0 : 0 ≤ a
  · have h1 := Int.ediv_le_self (2 ^ n) h0
    have h2 := Int.ediv_nonneg h0 (Int.le_of_lt h)
    omega
  · have h1 : a ≤ a / 2 ^ n := (Int.le_ediv_iff_mul_le h).2 (by
      have : a * 2 ^ n ≤ a * 1 := Int.mul_le_mul_of_nonpos_left (by omega) (by omega)
      omega)
    have h2 : a / 2 ^ n ≤ 0 := by
      have : a / 2 ^ n < 1 := (Int.ediv_lt_iff_lt_mul h).2 (by omega)
      omega
    omega
def pairL (p : Int × Int) : List Value := [.int .i64 p.1, .int .i64 p.2]
set_option maxHeartbeats 4000000 in
theorem FractionMakes_spec (num den shift : Int) (hn : I64 num) (hd : I64 den) (hs : 0 ≤ shift ∧ shift < 256) (I : PH) (hT : TabI I) (hN : TenI I) :
    FnSpec Tryd.prog 3 [.int .i64 num, .int .i64 den, .int .u8 shift] I [] (fun v R' => v = .bool true ∧ R' = []) := by
  obtain ⟨s, rfl⟩ : ∃ s : Nat, shift = (s : Int) := ⟨shift.toNat, by omega⟩
  have hm1 := Mod_spec num 999 hn (by omega) I
  have hm2 := Mod_spec den 99 hd (by omega) I
  refine FnSpec.enterP Tryd.func3 rfl Tryd.ntmps3 rfl fun w F => ?_
  repeat' first
    | ((with_reducible refine Nx.is_wp ?_); first | refine Nx.wo ?_ | refine Nx.p_dec rfl rfl (fun hc => ?_) (fun hc => ?_) | refine Nx.p_bool rfl rfl (fun hc => ?_) (fun hc => ?_))
    | ((first | refine Nx.at_op rfl rfl ?_ | refine Nx.m_loud rfl rfl rfl ?_ | refine Nx.at_do rfl rfl rfl rfl ?_ | refine Nx.m_loud_do rfl rfl rfl rfl rfl ?_); first | refine Nx.opr rfl rfl ?_ | refine Nx.bin rfl rfl (run_rem8 (by omega) (by decide)) rfl ?_ | refine Nx.bin rfl rfl (run_quo8 (by omega) (by decide)) rfl ?_ | refine Nx.bin rfl rfl (run_shrIN (s % 60) (by omega) (by omega)) rfl ?_ | refine Nx.bin rfl rfl (run_shrIN (s / 4 % 60) (by omega) (by omega)) rfl ?_ | refine Nx.callv rfl rfl rfl (by kernel_rfl) rfl hm1 ?_ | refine Nx.callv rfl rfl rfl (by kernel_rfl) rfl hm2 ?_ | refine Nx.buildA rfl rfl (by kernel_rfl) rfl ?_ | refine Nx.so ?_ | refine Nx.sb (fun bx => ?_) | refine Nx.sa (fun A2 c2 => ?_))
    | ((with_reducible refine Nx.is_at ?_); first | refine Nx.a ?_ | ((fail_if_success refine Nx.at_do rfl rfl rfl rfl ?_); first | refine Nx.at_dec_t rfl rfl rfl rfl (by first | assumption | omega) ?_ | refine Nx.at_dec_f rfl rfl rfl rfl (by first | assumption | omega) ?_ | refine Nx.at_split rfl rfl rfl rfl (fun hc => ?_) (fun hc => ?_) | refine Nx.at_splitb rfl rfl rfl rfl (fun hc => ?_) (fun hc => ?_)))
    | ((with_reducible refine Nx.is_mix ?_); first | refine Nx.m ?_ | ((fail_if_success refine Nx.m_quiet_do rfl rfl rfl rfl rfl rfl rfl ?_ ?_); (fail_if_success refine Nx.m_loud_do rfl rfl rfl rfl rfl ?_); first | refine Nx.m_dec_t rfl rfl rfl rfl (by first | assumption | omega) ?_ | refine Nx.m_dec_f rfl rfl rfl rfl (by first | assumption | omega) ?_ | refine Nx.m_split rfl rfl rfl rfl (fun hc => ?_) (fun hc => ?_) | refine Nx.m_splitb rfl rfl rfl rfl (fun hc => ?_) (fun hc => ?_)))
    | ((fail_if_success (with_reducible refine Nx.is_at ?_)); (fail_if_success (with_reducible refine Nx.is_wp ?_)); (fail_if_success (with_reducible refine Nx.is_mix ?_)); first | refine Nx.ex ?_)
  have hL : ∀ x ∈ ([(num, den), (num / 2 ^ (s % 60), den / 2 ^ (s / 4 % 60)), (num % 999, den % 99 - 40), (num, 1), (1152921504606846976, den)] : List (Int × Int)), I64 x.1 ∧ I64 x.2 := by
    intro x hx
    simp only [List.mem_cons, List.not_mem_nil, or_false] at hx
    rcases hx with rfl | rfl | rfl | rfl | rfl
    · exact ⟨hn, hd⟩
    · exact ⟨shr_i64 hn _, shr_i64 hd _⟩
    · exact ⟨by unfold I64; omega, by unfold I64; omega⟩
    · exact ⟨hn, by unfold I64; omega⟩
    · exact ⟨by unfold I64; omega, hd⟩
  generalize hLd : ([(num, den), (num / 2 ^ (s % 60), den / 2 ^ (s / 4 % 60)), (num % 999, den % 99 - 40), (num, 1), (1152921504606846976, den)] : List (Int × Int)) = L at hL
  have hlen : L.length = 5 := by rw [← hLd]; rfl
  refine Nx.ent (R' := [Blk bx 22 (L.flatMap pairL), F]) (by rw [← hLd]; exact Ent.refl _) ?_
  refine Nx.freezeAt 0 rfl fun I1 m1 hI1 hm1 h1 => ?_
  have hS : SliceN pairL 2 I1 (some ⟨bx, 0, none⟩) L.length L := Blk.sliceN hm1 h1 (fun _ _ => rfl) (by rw [hlen]; unfold maxLen; omega)
  have hT1 : TabI I1 := fun W w R h => hT W w R (h.imm_le hI1)
  have hN1 : TenI I1 := fun W w R h => hN W w R (h.imm_le hI1)
  have hAw := awake_spec I1 hT1 hN1
  refine Nx.p_loop (σ := Nat) (fun k => [(36, .slice (some ⟨bx, 0, none⟩) 5 5), (37, .int .i64 5), (38, .int .i64 (k : Int))]) (fun _ => [F]) (fun k => k ≤ 5) (fun k => 5 - k) 0 rfl (by omega) ⟨rfl, rfl, rfl, trivial⟩ (by (first | done | (repeat first | exact Ent.refl _ | exact Ent.nil _ | refine Ent.pick 0 rfl ?_ | refine Ent.pick 1 rfl ?_ | refine Ent.pick 2 rfl ?_ | refine Ent.pick 3 rfl ?_ | refine Ent.pick 4 rfl ?_ | refine Ent.pick 5 rfl ?_ | refine Ent.pick 6 rfl ?_ | refine Ent.pick 7 rfl ?_ | refine Ent.pick 8 rfl ?_ | refine Ent.pick 9 rfl ?_ | refine Ent.pick 10 rfl ?_ | refine Ent.pick 11 rfl ?_ | refine Ent.pick 12 rfl ?_ | refine Ent.pick 13 rfl ?_ | refine Ent.pick 14 rfl ?_))) ?_
  intro k hk
  by_cases hlt : k < 5
  · obtain ⟨p1, p2, hp⟩ : ∃ p1 p2, L.getD k default = (p1, p2) := ⟨_, _, rfl⟩
    have hmem : (p1, p2) ∈ L := by
      rw [← hp, List.getD_eq_getElem?_getD, List.getElem?_eq_getElem (by omega)]
      exact List.getElem_mem _
    have hpm := hL _ hmem
    obtain ⟨x, y, z, e⟩ := ofV_form p1 p2
    have hO1 := Of_spec p1 p2 hpm.1 hpm.2 I1 hT1
    have hO2 := rOf_spec p1 p2 hpm.1 hpm.2 I1
    rw [e] at hO1 hO2
    have hrd : ∀ (W : World) (R : List Res), Rds W I1 R ((ad (some ⟨bx, 0, none⟩)).add (k * 2)) (pairL (p1, p2)) := fun W R => by
      rw [← hp]
      exact hS.rds (by omega)
    repeat' first
      | ((with_reducible refine Nx.is_wp ?_); first | refine Nx.wo ?_ | refine Nx.p_dec rfl rfl (fun hc => ?_) (fun hc => ?_) | refine Nx.p_bool rfl rfl (fun hc => ?_) (fun hc => ?_))
      | ((first | refine Nx.at_op rfl rfl ?_ | refine Nx.m_loud rfl rfl rfl ?_ | refine Nx.at_do rfl rfl rfl rfl ?_ | refine Nx.m_loud_do rfl rfl rfl rfl rfl ?_); first | refine Nx.opr rfl rfl ?_ | refine Nx.indexAddr_nat rfl rfl rfl rfl rfl hlt rfl ?_ | refine Nx.loads rfl rfl rfl rfl (hrd _ _) rfl ?_ | refine Nx.quietly rfl rfl (QRun.idxArr (i := 0) rfl rfl rfl rfl rfl) ?_ | refine Nx.quietly rfl rfl (QRun.idxArr (i := 1) rfl rfl rfl rfl rfl) ?_ | refine Nx.callv rfl rfl rfl (by kernel_rfl) rfl hO1 ?_ | refine Nx.callv rfl rfl rfl (by kernel_rfl) rfl hO2 ?_ | refine Nx.binr rfl rfl (neq_frac _ _ _ _) rfl ?_ | refine Nx.so ?_ | refine Nx.sb (fun bx => ?_) | refine Nx.sa (fun A2 c2 => ?_))
      | ((with_reducible refine Nx.is_at ?_); first | refine Nx.a ?_ | ((fail_if_success refine Nx.at_do rfl rfl rfl rfl ?_); first | refine Nx.at_dec_t rfl rfl rfl rfl (by first | assumption | omega) ?_ | refine Nx.at_dec_f rfl rfl rfl rfl (by first | assumption | omega) ?_ | refine Nx.at_split rfl rfl rfl rfl (fun hc => ?_) (fun hc => ?_) | refine Nx.at_splitb rfl rfl rfl rfl (fun hc => ?_) (fun hc => ?_)))
      | ((with_reducible refine Nx.is_mix ?_); first | refine Nx.m ?_ | ((fail_if_success refine Nx.m_quiet_do rfl rfl rfl rfl rfl rfl rfl ?_ ?_); (fail_if_success refine Nx.m_loud_do rfl rfl rfl rfl rfl ?_); first | refine Nx.m_dec_t rfl rfl rfl rfl (by first | assumption | omega) ?_ | refine Nx.m_dec_f rfl rfl rfl rfl (by first | assumption | omega) ?_ | refine Nx.m_split rfl rfl rfl rfl (fun hc => ?_) (fun hc => ?_) | refine Nx.m_splitb rfl rfl rfl rfl (fun hc => ?_) (fun hc => ?_)))
      | ((fail_if_success (with_reducible refine Nx.is_at ?_)); (fail_if_success (with_reducible refine Nx.is_wp ?_)); (fail_if_success (with_reducible refine Nx.is_mix ?_)); first | refine Nx.ex ?_)
    refine Nx.again (k + 1) (by omega) (by omega) ⟨rfl, rfl, rfl, trivial⟩ (by (first | done | (repeat first | exact Ent.refl _ | exact Ent.nil _ | refine Ent.pick 0 rfl ?_ | refine Ent.pick 1 rfl ?_ | refine Ent.pick 2 rfl ?_ | refine Ent.pick 3 rfl ?_ | refine Ent.pick 4 rfl ?_ | refine Ent.pick 5 rfl ?_ | refine Ent.pick 6 rfl ?_ | refine Ent.pick 7 rfl ?_ | refine Ent.pick 8 rfl ?_ | refine Ent.pick 9 rfl ?_ | refine Ent.pick 10 rfl ?_ | refine Ent.pick 11 rfl ?_ | refine Ent.pick 12 rfl ?_ | refine Ent.pick 13 rfl ?_ | refine Ent.pick 14 rfl ?_)))
  · repeat' first
      | ((with_reducible refine Nx.is_wp ?_); first | refine Nx.wo ?_ | refine Nx.p_dec rfl rfl (fun hc => ?_) (fun hc => ?_) | refine Nx.p_bool rfl rfl (fun hc => ?_) (fun hc => ?_))
      | ((first | refine Nx.at_op rfl rfl ?_ | refine Nx.m_loud rfl rfl rfl ?_ | refine Nx.at_do rfl rfl rfl rfl ?_ | refine Nx.m_loud_do rfl rfl rfl rfl rfl ?_); first | refine Nx.opr rfl rfl ?_ | refine Nx.callv rfl rfl rfl (by kernel_rfl) rfl hAw ?_ | refine Nx.so ?_ | refine Nx.sb (fun bx => ?_) | refine Nx.sa (fun A2 c2 => ?_))
      | ((with_reducible refine Nx.is_at ?_); first | refine Nx.a ?_ | ((fail_if_success refine Nx.at_do rfl rfl rfl rfl ?_); first | refine Nx.at_dec_t rfl rfl rfl rfl (by first | assumption | omega) ?_ | refine Nx.at_dec_f rfl rfl rfl rfl (by first | assumption | omega) ?_ | refine Nx.at_split rfl rfl rfl rfl (fun hc => ?_) (fun hc => ?_) | refine Nx.at_splitb rfl rfl rfl rfl (fun hc => ?_) (fun hc => ?_)))
      | ((with_reducible refine Nx.is_mix ?_); first | refine Nx.m ?_ | ((fail_if_success refine Nx.m_quiet_do rfl rfl rfl rfl rfl rfl rfl ?_ ?_); (fail_if_success refine Nx.m_loud_do rfl rfl rfl rfl rfl ?_); first | refine Nx.m_dec_t rfl rfl rfl rfl (by first | assumption | omega) ?_ | refine Nx.m_dec_f rfl rfl rfl rfl (by first | assumption | omega) ?_ | refine Nx.m_split rfl rfl rfl rfl (fun hc => ?_) (fun hc => ?_) | refine Nx.m_splitb rfl rfl rfl rfl (fun hc => ?_) (fun hc => ?_)))
      | ((fail_if_success (with_reducible refine Nx.is_at ?_)); (fail_if_success (with_reducible refine Nx.is_wp ?_)); (fail_if_success (with_reducible refine Nx.is_mix ?_)); first | refine Nx.ex ?_)
    exact Nx.imm_le hI1 (Nx.ret_fn rfl [] ⟨rfl, rfl⟩ (by (first | done | (repeat first | exact Ent.refl _ | exact Ent.nil _ | refine Ent.pick 0 rfl ?_ | refine Ent.pick 1 rfl ?_ | refine Ent.pick 2 rfl ?_ | refine Ent.pick 3 rfl ?_ | refine Ent.pick 4 rfl ?_ | refine Ent.pick 5 rfl ?_ | refine Ent.pick 6 rfl ?_ | refine Ent.pick 7 rfl ?_ | refine Ent.pick 8 rfl ?_ | refine Ent.pick 9 rfl ?_ | refine Ent.pick 10 rfl ?_ | refine Ent.pick 11 rfl ?_ | refine Ent.pick 12 rfl ?_ | refine Ent.pick 13 rfl ?_ | refine Ent.pick 14 rfl ?_))))
end Go.Proofs.YtlhnhjconifacaaDoor
