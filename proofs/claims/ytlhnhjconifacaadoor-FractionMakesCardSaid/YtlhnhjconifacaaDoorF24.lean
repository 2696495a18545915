/- Contracts of functions of the given program, and lemmas about plain lists and numbers: what the laws of this seat lean on. -/
import Derived.Test.YtlhnhjconifacaaDoorF21
import Derived.Test.YtlhnhjconifacaaDoorF22
import Derived.Test.YtlhnhjconifacaaDoorF23
namespace Go.Proofs.YtlhnhjconifacaaDoor
open Go.Eng
attribute [local irreducible] opK wpList Code.wp Exit.then Exit.inBlock fnPost bodyPost Nx Calls Oper.wp Rd Rds Wr Ent Stars Blk Again Vec FnSpec wpMix QRun Stop Upto wpAt
theorem redE_ok {q : Rat} (h : redE q = 0) : RB q := by
  unfold redE at h
  split at h
  · assumption
  · cases h
theorem rat_i64 {q : Rat} (h : RB q) : I64 q.num ∧ I64 q.den := fok_i64 h.fok
theorem red_i64 (q : Rat) : I64 (redN q) ∧ I64 (redD q) := by
  unfold redN redD
  by_cases h : RB q
  · rw [if_pos h, if_pos h]; exact rat_i64 h
  · rw [if_neg h, if_neg h]; unfold I64; omega
theorem opV_rat {p q : Rat} (hp : RB p) (hq : RB q) (r : Rat) : opV p.num p.den q.num q.den r = redV r := by
  unfold opV
  rw [if_pos ⟨hp.fok, hq.fok⟩]
theorem Add_rat (p q : Rat) (hp : RB p) (hq : RB q) (I : PH) (hT : TabI I) : FnSpec Tryd.prog 15 [ratV p, ratV q] I [] (fun v R' => v = redV (p + q) ∧ R' = []) := by
  have := Add_spec p.num p.den q.num q.den (rat_i64 hp).1 (rat_i64 hp).2 (rat_i64 hq).1 (rat_i64 hq).2 I hT
  rw [opV_rat hp hq, Rat.num_divInt_den, Rat.num_divInt_den] at this
  exact this
theorem Sub_rat (p q : Rat) (hp : RB p) (hq : RB q) (I : PH) (hT : TabI I) : FnSpec Tryd.prog 20 [ratV p, ratV q] I [] (fun v R' => v = redV (p - q) ∧ R' = []) := by
  have := Sub_spec p.num p.den q.num q.den (rat_i64 hp).1 (rat_i64 hp).2 (rat_i64 hq).1 (rat_i64 hq).2 I hT
  rw [opV_rat hp hq, Rat.num_divInt_den, Rat.num_divInt_den] at this
  exact this
theorem Mul_rat (p q : Rat) (hp : RB p) (hq : RB q) (I : PH) (hT : TabI I) : FnSpec Tryd.prog 18 [ratV p, ratV q] I [] (fun v R' => v = redV (p * q) ∧ R' = []) := by
  have := Mul_spec p.num p.den q.num q.den (rat_i64 hp).1 (rat_i64 hp).2 (rat_i64 hq).1 (rat_i64 hq).2 I hT
  rw [opV_rat hp hq, Rat.num_divInt_den, Rat.num_divInt_den] at this
  exact this
theorem Div_rat (p q : Rat) (hp : RB p) (hq : RB q) (h0 : q.num ≠ 0) (I : PH) (hT : TabI I) : FnSpec Tryd.prog 21 [ratV p, ratV q] I [] (fun v R' => v = redV (p / q) ∧ R' = []) := by
  have := Div_spec p.num p.den q.num q.den (rat_i64 hp).1 (rat_i64 hp).2 (rat_i64 hq).1 (rat_i64 hq).2 I hT
  unfold divV at this
  rw [if_pos ⟨hp.fok, hq.fok⟩, if_neg h0, Rat.num_divInt_den, Rat.num_divInt_den] at this
  exact this
theorem Less_rat (p q : Rat) (hp : RB p) (hq : RB q) (I : PH) : FnSpec Tryd.prog 14 [ratV p, ratV q] I [] (fun v R' => v = .bool (decide (p < q)) ∧ R' = []) := by
  have := Less_spec p.num p.den q.num q.den (rat_i64 hp).1 (rat_i64 hp).2 (rat_i64 hq).1 (rat_i64 hq).2 I
  rw [show decide (FOk p.num p.den ∧ FOk q.num q.den ∧ p.num * q.den < q.num * p.den) = decide (p < q) from decide_eq_decide.2 ⟨fun h => (Rat.lt_iff p q).2 h.2.2, fun h => ⟨hp.fok, hq.fok, (Rat.lt_iff p q).1 h⟩⟩] at this
  exact this
theorem redV_ok0 {q : Rat} (h : RB q) : redV q = .tuple #[.agg #[.int .i64 q.num, .int .i64 q.den], .int .i64 0] := redV_pos h
theorem redV_no0 {q : Rat} (h : ¬RB q) : redV q = .tuple #[.agg #[.int .i64 0, .int .i64 0], .int .i64 14] := redV_neg h
theorem tup_inj {x y z x' y' z' : Int} (h : Value.tuple #[.agg #[.int .i64 x, .int .i64 y], .int .i64 z] = .tuple #[.agg #[.int .i64 x', .int .i64 y'], .int .i64 z']) : x = x' ∧ y = y' ∧ z = z' := by
  simp only [Value.tuple.injEq, Array.mk.injEq, List.cons.injEq, Value.agg.injEq, Value.int.injEq, true_and, and_true] at h
  exact ⟨h.1.1, h.1.2, h.2⟩
theorem opV_tup {p q r : Rat} (hp : RB p) (hq : RB q) {x y z : Int} (h : opV p.num p.den q.num q.den r = .tuple #[.agg #[.int .i64 x, .int .i64 y], .int .i64 z]) : x = redN r ∧ y = redD r ∧ z = redE r := by
  rw [opV_rat hp hq] at h
  have := tup_inj h
  exact ⟨this.1.symm, this.2.1.symm, this.2.2.symm⟩
theorem laws_eq {a b d : Rat} (ha : RB a) (hab : RB (a * b)) {x y z x' y' z' : Int}
    (hl : opV a.num a.den (redN (b + d)) (redD (b + d)) (Rat.divInt a.num a.den * Rat.divInt (redN (b + d)) (redD (b + d))) = .tuple #[.agg #[.int .i64 x, .int .i64 y], .int .i64 z])
    (hr : opV (a * b).num (a * b).den (redN (a * d)) (redD (a * d)) (Rat.divInt (a * b).num (a * b).den + Rat.divInt (redN (a * d)) (redD (a * d))) = .tuple #[.agg #[.int .i64 x', .int .i64 y'], .int .i64 z'])
    (h1 : redE (b + d) = 0) (h2 : redE (a * d) = 0) : x = x' ∧ y = y' := by
  have k1 := redE_ok h1
  have k2 := redE_ok h2
  unfold redN redD at hl hr
  rw [if_pos k1, if_pos k1] at hl
  rw [if_pos k2, if_pos k2] at hr
  obtain ⟨e1, e2, _⟩ := opV_tup ha k1 hl
  obtain ⟨e3, e4, _⟩ := opV_tup hab k2 hr
  rw [Rat.num_divInt_den, Rat.num_divInt_den, Rat.mul_add] at e1 e2
  rw [Rat.num_divInt_den, Rat.num_divInt_den] at e3 e4
  exact ⟨e1.trans e3.symm, e2.trans e4.symm⟩
theorem Div_back (p q : Rat) (hp : RB p) (hq : RB q) (hm : RB (p * q)) (h0 : q.num ≠ 0) (I : PH) (hT : TabI I) : FnSpec Tryd.prog 21 [ratV (p * q), ratV q] I [] (fun v R' => v = .tuple #[.agg #[.int .i64 p.num, .int .i64 p.den], .int .i64 0] ∧ R' = []) := by
  have := Div_rat (p * q) q hm hq h0 I hT
  rw [Rat.mul_div_cancel (fun h => h0 (by rw [h]; rfl)), redV_ok0 hp] at this
  exact this
theorem Valid_zero (I : PH) : FnSpec Tryd.prog 17 [fracV 0 0] I [] (fun v R' => v = .bool false ∧ R' = []) := Valid_f (by unfold I64; omega) (by unfold I64; omega) (fun h => by have := h.1; omega) I
attribute [local irreducible] redN redD redE
theorem unstop {C : Cx} {e : Env} {I : PH} {R : List Res} {K : Act → World → Prop} (h : Nx C e I R K) : Nx C e I R (Stop K) := by unfold Stop; exact h
set_option maxHeartbeats 16000000 in
theorem laws_end (w : World) (F : Res) (b4 b5 b6 b13 b14 : Nat) (a b d : Rat) (mx my x y z x' y' z' : Int) (bm : Bool) (I : PH)
    (hB : FnSpec Tryd.prog 15 [ratV b, ratV d] I [] (fun v R' => v = redV (b + d) ∧ R' = []))
    (hLf : FnSpec Tryd.prog 18 [ratV a, fracV (redN (b + d)) (redD (b + d))] I [] (fun v R' => v = .tuple #[.agg #[.int .i64 x, .int .i64 y], .int .i64 z] ∧ R' = []))
    (hD : FnSpec Tryd.prog 18 [ratV a, ratV d] I [] (fun v R' => v = redV (a * d) ∧ R' = []))
    (hRt : FnSpec Tryd.prog 15 [fracV mx my, fracV (redN (a * d)) (redD (a * d))] I [] (fun v R' => v = .tuple #[.agg #[.int .i64 x', .int .i64 y'], .int .i64 z'] ∧ R' = []))
    (hV : FnSpec Tryd.prog 17 [fracV mx my] I [] (fun v R' => v = .bool bm ∧ R' = []))
    (hAw : FnSpec Tryd.prog 11 [] I [] (fun v R' => v = .bool true ∧ R' = []))
    (key : bm = true → redE (b + d) = 0 → redE (a * d) = 0 → x = x' ∧ y = y') :
    Nx ⟨Tryd.prog, 162, w⟩ [(4, .pointer (some ⟨b4, 0, none⟩)), (5, .pointer (some ⟨b5, 0, none⟩)), (6, .pointer (some ⟨b6, 0, none⟩)), (13, .pointer (some ⟨b13, 0, none⟩)), (14, .pointer (some ⟨b14, 0, none⟩))] I [Blk b4 26 [.int .i64 a.num, .int .i64 a.den], Blk b5 26 [.int .i64 b.num, .int .i64 b.den], Blk b6 26 [.int .i64 d.num, .int .i64 d.den], Blk b13 26 [.int .i64 mx, .int .i64 my], Blk b14 26 [.int .i64 mx, .int .i64 my], F] (Code.wp Tryd.prog (cr (cr (cr (cr (cr (cr (cr (cr (cr (cr (cr (bodyOf Tryd.f7)))))))))))) (fnPost Tryd.prog Tryd.f7 I F w (fun v R' => v = Value.bool true ∧ R' = []))) := by
  repeat' first
    | ((with_reducible refine Nx.is_wp ?_); first | refine Nx.wo ?_ | refine Nx.p_dec rfl rfl (fun hc => ?_) (fun hc => ?_) | refine Nx.p_bool rfl rfl (fun hc => ?_) (fun hc => ?_))
    | ((first | refine Nx.at_op rfl rfl ?_ | refine Nx.m_loud rfl rfl rfl ?_ | refine Nx.at_do rfl rfl rfl rfl ?_ | refine Nx.m_loud_do rfl rfl rfl rfl rfl ?_); first | refine Nx.opr rfl rfl ?_ | refine Nx.callv rfl rfl rfl (by kernel_rfl) rfl hB ?_ | refine Nx.callv rfl rfl rfl (by kernel_rfl) rfl hLf ?_ | refine Nx.callv rfl rfl rfl (by kernel_rfl) rfl hD ?_ | refine Nx.callv rfl rfl rfl (by kernel_rfl) rfl hRt ?_ | refine Nx.callv rfl rfl rfl (by kernel_rfl) rfl hV ?_ | refine Nx.callv rfl rfl rfl (by kernel_rfl) rfl hAw ?_ | refine Nx.binr rfl rfl (neq_frac _ _ _ _) rfl ?_ | refine Nx.binr rfl rfl (eql_frac _ _ _ _) rfl ?_ | refine Nx.so ?_ | refine Nx.sb (fun bx => ?_) | refine Nx.sa (fun A2 c2 => ?_))
    | ((with_reducible refine Nx.is_at ?_); first | refine Nx.a ?_ | ((fail_if_success refine Nx.at_do rfl rfl rfl rfl ?_); first | refine Nx.at_dec_t rfl rfl rfl rfl (by first | assumption | omega) ?_ | refine Nx.at_dec_f rfl rfl rfl rfl (by first | assumption | omega) ?_ | refine Nx.at_split rfl rfl rfl rfl (fun hc => ?_) (fun hc => ?_) | refine Nx.at_splitb rfl rfl rfl rfl (fun hc => ?_) (fun hc => ?_)))
    | ((with_reducible refine Nx.is_mix ?_); first | refine Nx.m ?_ | ((fail_if_success refine Nx.m_quiet_do rfl rfl rfl rfl rfl rfl rfl ?_ ?_); (fail_if_success refine Nx.m_loud_do rfl rfl rfl rfl rfl ?_); first | refine Nx.m_dec_t rfl rfl rfl rfl (by first | assumption | omega) ?_ | refine Nx.m_dec_f rfl rfl rfl rfl (by first | assumption | omega) ?_ | refine Nx.m_split rfl rfl rfl rfl (fun hc => ?_) (fun hc => ?_) | refine Nx.m_splitb rfl rfl rfl rfl (fun hc => ?_) (fun hc => ?_)))
    | ((fail_if_success (with_reducible refine Nx.is_at ?_)); (fail_if_success (with_reducible refine Nx.is_wp ?_)); (fail_if_success (with_reducible refine Nx.is_mix ?_)); first | refine Nx.ex ?_)
  all_goals first
    | exact Nx.ret_fn rfl [] ⟨rfl, rfl⟩ (by (first | done | (repeat first | exact Ent.refl _ | exact Ent.nil _ | refine Ent.pick 0 rfl ?_ | refine Ent.pick 1 rfl ?_ | refine Ent.pick 2 rfl ?_ | refine Ent.pick 3 rfl ?_ | refine Ent.pick 4 rfl ?_ | refine Ent.pick 5 rfl ?_ | refine Ent.pick 6 rfl ?_ | refine Ent.pick 7 rfl ?_ | refine Ent.pick 8 rfl ?_ | refine Ent.pick 9 rfl ?_ | refine Ent.pick 10 rfl ?_ | refine Ent.pick 11 rfl ?_ | refine Ent.pick 12 rfl ?_ | refine Ent.pick 13 rfl ?_ | refine Ent.pick 14 rfl ?_)))
    | (exfalso; clear hB hLf hD hRt hV hAw; have := key (by cases bm <;> simp_all) (by omega) (by omega); omega)
    | trace_state
set_option maxHeartbeats 16000000 in
theorem laws_mid (w : World) (F : Res) (b4 b5 b6 : Nat) (a b d : Rat) (ha : RB a) (hb : RB b) (hd : RB d) (I : PH) (hT : TabI I) (hN : TenI I) :
    Nx ⟨Tryd.prog, 162, w⟩ [(4, .pointer (some ⟨b4, 0, none⟩)), (5, .pointer (some ⟨b5, 0, none⟩)), (6, .pointer (some ⟨b6, 0, none⟩))] I [Blk b4 26 [.int .i64 a.num, .int .i64 a.den], Blk b5 26 [.int .i64 b.num, .int .i64 b.den], Blk b6 26 [.int .i64 d.num, .int .i64 d.den], F] (Code.wp Tryd.prog (cr (cr (cr (cr (cr (cr (cr (bodyOf Tryd.f7)))))))) (fnPost Tryd.prog Tryd.f7 I F w (fun v R' => v = Value.bool true ∧ R' = []))) := by
  have hM1 := Mul_rat a b ha hb I hT
  have hM2 := Mul_rat b a hb ha I hT
  rw [Rat.mul_comm b a] at hM2
  have hB := Add_rat b d hb hd I hT
  have hD := Mul_rat a d ha hd I hT
  have hAw := awake_spec I hT hN
  obtain ⟨x, y, z, hl⟩ := opV_form a.num a.den (redN (b + d)) (redD (b + d)) (Rat.divInt a.num a.den * Rat.divInt (redN (b + d)) (redD (b + d)))
  have hLf := Mul_spec a.num a.den (redN (b + d)) (redD (b + d)) (rat_i64 ha).1 (rat_i64 ha).2 (red_i64 _).1 (red_i64 _).2 I hT
  rw [hl] at hLf
  by_cases hm : RB (a * b)
  · rw [redV_ok0 hm] at hM1 hM2
    obtain ⟨x', y', z', hr⟩ := opV_form (a * b).num (a * b).den (redN (a * d)) (redD (a * d)) (Rat.divInt (a * b).num (a * b).den + Rat.divInt (redN (a * d)) (redD (a * d)))
    have hRt := Add_spec (a * b).num (a * b).den (redN (a * d)) (redD (a * d)) (rat_i64 hm).1 (rat_i64 hm).2 (red_i64 _).1 (red_i64 _).2 I hT
    rw [hr] at hRt
    have hV := Valid_t hm.fok I
    have key := fun (_ : true = true) h1 h2 => laws_eq ha hm hl hr h1 h2
    have hend := fun b13 b14 => laws_end w F b4 b5 b6 b13 b14 a b d (a * b).num (a * b).den x y z x' y' z' true I hB hLf hD hRt hV hAw key
    clear hl hr key hB hLf hD hRt hV hAw
    repeat' first
      | ((with_reducible refine Nx.is_wp ?_); first | refine Nx.p_stopr 19 rfl ?_ | refine Nx.wo ?_ | refine Nx.p_dec rfl rfl (fun hc => ?_) (fun hc => ?_) | refine Nx.p_bool rfl rfl (fun hc => ?_) (fun hc => ?_))
      | ((first | refine Nx.at_op rfl rfl ?_ | refine Nx.m_loud rfl rfl rfl ?_ | refine Nx.at_do rfl rfl rfl rfl ?_ | refine Nx.m_loud_do rfl rfl rfl rfl rfl ?_); first | refine Nx.opr rfl rfl ?_ | refine Nx.callv rfl rfl rfl (by kernel_rfl) rfl hM1 ?_ | refine Nx.callv rfl rfl rfl (by kernel_rfl) rfl hM2 ?_ | refine Nx.callv rfl rfl rfl (by kernel_rfl) rfl (Div_back a b ha hb hm (by assumption) I hT) ?_ | refine Nx.binr rfl rfl (neq_frac _ _ _ _) rfl ?_ | refine Nx.binr rfl rfl (eql_frac _ _ _ _) rfl ?_ | refine Nx.so ?_ | refine Nx.sb (fun bx => ?_) | refine Nx.sa (fun A2 c2 => ?_))
      | ((with_reducible refine Nx.is_at ?_); first | refine Nx.a ?_ | ((fail_if_success refine Nx.at_do rfl rfl rfl rfl ?_); first | refine Nx.at_dec_t rfl rfl rfl rfl (by first | assumption | omega) ?_ | refine Nx.at_dec_f rfl rfl rfl rfl (by first | assumption | omega) ?_ | refine Nx.at_split rfl rfl rfl rfl (fun hc => ?_) (fun hc => ?_) | refine Nx.at_splitb rfl rfl rfl rfl (fun hc => ?_) (fun hc => ?_)))
      | ((with_reducible refine Nx.is_mix ?_); first | refine Nx.m ?_ | ((fail_if_success refine Nx.m_quiet_do rfl rfl rfl rfl rfl rfl rfl ?_ ?_); (fail_if_success refine Nx.m_loud_do rfl rfl rfl rfl rfl ?_); first | refine Nx.m_dec_t rfl rfl rfl rfl (by first | assumption | omega) ?_ | refine Nx.m_dec_f rfl rfl rfl rfl (by first | assumption | omega) ?_ | refine Nx.m_split rfl rfl rfl rfl (fun hc => ?_) (fun hc => ?_) | refine Nx.m_splitb rfl rfl rfl rfl (fun hc => ?_) (fun hc => ?_)))
      | ((fail_if_success (with_reducible refine Nx.is_at ?_)); (fail_if_success (with_reducible refine Nx.is_wp ?_)); (fail_if_success (with_reducible refine Nx.is_mix ?_)); first | refine Nx.ex ?_)
    · exact unstop (Nx.weak (by exact ⟨rfl, rfl, rfl, rfl, rfl, trivial⟩) (by (first | done | (repeat first | exact Ent.refl _ | exact Ent.nil _ | refine Ent.pick 0 rfl ?_ | refine Ent.pick 1 rfl ?_ | refine Ent.pick 2 rfl ?_ | refine Ent.pick 3 rfl ?_ | refine Ent.pick 4 rfl ?_ | refine Ent.pick 5 rfl ?_ | refine Ent.pick 6 rfl ?_ | refine Ent.pick 7 rfl ?_ | refine Ent.pick 8 rfl ?_ | refine Ent.pick 9 rfl ?_ | refine Ent.pick 10 rfl ?_ | refine Ent.pick 11 rfl ?_ | refine Ent.pick 12 rfl ?_ | refine Ent.pick 13 rfl ?_ | refine Ent.pick 14 rfl ?_))) (hend _ _))
    · exact unstop (Nx.weak (by exact ⟨rfl, rfl, rfl, rfl, rfl, trivial⟩) (by (first | done | (repeat first | exact Ent.refl _ | exact Ent.nil _ | refine Ent.pick 0 rfl ?_ | refine Ent.pick 1 rfl ?_ | refine Ent.pick 2 rfl ?_ | refine Ent.pick 3 rfl ?_ | refine Ent.pick 4 rfl ?_ | refine Ent.pick 5 rfl ?_ | refine Ent.pick 6 rfl ?_ | refine Ent.pick 7 rfl ?_ | refine Ent.pick 8 rfl ?_ | refine Ent.pick 9 rfl ?_ | refine Ent.pick 10 rfl ?_ | refine Ent.pick 11 rfl ?_ | refine Ent.pick 12 rfl ?_ | refine Ent.pick 13 rfl ?_ | refine Ent.pick 14 rfl ?_))) (hend _ _))
  · rw [redV_no0 hm] at hM1 hM2
    obtain ⟨x', y', z', hr⟩ := opV_form 0 0 (redN (a * d)) (redD (a * d)) (Rat.divInt 0 0 + Rat.divInt (redN (a * d)) (redD (a * d)))
    have hRt := Add_spec 0 0 (redN (a * d)) (redD (a * d)) (by unfold I64; omega) (by unfold I64; omega) (red_i64 _).1 (red_i64 _).2 I hT
    rw [hr] at hRt
    have hV := Valid_zero I
    have hend := fun b13 b14 => laws_end w F b4 b5 b6 b13 b14 a b d 0 0 x y z x' y' z' false I hB hLf hD hRt hV hAw (by intro h; cases h)
    clear hl hr hB hLf hD hRt hV hAw
    repeat' first
      | ((with_reducible refine Nx.is_wp ?_); first | refine Nx.p_stopr 19 rfl ?_ | refine Nx.wo ?_ | refine Nx.p_dec rfl rfl (fun hc => ?_) (fun hc => ?_) | refine Nx.p_bool rfl rfl (fun hc => ?_) (fun hc => ?_))
      | ((first | refine Nx.at_op rfl rfl ?_ | refine Nx.m_loud rfl rfl rfl ?_ | refine Nx.at_do rfl rfl rfl rfl ?_ | refine Nx.m_loud_do rfl rfl rfl rfl rfl ?_); first | refine Nx.opr rfl rfl ?_ | refine Nx.callv rfl rfl rfl (by kernel_rfl) rfl hM1 ?_ | refine Nx.callv rfl rfl rfl (by kernel_rfl) rfl hM2 ?_ | refine Nx.binr rfl rfl (neq_frac _ _ _ _) rfl ?_ | refine Nx.binr rfl rfl (eql_frac _ _ _ _) rfl ?_ | refine Nx.so ?_ | refine Nx.sb (fun bx => ?_) | refine Nx.sa (fun A2 c2 => ?_))
      | ((with_reducible refine Nx.is_at ?_); first | refine Nx.a ?_ | ((fail_if_success refine Nx.at_do rfl rfl rfl rfl ?_); first | refine Nx.at_dec_t rfl rfl rfl rfl (by first | assumption | omega) ?_ | refine Nx.at_dec_f rfl rfl rfl rfl (by first | assumption | omega) ?_ | refine Nx.at_split rfl rfl rfl rfl (fun hc => ?_) (fun hc => ?_) | refine Nx.at_splitb rfl rfl rfl rfl (fun hc => ?_) (fun hc => ?_)))
      | ((with_reducible refine Nx.is_mix ?_); first | refine Nx.m ?_ | ((fail_if_success refine Nx.m_quiet_do rfl rfl rfl rfl rfl rfl rfl ?_ ?_); (fail_if_success refine Nx.m_loud_do rfl rfl rfl rfl rfl ?_); first | refine Nx.m_dec_t rfl rfl rfl rfl (by first | assumption | omega) ?_ | refine Nx.m_dec_f rfl rfl rfl rfl (by first | assumption | omega) ?_ | refine Nx.m_split rfl rfl rfl rfl (fun hc => ?_) (fun hc => ?_) | refine Nx.m_splitb rfl rfl rfl rfl (fun hc => ?_) (fun hc => ?_)))
      | ((fail_if_success (with_reducible refine Nx.is_at ?_)); (fail_if_success (with_reducible refine Nx.is_wp ?_)); (fail_if_success (with_reducible refine Nx.is_mix ?_)); first | refine Nx.ex ?_)
    exact unstop (Nx.weak (by exact ⟨rfl, rfl, rfl, rfl, rfl, trivial⟩) (by (first | done | (repeat first | exact Ent.refl _ | exact Ent.nil _ | refine Ent.pick 0 rfl ?_ | refine Ent.pick 1 rfl ?_ | refine Ent.pick 2 rfl ?_ | refine Ent.pick 3 rfl ?_ | refine Ent.pick 4 rfl ?_ | refine Ent.pick 5 rfl ?_ | refine Ent.pick 6 rfl ?_ | refine Ent.pick 7 rfl ?_ | refine Ent.pick 8 rfl ?_ | refine Ent.pick 9 rfl ?_ | refine Ent.pick 10 rfl ?_ | refine Ent.pick 11 rfl ?_ | refine Ent.pick 12 rfl ?_ | refine Ent.pick 13 rfl ?_ | refine Ent.pick 14 rfl ?_))) (hend _ _))
set_option maxHeartbeats 16000000 in
theorem FractionLaws_spec (A : Option Addr) (c : Nat) (l : List Int) (I : PH) (hl : SliceOf (fun x : Int => Value.int .u8 x) I A c l) (hx : ∀ x ∈ l, 0 ≤ x ∧ x < 256) (hT : TabI I) (hN : TenI I) :
    FnSpec Tryd.prog 7 [.slice A l.length c] I [] (fun v R' => v = .bool true ∧ R' = []) := by
  obtain ⟨hL, hNew⟩ := New_codes A c l I hl hx
  have hAw := awake_spec I hT hN
  refine FnSpec.enterP Tryd.func7 rfl Tryd.ntmps7 rfl fun w F => ?_
  repeat' first
    | ((with_reducible refine Nx.is_wp ?_); first | refine Nx.p_stopr 3 rfl ?_ | refine Nx.wo ?_ | refine Nx.p_dec rfl rfl (fun hc => ?_) (fun hc => ?_) | refine Nx.p_bool rfl rfl (fun hc => ?_) (fun hc => ?_))
    | ((first | refine Nx.at_op rfl rfl ?_ | refine Nx.m_loud rfl rfl rfl ?_ | refine Nx.at_do rfl rfl rfl rfl ?_ | refine Nx.m_loud_do rfl rfl rfl rfl rfl ?_); first | refine Nx.opr rfl rfl ?_ | refine Nx.call rfl rfl rfl (by kernel_rfl) rfl hNew (Ent.refl _) ?_; rintro _ _ ⟨bc, rfl, rfl⟩ | refine Nx.call rfl rfl rfl (by kernel_rfl) rfl (small_spec bc A c _ _ I hL (by first | assumption | exact Nat.zero_le _)) (by (first | done | (repeat first | exact Ent.refl _ | exact Ent.nil _ | refine Ent.pick 0 rfl ?_ | refine Ent.pick 1 rfl ?_ | refine Ent.pick 2 rfl ?_ | refine Ent.pick 3 rfl ?_ | refine Ent.pick 4 rfl ?_ | refine Ent.pick 5 rfl ?_ | refine Ent.pick 6 rfl ?_ | refine Ent.pick 7 rfl ?_ | refine Ent.pick 8 rfl ?_ | refine Ent.pick 9 rfl ?_ | refine Ent.pick 10 rfl ?_ | refine Ent.pick 11 rfl ?_ | refine Ent.pick 12 rfl ?_ | refine Ent.pick 13 rfl ?_ | refine Ent.pick 14 rfl ?_))) ?_; rintro _ _ ⟨d, k, rfl, hd, hk, rfl⟩ | refine Nx.so ?_ | refine Nx.sb (fun bx => ?_) | refine Nx.sa (fun A2 c2 => ?_))
    | ((with_reducible refine Nx.is_at ?_); first | refine Nx.a ?_ | ((fail_if_success refine Nx.at_do rfl rfl rfl rfl ?_); first | refine Nx.at_dec_t rfl rfl rfl rfl (by first | assumption | omega) ?_ | refine Nx.at_dec_f rfl rfl rfl rfl (by first | assumption | omega) ?_ | refine Nx.at_split rfl rfl rfl rfl (fun hc => ?_) (fun hc => ?_) | refine Nx.at_splitb rfl rfl rfl rfl (fun hc => ?_) (fun hc => ?_)))
    | ((with_reducible refine Nx.is_mix ?_); first | refine Nx.m ?_ | ((fail_if_success refine Nx.m_quiet_do rfl rfl rfl rfl rfl rfl rfl ?_ ?_); (fail_if_success refine Nx.m_loud_do rfl rfl rfl rfl rfl ?_); first | refine Nx.m_dec_t rfl rfl rfl rfl (by first | assumption | omega) ?_ | refine Nx.m_dec_f rfl rfl rfl rfl (by first | assumption | omega) ?_ | refine Nx.m_split rfl rfl rfl rfl (fun hc => ?_) (fun hc => ?_) | refine Nx.m_splitb rfl rfl rfl rfl (fun hc => ?_) (fun hc => ?_)))
    | ((fail_if_success (with_reducible refine Nx.is_at ?_)); (fail_if_success (with_reducible refine Nx.is_wp ?_)); (fail_if_success (with_reducible refine Nx.is_mix ?_)); first | refine Nx.ex ?_)
  rename_i a k1 ha hk1 b k2 hb hk2 b4 b5
  refine Nx.weak (e' := [(6, .pointer (some ⟨bx, 0, none⟩)), (5, .pointer (some ⟨b5, 0, none⟩)), (4, .pointer (some ⟨b4, 0, none⟩))]) (R' := [Blk bx 26 [.int .i64 d.num, .int .i64 d.den], Blk b5 26 [.int .i64 b.num, .int .i64 b.den], Blk b4 26 [.int .i64 a.num, .int .i64 a.den], F]) ⟨rfl, rfl, rfl, trivial⟩ (by (first | done | (repeat first | exact Ent.refl _ | exact Ent.nil _ | refine Ent.pick 0 rfl ?_ | refine Ent.pick 1 rfl ?_ | refine Ent.pick 2 rfl ?_ | refine Ent.pick 3 rfl ?_ | refine Ent.pick 4 rfl ?_ | refine Ent.pick 5 rfl ?_ | refine Ent.pick 6 rfl ?_ | refine Ent.pick 7 rfl ?_ | refine Ent.pick 8 rfl ?_ | refine Ent.pick 9 rfl ?_ | refine Ent.pick 10 rfl ?_ | refine Ent.pick 11 rfl ?_ | refine Ent.pick 12 rfl ?_ | refine Ent.pick 13 rfl ?_ | refine Ent.pick 14 rfl ?_))) ?_
  have hend := laws_mid w F b4 b5 bx a b d ha hb hd I hT hN
  have hA1 := Add_rat a b ha hb I hT
  have hA2 := Add_rat b a hb ha I hT
  rw [Rat.add_comm b a] at hA2
  by_cases hab : RB (a + b)
  · have hS := Sub_rat (a + b) b hab hb I hT
    rw [Rat.add_sub_cancel, redV_ok0 ha] at hS
    rw [redV_ok0 hab] at hA1 hA2
    refine Nx.p_go rfl ?_
    repeat' first
      | ((with_reducible refine Nx.is_wp ?_); first | refine Nx.p_stopr 11 rfl ?_ | refine Nx.wo ?_ | refine Nx.p_dec rfl rfl (fun hc => ?_) (fun hc => ?_) | refine Nx.p_bool rfl rfl (fun hc => ?_) (fun hc => ?_))
      | ((first | refine Nx.at_op rfl rfl ?_ | refine Nx.m_loud rfl rfl rfl ?_ | refine Nx.at_do rfl rfl rfl rfl ?_ | refine Nx.m_loud_do rfl rfl rfl rfl rfl ?_); first | refine Nx.opr rfl rfl ?_ | refine Nx.callv rfl rfl rfl (by kernel_rfl) rfl hA1 ?_ | refine Nx.callv rfl rfl rfl (by kernel_rfl) rfl hA2 ?_ | refine Nx.callv rfl rfl rfl (by kernel_rfl) rfl hS ?_ | refine Nx.binr rfl rfl (neq_frac _ _ _ _) rfl ?_ | refine Nx.so ?_ | refine Nx.sb (fun bx => ?_) | refine Nx.sa (fun A2 c2 => ?_))
      | ((with_reducible refine Nx.is_at ?_); first | refine Nx.a ?_ | ((fail_if_success refine Nx.at_do rfl rfl rfl rfl ?_); first | refine Nx.at_dec_t rfl rfl rfl rfl (by first | assumption | omega) ?_ | refine Nx.at_dec_f rfl rfl rfl rfl (by first | assumption | omega) ?_ | refine Nx.at_split rfl rfl rfl rfl (fun hc => ?_) (fun hc => ?_) | refine Nx.at_splitb rfl rfl rfl rfl (fun hc => ?_) (fun hc => ?_)))
      | ((with_reducible refine Nx.is_mix ?_); first | refine Nx.m ?_ | ((fail_if_success refine Nx.m_quiet_do rfl rfl rfl rfl rfl rfl rfl ?_ ?_); (fail_if_success refine Nx.m_loud_do rfl rfl rfl rfl rfl ?_); first | refine Nx.m_dec_t rfl rfl rfl rfl (by first | assumption | omega) ?_ | refine Nx.m_dec_f rfl rfl rfl rfl (by first | assumption | omega) ?_ | refine Nx.m_split rfl rfl rfl rfl (fun hc => ?_) (fun hc => ?_) | refine Nx.m_splitb rfl rfl rfl rfl (fun hc => ?_) (fun hc => ?_)))
      | ((fail_if_success (with_reducible refine Nx.is_at ?_)); (fail_if_success (with_reducible refine Nx.is_wp ?_)); (fail_if_success (with_reducible refine Nx.is_mix ?_)); first | refine Nx.ex ?_)
    exact unstop (Nx.weak (by exact ⟨rfl, rfl, rfl, trivial⟩) (by (first | done | (repeat first | exact Ent.refl _ | exact Ent.nil _ | refine Ent.pick 0 rfl ?_ | refine Ent.pick 1 rfl ?_ | refine Ent.pick 2 rfl ?_ | refine Ent.pick 3 rfl ?_ | refine Ent.pick 4 rfl ?_ | refine Ent.pick 5 rfl ?_ | refine Ent.pick 6 rfl ?_ | refine Ent.pick 7 rfl ?_ | refine Ent.pick 8 rfl ?_ | refine Ent.pick 9 rfl ?_ | refine Ent.pick 10 rfl ?_ | refine Ent.pick 11 rfl ?_ | refine Ent.pick 12 rfl ?_ | refine Ent.pick 13 rfl ?_ | refine Ent.pick 14 rfl ?_))) hend)
  · rw [redV_no0 hab] at hA1 hA2
    refine Nx.p_go rfl ?_
    repeat' first
      | ((with_reducible refine Nx.is_wp ?_); first | refine Nx.p_stopr 11 rfl ?_ | refine Nx.wo ?_ | refine Nx.p_dec rfl rfl (fun hc => ?_) (fun hc => ?_) | refine Nx.p_bool rfl rfl (fun hc => ?_) (fun hc => ?_))
      | ((first | refine Nx.at_op rfl rfl ?_ | refine Nx.m_loud rfl rfl rfl ?_ | refine Nx.at_do rfl rfl rfl rfl ?_ | refine Nx.m_loud_do rfl rfl rfl rfl rfl ?_); first | refine Nx.opr rfl rfl ?_ | refine Nx.callv rfl rfl rfl (by kernel_rfl) rfl hA1 ?_ | refine Nx.callv rfl rfl rfl (by kernel_rfl) rfl hA2 ?_ | refine Nx.binr rfl rfl (neq_frac _ _ _ _) rfl ?_ | refine Nx.so ?_ | refine Nx.sb (fun bx => ?_) | refine Nx.sa (fun A2 c2 => ?_))
      | ((with_reducible refine Nx.is_at ?_); first | refine Nx.a ?_ | ((fail_if_success refine Nx.at_do rfl rfl rfl rfl ?_); first | refine Nx.at_dec_t rfl rfl rfl rfl (by first | assumption | omega) ?_ | refine Nx.at_dec_f rfl rfl rfl rfl (by first | assumption | omega) ?_ | refine Nx.at_split rfl rfl rfl rfl (fun hc => ?_) (fun hc => ?_) | refine Nx.at_splitb rfl rfl rfl rfl (fun hc => ?_) (fun hc => ?_)))
      | ((with_reducible refine Nx.is_mix ?_); first | refine Nx.m ?_ | ((fail_if_success refine Nx.m_quiet_do rfl rfl rfl rfl rfl rfl rfl ?_ ?_); (fail_if_success refine Nx.m_loud_do rfl rfl rfl rfl rfl ?_); first | refine Nx.m_dec_t rfl rfl rfl rfl (by first | assumption | omega) ?_ | refine Nx.m_dec_f rfl rfl rfl rfl (by first | assumption | omega) ?_ | refine Nx.m_split rfl rfl rfl rfl (fun hc => ?_) (fun hc => ?_) | refine Nx.m_splitb rfl rfl rfl rfl (fun hc => ?_) (fun hc => ?_)))
      | ((fail_if_success (with_reducible refine Nx.is_at ?_)); (fail_if_success (with_reducible refine Nx.is_wp ?_)); (fail_if_success (with_reducible refine Nx.is_mix ?_)); first | refine Nx.ex ?_)
    exact unstop (Nx.weak (by exact ⟨rfl, rfl, rfl, trivial⟩) (by (first | done | (repeat first | exact Ent.refl _ | exact Ent.nil _ | refine Ent.pick 0 rfl ?_ | refine Ent.pick 1 rfl ?_ | refine Ent.pick 2 rfl ?_ | refine Ent.pick 3 rfl ?_ | refine Ent.pick 4 rfl ?_ | refine Ent.pick 5 rfl ?_ | refine Ent.pick 6 rfl ?_ | refine Ent.pick 7 rfl ?_ | refine Ent.pick 8 rfl ?_ | refine Ent.pick 9 rfl ?_ | refine Ent.pick 10 rfl ?_ | refine Ent.pick 11 rfl ?_ | refine Ent.pick 12 rfl ?_ | refine Ent.pick 13 rfl ?_ | refine Ent.pick 14 rfl ?_))) hend)
end Go.Proofs.YtlhnhjconifacaaDoor
