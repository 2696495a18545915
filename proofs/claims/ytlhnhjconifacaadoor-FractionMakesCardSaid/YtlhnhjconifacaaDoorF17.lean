/- Contracts of functions of the given program, and lemmas about plain lists and numbers: what the laws of this seat lean on. -/
import Derived.Test.YtlhnhjconifacaaDoorF16
namespace Go.Proofs.YtlhnhjconifacaaDoor
open Go.Eng
attribute [local irreducible] opK wpList Code.wp Exit.then Exit.inBlock fnPost bodyPost Nx Calls Oper.wp Rd Rds Wr Ent Stars Blk Again Vec FnSpec wpMix QRun Stop Upto wpAt
theorem Valid_t {n d : Int} (h : FOk n d) (I : PH) : FnSpec Tryd.prog 17 [fracV n d] I [] (fun v R' => v = .bool true ∧ R' = []) := by
  have := Valid_spec n d (by have := h.2.2.1; have := h.2.2.2.1; unfold I64; omega) (by have := h.1; have := h.2.1; unfold I64; omega) I
  rw [decide_eq_true h] at this; exact this
theorem Valid_f {n d : Int} (hn : I64 n) (hd : I64 d) (h : ¬FOk n d) (I : PH) : FnSpec Tryd.prog 17 [fracV n d] I [] (fun v R' => v = .bool false ∧ R' = []) := by
  have := Valid_spec n d hn hd I
  rw [decide_eq_false h] at this; exact this
theorem rValid_t {n d : Int} (h : FOk n d) (I : PH) : FnSpec Tryd.prog 43 [fracV n d] I [] (fun v R' => v = .bool true ∧ R' = []) := by
  have := rValid_spec n d (by have := h.2.2.1; have := h.2.2.2.1; unfold I64; omega) (by have := h.1; have := h.2.1; unfold I64; omega) I
  rw [decide_eq_true h] at this; exact this
theorem rValid_f {n d : Int} (hn : I64 n) (hd : I64 d) (h : ¬FOk n d) (I : PH) : FnSpec Tryd.prog 43 [fracV n d] I [] (fun v R' => v = .bool false ∧ R' = []) := by
  have := rValid_spec n d hn hd I
  rw [decide_eq_false h] at this; exact this
theorem prod_bd {a b : Int} (ha : a.natAbs ≤ 1152921504606846976) (hb : b.natAbs ≤ 1152921504606846976) : (a * b).natAbs ≤ 1329227995784915872903807060280344576 := by
  rw [Int.natAbs_mul]
  exact Nat.mul_le_mul ha hb
theorem fok_abs {n d : Int} (h : FOk n d) : n.natAbs ≤ 1152921504606846976 ∧ d.natAbs ≤ 1152921504606846976 ∧ 0 < d := by
  obtain ⟨h1, h2, h3, h4, _⟩ := h
  omega
theorem fok_i64 {n d : Int} (h : FOk n d) : I64 n ∧ I64 d := by
  obtain ⟨h1, h2, h3, h4, _⟩ := h
  unfold I64; omega
theorem crossed_spec (n d m e : Int) (hn : I64 n) (hd : I64 d) (hm : I64 m) (he : I64 e) (I : PH) : FnSpec Tryd.prog 29 [fracV n d, fracV m e] I [] (fun v R' => v = .tuple #[wideV (n * e), wideV (m * d)] ∧ R' = []) := by
  refine FnSpec.enterP Tryd.func29 rfl Tryd.ntmps29 rfl fun w F => ?_
  repeat' first
    | ((with_reducible refine Nx.is_wp ?_); first | refine Nx.wo ?_ | refine Nx.p_drawF (id := 1) rfl [0, 1, 3, 4, 7, 8, 10, 11, 2, 5, 6, 9] [2, 5, 6, 9] [12, 13, 14, 15] _ rfl rfl (by kernel_rfl) (by kernel_rfl) rfl (by repeat first | exact PanicOk.fn | refine PanicOk.then_ ?_ | refine PanicOk.inB ?_) (Ent.refl _) ?_ | refine Nx.p_dec rfl rfl (fun hc => ?_) (fun hc => ?_) | refine Nx.p_bool rfl rfl (fun hc => ?_) (fun hc => ?_))
    | ((first | refine Nx.at_op rfl rfl ?_ | refine Nx.m_loud rfl rfl rfl ?_ | refine Nx.at_do rfl rfl rfl rfl ?_ | refine Nx.m_loud_do rfl rfl rfl rfl rfl ?_); first | refine Nx.opr rfl rfl ?_ | refine Nx.callv rfl rfl rfl (by kernel_rfl) rfl (whole_spec _ hn I) ?_ | refine Nx.callv rfl rfl rfl (by kernel_rfl) rfl (whole_spec _ hd I) ?_ | refine Nx.callv rfl rfl rfl (by kernel_rfl) rfl (whole_spec _ hm I) ?_ | refine Nx.callv rfl rfl rfl (by kernel_rfl) rfl (whole_spec _ he I) ?_ | refine Nx.callv rfl rfl rfl (by kernel_rfl) rfl (times_spec _ _ I) ?_ | refine Nx.so ?_ | refine Nx.sb (fun bx => ?_) | refine Nx.sa (fun A2 c2 => ?_))
    | ((with_reducible refine Nx.is_at ?_); first | refine Nx.a ?_ | ((fail_if_success refine Nx.at_do rfl rfl rfl rfl ?_); first | refine Nx.at_dec_t rfl rfl rfl rfl (by first | assumption | omega) ?_ | refine Nx.at_dec_f rfl rfl rfl rfl (by first | assumption | omega) ?_ | refine Nx.at_split rfl rfl rfl rfl (fun hc => ?_) (fun hc => ?_) | refine Nx.at_splitb rfl rfl rfl rfl (fun hc => ?_) (fun hc => ?_)))
    | ((with_reducible refine Nx.is_mix ?_); first | refine Nx.m ?_ | ((fail_if_success refine Nx.m_quiet_do rfl rfl rfl rfl rfl rfl rfl ?_ ?_); (fail_if_success refine Nx.m_loud_do rfl rfl rfl rfl rfl ?_); first | refine Nx.m_dec_t rfl rfl rfl rfl (by first | assumption | omega) ?_ | refine Nx.m_dec_f rfl rfl rfl rfl (by first | assumption | omega) ?_ | refine Nx.m_split rfl rfl rfl rfl (fun hc => ?_) (fun hc => ?_) | refine Nx.m_splitb rfl rfl rfl rfl (fun hc => ?_) (fun hc => ?_)))
    | ((fail_if_success (with_reducible refine Nx.is_at ?_)); (fail_if_success (with_reducible refine Nx.is_wp ?_)); (fail_if_success (with_reducible refine Nx.is_mix ?_)); first | refine Nx.ex ?_)
  exact Nx.ret2 rfl (ROne.cell 1 rfl rfl rfl rfl rfl) (ROne.cell 0 rfl rfl rfl rfl rfl) [] ⟨rfl, rfl⟩ (by (first | done | (repeat first | exact Ent.refl _ | exact Ent.nil _ | refine Ent.pick 0 rfl ?_ | refine Ent.pick 1 rfl ?_ | refine Ent.pick 2 rfl ?_ | refine Ent.pick 3 rfl ?_ | refine Ent.pick 4 rfl ?_ | refine Ent.pick 5 rfl ?_ | refine Ent.pick 6 rfl ?_ | refine Ent.pick 7 rfl ?_ | refine Ent.pick 8 rfl ?_ | refine Ent.pick 9 rfl ?_ | refine Ent.pick 10 rfl ?_ | refine Ent.pick 11 rfl ?_ | refine Ent.pick 12 rfl ?_ | refine Ent.pick 13 rfl ?_ | refine Ent.pick 14 rfl ?_)))
theorem combine_spec (n d m e : Int) (hn : I64 n) (hd : I64 d) (hm : I64 m) (he : I64 e) (I : PH) (hT : TabI I) (fo : FuncId) (f : Int → Int → Int) (hcal : callable Tryd.prog fo = true)
    (hf : ∀ a b, FnSpec Tryd.prog fo [wideV a, wideV b] I [] (fun v R' => v = wideV (f a b) ∧ R' = []))
    (hbd : ∀ a b : Int, a.natAbs ≤ 1329227995784915872903807060280344576 → b.natAbs ≤ 1329227995784915872903807060280344576 → (f a b).natAbs < H127) :
    FnSpec Tryd.prog 32 [fracV n d, fracV m e, .func (.func fo) #[] #[]] I [] (fun v R' => v = opV n d m e (Rat.divInt (f (n * e) (m * d)) (d * e)) ∧ R' = []) := by
  unfold opV
  by_cases h1 : FOk n d
  · by_cases h2 : FOk m e
    · obtain ⟨a1, a2, a3⟩ := fok_abs h1
      obtain ⟨b1, b2, b3⟩ := fok_abs h2
      rw [if_pos ⟨h1, h2⟩]
      have hde := prod_bd a2 b2
      have hpos : 0 < d * e := Int.mul_pos a3 b3
      refine FnSpec.enterP Tryd.func32 rfl Tryd.ntmps32 rfl fun w F => ?_
      repeat' first
        | ((with_reducible refine Nx.is_wp ?_); first | refine Nx.wo ?_ | refine Nx.p_drawF (id := 3) rfl [0, 1, 2, 7, 8, 10, 11, 3, 4, 5, 6, 9, 12, 13, 14, 15, 16] [3, 6, 9, 12, 13, 14] [17, 18] _ rfl rfl (by kernel_rfl) (by kernel_rfl) rfl (by repeat first | exact PanicOk.fn | refine PanicOk.then_ ?_ | refine PanicOk.inB ?_) (Ent.refl _) ?_ | refine Nx.p_dec rfl rfl (fun hc => ?_) (fun hc => ?_) | refine Nx.p_bool rfl rfl (fun hc => ?_) (fun hc => ?_))
        | ((first | refine Nx.at_op rfl rfl ?_ | refine Nx.m_loud rfl rfl rfl ?_ | refine Nx.at_do rfl rfl rfl rfl ?_ | refine Nx.m_loud_do rfl rfl rfl rfl rfl ?_); first | refine Nx.opr rfl rfl ?_ | refine Nx.callv rfl rfl rfl (by kernel_rfl) rfl (Valid_t h1 I) ?_ | refine Nx.callv rfl rfl rfl (by kernel_rfl) rfl (Valid_t h2 I) ?_ | refine Nx.callv rfl rfl rfl (by kernel_rfl) rfl (crossed_spec n d m e hn hd hm he I) ?_ | refine Nx.callv rfl rfl rfl (by kernel_rfl) rfl (whole_spec _ hd I) ?_ | refine Nx.callv rfl rfl rfl (by kernel_rfl) rfl (whole_spec _ he I) ?_ | refine Nx.callv rfl rfl rfl (by kernel_rfl) rfl (times_spec _ _ I) ?_ | refine Nx.callv rfl rfl rfl (by kernel_rfl) rfl (Reduced_spec _ _ (hbd _ _ (prod_bd a1 b2) (prod_bd b1 a2)) (by omega) (by unfold H127; omega) I hT) ?_ | refine Nx.callv rfl rfl rfl hcal rfl (hf _ _) ?_ | refine Nx.so ?_ | refine Nx.sb (fun bx => ?_) | refine Nx.sa (fun A2 c2 => ?_))
        | ((with_reducible refine Nx.is_at ?_); first | refine Nx.a ?_ | ((fail_if_success refine Nx.at_do rfl rfl rfl rfl ?_); first | refine Nx.at_dec_t rfl rfl rfl rfl (by first | assumption | omega) ?_ | refine Nx.at_dec_f rfl rfl rfl rfl (by first | assumption | omega) ?_ | refine Nx.at_split rfl rfl rfl rfl (fun hc => ?_) (fun hc => ?_) | refine Nx.at_splitb rfl rfl rfl rfl (fun hc => ?_) (fun hc => ?_)))
        | ((with_reducible refine Nx.is_mix ?_); first | refine Nx.m ?_ | ((fail_if_success refine Nx.m_quiet_do rfl rfl rfl rfl rfl rfl rfl ?_ ?_); (fail_if_success refine Nx.m_loud_do rfl rfl rfl rfl rfl ?_); first | refine Nx.m_dec_t rfl rfl rfl rfl (by first | assumption | omega) ?_ | refine Nx.m_dec_f rfl rfl rfl rfl (by first | assumption | omega) ?_ | refine Nx.m_split rfl rfl rfl rfl (fun hc => ?_) (fun hc => ?_) | refine Nx.m_splitb rfl rfl rfl rfl (fun hc => ?_) (fun hc => ?_)))
        | ((fail_if_success (with_reducible refine Nx.is_at ?_)); (fail_if_success (with_reducible refine Nx.is_wp ?_)); (fail_if_success (with_reducible refine Nx.is_mix ?_)); first | refine Nx.ex ?_)
      exact Nx.ret2 rfl (ROne.cell 0 rfl rfl rfl rfl rfl) (ROne.tmp rfl) [] ⟨rfl, rfl⟩ (by (first | done | (repeat first | exact Ent.refl _ | exact Ent.nil _ | refine Ent.pick 0 rfl ?_ | refine Ent.pick 1 rfl ?_ | refine Ent.pick 2 rfl ?_ | refine Ent.pick 3 rfl ?_ | refine Ent.pick 4 rfl ?_ | refine Ent.pick 5 rfl ?_ | refine Ent.pick 6 rfl ?_ | refine Ent.pick 7 rfl ?_ | refine Ent.pick 8 rfl ?_ | refine Ent.pick 9 rfl ?_ | refine Ent.pick 10 rfl ?_ | refine Ent.pick 11 rfl ?_ | refine Ent.pick 12 rfl ?_ | refine Ent.pick 13 rfl ?_ | refine Ent.pick 14 rfl ?_)))
    · rw [if_neg (fun h => h2 h.2)]
      refine FnSpec.enterP Tryd.func32 rfl Tryd.ntmps32 rfl fun w F => ?_
      repeat' first
        | ((with_reducible refine Nx.is_wp ?_); first | refine Nx.wo ?_ | refine Nx.p_dec rfl rfl (fun hc => ?_) (fun hc => ?_) | refine Nx.p_bool rfl rfl (fun hc => ?_) (fun hc => ?_))
        | ((first | refine Nx.at_op rfl rfl ?_ | refine Nx.m_loud rfl rfl rfl ?_ | refine Nx.at_do rfl rfl rfl rfl ?_ | refine Nx.m_loud_do rfl rfl rfl rfl rfl ?_); first | refine Nx.opr rfl rfl ?_ | refine Nx.callv rfl rfl rfl (by kernel_rfl) rfl (Valid_t h1 I) ?_ | refine Nx.callv rfl rfl rfl (by kernel_rfl) rfl (Valid_f hm he h2 I) ?_ | refine Nx.so ?_ | refine Nx.sb (fun bx => ?_) | refine Nx.sa (fun A2 c2 => ?_))
        | ((with_reducible refine Nx.is_at ?_); first | refine Nx.a ?_ | ((fail_if_success refine Nx.at_do rfl rfl rfl rfl ?_); first | refine Nx.at_dec_t rfl rfl rfl rfl (by first | assumption | omega) ?_ | refine Nx.at_dec_f rfl rfl rfl rfl (by first | assumption | omega) ?_ | refine Nx.at_split rfl rfl rfl rfl (fun hc => ?_) (fun hc => ?_) | refine Nx.at_splitb rfl rfl rfl rfl (fun hc => ?_) (fun hc => ?_)))
        | ((with_reducible refine Nx.is_mix ?_); first | refine Nx.m ?_ | ((fail_if_success refine Nx.m_quiet_do rfl rfl rfl rfl rfl rfl rfl ?_ ?_); (fail_if_success refine Nx.m_loud_do rfl rfl rfl rfl rfl ?_); first | refine Nx.m_dec_t rfl rfl rfl rfl (by first | assumption | omega) ?_ | refine Nx.m_dec_f rfl rfl rfl rfl (by first | assumption | omega) ?_ | refine Nx.m_split rfl rfl rfl rfl (fun hc => ?_) (fun hc => ?_) | refine Nx.m_splitb rfl rfl rfl rfl (fun hc => ?_) (fun hc => ?_)))
        | ((fail_if_success (with_reducible refine Nx.is_at ?_)); (fail_if_success (with_reducible refine Nx.is_wp ?_)); (fail_if_success (with_reducible refine Nx.is_mix ?_)); first | refine Nx.ex ?_)
      exact Nx.ret2 rfl (ROne.cell 0 rfl rfl rfl rfl rfl) (ROne.tmp rfl) [] ⟨rfl, rfl⟩ (by (first | done | (repeat first | exact Ent.refl _ | exact Ent.nil _ | refine Ent.pick 0 rfl ?_ | refine Ent.pick 1 rfl ?_ | refine Ent.pick 2 rfl ?_ | refine Ent.pick 3 rfl ?_ | refine Ent.pick 4 rfl ?_ | refine Ent.pick 5 rfl ?_ | refine Ent.pick 6 rfl ?_ | refine Ent.pick 7 rfl ?_ | refine Ent.pick 8 rfl ?_ | refine Ent.pick 9 rfl ?_ | refine Ent.pick 10 rfl ?_ | refine Ent.pick 11 rfl ?_ | refine Ent.pick 12 rfl ?_ | refine Ent.pick 13 rfl ?_ | refine Ent.pick 14 rfl ?_)))
  · rw [if_neg (fun h => h1 h.1)]
    refine FnSpec.enterP Tryd.func32 rfl Tryd.ntmps32 rfl fun w F => ?_
    repeat' first
      | ((with_reducible refine Nx.is_wp ?_); first | refine Nx.wo ?_ | refine Nx.p_dec rfl rfl (fun hc => ?_) (fun hc => ?_) | refine Nx.p_bool rfl rfl (fun hc => ?_) (fun hc => ?_))
      | ((first | refine Nx.at_op rfl rfl ?_ | refine Nx.m_loud rfl rfl rfl ?_ | refine Nx.at_do rfl rfl rfl rfl ?_ | refine Nx.m_loud_do rfl rfl rfl rfl rfl ?_); first | refine Nx.opr rfl rfl ?_ | refine Nx.callv rfl rfl rfl (by kernel_rfl) rfl (Valid_f hn hd h1 I) ?_ | refine Nx.so ?_ | refine Nx.sb (fun bx => ?_) | refine Nx.sa (fun A2 c2 => ?_))
      | ((with_reducible refine Nx.is_at ?_); first | refine Nx.a ?_ | ((fail_if_success refine Nx.at_do rfl rfl rfl rfl ?_); first | refine Nx.at_dec_t rfl rfl rfl rfl (by first | assumption | omega) ?_ | refine Nx.at_dec_f rfl rfl rfl rfl (by first | assumption | omega) ?_ | refine Nx.at_split rfl rfl rfl rfl (fun hc => ?_) (fun hc => ?_) | refine Nx.at_splitb rfl rfl rfl rfl (fun hc => ?_) (fun hc => ?_)))
      | ((with_reducible refine Nx.is_mix ?_); first | refine Nx.m ?_ | ((fail_if_success refine Nx.m_quiet_do rfl rfl rfl rfl rfl rfl rfl ?_ ?_); (fail_if_success refine Nx.m_loud_do rfl rfl rfl rfl rfl ?_); first | refine Nx.m_dec_t rfl rfl rfl rfl (by first | assumption | omega) ?_ | refine Nx.m_dec_f rfl rfl rfl rfl (by first | assumption | omega) ?_ | refine Nx.m_split rfl rfl rfl rfl (fun hc => ?_) (fun hc => ?_) | refine Nx.m_splitb rfl rfl rfl rfl (fun hc => ?_) (fun hc => ?_)))
      | ((fail_if_success (with_reducible refine Nx.is_at ?_)); (fail_if_success (with_reducible refine Nx.is_wp ?_)); (fail_if_success (with_reducible refine Nx.is_mix ?_)); first | refine Nx.ex ?_)
    exact Nx.ret2 rfl (ROne.cell 0 rfl rfl rfl rfl rfl) (ROne.tmp rfl) [] ⟨rfl, rfl⟩ (by (first | done | (repeat first | exact Ent.refl _ | exact Ent.nil _ | refine Ent.pick 0 rfl ?_ | refine Ent.pick 1 rfl ?_ | refine Ent.pick 2 rfl ?_ | refine Ent.pick 3 rfl ?_ | refine Ent.pick 4 rfl ?_ | refine Ent.pick 5 rfl ?_ | refine Ent.pick 6 rfl ?_ | refine Ent.pick 7 rfl ?_ | refine Ent.pick 8 rfl ?_ | refine Ent.pick 9 rfl ?_ | refine Ent.pick 10 rfl ?_ | refine Ent.pick 11 rfl ?_ | refine Ent.pick 12 rfl ?_ | refine Ent.pick 13 rfl ?_ | refine Ent.pick 14 rfl ?_)))
end Go.Proofs.YtlhnhjconifacaaDoor
