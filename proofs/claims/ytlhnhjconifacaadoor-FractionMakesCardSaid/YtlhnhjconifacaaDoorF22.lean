/- Contracts of functions of the given program, and lemmas about plain lists and numbers: what the laws of this seat lean on. -/
import Derived.Test.YtlhnhjconifacaaDoorF21
import Derived.Test.YtlhnhjconifacaaDoorF19
namespace Go.Proofs.YtlhnhjconifacaaDoor
open Go.Eng
attribute [local irreducible] opK wpList Code.wp Exit.then Exit.inBlock fnPost bodyPost Nx Calls Oper.wp Rd Rds Wr Ent Stars Blk Again Vec FnSpec wpMix QRun Stop Upto wpAt
/-- Whatever an operation returns, it is a fraction and an error. -/
theorem opV_form (n d m e : Int) (q : Rat) : ∃ x y z, opV n d m e q = .tuple #[.agg #[.int .i64 x, .int .i64 y], .int .i64 z] := by
  unfold opV
  split
  · exact ⟨_, _, _, rfl⟩
  · exact ⟨_, _, _, rfl⟩
theorem divV_form (n d m e : Int) : ∃ x y z, divV n d m e = .tuple #[.agg #[.int .i64 x, .int .i64 y], .int .i64 z] := by
  unfold divV
  split
  · split
    · exact ⟨_, _, _, rfl⟩
    · exact ⟨_, _, _, rfl⟩
  · exact ⟨_, _, _, rfl⟩
set_option maxHeartbeats 8000000 in
theorem agree_spec (n d m e : Int) (hn : I64 n) (hd : I64 d) (hm : I64 m) (he : I64 e) (I : PH) (hT : TabI I) (hN : TenI I) : FnSpec Tryd.prog 19 [fracV n d, fracV m e] I [] (fun v R' => v = .bool true ∧ R' = []) := by
  have a1 := Add_spec n d m e hn hd hm he I hT
  have b1 := rAdd_spec n d m e hn hd hm he I
  have a2 := Sub_spec n d m e hn hd hm he I hT
  have b2 := rSub_spec n d m e hn hd hm he I
  have a3 := Mul_spec n d m e hn hd hm he I hT
  have b3 := rMul_spec n d m e hn hd hm he I
  have a4 := Div_spec n d m e hn hd hm he I hT
  have b4 := rDiv_spec n d m e hn hd hm he I
  have a5 := Less_spec n d m e hn hd hm he I
  have b5 := rLess_spec n d m e hn hd hm he I
  have a6 := Floor_spec n d hn hd I
  have b6 := rFloor_spec n d hn hd I
  have a7 := Text_spec n d hn hd I hN
  have b7 := rText_spec n d hn hd I hN
  have a8 := Valid_spec n d hn hd I
  have b8 := rValid_spec n d hn hd I
  obtain ⟨x1, y1, z1, e1⟩ := opV_form n d m e (Rat.divInt n d + Rat.divInt m e)
  obtain ⟨x2, y2, z2, e2⟩ := opV_form n d m e (Rat.divInt n d - Rat.divInt m e)
  obtain ⟨x3, y3, z3, e3⟩ := opV_form n d m e (Rat.divInt n d * Rat.divInt m e)
  obtain ⟨x4, y4, z4, e4⟩ := divV_form n d m e
  rw [e1] at a1 b1
  rw [e2] at a2 b2
  rw [e3] at a3 b3
  rw [e4] at a4 b4
  generalize decide (FOk n d ∧ FOk m e ∧ n * e < m * d) = p5 at a5 b5
  generalize (if FOk n d then n / d else 0) = p6 at a6 b6
  generalize textL n d = p7 at a7 b7
  generalize decide (FOk n d) = p8 at a8 b8
  clear e1 e2 e3 e4 hT hN
  refine FnSpec.enterP Tryd.func19 rfl Tryd.ntmps19 rfl fun w F => ?_
  repeat' first
    | ((with_reducible refine Nx.is_wp ?_); first | refine Nx.wo ?_ | refine Nx.p_drawF (id := 11) rfl [0, 1, 2, 3, 4, 5, 6, 7, 8, 9, 10, 11, 12, 13, 14, 15, 16, 17, 18, 19, 20, 22, 23, 21, 24, 25, 26, 27, 28, 30, 29, 31, 32, 33, 34, 35, 37, 36, 38, 39, 40, 41, 42, 44, 43, 45, 46, 47, 48] [21, 24, 29, 31, 36, 38, 43, 45] [] _ rfl rfl (by kernel_rfl) (by kernel_rfl) rfl (by repeat first | exact PanicOk.fn | refine PanicOk.then_ ?_ | refine PanicOk.inB ?_) (Ent.refl _) ?_ | refine Nx.p_dec rfl rfl (fun hc => ?_) (fun hc => ?_) | refine Nx.p_bool rfl rfl (fun hc => ?_) (fun hc => ?_))
    | ((first | refine Nx.at_op rfl rfl ?_ | refine Nx.m_loud rfl rfl rfl ?_ | refine Nx.at_do rfl rfl rfl rfl ?_ | refine Nx.m_loud_do rfl rfl rfl rfl rfl ?_); first | refine Nx.opr rfl rfl ?_ | refine Nx.callv rfl rfl rfl (by kernel_rfl) rfl a1 ?_ | refine Nx.callv rfl rfl rfl (by kernel_rfl) rfl b1 ?_ | refine Nx.callv rfl rfl rfl (by kernel_rfl) rfl a2 ?_ | refine Nx.callv rfl rfl rfl (by kernel_rfl) rfl b2 ?_ | refine Nx.callv rfl rfl rfl (by kernel_rfl) rfl a3 ?_ | refine Nx.callv rfl rfl rfl (by kernel_rfl) rfl b3 ?_ | refine Nx.callv rfl rfl rfl (by kernel_rfl) rfl a4 ?_ | refine Nx.callv rfl rfl rfl (by kernel_rfl) rfl b4 ?_ | refine Nx.callv rfl rfl rfl (by kernel_rfl) rfl a5 ?_ | refine Nx.callv rfl rfl rfl (by kernel_rfl) rfl b5 ?_ | refine Nx.callv rfl rfl rfl (by kernel_rfl) rfl a6 ?_ | refine Nx.callv rfl rfl rfl (by kernel_rfl) rfl b6 ?_ | refine Nx.callv rfl rfl rfl (by kernel_rfl) rfl a7 ?_ | refine Nx.callv rfl rfl rfl (by kernel_rfl) rfl b7 ?_ | refine Nx.callv rfl rfl rfl (by kernel_rfl) rfl a8 ?_ | refine Nx.callv rfl rfl rfl (by kernel_rfl) rfl b8 ?_ | refine Nx.binr rfl rfl (neq_frac _ _ _ _) rfl ?_ | refine Nx.so ?_ | refine Nx.sb (fun bx => ?_) | refine Nx.sa (fun A2 c2 => ?_))
    | ((with_reducible refine Nx.is_at ?_); first | refine Nx.a ?_ | ((fail_if_success refine Nx.at_do rfl rfl rfl rfl ?_); first | refine Nx.at_dec_t rfl rfl rfl rfl (by first | assumption | omega) ?_ | refine Nx.at_dec_f rfl rfl rfl rfl (by first | assumption | omega) ?_ | refine Nx.at_split rfl rfl rfl rfl (fun hc => ?_) (fun hc => ?_) | refine Nx.at_splitb rfl rfl rfl rfl (fun hc => ?_) (fun hc => ?_)))
    | ((with_reducible refine Nx.is_mix ?_); first | refine Nx.m_quiet rfl rfl rfl rfl rfl (by first | exact QRun.opr rfl | exact QRun.binr rfl rfl (eql_frac _ _ _ _) | exact QRun.binr rfl rfl (eq_true_run (run_booleq Tryd.underlying4 _ _) (beq_self_eq_true _)) | exact QRun.binr rfl rfl (eq_true_run run_streq (beq_self_eq_true _))) ?_ | refine Nx.m_quiet_do rfl rfl rfl rfl rfl rfl rfl (by first | exact QRun.opr rfl | exact QRun.binr rfl rfl (eql_frac _ _ _ _) | exact QRun.binr rfl rfl (eq_true_run (run_booleq Tryd.underlying4 _ _) (beq_self_eq_true _)) | exact QRun.binr rfl rfl (eq_true_run run_streq (beq_self_eq_true _))) ?_ | refine Nx.m ?_ | ((fail_if_success refine Nx.m_quiet_do rfl rfl rfl rfl rfl rfl rfl ?_ ?_); (fail_if_success refine Nx.m_loud_do rfl rfl rfl rfl rfl ?_); first | refine Nx.m_dec_t rfl rfl rfl rfl (by first | assumption | omega) ?_ | refine Nx.m_dec_f rfl rfl rfl rfl (by first | assumption | omega) ?_ | refine Nx.m_split rfl rfl rfl rfl (fun hc => ?_) (fun hc => ?_) | refine Nx.m_splitb rfl rfl rfl rfl (fun hc => ?_) (fun hc => ?_)))
    | ((fail_if_success (with_reducible refine Nx.is_at ?_)); (fail_if_success (with_reducible refine Nx.is_wp ?_)); (fail_if_success (with_reducible refine Nx.is_mix ?_)); first | refine Nx.ex ?_)
  · exact Nx.ret_fn rfl [] ⟨by rw [beq_self_eq_true], rfl⟩ (by (first | done | (repeat first | exact Ent.refl _ | exact Ent.nil _ | refine Ent.pick 0 rfl ?_ | refine Ent.pick 1 rfl ?_ | refine Ent.pick 2 rfl ?_ | refine Ent.pick 3 rfl ?_ | refine Ent.pick 4 rfl ?_ | refine Ent.pick 5 rfl ?_ | refine Ent.pick 6 rfl ?_ | refine Ent.pick 7 rfl ?_ | refine Ent.pick 8 rfl ?_ | refine Ent.pick 9 rfl ?_ | refine Ent.pick 10 rfl ?_ | refine Ent.pick 11 rfl ?_ | refine Ent.pick 12 rfl ?_ | refine Ent.pick 13 rfl ?_ | refine Ent.pick 14 rfl ?_)))
  · exfalso
    simp at hc
  · exact absurd rfl hc
end Go.Proofs.YtlhnhjconifacaaDoor
