/- Contracts of functions of the given program, and lemmas about plain lists and numbers: what the laws of this seat lean on. -/
import Derived.Test.YtlhnhjconifacaaDoorF17
import Derived.Test.YtlhnhjconifacaaDoorEngT
import Derived.Shelf.Strconv.Itoa3
namespace Go.Proofs.YtlhnhjconifacaaDoor
def ito_ren : Go.Shelf.Ren := ⟨fun | 171 => 54 | 243 => 67 | 246 => 71 | 283 => 72 | 284 => 73 | 285 => 74 | 286 => 75 | 129 => 70 | 317 => 76 | 318 => 77 | 319 => 78 | 320 => 79 | 337 => 80 | 338 => 69 | n => n, fun | 3 => 3 | 9 => 9 | 2 => 2 | 4 => 4 | 171 => 80 | 0 => 0 | 53 => 45 | 37 => 32 | 5 => 5 | 173 => 82 | 212 => 85 | 51 => 86 | 20 => 20 | 213 => 87 | 46 => 65 | 232 => 91 | 233 => 79 | n => n, fun | 17 => 1 | 18 => 2 | 19 => 0 | n => n⟩
theorem ito : Go.Proofs.LaysM.n171 Tryd.prog ito_ren where
  mixed := by kernel_rfl
  f129 := Tryd.func70.trans (congrArg some (by kernel_rfl))
  f171 := Tryd.func54.trans (congrArg some (by kernel_rfl))
  f243 := Tryd.func67.trans (congrArg some (by kernel_rfl))
  f246 := Tryd.func71.trans (congrArg some (by kernel_rfl))
  f283 := Tryd.func72.trans (congrArg some (by kernel_rfl))
  f284 := Tryd.func73.trans (congrArg some (by kernel_rfl))
  f285 := Tryd.func74.trans (congrArg some (by kernel_rfl))
  f286 := Tryd.func75.trans (congrArg some (by kernel_rfl))
  f317 := Tryd.func76.trans (congrArg some (by kernel_rfl))
  f318 := Tryd.func77.trans (congrArg some (by kernel_rfl))
  f319 := Tryd.func78.trans (congrArg some (by kernel_rfl))
  f320 := Tryd.func79.trans (congrArg some (by kernel_rfl))
  f337 := Tryd.func80.trans (congrArg some (by kernel_rfl))
  f338 := Tryd.func69.trans (congrArg some (by kernel_rfl))
  t0 := Tryd.underlying0
  a0 := Tryd.isAgg0
  z0 := Tryd.sizeOf0
  v0 := Tryd.zeroValue0
  t2 := Tryd.underlying2
  a2 := Tryd.isAgg2
  z2 := Tryd.sizeOf2
  v2 := Tryd.zeroValue2
  t3 := Tryd.underlying3
  a3 := Tryd.isAgg3
  z3 := Tryd.sizeOf3
  v3 := Tryd.zeroValue3
  t4 := Tryd.underlying4
  a4 := Tryd.isAgg4
  z4 := Tryd.sizeOf4
  v4 := Tryd.zeroValue4
  t5 := Tryd.underlying5
  a5 := Tryd.isAgg5
  z5 := Tryd.sizeOf5
  v5 := Tryd.zeroValue5
  t9 := Tryd.underlying9
  a9 := Tryd.isAgg9
  z9 := Tryd.sizeOf9
  v9 := Tryd.zeroValue9
  t20 := Tryd.underlying20
  a20 := Tryd.isAgg20
  z20 := Tryd.sizeOf20
  v20 := Tryd.zeroValue20
  t37 := Tryd.underlying32
  a37 := Tryd.isAgg32
  z37 := Tryd.sizeOf32
  v37 := Tryd.zeroValue32
  t46 := Tryd.underlying65
  a46 := Tryd.isAgg65
  z46 := Tryd.sizeOf65
  v46 := Tryd.zeroValue65
  t51 := Tryd.underlying86
  a51 := Tryd.isAgg86
  z51 := Tryd.sizeOf86
  v51 := Tryd.zeroValue86
  t53 := Tryd.underlying45
  a53 := Tryd.isAgg45
  z53 := Tryd.sizeOf45
  v53 := Tryd.zeroValue45
  t171 := Tryd.underlying80
  a171 := Tryd.isAgg80
  z171 := Tryd.sizeOf80
  v171 := Tryd.zeroValue80
  t173 := Tryd.underlying82
  a173 := Tryd.isAgg82
  z173 := Tryd.sizeOf82
  v173 := Tryd.zeroValue82
  t212 := Tryd.underlying85
  a212 := Tryd.isAgg85
  z212 := Tryd.sizeOf85
  v212 := Tryd.zeroValue85
  t213 := Tryd.underlying87
  a213 := Tryd.isAgg87
  z213 := Tryd.sizeOf87
  t232 := Tryd.underlying91
  a232 := Tryd.isAgg91
  z232 := Tryd.sizeOf91
  v232 := Tryd.zeroValue91
  t233 := Tryd.underlying79
  a233 := Tryd.isAgg79
  z233 := Tryd.sizeOf79
  v233 := Tryd.zeroValue79
  g17 := by kernel_rfl
  g18 := by kernel_rfl
  g19 := by kernel_rfl
  i0 := by kernel_rfl
  i2 := by kernel_rfl
  i3 := by kernel_rfl
  i4 := by kernel_rfl
  i5 := by kernel_rfl
  i9 := by kernel_rfl
  i20 := by kernel_rfl
  i37 := by kernel_rfl
  i46 := by kernel_rfl
  i51 := by kernel_rfl
  i53 := by kernel_rfl
  i171 := by kernel_rfl
  i173 := by kernel_rfl
  i212 := by kernel_rfl
  i232 := by kernel_rfl
  i233 := by kernel_rfl
  m17 := by kernel_rfl
  m18 := by kernel_rfl
  m19 := by kernel_rfl
end Go.Proofs.YtlhnhjconifacaaDoor
namespace Go.Proofs.YtlhnhjconifacaaDoor
open Go.Eng
attribute [local irreducible] opK wpList Code.wp Exit.then Exit.inBlock fnPost bodyPost Nx Calls Oper.wp Rd Rds Wr Ent Stars Blk Again Vec FnSpec wpMix QRun Stop Upto wpAt
/-- What memory that nobody writes says about the table of powers of ten. -/
def TenI (I : PH) : Prop := ∀ (W w : World) (R : List Res), St W I R w → Lib.TabIs Tryd.prog w "internal/strconv.uint64pow10" .u64 Lib.pow10Tab
theorem Itoa_spec (n : Int) (hn : I64 n) (I : PH) (hT : TenI I) :
    FnSpec Tryd.prog 54 [.int .i64 n] I [] (fun v R' => v = .string ⟨(Lib.itoa n).toArray⟩ ∧ R' = []) :=
  FnSpec.of_grow fun w W R hw => Any.strconv_Itoa ito n hn.1 hn.2 w (hT W w R hw)
theorem itoa_le {n : Int} (hn : I64 n) : (Lib.itoa n).length ≤ 21 := Lib.itoa_length_le n hn.1 hn.2
/-- A fraction as a text. -/
def textL (n d : Int) : List UInt8 := if FOk n d then (if d = 1 then Lib.itoa n else Lib.itoa n ++ [47] ++ Lib.itoa d) else [63]
attribute [local irreducible] Lib.itoa
theorem Text_spec (n d : Int) (hn : I64 n) (hd : I64 d) (I : PH) (hT : TenI I) : FnSpec Tryd.prog 26 [fracV n d] I [] (fun v R' => v = .string ⟨(textL n d).toArray⟩ ∧ R' = []) := by
  have l1 := itoa_le hn
  have l2 := itoa_le hd
  unfold textL
  by_cases h1 : FOk n d
  · rw [if_pos h1]
    by_cases h2 : d = 1
    · rw [if_pos h2]
      refine FnSpec.enterP Tryd.func26 rfl Tryd.ntmps26 rfl fun w F => ?_
      repeat' first
        | ((with_reducible refine Nx.is_wp ?_); first | refine Nx.wo ?_ | refine Nx.p_dec rfl rfl (fun hc => ?_) (fun hc => ?_) | refine Nx.p_bool rfl rfl (fun hc => ?_) (fun hc => ?_))
        | ((first | refine Nx.at_op rfl rfl ?_ | refine Nx.m_loud rfl rfl rfl ?_ | refine Nx.at_do rfl rfl rfl rfl ?_ | refine Nx.m_loud_do rfl rfl rfl rfl rfl ?_); first | refine Nx.opr rfl rfl ?_ | refine Nx.callv rfl rfl rfl (by kernel_rfl) rfl (Valid_t h1 I) ?_ | refine Nx.callv rfl rfl rfl (by kernel_rfl) rfl (Itoa_spec n hn I hT) ?_ | refine Nx.so ?_ | refine Nx.sb (fun bx => ?_) | refine Nx.sa (fun A2 c2 => ?_))
        | ((with_reducible refine Nx.is_at ?_); first | refine Nx.a ?_ | ((fail_if_success refine Nx.at_do rfl rfl rfl rfl ?_); first | refine Nx.at_dec_t rfl rfl rfl rfl (by first | assumption | omega) ?_ | refine Nx.at_dec_f rfl rfl rfl rfl (by first | assumption | omega) ?_ | refine Nx.at_split rfl rfl rfl rfl (fun hc => ?_) (fun hc => ?_) | refine Nx.at_splitb rfl rfl rfl rfl (fun hc => ?_) (fun hc => ?_)))
        | ((with_reducible refine Nx.is_mix ?_); first | refine Nx.m ?_ | ((fail_if_success refine Nx.m_quiet_do rfl rfl rfl rfl rfl rfl rfl ?_ ?_); (fail_if_success refine Nx.m_loud_do rfl rfl rfl rfl rfl ?_); first | refine Nx.m_dec_t rfl rfl rfl rfl (by first | assumption | omega) ?_ | refine Nx.m_dec_f rfl rfl rfl rfl (by first | assumption | omega) ?_ | refine Nx.m_split rfl rfl rfl rfl (fun hc => ?_) (fun hc => ?_) | refine Nx.m_splitb rfl rfl rfl rfl (fun hc => ?_) (fun hc => ?_)))
        | ((fail_if_success (with_reducible refine Nx.is_at ?_)); (fail_if_success (with_reducible refine Nx.is_wp ?_)); (fail_if_success (with_reducible refine Nx.is_mix ?_)); first | refine Nx.ex ?_)
      exact Nx.ret_fn rfl [] ⟨rfl, rfl⟩ (by (first | done | (repeat first | exact Ent.refl _ | exact Ent.nil _ | refine Ent.pick 0 rfl ?_ | refine Ent.pick 1 rfl ?_ | refine Ent.pick 2 rfl ?_ | refine Ent.pick 3 rfl ?_ | refine Ent.pick 4 rfl ?_ | refine Ent.pick 5 rfl ?_ | refine Ent.pick 6 rfl ?_ | refine Ent.pick 7 rfl ?_ | refine Ent.pick 8 rfl ?_ | refine Ent.pick 9 rfl ?_ | refine Ent.pick 10 rfl ?_ | refine Ent.pick 11 rfl ?_ | refine Ent.pick 12 rfl ?_ | refine Ent.pick 13 rfl ?_ | refine Ent.pick 14 rfl ?_)))
    · rw [if_neg h2]
      refine FnSpec.enterP Tryd.func26 rfl Tryd.ntmps26 rfl fun w F => ?_
      repeat' first
        | ((with_reducible refine Nx.is_wp ?_); first | refine Nx.wo ?_ | refine Nx.p_drawF (id := 5) rfl [0, 1, 4, 5, 2, 3, 6, 7, 8] [2, 6] [] _ rfl rfl (by kernel_rfl) (by kernel_rfl) rfl (by repeat first | exact PanicOk.fn | refine PanicOk.then_ ?_ | refine PanicOk.inB ?_) (Ent.refl _) ?_ | refine Nx.p_dec rfl rfl (fun hc => ?_) (fun hc => ?_) | refine Nx.p_bool rfl rfl (fun hc => ?_) (fun hc => ?_))
        | ((first | refine Nx.at_op rfl rfl ?_ | refine Nx.m_loud rfl rfl rfl ?_ | refine Nx.at_do rfl rfl rfl rfl ?_ | refine Nx.m_loud_do rfl rfl rfl rfl rfl ?_); first | refine Nx.opr rfl rfl ?_ | refine Nx.callv rfl rfl rfl (by kernel_rfl) rfl (Valid_t h1 I) ?_ | refine Nx.callv rfl rfl rfl (by kernel_rfl) rfl (Itoa_spec n hn I hT) ?_ | refine Nx.callv rfl rfl rfl (by kernel_rfl) rfl (Itoa_spec d hd I hT) ?_ | refine Nx.so ?_ | refine Nx.sb (fun bx => ?_) | refine Nx.sa (fun A2 c2 => ?_))
        | ((with_reducible refine Nx.is_at ?_); first | refine Nx.a ?_ | ((fail_if_success refine Nx.at_do rfl rfl rfl rfl ?_); first | refine Nx.at_dec_t rfl rfl rfl rfl (by first | assumption | omega) ?_ | refine Nx.at_dec_f rfl rfl rfl rfl (by first | assumption | omega) ?_ | refine Nx.at_split rfl rfl rfl rfl (fun hc => ?_) (fun hc => ?_) | refine Nx.at_splitb rfl rfl rfl rfl (fun hc => ?_) (fun hc => ?_)))
        | ((with_reducible refine Nx.is_mix ?_); first | refine Nx.m_quiet rfl rfl rfl rfl rfl (by first | exact QRun.opr rfl | exact QRun.binr rfl rfl (run_cat (b := [47]) ⟨by omega, by decide⟩) | exact QRun.binr rfl rfl (run_cat (b := Lib.itoa d) ⟨by rw [List.length_append, List.length_singleton]; omega, by omega⟩)) ?_ | refine Nx.m_quiet_do rfl rfl rfl rfl rfl rfl rfl (by first | exact QRun.opr rfl | exact QRun.binr rfl rfl (run_cat (b := [47]) ⟨by omega, by decide⟩) | exact QRun.binr rfl rfl (run_cat (b := Lib.itoa d) ⟨by rw [List.length_append, List.length_singleton]; omega, by omega⟩)) ?_ | refine Nx.m ?_ | ((fail_if_success refine Nx.m_quiet_do rfl rfl rfl rfl rfl rfl rfl ?_ ?_); (fail_if_success refine Nx.m_loud_do rfl rfl rfl rfl rfl ?_); first | refine Nx.m_dec_t rfl rfl rfl rfl (by first | assumption | omega) ?_ | refine Nx.m_dec_f rfl rfl rfl rfl (by first | assumption | omega) ?_ | refine Nx.m_split rfl rfl rfl rfl (fun hc => ?_) (fun hc => ?_) | refine Nx.m_splitb rfl rfl rfl rfl (fun hc => ?_) (fun hc => ?_)))
        | ((fail_if_success (with_reducible refine Nx.is_at ?_)); (fail_if_success (with_reducible refine Nx.is_wp ?_)); (fail_if_success (with_reducible refine Nx.is_mix ?_)); first | refine Nx.ex ?_)
      exact Nx.ret_fn rfl [] ⟨rfl, rfl⟩ (by (first | done | (repeat first | exact Ent.refl _ | exact Ent.nil _ | refine Ent.pick 0 rfl ?_ | refine Ent.pick 1 rfl ?_ | refine Ent.pick 2 rfl ?_ | refine Ent.pick 3 rfl ?_ | refine Ent.pick 4 rfl ?_ | refine Ent.pick 5 rfl ?_ | refine Ent.pick 6 rfl ?_ | refine Ent.pick 7 rfl ?_ | refine Ent.pick 8 rfl ?_ | refine Ent.pick 9 rfl ?_ | refine Ent.pick 10 rfl ?_ | refine Ent.pick 11 rfl ?_ | refine Ent.pick 12 rfl ?_ | refine Ent.pick 13 rfl ?_ | refine Ent.pick 14 rfl ?_)))
  · rw [if_neg h1]
    refine FnSpec.enterP Tryd.func26 rfl Tryd.ntmps26 rfl fun w F => ?_
    repeat' first
      | ((with_reducible refine Nx.is_wp ?_); first | refine Nx.wo ?_ | refine Nx.p_dec rfl rfl (fun hc => ?_) (fun hc => ?_) | refine Nx.p_bool rfl rfl (fun hc => ?_) (fun hc => ?_))
      | ((first | refine Nx.at_op rfl rfl ?_ | refine Nx.m_loud rfl rfl rfl ?_ | refine Nx.at_do rfl rfl rfl rfl ?_ | refine Nx.m_loud_do rfl rfl rfl rfl rfl ?_); first | refine Nx.opr rfl rfl ?_ | refine Nx.callv rfl rfl rfl (by kernel_rfl) rfl (Valid_f hn hd h1 I) ?_ | refine Nx.so ?_ | refine Nx.sb (fun bx => ?_) | refine Nx.sa (fun A2 c2 => ?_))
      | ((with_reducible refine Nx.is_at ?_); first | refine Nx.a ?_ | ((fail_if_success refine Nx.at_do rfl rfl rfl rfl ?_); first | refine Nx.at_dec_t rfl rfl rfl rfl (by first | assumption | omega) ?_ | refine Nx.at_dec_f rfl rfl rfl rfl (by first | assumption | omega) ?_ | refine Nx.at_split rfl rfl rfl rfl (fun hc => ?_) (fun hc => ?_) | refine Nx.at_splitb rfl rfl rfl rfl (fun hc => ?_) (fun hc => ?_)))
      | ((with_reducible refine Nx.is_mix ?_); first | refine Nx.m ?_ | ((fail_if_success refine Nx.m_quiet_do rfl rfl rfl rfl rfl rfl rfl ?_ ?_); (fail_if_success refine Nx.m_loud_do rfl rfl rfl rfl rfl ?_); first | refine Nx.m_dec_t rfl rfl rfl rfl (by first | assumption | omega) ?_ | refine Nx.m_dec_f rfl rfl rfl rfl (by first | assumption | omega) ?_ | refine Nx.m_split rfl rfl rfl rfl (fun hc => ?_) (fun hc => ?_) | refine Nx.m_splitb rfl rfl rfl rfl (fun hc => ?_) (fun hc => ?_)))
      | ((fail_if_success (with_reducible refine Nx.is_at ?_)); (fail_if_success (with_reducible refine Nx.is_wp ?_)); (fail_if_success (with_reducible refine Nx.is_mix ?_)); first | refine Nx.ex ?_)
    exact Nx.ret_fn rfl [] ⟨rfl, rfl⟩ (by (first | done | (repeat first | exact Ent.refl _ | exact Ent.nil _ | refine Ent.pick 0 rfl ?_ | refine Ent.pick 1 rfl ?_ | refine Ent.pick 2 rfl ?_ | refine Ent.pick 3 rfl ?_ | refine Ent.pick 4 rfl ?_ | refine Ent.pick 5 rfl ?_ | refine Ent.pick 6 rfl ?_ | refine Ent.pick 7 rfl ?_ | refine Ent.pick 8 rfl ?_ | refine Ent.pick 9 rfl ?_ | refine Ent.pick 10 rfl ?_ | refine Ent.pick 11 rfl ?_ | refine Ent.pick 12 rfl ?_ | refine Ent.pick 13 rfl ?_ | refine Ent.pick 14 rfl ?_)))
theorem rText_spec (n d : Int) (hn : I64 n) (hd : I64 d) (I : PH) (hT : TenI I) : FnSpec Tryd.prog 42 [fracV n d] I [] (fun v R' => v = .string ⟨(textL n d).toArray⟩ ∧ R' = []) := by
  have l1 := itoa_le hn
  have l2 := itoa_le hd
  unfold textL
  by_cases h1 : FOk n d
  · rw [if_pos h1]
    by_cases h2 : d = 1
    · rw [if_pos h2]
      refine FnSpec.enterP Tryd.func42 rfl Tryd.ntmps42 rfl fun w F => ?_
      repeat' first
        | ((with_reducible refine Nx.is_wp ?_); first | refine Nx.wo ?_ | refine Nx.p_dec rfl rfl (fun hc => ?_) (fun hc => ?_) | refine Nx.p_bool rfl rfl (fun hc => ?_) (fun hc => ?_))
        | ((first | refine Nx.at_op rfl rfl ?_ | refine Nx.m_loud rfl rfl rfl ?_ | refine Nx.at_do rfl rfl rfl rfl ?_ | refine Nx.m_loud_do rfl rfl rfl rfl rfl ?_); first | refine Nx.opr rfl rfl ?_ | refine Nx.callv rfl rfl rfl (by kernel_rfl) rfl (rValid_t h1 I) ?_ | refine Nx.callv rfl rfl rfl (by kernel_rfl) rfl (Itoa_spec n hn I hT) ?_ | refine Nx.so ?_ | refine Nx.sb (fun bx => ?_) | refine Nx.sa (fun A2 c2 => ?_))
        | ((with_reducible refine Nx.is_at ?_); first | refine Nx.a ?_ | ((fail_if_success refine Nx.at_do rfl rfl rfl rfl ?_); first | refine Nx.at_dec_t rfl rfl rfl rfl (by first | assumption | omega) ?_ | refine Nx.at_dec_f rfl rfl rfl rfl (by first | assumption | omega) ?_ | refine Nx.at_split rfl rfl rfl rfl (fun hc => ?_) (fun hc => ?_) | refine Nx.at_splitb rfl rfl rfl rfl (fun hc => ?_) (fun hc => ?_)))
        | ((with_reducible refine Nx.is_mix ?_); first | refine Nx.m ?_ | ((fail_if_success refine Nx.m_quiet_do rfl rfl rfl rfl rfl rfl rfl ?_ ?_); (fail_if_success refine Nx.m_loud_do rfl rfl rfl rfl rfl ?_); first | refine Nx.m_dec_t rfl rfl rfl rfl (by first | assumption | omega) ?_ | refine Nx.m_dec_f rfl rfl rfl rfl (by first | assumption | omega) ?_ | refine Nx.m_split rfl rfl rfl rfl (fun hc => ?_) (fun hc => ?_) | refine Nx.m_splitb rfl rfl rfl rfl (fun hc => ?_) (fun hc => ?_)))
        | ((fail_if_success (with_reducible refine Nx.is_at ?_)); (fail_if_success (with_reducible refine Nx.is_wp ?_)); (fail_if_success (with_reducible refine Nx.is_mix ?_)); first | refine Nx.ex ?_)
      exact Nx.ret_fn rfl [] ⟨rfl, rfl⟩ (by (first | done | (repeat first | exact Ent.refl _ | exact Ent.nil _ | refine Ent.pick 0 rfl ?_ | refine Ent.pick 1 rfl ?_ | refine Ent.pick 2 rfl ?_ | refine Ent.pick 3 rfl ?_ | refine Ent.pick 4 rfl ?_ | refine Ent.pick 5 rfl ?_ | refine Ent.pick 6 rfl ?_ | refine Ent.pick 7 rfl ?_ | refine Ent.pick 8 rfl ?_ | refine Ent.pick 9 rfl ?_ | refine Ent.pick 10 rfl ?_ | refine Ent.pick 11 rfl ?_ | refine Ent.pick 12 rfl ?_ | refine Ent.pick 13 rfl ?_ | refine Ent.pick 14 rfl ?_)))
    · rw [if_neg h2]
      refine FnSpec.enterP Tryd.func42 rfl Tryd.ntmps42 rfl fun w F => ?_
      repeat' first
        | ((with_reducible refine Nx.is_wp ?_); first | refine Nx.wo ?_ | refine Nx.p_dec rfl rfl (fun hc => ?_) (fun hc => ?_) | refine Nx.p_bool rfl rfl (fun hc => ?_) (fun hc => ?_))
        | ((first | refine Nx.at_op rfl rfl ?_ | refine Nx.m_loud rfl rfl rfl ?_ | refine Nx.at_do rfl rfl rfl rfl ?_ | refine Nx.m_loud_do rfl rfl rfl rfl rfl ?_); first | refine Nx.opr rfl rfl ?_ | refine Nx.callv rfl rfl rfl (by kernel_rfl) rfl (rValid_t h1 I) ?_ | refine Nx.callv rfl rfl rfl (by kernel_rfl) rfl (Itoa_spec n hn I hT) ?_ | refine Nx.callv rfl rfl rfl (by kernel_rfl) rfl (Itoa_spec d hd I hT) ?_ | refine Nx.binr rfl rfl (run_cat (a := [47]) ⟨by decide, by omega⟩) rfl ?_ | refine Nx.binr rfl rfl (run_cat (a := Lib.itoa n) (b := [47] ++ Lib.itoa d) ⟨by omega, by rw [List.length_append, List.length_singleton]; omega⟩) rfl ?_ | refine Nx.so ?_ | refine Nx.sb (fun bx => ?_) | refine Nx.sa (fun A2 c2 => ?_))
        | ((with_reducible refine Nx.is_at ?_); first | refine Nx.a ?_ | ((fail_if_success refine Nx.at_do rfl rfl rfl rfl ?_); first | refine Nx.at_dec_t rfl rfl rfl rfl (by first | assumption | omega) ?_ | refine Nx.at_dec_f rfl rfl rfl rfl (by first | assumption | omega) ?_ | refine Nx.at_split rfl rfl rfl rfl (fun hc => ?_) (fun hc => ?_) | refine Nx.at_splitb rfl rfl rfl rfl (fun hc => ?_) (fun hc => ?_)))
        | ((with_reducible refine Nx.is_mix ?_); first | refine Nx.m_quiet rfl rfl rfl rfl rfl (by first | exact QRun.opr rfl | exact QRun.binr rfl rfl (run_cat (a := [47]) ⟨by decide, by omega⟩) | exact QRun.binr rfl rfl (run_cat (a := Lib.itoa n) (b := [47] ++ Lib.itoa d) ⟨by omega, by rw [List.length_append, List.length_singleton]; omega⟩)) ?_ | refine Nx.m_quiet_do rfl rfl rfl rfl rfl rfl rfl (by first | exact QRun.opr rfl | exact QRun.binr rfl rfl (run_cat (a := [47]) ⟨by decide, by omega⟩) | exact QRun.binr rfl rfl (run_cat (a := Lib.itoa n) (b := [47] ++ Lib.itoa d) ⟨by omega, by rw [List.length_append, List.length_singleton]; omega⟩)) ?_ | refine Nx.m ?_ | ((fail_if_success refine Nx.m_quiet_do rfl rfl rfl rfl rfl rfl rfl ?_ ?_); (fail_if_success refine Nx.m_loud_do rfl rfl rfl rfl rfl ?_); first | refine Nx.m_dec_t rfl rfl rfl rfl (by first | assumption | omega) ?_ | refine Nx.m_dec_f rfl rfl rfl rfl (by first | assumption | omega) ?_ | refine Nx.m_split rfl rfl rfl rfl (fun hc => ?_) (fun hc => ?_) | refine Nx.m_splitb rfl rfl rfl rfl (fun hc => ?_) (fun hc => ?_)))
        | ((fail_if_success (with_reducible refine Nx.is_at ?_)); (fail_if_success (with_reducible refine Nx.is_wp ?_)); (fail_if_success (with_reducible refine Nx.is_mix ?_)); first | refine Nx.ex ?_)
      exact Nx.ret_fn rfl [] ⟨by rw [List.append_assoc], rfl⟩ (by (first | done | (repeat first | exact Ent.refl _ | exact Ent.nil _ | refine Ent.pick 0 rfl ?_ | refine Ent.pick 1 rfl ?_ | refine Ent.pick 2 rfl ?_ | refine Ent.pick 3 rfl ?_ | refine Ent.pick 4 rfl ?_ | refine Ent.pick 5 rfl ?_ | refine Ent.pick 6 rfl ?_ | refine Ent.pick 7 rfl ?_ | refine Ent.pick 8 rfl ?_ | refine Ent.pick 9 rfl ?_ | refine Ent.pick 10 rfl ?_ | refine Ent.pick 11 rfl ?_ | refine Ent.pick 12 rfl ?_ | refine Ent.pick 13 rfl ?_ | refine Ent.pick 14 rfl ?_)))
  · rw [if_neg h1]
    refine FnSpec.enterP Tryd.func42 rfl Tryd.ntmps42 rfl fun w F => ?_
    repeat' first
      | ((with_reducible refine Nx.is_wp ?_); first | refine Nx.wo ?_ | refine Nx.p_dec rfl rfl (fun hc => ?_) (fun hc => ?_) | refine Nx.p_bool rfl rfl (fun hc => ?_) (fun hc => ?_))
      | ((first | refine Nx.at_op rfl rfl ?_ | refine Nx.m_loud rfl rfl rfl ?_ | refine Nx.at_do rfl rfl rfl rfl ?_ | refine Nx.m_loud_do rfl rfl rfl rfl rfl ?_); first | refine Nx.opr rfl rfl ?_ | refine Nx.callv rfl rfl rfl (by kernel_rfl) rfl (rValid_f hn hd h1 I) ?_ | refine Nx.so ?_ | refine Nx.sb (fun bx => ?_) | refine Nx.sa (fun A2 c2 => ?_))
      | ((with_reducible refine Nx.is_at ?_); first | refine Nx.a ?_ | ((fail_if_success refine Nx.at_do rfl rfl rfl rfl ?_); first | refine Nx.at_dec_t rfl rfl rfl rfl (by first | assumption | omega) ?_ | refine Nx.at_dec_f rfl rfl rfl rfl (by first | assumption | omega) ?_ | refine Nx.at_split rfl rfl rfl rfl (fun hc => ?_) (fun hc => ?_) | refine Nx.at_splitb rfl rfl rfl rfl (fun hc => ?_) (fun hc => ?_)))
      | ((with_reducible refine Nx.is_mix ?_); first | refine Nx.m ?_ | ((fail_if_success refine Nx.m_quiet_do rfl rfl rfl rfl rfl rfl rfl ?_ ?_); (fail_if_success refine Nx.m_loud_do rfl rfl rfl rfl rfl ?_); first | refine Nx.m_dec_t rfl rfl rfl rfl (by first | assumption | omega) ?_ | refine Nx.m_dec_f rfl rfl rfl rfl (by first | assumption | omega) ?_ | refine Nx.m_split rfl rfl rfl rfl (fun hc => ?_) (fun hc => ?_) | refine Nx.m_splitb rfl rfl rfl rfl (fun hc => ?_) (fun hc => ?_)))
      | ((fail_if_success (with_reducible refine Nx.is_at ?_)); (fail_if_success (with_reducible refine Nx.is_wp ?_)); (fail_if_success (with_reducible refine Nx.is_mix ?_)); first | refine Nx.ex ?_)
    exact Nx.ret_fn rfl [] ⟨rfl, rfl⟩ (by (first | done | (repeat first | exact Ent.refl _ | exact Ent.nil _ | refine Ent.pick 0 rfl ?_ | refine Ent.pick 1 rfl ?_ | refine Ent.pick 2 rfl ?_ | refine Ent.pick 3 rfl ?_ | refine Ent.pick 4 rfl ?_ | refine Ent.pick 5 rfl ?_ | refine Ent.pick 6 rfl ?_ | refine Ent.pick 7 rfl ?_ | refine Ent.pick 8 rfl ?_ | refine Ent.pick 9 rfl ?_ | refine Ent.pick 10 rfl ?_ | refine Ent.pick 11 rfl ?_ | refine Ent.pick 12 rfl ?_ | refine Ent.pick 13 rfl ?_ | refine Ent.pick 14 rfl ?_)))
end Go.Proofs.YtlhnhjconifacaaDoor
