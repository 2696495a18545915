/- Contracts of functions of the given program, and lemmas about plain lists and numbers: what the laws of this seat lean on. -/
import Derived.Test.YtpdgnjoideppjaaDoorRows
import Derived.Test.YtpdgnjoideppjaaDoorChecked
import Derived.WalkKit
import Derived.ProofKit
import Derived.OpenShut
import Derived.LaidHandle
import Derived.LaidLaws
import Derived.Lib.LaidTab
import Derived.Stop.LaidErr
import Derived.Deep.Slices
import Derived.ChangeSlices
import Derived.Lib.SmallJoins
import Derived.Test.YtpdgnjoideppjaaDoorLx8
namespace Go.Proofs.YtpdgnjoideppjaaDoor
open Go.Eng Go.Det
attribute [local irreducible] opK wpList Code.wp Exit.then Exit.inBlock fnPost bodyPost Nx Calls Oper.wp Rd Rds Wr Ent Stars Blk Again Vec FnSpec wpMix QRun Stop Upto wpAt
/-! A matrix is drawn -/
/-- What holds of all numbers of a matrix that is drawn. -/
def Big (z : Int) : Prop := -12884901888 ≤ z ∧ z ≤ 12884901888
/-- .. and that all rows but the first one are small. -/
def Fine (i : Nat) (z : Int) : Prop := Big z ∧ (1 ≤ i → -54 ≤ z ∧ z ≤ 54)
def matDrawn (b : Nat) (A : Option Addr) (c : Nat) (L : List Int) (n : Nat) (v : Value) (R' : List Res) : Prop :=
  ∃ (A' : Option Addr) (c' : Nat) (o : List Row) (k' : Nat), v = .slice A' o.length c' ∧ MOk o n (fun i _ z => Fine i z) ∧ k' ≤ L.length ∧ R' = [Vec 28 1 A' o.length c' (o.map rowV), Stars (o.map rowR), CodesR b A c L k']
theorem run_shlJ {P : Program} {t : TypeId} {x y : Operand} {n p : Nat} {z : Int} (hz : z = (n : Int)) (hn : n < 33) (hp : p = 2 ^ n) : pureRun P (do eqGuard .shl t x y (.int .i64 1) (.int .u64 z); binOp .shl t (.int .i64 1) (.int .u64 z)) = some (.int .i64 (p : Int)) := by
  subst hz hp
  have : n = 0 ∨ n = 1 ∨ n = 2 ∨ n = 3 ∨ n = 4 ∨ n = 5 ∨ n = 6 ∨ n = 7 ∨ n = 8 ∨ n = 9 ∨ n = 10 ∨ n = 11 ∨ n = 12 ∨ n = 13 ∨ n = 14 ∨ n = 15 ∨ n = 16 ∨ n = 17 ∨ n = 18 ∨ n = 19 ∨ n = 20 ∨ n = 21 ∨ n = 22 ∨ n = 23 ∨ n = 24 ∨ n = 25 ∨ n = 26 ∨ n = 27 ∨ n = 28 ∨ n = 29 ∨ n = 30 ∨ n = 31 ∨ n = 32 := by omega
  rcases this with rfl | rfl | rfl | rfl | rfl | rfl | rfl | rfl | rfl | rfl | rfl | rfl | rfl | rfl | rfl | rfl | rfl | rfl | rfl | rfl | rfl | rfl | rfl | rfl | rfl | rfl | rfl | rfl | rfl | rfl | rfl | rfl | rfl <;> rfl
set_option maxRecDepth 10000 in
theorem mat4 (b : Nat) (A : Option Addr) (c : Nat) (L : List Int) (n : Nat) (I : PH) (w : World) (F : Res) (Ao : Option Addr) (co : Nat) (o : List Row) (k : Nat) (hk : k ≤ L.length) (hM : MOk o n (fun i _ z => Fine i z)) : Nx ⟨Tryd.prog, 98, w⟩ [(0, .pointer (some ⟨b, 0, none⟩)), (1, .int .i64 (n : Int)), (5, .slice Ao n co)] I [Vec 28 1 Ao n co (o.map rowV), Stars (o.map rowR), CodesR b A c L k, F] (Code.wp Tryd.prog (cr (cr (cr (cr (cr (cr (bodyOf Tryd.f10))))))) (fnPost Tryd.prog Tryd.f10 I F w (matDrawn b A c L n))) := by
  have hol := hM.len
  repeat' first
    | ((with_reducible refine Nx.is_wp ?_); first | refine Nx.wo ?_ | refine Nx.p_dec rfl rfl (fun hc => ?_) (fun hc => ?_) | refine Nx.p_bool rfl rfl (fun hc => ?_) (fun hc => ?_))
    | ((first | refine Nx.at_op rfl rfl ?_ | refine Nx.m_loud rfl rfl rfl ?_ | refine Nx.at_do rfl rfl rfl rfl ?_ | refine Nx.m_loud_do rfl rfl rfl rfl rfl ?_); first | refine Nx.opr rfl rfl ?_ | refine Nx.so ?_ | refine Nx.sb (fun bx => ?_) | refine Nx.sa (fun A2 c2 => ?_))
    | ((with_reducible refine Nx.is_at ?_); first | refine Nx.a ?_ | ((fail_if_success refine Nx.at_do rfl rfl rfl rfl ?_); first | refine Nx.at_dec_t rfl rfl rfl rfl (by first | assumption | omega) ?_ | refine Nx.at_dec_f rfl rfl rfl rfl (by first | assumption | omega) ?_ | refine Nx.at_split rfl rfl rfl rfl (fun hc => ?_) (fun hc => ?_) | refine Nx.at_splitb rfl rfl rfl rfl (fun hc => ?_) (fun hc => ?_)))
    | ((with_reducible refine Nx.is_mix ?_); first | refine Nx.m ?_ | ((fail_if_success refine Nx.m_quiet_do rfl rfl rfl rfl rfl rfl rfl ?_ ?_); (fail_if_success refine Nx.m_loud_do rfl rfl rfl rfl rfl ?_); first | refine Nx.m_dec_t rfl rfl rfl rfl (by first | assumption | omega) ?_ | refine Nx.m_dec_f rfl rfl rfl rfl (by first | assumption | omega) ?_ | refine Nx.m_split rfl rfl rfl rfl (fun hc => ?_) (fun hc => ?_) | refine Nx.m_splitb rfl rfl rfl rfl (fun hc => ?_) (fun hc => ?_)))
    | ((fail_if_success (with_reducible refine Nx.is_at ?_)); (fail_if_success (with_reducible refine Nx.is_wp ?_)); (fail_if_success (with_reducible refine Nx.is_mix ?_)); first | refine Nx.ex ?_)
  exact Nx.ret_fn rfl [Vec 28 1 Ao o.length co (o.map rowV), Stars (o.map rowR), CodesR b A c L k] ⟨Ao, co, o, k, by rw [hol], hM, hk, rfl⟩ (by rw [hol]; (exact Ent.auto))
set_option maxRecDepth 10000 in
set_option maxHeartbeats 8000000 in
theorem mat3 (b : Nat) (A : Option Addr) (c : Nat) (L : List Int) (n : Nat) (I : PH) (w : World) (F : Res) (hL : CodesI I A c L) (hn : 1 ≤ n ∧ n ≤ 1000) (Ao : Option Addr) (co : Nat) (o : List Row) (k : Nat) (hk : k ≤ L.length) (hM : MOk o n (fun i _ z => (-4294967296 ≤ z ∧ z ≤ 4294967296) ∧ (1 ≤ i → -18 ≤ z ∧ z ≤ 18))) : Nx ⟨Tryd.prog, 98, w⟩ [(0, .pointer (some ⟨b, 0, none⟩)), (1, .int .i64 (n : Int)), (5, .slice Ao n co)] I [Vec 28 1 Ao n co (o.map rowV), Stars (o.map rowR), CodesR b A c L k, F] (Code.wp Tryd.prog (cl (cr (cr (cr (cr (cr (bodyOf Tryd.f10))))))) (Exit.then (Code.wp Tryd.prog (cr (cr (cr (cr (cr (cr (bodyOf Tryd.f10))))))) (fnPost Tryd.prog Tryd.f10 I F w (matDrawn b A c L n))) (fnPost Tryd.prog Tryd.f10 I F w (matDrawn b A c L n)))) := by
  by_cases hn1 : 1 < n
  case neg =>
    repeat' first
      | ((with_reducible refine Nx.is_wp ?_); first | refine Nx.p_stopr 23 rfl ?_ | refine Nx.wo ?_ | refine Nx.p_dec rfl rfl (fun hc => ?_) (fun hc => ?_) | refine Nx.p_bool rfl rfl (fun hc => ?_) (fun hc => ?_))
      | ((first | refine Nx.at_op rfl rfl ?_ | refine Nx.m_loud rfl rfl rfl ?_ | refine Nx.at_do rfl rfl rfl rfl ?_ | refine Nx.m_loud_do rfl rfl rfl rfl rfl ?_); first | refine Nx.opr rfl rfl ?_ | refine Nx.so ?_ | refine Nx.sb (fun bx => ?_) | refine Nx.sa (fun A2 c2 => ?_))
      | ((with_reducible refine Nx.is_at ?_); first | refine Nx.a ?_ | ((fail_if_success refine Nx.at_do rfl rfl rfl rfl ?_); first | refine Nx.at_dec_t rfl rfl rfl rfl (by first | assumption | omega) ?_ | refine Nx.at_dec_f rfl rfl rfl rfl (by first | assumption | omega) ?_ | refine Nx.at_split rfl rfl rfl rfl (fun hc => ?_) (fun hc => ?_) | refine Nx.at_splitb rfl rfl rfl rfl (fun hc => ?_) (fun hc => ?_)))
      | ((with_reducible refine Nx.is_mix ?_); first | refine Nx.m ?_ | ((fail_if_success refine Nx.m_quiet_do rfl rfl rfl rfl rfl rfl rfl ?_ ?_); (fail_if_success refine Nx.m_loud_do rfl rfl rfl rfl rfl ?_); first | refine Nx.m_dec_t rfl rfl rfl rfl (by first | assumption | omega) ?_ | refine Nx.m_dec_f rfl rfl rfl rfl (by first | assumption | omega) ?_ | refine Nx.m_split rfl rfl rfl rfl (fun hc => ?_) (fun hc => ?_) | refine Nx.m_splitb rfl rfl rfl rfl (fun hc => ?_) (fun hc => ?_)))
      | ((fail_if_success (with_reducible refine Nx.is_at ?_)); (fail_if_success (with_reducible refine Nx.is_wp ?_)); (fail_if_success (with_reducible refine Nx.is_mix ?_)); first | refine Nx.ex ?_)
    exact Nx.unstop (Nx.weak (by exact ⟨rfl, rfl, rfl, trivial⟩) (by (exact Ent.auto)) (mat4 b A c L n I w F Ao co o k hk (hM.weak fun i _ z hz => by unfold Fine Big; omega)))
  repeat' first
    | ((with_reducible refine Nx.is_wp ?_); first | refine Nx.p_stopr 23 rfl ?_ | refine Nx.wo ?_ | refine Nx.p_dec rfl rfl (fun hc => ?_) (fun hc => ?_) | refine Nx.p_bool rfl rfl (fun hc => ?_) (fun hc => ?_))
    | ((first | refine Nx.at_op rfl rfl ?_ | refine Nx.m_loud rfl rfl rfl ?_ | refine Nx.at_do rfl rfl rfl rfl ?_ | refine Nx.m_loud_do rfl rfl rfl rfl rfl ?_); first | refine Nx.opr rfl rfl ?_ | (refine Nx.call rfl rfl rfl (by kernel_rfl) rfl (One_codes b A c L k 6 I hL hk (by omega)) (by (exact Ent.auto)) ?_; rintro _ _ ⟨r, k1, rfl, hk1, rfl⟩) | refine Nx.so ?_ | refine Nx.sb (fun bx => ?_) | refine Nx.sa (fun A2 c2 => ?_))
    | ((with_reducible refine Nx.is_at ?_); first | refine Nx.a ?_ | ((fail_if_success refine Nx.at_do rfl rfl rfl rfl ?_); first | refine Nx.at_dec_t rfl rfl rfl rfl (by first | assumption | omega) ?_ | refine Nx.at_dec_f rfl rfl rfl rfl (by first | assumption | omega) ?_ | refine Nx.at_split rfl rfl rfl rfl (fun hc => ?_) (fun hc => ?_) | refine Nx.at_splitb rfl rfl rfl rfl (fun hc => ?_) (fun hc => ?_)))
    | ((with_reducible refine Nx.is_mix ?_); first | refine Nx.m ?_ | ((fail_if_success refine Nx.m_quiet_do rfl rfl rfl rfl rfl rfl rfl ?_ ?_); (fail_if_success refine Nx.m_loud_do rfl rfl rfl rfl rfl ?_); first | refine Nx.m_dec_t rfl rfl rfl rfl (by first | assumption | omega) ?_ | refine Nx.m_dec_f rfl rfl rfl rfl (by first | assumption | omega) ?_ | refine Nx.m_split rfl rfl rfl rfl (fun hc => ?_) (fun hc => ?_) | refine Nx.m_splitb rfl rfl rfl rfl (fun hc => ?_) (fun hc => ?_)))
    | ((fail_if_success (with_reducible refine Nx.is_at ?_)); (fail_if_success (with_reducible refine Nx.is_wp ?_)); (fail_if_success (with_reducible refine Nx.is_mix ?_)); first | refine Nx.ex ?_)
  · refine Nx.ent (R' := [Vec 28 1 Ao n co (o.map rowV), Stars (o.map rowR), CodesR b A c L k1, F]) (by (exact Ent.auto)) ?_
    refine Nx.vec_fact fun hv1 hv2 hv3 hAo => ?_
    refine Nx.p_loop (σ := Nat × List Row) (fun x => [(0, .pointer (some ⟨b, 0, none⟩)), (1, .int .i64 (n : Int)), (5, .slice Ao n co), (10, .int .i64 (x.1 : Int))])
      (fun x => [Vec 28 1 Ao n co (x.2.map rowV), Stars (x.2.map rowR), CodesR b A c L k1, F]) (fun x => x.1 ≤ n ∧ MOk x.2 n (fun i j z => ((-4294967296 ≤ z ∧ z ≤ 4294967296) ∧ (1 ≤ i → -18 ≤ z ∧ z ≤ 18)) ∨ j = 1 ∧ Fine i z)) (fun x => n - x.1) (0, o) rfl ⟨Nat.zero_le _, hM.weak fun _ _ _ hz => Or.inl hz⟩ ⟨rfl, rfl, rfl, rfl, trivial⟩ (by (exact Ent.auto)) ?_
    rintro ⟨i, o'⟩ ⟨hi, hM'⟩
    dsimp only at hi hM' ⊢
    by_cases hlt : i < n
    case neg =>
      repeat' first
        | ((with_reducible refine Nx.is_wp ?_); first | refine Nx.p_stopr 23 rfl ?_ | refine Nx.wo ?_ | refine Nx.p_dec rfl rfl (fun hc => ?_) (fun hc => ?_) | refine Nx.p_bool rfl rfl (fun hc => ?_) (fun hc => ?_))
        | ((first | refine Nx.at_op rfl rfl ?_ | refine Nx.m_loud rfl rfl rfl ?_ | refine Nx.at_do rfl rfl rfl rfl ?_ | refine Nx.m_loud_do rfl rfl rfl rfl rfl ?_); first | refine Nx.opr rfl rfl ?_ | refine Nx.so ?_ | refine Nx.sb (fun bx => ?_) | refine Nx.sa (fun A2 c2 => ?_))
        | ((with_reducible refine Nx.is_at ?_); first | refine Nx.a ?_ | ((fail_if_success refine Nx.at_do rfl rfl rfl rfl ?_); first | refine Nx.at_dec_t rfl rfl rfl rfl (by first | assumption | omega) ?_ | refine Nx.at_dec_f rfl rfl rfl rfl (by first | assumption | omega) ?_ | refine Nx.at_split rfl rfl rfl rfl (fun hc => ?_) (fun hc => ?_) | refine Nx.at_splitb rfl rfl rfl rfl (fun hc => ?_) (fun hc => ?_)))
        | ((with_reducible refine Nx.is_mix ?_); first | refine Nx.m ?_ | ((fail_if_success refine Nx.m_quiet_do rfl rfl rfl rfl rfl rfl rfl ?_ ?_); (fail_if_success refine Nx.m_loud_do rfl rfl rfl rfl rfl ?_); first | refine Nx.m_dec_t rfl rfl rfl rfl (by first | assumption | omega) ?_ | refine Nx.m_dec_f rfl rfl rfl rfl (by first | assumption | omega) ?_ | refine Nx.m_split rfl rfl rfl rfl (fun hc => ?_) (fun hc => ?_) | refine Nx.m_splitb rfl rfl rfl rfl (fun hc => ?_) (fun hc => ?_)))
        | ((fail_if_success (with_reducible refine Nx.is_at ?_)); (fail_if_success (with_reducible refine Nx.is_wp ?_)); (fail_if_success (with_reducible refine Nx.is_mix ?_)); first | refine Nx.ex ?_)
      exact Nx.unstop (Nx.weak (by exact ⟨rfl, rfl, rfl, trivial⟩) (by (exact Ent.auto)) (mat4 b A c L n I w F Ao co o' k1 hk1 (hM'.weak fun i _ z hz => by rcases hz with hz | ⟨_, hz⟩ <;> unfold Fine Big at * <;> omega)))
    have hol := hM'.len
    have hri := hM'.row i hlt
    have hsi := hM'.some i hlt
    have he := (hM'.ent i 0 hlt (by omega)).resolve_right fun h => absurd h.1 (by decide)
    repeat' first
      | ((with_reducible refine Nx.is_wp ?_); first | refine Nx.p_stopr 23 rfl ?_ | refine Nx.wo ?_ | refine Nx.p_drawF (id := 15) rfl [0, 1, 2, 3, 4, 5, 6, 7, 8, 9, 10, 11, 12, 13, 14, 15, 16, 17, 18, 19, 20, 21, 22] [] [23] _ rfl rfl (by kernel_rfl) (by kernel_rfl) rfl (by repeat first | exact PanicOk.fn | refine PanicOk.then_ ?_ | refine PanicOk.inB ?_) (Ent.refl _) ?_ | refine Nx.p_drawF (id := 17) rfl [0, 1, 2, 3, 4, 5, 6, 7] [4] [8] _ rfl rfl (by kernel_rfl) (by kernel_rfl) rfl (by repeat first | exact PanicOk.fn | refine PanicOk.then_ ?_ | refine PanicOk.inB ?_) (Ent.refl _) ?_ | refine Nx.p_drawF (id := 22) rfl [0, 1, 2, 3, 4, 5, 6, 7, 8, 9, 10, 11] [] [12] _ rfl rfl (by kernel_rfl) (by kernel_rfl) rfl (by repeat first | exact PanicOk.fn | refine PanicOk.then_ ?_ | refine PanicOk.inB ?_) (Ent.refl _) ?_ | refine Nx.p_dec rfl rfl (fun hc => ?_) (fun hc => ?_) | refine Nx.p_bool rfl rfl (fun hc => ?_) (fun hc => ?_))
      | ((first | refine Nx.at_op rfl rfl ?_ | refine Nx.m_loud rfl rfl rfl ?_ | refine Nx.at_do rfl rfl rfl rfl ?_ | refine Nx.m_loud_do rfl rfl rfl rfl rfl ?_); first | refine Nx.opr rfl rfl ?_ | refine Nx.store_row 1 (o := o') (i := i) (j := 1) rfl rfl rfl rfl (by omega) (by omega) ?_ | refine Nx.so ?_ | refine Nx.sb (fun bx => ?_) | refine Nx.sa (fun A2 c2 => ?_))
      | ((with_reducible refine Nx.is_at ?_); first | refine Nx.a ?_ | ((fail_if_success refine Nx.at_do rfl rfl rfl rfl ?_); first | refine Nx.at_dec_t rfl rfl rfl rfl (by first | assumption | omega) ?_ | refine Nx.at_dec_f rfl rfl rfl rfl (by first | assumption | omega) ?_ | refine Nx.at_split rfl rfl rfl rfl (fun hc => ?_) (fun hc => ?_) | refine Nx.at_splitb rfl rfl rfl rfl (fun hc => ?_) (fun hc => ?_)))
      | ((with_reducible refine Nx.is_mix ?_); first | refine Nx.m_quiet rfl rfl rfl rfl rfl (by first | exact QRun.opr rfl | exact QRun.idx (A := Ao) (i := i) (sz := 1) rfl rfl rfl rfl (by omega) (hAo (by omega)) | exact QRun.load rfl rfl (Rd.vecEl 0 (f := rowV) rfl (by omega)) | exact QRun.idx (A := (o'.getD i default).1) (i := 0) (sz := 1) rfl rfl rfl rfl (by omega) hsi | exact QRun.idx (A := (o'.getD i default).1) (i := 1) (sz := 1) rfl rfl rfl rfl (by omega) hsi | exact QRun.load rfl rfl (row_rd 1 rfl (by omega) (by omega))) ?_ | refine Nx.m_quiet_do rfl rfl rfl rfl rfl rfl rfl (by first | exact QRun.opr rfl | exact QRun.idx (A := Ao) (i := i) (sz := 1) rfl rfl rfl rfl (by omega) (hAo (by omega)) | exact QRun.load rfl rfl (Rd.vecEl 0 (f := rowV) rfl (by omega)) | exact QRun.idx (A := (o'.getD i default).1) (i := 0) (sz := 1) rfl rfl rfl rfl (by omega) hsi | exact QRun.idx (A := (o'.getD i default).1) (i := 1) (sz := 1) rfl rfl rfl rfl (by omega) hsi | exact QRun.load rfl rfl (row_rd 1 rfl (by omega) (by omega))) ?_ | refine Nx.m ?_ | ((fail_if_success refine Nx.m_quiet_do rfl rfl rfl rfl rfl rfl rfl ?_ ?_); (fail_if_success refine Nx.m_loud_do rfl rfl rfl rfl rfl ?_); first | refine Nx.m_dec_t rfl rfl rfl rfl (by first | assumption | omega) ?_ | refine Nx.m_dec_f rfl rfl rfl rfl (by first | assumption | omega) ?_ | refine Nx.m_split rfl rfl rfl rfl (fun hc => ?_) (fun hc => ?_) | refine Nx.m_splitb rfl rfl rfl rfl (fun hc => ?_) (fun hc => ?_)))
      | ((fail_if_success (with_reducible refine Nx.is_at ?_)); (fail_if_success (with_reducible refine Nx.is_wp ?_)); (fail_if_success (with_reducible refine Nx.is_mix ?_)); first | refine Nx.ex ?_)
    exact Nx.again (i + 1, setRow o' i 1 (3 * (o'.getD i default).2.2.getD 0 default)) ⟨hlt, hM'.set (Or.inr ⟨rfl, by unfold Fine Big; omega⟩)⟩ (by dsimp only; omega) ⟨rfl, rfl, rfl, rfl, trivial⟩ (by dsimp only; rw [setRow_outer (by omega)]; (exact Ent.auto))
  · exact Nx.unstop (Nx.weak (by exact ⟨rfl, rfl, rfl, trivial⟩) (by (exact Ent.auto)) (mat4 b A c L n I w F Ao co o k1 hk1 (hM.weak fun i _ z hz => by unfold Fine Big; omega)))
set_option maxRecDepth 10000 in
set_option maxHeartbeats 8000000 in
theorem mat2 (b : Nat) (A : Option Addr) (c : Nat) (L : List Int) (n : Nat) (I : PH) (w : World) (F : Res) (hL : CodesI I A c L) (hn : 1 ≤ n ∧ n ≤ 1000) (Ao : Option Addr) (co : Nat) (o : List Row) (k : Nat) (hk : k ≤ L.length) (hM : MOk o n (fun _ _ z => -18 ≤ z ∧ z ≤ 18)) : Nx ⟨Tryd.prog, 98, w⟩ [(0, .pointer (some ⟨b, 0, none⟩)), (1, .int .i64 (n : Int)), (5, .slice Ao n co)] I [Vec 28 1 Ao n co (o.map rowV), Stars (o.map rowR), CodesR b A c L k, F] (Code.wp Tryd.prog (cl (cr (cr (cr (cr (bodyOf Tryd.f10)))))) (Exit.then (Code.wp Tryd.prog (cr (cr (cr (cr (cr (bodyOf Tryd.f10)))))) (fnPost Tryd.prog Tryd.f10 I F w (matDrawn b A c L n))) (fnPost Tryd.prog Tryd.f10 I F w (matDrawn b A c L n)))) := by
  have hol := hM.len
  have hri := hM.row 0 (by omega)
  have hsi := hM.some 0 (by omega)
  refine Nx.vec_fact fun hv1 hv2 hv3 hAo => ?_
  repeat' first
    | ((with_reducible refine Nx.is_wp ?_); first | refine Nx.p_stopr 18 rfl ?_ | refine Nx.wo ?_ | refine Nx.p_drawF (id := 15) rfl [0, 1, 2, 3, 4, 5, 6, 7, 8, 9, 10, 11, 12, 13, 14, 15, 16, 17, 18, 19, 20, 21, 22] [] [23] _ rfl rfl (by kernel_rfl) (by kernel_rfl) rfl (by repeat first | exact PanicOk.fn | refine PanicOk.then_ ?_ | refine PanicOk.inB ?_) (Ent.refl _) ?_ | refine Nx.p_drawF (id := 17) rfl [0, 1, 2, 3, 4, 5, 6, 7] [4] [8] _ rfl rfl (by kernel_rfl) (by kernel_rfl) rfl (by repeat first | exact PanicOk.fn | refine PanicOk.then_ ?_ | refine PanicOk.inB ?_) (Ent.eraseK 0 _) ?_ | refine Nx.p_drawF (id := 22) rfl [0, 1, 2, 3, 4, 5, 6, 7, 8, 9, 10, 11] [] [12] _ rfl rfl (by kernel_rfl) (by kernel_rfl) rfl (by repeat first | exact PanicOk.fn | refine PanicOk.then_ ?_ | refine PanicOk.inB ?_) (Ent.refl _) ?_ | refine Nx.p_dec rfl rfl (fun hc => ?_) (fun hc => ?_) | refine Nx.p_bool rfl rfl (fun hc => ?_) (fun hc => ?_))
    | ((first | refine Nx.at_op rfl rfl ?_ | refine Nx.m_loud rfl rfl rfl ?_ | refine Nx.at_do rfl rfl rfl rfl ?_ | refine Nx.m_loud_do rfl rfl rfl rfl rfl ?_); first | refine Nx.opr rfl rfl ?_ | (refine Nx.call rfl rfl rfl (by kernel_rfl) rfl (One_codes b A c L k 6 I hL hk (by omega)) (by (exact Ent.auto)) ?_; rintro _ _ ⟨r, k1, rfl, hk1, rfl⟩) | (refine Nx.call rfl rfl rfl (by kernel_rfl) rfl (Next_codes b A c L k1 33 I hL hk1 (by omega)) (by (exact Ent.auto)) ?_; rintro _ _ ⟨z, k2, rfl, hz, hk2, rfl⟩; obtain ⟨m, rfl⟩ := Int.eq_ofNat_of_zero_le hz.1) | refine Nx.store_row 2 (o := o) (i := 0) (j := 0) rfl rfl rfl rfl (by omega) (by omega) ?_ | refine Nx.so ?_ | refine Nx.sb (fun bx => ?_) | refine Nx.sa (fun A2 c2 => ?_))
    | ((with_reducible refine Nx.is_at ?_); first | refine Nx.a ?_ | ((fail_if_success refine Nx.at_do rfl rfl rfl rfl ?_); first | refine Nx.at_dec_t rfl rfl rfl rfl (by first | assumption | omega) ?_ | refine Nx.at_dec_f rfl rfl rfl rfl (by first | assumption | omega) ?_ | refine Nx.at_split rfl rfl rfl rfl (fun hc => ?_) (fun hc => ?_) | refine Nx.at_splitb rfl rfl rfl rfl (fun hc => ?_) (fun hc => ?_)))
    | ((with_reducible refine Nx.is_mix ?_); first | refine Nx.m_quiet rfl rfl rfl rfl rfl (by first | exact QRun.opr rfl | exact QRun.idx (A := Ao) (i := 0) (sz := 1) rfl rfl rfl rfl (by omega) (hAo (by omega)) | exact QRun.load rfl rfl (Rd.vecEl 0 (f := rowV) rfl (by omega)) | exact QRun.conv_u64 rfl rfl rfl | exact QRun.bin rfl rfl (run_shlJ (n := m) (by unfold B64; omega) (by omega) rfl) | exact QRun.idx (A := (o.getD 0 default).1) (i := 0) (sz := 1) rfl rfl rfl rfl (by omega) hsi) ?_ | refine Nx.m_quiet_do rfl rfl rfl rfl rfl rfl rfl (by first | exact QRun.opr rfl | exact QRun.idx (A := Ao) (i := 0) (sz := 1) rfl rfl rfl rfl (by omega) (hAo (by omega)) | exact QRun.load rfl rfl (Rd.vecEl 0 (f := rowV) rfl (by omega)) | exact QRun.conv_u64 rfl rfl rfl | exact QRun.bin rfl rfl (run_shlJ (n := m) (by unfold B64; omega) (by omega) rfl) | exact QRun.idx (A := (o.getD 0 default).1) (i := 0) (sz := 1) rfl rfl rfl rfl (by omega) hsi) ?_ | refine Nx.m ?_ | ((fail_if_success refine Nx.m_quiet_do rfl rfl rfl rfl rfl rfl rfl ?_ ?_); (fail_if_success refine Nx.m_loud_do rfl rfl rfl rfl rfl ?_); first | refine Nx.m_dec_t rfl rfl rfl rfl (by first | assumption | omega) ?_ | refine Nx.m_dec_f rfl rfl rfl rfl (by first | assumption | omega) ?_ | refine Nx.m_split rfl rfl rfl rfl (fun hc => ?_) (fun hc => ?_) | refine Nx.m_splitb rfl rfl rfl rfl (fun hc => ?_) (fun hc => ?_)))
    | ((fail_if_success (with_reducible refine Nx.is_at ?_)); (fail_if_success (with_reducible refine Nx.is_wp ?_)); (fail_if_success (with_reducible refine Nx.is_mix ?_)); first | refine Nx.ex ?_)
  · have hp : (2 : Nat) ^ m ≤ 4294967296 := (Nat.pow_le_pow_right (by decide) (by omega) : 2 ^ m ≤ 2 ^ 32)
    exact Nx.unstop (Nx.weak (by exact ⟨rfl, rfl, rfl, trivial⟩) (by rw [← setRow_outer (o := o) (i := 0) (j := 0) (z := ((2 ^ m : Nat) : Int)) (by omega)]; (exact Ent.auto)) (mat3 b A c L n I w F hL hn Ao co (setRow o 0 0 ((2 ^ m : Nat) : Int)) k2 hk2 ((hM.weak fun i _ z hz => (by omega : (-4294967296 ≤ z ∧ z ≤ 4294967296) ∧ (1 ≤ i → -18 ≤ z ∧ z ≤ 18))).set (by have := Int.natCast_nonneg (2 ^ m); omega))))
  · exact Nx.unstop (Nx.weak (by exact ⟨rfl, rfl, rfl, trivial⟩) (by (exact Ent.auto)) (mat3 b A c L n I w F hL hn Ao co o k1 hk1 (hM.weak fun _ _ z hz => by omega)))
set_option maxRecDepth 10000 in
set_option maxHeartbeats 8000000 in
theorem mat1 (b : Nat) (A : Option Addr) (c : Nat) (L : List Int) (n : Nat) (I : PH) (w : World) (F : Res) (hL : CodesI I A c L) (hn : 1 ≤ n ∧ n ≤ 1000) (Ao : Option Addr) (co : Nat) (o : List Row) (k : Nat) (hk : k ≤ L.length) (hM : MOk o n (fun _ _ z => -6 ≤ z ∧ z ≤ 6)) : Nx ⟨Tryd.prog, 98, w⟩ [(0, .pointer (some ⟨b, 0, none⟩)), (1, .int .i64 (n : Int)), (5, .slice Ao n co)] I [Vec 28 1 Ao n co (o.map rowV), Stars (o.map rowR), CodesR b A c L k, F] (Code.wp Tryd.prog (cl (cr (cr (cr (bodyOf Tryd.f10))))) (Exit.then (Code.wp Tryd.prog (cr (cr (cr (cr (bodyOf Tryd.f10))))) (fnPost Tryd.prog Tryd.f10 I F w (matDrawn b A c L n))) (fnPost Tryd.prog Tryd.f10 I F w (matDrawn b A c L n)))) := by
  by_cases hn1 : 1 < n
  case neg =>
    repeat' first
      | ((with_reducible refine Nx.is_wp ?_); first | refine Nx.p_stopr 16 rfl ?_ | refine Nx.wo ?_ | refine Nx.p_dec rfl rfl (fun hc => ?_) (fun hc => ?_) | refine Nx.p_bool rfl rfl (fun hc => ?_) (fun hc => ?_))
      | ((first | refine Nx.at_op rfl rfl ?_ | refine Nx.m_loud rfl rfl rfl ?_ | refine Nx.at_do rfl rfl rfl rfl ?_ | refine Nx.m_loud_do rfl rfl rfl rfl rfl ?_); first | refine Nx.opr rfl rfl ?_ | refine Nx.so ?_ | refine Nx.sb (fun bx => ?_) | refine Nx.sa (fun A2 c2 => ?_))
      | ((with_reducible refine Nx.is_at ?_); first | refine Nx.a ?_ | ((fail_if_success refine Nx.at_do rfl rfl rfl rfl ?_); first | refine Nx.at_dec_t rfl rfl rfl rfl (by first | assumption | omega) ?_ | refine Nx.at_dec_f rfl rfl rfl rfl (by first | assumption | omega) ?_ | refine Nx.at_split rfl rfl rfl rfl (fun hc => ?_) (fun hc => ?_) | refine Nx.at_splitb rfl rfl rfl rfl (fun hc => ?_) (fun hc => ?_)))
      | ((with_reducible refine Nx.is_mix ?_); first | refine Nx.m ?_ | ((fail_if_success refine Nx.m_quiet_do rfl rfl rfl rfl rfl rfl rfl ?_ ?_); (fail_if_success refine Nx.m_loud_do rfl rfl rfl rfl rfl ?_); first | refine Nx.m_dec_t rfl rfl rfl rfl (by first | assumption | omega) ?_ | refine Nx.m_dec_f rfl rfl rfl rfl (by first | assumption | omega) ?_ | refine Nx.m_split rfl rfl rfl rfl (fun hc => ?_) (fun hc => ?_) | refine Nx.m_splitb rfl rfl rfl rfl (fun hc => ?_) (fun hc => ?_)))
      | ((fail_if_success (with_reducible refine Nx.is_at ?_)); (fail_if_success (with_reducible refine Nx.is_wp ?_)); (fail_if_success (with_reducible refine Nx.is_mix ?_)); first | refine Nx.ex ?_)
    exact Nx.unstop (Nx.weak (by exact ⟨rfl, rfl, rfl, trivial⟩) (by (exact Ent.auto)) (mat2 b A c L n I w F hL hn Ao co o k hk (hM.weak fun _ _ z hz => by omega)))
  obtain ⟨m, rfl⟩ : ∃ m, n = m + 2 := ⟨n - 2, by omega⟩
  repeat' first
    | ((with_reducible refine Nx.is_wp ?_); first | refine Nx.p_stopr 16 rfl ?_ | refine Nx.wo ?_ | refine Nx.p_dec rfl rfl (fun hc => ?_) (fun hc => ?_) | refine Nx.p_bool rfl rfl (fun hc => ?_) (fun hc => ?_))
    | ((first | refine Nx.at_op rfl rfl ?_ | refine Nx.m_loud rfl rfl rfl ?_ | refine Nx.at_do rfl rfl rfl rfl ?_ | refine Nx.m_loud_do rfl rfl rfl rfl rfl ?_); first | refine Nx.opr rfl rfl ?_ | (refine Nx.call rfl rfl rfl (by kernel_rfl) rfl (One_codes b A c L k 3 I hL hk (by omega)) (by (exact Ent.auto)) ?_; rintro _ _ ⟨r, k1, rfl, hk1, rfl⟩) | refine Nx.so ?_ | refine Nx.sb (fun bx => ?_) | refine Nx.sa (fun A2 c2 => ?_))
    | ((with_reducible refine Nx.is_at ?_); first | refine Nx.a ?_ | ((fail_if_success refine Nx.at_do rfl rfl rfl rfl ?_); first | refine Nx.at_dec_t rfl rfl rfl rfl (by first | assumption | omega) ?_ | refine Nx.at_dec_f rfl rfl rfl rfl (by first | assumption | omega) ?_ | refine Nx.at_split rfl rfl rfl rfl (fun hc => ?_) (fun hc => ?_) | refine Nx.at_splitb rfl rfl rfl rfl (fun hc => ?_) (fun hc => ?_)))
    | ((with_reducible refine Nx.is_mix ?_); first | refine Nx.m ?_ | ((fail_if_success refine Nx.m_quiet_do rfl rfl rfl rfl rfl rfl rfl ?_ ?_); (fail_if_success refine Nx.m_loud_do rfl rfl rfl rfl rfl ?_); first | refine Nx.m_dec_t rfl rfl rfl rfl (by first | assumption | omega) ?_ | refine Nx.m_dec_f rfl rfl rfl rfl (by first | assumption | omega) ?_ | refine Nx.m_split rfl rfl rfl rfl (fun hc => ?_) (fun hc => ?_) | refine Nx.m_splitb rfl rfl rfl rfl (fun hc => ?_) (fun hc => ?_)))
    | ((fail_if_success (with_reducible refine Nx.is_at ?_)); (fail_if_success (with_reducible refine Nx.is_wp ?_)); (fail_if_success (with_reducible refine Nx.is_mix ?_)); first | refine Nx.ex ?_)
  · refine Nx.ent (R' := [Vec 28 1 Ao (m + 2) co (o.map rowV), Stars (o.map rowR), CodesR b A c L k1, F]) (by (exact Ent.auto)) ?_
    refine Nx.vec_fact fun hv1 hv2 hv3 hAo => ?_
    refine Nx.p_loop (σ := Nat × List Row) (fun x => [(0, .pointer (some ⟨b, 0, none⟩)), (1, .int .i64 ((m + 2 : Nat) : Int)), (5, .slice Ao (m + 2) co), (9, .int .i64 (x.1 : Int))])
      (fun x => [Vec 28 1 Ao (m + 2) co (x.2.map rowV), Stars (x.2.map rowR), CodesR b A c L k1, F]) (fun x => x.1 ≤ m + 2 ∧ MOk x.2 (m + 2) (fun i _ z => (-6 ≤ z ∧ z ≤ 6) ∨ i = m + 1 ∧ -18 ≤ z ∧ z ≤ 18)) (fun x => m + 2 - x.1) (0, o) rfl ⟨Nat.zero_le _, hM.weak fun _ _ _ hz => Or.inl hz⟩ ⟨rfl, rfl, rfl, rfl, trivial⟩ (by (exact Ent.auto)) ?_
    rintro ⟨i, o'⟩ ⟨hi, hM'⟩
    dsimp only at hi hM' ⊢
    by_cases hlt : i < m + 2
    case neg =>
      repeat' first
        | ((with_reducible refine Nx.is_wp ?_); first | refine Nx.p_stopr 16 rfl ?_ | refine Nx.wo ?_ | refine Nx.p_dec rfl rfl (fun hc => ?_) (fun hc => ?_) | refine Nx.p_bool rfl rfl (fun hc => ?_) (fun hc => ?_))
        | ((first | refine Nx.at_op rfl rfl ?_ | refine Nx.m_loud rfl rfl rfl ?_ | refine Nx.at_do rfl rfl rfl rfl ?_ | refine Nx.m_loud_do rfl rfl rfl rfl rfl ?_); first | refine Nx.opr rfl rfl ?_ | refine Nx.so ?_ | refine Nx.sb (fun bx => ?_) | refine Nx.sa (fun A2 c2 => ?_))
        | ((with_reducible refine Nx.is_at ?_); first | refine Nx.a ?_ | ((fail_if_success refine Nx.at_do rfl rfl rfl rfl ?_); first | refine Nx.at_dec_t rfl rfl rfl rfl (by first | assumption | omega) ?_ | refine Nx.at_dec_f rfl rfl rfl rfl (by first | assumption | omega) ?_ | refine Nx.at_split rfl rfl rfl rfl (fun hc => ?_) (fun hc => ?_) | refine Nx.at_splitb rfl rfl rfl rfl (fun hc => ?_) (fun hc => ?_)))
        | ((with_reducible refine Nx.is_mix ?_); first | refine Nx.m ?_ | ((fail_if_success refine Nx.m_quiet_do rfl rfl rfl rfl rfl rfl rfl ?_ ?_); (fail_if_success refine Nx.m_loud_do rfl rfl rfl rfl rfl ?_); first | refine Nx.m_dec_t rfl rfl rfl rfl (by first | assumption | omega) ?_ | refine Nx.m_dec_f rfl rfl rfl rfl (by first | assumption | omega) ?_ | refine Nx.m_split rfl rfl rfl rfl (fun hc => ?_) (fun hc => ?_) | refine Nx.m_splitb rfl rfl rfl rfl (fun hc => ?_) (fun hc => ?_)))
        | ((fail_if_success (with_reducible refine Nx.is_at ?_)); (fail_if_success (with_reducible refine Nx.is_wp ?_)); (fail_if_success (with_reducible refine Nx.is_mix ?_)); first | refine Nx.ex ?_)
      exact Nx.unstop (Nx.weak (by exact ⟨rfl, rfl, rfl, trivial⟩) (by (exact Ent.auto)) (mat2 b A c L (m + 2) I w F hL hn Ao co o' k1 hk1 (hM'.weak fun _ _ z hz => by omega)))
    have hol := hM'.len
    have hr0 := hM'.row 0 (by omega)
    have hs0 := hM'.some 0 (by omega)
    have he0 := (hM'.ent 0 i (by omega) hlt).resolve_right fun h => absurd h.1 (by omega)
    have hrm := hM'.row m (by omega)
    have hsm := hM'.some m (by omega)
    have hem := (hM'.ent m i (by omega) hlt).resolve_right fun h => absurd h.1 (by omega)
    have hr1 := hM'.row (m + 1) (by omega)
    have hs1 := hM'.some (m + 1) (by omega)
    repeat' first
      | ((with_reducible refine Nx.is_wp ?_); first | refine Nx.p_stopr 16 rfl ?_ | refine Nx.wo ?_ | refine Nx.p_drawF (id := 15) rfl [0, 1, 2, 3, 4, 5, 6, 7, 8, 9, 10, 11, 12, 13, 14, 15, 16, 17, 18, 19, 20, 21, 22] [] [23] _ rfl rfl (by kernel_rfl) (by kernel_rfl) rfl (by repeat first | exact PanicOk.fn | refine PanicOk.then_ ?_ | refine PanicOk.inB ?_) (Ent.refl _) ?_ | refine Nx.p_drawF (id := 17) rfl [0, 1, 2, 3, 4, 5, 6, 7] [4] [8] _ rfl rfl (by kernel_rfl) (by kernel_rfl) rfl (by repeat first | exact PanicOk.fn | refine PanicOk.then_ ?_ | refine PanicOk.inB ?_) (Ent.refl _) ?_ | refine Nx.p_drawF (id := 22) rfl [0, 1, 2, 3, 4, 5, 6, 7, 8, 9, 10, 11] [] [12] _ rfl rfl (by kernel_rfl) (by kernel_rfl) rfl (by repeat first | exact PanicOk.fn | refine PanicOk.then_ ?_ | refine PanicOk.inB ?_) (Ent.refl _) ?_ | refine Nx.p_dec rfl rfl (fun hc => ?_) (fun hc => ?_) | refine Nx.p_bool rfl rfl (fun hc => ?_) (fun hc => ?_))
      | ((first | refine Nx.at_op rfl rfl ?_ | refine Nx.m_loud rfl rfl rfl ?_ | refine Nx.at_do rfl rfl rfl rfl ?_ | refine Nx.m_loud_do rfl rfl rfl rfl rfl ?_); first | refine Nx.opr rfl rfl ?_ | refine Nx.store_row 1 (o := o') (i := m + 1) (j := i) rfl rfl rfl rfl (by omega) (by omega) ?_ | refine Nx.so ?_ | refine Nx.sb (fun bx => ?_) | refine Nx.sa (fun A2 c2 => ?_))
      | ((with_reducible refine Nx.is_at ?_); first | refine Nx.a ?_ | ((fail_if_success refine Nx.at_do rfl rfl rfl rfl ?_); first | refine Nx.at_dec_t rfl rfl rfl rfl (by first | assumption | omega) ?_ | refine Nx.at_dec_f rfl rfl rfl rfl (by first | assumption | omega) ?_ | refine Nx.at_split rfl rfl rfl rfl (fun hc => ?_) (fun hc => ?_) | refine Nx.at_splitb rfl rfl rfl rfl (fun hc => ?_) (fun hc => ?_)))
      | ((with_reducible refine Nx.is_mix ?_); first | refine Nx.m_quiet rfl rfl rfl rfl rfl (by first | exact QRun.opr rfl | exact QRun.pred (n := m + 1) rfl rfl (by omega) | exact QRun.less (n := m) 2 rfl rfl (by omega) | exact QRun.idx (A := Ao) (i := m + 1) (sz := 1) rfl rfl rfl rfl (by omega) (hAo (by omega)) | exact QRun.idx (A := Ao) (i := 0) (sz := 1) rfl rfl rfl rfl (by omega) (hAo (by omega)) | exact QRun.idx (A := Ao) (i := m) (sz := 1) rfl rfl rfl rfl (by omega) (hAo (by omega)) | exact QRun.load rfl rfl (Rd.vecEl 0 (f := rowV) rfl (by omega)) | exact QRun.idx (A := (o'.getD (m + 1) default).1) (i := i) (sz := 1) rfl rfl rfl rfl (by omega) hs1 | exact QRun.idx (A := (o'.getD 0 default).1) (i := i) (sz := 1) rfl rfl rfl rfl (by omega) hs0 | exact QRun.idx (A := (o'.getD m default).1) (i := i) (sz := 1) rfl rfl rfl rfl (by omega) hsm | exact QRun.load rfl rfl (row_rd 1 (o := o') (i := 0) (j := i) rfl (by omega) (by omega)) | exact QRun.load rfl rfl (row_rd 1 (o := o') (i := m) (j := i) rfl (by omega) (by omega))) ?_ | refine Nx.m_quiet_do rfl rfl rfl rfl rfl rfl rfl (by first | exact QRun.opr rfl | exact QRun.pred (n := m + 1) rfl rfl (by omega) | exact QRun.less (n := m) 2 rfl rfl (by omega) | exact QRun.idx (A := Ao) (i := m + 1) (sz := 1) rfl rfl rfl rfl (by omega) (hAo (by omega)) | exact QRun.idx (A := Ao) (i := 0) (sz := 1) rfl rfl rfl rfl (by omega) (hAo (by omega)) | exact QRun.idx (A := Ao) (i := m) (sz := 1) rfl rfl rfl rfl (by omega) (hAo (by omega)) | exact QRun.load rfl rfl (Rd.vecEl 0 (f := rowV) rfl (by omega)) | exact QRun.idx (A := (o'.getD (m + 1) default).1) (i := i) (sz := 1) rfl rfl rfl rfl (by omega) hs1 | exact QRun.idx (A := (o'.getD 0 default).1) (i := i) (sz := 1) rfl rfl rfl rfl (by omega) hs0 | exact QRun.idx (A := (o'.getD m default).1) (i := i) (sz := 1) rfl rfl rfl rfl (by omega) hsm | exact QRun.load rfl rfl (row_rd 1 (o := o') (i := 0) (j := i) rfl (by omega) (by omega)) | exact QRun.load rfl rfl (row_rd 1 (o := o') (i := m) (j := i) rfl (by omega) (by omega))) ?_ | refine Nx.m ?_ | ((fail_if_success refine Nx.m_quiet_do rfl rfl rfl rfl rfl rfl rfl ?_ ?_); (fail_if_success refine Nx.m_loud_do rfl rfl rfl rfl rfl ?_); first | refine Nx.m_dec_t rfl rfl rfl rfl (by first | assumption | omega) ?_ | refine Nx.m_dec_f rfl rfl rfl rfl (by first | assumption | omega) ?_ | refine Nx.m_split rfl rfl rfl rfl (fun hc => ?_) (fun hc => ?_) | refine Nx.m_splitb rfl rfl rfl rfl (fun hc => ?_) (fun hc => ?_)))
      | ((fail_if_success (with_reducible refine Nx.is_at ?_)); (fail_if_success (with_reducible refine Nx.is_wp ?_)); (fail_if_success (with_reducible refine Nx.is_mix ?_)); first | refine Nx.ex ?_)
    exact Nx.again (i + 1, setRow o' (m + 1) i (2 * (o'.getD 0 default).2.2.getD i default - (o'.getD m default).2.2.getD i default)) ⟨hlt, hM'.set (Or.inr ⟨rfl, by omega⟩)⟩ (by dsimp only; omega) ⟨rfl, rfl, rfl, rfl, trivial⟩ (by dsimp only; rw [setRow_outer (by omega)]; (exact Ent.auto))
  · exact Nx.unstop (Nx.weak (by exact ⟨rfl, rfl, rfl, trivial⟩) (by (exact Ent.auto)) (mat2 b A c L (m + 2) I w F hL hn Ao co o k1 hk1 (hM.weak fun _ _ z hz => by omega)))
set_option maxRecDepth 10000 in
set_option maxHeartbeats 8000000 in
theorem matrix_spec (b : Nat) (A : Option Addr) (c : Nat) (L : List Int) (k n : Nat) (I : PH) (hL : CodesI I A c L) (hk : k ≤ L.length) (hn : 1 ≤ n ∧ n ≤ 1000) :
    FnSpec Tryd.prog 10 [.pointer (some ⟨b, 0, none⟩), .int .i64 (n : Int)] I [CodesR b A c L k] (matDrawn b A c L n) := by
  refine FnSpec.enterP Tryd.func10 rfl Tryd.ntmps10 rfl fun w F => ?_
  repeat' first
    | ((with_reducible refine Nx.is_wp ?_); first | refine Nx.wo ?_ | refine Nx.p_dec rfl rfl (fun hc => ?_) (fun hc => ?_) | refine Nx.p_bool rfl rfl (fun hc => ?_) (fun hc => ?_))
    | ((first | refine Nx.at_op rfl rfl ?_ | refine Nx.m_loud rfl rfl rfl ?_ | refine Nx.at_do rfl rfl rfl rfl ?_ | refine Nx.m_loud_do rfl rfl rfl rfl rfl ?_); first | refine Nx.opr rfl rfl ?_ | refine Nx.so ?_ | refine Nx.sb (fun bx => ?_) | refine Nx.sa (fun A2 c2 => ?_))
    | ((with_reducible refine Nx.is_at ?_); first | refine Nx.a ?_ | ((fail_if_success refine Nx.at_do rfl rfl rfl rfl ?_); first | refine Nx.at_dec_t rfl rfl rfl rfl (by first | assumption | omega) ?_ | refine Nx.at_dec_f rfl rfl rfl rfl (by first | assumption | omega) ?_ | refine Nx.at_split rfl rfl rfl rfl (fun hc => ?_) (fun hc => ?_) | refine Nx.at_splitb rfl rfl rfl rfl (fun hc => ?_) (fun hc => ?_)))
    | ((with_reducible refine Nx.is_mix ?_); first | refine Nx.m ?_ | ((fail_if_success refine Nx.m_quiet_do rfl rfl rfl rfl rfl rfl rfl ?_ ?_); (fail_if_success refine Nx.m_loud_do rfl rfl rfl rfl rfl ?_); first | refine Nx.m_dec_t rfl rfl rfl rfl (by first | assumption | omega) ?_ | refine Nx.m_dec_f rfl rfl rfl rfl (by first | assumption | omega) ?_ | refine Nx.m_split rfl rfl rfl rfl (fun hc => ?_) (fun hc => ?_) | refine Nx.m_splitb rfl rfl rfl rfl (fun hc => ?_) (fun hc => ?_)))
    | ((fail_if_success (with_reducible refine Nx.is_at ?_)); (fail_if_success (with_reducible refine Nx.is_wp ?_)); (fail_if_success (with_reducible refine Nx.is_mix ?_)); first | refine Nx.ex ?_)
  refine Nx.p_loop (σ := Nat × Option Addr × Nat × List Row × Nat) (fun x => [(0, .pointer (some ⟨b, 0, none⟩)), (1, .int .i64 (n : Int)), (5, .slice x.2.1 x.2.2.2.1.length x.2.2.1), (6, .int .i64 (x.1 : Int))])
    (fun x => [Vec 28 1 x.2.1 x.2.2.2.1.length x.2.2.1 (x.2.2.2.1.map rowV), Stars (x.2.2.2.1.map rowR), CodesR b A c L x.2.2.2.2, F]) (fun x => x.1 ≤ n ∧ x.2.2.2.1.length = x.1 ∧ (∀ r ∈ x.2.2.2.1, r.2.2.length = n ∧ r.1.isSome = true ∧ Sized r.2.2 6) ∧ x.2.2.2.2 ≤ L.length) (fun x => n - x.1) (0, none, 0, [], k) rfl ⟨Nat.zero_le _, rfl, fun x hx => absurd hx List.not_mem_nil, hk⟩ ⟨rfl, rfl, rfl, rfl, trivial⟩ ((Ent.vec_nil _ _ _).trans (Ent.pick 0 rfl ((Ent.stars_nil _).trans (by (exact Ent.auto))))) ?_
  rintro ⟨i, Ao, co, o, k1⟩ ⟨hi, hol, hrows, hk1⟩
  dsimp only at hi hol hrows hk1 ⊢
  by_cases hlt : i < n
  · repeat' first
      | ((with_reducible refine Nx.is_wp ?_); first | refine Nx.wo ?_ | refine Nx.p_dec rfl rfl (fun hc => ?_) (fun hc => ?_) | refine Nx.p_bool rfl rfl (fun hc => ?_) (fun hc => ?_))
      | ((first | refine Nx.at_op rfl rfl ?_ | refine Nx.m_loud rfl rfl rfl ?_ | refine Nx.at_do rfl rfl rfl rfl ?_ | refine Nx.m_loud_do rfl rfl rfl rfl rfl ?_); first | refine Nx.opr rfl rfl ?_ | refine Nx.so ?_ | refine Nx.sb (fun bx => ?_) | refine Nx.sa (fun A2 c2 => ?_))
      | ((with_reducible refine Nx.is_at ?_); first | refine Nx.a ?_ | ((fail_if_success refine Nx.at_do rfl rfl rfl rfl ?_); first | refine Nx.at_dec_t rfl rfl rfl rfl (by first | assumption | omega) ?_ | refine Nx.at_dec_f rfl rfl rfl rfl (by first | assumption | omega) ?_ | refine Nx.at_split rfl rfl rfl rfl (fun hc => ?_) (fun hc => ?_) | refine Nx.at_splitb rfl rfl rfl rfl (fun hc => ?_) (fun hc => ?_)))
      | ((with_reducible refine Nx.is_mix ?_); first | refine Nx.m ?_ | ((fail_if_success refine Nx.m_quiet_do rfl rfl rfl rfl rfl rfl rfl ?_ ?_); (fail_if_success refine Nx.m_loud_do rfl rfl rfl rfl rfl ?_); first | refine Nx.m_dec_t rfl rfl rfl rfl (by first | assumption | omega) ?_ | refine Nx.m_dec_f rfl rfl rfl rfl (by first | assumption | omega) ?_ | refine Nx.m_split rfl rfl rfl rfl (fun hc => ?_) (fun hc => ?_) | refine Nx.m_splitb rfl rfl rfl rfl (fun hc => ?_) (fun hc => ?_)))
      | ((fail_if_success (with_reducible refine Nx.is_at ?_)); (fail_if_success (with_reducible refine Nx.is_wp ?_)); (fail_if_success (with_reducible refine Nx.is_mix ?_)); first | refine Nx.ex ?_)
    refine Nx.p_loop (σ := Nat × Option Addr × Nat × List Int × Nat) (fun x => [(0, .pointer (some ⟨b, 0, none⟩)), (1, .int .i64 (n : Int)), (5, .slice Ao o.length co), (6, .int .i64 (i : Int)), (7, .slice x.2.1 x.2.2.2.1.length x.2.2.1), (8, .int .i64 (x.1 : Int))])
      (fun x => [intsR x.2.1 x.2.2.1 x.2.2.2.1, CodesR b A c L x.2.2.2.2, Vec 28 1 Ao o.length co (o.map rowV), Stars (o.map rowR), F]) (fun x => x.1 ≤ n ∧ x.2.2.2.1.length = x.1 ∧ Sized x.2.2.2.1 6 ∧ x.2.2.2.2 ≤ L.length) (fun x => n - x.1) (0, none, 0, [], k1) rfl ⟨Nat.zero_le _, rfl, fun x hx => absurd hx List.not_mem_nil, hk1⟩ ⟨rfl, rfl, rfl, rfl, rfl, rfl, trivial⟩ ((Ent.vec_nil _ _ _).trans (by (exact Ent.auto))) ?_
    rintro ⟨j, A1, c1, l, k2⟩ ⟨hj, hl, hs, hk2⟩
    dsimp only at hj hl hs hk2 ⊢
    by_cases hjl : j < n
    · repeat' first
        | ((with_reducible refine Nx.is_wp ?_); first | refine Nx.wo ?_ | refine Nx.p_dec rfl rfl (fun hc => ?_) (fun hc => ?_) | refine Nx.p_bool rfl rfl (fun hc => ?_) (fun hc => ?_))
        | ((first | refine Nx.at_op rfl rfl ?_ | refine Nx.m_loud rfl rfl rfl ?_ | refine Nx.at_do rfl rfl rfl rfl ?_ | refine Nx.m_loud_do rfl rfl rfl rfl rfl ?_); first | refine Nx.opr rfl rfl ?_ | (refine Nx.call rfl rfl rfl (by kernel_rfl) rfl (Range_codes b A c L k2 (-6) 6 I hL hk2 (by omega) (by omega)) (by (exact Ent.auto)) ?_; rintro _ _ ⟨r, k3, rfl, hr, hk3, rfl⟩) | refine Nx.so ?_ | refine Nx.sb (fun bx => ?_) | refine Nx.sa (fun A2 c2 => ?_))
        | ((with_reducible refine Nx.is_at ?_); first | refine Nx.a ?_ | ((fail_if_success refine Nx.at_do rfl rfl rfl rfl ?_); first | refine Nx.at_dec_t rfl rfl rfl rfl (by first | assumption | omega) ?_ | refine Nx.at_dec_f rfl rfl rfl rfl (by first | assumption | omega) ?_ | refine Nx.at_split rfl rfl rfl rfl (fun hc => ?_) (fun hc => ?_) | refine Nx.at_splitb rfl rfl rfl rfl (fun hc => ?_) (fun hc => ?_)))
        | ((with_reducible refine Nx.is_mix ?_); first | refine Nx.m ?_ | ((fail_if_success refine Nx.m_quiet_do rfl rfl rfl rfl rfl rfl rfl ?_ ?_); (fail_if_success refine Nx.m_loud_do rfl rfl rfl rfl rfl ?_); first | refine Nx.m_dec_t rfl rfl rfl rfl (by first | assumption | omega) ?_ | refine Nx.m_dec_f rfl rfl rfl rfl (by first | assumption | omega) ?_ | refine Nx.m_split rfl rfl rfl rfl (fun hc => ?_) (fun hc => ?_) | refine Nx.m_splitb rfl rfl rfl rfl (fun hc => ?_) (fun hc => ?_)))
        | ((fail_if_success (with_reducible refine Nx.is_at ?_)); (fail_if_success (with_reducible refine Nx.is_wp ?_)); (fail_if_success (with_reducible refine Nx.is_mix ?_)); first | refine Nx.ex ?_)
      have hl2 : (l ++ [r]).length = l.length + 1 := by simp
      exact Nx.again (j + 1, A2, c2, l ++ [r], k3) ⟨hjl, by dsimp only; omega, hs.snoc (by omega), hk3⟩ (by dsimp only; omega) ⟨rfl, rfl, rfl, rfl, by dsimp only; rw [hl2]; rfl, rfl, trivial⟩ (by dsimp only; unfold intsR; rw [hl2, List.map_append]; (exact Ent.auto))
    · obtain rfl : j = n := by omega
      repeat' first
        | ((with_reducible refine Nx.is_wp ?_); first | refine Nx.wo ?_ | refine Nx.p_dec rfl rfl (fun hc => ?_) (fun hc => ?_) | refine Nx.p_bool rfl rfl (fun hc => ?_) (fun hc => ?_))
        | ((first | refine Nx.at_op rfl rfl ?_ | refine Nx.m_loud rfl rfl rfl ?_ | refine Nx.at_do rfl rfl rfl rfl ?_ | refine Nx.m_loud_do rfl rfl rfl rfl rfl ?_); first | refine Nx.opr rfl rfl ?_ | refine Nx.so ?_ | refine Nx.sb (fun bx => ?_) | refine Nx.sa (fun A2 c2 => ?_))
        | ((with_reducible refine Nx.is_at ?_); first | refine Nx.a ?_ | ((fail_if_success refine Nx.at_do rfl rfl rfl rfl ?_); first | refine Nx.at_dec_t rfl rfl rfl rfl (by first | assumption | omega) ?_ | refine Nx.at_dec_f rfl rfl rfl rfl (by first | assumption | omega) ?_ | refine Nx.at_split rfl rfl rfl rfl (fun hc => ?_) (fun hc => ?_) | refine Nx.at_splitb rfl rfl rfl rfl (fun hc => ?_) (fun hc => ?_)))
        | ((with_reducible refine Nx.is_mix ?_); first | refine Nx.m ?_ | ((fail_if_success refine Nx.m_quiet_do rfl rfl rfl rfl rfl rfl rfl ?_ ?_); (fail_if_success refine Nx.m_loud_do rfl rfl rfl rfl rfl ?_); first | refine Nx.m_dec_t rfl rfl rfl rfl (by first | assumption | omega) ?_ | refine Nx.m_dec_f rfl rfl rfl rfl (by first | assumption | omega) ?_ | refine Nx.m_split rfl rfl rfl rfl (fun hc => ?_) (fun hc => ?_) | refine Nx.m_splitb rfl rfl rfl rfl (fun hc => ?_) (fun hc => ?_)))
        | ((fail_if_success (with_reducible refine Nx.is_at ?_)); (fail_if_success (with_reducible refine Nx.is_wp ?_)); (fail_if_success (with_reducible refine Nx.is_mix ?_)); first | refine Nx.ex ?_)
      have hol' : (o ++ [((A1, c1, l) : Row)]).length = o.length + 1 := by simp
      refine Nx.ent (R' := [Vec 3 1 A1 l.length c1 (l.map (Value.int .i64)), Vec 28 1 A2 (o.length + 1) c2 (o.map rowV ++ [.slice A1 l.length c1]), Stars (o.map rowR), CodesR b A c L k2, F]) (by unfold intsR; (exact Ent.auto)) ?_
      refine Nx.vec_fact fun hv1 hv2 hv3 hA1 => ?_
      refine Nx.again (i + 1, A2, c2, o ++ [(A1, c1, l)], k2) ⟨hlt, by dsimp only; omega, fun r hr => ?_, hk2⟩ (by dsimp only; omega) ⟨rfl, rfl, by dsimp only; rw [hol']; rfl, rfl, trivial⟩ ?_
      · rcases List.mem_append.1 hr with h1 | h1
        · exact hrows r h1
        · rw [List.mem_singleton.1 h1]; exact ⟨hl, hA1 (by omega), hs⟩
      · dsimp only
        rw [hol', List.map_append, List.map_append]
        exact Ent.trans (R' := rowR (A1, c1, l) :: Stars (o.map rowR) :: Vec 28 1 A2 (o.length + 1) c2 (o.map rowV ++ [.slice A1 l.length c1]) :: CodesR b A c L k2 :: [F]) (by unfold rowR intsR; (exact Ent.auto)) (Ent.bundle.trans (by (exact Ent.auto)))
  · obtain rfl : i = n := by omega
    have hM : MOk o i (fun _ _ z => -6 ≤ z ∧ z ≤ 6) := ⟨hol, fun j hj => (hrows _ (row_mem (by omega))).1, fun j hj => (hrows _ (row_mem (by omega))).2.1, fun j m hj hm => by
      have h1 := hrows _ (row_mem (v := o) (k := j) (by omega))
      have h2 := h1.2.2 ((o.getD j default).2.2.getD m default) (getD_memI (by rw [h1.1]; exact hm))
      omega⟩
    repeat' first
      | ((with_reducible refine Nx.is_wp ?_); first | refine Nx.p_stopr 11 rfl ?_ | refine Nx.wo ?_ | refine Nx.p_dec rfl rfl (fun hc => ?_) (fun hc => ?_) | refine Nx.p_bool rfl rfl (fun hc => ?_) (fun hc => ?_))
      | ((first | refine Nx.at_op rfl rfl ?_ | refine Nx.m_loud rfl rfl rfl ?_ | refine Nx.at_do rfl rfl rfl rfl ?_ | refine Nx.m_loud_do rfl rfl rfl rfl rfl ?_); first | refine Nx.opr rfl rfl ?_ | refine Nx.so ?_ | refine Nx.sb (fun bx => ?_) | refine Nx.sa (fun A2 c2 => ?_))
      | ((with_reducible refine Nx.is_at ?_); first | refine Nx.a ?_ | ((fail_if_success refine Nx.at_do rfl rfl rfl rfl ?_); first | refine Nx.at_dec_t rfl rfl rfl rfl (by first | assumption | omega) ?_ | refine Nx.at_dec_f rfl rfl rfl rfl (by first | assumption | omega) ?_ | refine Nx.at_split rfl rfl rfl rfl (fun hc => ?_) (fun hc => ?_) | refine Nx.at_splitb rfl rfl rfl rfl (fun hc => ?_) (fun hc => ?_)))
      | ((with_reducible refine Nx.is_mix ?_); first | refine Nx.m ?_ | ((fail_if_success refine Nx.m_quiet_do rfl rfl rfl rfl rfl rfl rfl ?_ ?_); (fail_if_success refine Nx.m_loud_do rfl rfl rfl rfl rfl ?_); first | refine Nx.m_dec_t rfl rfl rfl rfl (by first | assumption | omega) ?_ | refine Nx.m_dec_f rfl rfl rfl rfl (by first | assumption | omega) ?_ | refine Nx.m_split rfl rfl rfl rfl (fun hc => ?_) (fun hc => ?_) | refine Nx.m_splitb rfl rfl rfl rfl (fun hc => ?_) (fun hc => ?_)))
      | ((fail_if_success (with_reducible refine Nx.is_at ?_)); (fail_if_success (with_reducible refine Nx.is_wp ?_)); (fail_if_success (with_reducible refine Nx.is_mix ?_)); first | refine Nx.ex ?_)
    exact Nx.unstop (Nx.weak (by exact ⟨rfl, rfl, by rw [hol]; rfl, trivial⟩) (by rw [hol]; (exact Ent.auto)) (mat1 b A c L i I w F hL hn Ao co o k1 hk1 hM))
end Go.Proofs.YtpdgnjoideppjaaDoor
/- Contracts of functions of the given program, and lemmas about plain lists and numbers: what the laws of this seat lean on. -/
namespace Go.Proofs.YtpdgnjoideppjaaDoor
open Go.Eng Go.Det
attribute [local irreducible] opK wpList Code.wp Exit.then Exit.inBlock fnPost bodyPost Nx Calls Oper.wp Rd Rds Wr Ent Stars Blk Again Vec FnSpec wpMix QRun Stop Upto wpAt
set_option maxRecDepth 10000 in
set_option maxHeartbeats 8000000 in
theorem LinearExact_spec (A : Option Addr) (c : Nat) (l : List Int) (B : Option Addr) (d : Nat) (o : List Row) (L : Option Addr) (cc : Nat) (li : List Int) (I : PH) (hl : SliceOf (fun x : Int => Value.int .u8 x) I A c l) (hx : ∀ x ∈ l, 0 ≤ x ∧ x < 256) (hm : Mat I B d o) (hli : Ints I L cc li) (hT : TabI I) :
    FnSpec Tryd.prog 5 [.slice A l.length c, .slice B o.length d, .slice L li.length cc] I [] (fun v R' => v = .bool true ∧ R' = []) := by
  obtain ⟨hL, hNew⟩ := New_codes A c l I hl hx
  have hAw := awake_spec I hT
  have h1 := hm.outer.len
  have h2 := hli.len
  refine FnSpec.enterP Tryd.func5 rfl Tryd.ntmps5 rfl fun w F => ?_
  by_cases h8 : o.length ≤ 8
  case neg =>
    repeat' first
      | ((with_reducible refine Nx.is_wp ?_); first | refine Nx.wo ?_ | refine Nx.p_dec rfl rfl (fun hc => ?_) (fun hc => ?_) | refine Nx.p_bool rfl rfl (fun hc => ?_) (fun hc => ?_))
      | ((first | refine Nx.at_op rfl rfl ?_ | refine Nx.m_loud rfl rfl rfl ?_ | refine Nx.at_do rfl rfl rfl rfl ?_ | refine Nx.m_loud_do rfl rfl rfl rfl rfl ?_); first | refine Nx.opr rfl rfl ?_ | refine Nx.callv rfl rfl rfl (by kernel_rfl) rfl hAw ?_ | refine Nx.so ?_ | refine Nx.sb (fun bx => ?_) | refine Nx.sa (fun A2 c2 => ?_))
      | ((with_reducible refine Nx.is_at ?_); first | refine Nx.a ?_ | ((fail_if_success refine Nx.at_do rfl rfl rfl rfl ?_); first | refine Nx.at_dec_t rfl rfl rfl rfl (by first | assumption | omega) ?_ | refine Nx.at_dec_f rfl rfl rfl rfl (by first | assumption | omega) ?_ | refine Nx.at_split rfl rfl rfl rfl (fun hc => ?_) (fun hc => ?_) | refine Nx.at_splitb rfl rfl rfl rfl (fun hc => ?_) (fun hc => ?_)))
      | ((with_reducible refine Nx.is_mix ?_); first | refine Nx.m ?_ | ((fail_if_success refine Nx.m_quiet_do rfl rfl rfl rfl rfl rfl rfl ?_ ?_); (fail_if_success refine Nx.m_loud_do rfl rfl rfl rfl rfl ?_); first | refine Nx.m_dec_t rfl rfl rfl rfl (by first | assumption | omega) ?_ | refine Nx.m_dec_f rfl rfl rfl rfl (by first | assumption | omega) ?_ | refine Nx.m_split rfl rfl rfl rfl (fun hc => ?_) (fun hc => ?_) | refine Nx.m_splitb rfl rfl rfl rfl (fun hc => ?_) (fun hc => ?_)))
      | ((fail_if_success (with_reducible refine Nx.is_at ?_)); (fail_if_success (with_reducible refine Nx.is_wp ?_)); (fail_if_success (with_reducible refine Nx.is_mix ?_)); first | refine Nx.ex ?_)
    exact Nx.ret_fn rfl [] ⟨rfl, rfl⟩ (by (exact Ent.auto))
  by_cases hl8 : li.length ≤ 8
  case neg =>
    repeat' first
      | ((with_reducible refine Nx.is_wp ?_); first | refine Nx.wo ?_ | refine Nx.p_dec rfl rfl (fun hc => ?_) (fun hc => ?_) | refine Nx.p_bool rfl rfl (fun hc => ?_) (fun hc => ?_))
      | ((first | refine Nx.at_op rfl rfl ?_ | refine Nx.m_loud rfl rfl rfl ?_ | refine Nx.at_do rfl rfl rfl rfl ?_ | refine Nx.m_loud_do rfl rfl rfl rfl rfl ?_); first | refine Nx.opr rfl rfl ?_ | refine Nx.callv rfl rfl rfl (by kernel_rfl) rfl hAw ?_ | refine Nx.so ?_ | refine Nx.sb (fun bx => ?_) | refine Nx.sa (fun A2 c2 => ?_))
      | ((with_reducible refine Nx.is_at ?_); first | refine Nx.a ?_ | ((fail_if_success refine Nx.at_do rfl rfl rfl rfl ?_); first | refine Nx.at_dec_t rfl rfl rfl rfl (by first | assumption | omega) ?_ | refine Nx.at_dec_f rfl rfl rfl rfl (by first | assumption | omega) ?_ | refine Nx.at_split rfl rfl rfl rfl (fun hc => ?_) (fun hc => ?_) | refine Nx.at_splitb rfl rfl rfl rfl (fun hc => ?_) (fun hc => ?_)))
      | ((with_reducible refine Nx.is_mix ?_); first | refine Nx.m ?_ | ((fail_if_success refine Nx.m_quiet_do rfl rfl rfl rfl rfl rfl rfl ?_ ?_); (fail_if_success refine Nx.m_loud_do rfl rfl rfl rfl rfl ?_); first | refine Nx.m_dec_t rfl rfl rfl rfl (by first | assumption | omega) ?_ | refine Nx.m_dec_f rfl rfl rfl rfl (by first | assumption | omega) ?_ | refine Nx.m_split rfl rfl rfl rfl (fun hc => ?_) (fun hc => ?_) | refine Nx.m_splitb rfl rfl rfl rfl (fun hc => ?_) (fun hc => ?_)))
      | ((fail_if_success (with_reducible refine Nx.is_at ?_)); (fail_if_success (with_reducible refine Nx.is_wp ?_)); (fail_if_success (with_reducible refine Nx.is_mix ?_)); first | refine Nx.ex ?_)
    exact Nx.ret_fn rfl [] ⟨rfl, rfl⟩ (by (exact Ent.auto))
  repeat' first
    | ((with_reducible refine Nx.is_wp ?_); first | refine Nx.wo ?_ | refine Nx.p_dec rfl rfl (fun hc => ?_) (fun hc => ?_) | refine Nx.p_bool rfl rfl (fun hc => ?_) (fun hc => ?_))
    | ((first | refine Nx.at_op rfl rfl ?_ | refine Nx.m_loud rfl rfl rfl ?_ | refine Nx.at_do rfl rfl rfl rfl ?_ | refine Nx.m_loud_do rfl rfl rfl rfl rfl ?_); first | refine Nx.opr rfl rfl ?_ | refine Nx.so ?_ | refine Nx.sb (fun bx => ?_) | refine Nx.sa (fun A2 c2 => ?_))
    | ((with_reducible refine Nx.is_at ?_); first | refine Nx.a ?_ | ((fail_if_success refine Nx.at_do rfl rfl rfl rfl ?_); first | refine Nx.at_dec_t rfl rfl rfl rfl (by first | assumption | omega) ?_ | refine Nx.at_dec_f rfl rfl rfl rfl (by first | assumption | omega) ?_ | refine Nx.at_split rfl rfl rfl rfl (fun hc => ?_) (fun hc => ?_) | refine Nx.at_splitb rfl rfl rfl rfl (fun hc => ?_) (fun hc => ?_)))
    | ((with_reducible refine Nx.is_mix ?_); first | refine Nx.m ?_ | ((fail_if_success refine Nx.m_quiet_do rfl rfl rfl rfl rfl rfl rfl ?_ ?_); (fail_if_success refine Nx.m_loud_do rfl rfl rfl rfl rfl ?_); first | refine Nx.m_dec_t rfl rfl rfl rfl (by first | assumption | omega) ?_ | refine Nx.m_dec_f rfl rfl rfl rfl (by first | assumption | omega) ?_ | refine Nx.m_split rfl rfl rfl rfl (fun hc => ?_) (fun hc => ?_) | refine Nx.m_splitb rfl rfl rfl rfl (fun hc => ?_) (fun hc => ?_)))
    | ((fail_if_success (with_reducible refine Nx.is_at ?_)); (fail_if_success (with_reducible refine Nx.is_wp ?_)); (fail_if_success (with_reducible refine Nx.is_mix ?_)); first | refine Nx.ex ?_)
  refine Nx.p_loop (σ := Nat) (fun k => [(0, .slice A l.length c), (1, .slice B o.length d), (2, .slice L li.length cc), (22, .int .i64 o.length), (23, .int .i64 (k : Int))]) (fun _ => [F]) (fun k => k ≤ o.length) (fun k => o.length - k) 0 rfl (Nat.zero_le _) ⟨rfl, rfl, rfl, rfl, rfl, trivial⟩ (by (exact Ent.auto)) ?_
  intro k hk
  have hk : k ≤ o.length := hk
  by_cases hko : k < o.length
  · repeat' first
      | ((with_reducible refine Nx.is_wp ?_); first | refine Nx.wo ?_ | refine Nx.p_dec rfl rfl (fun hc => ?_) (fun hc => ?_) | refine Nx.p_bool rfl rfl (fun hc => ?_) (fun hc => ?_))
      | ((first | refine Nx.at_op rfl rfl ?_ | refine Nx.m_loud rfl rfl rfl ?_ | refine Nx.at_do rfl rfl rfl rfl ?_ | refine Nx.m_loud_do rfl rfl rfl rfl rfl ?_); first | refine Nx.opr rfl rfl ?_ | refine Nx.indexAddr_nat (sz := 1) rfl rfl rfl rfl rfl (by omega) (hm.outer.isSome (by omega)) ?_ | refine Nx.load rfl rfl rfl (hm.outer.rd hko) ?_ | refine Nx.callv rfl rfl rfl (by kernel_rfl) rfl hAw ?_ | refine Nx.so ?_ | refine Nx.sb (fun bx => ?_) | refine Nx.sa (fun A2 c2 => ?_))
      | ((with_reducible refine Nx.is_at ?_); first | refine Nx.a ?_ | ((fail_if_success refine Nx.at_do rfl rfl rfl rfl ?_); first | refine Nx.at_dec_t rfl rfl rfl rfl (by first | assumption | omega) ?_ | refine Nx.at_dec_f rfl rfl rfl rfl (by first | assumption | omega) ?_ | refine Nx.at_split rfl rfl rfl rfl (fun hc => ?_) (fun hc => ?_) | refine Nx.at_splitb rfl rfl rfl rfl (fun hc => ?_) (fun hc => ?_)))
      | ((with_reducible refine Nx.is_mix ?_); first | refine Nx.m ?_ | ((fail_if_success refine Nx.m_quiet_do rfl rfl rfl rfl rfl rfl rfl ?_ ?_); (fail_if_success refine Nx.m_loud_do rfl rfl rfl rfl rfl ?_); first | refine Nx.m_dec_t rfl rfl rfl rfl (by first | assumption | omega) ?_ | refine Nx.m_dec_f rfl rfl rfl rfl (by first | assumption | omega) ?_ | refine Nx.m_split rfl rfl rfl rfl (fun hc => ?_) (fun hc => ?_) | refine Nx.m_splitb rfl rfl rfl rfl (fun hc => ?_) (fun hc => ?_)))
      | ((fail_if_success (with_reducible refine Nx.is_at ?_)); (fail_if_success (with_reducible refine Nx.is_wp ?_)); (fail_if_success (with_reducible refine Nx.is_mix ?_)); first | refine Nx.ex ?_)
    · exact Nx.ret_fn rfl [] ⟨rfl, rfl⟩ (by (exact Ent.auto))
    · exact Nx.again (k + 1) hko (by omega) ⟨rfl, rfl, rfl, rfl, rfl, trivial⟩ (by (exact Ent.auto))
  repeat' first
    | ((with_reducible refine Nx.is_wp ?_); first | refine Nx.p_stopr 11 rfl ?_ | refine Nx.wo ?_ | refine Nx.p_dec rfl rfl (fun hc => ?_) (fun hc => ?_) | refine Nx.p_bool rfl rfl (fun hc => ?_) (fun hc => ?_))
    | ((first | refine Nx.at_op rfl rfl ?_ | refine Nx.m_loud rfl rfl rfl ?_ | refine Nx.at_do rfl rfl rfl rfl ?_ | refine Nx.m_loud_do rfl rfl rfl rfl rfl ?_); first | refine Nx.opr rfl rfl ?_ | refine Nx.call rfl rfl rfl (by kernel_rfl) rfl hNew (Ent.refl _) ?_; rintro _ _ ⟨bc, rfl, rfl⟩ | (refine Nx.call rfl rfl rfl (by kernel_rfl) rfl (Range_codes bc A c _ _ 1 5 I hL (Nat.zero_le _) (by omega) (by omega)) (by (exact Ent.auto)) ?_; rintro _ _ ⟨r, k1, rfl, hr, hk1, rfl⟩) | refine Nx.so ?_ | refine Nx.sb (fun bx => ?_) | refine Nx.sa (fun A2 c2 => ?_))
    | ((with_reducible refine Nx.is_at ?_); first | refine Nx.a ?_ | ((fail_if_success refine Nx.at_do rfl rfl rfl rfl ?_); first | refine Nx.at_dec_t rfl rfl rfl rfl (by first | assumption | omega) ?_ | refine Nx.at_dec_f rfl rfl rfl rfl (by first | assumption | omega) ?_ | refine Nx.at_split rfl rfl rfl rfl (fun hc => ?_) (fun hc => ?_) | refine Nx.at_splitb rfl rfl rfl rfl (fun hc => ?_) (fun hc => ?_)))
    | ((with_reducible refine Nx.is_mix ?_); first | refine Nx.m ?_ | ((fail_if_success refine Nx.m_quiet_do rfl rfl rfl rfl rfl rfl rfl ?_ ?_); (fail_if_success refine Nx.m_loud_do rfl rfl rfl rfl rfl ?_); first | refine Nx.m_dec_t rfl rfl rfl rfl (by first | assumption | omega) ?_ | refine Nx.m_dec_f rfl rfl rfl rfl (by first | assumption | omega) ?_ | refine Nx.m_split rfl rfl rfl rfl (fun hc => ?_) (fun hc => ?_) | refine Nx.m_splitb rfl rfl rfl rfl (fun hc => ?_) (fun hc => ?_)))
    | ((fail_if_success (with_reducible refine Nx.is_at ?_)); (fail_if_success (with_reducible refine Nx.is_wp ?_)); (fail_if_success (with_reducible refine Nx.is_mix ?_)); first | refine Nx.ex ?_)
  obtain ⟨n, rfl⟩ := Int.eq_ofNat_of_zero_le (show 0 ≤ r by omega)
  have hM1 := matrix_spec bc A c _ k1 n I hL hk1 (by omega)
  refine Nx.p_go rfl ?_
  repeat' first
    | ((with_reducible refine Nx.is_wp ?_); first | refine Nx.p_stopr 12 rfl ?_ | refine Nx.wo ?_ | refine Nx.p_dec rfl rfl (fun hc => ?_) (fun hc => ?_) | refine Nx.p_bool rfl rfl (fun hc => ?_) (fun hc => ?_))
    | ((first | refine Nx.at_op rfl rfl ?_ | refine Nx.m_loud rfl rfl rfl ?_ | refine Nx.at_do rfl rfl rfl rfl ?_ | refine Nx.m_loud_do rfl rfl rfl rfl rfl ?_); first | refine Nx.opr rfl rfl ?_ | (refine Nx.call rfl rfl rfl (by kernel_rfl) rfl hM1 (by (exact Ent.auto)) ?_; rintro _ _ ⟨A5, c5, a, k2, rfl, ha, hk2, rfl⟩) | (refine Nx.call rfl rfl rfl (by kernel_rfl) rfl (Range_codes bc A c _ k2 1 4 I hL hk2 (by omega) (by omega)) (by (exact Ent.auto)) ?_; rintro _ _ ⟨r2, k3, rfl, hr2, hk3, rfl⟩; obtain ⟨n2, rfl⟩ := Int.eq_ofNat_of_zero_le (show 0 ≤ r2 by omega)) | (refine Nx.call rfl rfl rfl (by kernel_rfl) rfl (matrix_spec bc A c _ k3 n2 I hL hk3 (by omega)) (by (exact Ent.auto)) ?_; rintro _ _ ⟨A6, c6, b, k4, rfl, hb, hk4, rfl⟩) | refine Nx.so ?_ | refine Nx.sb (fun bx => ?_) | refine Nx.sa (fun A2 c2 => ?_))
    | ((with_reducible refine Nx.is_at ?_); first | refine Nx.a ?_ | ((fail_if_success refine Nx.at_do rfl rfl rfl rfl ?_); first | refine Nx.at_dec_t rfl rfl rfl rfl (by first | assumption | omega) ?_ | refine Nx.at_dec_f rfl rfl rfl rfl (by first | assumption | omega) ?_ | refine Nx.at_split rfl rfl rfl rfl (fun hc => ?_) (fun hc => ?_) | refine Nx.at_splitb rfl rfl rfl rfl (fun hc => ?_) (fun hc => ?_)))
    | ((with_reducible refine Nx.is_mix ?_); first | refine Nx.m ?_ | ((fail_if_success refine Nx.m_quiet_do rfl rfl rfl rfl rfl rfl rfl ?_ ?_); (fail_if_success refine Nx.m_loud_do rfl rfl rfl rfl rfl ?_); first | refine Nx.m_dec_t rfl rfl rfl rfl (by first | assumption | omega) ?_ | refine Nx.m_dec_f rfl rfl rfl rfl (by first | assumption | omega) ?_ | refine Nx.m_split rfl rfl rfl rfl (fun hc => ?_) (fun hc => ?_) | refine Nx.m_splitb rfl rfl rfl rfl (fun hc => ?_) (fun hc => ?_)))
    | ((fail_if_success (with_reducible refine Nx.is_at ?_)); (fail_if_success (with_reducible refine Nx.is_wp ?_)); (fail_if_success (with_reducible refine Nx.is_mix ?_)); first | refine Nx.ex ?_)
  refine Nx.p_go rfl (Nx.ent (R' := [Vec 28 1 A6 b.length c6 (b.map rowV), Stars (b.map rowR), Vec 28 1 A5 a.length c5 (a.map rowV), Stars (a.map rowR), CodesR bc A c (l.take 400) k4, F]) (by (exact Ent.auto)) ?_)
  refine Nx.freezeAt 0 rfl fun I1 m1 hI1 hm1 h1' => ?_
  refine Nx.freezeAt 0 rfl fun I2 m2 hI2 hm2 h2' => ?_
  refine Nx.freezeAt 0 rfl fun I3 m3 hI3 hm3 h3' => ?_
  refine Nx.freezeAt 0 rfl fun I4 m4 hI4 hm4 h4' => ?_
  have hle4 : PH.le I I4 := ((hI1.trans hI2).trans hI3).trans hI4
  have hMb : Mat I4 A6 c6 b := mat_given (((hm1.trans hI2).trans hI3).trans hI4) h1' ((hm2.trans hI3).trans hI4) h2'
  have hMa : Mat I4 A5 c5 a := mat_given (hm3.trans hI4) h3' hm4 h4'
  have hMo := hm.mono hle4
  have hLi := hli.mono hle4
  have hT4 := TabI.mono hle4 hT
  have hL4 := hL.mono hle4
  have hA2 := agree_spec A6 c6 b A5 c5 a L cc li I4 hT4 hMb hMa hLi
  have hA3 := agree_spec B d o A5 c5 a L cc li I4 hT4 hMo hMa hLi
  have hAw4 := awake_spec I4 hT4
  repeat' first
    | ((with_reducible refine Nx.is_wp ?_); first | refine Nx.wo ?_ | refine Nx.p_dec rfl rfl (fun hc => ?_) (fun hc => ?_) | refine Nx.p_bool rfl rfl (fun hc => ?_) (fun hc => ?_))
    | ((first | refine Nx.at_op rfl rfl ?_ | refine Nx.m_loud rfl rfl rfl ?_ | refine Nx.at_do rfl rfl rfl rfl ?_ | refine Nx.m_loud_do rfl rfl rfl rfl rfl ?_); first | refine Nx.opr rfl rfl ?_ | (refine Nx.call rfl rfl rfl (by kernel_rfl) rfl (list_spec bc A c _ k4 n I4 hL4 hk4 (by omega)) (by (exact Ent.auto)) ?_; rintro _ _ ⟨A7, c7, l7, k7, rfl, hl7, hs7, hk7, rfl⟩) | (refine Nx.call_lendR 0 rfl rfl rfl (by kernel_rfl) rfl rfl (fun m' I' hI hm' h' => agree_spec A5 c5 a A6 c6 b A7 c7 l7 I' (TabI.mono hI hT4) (hMa.mono hI) (hMb.mono hI) (Vec.sliceOf hm' h')) ?_; rintro _ _ ⟨rfl, rfl⟩) | refine Nx.callv rfl rfl rfl (by kernel_rfl) rfl hA2 ?_ | refine Nx.callv rfl rfl rfl (by kernel_rfl) rfl hA3 ?_ | (refine Nx.call rfl rfl rfl (by kernel_rfl) rfl (Next_codes bc A c _ k7 2 I4 hL4 hk7 (by omega)) (by (exact Ent.auto)) ?_; rintro _ _ ⟨r8, k8, rfl, hr8, hk8, rfl⟩; obtain ⟨n8, rfl⟩ := Int.eq_ofNat_of_zero_le (show 0 ≤ r8 by omega)) | (refine Nx.call rfl rfl rfl (by kernel_rfl) rfl (list_spec bc A c _ k8 (n + n8) I4 hL4 hk8 (by omega)) (by (exact Ent.auto)) ?_; rintro _ _ ⟨A9, c9, l9, k9, rfl, hl9, hs9, hk9, rfl⟩) | (refine Nx.call_lendR 0 rfl rfl rfl (by kernel_rfl) rfl rfl (fun m' I' hI hm' h' => agree_spec A5 c5 a B d o A9 c9 l9 I' (TabI.mono hI hT4) (hMa.mono hI) (hMo.mono hI) (Vec.sliceOf hm' h')) ?_; rintro _ _ ⟨rfl, rfl⟩) | refine Nx.callv rfl rfl rfl (by kernel_rfl) rfl hAw4 ?_ | refine Nx.so ?_ | refine Nx.sb (fun bx => ?_) | refine Nx.sa (fun A2 c2 => ?_))
    | ((with_reducible refine Nx.is_at ?_); first | refine Nx.a ?_ | ((fail_if_success refine Nx.at_do rfl rfl rfl rfl ?_); first | refine Nx.at_dec_t rfl rfl rfl rfl (by first | assumption | omega) ?_ | refine Nx.at_dec_f rfl rfl rfl rfl (by first | assumption | omega) ?_ | refine Nx.at_split rfl rfl rfl rfl (fun hc => ?_) (fun hc => ?_) | refine Nx.at_splitb rfl rfl rfl rfl (fun hc => ?_) (fun hc => ?_)))
    | ((with_reducible refine Nx.is_mix ?_); first | refine Nx.m ?_ | ((fail_if_success refine Nx.m_quiet_do rfl rfl rfl rfl rfl rfl rfl ?_ ?_); (fail_if_success refine Nx.m_loud_do rfl rfl rfl rfl rfl ?_); first | refine Nx.m_dec_t rfl rfl rfl rfl (by first | assumption | omega) ?_ | refine Nx.m_dec_f rfl rfl rfl rfl (by first | assumption | omega) ?_ | refine Nx.m_split rfl rfl rfl rfl (fun hc => ?_) (fun hc => ?_) | refine Nx.m_splitb rfl rfl rfl rfl (fun hc => ?_) (fun hc => ?_)))
    | ((fail_if_success (with_reducible refine Nx.is_at ?_)); (fail_if_success (with_reducible refine Nx.is_wp ?_)); (fail_if_success (with_reducible refine Nx.is_mix ?_)); first | refine Nx.ex ?_)
  exact Nx.imm_le hle4 (Nx.ret_fn rfl [] ⟨rfl, rfl⟩ (by (exact Ent.auto)))
end Go.Proofs.YtpdgnjoideppjaaDoor
/- Contracts of functions of the given program, and lemmas about plain lists and numbers: what the laws of this seat lean on. -/
namespace Go.Proofs.YtpdgnjoideppjaaDoor
open Go.Eng
/-! The table that the program reads, and a matrix that comes in -/
theorem g64 : Tryd.prog.globalNamed  "math/bits.deBruijn64tab" = some 0 := by kernel_rfl
theorem g64T : (Tryd.prog.globals[0]?).map (·.type) = some 100 := by kernel_rfl
theorem c5 : Tryd.prog.cellsOf 5 = 1 := by kernel_rfl
theorem c79 : Tryd.prog.cellsOf 100 = 64 := by kernel_rfl
abbrev laid1 : List (String × DataW Unit) := [("math/bits.deBruijn64tab", Rows.laid_math_bits_deBruijn64tab)]
def setBlk (cs : List Value) : Obj → Obj
  | .cells _ t frozen => .cells cs.toArray t frozen
  | o => o
/-- The settled world, the table holding what its initialiser lays: the witness. -/
noncomputable def laidWorld (os : Os) : World :=
  { World.holding Tryd.prog os ⟨#[], #[], []⟩ with heap := (World.holding Tryd.prog os ⟨#[], #[], []⟩).heap.modify 0 (setBlk (Lib.deBruijn64tab.map fun z : Nat => Value.int .u8 z)) }
theorem laidWorld_met (os : Os) (args : Array Value) : laidMetH Tryd.prog laid1 ((laidWorld os).forCall (fun _ _ => 0) ⟨#[], args, []⟩).memory :=
  laidMetH_of_parts (laidMet_of_run' 8 (by kernel_rfl) (by kernel_rfl)) (by kernel_rfl)
theorem heap_keep {W w0 w : World} {R : List Res} (h : St w0 (fun i => W.heap[i]?) R w) {i : Nat} {o : Obj} (ho : W.heap[i]? = some o) : w.heap[i]? = some o := by
  obtain ⟨m, _, hs⟩ := h.mem
  exact hs.imm i o ho
theorem var_keep {W w0 w : World} {R : List Res} (h : St w0 (fun i => W.heap[i]?) R w) {P : Program} {name : String} {k : IntKind} {zs : List Int} (ht : Lib.TabIs P W name k zs) : Lib.TabIs P w name k zs := by
  unfold Lib.TabIs World.var? at *
  cases hg : P.globalNamed name with
  | none => simp [hg] at ht
  | some g =>
    simp only [hg, Option.bind_some] at ht ⊢
    cases ho : W.heap[g]? with
    | none => rw [ho] at ht; simp at ht
    | some o => rw [heap_keep h ho]; rw [ho] at ht; exact ht
theorem tab_of {W : World} (h : laidMetH Tryd.prog laid1 W) : TabI (fun i => W.heap[i]?) := fun _ _ _ hst j hj => by
  have h1 : Lib.TabIs Tryd.prog W  "math/bits.deBruijn64tab" .u8 (Lib.deBruijn64tab.map fun z : Nat => (z : Int)) := Lib.tabIs_of_head g64 g64T Tryd.underlying100 Tryd.underlying5 c5 c79 (h : laidMet Tryd.prog laid1 W)
  have h2 := (var_keep hst h1).cell g64 j (by rw [List.length_map]; exact hj)
  rw [show (Lib.deBruijn64tab.map fun z : Nat => (z : Int)).getD j 0 = ((Lib.deBruijn64tab.getD j 0 : Nat) : Int) by
    rw [List.getD_eq_getElem?_getD, List.getD_eq_getElem?_getD, List.getElem?_map]
    cases Lib.deBruijn64tab[j]? <;> rfl] at h2
  exact h2
end Go.Proofs.YtpdgnjoideppjaaDoor
/- Contracts of functions of the given program, and lemmas about plain lists and numbers: what the laws of this seat lean on. -/
namespace Go.Proofs.YtpdgnjoideppjaaDoor
open Go.Eng
/-! A matrix that comes in -/
section
open Go.ChangeShapes Go.WideShapes Go.RowKit Go.Deep
variable {H : Type} {enc : TypeId × Value → H} {W : World} {base : Nat} {v : Value} {d : DataW H} {ps : List MemPlace} {sp : Nat → Bool}
theorem row_cells {fuel : Nat} {cs : List Value} {x : DataW H × List MemPlace} (h : DataW.trod enc Tryd.prog W base sp true fuel 28 cs = some x) : ∃ y : Row, cs = [rowV y] ∧ Ints (fun i => W.heap[i]?) y.1 y.2.1 y.2.2 := by
  rcases ChangeShapes.open_ints Tryd.underlying28 Tryd.underlying3 (by kernel_rfl) h with ⟨hcs, _⟩ | ⟨a, n, c, zs, hcs, _, hle, hm, hz, _, hcell, _⟩
  · exact ⟨(none, 0, []), hcs, SliceOf.nil⟩
  · have hzl : n ≤ zs.length := by rw [hz]; split <;> omega
    have hlen : (zs.take n).length = n := by rw [List.length_take]; omega
    refine ⟨(some a, c, zs.take n), by rw [hcs]; show [Value.slice (some a) n c] = [Value.slice (some a) (zs.take n).length c]; rw [hlen], ⟨fun j u hj => ⟨rfl, ?_⟩, by dsimp only; rw [hlen]; exact hle, hm⟩⟩
    dsimp only at hj
    rw [List.getElem?_map, List.getElem?_take] at hj
    split at hj
    · rename_i hjn
      have := hcell j (by omega)
      rw [List.getElem?_eq_getElem (by omega)] at hj
      simp at hj
      rw [List.getD_eq_getElem?_getD, List.getElem?_eq_getElem (by omega)] at this
      rw [← hj]
      exact this
    · simp at hj
theorem choose_row {n : Nat} {p : Nat → Row → Prop} (h : ∀ i, i < n → ∃ y, p i y) : ∃ q : Nat → Row, ∀ i, i < n → p i (q i) :=
  ⟨fun i => if hi : i < n then (h i hi).choose else default, fun i hi => by dsimp only; rw [dif_pos hi]; exact (h i hi).choose_spec⟩
set_option maxRecDepth 100000 in
theorem open_mat (hval : Value.okWide Tryd.prog W .any base 26 v) (h : DataW.Trod enc Tryd.prog W 0 sp true 26 v d ps) :
    ∃ (A : Option Addr) (c : Nat) (o : List Row), v = .slice A o.length c ∧ Mat (fun i => W.heap[i]?) A c o := by
  obtain ⟨A, n, c, rfl⟩ := okWide_slice Tryd.underlying26 hval
  obtain ⟨fuel, hf⟩ := h
  have hc1 : Tryd.prog.cellsOf 28 = 1 := by kernel_rfl
  rcases open_slice Tryd.underlying26 hf with ⟨hcs, hx⟩ | ⟨a, len, cap, m, n', D, Pl, hcs, _, hle, hm, hmm, _, hcell⟩
  · simp [Value.cells] at hcs
    obtain ⟨rfl, rfl, rfl⟩ := hcs
    exact ⟨none, 0, [], rfl, SliceOf.nil, by simp⟩
  · simp [Value.cells] at hcs
    obtain ⟨rfl, rfl, rfl⟩ := hcs
    have hnm : n ≤ m := by rw [hmm]; split <;> omega
    obtain ⟨q, hq⟩ := choose_row (n := n) (p := fun i y => W.cell? (a.add i) = some (rowV y) ∧ Ints (fun i => W.heap[i]?) y.1 y.2.1 y.2.2) (fun i hi => by
      obtain ⟨cs', h1, h2⟩ := hcell i (by omega)
      obtain ⟨y, rfl, ho⟩ := row_cells h2
      refine ⟨y, ?_, ho⟩
      obtain ⟨_, _, h3⟩ := World.cells?_some h1
      have := h3 0 (by rw [hc1]; decide)
      rw [Addr.add_add, hc1] at this
      simpa using this)
    have hl : ((List.range n).map q).length = n := by simp
    refine ⟨some a, c, (List.range n).map q, by rw [hl], ⟨fun j u hj => ?_, by rw [hl]; exact hle, hm⟩, fun x hx => ?_⟩
    · rw [List.map_map, List.getElem?_map] at hj
      by_cases hjn : j < n
      · rw [List.getElem?_range hjn] at hj
        have hj : rowV (q j) = u := Option.some.inj hj
        rw [← hj]
        exact ⟨rfl, (hq j hjn).1⟩
      · rw [List.getElem?_eq_none (by simp; omega)] at hj
        cases hj
    · obtain ⟨i, hi, rfl⟩ := List.mem_map.1 hx
      exact (hq i (List.mem_range.1 hi)).2
end
end Go.Proofs.YtpdgnjoideppjaaDoor
