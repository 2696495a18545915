/- Contracts of functions of the given program, and lemmas about plain lists and numbers: what the laws of this seat lean on. -/
import Derived.Test.YtpdgnjoideppjaaDoorRows
import Derived.Test.YtpdgnjoideppjaaDoorChecked
import Derived.WalkKit
import Derived.ProofKit
import Derived.OpenShut
import Derived.LaidHandle
import Derived.LaidLaws
import Derived.Lib.LaidTab
import Derived.Stop.LaidErr
import Derived.Test.YtpdgnjoideppjaaDoorLk6
namespace Go.Proofs.YtpdgnjoideppjaaDoor
open Go.Eng Go.Det
attribute [local irreducible] opK wpList Code.wp Exit.then Exit.inBlock fnPost bodyPost Nx Calls Oper.wp Rd Rds Wr Ent Stars Blk Again Vec FnSpec wpMix QRun Stop Upto wpAt
/-! A matrix is drawn -/
/-- What holds of all numbers of a matrix that is drawn. -/
def Big (z : Int) : Prop := -12884901888 ≤ z ∧ z ≤ 12884901888
/-- .. and that all rows but the first one are small. -/
def Fine (i : Nat) (z : Int) : Prop := Big z ∧ (1 ≤ i → -54 ≤ z ∧ z ≤ 54)
def matDrawn (b : Nat) (A : Option Addr) (c : Nat) (L : List Int) (n : Nat) (v : Value) (R' : List Res) : Prop :=
  ∃ (A' : Option Addr) (c' : Nat) (o : List Row) (k' : Nat), v = .slice A' o.length c' ∧ MOk o n (fun i _ z => Fine i z) ∧ k' ≤ L.length ∧ R' = [Vec 28 1 A' o.length c' (o.map rowV), Stars (o.map rowR), CodesR b A c L k']
theorem run_shlJ {P : Program} {t : TypeId} {x y : Operand} {n p : Nat} {z : Int} (hz : z = (n : Int)) (hn : n < 33) (hp : p = 2 ^ n) : pureRun P (do eqGuard .shl t x y (.int .i64 1) (.int .u64 z); binOp .shl t (.int .i64 1) (.int .u64 z)) = some (.int .i64 (p : Int)) := by
  subst hz hp
  have : n = 0 ∨ n = 1 ∨ n = 2 ∨ n = 3 ∨ n = 4 ∨ n = 5 ∨ n = 6 ∨ n = 7 ∨ n = 8 ∨ n = 9 ∨ n = 10 ∨ n = 11 ∨ n = 12 ∨ n = 13 ∨ n = 14 ∨ n = 15 ∨ n = 16 ∨ n = 17 ∨ n = 18 ∨ n = 19 ∨ n = 20 ∨ n = 21 ∨ n = 22 ∨ n = 23 ∨ n = 24 ∨ n = 25 ∨ n = 26 ∨ n = 27 ∨ n = 28 ∨ n = 29 ∨ n = 30 ∨ n = 31 ∨ n = 32 := by omega
  rcases this with rfl | rfl | rfl | rfl | rfl | rfl | rfl | rfl | rfl | rfl | rfl | rfl | rfl | rfl | rfl | rfl | rfl | rfl | rfl | rfl | rfl | rfl | rfl | rfl | rfl | rfl | rfl | rfl | rfl | rfl | rfl | rfl | rfl <;> rfl
set_option maxRecDepth 10000 in
theorem mat4 (b : Nat) (A : Option Addr) (c : Nat) (L : List Int) (n : Nat) (I : PH) (w : World) (F : Res) (Ao : Option Addr) (co : Nat) (o : List Row) (k : Nat) (hk : k ≤ L.length) (hM : MOk o n (fun i _ z => Fine i z)) : Nx ⟨Tryd.prog, 98, w⟩ [(0, .pointer (some ⟨b, 0, none⟩)), (1, .int .i64 (n : Int)), (5, .slice Ao n co)] I [Vec 28 1 Ao n co (o.map rowV), Stars (o.map rowR), CodesR b A c L k, F] (Code.wp Tryd.prog (cr (cr (cr (cr (cr (cr (bodyOf Tryd.f10))))))) (fnPost Tryd.prog Tryd.f10 I F w (matDrawn b A c L n))) := by
  have hol := hM.len
  repeat' first
    | ((with_reducible refine Nx.is_wp ?_); first | refine Nx.wo ?_ | refine Nx.p_dec rfl rfl (fun hc => ?_) (fun hc => ?_) | refine Nx.p_bool rfl rfl (fun hc => ?_) (fun hc => ?_))
    | ((first | refine Nx.at_op rfl rfl ?_ | refine Nx.m_loud rfl rfl rfl ?_ | refine Nx.at_do rfl rfl rfl rfl ?_ | refine Nx.m_loud_do rfl rfl rfl rfl rfl ?_); first | refine Nx.opr rfl rfl ?_ | refine Nx.so ?_ | refine Nx.sb (fun bx => ?_) | refine Nx.sa (fun A2 c2 => ?_))
    | ((with_reducible refine Nx.is_at ?_); first | refine Nx.a ?_ | ((fail_if_success refine Nx.at_do rfl rfl rfl rfl ?_); first | refine Nx.at_dec_t rfl rfl rfl rfl (by first | assumption | omega) ?_ | refine Nx.at_dec_f rfl rfl rfl rfl (by first | assumption | omega) ?_ | refine Nx.at_split rfl rfl rfl rfl (fun hc => ?_) (fun hc => ?_) | refine Nx.at_splitb rfl rfl rfl rfl (fun hc => ?_) (fun hc => ?_)))
    | ((with_reducible refine Nx.is_mix ?_); first | refine Nx.m ?_ | ((fail_if_success refine Nx.m_quiet_do rfl rfl rfl rfl rfl rfl rfl ?_ ?_); (fail_if_success refine Nx.m_loud_do rfl rfl rfl rfl rfl ?_); first | refine Nx.m_dec_t rfl rfl rfl rfl (by first | assumption | omega) ?_ | refine Nx.m_dec_f rfl rfl rfl rfl (by first | assumption | omega) ?_ | refine Nx.m_split rfl rfl rfl rfl (fun hc => ?_) (fun hc => ?_) | refine Nx.m_splitb rfl rfl rfl rfl (fun hc => ?_) (fun hc => ?_)))
    | ((fail_if_success (with_reducible refine Nx.is_at ?_)); (fail_if_success (with_reducible refine Nx.is_wp ?_)); (fail_if_success (with_reducible refine Nx.is_mix ?_)); first | refine Nx.ex ?_)
  exact Nx.ret_fn rfl [Vec 28 1 Ao o.length co (o.map rowV), Stars (o.map rowR), CodesR b A c L k] ⟨Ao, co, o, k, by rw [hol], hM, hk, rfl⟩ (by rw [hol]; (exact Ent.auto))
set_option maxRecDepth 10000 in
set_option maxHeartbeats 8000000 in
theorem mat3 (b : Nat) (A : Option Addr) (c : Nat) (L : List Int) (n : Nat) (I : PH) (w : World) (F : Res) (hL : CodesI I A c L) (hn : 1 ≤ n ∧ n ≤ 1000) (Ao : Option Addr) (co : Nat) (o : List Row) (k : Nat) (hk : k ≤ L.length) (hM : MOk o n (fun i _ z => (-4294967296 ≤ z ∧ z ≤ 4294967296) ∧ (1 ≤ i → -18 ≤ z ∧ z ≤ 18))) : Nx ⟨Tryd.prog, 98, w⟩ [(0, .pointer (some ⟨b, 0, none⟩)), (1, .int .i64 (n : Int)), (5, .slice Ao n co)] I [Vec 28 1 Ao n co (o.map rowV), Stars (o.map rowR), CodesR b A c L k, F] (Code.wp Tryd.prog (cl (cr (cr (cr (cr (cr (bodyOf Tryd.f10))))))) (Exit.then (Code.wp Tryd.prog (cr (cr (cr (cr (cr (cr (bodyOf Tryd.f10))))))) (fnPost Tryd.prog Tryd.f10 I F w (matDrawn b A c L n))) (fnPost Tryd.prog Tryd.f10 I F w (matDrawn b A c L n)))) := by
  by_cases hn1 : 1 < n
  case neg =>
    repeat' first
      | ((with_reducible refine Nx.is_wp ?_); first | refine Nx.p_stopr 23 rfl ?_ | refine Nx.wo ?_ | refine Nx.p_dec rfl rfl (fun hc => ?_) (fun hc => ?_) | refine Nx.p_bool rfl rfl (fun hc => ?_) (fun hc => ?_))
      | ((first | refine Nx.at_op rfl rfl ?_ | refine Nx.m_loud rfl rfl rfl ?_ | refine Nx.at_do rfl rfl rfl rfl ?_ | refine Nx.m_loud_do rfl rfl rfl rfl rfl ?_); first | refine Nx.opr rfl rfl ?_ | refine Nx.so ?_ | refine Nx.sb (fun bx => ?_) | refine Nx.sa (fun A2 c2 => ?_))
      | ((with_reducible refine Nx.is_at ?_); first | refine Nx.a ?_ | ((fail_if_success refine Nx.at_do rfl rfl rfl rfl ?_); first | refine Nx.at_dec_t rfl rfl rfl rfl (by first | assumption | omega) ?_ | refine Nx.at_dec_f rfl rfl rfl rfl (by first | assumption | omega) ?_ | refine Nx.at_split rfl rfl rfl rfl (fun hc => ?_) (fun hc => ?_) | refine Nx.at_splitb rfl rfl rfl rfl (fun hc => ?_) (fun hc => ?_)))
      | ((with_reducible refine Nx.is_mix ?_); first | refine Nx.m ?_ | ((fail_if_success refine Nx.m_quiet_do rfl rfl rfl rfl rfl rfl rfl ?_ ?_); (fail_if_success refine Nx.m_loud_do rfl rfl rfl rfl rfl ?_); first | refine Nx.m_dec_t rfl rfl rfl rfl (by first | assumption | omega) ?_ | refine Nx.m_dec_f rfl rfl rfl rfl (by first | assumption | omega) ?_ | refine Nx.m_split rfl rfl rfl rfl (fun hc => ?_) (fun hc => ?_) | refine Nx.m_splitb rfl rfl rfl rfl (fun hc => ?_) (fun hc => ?_)))
      | ((fail_if_success (with_reducible refine Nx.is_at ?_)); (fail_if_success (with_reducible refine Nx.is_wp ?_)); (fail_if_success (with_reducible refine Nx.is_mix ?_)); first | refine Nx.ex ?_)
    exact Nx.unstop (Nx.weak (by exact ⟨rfl, rfl, rfl, trivial⟩) (by (exact Ent.auto)) (mat4 b A c L n I w F Ao co o k hk (hM.weak fun i _ z hz => by unfold Fine Big; omega)))
  repeat' first
    | ((with_reducible refine Nx.is_wp ?_); first | refine Nx.p_stopr 23 rfl ?_ | refine Nx.wo ?_ | refine Nx.p_dec rfl rfl (fun hc => ?_) (fun hc => ?_) | refine Nx.p_bool rfl rfl (fun hc => ?_) (fun hc => ?_))
    | ((first | refine Nx.at_op rfl rfl ?_ | refine Nx.m_loud rfl rfl rfl ?_ | refine Nx.at_do rfl rfl rfl rfl ?_ | refine Nx.m_loud_do rfl rfl rfl rfl rfl ?_); first | refine Nx.opr rfl rfl ?_ | (refine Nx.call rfl rfl rfl (by kernel_rfl) rfl (One_codes b A c L k 6 I hL hk (by omega)) (by (exact Ent.auto)) ?_; rintro _ _ ⟨r, k1, rfl, hk1, rfl⟩) | refine Nx.so ?_ | refine Nx.sb (fun bx => ?_) | refine Nx.sa (fun A2 c2 => ?_))
    | ((with_reducible refine Nx.is_at ?_); first | refine Nx.a ?_ | ((fail_if_success refine Nx.at_do rfl rfl rfl rfl ?_); first | refine Nx.at_dec_t rfl rfl rfl rfl (by first | assumption | omega) ?_ | refine Nx.at_dec_f rfl rfl rfl rfl (by first | assumption | omega) ?_ | refine Nx.at_split rfl rfl rfl rfl (fun hc => ?_) (fun hc => ?_) | refine Nx.at_splitb rfl rfl rfl rfl (fun hc => ?_) (fun hc => ?_)))
    | ((with_reducible refine Nx.is_mix ?_); first | refine Nx.m ?_ | ((fail_if_success refine Nx.m_quiet_do rfl rfl rfl rfl rfl rfl rfl ?_ ?_); (fail_if_success refine Nx.m_loud_do rfl rfl rfl rfl rfl ?_); first | refine Nx.m_dec_t rfl rfl rfl rfl (by first | assumption | omega) ?_ | refine Nx.m_dec_f rfl rfl rfl rfl (by first | assumption | omega) ?_ | refine Nx.m_split rfl rfl rfl rfl (fun hc => ?_) (fun hc => ?_) | refine Nx.m_splitb rfl rfl rfl rfl (fun hc => ?_) (fun hc => ?_)))
    | ((fail_if_success (with_reducible refine Nx.is_at ?_)); (fail_if_success (with_reducible refine Nx.is_wp ?_)); (fail_if_success (with_reducible refine Nx.is_mix ?_)); first | refine Nx.ex ?_)
  · refine Nx.ent (R' := [Vec 28 1 Ao n co (o.map rowV), Stars (o.map rowR), CodesR b A c L k1, F]) (by (exact Ent.auto)) ?_
    refine Nx.vec_fact fun hv1 hv2 hv3 hAo => ?_
    refine Nx.p_loop (σ := Nat × List Row) (fun x => [(0, .pointer (some ⟨b, 0, none⟩)), (1, .int .i64 (n : Int)), (5, .slice Ao n co), (10, .int .i64 (x.1 : Int))])
      (fun x => [Vec 28 1 Ao n co (x.2.map rowV), Stars (x.2.map rowR), CodesR b A c L k1, F]) (fun x => x.1 ≤ n ∧ MOk x.2 n (fun i j z => ((-4294967296 ≤ z ∧ z ≤ 4294967296) ∧ (1 ≤ i → -18 ≤ z ∧ z ≤ 18)) ∨ j = 1 ∧ Fine i z)) (fun x => n - x.1) (0, o) rfl ⟨Nat.zero_le _, hM.weak fun _ _ _ hz => Or.inl hz⟩ ⟨rfl, rfl, rfl, rfl, trivial⟩ (by (exact Ent.auto)) ?_
    rintro ⟨i, o'⟩ ⟨hi, hM'⟩
    dsimp only at hi hM' ⊢
    by_cases hlt : i < n
    case neg =>
      repeat' first
        | ((with_reducible refine Nx.is_wp ?_); first | refine Nx.p_stopr 23 rfl ?_ | refine Nx.wo ?_ | refine Nx.p_dec rfl rfl (fun hc => ?_) (fun hc => ?_) | refine Nx.p_bool rfl rfl (fun hc => ?_) (fun hc => ?_))
        | ((first | refine Nx.at_op rfl rfl ?_ | refine Nx.m_loud rfl rfl rfl ?_ | refine Nx.at_do rfl rfl rfl rfl ?_ | refine Nx.m_loud_do rfl rfl rfl rfl rfl ?_); first | refine Nx.opr rfl rfl ?_ | refine Nx.so ?_ | refine Nx.sb (fun bx => ?_) | refine Nx.sa (fun A2 c2 => ?_))
        | ((with_reducible refine Nx.is_at ?_); first | refine Nx.a ?_ | ((fail_if_success refine Nx.at_do rfl rfl rfl rfl ?_); first | refine Nx.at_dec_t rfl rfl rfl rfl (by first | assumption | omega) ?_ | refine Nx.at_dec_f rfl rfl rfl rfl (by first | assumption | omega) ?_ | refine Nx.at_split rfl rfl rfl rfl (fun hc => ?_) (fun hc => ?_) | refine Nx.at_splitb rfl rfl rfl rfl (fun hc => ?_) (fun hc => ?_)))
        | ((with_reducible refine Nx.is_mix ?_); first | refine Nx.m ?_ | ((fail_if_success refine Nx.m_quiet_do rfl rfl rfl rfl rfl rfl rfl ?_ ?_); (fail_if_success refine Nx.m_loud_do rfl rfl rfl rfl rfl ?_); first | refine Nx.m_dec_t rfl rfl rfl rfl (by first | assumption | omega) ?_ | refine Nx.m_dec_f rfl rfl rfl rfl (by first | assumption | omega) ?_ | refine Nx.m_split rfl rfl rfl rfl (fun hc => ?_) (fun hc => ?_) | refine Nx.m_splitb rfl rfl rfl rfl (fun hc => ?_) (fun hc => ?_)))
        | ((fail_if_success (with_reducible refine Nx.is_at ?_)); (fail_if_success (with_reducible refine Nx.is_wp ?_)); (fail_if_success (with_reducible refine Nx.is_mix ?_)); first | refine Nx.ex ?_)
      exact Nx.unstop (Nx.weak (by exact ⟨rfl, rfl, rfl, trivial⟩) (by (exact Ent.auto)) (mat4 b A c L n I w F Ao co o' k1 hk1 (hM'.weak fun i _ z hz => by rcases hz with hz | ⟨_, hz⟩ <;> unfold Fine Big at * <;> omega)))
    have hol := hM'.len
    have hri := hM'.row i hlt
    have hsi := hM'.some i hlt
    have he := (hM'.ent i 0 hlt (by omega)).resolve_right fun h => absurd h.1 (by decide)
    repeat' first
      | ((with_reducible refine Nx.is_wp ?_); first | refine Nx.p_stopr 23 rfl ?_ | refine Nx.wo ?_ | refine Nx.p_drawF (id := 15) rfl [0, 1, 2, 3, 4, 5, 6, 7, 8, 9, 10, 11, 12, 13, 14, 15, 16, 17, 18, 19, 20, 21, 22] [] [23] _ rfl rfl (by kernel_rfl) (by kernel_rfl) rfl (by repeat first | exact PanicOk.fn | refine PanicOk.then_ ?_ | refine PanicOk.inB ?_) (Ent.refl _) ?_ | refine Nx.p_drawF (id := 17) rfl [0, 1, 2, 3, 4, 5, 6, 7] [4] [8] _ rfl rfl (by kernel_rfl) (by kernel_rfl) rfl (by repeat first | exact PanicOk.fn | refine PanicOk.then_ ?_ | refine PanicOk.inB ?_) (Ent.refl _) ?_ | refine Nx.p_drawF (id := 22) rfl [0, 1, 2, 3, 4, 5, 6, 7, 8, 9, 10, 11] [] [12] _ rfl rfl (by kernel_rfl) (by kernel_rfl) rfl (by repeat first | exact PanicOk.fn | refine PanicOk.then_ ?_ | refine PanicOk.inB ?_) (Ent.refl _) ?_ | refine Nx.p_dec rfl rfl (fun hc => ?_) (fun hc => ?_) | refine Nx.p_bool rfl rfl (fun hc => ?_) (fun hc => ?_))
      | ((first | refine Nx.at_op rfl rfl ?_ | refine Nx.m_loud rfl rfl rfl ?_ | refine Nx.at_do rfl rfl rfl rfl ?_ | refine Nx.m_loud_do rfl rfl rfl rfl rfl ?_); first | refine Nx.opr rfl rfl ?_ | refine Nx.store_row 1 (o := o') (i := i) (j := 1) rfl rfl rfl rfl (by omega) (by omega) ?_ | refine Nx.so ?_ | refine Nx.sb (fun bx => ?_) | refine Nx.sa (fun A2 c2 => ?_))
      | ((with_reducible refine Nx.is_at ?_); first | refine Nx.a ?_ | ((fail_if_success refine Nx.at_do rfl rfl rfl rfl ?_); first | refine Nx.at_dec_t rfl rfl rfl rfl (by first | assumption | omega) ?_ | refine Nx.at_dec_f rfl rfl rfl rfl (by first | assumption | omega) ?_ | refine Nx.at_split rfl rfl rfl rfl (fun hc => ?_) (fun hc => ?_) | refine Nx.at_splitb rfl rfl rfl rfl (fun hc => ?_) (fun hc => ?_)))
      | ((with_reducible refine Nx.is_mix ?_); first | refine Nx.m_quiet rfl rfl rfl rfl rfl (by first | exact QRun.opr rfl | exact QRun.idx (A := Ao) (i := i) (sz := 1) rfl rfl rfl rfl (by omega) (hAo (by omega)) | exact QRun.load rfl rfl (Rd.vecEl 0 (f := rowV) rfl (by omega)) | exact QRun.idx (A := (o'.getD i default).1) (i := 0) (sz := 1) rfl rfl rfl rfl (by omega) hsi | exact QRun.idx (A := (o'.getD i default).1) (i := 1) (sz := 1) rfl rfl rfl rfl (by omega) hsi | exact QRun.load rfl rfl (row_rd 1 rfl (by omega) (by omega))) ?_ | refine Nx.m_quiet_do rfl rfl rfl rfl rfl rfl rfl (by first | exact QRun.opr rfl | exact QRun.idx (A := Ao) (i := i) (sz := 1) rfl rfl rfl rfl (by omega) (hAo (by omega)) | exact QRun.load rfl rfl (Rd.vecEl 0 (f := rowV) rfl (by omega)) | exact QRun.idx (A := (o'.getD i default).1) (i := 0) (sz := 1) rfl rfl rfl rfl (by omega) hsi | exact QRun.idx (A := (o'.getD i default).1) (i := 1) (sz := 1) rfl rfl rfl rfl (by omega) hsi | exact QRun.load rfl rfl (row_rd 1 rfl (by omega) (by omega))) ?_ | refine Nx.m ?_ | ((fail_if_success refine Nx.m_quiet_do rfl rfl rfl rfl rfl rfl rfl ?_ ?_); (fail_if_success refine Nx.m_loud_do rfl rfl rfl rfl rfl ?_); first | refine Nx.m_dec_t rfl rfl rfl rfl (by first | assumption | omega) ?_ | refine Nx.m_dec_f rfl rfl rfl rfl (by first | assumption | omega) ?_ | refine Nx.m_split rfl rfl rfl rfl (fun hc => ?_) (fun hc => ?_) | refine Nx.m_splitb rfl rfl rfl rfl (fun hc => ?_) (fun hc => ?_)))
      | ((fail_if_success (with_reducible refine Nx.is_at ?_)); (fail_if_success (with_reducible refine Nx.is_wp ?_)); (fail_if_success (with_reducible refine Nx.is_mix ?_)); first | refine Nx.ex ?_)
    exact Nx.again (i + 1, setRow o' i 1 (3 * (o'.getD i default).2.2.getD 0 default)) ⟨hlt, hM'.set (Or.inr ⟨rfl, by unfold Fine Big; omega⟩)⟩ (by dsimp only; omega) ⟨rfl, rfl, rfl, rfl, trivial⟩ (by dsimp only; rw [setRow_outer (by omega)]; (exact Ent.auto))
  · exact Nx.unstop (Nx.weak (by exact ⟨rfl, rfl, rfl, trivial⟩) (by (exact Ent.auto)) (mat4 b A c L n I w F Ao co o k1 hk1 (hM.weak fun i _ z hz => by unfold Fine Big; omega)))
set_option maxRecDepth 10000 in
set_option maxHeartbeats 8000000 in
theorem mat2 (b : Nat) (A : Option Addr) (c : Nat) (L : List Int) (n : Nat) (I : PH) (w : World) (F : Res) (hL : CodesI I A c L) (hn : 1 ≤ n ∧ n ≤ 1000) (Ao : Option Addr) (co : Nat) (o : List Row) (k : Nat) (hk : k ≤ L.length) (hM : MOk o n (fun _ _ z => -18 ≤ z ∧ z ≤ 18)) : Nx ⟨Tryd.prog, 98, w⟩ [(0, .pointer (some ⟨b, 0, none⟩)), (1, .int .i64 (n : Int)), (5, .slice Ao n co)] I [Vec 28 1 Ao n co (o.map rowV), Stars (o.map rowR), CodesR b A c L k, F] (Code.wp Tryd.prog (cl (cr (cr (cr (cr (bodyOf Tryd.f10)))))) (Exit.then (Code.wp Tryd.prog (cr (cr (cr (cr (cr (bodyOf Tryd.f10)))))) (fnPost Tryd.prog Tryd.f10 I F w (matDrawn b A c L n))) (fnPost Tryd.prog Tryd.f10 I F w (matDrawn b A c L n)))) := by
  have hol := hM.len
  have hri := hM.row 0 (by omega)
  have hsi := hM.some 0 (by omega)
  refine Nx.vec_fact fun hv1 hv2 hv3 hAo => ?_
  repeat' first
    | ((with_reducible refine Nx.is_wp ?_); first | refine Nx.p_stopr 18 rfl ?_ | refine Nx.wo ?_ | refine Nx.p_drawF (id := 15) rfl [0, 1, 2, 3, 4, 5, 6, 7, 8, 9, 10, 11, 12, 13, 14, 15, 16, 17, 18, 19, 20, 21, 22] [] [23] _ rfl rfl (by kernel_rfl) (by kernel_rfl) rfl (by repeat first | exact PanicOk.fn | refine PanicOk.then_ ?_ | refine PanicOk.inB ?_) (Ent.refl _) ?_ | refine Nx.p_drawF (id := 17) rfl [0, 1, 2, 3, 4, 5, 6, 7] [4] [8] _ rfl rfl (by kernel_rfl) (by kernel_rfl) rfl (by repeat first | exact PanicOk.fn | refine PanicOk.then_ ?_ | refine PanicOk.inB ?_) (Ent.eraseK 0 _) ?_ | refine Nx.p_drawF (id := 22) rfl [0, 1, 2, 3, 4, 5, 6, 7, 8, 9, 10, 11] [] [12] _ rfl rfl (by kernel_rfl) (by kernel_rfl) rfl (by repeat first | exact PanicOk.fn | refine PanicOk.then_ ?_ | refine PanicOk.inB ?_) (Ent.refl _) ?_ | refine Nx.p_dec rfl rfl (fun hc => ?_) (fun hc => ?_) | refine Nx.p_bool rfl rfl (fun hc => ?_) (fun hc => ?_))
    | ((first | refine Nx.at_op rfl rfl ?_ | refine Nx.m_loud rfl rfl rfl ?_ | refine Nx.at_do rfl rfl rfl rfl ?_ | refine Nx.m_loud_do rfl rfl rfl rfl rfl ?_); first | refine Nx.opr rfl rfl ?_ | (refine Nx.call rfl rfl rfl (by kernel_rfl) rfl (One_codes b A c L k 6 I hL hk (by omega)) (by (exact Ent.auto)) ?_; rintro _ _ ⟨r, k1, rfl, hk1, rfl⟩) | (refine Nx.call rfl rfl rfl (by kernel_rfl) rfl (Next_codes b A c L k1 33 I hL hk1 (by omega)) (by (exact Ent.auto)) ?_; rintro _ _ ⟨z, k2, rfl, hz, hk2, rfl⟩; obtain ⟨m, rfl⟩ := Int.eq_ofNat_of_zero_le hz.1) | refine Nx.store_row 2 (o := o) (i := 0) (j := 0) rfl rfl rfl rfl (by omega) (by omega) ?_ | refine Nx.so ?_ | refine Nx.sb (fun bx => ?_) | refine Nx.sa (fun A2 c2 => ?_))
    | ((with_reducible refine Nx.is_at ?_); first | refine Nx.a ?_ | ((fail_if_success refine Nx.at_do rfl rfl rfl rfl ?_); first | refine Nx.at_dec_t rfl rfl rfl rfl (by first | assumption | omega) ?_ | refine Nx.at_dec_f rfl rfl rfl rfl (by first | assumption | omega) ?_ | refine Nx.at_split rfl rfl rfl rfl (fun hc => ?_) (fun hc => ?_) | refine Nx.at_splitb rfl rfl rfl rfl (fun hc => ?_) (fun hc => ?_)))
    | ((with_reducible refine Nx.is_mix ?_); first | refine Nx.m_quiet rfl rfl rfl rfl rfl (by first | exact QRun.opr rfl | exact QRun.idx (A := Ao) (i := 0) (sz := 1) rfl rfl rfl rfl (by omega) (hAo (by omega)) | exact QRun.load rfl rfl (Rd.vecEl 0 (f := rowV) rfl (by omega)) | exact QRun.conv_u64 rfl rfl rfl | exact QRun.bin rfl rfl (run_shlJ (n := m) (by unfold B64; omega) (by omega) rfl) | exact QRun.idx (A := (o.getD 0 default).1) (i := 0) (sz := 1) rfl rfl rfl rfl (by omega) hsi) ?_ | refine Nx.m_quiet_do rfl rfl rfl rfl rfl rfl rfl (by first | exact QRun.opr rfl | exact QRun.idx (A := Ao) (i := 0) (sz := 1) rfl rfl rfl rfl (by omega) (hAo (by omega)) | exact QRun.load rfl rfl (Rd.vecEl 0 (f := rowV) rfl (by omega)) | exact QRun.conv_u64 rfl rfl rfl | exact QRun.bin rfl rfl (run_shlJ (n := m) (by unfold B64; omega) (by omega) rfl) | exact QRun.idx (A := (o.getD 0 default).1) (i := 0) (sz := 1) rfl rfl rfl rfl (by omega) hsi) ?_ | refine Nx.m ?_ | ((fail_if_success refine Nx.m_quiet_do rfl rfl rfl rfl rfl rfl rfl ?_ ?_); (fail_if_success refine Nx.m_loud_do rfl rfl rfl rfl rfl ?_); first | refine Nx.m_dec_t rfl rfl rfl rfl (by first | assumption | omega) ?_ | refine Nx.m_dec_f rfl rfl rfl rfl (by first | assumption | omega) ?_ | refine Nx.m_split rfl rfl rfl rfl (fun hc => ?_) (fun hc => ?_) | refine Nx.m_splitb rfl rfl rfl rfl (fun hc => ?_) (fun hc => ?_)))
    | ((fail_if_success (with_reducible refine Nx.is_at ?_)); (fail_if_success (with_reducible refine Nx.is_wp ?_)); (fail_if_success (with_reducible refine Nx.is_mix ?_)); first | refine Nx.ex ?_)
  · have hp : (2 : Nat) ^ m ≤ 4294967296 := (Nat.pow_le_pow_right (by decide) (by omega) : 2 ^ m ≤ 2 ^ 32)
    exact Nx.unstop (Nx.weak (by exact ⟨rfl, rfl, rfl, trivial⟩) (by rw [← setRow_outer (o := o) (i := 0) (j := 0) (z := ((2 ^ m : Nat) : Int)) (by omega)]; (exact Ent.auto)) (mat3 b A c L n I w F hL hn Ao co (setRow o 0 0 ((2 ^ m : Nat) : Int)) k2 hk2 ((hM.weak fun i _ z hz => (by omega : (-4294967296 ≤ z ∧ z ≤ 4294967296) ∧ (1 ≤ i → -18 ≤ z ∧ z ≤ 18))).set (by have := Int.natCast_nonneg (2 ^ m); omega))))
  · exact Nx.unstop (Nx.weak (by exact ⟨rfl, rfl, rfl, trivial⟩) (by (exact Ent.auto)) (mat3 b A c L n I w F hL hn Ao co o k1 hk1 (hM.weak fun _ _ z hz => by omega)))
set_option maxRecDepth 10000 in
set_option maxHeartbeats 8000000 in
theorem mat1 (b : Nat) (A : Option Addr) (c : Nat) (L : List Int) (n : Nat) (I : PH) (w : World) (F : Res) (hL : CodesI I A c L) (hn : 1 ≤ n ∧ n ≤ 1000) (Ao : Option Addr) (co : Nat) (o : List Row) (k : Nat) (hk : k ≤ L.length) (hM : MOk o n (fun _ _ z => -6 ≤ z ∧ z ≤ 6)) : Nx ⟨Tryd.prog, 98, w⟩ [(0, .pointer (some ⟨b, 0, none⟩)), (1, .int .i64 (n : Int)), (5, .slice Ao n co)] I [Vec 28 1 Ao n co (o.map rowV), Stars (o.map rowR), CodesR b A c L k, F] (Code.wp Tryd.prog (cl (cr (cr (cr (bodyOf Tryd.f10))))) (Exit.then (Code.wp Tryd.prog (cr (cr (cr (cr (bodyOf Tryd.f10))))) (fnPost Tryd.prog Tryd.f10 I F w (matDrawn b A c L n))) (fnPost Tryd.prog Tryd.f10 I F w (matDrawn b A c L n)))) := by
  by_cases hn1 : 1 < n
  case neg =>
    repeat' first
      | ((with_reducible refine Nx.is_wp ?_); first | refine Nx.p_stopr 16 rfl ?_ | refine Nx.wo ?_ | refine Nx.p_dec rfl rfl (fun hc => ?_) (fun hc => ?_) | refine Nx.p_bool rfl rfl (fun hc => ?_) (fun hc => ?_))
      | ((first | refine Nx.at_op rfl rfl ?_ | refine Nx.m_loud rfl rfl rfl ?_ | refine Nx.at_do rfl rfl rfl rfl ?_ | refine Nx.m_loud_do rfl rfl rfl rfl rfl ?_); first | refine Nx.opr rfl rfl ?_ | refine Nx.so ?_ | refine Nx.sb (fun bx => ?_) | refine Nx.sa (fun A2 c2 => ?_))
      | ((with_reducible refine Nx.is_at ?_); first | refine Nx.a ?_ | ((fail_if_success refine Nx.at_do rfl rfl rfl rfl ?_); first | refine Nx.at_dec_t rfl rfl rfl rfl (by first | assumption | omega) ?_ | refine Nx.at_dec_f rfl rfl rfl rfl (by first | assumption | omega) ?_ | refine Nx.at_split rfl rfl rfl rfl (fun hc => ?_) (fun hc => ?_) | refine Nx.at_splitb rfl rfl rfl rfl (fun hc => ?_) (fun hc => ?_)))
      | ((with_reducible refine Nx.is_mix ?_); first | refine Nx.m ?_ | ((fail_if_success refine Nx.m_quiet_do rfl rfl rfl rfl rfl rfl rfl ?_ ?_); (fail_if_success refine Nx.m_loud_do rfl rfl rfl rfl rfl ?_); first | refine Nx.m_dec_t rfl rfl rfl rfl (by first | assumption | omega) ?_ | refine Nx.m_dec_f rfl rfl rfl rfl (by first | assumption | omega) ?_ | refine Nx.m_split rfl rfl rfl rfl (fun hc => ?_) (fun hc => ?_) | refine Nx.m_splitb rfl rfl rfl rfl (fun hc => ?_) (fun hc => ?_)))
      | ((fail_if_success (with_reducible refine Nx.is_at ?_)); (fail_if_success (with_reducible refine Nx.is_wp ?_)); (fail_if_success (with_reducible refine Nx.is_mix ?_)); first | refine Nx.ex ?_)
    exact Nx.unstop (Nx.weak (by exact ⟨rfl, rfl, rfl, trivial⟩) (by (exact Ent.auto)) (mat2 b A c L n I w F hL hn Ao co o k hk (hM.weak fun _ _ z hz => by omega)))
  obtain ⟨m, rfl⟩ : ∃ m, n = m + 2 := ⟨n - 2, by omega⟩
  repeat' first
    | ((with_reducible refine Nx.is_wp ?_); first | refine Nx.p_stopr 16 rfl ?_ | refine Nx.wo ?_ | refine Nx.p_dec rfl rfl (fun hc => ?_) (fun hc => ?_) | refine Nx.p_bool rfl rfl (fun hc => ?_) (fun hc => ?_))
    | ((first | refine Nx.at_op rfl rfl ?_ | refine Nx.m_loud rfl rfl rfl ?_ | refine Nx.at_do rfl rfl rfl rfl ?_ | refine Nx.m_loud_do rfl rfl rfl rfl rfl ?_); first | refine Nx.opr rfl rfl ?_ | (refine Nx.call rfl rfl rfl (by kernel_rfl) rfl (One_codes b A c L k 3 I hL hk (by omega)) (by (exact Ent.auto)) ?_; rintro _ _ ⟨r, k1, rfl, hk1, rfl⟩) | refine Nx.so ?_ | refine Nx.sb (fun bx => ?_) | refine Nx.sa (fun A2 c2 => ?_))
    | ((with_reducible refine Nx.is_at ?_); first | refine Nx.a ?_ | ((fail_if_success refine Nx.at_do rfl rfl rfl rfl ?_); first | refine Nx.at_dec_t rfl rfl rfl rfl (by first | assumption | omega) ?_ | refine Nx.at_dec_f rfl rfl rfl rfl (by first | assumption | omega) ?_ | refine Nx.at_split rfl rfl rfl rfl (fun hc => ?_) (fun hc => ?_) | refine Nx.at_splitb rfl rfl rfl rfl (fun hc => ?_) (fun hc => ?_)))
    | ((with_reducible refine Nx.is_mix ?_); first | refine Nx.m ?_ | ((fail_if_success refine Nx.m_quiet_do rfl rfl rfl rfl rfl rfl rfl ?_ ?_); (fail_if_success refine Nx.m_loud_do rfl rfl rfl rfl rfl ?_); first | refine Nx.m_dec_t rfl rfl rfl rfl (by first | assumption | omega) ?_ | refine Nx.m_dec_f rfl rfl rfl rfl (by first | assumption | omega) ?_ | refine Nx.m_split rfl rfl rfl rfl (fun hc => ?_) (fun hc => ?_) | refine Nx.m_splitb rfl rfl rfl rfl (fun hc => ?_) (fun hc => ?_)))
    | ((fail_if_success (with_reducible refine Nx.is_at ?_)); (fail_if_success (with_reducible refine Nx.is_wp ?_)); (fail_if_success (with_reducible refine Nx.is_mix ?_)); first | refine Nx.ex ?_)
  · refine Nx.ent (R' := [Vec 28 1 Ao (m + 2) co (o.map rowV), Stars (o.map rowR), CodesR b A c L k1, F]) (by (exact Ent.auto)) ?_
    refine Nx.vec_fact fun hv1 hv2 hv3 hAo => ?_
    refine Nx.p_loop (σ := Nat × List Row) (fun x => [(0, .pointer (some ⟨b, 0, none⟩)), (1, .int .i64 ((m + 2 : Nat) : Int)), (5, .slice Ao (m + 2) co), (9, .int .i64 (x.1 : Int))])
      (fun x => [Vec 28 1 Ao (m + 2) co (x.2.map rowV), Stars (x.2.map rowR), CodesR b A c L k1, F]) (fun x => x.1 ≤ m + 2 ∧ MOk x.2 (m + 2) (fun i _ z => (-6 ≤ z ∧ z ≤ 6) ∨ i = m + 1 ∧ -18 ≤ z ∧ z ≤ 18)) (fun x => m + 2 - x.1) (0, o) rfl ⟨Nat.zero_le _, hM.weak fun _ _ _ hz => Or.inl hz⟩ ⟨rfl, rfl, rfl, rfl, trivial⟩ (by (exact Ent.auto)) ?_
    rintro ⟨i, o'⟩ ⟨hi, hM'⟩
    dsimp only at hi hM' ⊢
    by_cases hlt : i < m + 2
    case neg =>
      repeat' first
        | ((with_reducible refine Nx.is_wp ?_); first | refine Nx.p_stopr 16 rfl ?_ | refine Nx.wo ?_ | refine Nx.p_dec rfl rfl (fun hc => ?_) (fun hc => ?_) | refine Nx.p_bool rfl rfl (fun hc => ?_) (fun hc => ?_))
        | ((first | refine Nx.at_op rfl rfl ?_ | refine Nx.m_loud rfl rfl rfl ?_ | refine Nx.at_do rfl rfl rfl rfl ?_ | refine Nx.m_loud_do rfl rfl rfl rfl rfl ?_); first | refine Nx.opr rfl rfl ?_ | refine Nx.so ?_ | refine Nx.sb (fun bx => ?_) | refine Nx.sa (fun A2 c2 => ?_))
        | ((with_reducible refine Nx.is_at ?_); first | refine Nx.a ?_ | ((fail_if_success refine Nx.at_do rfl rfl rfl rfl ?_); first | refine Nx.at_dec_t rfl rfl rfl rfl (by first | assumption | omega) ?_ | refine Nx.at_dec_f rfl rfl rfl rfl (by first | assumption | omega) ?_ | refine Nx.at_split rfl rfl rfl rfl (fun hc => ?_) (fun hc => ?_) | refine Nx.at_splitb rfl rfl rfl rfl (fun hc => ?_) (fun hc => ?_)))
        | ((with_reducible refine Nx.is_mix ?_); first | refine Nx.m ?_ | ((fail_if_success refine Nx.m_quiet_do rfl rfl rfl rfl rfl rfl rfl ?_ ?_); (fail_if_success refine Nx.m_loud_do rfl rfl rfl rfl rfl ?_); first | refine Nx.m_dec_t rfl rfl rfl rfl (by first | assumption | omega) ?_ | refine Nx.m_dec_f rfl rfl rfl rfl (by first | assumption | omega) ?_ | refine Nx.m_split rfl rfl rfl rfl (fun hc => ?_) (fun hc => ?_) | refine Nx.m_splitb rfl rfl rfl rfl (fun hc => ?_) (fun hc => ?_)))
        | ((fail_if_success (with_reducible refine Nx.is_at ?_)); (fail_if_success (with_reducible refine Nx.is_wp ?_)); (fail_if_success (with_reducible refine Nx.is_mix ?_)); first | refine Nx.ex ?_)
      exact Nx.unstop (Nx.weak (by exact ⟨rfl, rfl, rfl, trivial⟩) (by (exact Ent.auto)) (mat2 b A c L (m + 2) I w F hL hn Ao co o' k1 hk1 (hM'.weak fun _ _ z hz => by omega)))
    have hol := hM'.len
    have hr0 := hM'.row 0 (by omega)
    have hs0 := hM'.some 0 (by omega)
    have he0 := (hM'.ent 0 i (by omega) hlt).resolve_right fun h => absurd h.1 (by omega)
    have hrm := hM'.row m (by omega)
    have hsm := hM'.some m (by omega)
    have hem := (hM'.ent m i (by omega) hlt).resolve_right fun h => absurd h.1 (by omega)
    have hr1 := hM'.row (m + 1) (by omega)
    have hs1 := hM'.some (m + 1) (by omega)
    repeat' first
      | ((with_reducible refine Nx.is_wp ?_); first | refine Nx.p_stopr 16 rfl ?_ | refine Nx.wo ?_ | refine Nx.p_drawF (id := 15) rfl [0, 1, 2, 3, 4, 5, 6, 7, 8, 9, 10, 11, 12, 13, 14, 15, 16, 17, 18, 19, 20, 21, 22] [] [23] _ rfl rfl (by kernel_rfl) (by kernel_rfl) rfl (by repeat first | exact PanicOk.fn | refine PanicOk.then_ ?_ | refine PanicOk.inB ?_) (Ent.refl _) ?_ | refine Nx.p_drawF (id := 17) rfl [0, 1, 2, 3, 4, 5, 6, 7] [4] [8] _ rfl rfl (by kernel_rfl) (by kernel_rfl) rfl (by repeat first | exact PanicOk.fn | refine PanicOk.then_ ?_ | refine PanicOk.inB ?_) (Ent.refl _) ?_ | refine Nx.p_drawF (id := 22) rfl [0, 1, 2, 3, 4, 5, 6, 7, 8, 9, 10, 11] [] [12] _ rfl rfl (by kernel_rfl) (by kernel_rfl) rfl (by repeat first | exact PanicOk.fn | refine PanicOk.then_ ?_ | refine PanicOk.inB ?_) (Ent.refl _) ?_ | refine Nx.p_dec rfl rfl (fun hc => ?_) (fun hc => ?_) | refine Nx.p_bool rfl rfl (fun hc => ?_) (fun hc => ?_))
      | ((first | refine Nx.at_op rfl rfl ?_ | refine Nx.m_loud rfl rfl rfl ?_ | refine Nx.at_do rfl rfl rfl rfl ?_ | refine Nx.m_loud_do rfl rfl rfl rfl rfl ?_); first | refine Nx.opr rfl rfl ?_ | refine Nx.store_row 1 (o := o') (i := m + 1) (j := i) rfl rfl rfl rfl (by omega) (by omega) ?_ | refine Nx.so ?_ | refine Nx.sb (fun bx => ?_) | refine Nx.sa (fun A2 c2 => ?_))
      | ((with_reducible refine Nx.is_at ?_); first | refine Nx.a ?_ | ((fail_if_success refine Nx.at_do rfl rfl rfl rfl ?_); first | refine Nx.at_dec_t rfl rfl rfl rfl (by first | assumption | omega) ?_ | refine Nx.at_dec_f rfl rfl rfl rfl (by first | assumption | omega) ?_ | refine Nx.at_split rfl rfl rfl rfl (fun hc => ?_) (fun hc => ?_) | refine Nx.at_splitb rfl rfl rfl rfl (fun hc => ?_) (fun hc => ?_)))
      | ((with_reducible refine Nx.is_mix ?_); first | refine Nx.m_quiet rfl rfl rfl rfl rfl (by first | exact QRun.opr rfl | exact QRun.pred (n := m + 1) rfl rfl (by omega) | exact QRun.less (n := m) 2 rfl rfl (by omega) | exact QRun.idx (A := Ao) (i := m + 1) (sz := 1) rfl rfl rfl rfl (by omega) (hAo (by omega)) | exact QRun.idx (A := Ao) (i := 0) (sz := 1) rfl rfl rfl rfl (by omega) (hAo (by omega)) | exact QRun.idx (A := Ao) (i := m) (sz := 1) rfl rfl rfl rfl (by omega) (hAo (by omega)) | exact QRun.load rfl rfl (Rd.vecEl 0 (f := rowV) rfl (by omega)) | exact QRun.idx (A := (o'.getD (m + 1) default).1) (i := i) (sz := 1) rfl rfl rfl rfl (by omega) hs1 | exact QRun.idx (A := (o'.getD 0 default).1) (i := i) (sz := 1) rfl rfl rfl rfl (by omega) hs0 | exact QRun.idx (A := (o'.getD m default).1) (i := i) (sz := 1) rfl rfl rfl rfl (by omega) hsm | exact QRun.load rfl rfl (row_rd 1 (o := o') (i := 0) (j := i) rfl (by omega) (by omega)) | exact QRun.load rfl rfl (row_rd 1 (o := o') (i := m) (j := i) rfl (by omega) (by omega))) ?_ | refine Nx.m_quiet_do rfl rfl rfl rfl rfl rfl rfl (by first | exact QRun.opr rfl | exact QRun.pred (n := m + 1) rfl rfl (by omega) | exact QRun.less (n := m) 2 rfl rfl (by omega) | exact QRun.idx (A := Ao) (i := m + 1) (sz := 1) rfl rfl rfl rfl (by omega) (hAo (by omega)) | exact QRun.idx (A := Ao) (i := 0) (sz := 1) rfl rfl rfl rfl (by omega) (hAo (by omega)) | exact QRun.idx (A := Ao) (i := m) (sz := 1) rfl rfl rfl rfl (by omega) (hAo (by omega)) | exact QRun.load rfl rfl (Rd.vecEl 0 (f := rowV) rfl (by omega)) | exact QRun.idx (A := (o'.getD (m + 1) default).1) (i := i) (sz := 1) rfl rfl rfl rfl (by omega) hs1 | exact QRun.idx (A := (o'.getD 0 default).1) (i := i) (sz := 1) rfl rfl rfl rfl (by omega) hs0 | exact QRun.idx (A := (o'.getD m default).1) (i := i) (sz := 1) rfl rfl rfl rfl (by omega) hsm | exact QRun.load rfl rfl (row_rd 1 (o := o') (i := 0) (j := i) rfl (by omega) (by omega)) | exact QRun.load rfl rfl (row_rd 1 (o := o') (i := m) (j := i) rfl (by omega) (by omega))) ?_ | refine Nx.m ?_ | ((fail_if_success refine Nx.m_quiet_do rfl rfl rfl rfl rfl rfl rfl ?_ ?_); (fail_if_success refine Nx.m_loud_do rfl rfl rfl rfl rfl ?_); first | refine Nx.m_dec_t rfl rfl rfl rfl (by first | assumption | omega) ?_ | refine Nx.m_dec_f rfl rfl rfl rfl (by first | assumption | omega) ?_ | refine Nx.m_split rfl rfl rfl rfl (fun hc => ?_) (fun hc => ?_) | refine Nx.m_splitb rfl rfl rfl rfl (fun hc => ?_) (fun hc => ?_)))
      | ((fail_if_success (with_reducible refine Nx.is_at ?_)); (fail_if_success (with_reducible refine Nx.is_wp ?_)); (fail_if_success (with_reducible refine Nx.is_mix ?_)); first | refine Nx.ex ?_)
    exact Nx.again (i + 1, setRow o' (m + 1) i (2 * (o'.getD 0 default).2.2.getD i default - (o'.getD m default).2.2.getD i default)) ⟨hlt, hM'.set (Or.inr ⟨rfl, by omega⟩)⟩ (by dsimp only; omega) ⟨rfl, rfl, rfl, rfl, trivial⟩ (by dsimp only; rw [setRow_outer (by omega)]; (exact Ent.auto))
  · exact Nx.unstop (Nx.weak (by exact ⟨rfl, rfl, rfl, trivial⟩) (by (exact Ent.auto)) (mat2 b A c L (m + 2) I w F hL hn Ao co o k1 hk1 (hM.weak fun _ _ z hz => by omega)))
set_option maxRecDepth 10000 in
set_option maxHeartbeats 8000000 in
theorem matrix_spec (b : Nat) (A : Option Addr) (c : Nat) (L : List Int) (k n : Nat) (I : PH) (hL : CodesI I A c L) (hk : k ≤ L.length) (hn : 1 ≤ n ∧ n ≤ 1000) :
    FnSpec Tryd.prog 10 [.pointer (some ⟨b, 0, none⟩), .int .i64 (n : Int)] I [CodesR b A c L k] (matDrawn b A c L n) := by
  refine FnSpec.enterP Tryd.func10 rfl Tryd.ntmps10 rfl fun w F => ?_
  repeat' first
    | ((with_reducible refine Nx.is_wp ?_); first | refine Nx.wo ?_ | refine Nx.p_dec rfl rfl (fun hc => ?_) (fun hc => ?_) | refine Nx.p_bool rfl rfl (fun hc => ?_) (fun hc => ?_))
    | ((first | refine Nx.at_op rfl rfl ?_ | refine Nx.m_loud rfl rfl rfl ?_ | refine Nx.at_do rfl rfl rfl rfl ?_ | refine Nx.m_loud_do rfl rfl rfl rfl rfl ?_); first | refine Nx.opr rfl rfl ?_ | refine Nx.so ?_ | refine Nx.sb (fun bx => ?_) | refine Nx.sa (fun A2 c2 => ?_))
    | ((with_reducible refine Nx.is_at ?_); first | refine Nx.a ?_ | ((fail_if_success refine Nx.at_do rfl rfl rfl rfl ?_); first | refine Nx.at_dec_t rfl rfl rfl rfl (by first | assumption | omega) ?_ | refine Nx.at_dec_f rfl rfl rfl rfl (by first | assumption | omega) ?_ | refine Nx.at_split rfl rfl rfl rfl (fun hc => ?_) (fun hc => ?_) | refine Nx.at_splitb rfl rfl rfl rfl (fun hc => ?_) (fun hc => ?_)))
    | ((with_reducible refine Nx.is_mix ?_); first | refine Nx.m ?_ | ((fail_if_success refine Nx.m_quiet_do rfl rfl rfl rfl rfl rfl rfl ?_ ?_); (fail_if_success refine Nx.m_loud_do rfl rfl rfl rfl rfl ?_); first | refine Nx.m_dec_t rfl rfl rfl rfl (by first | assumption | omega) ?_ | refine Nx.m_dec_f rfl rfl rfl rfl (by first | assumption | omega) ?_ | refine Nx.m_split rfl rfl rfl rfl (fun hc => ?_) (fun hc => ?_) | refine Nx.m_splitb rfl rfl rfl rfl (fun hc => ?_) (fun hc => ?_)))
    | ((fail_if_success (with_reducible refine Nx.is_at ?_)); (fail_if_success (with_reducible refine Nx.is_wp ?_)); (fail_if_success (with_reducible refine Nx.is_mix ?_)); first | refine Nx.ex ?_)
  refine Nx.p_loop (σ := Nat × Option Addr × Nat × List Row × Nat) (fun x => [(0, .pointer (some ⟨b, 0, none⟩)), (1, .int .i64 (n : Int)), (5, .slice x.2.1 x.2.2.2.1.length x.2.2.1), (6, .int .i64 (x.1 : Int))])
    (fun x => [Vec 28 1 x.2.1 x.2.2.2.1.length x.2.2.1 (x.2.2.2.1.map rowV), Stars (x.2.2.2.1.map rowR), CodesR b A c L x.2.2.2.2, F]) (fun x => x.1 ≤ n ∧ x.2.2.2.1.length = x.1 ∧ (∀ r ∈ x.2.2.2.1, r.2.2.length = n ∧ r.1.isSome = true ∧ Sized r.2.2 6) ∧ x.2.2.2.2 ≤ L.length) (fun x => n - x.1) (0, none, 0, [], k) rfl ⟨Nat.zero_le _, rfl, fun x hx => absurd hx List.not_mem_nil, hk⟩ ⟨rfl, rfl, rfl, rfl, trivial⟩ ((Ent.vec_nil _ _ _).trans (Ent.pick 0 rfl ((Ent.stars_nil _).trans (by (exact Ent.auto))))) ?_
  rintro ⟨i, Ao, co, o, k1⟩ ⟨hi, hol, hrows, hk1⟩
  dsimp only at hi hol hrows hk1 ⊢
  by_cases hlt : i < n
  · repeat' first
      | ((with_reducible refine Nx.is_wp ?_); first | refine Nx.wo ?_ | refine Nx.p_dec rfl rfl (fun hc => ?_) (fun hc => ?_) | refine Nx.p_bool rfl rfl (fun hc => ?_) (fun hc => ?_))
      | ((first | refine Nx.at_op rfl rfl ?_ | refine Nx.m_loud rfl rfl rfl ?_ | refine Nx.at_do rfl rfl rfl rfl ?_ | refine Nx.m_loud_do rfl rfl rfl rfl rfl ?_); first | refine Nx.opr rfl rfl ?_ | refine Nx.so ?_ | refine Nx.sb (fun bx => ?_) | refine Nx.sa (fun A2 c2 => ?_))
      | ((with_reducible refine Nx.is_at ?_); first | refine Nx.a ?_ | ((fail_if_success refine Nx.at_do rfl rfl rfl rfl ?_); first | refine Nx.at_dec_t rfl rfl rfl rfl (by first | assumption | omega) ?_ | refine Nx.at_dec_f rfl rfl rfl rfl (by first | assumption | omega) ?_ | refine Nx.at_split rfl rfl rfl rfl (fun hc => ?_) (fun hc => ?_) | refine Nx.at_splitb rfl rfl rfl rfl (fun hc => ?_) (fun hc => ?_)))
      | ((with_reducible refine Nx.is_mix ?_); first | refine Nx.m ?_ | ((fail_if_success refine Nx.m_quiet_do rfl rfl rfl rfl rfl rfl rfl ?_ ?_); (fail_if_success refine Nx.m_loud_do rfl rfl rfl rfl rfl ?_); first | refine Nx.m_dec_t rfl rfl rfl rfl (by first | assumption | omega) ?_ | refine Nx.m_dec_f rfl rfl rfl rfl (by first | assumption | omega) ?_ | refine Nx.m_split rfl rfl rfl rfl (fun hc => ?_) (fun hc => ?_) | refine Nx.m_splitb rfl rfl rfl rfl (fun hc => ?_) (fun hc => ?_)))
      | ((fail_if_success (with_reducible refine Nx.is_at ?_)); (fail_if_success (with_reducible refine Nx.is_wp ?_)); (fail_if_success (with_reducible refine Nx.is_mix ?_)); first | refine Nx.ex ?_)
    refine Nx.p_loop (σ := Nat × Option Addr × Nat × List Int × Nat) (fun x => [(0, .pointer (some ⟨b, 0, none⟩)), (1, .int .i64 (n : Int)), (5, .slice Ao o.length co), (6, .int .i64 (i : Int)), (7, .slice x.2.1 x.2.2.2.1.length x.2.2.1), (8, .int .i64 (x.1 : Int))])
      (fun x => [intsR x.2.1 x.2.2.1 x.2.2.2.1, CodesR b A c L x.2.2.2.2, Vec 28 1 Ao o.length co (o.map rowV), Stars (o.map rowR), F]) (fun x => x.1 ≤ n ∧ x.2.2.2.1.length = x.1 ∧ Sized x.2.2.2.1 6 ∧ x.2.2.2.2 ≤ L.length) (fun x => n - x.1) (0, none, 0, [], k1) rfl ⟨Nat.zero_le _, rfl, fun x hx => absurd hx List.not_mem_nil, hk1⟩ ⟨rfl, rfl, rfl, rfl, rfl, rfl, trivial⟩ ((Ent.vec_nil _ _ _).trans (by (exact Ent.auto))) ?_
    rintro ⟨j, A1, c1, l, k2⟩ ⟨hj, hl, hs, hk2⟩
    dsimp only at hj hl hs hk2 ⊢
    by_cases hjl : j < n
    · repeat' first
        | ((with_reducible refine Nx.is_wp ?_); first | refine Nx.wo ?_ | refine Nx.p_dec rfl rfl (fun hc => ?_) (fun hc => ?_) | refine Nx.p_bool rfl rfl (fun hc => ?_) (fun hc => ?_))
        | ((first | refine Nx.at_op rfl rfl ?_ | refine Nx.m_loud rfl rfl rfl ?_ | refine Nx.at_do rfl rfl rfl rfl ?_ | refine Nx.m_loud_do rfl rfl rfl rfl rfl ?_); first | refine Nx.opr rfl rfl ?_ | (refine Nx.call rfl rfl rfl (by kernel_rfl) rfl (Range_codes b A c L k2 (-6) 6 I hL hk2 (by omega) (by omega)) (by (exact Ent.auto)) ?_; rintro _ _ ⟨r, k3, rfl, hr, hk3, rfl⟩) | refine Nx.so ?_ | refine Nx.sb (fun bx => ?_) | refine Nx.sa (fun A2 c2 => ?_))
        | ((with_reducible refine Nx.is_at ?_); first | refine Nx.a ?_ | ((fail_if_success refine Nx.at_do rfl rfl rfl rfl ?_); first | refine Nx.at_dec_t rfl rfl rfl rfl (by first | assumption | omega) ?_ | refine Nx.at_dec_f rfl rfl rfl rfl (by first | assumption | omega) ?_ | refine Nx.at_split rfl rfl rfl rfl (fun hc => ?_) (fun hc => ?_) | refine Nx.at_splitb rfl rfl rfl rfl (fun hc => ?_) (fun hc => ?_)))
        | ((with_reducible refine Nx.is_mix ?_); first | refine Nx.m ?_ | ((fail_if_success refine Nx.m_quiet_do rfl rfl rfl rfl rfl rfl rfl ?_ ?_); (fail_if_success refine Nx.m_loud_do rfl rfl rfl rfl rfl ?_); first | refine Nx.m_dec_t rfl rfl rfl rfl (by first | assumption | omega) ?_ | refine Nx.m_dec_f rfl rfl rfl rfl (by first | assumption | omega) ?_ | refine Nx.m_split rfl rfl rfl rfl (fun hc => ?_) (fun hc => ?_) | refine Nx.m_splitb rfl rfl rfl rfl (fun hc => ?_) (fun hc => ?_)))
        | ((fail_if_success (with_reducible refine Nx.is_at ?_)); (fail_if_success (with_reducible refine Nx.is_wp ?_)); (fail_if_success (with_reducible refine Nx.is_mix ?_)); first | refine Nx.ex ?_)
      have hl2 : (l ++ [r]).length = l.length + 1 := by simp
      exact Nx.again (j + 1, A2, c2, l ++ [r], k3) ⟨hjl, by dsimp only; omega, hs.snoc (by omega), hk3⟩ (by dsimp only; omega) ⟨rfl, rfl, rfl, rfl, by dsimp only; rw [hl2]; rfl, rfl, trivial⟩ (by dsimp only; unfold intsR; rw [hl2, List.map_append]; (exact Ent.auto))
    · obtain rfl : j = n := by omega
      repeat' first
        | ((with_reducible refine Nx.is_wp ?_); first | refine Nx.wo ?_ | refine Nx.p_dec rfl rfl (fun hc => ?_) (fun hc => ?_) | refine Nx.p_bool rfl rfl (fun hc => ?_) (fun hc => ?_))
        | ((first | refine Nx.at_op rfl rfl ?_ | refine Nx.m_loud rfl rfl rfl ?_ | refine Nx.at_do rfl rfl rfl rfl ?_ | refine Nx.m_loud_do rfl rfl rfl rfl rfl ?_); first | refine Nx.opr rfl rfl ?_ | refine Nx.so ?_ | refine Nx.sb (fun bx => ?_) | refine Nx.sa (fun A2 c2 => ?_))
        | ((with_reducible refine Nx.is_at ?_); first | refine Nx.a ?_ | ((fail_if_success refine Nx.at_do rfl rfl rfl rfl ?_); first | refine Nx.at_dec_t rfl rfl rfl rfl (by first | assumption | omega) ?_ | refine Nx.at_dec_f rfl rfl rfl rfl (by first | assumption | omega) ?_ | refine Nx.at_split rfl rfl rfl rfl (fun hc => ?_) (fun hc => ?_) | refine Nx.at_splitb rfl rfl rfl rfl (fun hc => ?_) (fun hc => ?_)))
        | ((with_reducible refine Nx.is_mix ?_); first | refine Nx.m ?_ | ((fail_if_success refine Nx.m_quiet_do rfl rfl rfl rfl rfl rfl rfl ?_ ?_); (fail_if_success refine Nx.m_loud_do rfl rfl rfl rfl rfl ?_); first | refine Nx.m_dec_t rfl rfl rfl rfl (by first | assumption | omega) ?_ | refine Nx.m_dec_f rfl rfl rfl rfl (by first | assumption | omega) ?_ | refine Nx.m_split rfl rfl rfl rfl (fun hc => ?_) (fun hc => ?_) | refine Nx.m_splitb rfl rfl rfl rfl (fun hc => ?_) (fun hc => ?_)))
        | ((fail_if_success (with_reducible refine Nx.is_at ?_)); (fail_if_success (with_reducible refine Nx.is_wp ?_)); (fail_if_success (with_reducible refine Nx.is_mix ?_)); first | refine Nx.ex ?_)
      have hol' : (o ++ [((A1, c1, l) : Row)]).length = o.length + 1 := by simp
      refine Nx.ent (R' := [Vec 3 1 A1 l.length c1 (l.map (Value.int .i64)), Vec 28 1 A2 (o.length + 1) c2 (o.map rowV ++ [.slice A1 l.length c1]), Stars (o.map rowR), CodesR b A c L k2, F]) (by unfold intsR; (exact Ent.auto)) ?_
      refine Nx.vec_fact fun hv1 hv2 hv3 hA1 => ?_
      refine Nx.again (i + 1, A2, c2, o ++ [(A1, c1, l)], k2) ⟨hlt, by dsimp only; omega, fun r hr => ?_, hk2⟩ (by dsimp only; omega) ⟨rfl, rfl, by dsimp only; rw [hol']; rfl, rfl, trivial⟩ ?_
      · rcases List.mem_append.1 hr with h1 | h1
        · exact hrows r h1
        · rw [List.mem_singleton.1 h1]; exact ⟨hl, hA1 (by omega), hs⟩
      · dsimp only
        rw [hol', List.map_append, List.map_append]
        exact Ent.trans (R' := rowR (A1, c1, l) :: Stars (o.map rowR) :: Vec 28 1 A2 (o.length + 1) c2 (o.map rowV ++ [.slice A1 l.length c1]) :: CodesR b A c L k2 :: [F]) (by unfold rowR intsR; (exact Ent.auto)) (Ent.bundle.trans (by (exact Ent.auto)))
  · obtain rfl : i = n := by omega
    have hM : MOk o i (fun _ _ z => -6 ≤ z ∧ z ≤ 6) := ⟨hol, fun j hj => (hrows _ (row_mem (by omega))).1, fun j hj => (hrows _ (row_mem (by omega))).2.1, fun j m hj hm => by
      have h1 := hrows _ (row_mem (v := o) (k := j) (by omega))
      have h2 := h1.2.2 ((o.getD j default).2.2.getD m default) (getD_memI (by rw [h1.1]; exact hm))
      omega⟩
    repeat' first
      | ((with_reducible refine Nx.is_wp ?_); first | refine Nx.p_stopr 11 rfl ?_ | refine Nx.wo ?_ | refine Nx.p_dec rfl rfl (fun hc => ?_) (fun hc => ?_) | refine Nx.p_bool rfl rfl (fun hc => ?_) (fun hc => ?_))
      | ((first | refine Nx.at_op rfl rfl ?_ | refine Nx.m_loud rfl rfl rfl ?_ | refine Nx.at_do rfl rfl rfl rfl ?_ | refine Nx.m_loud_do rfl rfl rfl rfl rfl ?_); first | refine Nx.opr rfl rfl ?_ | refine Nx.so ?_ | refine Nx.sb (fun bx => ?_) | refine Nx.sa (fun A2 c2 => ?_))
      | ((with_reducible refine Nx.is_at ?_); first | refine Nx.a ?_ | ((fail_if_success refine Nx.at_do rfl rfl rfl rfl ?_); first | refine Nx.at_dec_t rfl rfl rfl rfl (by first | assumption | omega) ?_ | refine Nx.at_dec_f rfl rfl rfl rfl (by first | assumption | omega) ?_ | refine Nx.at_split rfl rfl rfl rfl (fun hc => ?_) (fun hc => ?_) | refine Nx.at_splitb rfl rfl rfl rfl (fun hc => ?_) (fun hc => ?_)))
      | ((with_reducible refine Nx.is_mix ?_); first | refine Nx.m ?_ | ((fail_if_success refine Nx.m_quiet_do rfl rfl rfl rfl rfl rfl rfl ?_ ?_); (fail_if_success refine Nx.m_loud_do rfl rfl rfl rfl rfl ?_); first | refine Nx.m_dec_t rfl rfl rfl rfl (by first | assumption | omega) ?_ | refine Nx.m_dec_f rfl rfl rfl rfl (by first | assumption | omega) ?_ | refine Nx.m_split rfl rfl rfl rfl (fun hc => ?_) (fun hc => ?_) | refine Nx.m_splitb rfl rfl rfl rfl (fun hc => ?_) (fun hc => ?_)))
      | ((fail_if_success (with_reducible refine Nx.is_at ?_)); (fail_if_success (with_reducible refine Nx.is_wp ?_)); (fail_if_success (with_reducible refine Nx.is_mix ?_)); first | refine Nx.ex ?_)
    exact Nx.unstop (Nx.weak (by exact ⟨rfl, rfl, by rw [hol]; rfl, trivial⟩) (by rw [hol]; (exact Ent.auto)) (mat1 b A c L i I w F hL hn Ao co o k1 hk1 hM))
end Go.Proofs.YtpdgnjoideppjaaDoor
/- Contracts of functions of the given program, and lemmas about plain lists and numbers: what the laws of this seat lean on. -/
namespace Go.Proofs.YtpdgnjoideppjaaDoor
open Go.Eng Go.Det
/-! Plain facts about matrices that are drawn: their sizes, systems made for a solution -/
/-- n rows of n numbers, small in all rows but the first one. -/
structure Made (m : List (List Int)) (n : Nat) (B : Nat) : Prop where
  len : m.length = n
  row : ∀ r ∈ m, r.length = n
  ent : ∀ i j, 1 ≤ i → i < n → j < n → (entM m i j).natAbs ≤ B
theorem Made.at {m : List (List Int)} {n B : Nat} (h : Made m n B) {i : Nat} (hi : i < n) : (m.getD i []).length = n :=
  h.row _ (by rw [List.getD_eq_getElem?_getD, List.getElem?_eq_getElem (by rw [h.len]; exact hi)]; exact List.getElem_mem _)
theorem MOk.made {o : List Row} {n : Nat} (h : MOk o n (fun i _ z => Fine i z)) : Made (matL o) n 54 := by
  have hol := h.len
  refine ⟨by rw [matL_len]; exact hol, fun r hr => ?_, fun i j hi hin hj => ?_⟩
  · obtain ⟨x, hx, rfl⟩ := List.mem_map.1 hr
    obtain ⟨i, hi, rfl⟩ := List.mem_iff_getElem.1 hx
    have := h.row i (by omega)
    rw [List.getD_eq_getElem?_getD, List.getElem?_eq_getElem hi] at this
    exact this
  · have := (h.ent i j hin hj).2 hi
    have he : entM (matL o) i j = (o.getD i default).2.2.getD j default := by unfold entM; rw [matL_at (by omega)]; rfl
    rw [he]
    omega
theorem absS_bd {l : List Int} {B : Nat} (h : ∀ x ∈ l, x.natAbs ≤ B) : absS l ≤ l.length * B := by
  induction l with
  | nil => simp [absS]
  | cons x l ih =>
    have h1 := h x (by simp)
    have h2 := ih fun y hy => h y (by simp [hy])
    simp only [absS, List.length_cons, Nat.succ_mul]; omega
theorem prodM_bd {B : Nat} (hB : 1 ≤ B) : ∀ {m : List (List Int)}, (∀ r ∈ m, absS r ≤ B) → prodM m ≤ B ^ m.length
  | [], _ => Nat.le_refl _
  | r :: m, h => by
    have h1 := h r (by simp)
    have h2 := prodM_bd hB (m := m) fun y hy => h y (by simp [hy])
    simp only [prodM, List.length_cons]
    rw [Nat.pow_succ, Nat.mul_comm (B ^ m.length)]
    exact Nat.mul_le_mul (by omega) h2
/-- The product of the sums, where the numbers of the first row are within the limits. -/
theorem Made.prod {m : List (List Int)} {n B : Nat} (h : Made m n B) (hn : 1 ≤ n ∧ n ≤ 4) (hB : 1 ≤ B) (hr : rngB m = true) : prodM m ≤ 8589934592 * (4 * B) ^ 3 := by
  have hl := h.len
  cases m with
  | nil => simp at hl; omega
  | cons r0 rest =>
    simp only [List.length_cons] at hl
    unfold rngB at hr
    rw [List.all_cons, Bool.and_eq_true] at hr
    have h0 : absS r0 ≤ r0.length * 2147483648 := absS_le fun x hx => of_decide_eq_true (List.all_eq_true.1 hr.1 x hx)
    have hl0 := h.row r0 (by simp)
    have h1 : prodM rest ≤ (4 * B) ^ rest.length := prodM_bd (by omega) fun r hrm => by
      obtain ⟨i, hi, rfl⟩ := List.mem_iff_getElem.1 hrm
      have hlr := h.row rest[i] (by simp)
      have h2 : absS rest[i] ≤ rest[i].length * B := absS_bd fun x hx => by
        obtain ⟨j, hj, rfl⟩ := List.mem_iff_getElem.1 hx
        have := h.ent (i + 1) j (by omega) (by omega) (by omega)
        unfold entM at this
        rw [List.getD_cons_succ, List.getD_eq_getElem?_getD (l := rest), List.getElem?_eq_getElem hi] at this
        show (rest[i][j]).natAbs ≤ B
        have e : (rest[i]).getD j 0 = rest[i][j] := by rw [List.getD_eq_getElem?_getD, List.getElem?_eq_getElem hj]; rfl
        rw [← e]
        exact this
      rw [hlr] at h2
      exact Nat.le_trans h2 (Nat.mul_le_mul_right _ hn.2)
    simp only [prodM]
    have h3 : (4 * B) ^ rest.length ≤ (4 * B) ^ 3 := Nat.pow_le_pow_right (by omega) (by omega)
    exact Nat.mul_le_mul (by omega) (Nat.le_trans h1 h3)
theorem rep_ent {m : List (List Int)} {n B : Nat} (h : Made m n B) {j : Nat} {b : List Int} {r c : Nat} (hr : r < n) (hc : c < n) : entM (repL m j b) r c = rep (entM m) j (fun r => b.getD r 0) r c := by
  have hl := h.len
  have hrow := h.at hr
  show ((repL m j b).getD r []).getD c 0 = if c = j then _ else (m.getD r []).getD c 0
  rw [rep_row (by omega)]
  by_cases h1 : c = j
  · rw [if_pos h1, h1, List.getD_eq_getElem?_getD, List.getElem?_set_self (by omega)]
    rfl
  · rw [if_neg h1, List.getD_eq_getElem?_getD, List.getElem?_set_ne (Ne.symm h1), ← List.getD_eq_getElem?_getD]
theorem Made.rep {m : List (List Int)} {n B C : Nat} (h : Made m n B) (hBC : B ≤ C) {j : Nat} {b : List Int} (hb : ∀ i, 1 ≤ i → i < n → (b.getD i 0).natAbs ≤ C) : Made (repL m j b) n C := by
  have hl := h.len
  refine ⟨by unfold repL; simp [hl], fun r hr => ?_, fun i c hi hin hc => ?_⟩
  · obtain ⟨i, hi, rfl⟩ := List.mem_map.1 hr
    rw [List.length_set]
    exact h.at (by have := List.mem_range.1 hi; omega)
  · rw [rep_ent h hin hc]
    unfold Go.Det.rep
    split
    · exact hb i hi hin
    · exact Nat.le_trans (h.ent i c hi hin hc) hBC
/-- What the equations give. -/
def rhs (m : List (List Int)) (x : List Int) (n : Nat) : List Int := (List.range n).map fun i => sumR (fun k => entM m i k * x.getD k 0) n
end Go.Proofs.YtpdgnjoideppjaaDoor
/- Contracts of functions of the given program, and lemmas about plain lists and numbers: what the laws of this seat lean on. -/
namespace Go.Proofs.YtpdgnjoideppjaaDoor
open Go.Eng Go.Det
/-! The list that a drawn matrix turns into 0 -/
theorem minr_prod {m : List (List Int)} (hf : Fit m) {R cs : List Nat} (hR : R.Nodup) (hRb : ∀ r ∈ R, r < m.length) (hc : cs.Nodup) (hcb : ∀ c ∈ cs, c < m.length) : (minr (entM m) R cs).natAbs ≤ prodM m := by
  refine Nat.le_trans (minr_le _ R cs) (Nat.le_trans (rprod_facs (f := fun r => max 1 (absS (m.getD r []))) R fun r hr => ?_) ?_)
  · have h1 := rsum_sub (entM m) r cs (List.range m.length) hc fun x hx => List.mem_range.2 (hcb x hx)
    have hrl : (m.getD r []).length = m.length := hf.len _ (by rw [List.getD_eq_getElem?_getD, List.getElem?_eq_getElem (hRb r hr)]; exact List.getElem_mem _)
    have h2 := rsum_take (entM m) r (m.getD r []) (fun c => rfl) m.length (by omega)
    rw [h2, ← hrl, List.take_length] at h1
    exact Nat.le_trans h1 (Nat.le_max_right _ _)
  · refine Nat.le_trans (facs_sub (fun r => Nat.le_max_left _ _) R (List.range m.length) hR fun x hx => List.mem_range.2 (hRb x hx)) ?_
    rw [facs_prod m m.length (Nat.le_refl _), List.take_length]
    exact Nat.le_refl _
theorem Fit.rngB {m : List (List Int)} (hf : Fit m) : rngB m = true := by
  unfold Go.Proofs.YtpdgnjoideppjaaDoor.rngB
  rw [List.all_eq_true]
  intro r hr
  rw [List.all_eq_true]
  intro x hx
  exact decide_eq_true (hf.rng r hr x hx)
theorem ker_rb {m : List (List Int)} {n : Nat} (hm : Made m n 54) (hn : 1 ≤ n ∧ n ≤ 4) (hf : Fit m) {k : Nat} {x : Nat → Rat} (hK : Ker m k x) : ∀ j, j < k → RB (x j) := by
  obtain ⟨R, hi, _, hl, hk, hx⟩ := hK
  intro j hj
  have hp := hm.prod hn (by decide) hf.rngB
  have hN : (numN m R k j).natAbs ≤ prodM m := by
    unfold numN
    rw [rep_last _ hj R hl, Int.natAbs_mul]
    have h1 : (sg (k - 1 - j)).natAbs = 1 := by rcases sg_or (k - 1 - j) with h | h <;> rw [h] <;> rfl
    rw [h1, Nat.one_mul]
    refine minr_prod hf hi.nd hi.lt ?_ fun c hc => ?_
    · rw [List.nodup_append]
      refine ⟨List.nodup_range, List.nodup_range', fun a ha b hb => ?_⟩
      have := List.mem_range.1 ha
      have := List.mem_range'_1.1 hb
      omega
    · rcases List.mem_append.1 hc with h | h
      · have := List.mem_range.1 h; omega
      · have := List.mem_range'_1.1 h; omega
  have hD : (denD m R k).natAbs ≤ prodM m := minr_prod hf hi.nd hi.lt List.nodup_range fun c hc => by have := List.mem_range.1 hc; omega
  have hD0 : denD m R k ≠ 0 := by have := hi.det; rw [hl] at this; exact this
  obtain ⟨h1, h2⟩ := div_bd (-numN m R k j) (denD m R k) hD0
  rw [hx j hj]
  rw [Int.natAbs_neg] at h1
  have h9 : (8589934592 : Nat) * (4 * 54) ^ 3 ≤ 1152921504606846976 := by decide
  exact ⟨by omega, by omega⟩
/-- The numbers that the columns are to be multiplied with. -/
def yK (x : Nat → Rat) (k j : Nat) : Rat := if j < k then x j else if j = k then 1 else 0
def rS (f : Nat → Rat) : Nat → Rat
  | 0 => 0
  | n + 1 => rS f n + f n
theorem ker_zero {m : List (List Int)} {k : Nat} {x : Nat → Rat} (hK : Ker m k x) {r : Nat} (hr : r < m.length) : rS (fun j => (entM m r j : Rat) * yK x k j) m.length = 0 := by
  obtain ⟨R, hi, hfull, hl, hk, hx⟩ := hK
  have hD0 : denD m R k ≠ 0 := by have := hi.det; rw [hl] at this; exact this
  have hcomb := full_comb hl hk hfull hr
  rw [comb_range] at hcomb
  have hDR : (denD m R k : Rat) ≠ 0 := fun h => hD0 (Rat.intCast_eq_zero_iff.1 h)
  have hinv := Rat.mul_inv_cancel (denD m R k : Rat) hDR
  have h1 : ∀ q, q ≤ k → (denD m R k : Rat) * rS (fun j => (entM m r j : Rat) * yK x k j) q = -((sumR (fun i => numN m R k i * entM m r i) q : Int) : Rat) := fun q hq => by
    induction q with
    | zero => show (denD m R k : Rat) * 0 = -((0 : Int) : Rat); rw [Rat.intCast_zero]; grind
    | succ q ih =>
      have h2 := ih (by omega)
      show (denD m R k : Rat) * (rS (fun j => (entM m r j : Rat) * yK x k j) q + (entM m r q : Rat) * yK x k q) = -((sumR (fun i => numN m R k i * entM m r i) q + numN m R k q * entM m r q : Int) : Rat)
      rw [Rat.intCast_add, Rat.intCast_mul]
      have h3 : yK x k q = ((-numN m R k q : Int) : Rat) * (denD m R k : Rat)⁻¹ := by
        unfold yK
        rw [if_pos (by omega), hx q (by omega), Rat.divInt_eq_div, Rat.div_def]
      rw [h3, Rat.intCast_neg]
      grind
  have h4 := h1 k (Nat.le_refl _)
  have h5 : rS (fun j => (entM m r j : Rat) * yK x k j) (k + 1) = 0 := by
    have h6 : (denD m R k : Rat) * rS (fun j => (entM m r j : Rat) * yK x k j) (k + 1) = 0 := by
      show (denD m R k : Rat) * (rS (fun j => (entM m r j : Rat) * yK x k j) k + (entM m r k : Rat) * yK x k k) = 0
      have h7 : yK x k k = 1 := by unfold yK; rw [if_neg (by omega), if_pos rfl]
      rw [h7]
      have h8 : ((denD m R k * entM m r k : Int) : Rat) = ((sumR (fun i => numN m R k i * entM m r i) k : Int) : Rat) := by rw [hcomb]
      rw [Rat.intCast_mul] at h8
      grind
    rcases Rat.mul_eq_zero.1 h6 with h | h
    · exact absurd h hDR
    · exact h
  have h9 : ∀ q, k + 1 ≤ q → rS (fun j => (entM m r j : Rat) * yK x k j) q = 0 := fun q hq => by
    induction q with
    | zero => omega
    | succ q ih =>
      by_cases h : k = q
      · rw [← h]; exact h5
      · show rS (fun j => (entM m r j : Rat) * yK x k j) q + (entM m r q : Rat) * yK x k q = 0
        have h7 : yK x k q = 0 := by unfold yK; rw [if_neg (by omega), if_neg (by omega)]
        rw [ih (by omega), h7]
        grind
  exact h9 _ hk
theorem yK_rb {k : Nat} {x : Nat → Rat} (h : ∀ j, j < k → RB (x j)) (j : Nat) : RB (yK x k j) := by
  unfold yK
  split
  · rename_i h1; exact h j h1
  · split
    · decide
    · decide
theorem kerS_at {k n j : Nat} {x : Nat → Rat} (h : ∀ j, j < k → RB (x j)) (hj : j < n) : (kerS x k k n).getD j default = ((yK x k j).num, ((yK x k j).den : Int)) := by
  unfold kerS
  rw [List.getD_eq_getElem?_getD, List.getElem?_map, List.getElem?_range hj]
  show (if j < k then _ else _) = _
  unfold yK
  by_cases h1 : j < k
  · rw [if_pos h1, if_pos h1]
    unfold fr1 redN redD
    rw [if_pos (h j h1), if_pos (h j h1)]
  · rw [if_neg h1, if_neg h1]
    by_cases h2 : j = k
    · rw [if_pos h2, if_pos h2]; rfl
    · rw [if_neg h2, if_neg h2]; rfl
theorem ker_made {m : List (List Int)} {n : Nat} (hm : Made m n 54) (hn : 1 ≤ n ∧ n ≤ 4) (hf : Fit m) {k : Nat} {x : Nat → Rat} (hK : Ker m k x) : kerL x k n = kerS x k k n := by
  unfold kerL
  rw [if_pos (firstE_zero.2 fun j hj => by unfold redE; rw [if_pos (ker_rb hm hn hf hK j hj)])]
end Go.Proofs.YtpdgnjoideppjaaDoor
/- Contracts of functions of the given program, and lemmas about plain lists and numbers: what the laws of this seat lean on. -/
namespace Go.Proofs.YtpdgnjoideppjaaDoor
open Go.Eng
attribute [local irreducible] opK wpList Code.wp Exit.then Exit.inBlock fnPost bodyPost Nx Calls Oper.wp Rd Rds Wr Ent Stars Blk Again Vec FnSpec wpMix QRun Stop Upto wpAt
theorem add_mul_bd {a b : Int} (ha : a.natAbs ≤ 1329227995784915872903807060280344576) (hb : b.natAbs ≤ 1329227995784915872903807060280344576) : (a + b).natAbs < H127 ∧ (a - b).natAbs < H127 := by
  unfold H127; omega
set_option maxRecDepth 10000 in
theorem Add_spec (n d m e : Int) (hn : I64 n) (hd : I64 d) (hm : I64 m) (he : I64 e) (I : PH) (hT : TabI I) : FnSpec Tryd.prog 21 [fracV n d, fracV m e] I [] (fun v R' => v = opV n d m e (Rat.divInt n d + Rat.divInt m e) ∧ R' = []) := by
  have hc := combine_spec n d m e hn hd hm he I hT 41 (fun a b => a + b) (by kernel_rfl) (fun a b => plus_spec a b I) (fun a b ha hb => (add_mul_bd ha hb).1)
  rw [show opV n d m e (Rat.divInt ((fun a b : Int => a + b) (n * e) (m * d)) (d * e)) = opV n d m e (Rat.divInt n d + Rat.divInt m e) from opV_congr fun h => by
    rw [Rat.divInt_add_divInt _ _ (by have := h.1.1; omega) (by have := h.2.1; omega)]] at hc
  refine FnSpec.enterP Tryd.func21 rfl Tryd.ntmps21 rfl fun w F => ?_
  by_cases h : FOk n d ∧ FOk m e
  · unfold opV at *
    rw [if_pos h] at *
    repeat' first
      | ((with_reducible refine Nx.is_wp ?_); first | refine Nx.wo ?_ | refine Nx.p_dec rfl rfl (fun hc => ?_) (fun hc => ?_) | refine Nx.p_bool rfl rfl (fun hc => ?_) (fun hc => ?_))
      | ((first | refine Nx.at_op rfl rfl ?_ | refine Nx.m_loud rfl rfl rfl ?_ | refine Nx.at_do rfl rfl rfl rfl ?_ | refine Nx.m_loud_do rfl rfl rfl rfl rfl ?_); first | refine Nx.opr rfl rfl ?_ | refine Nx.callv rfl rfl rfl (by kernel_rfl) rfl (hc) ?_ | refine Nx.so ?_ | refine Nx.sb (fun bx => ?_) | refine Nx.sa (fun A2 c2 => ?_))
      | ((with_reducible refine Nx.is_at ?_); first | refine Nx.a ?_ | ((fail_if_success refine Nx.at_do rfl rfl rfl rfl ?_); first | refine Nx.at_dec_t rfl rfl rfl rfl (by first | assumption | omega) ?_ | refine Nx.at_dec_f rfl rfl rfl rfl (by first | assumption | omega) ?_ | refine Nx.at_split rfl rfl rfl rfl (fun hc => ?_) (fun hc => ?_) | refine Nx.at_splitb rfl rfl rfl rfl (fun hc => ?_) (fun hc => ?_)))
      | ((with_reducible refine Nx.is_mix ?_); first | refine Nx.m ?_ | ((fail_if_success refine Nx.m_quiet_do rfl rfl rfl rfl rfl rfl rfl ?_ ?_); (fail_if_success refine Nx.m_loud_do rfl rfl rfl rfl rfl ?_); first | refine Nx.m_dec_t rfl rfl rfl rfl (by first | assumption | omega) ?_ | refine Nx.m_dec_f rfl rfl rfl rfl (by first | assumption | omega) ?_ | refine Nx.m_split rfl rfl rfl rfl (fun hc => ?_) (fun hc => ?_) | refine Nx.m_splitb rfl rfl rfl rfl (fun hc => ?_) (fun hc => ?_)))
      | ((fail_if_success (with_reducible refine Nx.is_at ?_)); (fail_if_success (with_reducible refine Nx.is_wp ?_)); (fail_if_success (with_reducible refine Nx.is_mix ?_)); first | refine Nx.ex ?_)
    exact Nx.ret2 rfl (ROne.cell 0 rfl rfl rfl rfl rfl) (ROne.tmp rfl) [] ⟨rfl, rfl⟩ (by (exact Ent.auto))
  · unfold opV at *
    rw [if_neg h] at *
    repeat' first
      | ((with_reducible refine Nx.is_wp ?_); first | refine Nx.wo ?_ | refine Nx.p_dec rfl rfl (fun hc => ?_) (fun hc => ?_) | refine Nx.p_bool rfl rfl (fun hc => ?_) (fun hc => ?_))
      | ((first | refine Nx.at_op rfl rfl ?_ | refine Nx.m_loud rfl rfl rfl ?_ | refine Nx.at_do rfl rfl rfl rfl ?_ | refine Nx.m_loud_do rfl rfl rfl rfl rfl ?_); first | refine Nx.opr rfl rfl ?_ | refine Nx.callv rfl rfl rfl (by kernel_rfl) rfl (hc) ?_ | refine Nx.so ?_ | refine Nx.sb (fun bx => ?_) | refine Nx.sa (fun A2 c2 => ?_))
      | ((with_reducible refine Nx.is_at ?_); first | refine Nx.a ?_ | ((fail_if_success refine Nx.at_do rfl rfl rfl rfl ?_); first | refine Nx.at_dec_t rfl rfl rfl rfl (by first | assumption | omega) ?_ | refine Nx.at_dec_f rfl rfl rfl rfl (by first | assumption | omega) ?_ | refine Nx.at_split rfl rfl rfl rfl (fun hc => ?_) (fun hc => ?_) | refine Nx.at_splitb rfl rfl rfl rfl (fun hc => ?_) (fun hc => ?_)))
      | ((with_reducible refine Nx.is_mix ?_); first | refine Nx.m ?_ | ((fail_if_success refine Nx.m_quiet_do rfl rfl rfl rfl rfl rfl rfl ?_ ?_); (fail_if_success refine Nx.m_loud_do rfl rfl rfl rfl rfl ?_); first | refine Nx.m_dec_t rfl rfl rfl rfl (by first | assumption | omega) ?_ | refine Nx.m_dec_f rfl rfl rfl rfl (by first | assumption | omega) ?_ | refine Nx.m_split rfl rfl rfl rfl (fun hc => ?_) (fun hc => ?_) | refine Nx.m_splitb rfl rfl rfl rfl (fun hc => ?_) (fun hc => ?_)))
      | ((fail_if_success (with_reducible refine Nx.is_at ?_)); (fail_if_success (with_reducible refine Nx.is_wp ?_)); (fail_if_success (with_reducible refine Nx.is_mix ?_)); first | refine Nx.ex ?_)
    exact Nx.ret2 rfl (ROne.cell 0 rfl rfl rfl rfl rfl) (ROne.tmp rfl) [] ⟨rfl, rfl⟩ (by (exact Ent.auto))
set_option maxRecDepth 10000 in
theorem Mul_spec (n d m e : Int) (hn : I64 n) (hd : I64 d) (hm : I64 m) (he : I64 e) (I : PH) (hT : TabI I) : FnSpec Tryd.prog 20 [fracV n d, fracV m e] I [] (fun v R' => v = opV n d m e (Rat.divInt n d * Rat.divInt m e) ∧ R' = []) := by
  unfold opV
  by_cases h1 : FOk n d
  · by_cases h2 : FOk m e
    · obtain ⟨a1, a2, a3⟩ := fok_abs h1
      obtain ⟨b1, b2, b3⟩ := fok_abs h2
      rw [if_pos ⟨h1, h2⟩, Rat.divInt_mul_divInt]
      have hde := prod_bd a2 b2
      have hnm := prod_bd a1 b1
      have hpos : 0 < d * e := Int.mul_pos a3 b3
      refine FnSpec.enterP Tryd.func20 rfl Tryd.ntmps20 rfl fun w F => ?_
      repeat' first
        | ((with_reducible refine Nx.is_wp ?_); first | refine Nx.wo ?_ | refine Nx.p_drawF (id := 3) rfl [0, 1, 3, 4, 7, 8, 10, 11, 2, 5, 6, 9, 12, 13, 14, 15, 16] [2, 5, 6, 9, 12, 13, 14] [17, 18] _ rfl rfl (by kernel_rfl) (by kernel_rfl) rfl (by repeat first | exact PanicOk.fn | refine PanicOk.then_ ?_ | refine PanicOk.inB ?_) (Ent.refl _) ?_ | refine Nx.p_dec rfl rfl (fun hc => ?_) (fun hc => ?_) | refine Nx.p_bool rfl rfl (fun hc => ?_) (fun hc => ?_))
        | ((first | refine Nx.at_op rfl rfl ?_ | refine Nx.m_loud rfl rfl rfl ?_ | refine Nx.at_do rfl rfl rfl rfl ?_ | refine Nx.m_loud_do rfl rfl rfl rfl rfl ?_); first | refine Nx.opr rfl rfl ?_ | refine Nx.callv rfl rfl rfl (by kernel_rfl) rfl (Valid_t h1 I) ?_ | refine Nx.callv rfl rfl rfl (by kernel_rfl) rfl (Valid_t h2 I) ?_ | refine Nx.callv rfl rfl rfl (by kernel_rfl) rfl (whole_spec _ hn I) ?_ | refine Nx.callv rfl rfl rfl (by kernel_rfl) rfl (whole_spec _ hd I) ?_ | refine Nx.callv rfl rfl rfl (by kernel_rfl) rfl (whole_spec _ hm I) ?_ | refine Nx.callv rfl rfl rfl (by kernel_rfl) rfl (whole_spec _ he I) ?_ | refine Nx.callv rfl rfl rfl (by kernel_rfl) rfl (times_spec _ _ I) ?_ | refine Nx.callv rfl rfl rfl (by kernel_rfl) rfl (Reduced_spec _ _ (by unfold H127; omega) (by omega) (by unfold H127; omega) I hT) ?_ | refine Nx.so ?_ | refine Nx.sb (fun bx => ?_) | refine Nx.sa (fun A2 c2 => ?_))
        | ((with_reducible refine Nx.is_at ?_); first | refine Nx.a ?_ | ((fail_if_success refine Nx.at_do rfl rfl rfl rfl ?_); first | refine Nx.at_dec_t rfl rfl rfl rfl (by first | assumption | omega) ?_ | refine Nx.at_dec_f rfl rfl rfl rfl (by first | assumption | omega) ?_ | refine Nx.at_split rfl rfl rfl rfl (fun hc => ?_) (fun hc => ?_) | refine Nx.at_splitb rfl rfl rfl rfl (fun hc => ?_) (fun hc => ?_)))
        | ((with_reducible refine Nx.is_mix ?_); first | refine Nx.m ?_ | ((fail_if_success refine Nx.m_quiet_do rfl rfl rfl rfl rfl rfl rfl ?_ ?_); (fail_if_success refine Nx.m_loud_do rfl rfl rfl rfl rfl ?_); first | refine Nx.m_dec_t rfl rfl rfl rfl (by first | assumption | omega) ?_ | refine Nx.m_dec_f rfl rfl rfl rfl (by first | assumption | omega) ?_ | refine Nx.m_split rfl rfl rfl rfl (fun hc => ?_) (fun hc => ?_) | refine Nx.m_splitb rfl rfl rfl rfl (fun hc => ?_) (fun hc => ?_)))
        | ((fail_if_success (with_reducible refine Nx.is_at ?_)); (fail_if_success (with_reducible refine Nx.is_wp ?_)); (fail_if_success (with_reducible refine Nx.is_mix ?_)); first | refine Nx.ex ?_)
      exact Nx.ret2 rfl (ROne.cell 0 rfl rfl rfl rfl rfl) (ROne.tmp rfl) [] ⟨rfl, rfl⟩ (by (exact Ent.auto))
    · rw [if_neg (fun h => h2 h.2)]
      refine FnSpec.enterP Tryd.func20 rfl Tryd.ntmps20 rfl fun w F => ?_
      repeat' first
        | ((with_reducible refine Nx.is_wp ?_); first | refine Nx.wo ?_ | refine Nx.p_dec rfl rfl (fun hc => ?_) (fun hc => ?_) | refine Nx.p_bool rfl rfl (fun hc => ?_) (fun hc => ?_))
        | ((first | refine Nx.at_op rfl rfl ?_ | refine Nx.m_loud rfl rfl rfl ?_ | refine Nx.at_do rfl rfl rfl rfl ?_ | refine Nx.m_loud_do rfl rfl rfl rfl rfl ?_); first | refine Nx.opr rfl rfl ?_ | refine Nx.callv rfl rfl rfl (by kernel_rfl) rfl (Valid_t h1 I) ?_ | refine Nx.callv rfl rfl rfl (by kernel_rfl) rfl (Valid_f hm he h2 I) ?_ | refine Nx.so ?_ | refine Nx.sb (fun bx => ?_) | refine Nx.sa (fun A2 c2 => ?_))
        | ((with_reducible refine Nx.is_at ?_); first | refine Nx.a ?_ | ((fail_if_success refine Nx.at_do rfl rfl rfl rfl ?_); first | refine Nx.at_dec_t rfl rfl rfl rfl (by first | assumption | omega) ?_ | refine Nx.at_dec_f rfl rfl rfl rfl (by first | assumption | omega) ?_ | refine Nx.at_split rfl rfl rfl rfl (fun hc => ?_) (fun hc => ?_) | refine Nx.at_splitb rfl rfl rfl rfl (fun hc => ?_) (fun hc => ?_)))
        | ((with_reducible refine Nx.is_mix ?_); first | refine Nx.m ?_ | ((fail_if_success refine Nx.m_quiet_do rfl rfl rfl rfl rfl rfl rfl ?_ ?_); (fail_if_success refine Nx.m_loud_do rfl rfl rfl rfl rfl ?_); first | refine Nx.m_dec_t rfl rfl rfl rfl (by first | assumption | omega) ?_ | refine Nx.m_dec_f rfl rfl rfl rfl (by first | assumption | omega) ?_ | refine Nx.m_split rfl rfl rfl rfl (fun hc => ?_) (fun hc => ?_) | refine Nx.m_splitb rfl rfl rfl rfl (fun hc => ?_) (fun hc => ?_)))
        | ((fail_if_success (with_reducible refine Nx.is_at ?_)); (fail_if_success (with_reducible refine Nx.is_wp ?_)); (fail_if_success (with_reducible refine Nx.is_mix ?_)); first | refine Nx.ex ?_)
      exact Nx.ret2 rfl (ROne.cell 0 rfl rfl rfl rfl rfl) (ROne.tmp rfl) [] ⟨rfl, rfl⟩ (by (exact Ent.auto))
  · rw [if_neg (fun h => h1 h.1)]
    refine FnSpec.enterP Tryd.func20 rfl Tryd.ntmps20 rfl fun w F => ?_
    repeat' first
      | ((with_reducible refine Nx.is_wp ?_); first | refine Nx.wo ?_ | refine Nx.p_dec rfl rfl (fun hc => ?_) (fun hc => ?_) | refine Nx.p_bool rfl rfl (fun hc => ?_) (fun hc => ?_))
      | ((first | refine Nx.at_op rfl rfl ?_ | refine Nx.m_loud rfl rfl rfl ?_ | refine Nx.at_do rfl rfl rfl rfl ?_ | refine Nx.m_loud_do rfl rfl rfl rfl rfl ?_); first | refine Nx.opr rfl rfl ?_ | refine Nx.callv rfl rfl rfl (by kernel_rfl) rfl (Valid_f hn hd h1 I) ?_ | refine Nx.so ?_ | refine Nx.sb (fun bx => ?_) | refine Nx.sa (fun A2 c2 => ?_))
      | ((with_reducible refine Nx.is_at ?_); first | refine Nx.a ?_ | ((fail_if_success refine Nx.at_do rfl rfl rfl rfl ?_); first | refine Nx.at_dec_t rfl rfl rfl rfl (by first | assumption | omega) ?_ | refine Nx.at_dec_f rfl rfl rfl rfl (by first | assumption | omega) ?_ | refine Nx.at_split rfl rfl rfl rfl (fun hc => ?_) (fun hc => ?_) | refine Nx.at_splitb rfl rfl rfl rfl (fun hc => ?_) (fun hc => ?_)))
      | ((with_reducible refine Nx.is_mix ?_); first | refine Nx.m ?_ | ((fail_if_success refine Nx.m_quiet_do rfl rfl rfl rfl rfl rfl rfl ?_ ?_); (fail_if_success refine Nx.m_loud_do rfl rfl rfl rfl rfl ?_); first | refine Nx.m_dec_t rfl rfl rfl rfl (by first | assumption | omega) ?_ | refine Nx.m_dec_f rfl rfl rfl rfl (by first | assumption | omega) ?_ | refine Nx.m_split rfl rfl rfl rfl (fun hc => ?_) (fun hc => ?_) | refine Nx.m_splitb rfl rfl rfl rfl (fun hc => ?_) (fun hc => ?_)))
      | ((fail_if_success (with_reducible refine Nx.is_at ?_)); (fail_if_success (with_reducible refine Nx.is_wp ?_)); (fail_if_success (with_reducible refine Nx.is_mix ?_)); first | refine Nx.ex ?_)
    exact Nx.ret2 rfl (ROne.cell 0 rfl rfl rfl rfl rfl) (ROne.tmp rfl) [] ⟨rfl, rfl⟩ (by (exact Ent.auto))
end Go.Proofs.YtpdgnjoideppjaaDoor
/- Contracts of functions of the given program, and lemmas about plain lists and numbers: what the laws of this seat lean on. -/
namespace Go.Proofs.YtpdgnjoideppjaaDoor
open Go.Eng Go.Det
attribute [local irreducible] opK wpList Code.wp Exit.then Exit.inBlock fnPost bodyPost Nx Calls Oper.wp Rd Rds Wr Ent Stars Blk Again Vec FnSpec wpMix QRun Stop Upto wpAt
theorem opV_ratK {p q : Rat} (hp : RB p) (hq : RB q) (r : Rat) : opV p.num p.den q.num q.den r = redV r := by
  unfold opV
  rw [if_pos ⟨hp.fok, hq.fok⟩]
theorem Add_ratK (p q : Rat) (hp : RB p) (hq : RB q) (I : PH) (hT : TabI I) : FnSpec Tryd.prog 21 [ratV p, ratV q] I [] (fun v R' => v = redV (p + q) ∧ R' = []) := by
  have := Add_spec p.num p.den q.num q.den (fok_i64 hp.fok).1 (fok_i64 hp.fok).2 (fok_i64 hq.fok).1 (fok_i64 hq.fok).2 I hT
  rw [opV_ratK hp hq, Rat.num_divInt_den, Rat.num_divInt_den] at this
  exact this
theorem Mul_ratK (p q : Rat) (hp : RB p) (hq : RB q) (I : PH) (hT : TabI I) : FnSpec Tryd.prog 20 [ratV p, ratV q] I [] (fun v R' => v = redV (p * q) ∧ R' = []) := by
  have := Mul_spec p.num p.den q.num q.den (fok_i64 hp.fok).1 (fok_i64 hp.fok).2 (fok_i64 hq.fok).1 (fok_i64 hq.fok).2 I hT
  rw [opV_ratK hp hq, Rat.num_divInt_den, Rat.num_divInt_den] at this
  exact this
set_option maxRecDepth 10000 in
set_option maxHeartbeats 8000000 in
theorem LinearKernel_spec (A : Option Addr) (c : Nat) (l : List Int) (I : PH) (hl : SliceOf (fun x : Int => Value.int .u8 x) I A c l) (hx : ∀ x ∈ l, 0 ≤ x ∧ x < 256) (hT : TabI I) :
    FnSpec Tryd.prog 7 [.slice A l.length c] I [] (fun v R' => v = .bool true ∧ R' = []) := by
  obtain ⟨hL, hNew⟩ := New_codes A c l I hl hx
  refine FnSpec.enterP Tryd.func7 rfl Tryd.ntmps7 rfl fun w F => ?_
  repeat' first
    | ((with_reducible refine Nx.is_wp ?_); first | refine Nx.p_stopr 3 rfl ?_ | refine Nx.wo ?_ | refine Nx.p_dec rfl rfl (fun hc => ?_) (fun hc => ?_) | refine Nx.p_bool rfl rfl (fun hc => ?_) (fun hc => ?_))
    | ((first | refine Nx.at_op rfl rfl ?_ | refine Nx.m_loud rfl rfl rfl ?_ | refine Nx.at_do rfl rfl rfl rfl ?_ | refine Nx.m_loud_do rfl rfl rfl rfl rfl ?_); first | refine Nx.opr rfl rfl ?_ | refine Nx.call rfl rfl rfl (by kernel_rfl) rfl hNew (Ent.refl _) ?_; rintro _ _ ⟨bc, rfl, rfl⟩ | (refine Nx.call rfl rfl rfl (by kernel_rfl) rfl (Range_codes bc A c _ _ 1 4 I hL (Nat.zero_le _) (by omega) (by omega)) (by (exact Ent.auto)) ?_; rintro _ _ ⟨r, k1, rfl, hr, hk1, rfl⟩; obtain ⟨n, rfl⟩ := Int.eq_ofNat_of_zero_le (show 0 ≤ r by omega)) | (refine Nx.call rfl rfl rfl (by kernel_rfl) rfl (matrix_spec bc A c _ k1 n I hL hk1 (by omega)) (by (exact Ent.auto)) ?_; rintro _ _ ⟨A5, c5, a, k2, rfl, ha, hk2, rfl⟩) | refine Nx.so ?_ | refine Nx.sb (fun bx => ?_) | refine Nx.sa (fun A2 c2 => ?_))
    | ((with_reducible refine Nx.is_at ?_); first | refine Nx.a ?_ | ((fail_if_success refine Nx.at_do rfl rfl rfl rfl ?_); first | refine Nx.at_dec_t rfl rfl rfl rfl (by first | assumption | omega) ?_ | refine Nx.at_dec_f rfl rfl rfl rfl (by first | assumption | omega) ?_ | refine Nx.at_split rfl rfl rfl rfl (fun hc => ?_) (fun hc => ?_) | refine Nx.at_splitb rfl rfl rfl rfl (fun hc => ?_) (fun hc => ?_)))
    | ((with_reducible refine Nx.is_mix ?_); first | refine Nx.m ?_ | ((fail_if_success refine Nx.m_quiet_do rfl rfl rfl rfl rfl rfl rfl ?_ ?_); (fail_if_success refine Nx.m_loud_do rfl rfl rfl rfl rfl ?_); first | refine Nx.m_dec_t rfl rfl rfl rfl (by first | assumption | omega) ?_ | refine Nx.m_dec_f rfl rfl rfl rfl (by first | assumption | omega) ?_ | refine Nx.m_split rfl rfl rfl rfl (fun hc => ?_) (fun hc => ?_) | refine Nx.m_splitb rfl rfl rfl rfl (fun hc => ?_) (fun hc => ?_)))
    | ((fail_if_success (with_reducible refine Nx.is_at ?_)); (fail_if_success (with_reducible refine Nx.is_wp ?_)); (fail_if_success (with_reducible refine Nx.is_mix ?_)); first | refine Nx.ex ?_)
  refine Nx.p_go rfl (Nx.ent (R' := [Vec 28 1 A5 a.length c5 (a.map rowV), Stars (a.map rowR), F]) (by (exact Ent.auto)) ?_)
  refine Nx.freezeAt 0 rfl fun I1 m1 hI1 hm1 h1' => ?_
  refine Nx.freezeAt 0 rfl fun I2 m2 hI2 hm2 h2' => ?_
  have hle : PH.le I I2 := hI1.trans hI2
  have hMa : Mat I2 A5 c5 a := mat_given (hm1.trans hI2) h1' hm2 h2'
  have hT2 := TabI.mono hle hT
  have hAw := awake_spec I2 hT2
  have hal := ha.len
  have hmade := ha.made
  have hK := Kernel_spec A5 c5 a I2 hMa hT2
  have hZ := Zero_spec A5 c5 a I2 hMa
  have hml := matL_len a
  by_cases hzb : zeroB (matL a) = true
  case neg =>
    rw [Bool.not_eq_true] at hzb
    rw [hzb] at hZ
    repeat' first
      | ((with_reducible refine Nx.is_wp ?_); first | refine Nx.wo ?_ | refine Nx.p_dec rfl rfl (fun hc => ?_) (fun hc => ?_) | refine Nx.p_bool rfl rfl (fun hc => ?_) (fun hc => ?_))
      | ((first | refine Nx.at_op rfl rfl ?_ | refine Nx.m_loud rfl rfl rfl ?_ | refine Nx.at_do rfl rfl rfl rfl ?_ | refine Nx.m_loud_do rfl rfl rfl rfl rfl ?_); first | refine Nx.opr rfl rfl ?_ | (refine Nx.call (Rpre := []) rfl rfl rfl (by kernel_rfl) rfl hK (Ent.refl _) ?_; rintro _ _ ⟨A6, c6, s, rfl, hs1, hs2, rfl⟩; rw [hs1 hzb]) | refine Nx.callv rfl rfl rfl (by kernel_rfl) rfl hZ ?_ | refine Nx.callv rfl rfl rfl (by kernel_rfl) rfl hAw ?_ | refine Nx.so ?_ | refine Nx.sb (fun bx => ?_) | refine Nx.sa (fun A2 c2 => ?_))
      | ((with_reducible refine Nx.is_at ?_); first | refine Nx.a ?_ | ((fail_if_success refine Nx.at_do rfl rfl rfl rfl ?_); first | refine Nx.at_dec_t rfl rfl rfl rfl (by first | assumption | omega) ?_ | refine Nx.at_dec_f rfl rfl rfl rfl (by first | assumption | omega) ?_ | refine Nx.at_split rfl rfl rfl rfl (fun hc => ?_) (fun hc => ?_) | refine Nx.at_splitb rfl rfl rfl rfl (fun hc => ?_) (fun hc => ?_)))
      | ((with_reducible refine Nx.is_mix ?_); first | refine Nx.m ?_ | ((fail_if_success refine Nx.m_quiet_do rfl rfl rfl rfl rfl rfl rfl ?_ ?_); (fail_if_success refine Nx.m_loud_do rfl rfl rfl rfl rfl ?_); first | refine Nx.m_dec_t rfl rfl rfl rfl (by first | assumption | omega) ?_ | refine Nx.m_dec_f rfl rfl rfl rfl (by first | assumption | omega) ?_ | refine Nx.m_split rfl rfl rfl rfl (fun hc => ?_) (fun hc => ?_) | refine Nx.m_splitb rfl rfl rfl rfl (fun hc => ?_) (fun hc => ?_)))
      | ((fail_if_success (with_reducible refine Nx.is_at ?_)); (fail_if_success (with_reducible refine Nx.is_wp ?_)); (fail_if_success (with_reducible refine Nx.is_mix ?_)); first | refine Nx.ex ?_)
    exact Nx.imm_le hle (Nx.ret_fn rfl [] ⟨rfl, rfl⟩ (by (exact Ent.auto)))
  rw [hzb] at hZ
  have hz9 : chkE (matL a) = 0 ∧ detM (matL a) = 0 := of_decide_eq_true hzb
  have hf := chk_ok.1 hz9.1
  have hKn : FnSpec Tryd.prog 19 [.slice A5 a.length c5] I2 [] (fun u R' => ∃ (A' : Option Addr) (c' : Nat) (s : List (Int × Int)) (k : Nat) (x : Nat → Rat), u = .slice A' s.length c' ∧ Ker (matL a) k x ∧ s.length = n ∧ (∀ j, j < n → s.getD j default = ((yK x k j).num, ((yK x k j).den : Int))) ∧ R' = [fracsR A' c' s]) :=
    hK.mono fun u R' ⟨A', c', s, e1, _, e3, e4⟩ => by
      obtain ⟨k, x, hKer, hs⟩ := e3 hzb
      have hsn : s = kerS x k k n := by rw [hs, hml, hal]; exact ker_made hmade (by omega) hf hKer
      exact ⟨A', c', s, k, x, e1, hKer, by rw [hsn]; exact kerS_len _ _ _ _, fun j hj => by rw [hsn]; exact kerS_at (ker_rb hmade (by omega) hf hKer) hj, e4⟩
  repeat' first
    | ((with_reducible refine Nx.is_wp ?_); first | refine Nx.wo ?_ | refine Nx.p_dec rfl rfl (fun hc => ?_) (fun hc => ?_) | refine Nx.p_bool rfl rfl (fun hc => ?_) (fun hc => ?_))
    | ((first | refine Nx.at_op rfl rfl ?_ | refine Nx.m_loud rfl rfl rfl ?_ | refine Nx.at_do rfl rfl rfl rfl ?_ | refine Nx.m_loud_do rfl rfl rfl rfl rfl ?_); first | refine Nx.opr rfl rfl ?_ | (refine Nx.call (Rpre := []) rfl rfl rfl (by kernel_rfl) rfl hKn (Ent.refl _) ?_; rintro _ _ ⟨A6, c6, s, k, x, rfl, hKer, hsl, hat, rfl⟩) | refine Nx.callv rfl rfl rfl (by kernel_rfl) rfl hZ ?_ | refine Nx.so ?_ | refine Nx.sb (fun bx => ?_) | refine Nx.sa (fun A2 c2 => ?_))
    | ((with_reducible refine Nx.is_at ?_); first | refine Nx.a ?_ | ((fail_if_success refine Nx.at_do rfl rfl rfl rfl ?_); first | refine Nx.at_dec_t rfl rfl rfl rfl (by first | assumption | omega) ?_ | refine Nx.at_dec_f rfl rfl rfl rfl (by first | assumption | omega) ?_ | refine Nx.at_split rfl rfl rfl rfl (fun hc => ?_) (fun hc => ?_) | refine Nx.at_splitb rfl rfl rfl rfl (fun hc => ?_) (fun hc => ?_)))
    | ((with_reducible refine Nx.is_mix ?_); first | refine Nx.m ?_ | ((fail_if_success refine Nx.m_quiet_do rfl rfl rfl rfl rfl rfl rfl ?_ ?_); (fail_if_success refine Nx.m_loud_do rfl rfl rfl rfl rfl ?_); first | refine Nx.m_dec_t rfl rfl rfl rfl (by first | assumption | omega) ?_ | refine Nx.m_dec_f rfl rfl rfl rfl (by first | assumption | omega) ?_ | refine Nx.m_split rfl rfl rfl rfl (fun hc => ?_) (fun hc => ?_) | refine Nx.m_splitb rfl rfl rfl rfl (fun hc => ?_) (fun hc => ?_)))
    | ((fail_if_success (with_reducible refine Nx.is_at ?_)); (fail_if_success (with_reducible refine Nx.is_wp ?_)); (fail_if_success (with_reducible refine Nx.is_mix ?_)); first | refine Nx.ex ?_)
  refine Nx.freezeAt 0 rfl fun I3 m3 hI3 hm3 h3' => ?_
  have hFr : Fracs I3 A6 c6 s := Vec.sliceN hm3 h3' fun _ _ => rfl
  have hMa3 := hMa.mono hI3
  have hle3 := hle.trans hI3
  have hT3 := TabI.mono hle3 hT
  have hAw3 := awake_spec I3 hT3
  have hkn : k < n := by
    obtain ⟨_, _, _, _, h, _⟩ := hKer
    omega
  have hrb := ker_rb hmade (by omega) hf hKer
  have hzero := fun (r : Nat) (hr : r < n) => ker_zero hKer (r := r) (by omega)
  rw [hml, hal] at hzero
  refine Nx.p_loop (σ := Nat × Int) (fun q => [(4, .slice A5 a.length c5), (5, .slice A6 s.length c6), (6, .int .i64 q.2), (38, .int .i64 s.length), (39, .int .i64 (q.1 : Int))]) (fun _ => [F]) (fun q => q.1 ≤ n ∧ (q.1 ≤ k → -1 ≤ q.2 ∧ q.2 < q.1) ∧ (k < q.1 → q.2 = k)) (fun q => n - q.1) (0, -1) rfl ⟨Nat.zero_le _, fun _ => ⟨by decide, by decide⟩, fun h => absurd h (Nat.not_lt_zero _)⟩ ⟨rfl, rfl, rfl, rfl, rfl, trivial⟩ (by (exact Ent.auto)) ?_
  rintro ⟨i, z⟩ ⟨hi, h1, h2⟩
  dsimp only at hi h1 h2 ⊢
  by_cases hin : i < n
  · have hfl : ∀ (W : World) (R : List Res), Rd W I3 R (((ad A6).add (i * 2)).add 0) (.int .i64 (yK x k i).num) := fun W R => SliceN.fld hFr (by omega) 0 (by rw [hat i hin]; rfl)
    have hy1 : i = k → (yK x k i).num = 1 := fun h => by unfold yK; rw [if_neg (by omega), if_pos h]; rfl
    have hy2 : k < i → (yK x k i).num = 0 := fun h => by unfold yK; rw [if_neg (by omega), if_neg (by omega)]; rfl
    repeat' first
      | ((with_reducible refine Nx.is_wp ?_); first | refine Nx.wo ?_ | refine Nx.p_dec rfl rfl (fun hc => ?_) (fun hc => ?_) | refine Nx.p_bool rfl rfl (fun hc => ?_) (fun hc => ?_))
      | ((first | refine Nx.at_op rfl rfl ?_ | refine Nx.m_loud rfl rfl rfl ?_ | refine Nx.at_do rfl rfl rfl rfl ?_ | refine Nx.m_loud_do rfl rfl rfl rfl rfl ?_); first | refine Nx.opr rfl rfl ?_ | refine Nx.indexAddr_nat (A := A6) (i := i) (sz := 2) rfl rfl rfl rfl rfl (by omega) (hFr.isSome (by omega) (by decide)) ?_ | refine Nx.load rfl rfl rfl (hfl _ _) ?_ | refine Nx.so ?_ | refine Nx.sb (fun bx => ?_) | refine Nx.sa (fun A2 c2 => ?_))
      | ((with_reducible refine Nx.is_at ?_); first | refine Nx.a ?_ | ((fail_if_success refine Nx.at_do rfl rfl rfl rfl ?_); first | refine Nx.at_dec_t rfl rfl rfl rfl (by first | assumption | omega) ?_ | refine Nx.at_dec_f rfl rfl rfl rfl (by first | assumption | omega) ?_ | refine Nx.at_split rfl rfl rfl rfl (fun hc => ?_) (fun hc => ?_) | refine Nx.at_splitb rfl rfl rfl rfl (fun hc => ?_) (fun hc => ?_)))
      | ((with_reducible refine Nx.is_mix ?_); first | refine Nx.m ?_ | ((fail_if_success refine Nx.m_quiet_do rfl rfl rfl rfl rfl rfl rfl ?_ ?_); (fail_if_success refine Nx.m_loud_do rfl rfl rfl rfl rfl ?_); first | refine Nx.m_dec_t rfl rfl rfl rfl (by first | assumption | omega) ?_ | refine Nx.m_dec_f rfl rfl rfl rfl (by first | assumption | omega) ?_ | refine Nx.m_split rfl rfl rfl rfl (fun hc => ?_) (fun hc => ?_) | refine Nx.m_splitb rfl rfl rfl rfl (fun hc => ?_) (fun hc => ?_)))
      | ((fail_if_success (with_reducible refine Nx.is_at ?_)); (fail_if_success (with_reducible refine Nx.is_wp ?_)); (fail_if_success (with_reducible refine Nx.is_mix ?_)); first | refine Nx.ex ?_)
    · exact Nx.again (i + 1, (i : Int)) ⟨hin, fun h => ⟨by omega, by dsimp only; omega⟩, fun h => by
        dsimp only at h ⊢
        by_cases hk : i = k
        · omega
        · exact absurd (hy2 (by omega)) hc⟩ (by dsimp only; omega) ⟨rfl, rfl, rfl, rfl, rfl, trivial⟩ (by (exact Ent.auto))
    · exact Nx.again (i + 1, z) ⟨hin, fun h => by dsimp only at h ⊢; have := h1 (by omega); omega, fun h => by
        dsimp only at h ⊢
        by_cases hk : i = k
        · exact absurd (by rw [hy1 hk]; decide) hc
        · exact h2 (by omega)⟩ (by dsimp only; omega) ⟨rfl, rfl, rfl, rfl, rfl, trivial⟩ (by (exact Ent.auto))
  have hin' : i = n := by omega
  subst hin'
  have hzk := h2 hkn
  subst hzk
  have hlast : ∀ (W : World) (R : List Res), Rds W I3 R ((ad A6).add (k * 2)) (frC (1, 1)) := fun W R => by
    have := hFr.rds (W := W) (R := R) (k := k) (by omega)
    rw [hat k hkn, show (yK x k k) = 1 by unfold yK; rw [if_neg (by omega), if_pos rfl]] at this
    exact this
  repeat' first
    | ((with_reducible refine Nx.is_wp ?_); first | refine Nx.wo ?_ | refine Nx.p_dec rfl rfl (fun hc => ?_) (fun hc => ?_) | refine Nx.p_bool rfl rfl (fun hc => ?_) (fun hc => ?_))
    | ((first | refine Nx.at_op rfl rfl ?_ | refine Nx.m_loud rfl rfl rfl ?_ | refine Nx.at_do rfl rfl rfl rfl ?_ | refine Nx.m_loud_do rfl rfl rfl rfl rfl ?_); first | refine Nx.opr rfl rfl ?_ | refine Nx.indexAddr_nat (A := A6) (i := k) (sz := 2) rfl rfl rfl rfl rfl (by omega) (hFr.isSome (by omega) (by decide)) ?_ | refine Nx.quietly rfl rfl (QRun.loads rfl rfl rfl (hlast _ _) rfl) ?_ | refine Nx.binr rfl rfl (neq_same _ _) rfl ?_ | refine Nx.so ?_ | refine Nx.sb (fun bx => ?_) | refine Nx.sa (fun A2 c2 => ?_))
    | ((with_reducible refine Nx.is_at ?_); first | refine Nx.a ?_ | ((fail_if_success refine Nx.at_do rfl rfl rfl rfl ?_); first | refine Nx.at_dec_t rfl rfl rfl rfl (by first | assumption | omega) ?_ | refine Nx.at_dec_f rfl rfl rfl rfl (by first | assumption | omega) ?_ | refine Nx.at_split rfl rfl rfl rfl (fun hc => ?_) (fun hc => ?_) | refine Nx.at_splitb rfl rfl rfl rfl (fun hc => ?_) (fun hc => ?_)))
    | ((with_reducible refine Nx.is_mix ?_); first | refine Nx.m ?_ | ((fail_if_success refine Nx.m_quiet_do rfl rfl rfl rfl rfl rfl rfl ?_ ?_); (fail_if_success refine Nx.m_loud_do rfl rfl rfl rfl rfl ?_); first | refine Nx.m_dec_t rfl rfl rfl rfl (by first | assumption | omega) ?_ | refine Nx.m_dec_f rfl rfl rfl rfl (by first | assumption | omega) ?_ | refine Nx.m_split rfl rfl rfl rfl (fun hc => ?_) (fun hc => ?_) | refine Nx.m_splitb rfl rfl rfl rfl (fun hc => ?_) (fun hc => ?_)))
    | ((fail_if_success (with_reducible refine Nx.is_at ?_)); (fail_if_success (with_reducible refine Nx.is_wp ?_)); (fail_if_success (with_reducible refine Nx.is_mix ?_)); first | refine Nx.ex ?_)
  refine Nx.p_loop (σ := Nat) (fun q => [(4, .slice A5 a.length c5), (5, .slice A6 s.length c6), (61, .int .i64 a.length), (62, .int .i64 (q : Int))]) (fun _ => [F]) (fun q => q ≤ i) (fun q => i - q) 0 rfl (Nat.zero_le _) ⟨rfl, rfl, rfl, rfl, trivial⟩ (by (exact Ent.auto)) ?_
  intro r hr9
  have hr9 : r ≤ i := hr9
  by_cases hri : r < i
  case neg =>
    repeat' first
      | ((with_reducible refine Nx.is_wp ?_); first | refine Nx.wo ?_ | refine Nx.p_dec rfl rfl (fun hc => ?_) (fun hc => ?_) | refine Nx.p_bool rfl rfl (fun hc => ?_) (fun hc => ?_))
      | ((first | refine Nx.at_op rfl rfl ?_ | refine Nx.m_loud rfl rfl rfl ?_ | refine Nx.at_do rfl rfl rfl rfl ?_ | refine Nx.m_loud_do rfl rfl rfl rfl rfl ?_); first | refine Nx.opr rfl rfl ?_ | refine Nx.callv rfl rfl rfl (by kernel_rfl) rfl hAw3 ?_ | refine Nx.so ?_ | refine Nx.sb (fun bx => ?_) | refine Nx.sa (fun A2 c2 => ?_))
      | ((with_reducible refine Nx.is_at ?_); first | refine Nx.a ?_ | ((fail_if_success refine Nx.at_do rfl rfl rfl rfl ?_); first | refine Nx.at_dec_t rfl rfl rfl rfl (by first | assumption | omega) ?_ | refine Nx.at_dec_f rfl rfl rfl rfl (by first | assumption | omega) ?_ | refine Nx.at_split rfl rfl rfl rfl (fun hc => ?_) (fun hc => ?_) | refine Nx.at_splitb rfl rfl rfl rfl (fun hc => ?_) (fun hc => ?_)))
      | ((with_reducible refine Nx.is_mix ?_); first | refine Nx.m ?_ | ((fail_if_success refine Nx.m_quiet_do rfl rfl rfl rfl rfl rfl rfl ?_ ?_); (fail_if_success refine Nx.m_loud_do rfl rfl rfl rfl rfl ?_); first | refine Nx.m_dec_t rfl rfl rfl rfl (by first | assumption | omega) ?_ | refine Nx.m_dec_f rfl rfl rfl rfl (by first | assumption | omega) ?_ | refine Nx.m_split rfl rfl rfl rfl (fun hc => ?_) (fun hc => ?_) | refine Nx.m_splitb rfl rfl rfl rfl (fun hc => ?_) (fun hc => ?_)))
      | ((fail_if_success (with_reducible refine Nx.is_at ?_)); (fail_if_success (with_reducible refine Nx.is_wp ?_)); (fail_if_success (with_reducible refine Nx.is_mix ?_)); first | refine Nx.ex ?_)
    exact Nx.imm_le hle3 (Nx.ret_fn rfl [] ⟨rfl, rfl⟩ (by (exact Ent.auto)))
  repeat' first
    | ((with_reducible refine Nx.is_wp ?_); first | refine Nx.wo ?_ | refine Nx.p_dec rfl rfl (fun hc => ?_) (fun hc => ?_) | refine Nx.p_bool rfl rfl (fun hc => ?_) (fun hc => ?_))
    | ((first | refine Nx.at_op rfl rfl ?_ | refine Nx.m_loud rfl rfl rfl ?_ | refine Nx.at_do rfl rfl rfl rfl ?_ | refine Nx.m_loud_do rfl rfl rfl rfl rfl ?_); first | refine Nx.opr rfl rfl ?_ | refine Nx.so ?_ | refine Nx.sb (fun bx => ?_) | refine Nx.sa (fun A2 c2 => ?_))
    | ((with_reducible refine Nx.is_at ?_); first | refine Nx.a ?_ | ((fail_if_success refine Nx.at_do rfl rfl rfl rfl ?_); first | refine Nx.at_dec_t rfl rfl rfl rfl (by first | assumption | omega) ?_ | refine Nx.at_dec_f rfl rfl rfl rfl (by first | assumption | omega) ?_ | refine Nx.at_split rfl rfl rfl rfl (fun hc => ?_) (fun hc => ?_) | refine Nx.at_splitb rfl rfl rfl rfl (fun hc => ?_) (fun hc => ?_)))
    | ((with_reducible refine Nx.is_mix ?_); first | refine Nx.m ?_ | ((fail_if_success refine Nx.m_quiet_do rfl rfl rfl rfl rfl rfl rfl ?_ ?_); (fail_if_success refine Nx.m_loud_do rfl rfl rfl rfl rfl ?_); first | refine Nx.m_dec_t rfl rfl rfl rfl (by first | assumption | omega) ?_ | refine Nx.m_dec_f rfl rfl rfl rfl (by first | assumption | omega) ?_ | refine Nx.m_split rfl rfl rfl rfl (fun hc => ?_) (fun hc => ?_) | refine Nx.m_splitb rfl rfl rfl rfl (fun hc => ?_) (fun hc => ?_)))
    | ((fail_if_success (with_reducible refine Nx.is_at ?_)); (fail_if_success (with_reducible refine Nx.is_wp ?_)); (fail_if_success (with_reducible refine Nx.is_mix ?_)); first | refine Nx.ex ?_)
  revert bx; intro b9
  refine Nx.ent (R' := [Blk b9 37 [.int .i64 (0 : Rat).num, .int .i64 ((0 : Rat).den : Int)], F]) (by (exact Ent.auto)) ?_
  refine Nx.p_loop (σ := Nat × Rat) (fun q => [(4, .slice A5 a.length c5), (5, .slice A6 s.length c6), (8, .int .i64 (r : Int)), (9, .pointer (some ⟨b9, 0, none⟩)), (61, .int .i64 a.length), (62, .int .i64 (r : Int)), (67, .int .i64 s.length), (68, .int .i64 (q.1 : Int))])
    (fun q => [Blk b9 37 [.int .i64 q.2.num, .int .i64 (q.2.den : Int)], F]) (fun q => q.1 ≤ i ∧ RB q.2 ∧ q.2 = rS (fun j => (entM (matL a) r j : Rat) * yK x k j) q.1) (fun q => i - q.1) (0, 0) rfl ⟨Nat.zero_le _, by decide, rfl⟩ ⟨rfl, rfl, rfl, rfl, rfl, rfl, rfl, rfl, trivial⟩ (by (exact Ent.auto)) ?_
  rintro ⟨j, u⟩ ⟨hj, hu, hus⟩
  dsimp only at hj hu hus ⊢
  by_cases hji : j < i
  case neg =>
    have hj' : j = i := by omega
    subst hj'
    have hu0 : u.num = 0 := by rw [hus, hzero r hri]; rfl
    repeat' first
      | ((with_reducible refine Nx.is_wp ?_); first | refine Nx.wo ?_ | refine Nx.p_dec rfl rfl (fun hc => ?_) (fun hc => ?_) | refine Nx.p_bool rfl rfl (fun hc => ?_) (fun hc => ?_))
      | ((first | refine Nx.at_op rfl rfl ?_ | refine Nx.m_loud rfl rfl rfl ?_ | refine Nx.at_do rfl rfl rfl rfl ?_ | refine Nx.m_loud_do rfl rfl rfl rfl rfl ?_); first | refine Nx.opr rfl rfl ?_ | refine Nx.so ?_ | refine Nx.sb (fun bx => ?_) | refine Nx.sa (fun A2 c2 => ?_))
      | ((with_reducible refine Nx.is_at ?_); first | refine Nx.a ?_ | ((fail_if_success refine Nx.at_do rfl rfl rfl rfl ?_); first | refine Nx.at_dec_t rfl rfl rfl rfl (by first | assumption | omega) ?_ | refine Nx.at_dec_f rfl rfl rfl rfl (by first | assumption | omega) ?_ | refine Nx.at_split rfl rfl rfl rfl (fun hc => ?_) (fun hc => ?_) | refine Nx.at_splitb rfl rfl rfl rfl (fun hc => ?_) (fun hc => ?_)))
      | ((with_reducible refine Nx.is_mix ?_); first | refine Nx.m ?_ | ((fail_if_success refine Nx.m_quiet_do rfl rfl rfl rfl rfl rfl rfl ?_ ?_); (fail_if_success refine Nx.m_loud_do rfl rfl rfl rfl rfl ?_); first | refine Nx.m_dec_t rfl rfl rfl rfl (by first | assumption | omega) ?_ | refine Nx.m_dec_f rfl rfl rfl rfl (by first | assumption | omega) ?_ | refine Nx.m_split rfl rfl rfl rfl (fun hc => ?_) (fun hc => ?_) | refine Nx.m_splitb rfl rfl rfl rfl (fun hc => ?_) (fun hc => ?_)))
      | ((fail_if_success (with_reducible refine Nx.is_at ?_)); (fail_if_success (with_reducible refine Nx.is_wp ?_)); (fail_if_success (with_reducible refine Nx.is_mix ?_)); first | refine Nx.ex ?_)
    exact Nx.again (r + 1) hri (by omega) ⟨rfl, rfl, rfl, rfl, trivial⟩ (by (exact Ent.auto))
  have hrow := hMa3.rows _ (row_mem (show r < a.length by omega))
  have hll := ha.row r hri
  have hent : entM (matL a) r j = (a.getD r default).2.2.getD j default := by unfold entM; rw [matL_at (by omega)]; rfl
  have hbig : Big (entM (matL a) r j) := by rw [hent]; exact (ha.ent r j hri hji).1
  generalize hrow' : (a.getD r default) = rw' at hll hrow hent
  obtain ⟨Al, cl', l'⟩ := rw'
  dsimp only at hll hrow hent
  have hmr : ∀ (W : World) (R : List Res), Rd W I3 R ((ad A5).add (r * 1)) (.slice Al i cl') := fun W R => by
    have := hMa3.outer.rd (W := W) (R := R) (k := r) (by omega)
    rw [hrow', show rowV (Al, cl', l') = .slice Al i cl' by rw [← hll]; rfl] at this
    exact this
  have hxr : ∀ (W : World) (R' : List Res), Rd W I3 R' ((ad Al).add (j * 1)) (.int .i64 (entM (matL a) r j)) := fun W R' => by rw [hent]; exact hrow.rd (by omega)
  have hyr : ∀ (W : World) (R : List Res), Rds W I3 R ((ad A6).add (j * 2)) (frC ((yK x k j).num, ((yK x k j).den : Int))) := fun W R => by
    have := hFr.rds (W := W) (R := R) (k := j) (by omega)
    rw [hat j hji] at this
    exact this
  have hy := yK_rb hrb j
  have hnext : rS (fun j => (entM (matL a) r j : Rat) * yK x k j) (j + 1) = u + (entM (matL a) r j : Rat) * yK x k j := by rw [hus]; rfl
  generalize entM (matL a) r j = e0 at hbig hxr hnext
  generalize yK x k j = y at hyr hy hnext
  have he : RB (e0 : Rat) := ⟨by show e0.natAbs ≤ _; unfold Big at hbig; omega, by show (1 : Nat) ≤ _; decide⟩
  have hMul : FnSpec Tryd.prog 20 [.agg #[.int .i64 e0, .int .i64 1], .agg #[.int .i64 y.num, .int .i64 (y.den : Int)]] I3 [] (fun v R' => v = redV ((e0 : Rat) * y) ∧ R' = []) := Mul_ratK (e0 : Rat) y he hy I3 hT3
  by_cases hp : RB ((e0 : Rat) * y)
  case neg =>
    rw [redV_neg hp] at hMul
    have hAdd : FnSpec Tryd.prog 21 [.agg #[.int .i64 u.num, .int .i64 (u.den : Int)], .agg #[.int .i64 0, .int .i64 0]] I3 [] (fun v R' => v = .tuple #[.agg #[.int .i64 0, .int .i64 0], .int .i64 11] ∧ R' = []) := by
      have := Add_spec u.num u.den 0 0 (fok_i64 hu.fok).1 (fok_i64 hu.fok).2 (by unfold I64; decide) (by unfold I64; decide) I3 hT3
      unfold opV at this
      rw [if_neg fun h => absurd h.2.1 (by decide)] at this
      exact this
    repeat' first
      | ((with_reducible refine Nx.is_wp ?_); first | refine Nx.wo ?_ | refine Nx.p_poolF (id := 24) rfl [0, 1, 2, 3, 4, 5, 6, 7, 8, 9, 10, 11, 12, 13, 14, 15] [12] [15, 14] [17, 18] [17] [⟨16, 11, 37, _⟩] rfl rfl (by kernel_rfl) (by kernel_rfl) (by decide) (PoolFit.cons ⟨⟨_, _, _, rfl⟩, rfl, rfl⟩ PoolFit.nil) (by repeat first | exact PanicOk.fn | refine PanicOk.then_ ?_ | refine PanicOk.inB ?_) (Ent.refl _) ?_ | refine Nx.p_dec rfl rfl (fun hc => ?_) (fun hc => ?_) | refine Nx.p_bool rfl rfl (fun hc => ?_) (fun hc => ?_))
      | ((first | refine Nx.at_op rfl rfl ?_ | refine Nx.m_loud rfl rfl rfl ?_ | refine Nx.at_do rfl rfl rfl rfl ?_ | refine Nx.m_loud_do rfl rfl rfl rfl rfl ?_ | refine GoodF.loud_ rfl rfl rfl rfl (fun ex X => ?_)); first | refine Nx.opr rfl rfl ?_ | refine Nx.callv rfl rfl rfl (by kernel_rfl) rfl hMul ?_ | refine Nx.callv rfl rfl rfl (by kernel_rfl) rfl hAdd ?_ | refine Nx.callv rfl rfl rfl (by kernel_rfl) rfl hAw3 ?_ | refine Nx.so ?_ | refine Nx.sb (fun bx => ?_) | refine Nx.sa (fun A2 c2 => ?_))
      | ((with_reducible refine Nx.is_at ?_); first | refine Nx.a ?_ | ((fail_if_success refine Nx.at_do rfl rfl rfl rfl ?_); first | refine Nx.at_dec_t rfl rfl rfl rfl (by first | assumption | omega) ?_ | refine Nx.at_dec_f rfl rfl rfl rfl (by first | assumption | omega) ?_ | refine Nx.at_split rfl rfl rfl rfl (fun hc => ?_) (fun hc => ?_) | refine Nx.at_splitb rfl rfl rfl rfl (fun hc => ?_) (fun hc => ?_)))
      | ((with_reducible refine Nx.is_mix ?_); first | refine Nx.m_quiet rfl rfl rfl rfl rfl (by first | exact QRun.opr rfl | exact QRun.idx (A := A5) (i := r) (sz := 1) rfl rfl rfl rfl (by omega) (hMa3.outer.isSome (by omega)) | exact QRun.load rfl rfl (hmr _ _) | exact QRun.idx (A := Al) (i := j) (sz := 1) rfl rfl rfl rfl (by omega) (hrow.isSome (by omega)) | exact QRun.load rfl rfl (hxr _ _) | exact QRun.idx (A := A6) (i := j) (sz := 2) rfl rfl rfl rfl (by omega) (hFr.isSome (by omega) (by decide)) | exact QRun.loads rfl rfl rfl (hyr _ _) rfl) ?_ | refine Nx.m_quiet_do rfl rfl rfl rfl rfl rfl rfl (by first | exact QRun.opr rfl | exact QRun.idx (A := A5) (i := r) (sz := 1) rfl rfl rfl rfl (by omega) (hMa3.outer.isSome (by omega)) | exact QRun.load rfl rfl (hmr _ _) | exact QRun.idx (A := Al) (i := j) (sz := 1) rfl rfl rfl rfl (by omega) (hrow.isSome (by omega)) | exact QRun.load rfl rfl (hxr _ _) | exact QRun.idx (A := A6) (i := j) (sz := 2) rfl rfl rfl rfl (by omega) (hFr.isSome (by omega) (by decide)) | exact QRun.loads rfl rfl rfl (hyr _ _) rfl) ?_ | refine Nx.m ?_ | ((fail_if_success refine Nx.m_quiet_do rfl rfl rfl rfl rfl rfl rfl ?_ ?_); (fail_if_success refine Nx.m_loud_do rfl rfl rfl rfl rfl ?_); first | refine Nx.m_dec_t rfl rfl rfl rfl (by first | assumption | omega) ?_ | refine Nx.m_dec_f rfl rfl rfl rfl (by first | assumption | omega) ?_ | refine Nx.m_split rfl rfl rfl rfl (fun hc => ?_) (fun hc => ?_) | refine Nx.m_splitb rfl rfl rfl rfl (fun hc => ?_) (fun hc => ?_)))
      | ((with_reducible refine GoodF.is ?_); first | refine GoodF.quiet rfl rfl rfl rfl rfl rfl (by first | exact QRun.opr rfl | exact QRun.idx (A := A5) (i := r) (sz := 1) rfl rfl rfl rfl (by omega) (hMa3.outer.isSome (by omega)) | exact QRun.load rfl rfl (hmr _ _) | exact QRun.idx (A := Al) (i := j) (sz := 1) rfl rfl rfl rfl (by omega) (hrow.isSome (by omega)) | exact QRun.load rfl rfl (hxr _ _) | exact QRun.idx (A := A6) (i := j) (sz := 2) rfl rfl rfl rfl (by omega) (hFr.isSome (by omega) (by decide)) | exact QRun.loads rfl rfl rfl (hyr _ _) rfl |  exact QRun.std) ?_ | refine GoodF.done1 rfl (fun bx => ?_) | refine GoodF.done2 rfl (fun bx by_ => ?_) | refine GoodF.done3 rfl (fun bx by_ bz => ?_))
      | ((fail_if_success (with_reducible refine Nx.is_at ?_)); (fail_if_success (with_reducible refine Nx.is_wp ?_)); (fail_if_success (with_reducible refine Nx.is_mix ?_)); first | refine Nx.ex ?_ | refine Nx.pool_nextF 0 rfl (by exact Ent.auto) ?_ | refine Nx.pool_nextF 1 rfl (by exact Ent.auto) ?_ | refine Nx.pool_nextF 2 rfl (by exact Ent.auto) ?_ | refine Nx.pool_nextF 3 rfl (by exact Ent.auto) ?_)
    exact Nx.imm_le hle3 (Nx.ret_fn rfl [] ⟨rfl, rfl⟩ (by (exact Ent.auto)))
  rw [redV_pos hp] at hMul
  have hAdd := Add_ratK u ((e0 : Rat) * y) hu hp I3 hT3
  by_cases hq : RB (u + (e0 : Rat) * y)
  case neg =>
    rw [redV_neg hq] at hAdd
    repeat' first
      | ((with_reducible refine Nx.is_wp ?_); first | refine Nx.wo ?_ | refine Nx.p_poolF (id := 24) rfl [0, 1, 2, 3, 4, 5, 6, 7, 8, 9, 10, 11, 12, 13, 14, 15] [12] [15, 14] [17, 18] [17] [⟨16, 11, 37, _⟩] rfl rfl (by kernel_rfl) (by kernel_rfl) (by decide) (PoolFit.cons ⟨⟨_, _, _, rfl⟩, rfl, rfl⟩ PoolFit.nil) (by repeat first | exact PanicOk.fn | refine PanicOk.then_ ?_ | refine PanicOk.inB ?_) (Ent.refl _) ?_ | refine Nx.p_dec rfl rfl (fun hc => ?_) (fun hc => ?_) | refine Nx.p_bool rfl rfl (fun hc => ?_) (fun hc => ?_))
      | ((first | refine Nx.at_op rfl rfl ?_ | refine Nx.m_loud rfl rfl rfl ?_ | refine Nx.at_do rfl rfl rfl rfl ?_ | refine Nx.m_loud_do rfl rfl rfl rfl rfl ?_ | refine GoodF.loud_ rfl rfl rfl rfl (fun ex X => ?_)); first | refine Nx.opr rfl rfl ?_ | refine Nx.callv rfl rfl rfl (by kernel_rfl) rfl hMul ?_ | refine Nx.callv rfl rfl rfl (by kernel_rfl) rfl hAdd ?_ | refine Nx.callv rfl rfl rfl (by kernel_rfl) rfl hAw3 ?_ | refine Nx.so ?_ | refine Nx.sb (fun bx => ?_) | refine Nx.sa (fun A2 c2 => ?_))
      | ((with_reducible refine Nx.is_at ?_); first | refine Nx.a ?_ | ((fail_if_success refine Nx.at_do rfl rfl rfl rfl ?_); first | refine Nx.at_dec_t rfl rfl rfl rfl (by first | assumption | omega) ?_ | refine Nx.at_dec_f rfl rfl rfl rfl (by first | assumption | omega) ?_ | refine Nx.at_split rfl rfl rfl rfl (fun hc => ?_) (fun hc => ?_) | refine Nx.at_splitb rfl rfl rfl rfl (fun hc => ?_) (fun hc => ?_)))
      | ((with_reducible refine Nx.is_mix ?_); first | refine Nx.m_quiet rfl rfl rfl rfl rfl (by first | exact QRun.opr rfl | exact QRun.idx (A := A5) (i := r) (sz := 1) rfl rfl rfl rfl (by omega) (hMa3.outer.isSome (by omega)) | exact QRun.load rfl rfl (hmr _ _) | exact QRun.idx (A := Al) (i := j) (sz := 1) rfl rfl rfl rfl (by omega) (hrow.isSome (by omega)) | exact QRun.load rfl rfl (hxr _ _) | exact QRun.idx (A := A6) (i := j) (sz := 2) rfl rfl rfl rfl (by omega) (hFr.isSome (by omega) (by decide)) | exact QRun.loads rfl rfl rfl (hyr _ _) rfl) ?_ | refine Nx.m_quiet_do rfl rfl rfl rfl rfl rfl rfl (by first | exact QRun.opr rfl | exact QRun.idx (A := A5) (i := r) (sz := 1) rfl rfl rfl rfl (by omega) (hMa3.outer.isSome (by omega)) | exact QRun.load rfl rfl (hmr _ _) | exact QRun.idx (A := Al) (i := j) (sz := 1) rfl rfl rfl rfl (by omega) (hrow.isSome (by omega)) | exact QRun.load rfl rfl (hxr _ _) | exact QRun.idx (A := A6) (i := j) (sz := 2) rfl rfl rfl rfl (by omega) (hFr.isSome (by omega) (by decide)) | exact QRun.loads rfl rfl rfl (hyr _ _) rfl) ?_ | refine Nx.m ?_ | ((fail_if_success refine Nx.m_quiet_do rfl rfl rfl rfl rfl rfl rfl ?_ ?_); (fail_if_success refine Nx.m_loud_do rfl rfl rfl rfl rfl ?_); first | refine Nx.m_dec_t rfl rfl rfl rfl (by first | assumption | omega) ?_ | refine Nx.m_dec_f rfl rfl rfl rfl (by first | assumption | omega) ?_ | refine Nx.m_split rfl rfl rfl rfl (fun hc => ?_) (fun hc => ?_) | refine Nx.m_splitb rfl rfl rfl rfl (fun hc => ?_) (fun hc => ?_)))
      | ((with_reducible refine GoodF.is ?_); first | refine GoodF.quiet rfl rfl rfl rfl rfl rfl (by first | exact QRun.opr rfl | exact QRun.idx (A := A5) (i := r) (sz := 1) rfl rfl rfl rfl (by omega) (hMa3.outer.isSome (by omega)) | exact QRun.load rfl rfl (hmr _ _) | exact QRun.idx (A := Al) (i := j) (sz := 1) rfl rfl rfl rfl (by omega) (hrow.isSome (by omega)) | exact QRun.load rfl rfl (hxr _ _) | exact QRun.idx (A := A6) (i := j) (sz := 2) rfl rfl rfl rfl (by omega) (hFr.isSome (by omega) (by decide)) | exact QRun.loads rfl rfl rfl (hyr _ _) rfl |  exact QRun.std) ?_ | refine GoodF.done1 rfl (fun bx => ?_) | refine GoodF.done2 rfl (fun bx by_ => ?_) | refine GoodF.done3 rfl (fun bx by_ bz => ?_))
      | ((fail_if_success (with_reducible refine Nx.is_at ?_)); (fail_if_success (with_reducible refine Nx.is_wp ?_)); (fail_if_success (with_reducible refine Nx.is_mix ?_)); first | refine Nx.ex ?_ | refine Nx.pool_nextF 0 rfl (by exact Ent.auto) ?_ | refine Nx.pool_nextF 1 rfl (by exact Ent.auto) ?_ | refine Nx.pool_nextF 2 rfl (by exact Ent.auto) ?_ | refine Nx.pool_nextF 3 rfl (by exact Ent.auto) ?_)
    exact Nx.imm_le hle3 (Nx.ret_fn rfl [] ⟨rfl, rfl⟩ (by (exact Ent.auto)))
  rw [redV_pos hq] at hAdd
  generalize (e0 : Rat) * y = p at hMul hAdd hp hq hnext
  generalize u + p = v at hAdd hq hnext
  repeat' first
    | ((with_reducible refine Nx.is_wp ?_); first | refine Nx.wo ?_ | refine Nx.p_poolF (id := 24) rfl [0, 1, 2, 3, 4, 5, 6, 7, 8, 9, 10, 11, 12, 13, 14, 15] [12] [15, 14] [17, 18] [17] [⟨16, 11, 37, _⟩] rfl rfl (by kernel_rfl) (by kernel_rfl) (by decide) (PoolFit.cons ⟨⟨_, _, _, rfl⟩, rfl, rfl⟩ PoolFit.nil) (by repeat first | exact PanicOk.fn | refine PanicOk.then_ ?_ | refine PanicOk.inB ?_) (Ent.refl _) ?_ | refine Nx.p_dec rfl rfl (fun hc => ?_) (fun hc => ?_) | refine Nx.p_bool rfl rfl (fun hc => ?_) (fun hc => ?_))
    | ((first | refine Nx.at_op rfl rfl ?_ | refine Nx.m_loud rfl rfl rfl ?_ | refine Nx.at_do rfl rfl rfl rfl ?_ | refine Nx.m_loud_do rfl rfl rfl rfl rfl ?_ | refine GoodF.loud_ rfl rfl rfl rfl (fun ex X => ?_)); first | refine Nx.opr rfl rfl ?_ | refine Nx.callv rfl rfl rfl (by kernel_rfl) rfl hMul ?_ | refine Nx.callv rfl rfl rfl (by kernel_rfl) rfl hAdd ?_ | refine Nx.callv rfl rfl rfl (by kernel_rfl) rfl hAw3 ?_ | refine Nx.so ?_ | refine Nx.sb (fun bx => ?_) | refine Nx.sa (fun A2 c2 => ?_))
    | ((with_reducible refine Nx.is_at ?_); first | refine Nx.a ?_ | ((fail_if_success refine Nx.at_do rfl rfl rfl rfl ?_); first | refine Nx.at_dec_t rfl rfl rfl rfl (by first | assumption | omega) ?_ | refine Nx.at_dec_f rfl rfl rfl rfl (by first | assumption | omega) ?_ | refine Nx.at_split rfl rfl rfl rfl (fun hc => ?_) (fun hc => ?_) | refine Nx.at_splitb rfl rfl rfl rfl (fun hc => ?_) (fun hc => ?_)))
    | ((with_reducible refine Nx.is_mix ?_); first | refine Nx.m_quiet rfl rfl rfl rfl rfl (by first | exact QRun.opr rfl | exact QRun.idx (A := A5) (i := r) (sz := 1) rfl rfl rfl rfl (by omega) (hMa3.outer.isSome (by omega)) | exact QRun.load rfl rfl (hmr _ _) | exact QRun.idx (A := Al) (i := j) (sz := 1) rfl rfl rfl rfl (by omega) (hrow.isSome (by omega)) | exact QRun.load rfl rfl (hxr _ _) | exact QRun.idx (A := A6) (i := j) (sz := 2) rfl rfl rfl rfl (by omega) (hFr.isSome (by omega) (by decide)) | exact QRun.loads rfl rfl rfl (hyr _ _) rfl) ?_ | refine Nx.m_quiet_do rfl rfl rfl rfl rfl rfl rfl (by first | exact QRun.opr rfl | exact QRun.idx (A := A5) (i := r) (sz := 1) rfl rfl rfl rfl (by omega) (hMa3.outer.isSome (by omega)) | exact QRun.load rfl rfl (hmr _ _) | exact QRun.idx (A := Al) (i := j) (sz := 1) rfl rfl rfl rfl (by omega) (hrow.isSome (by omega)) | exact QRun.load rfl rfl (hxr _ _) | exact QRun.idx (A := A6) (i := j) (sz := 2) rfl rfl rfl rfl (by omega) (hFr.isSome (by omega) (by decide)) | exact QRun.loads rfl rfl rfl (hyr _ _) rfl) ?_ | refine Nx.m ?_ | ((fail_if_success refine Nx.m_quiet_do rfl rfl rfl rfl rfl rfl rfl ?_ ?_); (fail_if_success refine Nx.m_loud_do rfl rfl rfl rfl rfl ?_); first | refine Nx.m_dec_t rfl rfl rfl rfl (by first | assumption | omega) ?_ | refine Nx.m_dec_f rfl rfl rfl rfl (by first | assumption | omega) ?_ | refine Nx.m_split rfl rfl rfl rfl (fun hc => ?_) (fun hc => ?_) | refine Nx.m_splitb rfl rfl rfl rfl (fun hc => ?_) (fun hc => ?_)))
    | ((with_reducible refine GoodF.is ?_); first | refine GoodF.quiet rfl rfl rfl rfl rfl rfl (by first | exact QRun.opr rfl | exact QRun.idx (A := A5) (i := r) (sz := 1) rfl rfl rfl rfl (by omega) (hMa3.outer.isSome (by omega)) | exact QRun.load rfl rfl (hmr _ _) | exact QRun.idx (A := Al) (i := j) (sz := 1) rfl rfl rfl rfl (by omega) (hrow.isSome (by omega)) | exact QRun.load rfl rfl (hxr _ _) | exact QRun.idx (A := A6) (i := j) (sz := 2) rfl rfl rfl rfl (by omega) (hFr.isSome (by omega) (by decide)) | exact QRun.loads rfl rfl rfl (hyr _ _) rfl |  exact QRun.std) ?_ | refine GoodF.done1 rfl (fun bx => ?_) | refine GoodF.done2 rfl (fun bx by_ => ?_) | refine GoodF.done3 rfl (fun bx by_ bz => ?_))
    | ((fail_if_success (with_reducible refine Nx.is_at ?_)); (fail_if_success (with_reducible refine Nx.is_wp ?_)); (fail_if_success (with_reducible refine Nx.is_mix ?_)); first | refine Nx.ex ?_ | refine Nx.pool_nextF 0 rfl (by exact Ent.auto) ?_ | refine Nx.pool_nextF 1 rfl (by exact Ent.auto) ?_ | refine Nx.pool_nextF 2 rfl (by exact Ent.auto) ?_ | refine Nx.pool_nextF 3 rfl (by exact Ent.auto) ?_)
  exact Nx.again (j + 1, v) ⟨hji, hq, hnext.symm⟩ (by dsimp only; omega) ⟨rfl, rfl, rfl, rfl, rfl, rfl, rfl, rfl, trivial⟩ (by (exact Ent.auto))
end Go.Proofs.YtpdgnjoideppjaaDoor
/- Contracts of functions of the given program, and lemmas about plain lists and numbers: what the laws of this seat lean on. -/
namespace Go.Proofs.YtpdgnjoideppjaaDoor
open Go.Eng
/-! The table that the program reads, and a matrix that comes in -/
theorem g64 : Tryd.prog.globalNamed  "math/bits.deBruijn64tab" = some 0 := by kernel_rfl
theorem g64T : (Tryd.prog.globals[0]?).map (·.type) = some 100 := by kernel_rfl
theorem c5 : Tryd.prog.cellsOf 5 = 1 := by kernel_rfl
theorem c79 : Tryd.prog.cellsOf 100 = 64 := by kernel_rfl
abbrev laid1 : List (String × DataW Unit) := [("math/bits.deBruijn64tab", Rows.laid_math_bits_deBruijn64tab)]
def setBlk (cs : List Value) : Obj → Obj
  | .cells _ t frozen => .cells cs.toArray t frozen
  | o => o
/-- The settled world, the table holding what its initialiser lays: the witness. -/
noncomputable def laidWorld (os : Os) : World :=
  { World.holding Tryd.prog os ⟨#[], #[], []⟩ with heap := (World.holding Tryd.prog os ⟨#[], #[], []⟩).heap.modify 0 (setBlk (Lib.deBruijn64tab.map fun z : Nat => Value.int .u8 z)) }
theorem laidWorld_met (os : Os) (args : Array Value) : laidMetH Tryd.prog laid1 ((laidWorld os).forCall (fun _ _ => 0) ⟨#[], args, []⟩).memory :=
  laidMetH_of_parts (laidMet_of_run' 8 (by kernel_rfl) (by kernel_rfl)) (by kernel_rfl)
theorem heap_keep {W w0 w : World} {R : List Res} (h : St w0 (fun i => W.heap[i]?) R w) {i : Nat} {o : Obj} (ho : W.heap[i]? = some o) : w.heap[i]? = some o := by
  obtain ⟨m, _, hs⟩ := h.mem
  exact hs.imm i o ho
theorem var_keep {W w0 w : World} {R : List Res} (h : St w0 (fun i => W.heap[i]?) R w) {P : Program} {name : String} {k : IntKind} {zs : List Int} (ht : Lib.TabIs P W name k zs) : Lib.TabIs P w name k zs := by
  unfold Lib.TabIs World.var? at *
  cases hg : P.globalNamed name with
  | none => simp [hg] at ht
  | some g =>
    simp only [hg, Option.bind_some] at ht ⊢
    cases ho : W.heap[g]? with
    | none => rw [ho] at ht; simp at ht
    | some o => rw [heap_keep h ho]; rw [ho] at ht; exact ht
theorem tab_of {W : World} (h : laidMetH Tryd.prog laid1 W) : TabI (fun i => W.heap[i]?) := fun _ _ _ hst j hj => by
  have h1 : Lib.TabIs Tryd.prog W  "math/bits.deBruijn64tab" .u8 (Lib.deBruijn64tab.map fun z : Nat => (z : Int)) := Lib.tabIs_of_head g64 g64T Tryd.underlying100 Tryd.underlying5 c5 c79 (h : laidMet Tryd.prog laid1 W)
  have h2 := (var_keep hst h1).cell g64 j (by rw [List.length_map]; exact hj)
  rw [show (Lib.deBruijn64tab.map fun z : Nat => (z : Int)).getD j 0 = ((Lib.deBruijn64tab.getD j 0 : Nat) : Int) by
    rw [List.getD_eq_getElem?_getD, List.getD_eq_getElem?_getD, List.getElem?_map]
    cases Lib.deBruijn64tab[j]? <;> rfl] at h2
  exact h2
end Go.Proofs.YtpdgnjoideppjaaDoor
