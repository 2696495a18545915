/- Contracts of functions of the given program, and lemmas about plain lists and numbers: what the laws of this seat lean on. -/
import Derived.Test.YtcmdemfhbekabaaGreatDa10
namespace Go.Proofs.YtcmdemfhbekabaaGreat
open Go.Eng Go.Sol
attribute [local irreducible] opK wpList Code.wp Exit.then Exit.inBlock fnPost bodyPost Nx Calls Oper.wp Rd Rds Wr Ent Stars Blk Again Vec FnSpec wpMix QRun Stop Upto wpAt
/-! A space that does not fit the views: every function answers with the same error -/
theorem sizes_odd {l : List Int} (h : Sizes l) (h3 : l.length ≤ 3) : Sizes (l ++ [1]) := by
  refine ⟨by rw [List.length_append, List.length_singleton]; omega, fun x hx => ?_, ?_⟩
  · rcases List.mem_append.1 hx with hx | hx
    · exact h.each x hx
    · rw [List.mem_singleton.1 hx]; omega
  · unfold prod
    rw [List.foldl_append]
    have := h.cells
    unfold prod at this
    simpa using this
set_option maxHeartbeats 8000000 in
set_option maxRecDepth 10000 in
theorem Check5_spec (A : Option Addr) (c n : Nat) (I : PH) (h : n = 5) :
    FnSpec Tryz.prog 114 [.agg #[.slice A n c]] I [] (fun v R' => v = .int .i64 55 ∧ R' = []) := by
  subst h
  refine FnSpec.enterP Tryz.func114 rfl Tryz.ntmps114 rfl fun w F => ?_
  repeat' first
    | ((with_reducible refine Nx.is_wp ?_); first | refine Nx.wo ?_ | refine Nx.zp (fun hc => ?_) (fun hc => ?_))
    | (refine Nx.zo ?_; first | refine Nx.opr rfl rfl ?_ | refine Nx.so ?_ | refine Nx.sb (fun bx => ?_) | refine Nx.sa (fun A2 c2 => ?_))
    | ((with_reducible refine Nx.is_at ?_); first | refine Nx.a ?_ | refine Nx.zd ?_ | refine Nx.zs (fun hc => ?_) (fun hc => ?_))
    | ((with_reducible refine Nx.is_mix ?_); first | refine Nx.m ?_ | refine Nx.zm ?_ | refine Nx.zt (fun hc => ?_) (fun hc => ?_))
    | refine Nx.zx ?_ | fail
  exact Nx.ret_fn rfl [] ⟨rfl, rfl⟩ (by (exact Ent.auto))
set_option maxHeartbeats 8000000 in
set_option maxRecDepth 10000 in
theorem RCheck5_spec (A : Option Addr) (c n : Nat) (I : PH) (h : n = 5) :
    FnSpec Tryz.prog 63 [.agg #[.slice A n c]] I [] (fun v R' => v = .int .i64 55 ∧ R' = []) := by
  subst h
  refine FnSpec.enterP Tryz.func63 rfl Tryz.ntmps63 rfl fun w F => ?_
  repeat' first
    | ((with_reducible refine Nx.is_wp ?_); first | refine Nx.wo ?_ | refine Nx.zp (fun hc => ?_) (fun hc => ?_))
    | (refine Nx.zo ?_; first | refine Nx.opr rfl rfl ?_ | refine Nx.so ?_ | refine Nx.sb (fun bx => ?_) | refine Nx.sa (fun A2 c2 => ?_))
    | ((with_reducible refine Nx.is_at ?_); first | refine Nx.a ?_ | refine Nx.zd ?_ | refine Nx.zs (fun hc => ?_) (fun hc => ?_))
    | ((with_reducible refine Nx.is_mix ?_); first | refine Nx.m ?_ | refine Nx.zm ?_ | refine Nx.zt (fun hc => ?_) (fun hc => ?_))
    | refine Nx.zx ?_ | fail
  exact Nx.ret_fn rfl [] ⟨rfl, rfl⟩ (by (exact Ent.auto))
set_option maxHeartbeats 8000000 in
set_option maxRecDepth 10000 in
theorem ViewO_spec (A B : Option Addr) (c cv n k : Nat) (I : PH) (hC : FnSpec Tryz.prog 114 [.agg #[.slice A n c]] I [] (fun v R' => v = .int .i64 0 ∧ R' = [])) (hn : k ≠ n) :
    FnSpec Tryz.prog 149 [.agg #[.slice A n c], .agg #[.slice B k cv]] I [] (fun v R' => v = .int .i64 55 ∧ R' = []) := by
  refine FnSpec.enterP Tryz.func149 rfl Tryz.ntmps149 rfl fun w F => ?_
  repeat' first
    | ((with_reducible refine Nx.is_wp ?_); first | refine Nx.wo ?_ | refine Nx.zp (fun hc => ?_) (fun hc => ?_))
    | (refine Nx.zo ?_; first | refine Nx.opr rfl rfl ?_ | refine Nx.callv rfl rfl rfl (by kernel_rfl) rfl hC ?_ | refine Nx.so ?_ | refine Nx.sb (fun bx => ?_) | refine Nx.sa (fun A2 c2 => ?_))
    | ((with_reducible refine Nx.is_at ?_); first | refine Nx.a ?_ | refine Nx.zd ?_ | refine Nx.zs (fun hc => ?_) (fun hc => ?_))
    | ((with_reducible refine Nx.is_mix ?_); first | refine Nx.m ?_ | refine Nx.zm ?_ | refine Nx.zt (fun hc => ?_) (fun hc => ?_))
    | refine Nx.zx ?_ | fail
  exact Nx.ret_fn rfl [] ⟨rfl, rfl⟩ (by (exact Ent.auto))
set_option maxHeartbeats 8000000 in
set_option maxRecDepth 10000 in
theorem RViewO_spec (A B : Option Addr) (c cv n k : Nat) (I : PH) (hC : FnSpec Tryz.prog 63 [.agg #[.slice A n c]] I [] (fun v R' => v = .int .i64 0 ∧ R' = [])) (hn : k ≠ n) :
    FnSpec Tryz.prog 84 [.agg #[.slice A n c], .agg #[.slice B k cv]] I [] (fun v R' => v = .int .i64 55 ∧ R' = []) := by
  refine FnSpec.enterP Tryz.func84 rfl Tryz.ntmps84 rfl fun w F => ?_
  repeat' first
    | ((with_reducible refine Nx.is_wp ?_); first | refine Nx.wo ?_ | refine Nx.zp (fun hc => ?_) (fun hc => ?_))
    | (refine Nx.zo ?_; first | refine Nx.opr rfl rfl ?_ | refine Nx.callv rfl rfl rfl (by kernel_rfl) rfl hC ?_ | refine Nx.so ?_ | refine Nx.sb (fun bx => ?_) | refine Nx.sa (fun A2 c2 => ?_))
    | ((with_reducible refine Nx.is_at ?_); first | refine Nx.a ?_ | refine Nx.zd ?_ | refine Nx.zs (fun hc => ?_) (fun hc => ?_))
    | ((with_reducible refine Nx.is_mix ?_); first | refine Nx.m ?_ | refine Nx.zm ?_ | refine Nx.zt (fun hc => ?_) (fun hc => ?_))
    | refine Nx.zx ?_ | fail
  exact Nx.ret_fn rfl [] ⟨rfl, rfl⟩ (by (exact Ent.auto))
set_option maxHeartbeats 8000000 in
set_option maxRecDepth 10000 in
theorem echeckO_spec (A : Option Addr) (c n : Nat) (r : Rel) (I : PH) (h0 : r.num = 0) (hV : FnSpec Tryz.prog 149 [.agg #[.slice A n c], .agg #[.slice r.va r.v.length r.vc]] I [] (fun v R' => v = .int .i64 55 ∧ R' = [])) :
    FnSpec Tryz.prog 134 [.agg #[.slice A n c], .agg #[.int .i64 r.num, .slice r.va r.v.length r.vc, .slice r.val.1 r.val.2.2.length r.val.2.1], .int .i64 (-1)] I [] (fun u R' => u = .int .i64 55 ∧ R' = []) := by
  obtain ⟨num, B, cv, v, D, cd, vs⟩ := r
  dsimp only at h0 hV ⊢
  subst h0
  refine FnSpec.enterP Tryz.func134 rfl Tryz.ntmps134 rfl fun w F => ?_
  repeat' first
    | ((with_reducible refine Nx.is_wp ?_); first | refine Nx.wo ?_ | refine Nx.p_draw (id := 6) rfl [0, 1, 2, 3, 4, 5, 6, 7] [6] _ rfl rfl (by kernel_rfl) (by kernel_rfl) rfl (by repeat first | exact PanicOk.fn | refine PanicOk.then_ ?_ | refine PanicOk.inB ?_) (Ent.refl _) ?_ | refine Nx.zp (fun hc => ?_) (fun hc => ?_))
    | (refine Nx.zo ?_; first | refine Nx.opr rfl rfl ?_ | refine Nx.loads rfl rfl rfl rfl (Rds.cut 0 1 rfl rfl) rfl ?_ | refine Nx.callv rfl rfl rfl (by kernel_rfl) rfl hV ?_ | refine Nx.so ?_ | refine Nx.sb (fun bx => ?_) | refine Nx.sa (fun A2 c2 => ?_))
    | ((with_reducible refine Nx.is_at ?_); first | refine Nx.a ?_ | refine Nx.zd ?_ | refine Nx.zs (fun hc => ?_) (fun hc => ?_))
    | ((with_reducible refine Nx.is_mix ?_); first | refine Nx.m_quiet rfl rfl rfl rfl rfl (by first | exact QRun.opr rfl | exact QRun.loads rfl rfl rfl (Rds.cut 0 1 rfl rfl) rfl) ?_ | refine Nx.m_quiet_do rfl rfl rfl rfl rfl rfl rfl (by first | exact QRun.opr rfl | exact QRun.loads rfl rfl rfl (Rds.cut 0 1 rfl rfl) rfl) ?_ | refine Nx.m ?_ | refine Nx.zm ?_ | refine Nx.zt (fun hc => ?_) (fun hc => ?_))
    | refine Nx.zx ?_ | fail
  exact Nx.ret_fn rfl [] ⟨rfl, rfl⟩ (by (exact Ent.auto))
set_option maxHeartbeats 8000000 in
set_option maxRecDepth 10000 in
theorem rrelO_spec (A : Option Addr) (c n : Nat) (r : Rel) (I : PH) (h0 : r.num = 0) (hV : FnSpec Tryz.prog 84 [.agg #[.slice A n c], .agg #[.slice r.va r.v.length r.vc]] I [] (fun v R' => v = .int .i64 55 ∧ R' = [])) :
    FnSpec Tryz.prog 104 [.agg #[.slice A n c], .agg #[.int .i64 r.num, .slice r.va r.v.length r.vc, .slice r.val.1 r.val.2.2.length r.val.2.1], .int .i64 (-1)] I [] (fun u R' => u = .int .i64 55 ∧ R' = []) := by
  obtain ⟨num, B, cv, v, D, cd, vs⟩ := r
  dsimp only at h0 hV ⊢
  subst h0
  refine FnSpec.enterP Tryz.func104 rfl Tryz.ntmps104 rfl fun w F => ?_
  repeat' first
    | ((with_reducible refine Nx.is_wp ?_); first | refine Nx.wo ?_ | refine Nx.p_draw (id := 6) rfl [0, 1, 2, 3, 4, 5, 6, 7] [6] _ rfl rfl (by kernel_rfl) (by kernel_rfl) rfl (by repeat first | exact PanicOk.fn | refine PanicOk.then_ ?_ | refine PanicOk.inB ?_) (Ent.refl _) ?_ | refine Nx.zp (fun hc => ?_) (fun hc => ?_))
    | (refine Nx.zo ?_; first | refine Nx.opr rfl rfl ?_ | refine Nx.loads rfl rfl rfl rfl (Rds.cut 0 1 rfl rfl) rfl ?_ | refine Nx.callv rfl rfl rfl (by kernel_rfl) rfl hV ?_ | refine Nx.so ?_ | refine Nx.sb (fun bx => ?_) | refine Nx.sa (fun A2 c2 => ?_))
    | ((with_reducible refine Nx.is_at ?_); first | refine Nx.a ?_ | refine Nx.zd ?_ | refine Nx.zs (fun hc => ?_) (fun hc => ?_))
    | ((with_reducible refine Nx.is_mix ?_); first | refine Nx.m_quiet rfl rfl rfl rfl rfl (by first | exact QRun.opr rfl | exact QRun.loads rfl rfl rfl (Rds.cut 0 1 rfl rfl) rfl) ?_ | refine Nx.m_quiet_do rfl rfl rfl rfl rfl rfl rfl (by first | exact QRun.opr rfl | exact QRun.loads rfl rfl rfl (Rds.cut 0 1 rfl rfl) rfl) ?_ | refine Nx.m ?_ | refine Nx.zm ?_ | refine Nx.zt (fun hc => ?_) (fun hc => ?_))
    | refine Nx.zx ?_ | fail
  exact Nx.ret_fn rfl [] ⟨rfl, rfl⟩ (by (exact Ent.auto))
abbrev Says (f : FuncId) (args : List Value) (I : PH) (v : Value) : Prop := FnSpec Tryz.prog f args I [] (fun u R' => u = v ∧ R' = [])
set_option maxRecDepth 10000 in
set_option maxHeartbeats 8000000 in
theorem ECheckO_spec (A As : Option Addr) (c cs n : Nat) (rs : List Rel) (I : PH) (hr : Rels I As cs rs) (hn : 0 < rs.length) (h24 : rs.length ≤ 24) (h0 : (rs.getD 0 default).num = 0)
    (hC : Says 114 [.agg #[.slice A n c]] I (.int .i64 55) ∨ Says 114 [.agg #[.slice A n c]] I (.int .i64 0) ∧ (rs.getD 0 default).v.length ≠ n) :
    Says 108 [.agg #[.slice A n c], .slice As rs.length cs] I (.int .i64 55) := by
  have hrl := hr.outer.len
  refine FnSpec.enterP Tryz.func108 rfl Tryz.ntmps108 rfl fun w F => ?_
  rcases hC with hC | ⟨hC, hvl⟩
  · repeat' first
      | ((with_reducible refine Nx.is_wp ?_); first | refine Nx.wo ?_ | refine Nx.zp (fun hc => ?_) (fun hc => ?_))
      | (refine Nx.zo ?_; first | refine Nx.opr rfl rfl ?_ | refine Nx.callv rfl rfl rfl (by kernel_rfl) rfl hC ?_ | refine Nx.so ?_ | refine Nx.sb (fun bx => ?_) | refine Nx.sa (fun A2 c2 => ?_))
      | ((with_reducible refine Nx.is_at ?_); first | refine Nx.a ?_ | refine Nx.zd ?_ | refine Nx.zs (fun hc => ?_) (fun hc => ?_))
      | ((with_reducible refine Nx.is_mix ?_); first | refine Nx.m ?_ | refine Nx.zm ?_ | refine Nx.zt (fun hc => ?_) (fun hc => ?_))
      | refine Nx.zx ?_ | fail
    exact Nx.ret_fn rfl [] ⟨rfl, rfl⟩ (by (exact Ent.auto))
  have hS := echeckO_spec A c n (rs.getD 0 default) I h0 (ViewO_spec A _ c _ n _ I hC hvl)
  have hrds : ∀ (W : World) (R : List Res), Rds W I R ((ad As).add (0 * 3)) (relC (rs.getD 0 default)) := fun W R => hr.outer.rds hn
  have hAs := hr.outer.isSome (by omega) (by omega)
  generalize rs.getD 0 default = r at hS hrds h0 hvl
  obtain ⟨num, va, vc, v, D, cd, vs⟩ := r
  dsimp only at hS h0
  subst h0
  replace hrds : ∀ (W : World) (R : List Res), Rds W I R ((ad As).add (0 * 3)) [.int .i64 0, .slice va v.length vc, .slice D vs.length cd] := hrds
  repeat' first
    | ((with_reducible refine Nx.is_wp ?_); first | refine Nx.wo ?_ | refine Nx.zp (fun hc => ?_) (fun hc => ?_))
    | (refine Nx.zo ?_; first | refine Nx.opr rfl rfl ?_ | refine Nx.callv rfl rfl rfl (by kernel_rfl) rfl hC ?_ | refine Nx.so ?_ | refine Nx.sb (fun bx => ?_) | refine Nx.sa (fun A2 c2 => ?_))
    | ((with_reducible refine Nx.is_at ?_); first | refine Nx.a ?_ | refine Nx.zd ?_ | refine Nx.zs (fun hc => ?_) (fun hc => ?_))
    | ((with_reducible refine Nx.is_mix ?_); first | refine Nx.m ?_ | refine Nx.zm ?_ | refine Nx.zt (fun hc => ?_) (fun hc => ?_))
    | refine Nx.zx ?_ | fail
  refine Nx.p_loop (σ := Unit) (fun _ => [(2, .pointer (some ⟨bx, 0, none⟩)), (6, .int .i64 (-1)), (18, .slice As rs.length cs), (19, .int .i64 rs.length), (20, .int .i64 ((0 : Nat) : Int))])
    (fun _ => [Blk bx 27 [.slice A n c], F]) (fun _ => True) (fun _ => 0) () rfl trivial ⟨rfl, rfl, rfl, rfl, rfl, trivial⟩ (by (exact Ent.auto)) ?_
  rintro _ _
  repeat' first
    | ((with_reducible refine Nx.is_wp ?_); first | refine Nx.wo ?_ | refine Nx.zp (fun hc => ?_) (fun hc => ?_))
    | (refine Nx.zo ?_; first | refine Nx.opr rfl rfl ?_ | refine Nx.indexAddr_nat (A := As) (i := 0) (sz := 3) rfl rfl rfl rfl rfl hn hAs ?_ | refine Nx.loads rfl rfl rfl rfl (hrds _ _) rfl ?_ | refine Nx.callv rfl rfl rfl (by kernel_rfl) rfl hS ?_ | refine Nx.so ?_ | refine Nx.sb (fun bx => ?_) | refine Nx.sa (fun A2 c2 => ?_))
    | ((with_reducible refine Nx.is_at ?_); first | refine Nx.a ?_ | refine Nx.zd ?_ | refine Nx.zs (fun hc => ?_) (fun hc => ?_))
    | ((with_reducible refine Nx.is_mix ?_); first | refine Nx.m ?_ | refine Nx.zm ?_ | refine Nx.zt (fun hc => ?_) (fun hc => ?_))
    | refine Nx.zx ?_ | fail
  exact Nx.ret_fn rfl [] ⟨rfl, rfl⟩ (by (exact Ent.auto))
set_option maxRecDepth 10000 in
set_option maxHeartbeats 8000000 in
theorem RECheckO_spec (A As : Option Addr) (c cs n : Nat) (rs : List Rel) (I : PH) (hr : Rels I As cs rs) (hn : 0 < rs.length) (h24 : rs.length ≤ 24) (h0 : (rs.getD 0 default).num = 0)
    (hC : Says 63 [.agg #[.slice A n c]] I (.int .i64 55) ∨ Says 63 [.agg #[.slice A n c]] I (.int .i64 0) ∧ (rs.getD 0 default).v.length ≠ n) :
    Says 58 [.agg #[.slice A n c], .slice As rs.length cs] I (.int .i64 55) := by
  have hrl := hr.outer.len
  refine FnSpec.enterP Tryz.func58 rfl Tryz.ntmps58 rfl fun w F => ?_
  rcases hC with hC | ⟨hC, hvl⟩
  · repeat' first
      | ((with_reducible refine Nx.is_wp ?_); first | refine Nx.wo ?_ | refine Nx.zp (fun hc => ?_) (fun hc => ?_))
      | (refine Nx.zo ?_; first | refine Nx.opr rfl rfl ?_ | refine Nx.callv rfl rfl rfl (by kernel_rfl) rfl hC ?_ | refine Nx.so ?_ | refine Nx.sb (fun bx => ?_) | refine Nx.sa (fun A2 c2 => ?_))
      | ((with_reducible refine Nx.is_at ?_); first | refine Nx.a ?_ | refine Nx.zd ?_ | refine Nx.zs (fun hc => ?_) (fun hc => ?_))
      | ((with_reducible refine Nx.is_mix ?_); first | refine Nx.m ?_ | refine Nx.zm ?_ | refine Nx.zt (fun hc => ?_) (fun hc => ?_))
      | refine Nx.zx ?_ | fail
    exact Nx.ret_fn rfl [] ⟨rfl, rfl⟩ (by (exact Ent.auto))
  have hS := rrelO_spec A c n (rs.getD 0 default) I h0 (RViewO_spec A _ c _ n _ I hC hvl)
  have hrds : ∀ (W : World) (R : List Res), Rds W I R ((ad As).add (0 * 3)) (relC (rs.getD 0 default)) := fun W R => hr.outer.rds hn
  have hAs := hr.outer.isSome (by omega) (by omega)
  generalize rs.getD 0 default = r at hS hrds h0 hvl
  obtain ⟨num, va, vc, v, D, cd, vs⟩ := r
  dsimp only at hS h0
  subst h0
  replace hrds : ∀ (W : World) (R : List Res), Rds W I R ((ad As).add (0 * 3)) [.int .i64 0, .slice va v.length vc, .slice D vs.length cd] := hrds
  repeat' first
    | ((with_reducible refine Nx.is_wp ?_); first | refine Nx.wo ?_ | refine Nx.zp (fun hc => ?_) (fun hc => ?_))
    | (refine Nx.zo ?_; first | refine Nx.opr rfl rfl ?_ | refine Nx.callv rfl rfl rfl (by kernel_rfl) rfl hC ?_ | refine Nx.so ?_ | refine Nx.sb (fun bx => ?_) | refine Nx.sa (fun A2 c2 => ?_))
    | ((with_reducible refine Nx.is_at ?_); first | refine Nx.a ?_ | refine Nx.zd ?_ | refine Nx.zs (fun hc => ?_) (fun hc => ?_))
    | ((with_reducible refine Nx.is_mix ?_); first | refine Nx.m ?_ | refine Nx.zm ?_ | refine Nx.zt (fun hc => ?_) (fun hc => ?_))
    | refine Nx.zx ?_ | fail
  refine Nx.p_loop (σ := Unit) (fun _ => [(2, .pointer (some ⟨bx, 0, none⟩)), (6, .int .i64 (-1)), (18, .slice As rs.length cs), (19, .int .i64 rs.length), (20, .int .i64 ((0 : Nat) : Int))])
    (fun _ => [Blk bx 27 [.slice A n c], F]) (fun _ => True) (fun _ => 0) () rfl trivial ⟨rfl, rfl, rfl, rfl, rfl, trivial⟩ (by (exact Ent.auto)) ?_
  rintro _ _
  repeat' first
    | ((with_reducible refine Nx.is_wp ?_); first | refine Nx.wo ?_ | refine Nx.zp (fun hc => ?_) (fun hc => ?_))
    | (refine Nx.zo ?_; first | refine Nx.opr rfl rfl ?_ | refine Nx.indexAddr_nat (A := As) (i := 0) (sz := 3) rfl rfl rfl rfl rfl hn hAs ?_ | refine Nx.loads rfl rfl rfl rfl (hrds _ _) rfl ?_ | refine Nx.callv rfl rfl rfl (by kernel_rfl) rfl hS ?_ | refine Nx.so ?_ | refine Nx.sb (fun bx => ?_) | refine Nx.sa (fun A2 c2 => ?_))
    | ((with_reducible refine Nx.is_at ?_); first | refine Nx.a ?_ | refine Nx.zd ?_ | refine Nx.zs (fun hc => ?_) (fun hc => ?_))
    | ((with_reducible refine Nx.is_mix ?_); first | refine Nx.m ?_ | refine Nx.zm ?_ | refine Nx.zt (fun hc => ?_) (fun hc => ?_))
    | refine Nx.zx ?_ | fail
  exact Nx.ret_fn rfl [] ⟨rfl, rfl⟩ (by (exact Ent.auto))
def RWit (q : List Int × List Int × Int) (v : Value) (R' : List Res) : Prop :=
  ∃ (r1 r2 : Row) (o : List Row), v = .tuple #[rowV r1, rowV r2, .int .i64 q.2.2] ∧ r1.2.2 = q.1 ∧ r2.2.2 = q.2.1 ∧ (r1 ∈ o ∨ r1 = nilRow) ∧ (r2 ∈ o ∨ r2 = nilRow) ∧ R' = [Stars (o.map rwR)]
/-! The eight functions, where the check of the releases fails -/
section
variable (A As Ap : Option Addr) (c cs cp n k p : Nat) (m x e : Int) (I : PH) (he : e ≠ 0)
include he
set_option maxHeartbeats 8000000 in
set_option maxRecDepth 10000 in
theorem checkO_spec (hE : Says 108 [.agg #[.slice A n c], .slice As k cs] I (.int .i64 e)) : Says 67 [.agg #[.slice A n c], .slice As k cs, .slice Ap p cp, .int .i64 m] I (.int .i64 e) := by
  refine FnSpec.enterP Tryz.func67 rfl Tryz.ntmps67 rfl fun w F => ?_
  repeat' first
    | ((with_reducible refine Nx.is_wp ?_); first | refine Nx.wo ?_ | refine Nx.zp (fun hc => ?_) (fun hc => ?_))
    | (refine Nx.zo ?_; first | refine Nx.opr rfl rfl ?_ | refine Nx.callv rfl rfl rfl (by kernel_rfl) rfl hE ?_ | refine Nx.so ?_ | refine Nx.sb (fun bx => ?_) | refine Nx.sa (fun A2 c2 => ?_))
    | ((with_reducible refine Nx.is_at ?_); first | refine Nx.a ?_ | refine Nx.zd ?_ | refine Nx.zs (fun hc => ?_) (fun hc => ?_))
    | ((with_reducible refine Nx.is_mix ?_); first | refine Nx.m ?_ | refine Nx.zm ?_ | refine Nx.zt (fun hc => ?_) (fun hc => ?_))
    | refine Nx.zx ?_ | fail
  exact Nx.ret_fn rfl [] ⟨rfl, rfl⟩ (by (exact Ent.auto))
set_option maxHeartbeats 8000000 in
set_option maxRecDepth 10000 in
theorem findO_spec (hE : Says 108 [.agg #[.slice A n c], .slice As k cs] I (.int .i64 e)) : Says 64 [.agg #[.slice A n c], .slice As k cs, .slice Ap p cp, .int .i64 m] I (.tuple #[.slice none 0 0, .int .i64 e]) := by
  have hK := checkO_spec A As Ap c cs cp n k p m e I he hE
  refine FnSpec.enterP Tryz.func64 rfl Tryz.ntmps64 rfl fun w F => ?_
  repeat' first
    | ((with_reducible refine Nx.is_wp ?_); first | refine Nx.wo ?_ | refine Nx.zp (fun hc => ?_) (fun hc => ?_))
    | (refine Nx.zo ?_; first | refine Nx.opr rfl rfl ?_ | refine Nx.callv rfl rfl rfl (by kernel_rfl) rfl hK ?_ | refine Nx.so ?_ | refine Nx.sb (fun bx => ?_) | refine Nx.sa (fun A2 c2 => ?_))
    | ((with_reducible refine Nx.is_at ?_); first | refine Nx.a ?_ | refine Nx.zd ?_ | refine Nx.zs (fun hc => ?_) (fun hc => ?_))
    | ((with_reducible refine Nx.is_mix ?_); first | refine Nx.m ?_ | refine Nx.zm ?_ | refine Nx.zt (fun hc => ?_) (fun hc => ?_))
    | refine Nx.zx ?_ | fail
  exact Nx.ret_fn rfl [] ⟨rfl, rfl⟩ (by (exact Ent.auto))
set_option maxHeartbeats 8000000 in
set_option maxRecDepth 10000 in
theorem ExposedO_spec (hE : Says 108 [.agg #[.slice A n c], .slice As k cs] I (.int .i64 e)) : FnSpec Tryz.prog 20 [.agg #[.slice A n c], .slice As k cs, .slice Ap p cp, .int .i64 m] I [] (fun u R' => ∃ (A' : Option Addr) (c' : Nat), u = .tuple #[.slice A' 0 c', .int .i64 e] ∧ R' = [expR A' c' []]) := by
  have hK := findO_spec A As Ap c cs cp n k p m e I he hE
  refine FnSpec.enterP Tryz.func20 rfl Tryz.ntmps20 rfl fun w F => ?_
  repeat' first
    | ((with_reducible refine Nx.is_wp ?_); first | refine Nx.wo ?_ | refine Nx.zp (fun hc => ?_) (fun hc => ?_))
    | (refine Nx.zo ?_; first | refine Nx.opr rfl rfl ?_ | refine Nx.callv rfl rfl rfl (by kernel_rfl) rfl hK ?_ | refine Nx.so ?_ | refine Nx.sb (fun bx => ?_) | refine Nx.sa (fun A2 c2 => ?_))
    | ((with_reducible refine Nx.is_at ?_); first | refine Nx.a ?_ | refine Nx.zd ?_ | refine Nx.zs (fun hc => ?_) (fun hc => ?_))
    | ((with_reducible refine Nx.is_mix ?_); first | refine Nx.m ?_ | refine Nx.zm ?_ | refine Nx.zt (fun hc => ?_) (fun hc => ?_))
    | refine Nx.zx ?_ | fail
  exact Nx.ret_fn rfl [_] ⟨none, 0, rfl, rfl⟩ ((Ent.vec_nil 99 5 _).trans (by (exact Ent.auto)))
set_option maxHeartbeats 8000000 in
set_option maxRecDepth 10000 in
theorem SafeO_spec (hE : Says 108 [.agg #[.slice A n c], .slice As k cs] I (.int .i64 e)) : Says 17 [.agg #[.slice A n c], .slice As k cs, .slice Ap p cp, .int .i64 m] I (.tuple #[.bool false, .int .i64 e]) := by
  have hK := findO_spec A As Ap c cs cp n k p m e I he hE
  refine FnSpec.enterP Tryz.func17 rfl Tryz.ntmps17 rfl fun w F => ?_
  repeat' first
    | ((with_reducible refine Nx.is_wp ?_); first | refine Nx.wo ?_ | refine Nx.zp (fun hc => ?_) (fun hc => ?_))
    | (refine Nx.zo ?_; first | refine Nx.opr rfl rfl ?_ | refine Nx.callv rfl rfl rfl (by kernel_rfl) rfl hK ?_ | refine Nx.so ?_ | refine Nx.sb (fun bx => ?_) | refine Nx.sa (fun A2 c2 => ?_))
    | ((with_reducible refine Nx.is_at ?_); first | refine Nx.a ?_ | refine Nx.zd ?_ | refine Nx.zs (fun hc => ?_) (fun hc => ?_))
    | ((with_reducible refine Nx.is_mix ?_); first | refine Nx.m ?_ | refine Nx.zm ?_ | refine Nx.zt (fun hc => ?_) (fun hc => ?_))
    | refine Nx.zx ?_ | fail
  exact Nx.ret_fn rfl [] ⟨rfl, rfl⟩ (by (exact Ent.auto))
set_option maxHeartbeats 8000000 in
set_option maxRecDepth 10000 in
theorem CausesO_spec (hE : Says 108 [.agg #[.slice A n c], .slice As k cs] I (.int .i64 e)) : FnSpec Tryz.prog 31 [.agg #[.slice A n c], .slice As k cs, .int .i64 x, .int .i64 m] I [] (fun u R' => ∃ (A' : Option Addr) (c' : Nat), u = .tuple #[.slice A' 0 c', .int .i64 e] ∧ R' = [iR A' c' []]) := by
  have hK := fun (bp : Nat) => findO_spec A As (some ⟨bp, 0, none⟩) c cs 1 n k 1 m e I he hE
  refine FnSpec.enterP Tryz.func31 rfl Tryz.ntmps31 rfl fun w F => ?_
  repeat' first
    | ((with_reducible refine Nx.is_wp ?_); first | refine Nx.wo ?_ | refine Nx.zp (fun hc => ?_) (fun hc => ?_))
    | (refine Nx.zo ?_; first | refine Nx.opr rfl rfl ?_ | refine Nx.callv rfl rfl rfl (by kernel_rfl) rfl (hK _) ?_ | refine Nx.so ?_ | refine Nx.sb (fun bx => ?_) | refine Nx.sa (fun A2 c2 => ?_))
    | ((with_reducible refine Nx.is_at ?_); first | refine Nx.a ?_ | refine Nx.zd ?_ | refine Nx.zs (fun hc => ?_) (fun hc => ?_))
    | ((with_reducible refine Nx.is_mix ?_); first | refine Nx.m ?_ | refine Nx.zm ?_ | refine Nx.zt (fun hc => ?_) (fun hc => ?_))
    | refine Nx.zx ?_ | fail
  exact Nx.ret_fn rfl [_] ⟨none, 0, rfl, rfl⟩ ((Ent.vec_nil 3 1 _).trans (by (exact Ent.auto)))
set_option maxHeartbeats 8000000 in
set_option maxRecDepth 10000 in
theorem WitnessO_spec (hE : Says 108 [.agg #[.slice A n c], .slice As k cs] I (.int .i64 e)) : FnSpec Tryz.prog 21 [.agg #[.slice A n c], .slice As k cs, .int .i64 x] I [] (fun u R' => ∃ (A1 : Option Addr) (c1 : Nat) (A2 : Option Addr) (c2 : Nat), u = .tuple #[.slice A1 0 c1, .slice A2 0 c2, .int .i64 e] ∧ R' = [iR A1 c1 [], iR A2 c2 []]) := by
  have hK := fun (bp : Nat) => checkO_spec A As (some ⟨bp, 0, none⟩) c cs 1 n k 1 1 e I he hE
  refine FnSpec.enterP Tryz.func21 rfl Tryz.ntmps21 rfl fun w F => ?_
  repeat' first
    | ((with_reducible refine Nx.is_wp ?_); first | refine Nx.wo ?_ | refine Nx.zp (fun hc => ?_) (fun hc => ?_))
    | (refine Nx.zo ?_; first | refine Nx.opr rfl rfl ?_ | refine Nx.callv rfl rfl rfl (by kernel_rfl) rfl (hK _) ?_ | refine Nx.so ?_ | refine Nx.sb (fun bx => ?_) | refine Nx.sa (fun A2 c2 => ?_))
    | ((with_reducible refine Nx.is_at ?_); first | refine Nx.a ?_ | refine Nx.zd ?_ | refine Nx.zs (fun hc => ?_) (fun hc => ?_))
    | ((with_reducible refine Nx.is_mix ?_); first | refine Nx.m ?_ | refine Nx.zm ?_ | refine Nx.zt (fun hc => ?_) (fun hc => ?_))
    | refine Nx.zx ?_ | fail
  exact Nx.ret_fn rfl [_, _] ⟨none, 0, none, 0, rfl, rfl⟩ ((Ent.vec_nil 3 1 _).trans ((Ent.vec_nil 3 1 _).trans (by (exact Ent.auto))))
set_option maxHeartbeats 8000000 in
set_option maxRecDepth 10000 in
theorem rcheckO_spec (hE : Says 58 [.agg #[.slice A n c], .slice As k cs] I (.int .i64 e)) : Says 77 [.agg #[.slice A n c], .slice As k cs, .slice Ap p cp, .int .i64 m] I (.tuple #[.slice none 0 0, .int .i64 e]) := by
  refine FnSpec.enterP Tryz.func77 rfl Tryz.ntmps77 rfl fun w F => ?_
  repeat' first
    | ((with_reducible refine Nx.is_wp ?_); first | refine Nx.wo ?_ | refine Nx.zp (fun hc => ?_) (fun hc => ?_))
    | (refine Nx.zo ?_; first | refine Nx.opr rfl rfl ?_ | refine Nx.callv rfl rfl rfl (by kernel_rfl) rfl hE ?_ | refine Nx.so ?_ | refine Nx.sb (fun bx => ?_) | refine Nx.sa (fun A2 c2 => ?_))
    | ((with_reducible refine Nx.is_at ?_); first | refine Nx.a ?_ | refine Nx.zd ?_ | refine Nx.zs (fun hc => ?_) (fun hc => ?_))
    | ((with_reducible refine Nx.is_mix ?_); first | refine Nx.m ?_ | refine Nx.zm ?_ | refine Nx.zt (fun hc => ?_) (fun hc => ?_))
    | refine Nx.zx ?_ | fail
  exact Nx.ret_fn rfl [] ⟨rfl, rfl⟩ (by (exact Ent.auto))
set_option maxHeartbeats 8000000 in
set_option maxRecDepth 10000 in
theorem RExposedO_spec (hE : Says 58 [.agg #[.slice A n c], .slice As k cs] I (.int .i64 e)) : FnSpec Tryz.prog 28 [.agg #[.slice A n c], .slice As k cs, .slice Ap p cp, .int .i64 m] I [] (fun u R' => ∃ (A' : Option Addr) (c' : Nat), u = .tuple #[.slice A' 0 c', .int .i64 e] ∧ R' = [expR A' c' []]) := by
  have hK := rcheckO_spec A As Ap c cs cp n k p m e I he hE
  refine FnSpec.enterP Tryz.func28 rfl Tryz.ntmps28 rfl fun w F => ?_
  repeat' first
    | ((with_reducible refine Nx.is_wp ?_); first | refine Nx.wo ?_ | refine Nx.zp (fun hc => ?_) (fun hc => ?_))
    | (refine Nx.zo ?_; first | refine Nx.opr rfl rfl ?_ | refine Nx.callv rfl rfl rfl (by kernel_rfl) rfl hK ?_ | refine Nx.so ?_ | refine Nx.sb (fun bx => ?_) | refine Nx.sa (fun A2 c2 => ?_))
    | ((with_reducible refine Nx.is_at ?_); first | refine Nx.a ?_ | refine Nx.zd ?_ | refine Nx.zs (fun hc => ?_) (fun hc => ?_))
    | ((with_reducible refine Nx.is_mix ?_); first | refine Nx.m ?_ | refine Nx.zm ?_ | refine Nx.zt (fun hc => ?_) (fun hc => ?_))
    | refine Nx.zx ?_ | fail
  exact Nx.ret_fn rfl [_] ⟨none, 0, rfl, rfl⟩ ((Ent.vec_nil 99 5 _).trans (by (exact Ent.auto)))
set_option maxHeartbeats 8000000 in
set_option maxRecDepth 10000 in
theorem RSafeO_spec (hE : Says 58 [.agg #[.slice A n c], .slice As k cs] I (.int .i64 e)) : Says 29 [.agg #[.slice A n c], .slice As k cs, .slice Ap p cp, .int .i64 m] I (.tuple #[.bool false, .int .i64 e]) := by
  have hK := rcheckO_spec A As Ap c cs cp n k p m e I he hE
  refine FnSpec.enterP Tryz.func29 rfl Tryz.ntmps29 rfl fun w F => ?_
  repeat' first
    | ((with_reducible refine Nx.is_wp ?_); first | refine Nx.wo ?_ | refine Nx.zp (fun hc => ?_) (fun hc => ?_))
    | (refine Nx.zo ?_; first | refine Nx.opr rfl rfl ?_ | refine Nx.callv rfl rfl rfl (by kernel_rfl) rfl hK ?_ | refine Nx.so ?_ | refine Nx.sb (fun bx => ?_) | refine Nx.sa (fun A2 c2 => ?_))
    | ((with_reducible refine Nx.is_at ?_); first | refine Nx.a ?_ | refine Nx.zd ?_ | refine Nx.zs (fun hc => ?_) (fun hc => ?_))
    | ((with_reducible refine Nx.is_mix ?_); first | refine Nx.m ?_ | refine Nx.zm ?_ | refine Nx.zt (fun hc => ?_) (fun hc => ?_))
    | refine Nx.zx ?_ | fail
  exact Nx.ret_fn rfl [] ⟨rfl, rfl⟩ (by (exact Ent.auto))
set_option maxHeartbeats 8000000 in
set_option maxRecDepth 10000 in
theorem RCausesO_spec (hE : Says 58 [.agg #[.slice A n c], .slice As k cs] I (.int .i64 e)) : FnSpec Tryz.prog 32 [.agg #[.slice A n c], .slice As k cs, .int .i64 x, .int .i64 m] I [] (fun u R' => ∃ (A' : Option Addr) (c' : Nat), u = .tuple #[.slice A' 0 c', .int .i64 e] ∧ R' = [iR A' c' []]) := by
  have hK := fun (bp : Nat) => rcheckO_spec A As (some ⟨bp, 0, none⟩) c cs 1 n k 1 m e I he hE
  refine FnSpec.enterP Tryz.func32 rfl Tryz.ntmps32 rfl fun w F => ?_
  repeat' first
    | ((with_reducible refine Nx.is_wp ?_); first | refine Nx.wo ?_ | refine Nx.zp (fun hc => ?_) (fun hc => ?_))
    | (refine Nx.zo ?_; first | refine Nx.opr rfl rfl ?_ | refine Nx.callv rfl rfl rfl (by kernel_rfl) rfl (hK _) ?_ | refine Nx.so ?_ | refine Nx.sb (fun bx => ?_) | refine Nx.sa (fun A2 c2 => ?_))
    | ((with_reducible refine Nx.is_at ?_); first | refine Nx.a ?_ | refine Nx.zd ?_ | refine Nx.zs (fun hc => ?_) (fun hc => ?_))
    | ((with_reducible refine Nx.is_mix ?_); first | refine Nx.m ?_ | refine Nx.zm ?_ | refine Nx.zt (fun hc => ?_) (fun hc => ?_))
    | refine Nx.zx ?_ | fail
  exact Nx.ret_fn rfl [_] ⟨none, 0, rfl, rfl⟩ ((Ent.vec_nil 3 1 _).trans (by (exact Ent.auto)))
set_option maxHeartbeats 8000000 in
set_option maxRecDepth 10000 in
theorem RWitnessO_spec (hE : Says 58 [.agg #[.slice A n c], .slice As k cs] I (.int .i64 e)) : FnSpec Tryz.prog 33 [.agg #[.slice A n c], .slice As k cs, .int .i64 x] I [] (RWit ([], [], e)) := by
  have hK := fun (bp : Nat) => rcheckO_spec A As (some ⟨bp, 0, none⟩) c cs 1 n k 1 1 e I he hE
  refine FnSpec.enterP Tryz.func33 rfl Tryz.ntmps33 rfl fun w F => ?_
  repeat' first
    | ((with_reducible refine Nx.is_wp ?_); first | refine Nx.wo ?_ | refine Nx.zp (fun hc => ?_) (fun hc => ?_))
    | (refine Nx.zo ?_; first | refine Nx.opr rfl rfl ?_ | refine Nx.callv rfl rfl rfl (by kernel_rfl) rfl (hK _) ?_ | refine Nx.so ?_ | refine Nx.sb (fun bx => ?_) | refine Nx.sa (fun A2 c2 => ?_))
    | ((with_reducible refine Nx.is_at ?_); first | refine Nx.a ?_ | refine Nx.zd ?_ | refine Nx.zs (fun hc => ?_) (fun hc => ?_))
    | ((with_reducible refine Nx.is_mix ?_); first | refine Nx.m ?_ | refine Nx.zm ?_ | refine Nx.zt (fun hc => ?_) (fun hc => ?_))
    | refine Nx.zx ?_ | fail
  exact Nx.ret_fn rfl [_] ⟨nilRow, nilRow, [], rfl, rfl, rfl, .inr rfl, .inr rfl, rfl⟩ ((Ent.stars_nil _).trans (by (exact Ent.auto)))
end
end Go.Proofs.YtcmdemfhbekabaaGreat
/- Contracts of functions of the given program, and lemmas about plain lists and numbers: what the laws of this seat lean on. -/
namespace Go.Proofs.YtcmdemfhbekabaaGreat
open Go.Eng Go.Sol
attribute [local irreducible] opK wpList Code.wp Exit.then Exit.inBlock fnPost bodyPost Nx Calls Oper.wp Rd Rds Wr Ent Stars Blk Again Vec FnSpec wpMix QRun Stop Upto wpAt
theorem Nx.giveTold {C : Cx} {e : Env} {I : PH} {R : List Res} {K : Act → World → Prop} {B At As : Option Addr} {c' ct ca : Nat} {s t : List Int} {rs : List Rel} {RR : List Res}
    (hR : Ent R (Stars (toldR B c' s At ct t As ca rs) :: RR)) (h : ∀ I', PH.le I I' → Ints I' B c' s → Ints I' At ct t → Rels I' As ca rs → Nx C e I' RR K) : Nx C e I R K := by
  refine Nx.ent hR ?_
  refine Nx.freezeAt 0 rfl fun I1 m1 hI1 hm1 h1 => ?_
  obtain ⟨a0, ha0, b0⟩ := Stars.get 0 h1 rfl
  obtain ⟨a1, ha1, b1⟩ := Stars.get 1 h1 rfl
  obtain ⟨a2, ha2, b2⟩ := Stars.get 2 h1 rfl
  obtain ⟨a3, ha3, b3⟩ := Stars.get 3 h1 rfl
  exact h I1 hI1 (Vec.sliceOf (ha0.trans hm1) b0) (Vec.sliceOf (ha1.trans hm1) b1) (rels_of hm1 b2 ha2 b3 ha3)
end Go.Proofs.YtcmdemfhbekabaaGreat
/- Contracts of functions of the given program, and lemmas about plain lists and numbers: what the laws of this seat lean on. -/
namespace Go.Proofs.YtcmdemfhbekabaaGreat
open Go.Eng Go.Sol
attribute [local irreducible] opK wpList Code.wp Exit.then Exit.inBlock fnPost bodyPost Nx Calls Oper.wp Rd Rds Wr Ent Stars Blk Again Vec FnSpec wpMix QRun Stop Upto wpAt
/-! The law of margins -/
theorem run_boolne2 {P : Program} {t : TypeId} {x y : Operand} (ht : P.underlying t = some .bool) (b c r : Bool) (h : (!(b == c)) = r) (w : World) : (do eqGuard .neq t x y (.bool b) (.bool c); binOp .neq t (.bool b) (.bool c)).run P w = .ok (.bool r) w := by subst h; exact run_boolne ht b c w
end Go.Proofs.YtcmdemfhbekabaaGreat
/- Contracts of functions of the given program, and lemmas about plain lists and numbers: what the laws of this seat lean on. -/
namespace Go.Proofs.YtcmdemfhbekabaaGreat
open Go.Eng Go.Sol
attribute [local irreducible] opK wpList Code.wp Exit.then Exit.inBlock fnPost bodyPost Nx Calls Oper.wp Rd Rds Wr Ent Stars Blk Again Vec FnSpec wpMix QRun Stop Upto wpAt
/-! The law of answers: the loops over margins, lists and cells -/
theorem tmod_modI (k : Int) {n : Int} (hn : 0 < n) : (k.tmod n < 0 → k.tmod n + n = k % n) ∧ (¬ k.tmod n < 0 → k.tmod n = k % n) := by
  have h1 := Int.mul_tdiv_add_tmod k n
  have h2 : (k.tmod n).natAbs < n.natAbs := by rw [Int.natAbs_tmod]; exact Nat.mod_lt _ (by omega)
  refine ⟨fun h => ?_, fun h => ?_⟩
  · refine ((Int.ediv_emod_unique hn).2 ⟨?_, ?_, ?_⟩ : k / n = k.tdiv n - 1 ∧ k % n = k.tmod n + n).2.symm
    · rw [Int.mul_sub]; omega
    · omega
    · omega
  · refine ((Int.ediv_emod_unique hn).2 ⟨?_, ?_, ?_⟩ : k / n = k.tdiv n ∧ k % n = k.tmod n).2.symm
    · omega
    · omega
    · omega
set_option maxHeartbeats 8000000 in
set_option maxRecDepth 10000 in
theorem ModI_spec (k n : Int) (hk : I64 k) (hn : 1 ≤ n ∧ n ≤ 1000000) (I : PH) : FnSpec Tryz.prog 27 [.int .i64 k, .int .i64 n] I [] (fun v R' => v = .int .i64 (k % n) ∧ R' = []) := by
  obtain ⟨e1, e2⟩ := tmod_modI k (by omega : 0 < n)
  have hb : (k.tmod n).natAbs < n.natAbs := by rw [Int.natAbs_tmod]; exact Nat.mod_lt _ (by omega)
  refine FnSpec.enterP Tryz.func27 rfl Tryz.ntmps27 rfl fun w F => ?_
  repeat' first
    | ((with_reducible refine Nx.is_wp ?_); first | refine Nx.wo ?_ | refine Nx.zp (fun hc => ?_) (fun hc => ?_))
    | (refine Nx.zo ?_; first | refine Nx.opr rfl rfl ?_ | refine Nx.bin rfl rfl (run_remT (by omega)) rfl ?_ | refine Nx.so ?_ | refine Nx.sb (fun bx => ?_) | refine Nx.sa (fun A2 c2 => ?_))
    | ((with_reducible refine Nx.is_at ?_); first | refine Nx.a ?_ | refine Nx.zd ?_ | refine Nx.zs (fun hc => ?_) (fun hc => ?_))
    | ((with_reducible refine Nx.is_mix ?_); first | refine Nx.m ?_ | refine Nx.zm ?_ | refine Nx.zt (fun hc => ?_) (fun hc => ?_))
    | refine Nx.zx ?_ | fail
  all_goals first
    | exact Nx.ret_fn rfl [] ⟨by rw [e1 (by assumption)], rfl⟩ (Ent.refl _)
    | exact Nx.ret_fn rfl [] ⟨by rw [e2 (by assumption)], rfl⟩ (Ent.refl _)
theorem row_in {r : Row} {o : List Row} {m I' : PH} (hm : PH.le m I') (h : Stars (o.map rwR) m) (hr : r ∈ o ∨ r = nilRow) : Ints I' r.1 r.2.1 r.2.2 := by
  rcases hr with hr | rfl
  · obtain ⟨k, hk, he⟩ := List.mem_iff_getElem.1 hr
    obtain ⟨m3, h3le, h3⟩ := Stars.get k (r := rwR r) h (by rw [nthL_eq, List.getElem?_map, List.getElem?_eq_getElem hk, he]; rfl)
    exact Vec.sliceOf (h3le.trans hm) h3
  · exact SliceOf.nil
/-- What the eight functions answer, of one space and releases: the program's and the reference's the same. -/
structure Con (I : PH) (sv tv : Value) (ex : List Int → Int → List Exp × Int) (sa : List Int → Int → Bool × Int) (ca : Int → Int → List Int × Int) (wi : Int → List Int × List Int × Int) : Prop where
  e1 : ∀ (I' : PH) (Ap : Option Addr) (cp : Nat) (p : List Int) (m : Int), PH.le I I' → Ints I' Ap cp p → p.length ≤ 1000 → FnSpec Tryz.prog 20 [sv, tv, .slice Ap p.length cp, .int .i64 m] I' [] (fun u R' => ∃ (A' : Option Addr) (c' : Nat), u = .tuple #[.slice A' (ex p m).1.length c', .int .i64 (ex p m).2] ∧ R' = [expR A' c' (ex p m).1])
  e2 : ∀ (I' : PH) (Ap : Option Addr) (cp : Nat) (p : List Int) (m : Int), PH.le I I' → Ints I' Ap cp p → p.length ≤ 1000 → FnSpec Tryz.prog 28 [sv, tv, .slice Ap p.length cp, .int .i64 m] I' [] (fun u R' => ∃ (A' : Option Addr) (c' : Nat), u = .tuple #[.slice A' (ex p m).1.length c', .int .i64 (ex p m).2] ∧ R' = [expR A' c' (ex p m).1])
  s1 : ∀ (I' : PH) (Ap : Option Addr) (cp : Nat) (p : List Int) (m : Int), PH.le I I' → Ints I' Ap cp p → p.length ≤ 1000 → FnSpec Tryz.prog 17 [sv, tv, .slice Ap p.length cp, .int .i64 m] I' [] (fun u R' => u = .tuple #[.bool (sa p m).1, .int .i64 (sa p m).2] ∧ R' = [])
  s2 : ∀ (I' : PH) (Ap : Option Addr) (cp : Nat) (p : List Int) (m : Int), PH.le I I' → Ints I' Ap cp p → p.length ≤ 1000 → FnSpec Tryz.prog 29 [sv, tv, .slice Ap p.length cp, .int .i64 m] I' [] (fun u R' => u = .tuple #[.bool (sa p m).1, .int .i64 (sa p m).2] ∧ R' = [])
  c1 : ∀ (I' : PH) (x m : Int), PH.le I I' → FnSpec Tryz.prog 31 [sv, tv, .int .i64 x, .int .i64 m] I' [] (fun u R' => ∃ (A' : Option Addr) (c' : Nat), u = .tuple #[.slice A' (ca x m).1.length c', .int .i64 (ca x m).2] ∧ R' = [iR A' c' (ca x m).1])
  c2 : ∀ (I' : PH) (x m : Int), PH.le I I' → FnSpec Tryz.prog 32 [sv, tv, .int .i64 x, .int .i64 m] I' [] (fun u R' => ∃ (A' : Option Addr) (c' : Nat), u = .tuple #[.slice A' (ca x m).1.length c', .int .i64 (ca x m).2] ∧ R' = [iR A' c' (ca x m).1])
  w1 : ∀ (I' : PH) (x : Int), PH.le I I' → FnSpec Tryz.prog 21 [sv, tv, .int .i64 x] I' [] (fun u R' => ∃ (A1 : Option Addr) (c1 : Nat) (A2 : Option Addr) (c2 : Nat), u = .tuple #[.slice A1 (wi x).1.length c1, .slice A2 (wi x).2.1.length c2, .int .i64 (wi x).2.2] ∧ R' = [iR A1 c1 (wi x).1, iR A2 c2 (wi x).2.1])
  w2 : ∀ (I' : PH) (x : Int), PH.le I I' → FnSpec Tryz.prog 33 [sv, tv, .int .i64 x] I' [] (RWit (wi x))
theorem memRw {X : List Row} {k : Nat} (h : k < X.length) : X.getD k default ∈ X := by
  rw [List.getD_eq_getElem?_getD, List.getElem?_eq_getElem h]; exact List.getElem_mem _
set_option maxRecDepth 10000 in
set_option maxHeartbeats 32000000 in
theorem da_tail (w : World) (F : Res) (b14 : Nat) (A As Ao Ap : Option Addr) (c n cs k co cp : Nat) (odd prot : List Int) (margin cell : Int) (hmg : I64 margin) (hcell : I64 cell) (I0 I : PH) (hle0 : PH.le I0 I) (ex : List Int → Int → List Exp × Int) (sa : List Int → Int → Bool × Int) (ca : Int → Int → List Int × Int) (wi : Int → List Int × List Int × Int)
    (hC : Con I (.agg #[.slice A n c]) (.slice As k cs) ex sa ca wi) (ho : Ints I Ao co odd) (hp : Ints I Ap cp prot) (h30 : odd.length ≤ 30) (hpl : prot.length ≤ 1000) :
    Nx ⟨Tryz.prog, 263, w⟩ [(1, .slice Ao odd.length co), (2, .int .i64 margin), (3, .int .i64 cell), (14, .pointer (some ⟨b14, 0, none⟩)), (16, .slice As k cs), (17, .slice Ap prot.length cp)] I [Blk b14 27 [.slice A n c], F]
      (Code.wp Tryz.prog (cr (cr (cr (cr (cr (cr (bodyOf Tryz.f6))))))) (fnPost Tryz.prog Tryz.f6 I0 F w (fun v R' => v = .bool true ∧ R' = []))) := by
  have hMd := ModI_spec margin 4 hmg (by omega) I
  repeat' first
    | ((with_reducible refine Nx.is_wp ?_); first | refine Nx.wo ?_ | refine Nx.zp (fun hc => ?_) (fun hc => ?_))
    | (refine Nx.zo ?_; first | refine Nx.opr rfl rfl ?_ | refine Nx.callv rfl rfl rfl (by kernel_rfl) rfl hMd ?_ | refine Nx.so ?_ | refine Nx.sb (fun bx => ?_) | refine Nx.sa (fun A2 c2 => ?_))
    | ((with_reducible refine Nx.is_at ?_); first | refine Nx.a ?_ | refine Nx.zd ?_ | refine Nx.zs (fun hc => ?_) (fun hc => ?_))
    | ((with_reducible refine Nx.is_mix ?_); first | refine Nx.m ?_ | refine Nx.zm ?_ | refine Nx.zt (fun hc => ?_) (fun hc => ?_))
    | refine Nx.zx ?_ | fail
  revert bx; intro b127
  refine Nx.freezeAt 0 rfl fun I3 m3 hI3 hm3 h3 => ?_
  have hms : Ints I3 (some ⟨b127, 0, none⟩) 2 [margin, 1 + margin % 4] := Blk.sliceOf (t := 3) (l := [margin, 1 + margin % 4]) hm3 h3 (by unfold maxLen; simp)
  have hml : ([margin, 1 + margin % 4] : List Int).length = 2 := rfl
  generalize ([margin, 1 + margin % 4] : List Int) = ms at hms hml
  refine Nx.p_loop (σ := Nat) (fun i => [(1, .slice Ao odd.length co), (3, .int .i64 cell), (14, .pointer (some ⟨b14, 0, none⟩)), (16, .slice As k cs), (17, .slice Ap prot.length cp), (127, .slice (some ⟨b127, 0, none⟩) 2 2), (128, .int .i64 ((2 : Nat) : Int)), (129, .int .i64 (i : Int))])
    (fun _ => [Blk b14 27 [.slice A n c], F]) (fun i => i ≤ 2) (fun i => 2 - i) 0 rfl (Nat.zero_le _) ⟨rfl, rfl, rfl, rfl, rfl, rfl, rfl, rfl, trivial⟩ (by (exact Ent.auto)) ?_
  intro i hi
  have hi : i ≤ 2 := hi
  by_cases hi2 : i < 2
  case neg =>
    repeat' first
      | ((with_reducible refine Nx.is_wp ?_); first | refine Nx.wo ?_ | refine Nx.zp (fun hc => ?_) (fun hc => ?_))
      | (refine Nx.zo ?_; first | refine Nx.opr rfl rfl ?_ | refine Nx.callv rfl rfl rfl (by kernel_rfl) rfl (awakeD_spec _) ?_ | refine Nx.so ?_ | refine Nx.sb (fun bx => ?_) | refine Nx.sa (fun A2 c2 => ?_))
      | ((with_reducible refine Nx.is_at ?_); first | refine Nx.a ?_ | refine Nx.zd ?_ | refine Nx.zs (fun hc => ?_) (fun hc => ?_))
      | ((with_reducible refine Nx.is_mix ?_); first | refine Nx.m ?_ | refine Nx.zm ?_ | refine Nx.zt (fun hc => ?_) (fun hc => ?_))
      | refine Nx.zx ?_ | fail
    exact Nx.imm_le (hle0.trans hI3) (Nx.ret_fn rfl [] ⟨rfl, rfl⟩ (by (exact Ent.auto)))
  have hmr : ∀ (W : World) (R : List Res), Rd W I3 R ((ad (some (⟨b127, 0, none⟩ : Addr))).add (i * 1)) (.int .i64 (ms.getD i default)) := fun W R => hms.rd (by omega)
  generalize ms.getD i default = m at hmr
  repeat' first
    | ((with_reducible refine Nx.is_wp ?_); first | refine Nx.wo ?_ | refine Nx.zp (fun hc => ?_) (fun hc => ?_))
    | (refine Nx.zo ?_; first | refine Nx.opr rfl rfl ?_ | refine Nx.indexAddr_nat (A := some ⟨b127, 0, none⟩) (i := i) (sz := 1) rfl rfl rfl rfl rfl hi2 rfl ?_ | refine Nx.load rfl rfl rfl (hmr _ _) ?_ | refine Nx.so ?_ | refine Nx.sb (fun bx => ?_) | refine Nx.sa (fun A2 c2 => ?_))
    | ((with_reducible refine Nx.is_at ?_); first | refine Nx.a ?_ | refine Nx.zd ?_ | refine Nx.zs (fun hc => ?_) (fun hc => ?_))
    | ((with_reducible refine Nx.is_mix ?_); first | refine Nx.m ?_ | refine Nx.zm ?_ | refine Nx.zt (fun hc => ?_) (fun hc => ?_))
    | refine Nx.zx ?_ | fail
  revert bx; intro b135
  refine Nx.freezeAt 0 rfl fun I4 m4 hI4 hm4 h4 => ?_
  have hps : SliceOf rowV I4 (some ⟨b135, 0, none⟩) 2 [(Ao, co, odd), (Ap, cp, prot)] := Blk.sliceOf (t := 25) (l := [((Ao, co, odd) : Row), (Ap, cp, prot)]) hm4 h4 (by unfold maxLen; simp)
  have hpx : ∀ x ∈ ([(Ao, co, odd), (Ap, cp, prot)] : List Row), Ints I x.1 x.2.1 x.2.2 ∧ x.2.2.length ≤ 1000 := fun x hx => by
    simp only [List.mem_cons, List.not_mem_nil, or_false] at hx
    rcases hx with rfl | rfl
    · exact ⟨ho, by dsimp only; omega⟩
    · exact ⟨hp, hpl⟩
  have hpsl : ([(Ao, co, odd), (Ap, cp, prot)] : List Row).length = 2 := rfl
  generalize ([(Ao, co, odd), (Ap, cp, prot)] : List Row) = ps at hps hpx hpsl
  have hI34 := hI3.trans hI4
  refine Nx.p_loop (σ := Nat) (fun j => [(1, .slice Ao odd.length co), (3, .int .i64 cell), (14, .pointer (some ⟨b14, 0, none⟩)), (16, .slice As k cs), (17, .slice Ap prot.length cp), (20, .int .i64 m), (127, .slice (some ⟨b127, 0, none⟩) 2 2), (128, .int .i64 ((2 : Nat) : Int)), (129, .int .i64 (i : Int)), (135, .slice (some ⟨b135, 0, none⟩) 2 2), (136, .int .i64 ((2 : Nat) : Int)), (137, .int .i64 (j : Int))])
    (fun _ => [Blk b14 27 [.slice A n c], F]) (fun j => j ≤ 2) (fun j => 2 - j) 0 rfl (Nat.zero_le _) ⟨rfl, rfl, rfl, rfl, rfl, rfl, rfl, rfl, rfl, rfl, rfl, rfl, trivial⟩ (by (exact Ent.auto)) ?_
  intro j hj
  have hj : j ≤ 2 := hj
  by_cases hj2 : j < 2
  · obtain ⟨hxi, hxl⟩ := hpx _ (memRw (show j < ps.length by omega))
    have hxr : ∀ (W : World) (R : List Res), Rd W I4 R ((ad (some (⟨b135, 0, none⟩ : Addr))).add (j * 1)) (rowV (ps.getD j default)) := fun W R => hps.rd (by omega)
    generalize ps.getD j default = xq at hxi hxl hxr
    obtain ⟨Ax, cx, xs⟩ := xq
    dsimp only at hxi hxl
    replace hxr : ∀ (W : World) (R : List Res), Rd W I4 R ((ad (some (⟨b135, 0, none⟩ : Addr))).add (j * 1)) (.slice Ax xs.length cx) := hxr
    have hE1 := hC.e1 I4 Ax cx xs m hI34 (hxi.mono hI34) hxl
    have hE2 := hC.e2 I4 Ax cx xs m hI34 (hxi.mono hI34) hxl
    have hS1 := hC.s1 I4 Ax cx xs m hI34 (hxi.mono hI34) hxl
    have hS2 := hC.s2 I4 Ax cx xs m hI34 (hxi.mono hI34) hxl
    generalize ex xs m = fe at hE1 hE2
    obtain ⟨fx, fr⟩ := fe
    generalize sa xs m = fs at hS1 hS2
    obtain ⟨sb, sr⟩ := fs
    dsimp only at hE1 hE2 hS1 hS2
    have hbb : (!(sb == sb)) = false := by cases sb <;> rfl
    repeat' first
      | ((with_reducible refine Nx.is_wp ?_); first | refine Nx.p_stopr 29 rfl ?_ | refine Nx.wo ?_ | refine Nx.zp (fun hc => ?_) (fun hc => ?_))
      | (refine Nx.zo ?_; first | refine Nx.opr rfl rfl ?_ | refine Nx.indexAddr_nat (A := some ⟨b135, 0, none⟩) (i := j) (sz := 1) rfl rfl rfl rfl rfl hj2 rfl ?_ | refine Nx.load rfl rfl rfl (hxr _ _) ?_ | (refine Nx.call (Rpre := []) rfl rfl rfl (by kernel_rfl) rfl hE1 (Ent.refl _) ?_; rintro _ _ ⟨Au, cu, rfl, rfl⟩) | (refine Nx.call (Rpre := []) rfl rfl rfl (by kernel_rfl) rfl hE2 (Ent.refl _) ?_; rintro _ _ ⟨Av, cv, rfl, rfl⟩) | refine Nx.callv rfl rfl rfl (by kernel_rfl) rfl hS1 ?_ | refine Nx.callv rfl rfl rfl (by kernel_rfl) rfl hS2 ?_ | refine Nx.so ?_ | refine Nx.sb (fun bx => ?_) | refine Nx.sa (fun A2 c2 => ?_))
      | ((with_reducible refine Nx.is_at ?_); first | refine Nx.a ?_ | refine Nx.zd ?_ | refine Nx.zs (fun hc => ?_) (fun hc => ?_))
      | ((with_reducible refine Nx.is_mix ?_); first | refine Nx.m ?_ | refine Nx.zm ?_ | refine Nx.zt (fun hc => ?_) (fun hc => ?_))
      | refine Nx.zx ?_ | fail
    refine Nx.unstop ?_
    refine Nx.ent (R' := [Stars [expR Au cu fx, expR Av cv fx], Blk b14 27 [.slice A n c], F]) (Ent.trans (R' := [expR Au cu fx, expR Av cv fx] ++ [Blk b14 27 [.slice A n c], F]) (by (exact Ent.auto)) Ent.stars) ?_
    refine Nx.freezeAt 0 rfl fun I5 m5 hI5 hm5 h5 => ?_
    obtain ⟨k0, l0, c0⟩ := Stars.get 0 h5 rfl
    obtain ⟨k1, l1, c1⟩ := Stars.get 1 h5 rfl
    have hSm := SameX_spec Au Av cu cv fx fx I5 (Vec.sliceN (l0.trans hm5) c0 fun x _ => exC_len x) (Vec.sliceN (l1.trans hm5) c1 fun x _ => exC_len x)
    rw [decide_eq_true rfl] at hSm
    repeat' first
      | ((with_reducible refine Nx.is_wp ?_); first | refine Nx.wo ?_ | refine Nx.zp (fun hc => ?_) (fun hc => ?_))
      | (refine Nx.zo ?_; first | (refine Nx.binr rfl rfl (run_boolne2 Tryz.underlying4 sb sb false hbb) rfl ?_) | refine Nx.opr rfl rfl ?_ | refine Nx.callv rfl rfl rfl (by kernel_rfl) rfl hSm ?_ | refine Nx.so ?_ | refine Nx.sb (fun bx => ?_) | refine Nx.sa (fun A2 c2 => ?_))
      | ((with_reducible refine Nx.is_at ?_); first | refine Nx.a ?_ | refine Nx.zd ?_ | refine Nx.zs (fun hc => ?_) (fun hc => ?_))
      | ((with_reducible refine Nx.is_mix ?_); first | refine Nx.m ?_ | refine Nx.zm ?_ | refine Nx.zt (fun hc => ?_) (fun hc => ?_))
      | refine Nx.zx ?_ | fail
    exact Nx.imm_le hI5 (Nx.again (j + 1) hj2 (by omega) ⟨rfl, rfl, rfl, rfl, rfl, rfl, rfl, rfl, rfl, rfl, rfl, rfl, trivial⟩ (by (exact Ent.auto)))
  have hMc := ModI_spec cell 9 hcell (by omega) I4
  repeat' first
    | ((with_reducible refine Nx.is_wp ?_); first | refine Nx.wo ?_ | refine Nx.zp (fun hc => ?_) (fun hc => ?_))
    | (refine Nx.zo ?_; first | refine Nx.opr rfl rfl ?_ | refine Nx.callv rfl rfl rfl (by kernel_rfl) rfl hMc ?_ | refine Nx.so ?_ | refine Nx.sb (fun bx => ?_) | refine Nx.sa (fun A2 c2 => ?_))
    | ((with_reducible refine Nx.is_at ?_); first | refine Nx.a ?_ | refine Nx.zd ?_ | refine Nx.zs (fun hc => ?_) (fun hc => ?_))
    | ((with_reducible refine Nx.is_mix ?_); first | refine Nx.m ?_ | refine Nx.zm ?_ | refine Nx.zt (fun hc => ?_) (fun hc => ?_))
    | refine Nx.zx ?_ | fail
  revert bx; intro b196
  refine Nx.freezeAt 0 rfl fun I6 m6 hI6 hm6 h6 => ?_
  have hys : Ints I6 (some ⟨b196, 0, none⟩) 2 [cell, cell % 9] := Blk.sliceOf (t := 3) (l := [cell, cell % 9]) hm6 h6 (by unfold maxLen; simp)
  have hyl : ([cell, cell % 9] : List Int).length = 2 := rfl
  generalize ([cell, cell % 9] : List Int) = ys at hys hyl
  have hI36 := hI34.trans hI6
  refine Nx.p_loop (σ := Nat) (fun q => [(1, .slice Ao odd.length co), (3, .int .i64 cell), (14, .pointer (some ⟨b14, 0, none⟩)), (16, .slice As k cs), (17, .slice Ap prot.length cp), (20, .int .i64 m), (127, .slice (some ⟨b127, 0, none⟩) 2 2), (128, .int .i64 ((2 : Nat) : Int)), (129, .int .i64 (i : Int)), (196, .slice (some ⟨b196, 0, none⟩) 2 2), (197, .int .i64 ((2 : Nat) : Int)), (198, .int .i64 (q : Int))])
    (fun _ => [Blk b14 27 [.slice A n c], F]) (fun q => q ≤ 2) (fun q => 2 - q) 0 rfl (Nat.zero_le _) ⟨rfl, rfl, rfl, rfl, rfl, rfl, rfl, rfl, rfl, rfl, rfl, rfl, trivial⟩ (by (exact Ent.auto)) ?_
  intro q hq
  have hq : q ≤ 2 := hq
  by_cases hq2 : q < 2
  case neg =>
    repeat' first
      | ((with_reducible refine Nx.is_wp ?_); first | refine Nx.wo ?_ | refine Nx.zp (fun hc => ?_) (fun hc => ?_))
      | (refine Nx.zo ?_; first | refine Nx.opr rfl rfl ?_ | refine Nx.so ?_ | refine Nx.sb (fun bx => ?_) | refine Nx.sa (fun A2 c2 => ?_))
      | ((with_reducible refine Nx.is_at ?_); first | refine Nx.a ?_ | refine Nx.zd ?_ | refine Nx.zs (fun hc => ?_) (fun hc => ?_))
      | ((with_reducible refine Nx.is_mix ?_); first | refine Nx.m ?_ | refine Nx.zm ?_ | refine Nx.zt (fun hc => ?_) (fun hc => ?_))
      | refine Nx.zx ?_ | fail
    exact Nx.imm_le (hI4.trans hI6) (Nx.again (i + 1) hi2 (by omega) ⟨rfl, rfl, rfl, rfl, rfl, rfl, rfl, rfl, trivial⟩ (by (exact Ent.auto)))
  have hyr : ∀ (W : World) (R : List Res), Rd W I6 R ((ad (some (⟨b196, 0, none⟩ : Addr))).add (q * 1)) (.int .i64 (ys.getD q default)) := fun W R => hys.rd (by omega)
  generalize ys.getD q default = y at hyr
  have hC1 := hC.c1 I6 y m hI36
  have hC2 := hC.c2 I6 y m hI36
  have hW1 := hC.w1 I6 y hI36
  have hW2 := hC.w2 I6 y hI36
  unfold RWit at hW2
  generalize ca y m = fc at hC1 hC2
  obtain ⟨gl, ge⟩ := fc
  generalize wi y = fw at hW1 hW2
  obtain ⟨p1, p2, pe⟩ := fw
  dsimp only at hC1 hC2 hW1 hW2
  repeat' first
    | ((with_reducible refine Nx.is_wp ?_); first | refine Nx.p_stopr 39 rfl ?_ | refine Nx.wo ?_ | refine Nx.zp (fun hc => ?_) (fun hc => ?_))
    | (refine Nx.zo ?_; first | refine Nx.opr rfl rfl ?_ | refine Nx.indexAddr_nat (A := some ⟨b196, 0, none⟩) (i := q) (sz := 1) rfl rfl rfl rfl rfl hq2 rfl ?_ | refine Nx.load rfl rfl rfl (hyr _ _) ?_ | (refine Nx.call (Rpre := []) rfl rfl rfl (by kernel_rfl) rfl hC1 (Ent.refl _) ?_; rintro _ _ ⟨Au, cu, rfl, rfl⟩) | (refine Nx.call (Rpre := []) rfl rfl rfl (by kernel_rfl) rfl hC2 (Ent.refl _) ?_; rintro _ _ ⟨Av, cv, rfl, rfl⟩) | (refine Nx.call (Rpre := []) rfl rfl rfl (by kernel_rfl) rfl hW1 (Ent.refl _) ?_; rintro _ _ ⟨Ag, cg, Ah, ch, rfl, rfl⟩) | (refine Nx.call (Rpre := []) rfl rfl rfl (by kernel_rfl) rfl hW2 (Ent.refl _) ?_; rintro _ _ ⟨r1, r2, o, rfl, e1, e2, i1, i2, rfl⟩) | refine Nx.so ?_ | refine Nx.sb (fun bx => ?_) | refine Nx.sa (fun A2 c2 => ?_))
    | ((with_reducible refine Nx.is_at ?_); first | refine Nx.a ?_ | refine Nx.zd ?_ | refine Nx.zs (fun hc => ?_) (fun hc => ?_))
    | ((with_reducible refine Nx.is_mix ?_); first | refine Nx.m ?_ | refine Nx.zm ?_ | refine Nx.zt (fun hc => ?_) (fun hc => ?_))
    | refine Nx.zx ?_ | fail
  refine Nx.unstop ?_
  refine Nx.ent (R' := [Stars [iR Au cu gl, iR Av cv gl, iR Ag cg p1, iR Ah ch p2, Stars (o.map rwR)], Blk b14 27 [.slice A n c], F]) (Ent.trans (R' := [iR Au cu gl, iR Av cv gl, iR Ag cg p1, iR Ah ch p2, Stars (o.map rwR)] ++ [Blk b14 27 [.slice A n c], F]) (by (exact Ent.auto)) Ent.stars) ?_
  refine Nx.freezeAt 0 rfl fun I8 m8 hI8 hm8 h8 => ?_
  obtain ⟨k0, l0, c0⟩ := Stars.get 0 h8 rfl
  obtain ⟨k1, l1, c1⟩ := Stars.get 1 h8 rfl
  obtain ⟨k2, l2, c2⟩ := Stars.get 2 h8 rfl
  obtain ⟨k3, l3, c3⟩ := Stars.get 3 h8 rfl
  obtain ⟨k4, l4, c4⟩ := Stars.get 4 h8 rfl
  have g1 := row_in (l4.trans hm8) c4 i1
  have g2 := row_in (l4.trans hm8) c4 i2
  obtain ⟨B1, d1, x1⟩ := r1
  obtain ⟨B2, d2, x2⟩ := r2
  dsimp only at e1 e2 g1 g2
  subst e1 e2
  have hIn0 := Ints_spec Au Av cu cv gl gl I8 (Vec.sliceOf (l0.trans hm8) c0) (Vec.sliceOf (l1.trans hm8) c1)
  have hIn1 := Ints_spec Ag B1 cg d1 x1 x1 I8 (Vec.sliceOf (l2.trans hm8) c2) g1
  have hIn2 := Ints_spec Ah B2 ch d2 x2 x2 I8 (Vec.sliceOf (l3.trans hm8) c3) g2
  rw [decide_eq_true rfl] at hIn0 hIn1 hIn2
  repeat' first
    | ((with_reducible refine Nx.is_wp ?_); first | refine Nx.wo ?_ | refine Nx.zp (fun hc => ?_) (fun hc => ?_))
    | (refine Nx.zo ?_; first | refine Nx.opr rfl rfl ?_ | refine Nx.callv rfl rfl rfl (by kernel_rfl) rfl hIn0 ?_ | refine Nx.callv rfl rfl rfl (by kernel_rfl) rfl hIn1 ?_ | refine Nx.callv rfl rfl rfl (by kernel_rfl) rfl hIn2 ?_ | refine Nx.so ?_ | refine Nx.sb (fun bx => ?_) | refine Nx.sa (fun A2 c2 => ?_))
    | ((with_reducible refine Nx.is_at ?_); first | refine Nx.a ?_ | refine Nx.zd ?_ | refine Nx.zs (fun hc => ?_) (fun hc => ?_))
    | ((with_reducible refine Nx.is_mix ?_); first | refine Nx.m ?_ | refine Nx.zm ?_ | refine Nx.zt (fun hc => ?_) (fun hc => ?_))
    | refine Nx.zx ?_ | fail
  exact Nx.imm_le hI8 (Nx.again (q + 1) hq2 (by omega) ⟨rfl, rfl, rfl, rfl, rfl, rfl, rfl, rfl, rfl, rfl, rfl, rfl, trivial⟩ (by (exact Ent.auto)))
end Go.Proofs.YtcmdemfhbekabaaGreat
/- Contracts of functions of the given program, and lemmas about plain lists and numbers: what the laws of this seat lean on. -/
namespace Go.Proofs.YtcmdemfhbekabaaGreat
open Go.Eng Go.Sol
attribute [local irreducible] opK wpList Code.wp Exit.then Exit.inBlock fnPost bodyPost Nx Calls Oper.wp Rd Rds Wr Ent Stars Blk Again Vec FnSpec wpMix QRun Stop Upto wpAt
/-! The law of answers: what is changed, and the law -/
theorem con_right {I : PH} {A As : Option Addr} {c cs : Nat} {l : List Int} {rs : List Rel} (hl : Ints I A c l) (hs : Sizes l) (hr : Rels I As cs rs) (hw : ∀ r ∈ rs, Viewed l r.v) (h9 : rs.length ≤ 1000) :
    Con I (.agg #[.slice A l.length c]) (.slice As rs.length cs) (fun p m => expD l rs p m) (fun p m => (safeB l rs p m, (findD l rs p m).2)) (fun x m => cauD l rs x m) (fun x => witD l rs x) where
  e1 I' Ap cp p m hle hp h1 := Exposed_spec A As Ap c cs cp l rs p m I' (hl.mono hle) hs (hr.mono hle) hw hp (by omega)
  e2 I' Ap cp p m hle hp h1 := RExposed_spec A As Ap c cs cp l rs p m I' (hl.mono hle) hs (hr.mono hle) hw hp (by omega)
  s1 I' Ap cp p m hle hp h1 := Safe_spec A As Ap c cs cp l rs p m I' (hl.mono hle) hs (hr.mono hle) hw hp (by omega)
  s2 I' Ap cp p m hle hp _ := RSafe_spec A As Ap c cs cp l rs p m I' (hl.mono hle) hs (hr.mono hle) hw hp
  c1 I' x m hle := CausesE_spec A As c cs l rs x m I' (hl.mono hle) hs (hr.mono hle) hw h9
  c2 I' x m hle := RCauses_spec A As c cs l rs x m I' (hl.mono hle) hs (hr.mono hle) hw h9
  w1 I' x hle := Witness_spec A As c cs l rs x I' (hl.mono hle) hs (hr.mono hle) hw
  w2 I' x hle := RWitness_spec A As c cs l rs x I' (hl.mono hle) hs (hr.mono hle) hw
theorem con_odd {I : PH} {A As : Option Addr} {c n cs : Nat} {l : List Int} {rs : List Rel} (hn : n = l.length + 1) (hl : Ints I A c (l ++ [1])) (hs : Sizes l) (hr : Rels I As cs rs) (hw : ∀ r ∈ rs, Viewed l r.v) (h0 : 0 < rs.length) (h24 : rs.length ≤ 24) (hz : (rs.getD 0 default).num = 0) :
    Con I (.agg #[.slice A n c]) (.slice As rs.length cs) (fun _ _ => ([], 55)) (fun _ _ => (false, 55)) (fun _ _ => ([], 55)) (fun _ => ([], [], 55)) := by
  have hvl : (rs.getD 0 default).v.length ≠ n := by rw [(hw _ (getD_memR h0)).len]; omega
  have hnl : (l ++ [1]).length = n := by rw [List.length_append, List.length_singleton]; omega
  have hE : ∀ I', PH.le I I' → Says 108 [.agg #[.slice A n c], .slice As rs.length cs] I' (.int .i64 55) := fun I' hle => by
    refine ECheckO_spec A As c cs n rs I' (hr.mono hle) h0 h24 hz ?_
    by_cases h4 : l.length ≤ 3
    · refine .inr ⟨?_, hvl⟩
      have := Check_spec A c (l ++ [1]) I' (hl.mono hle) (sizes_odd hs h4)
      rw [hnl] at this; exact this
    · exact .inl (Check5_spec A c n I' (by have := hs.dims; omega))
  have hR : ∀ I', PH.le I I' → Says 58 [.agg #[.slice A n c], .slice As rs.length cs] I' (.int .i64 55) := fun I' hle => by
    refine RECheckO_spec A As c cs n rs I' (hr.mono hle) h0 h24 hz ?_
    by_cases h4 : l.length ≤ 3
    · refine .inr ⟨?_, hvl⟩
      have := RCheck_spec A c (l ++ [1]) I' (hl.mono hle) (sizes_odd hs h4)
      rw [hnl] at this; exact this
    · exact .inl (RCheck5_spec A c n I' (by have := hs.dims; omega))
  exact {
    e1 := fun I' Ap cp p m hle _ _ => ExposedO_spec A As Ap c cs cp n rs.length p.length m 55 I' (by decide) (hE I' hle)
    e2 := fun I' Ap cp p m hle _ _ => RExposedO_spec A As Ap c cs cp n rs.length p.length m 55 I' (by decide) (hR I' hle)
    s1 := fun I' Ap cp p m hle _ _ => SafeO_spec A As Ap c cs cp n rs.length p.length m 55 I' (by decide) (hE I' hle)
    s2 := fun I' Ap cp p m hle _ _ => RSafeO_spec A As Ap c cs cp n rs.length p.length m 55 I' (by decide) (hR I' hle)
    c1 := fun I' x m hle => CausesO_spec A As c cs n rs.length m x 55 I' (by decide) (hE I' hle)
    c2 := fun I' x m hle => RCausesO_spec A As c cs n rs.length m x 55 I' (by decide) (hR I' hle)
    w1 := fun I' x hle => WitnessO_spec A As c cs n rs.length x 55 I' (by decide) (hE I' hle)
    w2 := fun I' x hle => RWitnessO_spec A As c cs n rs.length x 55 I' (by decide) (hR I' hle) }
theorem mem_setR {rs : List Rel} {k : Nat} {r x : Rel} (h : x ∈ rs.set k r) : x = r ∨ x ∈ rs := by
  rcases List.mem_or_eq_of_mem_set h with h | h
  · exact .inr h
  · exact .inl h
theorem rels_set {I I' m : PH} {As A3 : Option Addr} {ca c3 k : Nat} {rs : List Rel} {r : Rel} (hr : Rels I As ca rs) (hle : PH.le I I') (hm : PH.le m I') (hv : Vec 62 3 A3 rs.length c3 ((rs.set k r).flatMap relC) m) (h1 : RowsOf I' r.va r.vc r.v) (h2 : Ints I' r.val.1 r.val.2.1 r.val.2.2) : Rels I' A3 c3 (rs.set k r) := by
  refine ⟨Vec.sliceN hm (t := 62) (by rw [List.length_set]; exact hv) fun x _ => relC_len x, fun x hx => ?_, fun x hx => ?_⟩
  · rcases mem_setR hx with rfl | h
    · exact h1
    · exact (hr.view x h).mono hle
  · rcases mem_setR hx with rfl | h
    · exact h2
    · exact (hr.val x h).mono hle
set_option maxHeartbeats 8000000 in
/-- One release is changed: its number or its values. -/
theorem da_end (w : World) (F : Res) (b14 : Nat) (B As A3 A5 Ao Ap : Option Addr) (c' ca c3 c5 co cp : Nat) (s odd prot xs : List Int) (rs : List Rel) (kk : Nat) (r : Rel) (margin cell : Int) (hmg : I64 margin) (hcell : I64 cell) (I0 I : PH) (hle0 : PH.le I0 I)
    (hz : Ints I B c' s) (hs : Sizes s) (hrs : Rels I As ca rs) (hw : ∀ x ∈ rs, Viewed s x.v) (h9 : rs.length ≤ 1000) (hkk : kk < rs.length) (hva : r.va = (rs.getD kk default).va) (hvc : r.vc = (rs.getD kk default).vc) (hvv : r.v = (rs.getD kk default).v)
    (hrow : ∀ I', Ints I' A5 c5 xs → Ints I' r.val.1 r.val.2.1 r.val.2.2) (ho : Ints I Ao co odd) (hp : Ints I Ap cp prot) (h30 : odd.length ≤ 30) (hpl : prot.length ≤ 1000) :
    Nx ⟨Tryz.prog, 263, w⟩ [(1, .slice Ao odd.length co), (2, .int .i64 margin), (3, .int .i64 cell), (14, .pointer (some ⟨b14, 0, none⟩)), (16, .slice A3 rs.length c3), (17, .slice Ap prot.length cp)] I [iR A5 c5 xs, Vec 62 3 A3 rs.length c3 ((rs.set kk r).flatMap relC), Blk b14 27 [.slice B s.length c'], F]
      (Code.wp Tryz.prog (cr (cr (cr (cr (cr (cr (bodyOf Tryz.f6))))))) (fnPost Tryz.prog Tryz.f6 I0 F w (fun v R' => v = .bool true ∧ R' = []))) := by
  refine Nx.freezeAt 0 rfl fun I1 m1 hI1 hm1 h1 => ?_
  refine Nx.freezeAt 0 rfl fun I2 m2 hI2 hm2 h2 => ?_
  have hle := hI1.trans hI2
  have hR := rels_set (r := r) hrs hle hm2 h2 (by rw [hva, hvc, hvv]; exact (hrs.view _ (getD_memR hkk)).mono hle) ((hrow I1 (Vec.sliceOf hm1 h1)).mono hI2)
  have hC := con_right (hz.mono hle) hs hR (fun x hx => (mem_setR hx).elim (fun h => by rw [h, hvv]; exact hw _ (getD_memR hkk)) fun h => hw x h) (by rw [List.length_set]; exact h9)
  rw [List.length_set] at hC
  exact da_tail w F b14 B A3 Ao Ap c' s.length c3 rs.length co cp odd prot margin cell hmg hcell I0 I2 (hle0.trans hle) _ _ _ _ hC (ho.mono hle) (hp.mono hle) h30 hpl
set_option maxHeartbeats 8000000 in
/-- The space is changed. -/
theorem da_odd (w : World) (F : Res) (b14 : Nat) (B As A3 A5 Ao Ap : Option Addr) (c' ca c3 c5 co cp : Nat) (s odd prot xs : List Int) (rs : List Rel) (kk n : Nat) (hn : n = s.length + 1) (r : Rel) (margin cell : Int) (hmg : I64 margin) (hcell : I64 cell) (I0 I : PH) (hle0 : PH.le I0 I)
    (hs : Sizes s) (hrs : Rels I As ca rs) (hw : ∀ x ∈ rs, Viewed s x.v) (h9 : rs.length ≤ 24) (hkk : kk < rs.length) (hnum : ∀ i, i < rs.length → (rs.getD i default).num = i) (hrn : r.num = (rs.getD kk default).num) (hva : r.va = (rs.getD kk default).va) (hvc : r.vc = (rs.getD kk default).vc) (hvv : r.v = (rs.getD kk default).v)
    (hrow : ∀ I', Ints I' A5 c5 xs → Ints I' r.val.1 r.val.2.1 r.val.2.2) (ho : Ints I Ao co odd) (hp : Ints I Ap cp prot) (h30 : odd.length ≤ 30) (hpl : prot.length ≤ 1000) :
    Nx ⟨Tryz.prog, 263, w⟩ [(1, .slice Ao odd.length co), (2, .int .i64 margin), (3, .int .i64 cell), (14, .pointer (some ⟨b14, 0, none⟩)), (16, .slice A3 rs.length c3), (17, .slice Ap prot.length cp)] I [iR A5 c5 xs, Vec 62 3 A3 rs.length c3 ((rs.set kk r).flatMap relC), iR B c' (s ++ [1]), Blk b14 27 [.slice B n c'], F]
      (Code.wp Tryz.prog (cr (cr (cr (cr (cr (cr (bodyOf Tryz.f6))))))) (fnPost Tryz.prog Tryz.f6 I0 F w (fun v R' => v = .bool true ∧ R' = []))) := by
  refine Nx.freezeAt 0 rfl fun I1 m1 hI1 hm1 h1 => ?_
  refine Nx.freezeAt 0 rfl fun I2 m2 hI2 hm2 h2 => ?_
  refine Nx.freezeAt 0 rfl fun I3 m3 hI3 hm3 h3 => ?_
  have hle := hI1.trans hI2
  have hR := (rels_set (r := r) hrs hle hm2 h2 (by rw [hva, hvc, hvv]; exact (hrs.view _ (getD_memR hkk)).mono hle) ((hrow I1 (Vec.sliceOf hm1 h1)).mono hI2)).mono hI3
  have hz0 : ((rs.set kk r).getD 0 default).num = 0 := by
    by_cases hk0 : kk = 0
    · subst hk0
      rw [List.getD_eq_getElem?_getD, List.getElem?_set_self hkk]
      show r.num = 0
      rw [hrn, hnum 0 hkk]; rfl
    · rw [List.getD_eq_getElem?_getD, List.getElem?_set_ne (by omega), ← List.getD_eq_getElem?_getD, hnum 0 (by omega)]; rfl
  have hC := con_odd hn (Vec.sliceOf hm3 h3) hs hR (fun x hx => (mem_setR hx).elim (fun h => by rw [h, hvv]; exact hw _ (getD_memR hkk)) fun h => hw x h) (by rw [List.length_set]; omega) (by rw [List.length_set]; exact h9) hz0
  rw [List.length_set] at hC
  exact da_tail w F b14 B A3 Ao Ap c' n c3 rs.length co cp odd prot margin cell hmg hcell I0 I3 ((hle0.trans hle).trans hI3) _ _ _ _ hC ((ho.mono hle).mono hI3) ((hp.mono hle).mono hI3) h30 hpl
set_option maxRecDepth 10000 in
set_option maxHeartbeats 32000000 in
theorem DifferencingAnswers_spec (A : Option Addr) (c : Nat) (l : List Int) (Ao : Option Addr) (co : Nat) (odd : List Int) (margin cell what by' : Int) (I : PH) (hl : Bytes I A c l) (hx : ∀ x ∈ l, 0 ≤ x ∧ x < 256) (ho : Ints I Ao co odd) (hmg : I64 margin) (hcell : I64 cell) (hwh : I64 what) (hby : I64 by') :
    FnSpec Tryz.prog 6 [.slice A l.length c, .slice Ao odd.length co, .int .i64 margin, .int .i64 cell, .int .i64 what, .int .i64 by'] I [] (fun v R' => v = .bool true ∧ R' = []) := by
  have hL := bytes_take hl hx
  have hol := ho.len
  refine FnSpec.enterP Tryz.func6 rfl Tryz.ntmps6 rfl fun w F => ?_
  by_cases h30 : odd.length ≤ 30
  case neg =>
    repeat' first
      | ((with_reducible refine Nx.is_wp ?_); first | refine Nx.wo ?_ | refine Nx.zp (fun hc => ?_) (fun hc => ?_))
      | (refine Nx.zo ?_; first | refine Nx.opr rfl rfl ?_ | refine Nx.callv rfl rfl rfl (by kernel_rfl) rfl (awakeD_spec _) ?_ | refine Nx.so ?_ | refine Nx.sb (fun bx => ?_) | refine Nx.sa (fun A2 c2 => ?_))
      | ((with_reducible refine Nx.is_at ?_); first | refine Nx.a ?_ | refine Nx.zd ?_ | refine Nx.zs (fun hc => ?_) (fun hc => ?_))
      | ((with_reducible refine Nx.is_mix ?_); first | refine Nx.m ?_ | refine Nx.zm ?_ | refine Nx.zt (fun hc => ?_) (fun hc => ?_))
      | refine Nx.zx ?_ | fail
    exact Nx.ret_fn rfl [] ⟨rfl, rfl⟩ (by (exact Ent.auto))
  repeat' first
    | ((with_reducible refine Nx.is_wp ?_); first | refine Nx.p_stopr 5 rfl ?_ | refine Nx.wo ?_ | refine Nx.zp (fun hc => ?_) (fun hc => ?_))
    | (refine Nx.zo ?_; first | refine Nx.opr rfl rfl ?_ | (refine Nx.call (Rpre := []) rfl rfl rfl (by kernel_rfl) rfl (New_codes A c l I hl) (Ent.refl _) ?_; rintro _ _ ⟨b, rfl, rfl⟩) | (refine Nx.call rfl rfl rfl (by kernel_rfl) rfl (Told_made b A c _ 0 2 4 I hL (Nat.zero_le _) (by omega) (by omega)) (by (exact Ent.auto)) ?_; rintro _ _ ⟨B, c', s, At, ct, t, As, ca, rs, k1, rfl, hs, hT, hrn, hro, hk1, rfl⟩) | refine Nx.so ?_ | refine Nx.sb (fun bx => ?_) | refine Nx.sa (fun A2 c2 => ?_))
    | ((with_reducible refine Nx.is_at ?_); first | refine Nx.a ?_ | refine Nx.zd ?_ | refine Nx.zs (fun hc => ?_) (fun hc => ?_))
    | ((with_reducible refine Nx.is_mix ?_); first | refine Nx.m ?_ | refine Nx.zm ?_ | refine Nx.zt (fun hc => ?_) (fun hc => ?_))
    | refine Nx.zx ?_ | fail
  refine Nx.unstop ?_
  revert bx; intro b14
  refine Nx.giveTold (B := B) (c' := c') (s := s) (At := At) (ct := ct) (t := t) (As := As) (ca := ca) (rs := rs) (RR := [Blk b14 27 [.slice B s.length c'], CodesR b A c (l.take 400) k1, F]) (by refine Ent.trans ?_ Ent.stars; unfold toldR; (exact Ent.auto)) fun I1 hI1 hz ht hrs => ?_
  replace hL := hL.mono hI1
  have hzs := size_ok hs
  have hCt := RCount_spec B c' s I1 hz hs
  rw [← hzs.2.2] at hCt
  repeat' first
    | ((with_reducible refine Nx.is_wp ?_); first | refine Nx.p_stopr 6 rfl ?_ | refine Nx.wo ?_ | refine Nx.zp (fun hc => ?_) (fun hc => ?_))
    | (refine Nx.zo ?_; first | refine Nx.opr rfl rfl ?_ | refine Nx.callv rfl rfl rfl (by kernel_rfl) rfl hCt ?_ | (refine Nx.call rfl rfl rfl (by kernel_rfl) rfl (Protected_made b A c _ k1 (prod s).toNat I1 hL hk1 (by omega)) (by (exact Ent.auto)) ?_; rintro _ _ ⟨Bp, cp, p, k2, rfl, hpl, ⟨hpa, hpb⟩, hk2, rfl⟩) | refine Nx.so ?_ | refine Nx.sb (fun bx => ?_) | refine Nx.sa (fun A2 c2 => ?_))
    | ((with_reducible refine Nx.is_at ?_); first | refine Nx.a ?_ | refine Nx.zd ?_ | refine Nx.zs (fun hc => ?_) (fun hc => ?_))
    | ((with_reducible refine Nx.is_mix ?_); first | refine Nx.m ?_ | refine Nx.zm ?_ | refine Nx.zt (fun hc => ?_) (fun hc => ?_))
    | refine Nx.zx ?_ | fail
  refine Nx.unstop ?_
  refine Nx.ent (R' := [iR Bp cp p, Blk b14 27 [.slice B s.length c'], F]) (by (exact Ent.auto)) ?_
  refine Nx.freezeAt 0 rfl fun I2 m2 hI2 hm2 h2 => ?_
  have hp : Ints I2 Bp cp p := Vec.sliceOf hm2 h2
  have hle2 := hI1.trans hI2
  replace hz := hz.mono hI2
  replace hrs := hrs.mono hI2
  replace ho := ho.mono hle2
  have hwv := views_of hro
  by_cases h0 : rs.length = 0
  · repeat' first
      | ((with_reducible refine Nx.is_wp ?_); first | refine Nx.p_stops 19 rfl ?_ | refine Nx.wo ?_ | refine Nx.zp (fun hc => ?_) (fun hc => ?_))
      | (refine Nx.zo ?_; first | refine Nx.opr rfl rfl ?_ | refine Nx.so ?_ | refine Nx.sb (fun bx => ?_) | refine Nx.sa (fun A2 c2 => ?_))
      | ((with_reducible refine Nx.is_at ?_); first | refine Nx.a ?_ | refine Nx.zd ?_ | refine Nx.zs (fun hc => ?_) (fun hc => ?_))
      | ((with_reducible refine Nx.is_mix ?_); first | refine Nx.m ?_ | refine Nx.zm ?_ | refine Nx.zt (fun hc => ?_) (fun hc => ?_))
      | refine Nx.zx ?_ | fail
    exact Nx.unstop (Nx.weak (by exact ⟨rfl, rfl, rfl, rfl, rfl, rfl, trivial⟩) (by (exact Ent.auto)) (da_tail w F b14 B As Ao Bp c' s.length ca rs.length co cp odd p margin cell hmg hcell I I2 hle2 _ _ _ _ (con_right hz hs hrs hwv (by omega)) ho hp h30 (by omega)))
  have hMk := ModI_spec by' rs.length hby (by omega) I2
  obtain ⟨kk, hkk, hkl⟩ : ∃ kk : Nat, by' % (rs.length : Int) = kk ∧ kk < rs.length := by
    have h1 := Int.emod_nonneg by' (show (rs.length : Int) ≠ 0 by omega)
    have h2 := Int.emod_lt_of_pos by' (show (0 : Int) < rs.length by omega)
    exact ⟨(by' % (rs.length : Int)).toNat, by omega, by omega⟩
  rw [hkk] at hMk
  have hcap := hrs.outer.cap
  repeat' first
    | ((with_reducible refine Nx.is_wp ?_); first | refine Nx.p_stopr 9 rfl ?_ | refine Nx.wo ?_ | refine Nx.zp (fun hc => ?_) (fun hc => ?_))
    | (refine Nx.zo ?_; first | refine Nx.opr rfl rfl ?_ | refine Nx.callv rfl rfl rfl (by kernel_rfl) rfl hMk ?_ | (refine Nx.blk_vec 0 0 3 rfl rfl (by omega) ?_; refine Nx.append rfl rfl rfl rfl (by kernel_rfl) rfl (Src.arr hrs.outer.arr (flat_len relC_len rs) (by omega) (rel_one rs)) (by omega) fun A3 c3 => ?_; rw [Nat.zero_add, List.nil_append]) | refine Nx.so ?_ | refine Nx.sb (fun bx => ?_) | refine Nx.sa (fun A2 c2 => ?_))
    | ((with_reducible refine Nx.is_at ?_); first | refine Nx.a ?_ | refine Nx.zd ?_ | refine Nx.zs (fun hc => ?_) (fun hc => ?_))
    | ((with_reducible refine Nx.is_mix ?_); first | refine Nx.m ?_ | refine Nx.zm ?_ | refine Nx.zt (fun hc => ?_) (fun hc => ?_))
    | refine Nx.zx ?_ | fail
  refine Nx.unstop ?_
  refine Nx.vec_fact fun _ _ _ hA3 => ?_
  have hA3 := hA3 (by omega)
  obtain ⟨hrk, hnk⟩ := hro.each kk hkl
  have hnum : ∀ i, i < rs.length → (rs.getD i default).num = i := fun i hi => (hro.each i hi).2
  have hvk := hrs.val _ (getD_memR hkl)
  have hvlen : 0 < (rs.getD kk default).val.2.2.length ∧ (rs.getD kk default).val.2.2.length ≤ 4096 := by
    have h1 := hrk.len
    have h2 := (hrk.view.sizes hs).bound (k := (szs (rs.getD kk default).v).length) (Nat.le_refl _)
    rw [List.take_length] at h2
    have h3 : prod (szs (rs.getD kk default).v) ≤ 4096 := h2.2
    constructor <;> omega
  obtain ⟨r0, hr0⟩ : ∃ r0, r0 = rs.getD kk default := ⟨_, rfl⟩
  have hva : r0.va = (rs.getD kk default).va := by rw [hr0]
  have hvc : r0.vc = (rs.getD kk default).vc := by rw [hr0]
  have hvv : r0.v = (rs.getD kk default).v := by rw [hr0]
  have hvn : r0.num = (rs.getD kk default).num := by rw [hr0]
  rw [← hr0] at hvk hvlen
  obtain ⟨num, va, vc, v, D, cd, vs⟩ := r0
  dsimp only at hva hvc hvv hvk hvlen hvn
  have hdl := hvk.len
  have hfl : ∀ A5 c5, (rs.flatMap relC).set (kk * 3 + 2) (.slice A5 vs.length c5) = (rs.set kk ⟨num, va, vc, v, (A5, c5, vs)⟩).flatMap relC := fun A5 c5 => flat_set relC_len hkl (by decide) (by rw [← hr0]; rfl)
  repeat' first
    | ((with_reducible refine Nx.is_wp ?_); first | refine Nx.p_stopr 10 rfl ?_ | refine Nx.wo ?_ | refine Nx.zp (fun hc => ?_) (fun hc => ?_))
    | (refine Nx.zo ?_; first | (refine Nx.quietly rfl rfl (QRun.fld (A := (ad A3).add (kk * 3)) rfl rfl) ?_) | refine Nx.opr rfl rfl ?_ | refine Nx.indexAddr_nat (A := A3) (i := kk) (sz := 3) rfl rfl rfl rfl rfl hkl hA3 ?_ | refine Nx.load rfl rfl rfl (Rd.vecFld (v := .slice D vs.length cd) 1 relC_len rfl hkl 2 (by rw [← hr0]; rfl)) ?_ | (refine Nx.blk_vec 0 0 1 rfl rfl (by omega) ?_; refine Nx.append rfl rfl rfl rfl (by kernel_rfl) rfl (Src.arr hvk.arr (by simp) (by omega) (fun u hu => by obtain ⟨z, _, rfl⟩ := List.mem_map.1 hu; rfl)) (by omega) fun A5 c5 => ?_; rw [Nat.zero_add, List.nil_append]) | (refine Nx.store_fld 1 (A := A3) (i := kk) (j := 2) rfl rfl rfl rfl rfl rfl (by omega) ?_; rw [hfl]) | refine Nx.so ?_ | refine Nx.sb (fun bx => ?_) | refine Nx.sa (fun A2 c2 => ?_))
    | ((with_reducible refine Nx.is_at ?_); first | refine Nx.a ?_ | refine Nx.zd ?_ | refine Nx.zs (fun hc => ?_) (fun hc => ?_))
    | ((with_reducible refine Nx.is_mix ?_); first | refine Nx.m ?_ | refine Nx.zm ?_ | refine Nx.zt (fun hc => ?_) (fun hc => ?_))
    | refine Nx.zx ?_ | fail
  refine Nx.unstop ?_
  refine Nx.ent (R' := [iR A5 c5 vs, Vec 62 3 A3 rs.length c3 ((rs.set kk ⟨num, va, vc, v, (A5, c5, vs)⟩).flatMap relC), Blk b14 27 [.slice B s.length c'], F]) (by (exact Ent.auto)) ?_
  refine Nx.vec_fact fun _ hc5 hm5 hA5 => ?_
  have hA5 := hA5 (by omega)
  have hM8 := ModI_spec what 8 hwh (by omega) I2
  have hM30 := ModI_spec by' 30 hby (by omega) I2
  have hM7 := ModI_spec by' 7 hby (by omega) I2
  have hd8 := Int.emod_nonneg what (show (8 : Int) ≠ 0 by decide)
  have hb30 := Int.emod_nonneg by' (show (30 : Int) ≠ 0 by decide)
  have hb30' := Int.emod_lt_of_pos by' (show (0 : Int) < 30 by decide)
  have hb7 := Int.emod_nonneg by' (show (7 : Int) ≠ 0 by decide)
  have hb7' := Int.emod_lt_of_pos by' (show (0 : Int) < 7 by decide)
  generalize what % 8 = d at hM8 hd8
  generalize by' % 30 = z30 at hM30 hb30 hb30'
  generalize by' % 7 = z7 at hM7 hb7 hb7'
  have hset : ∀ r, (rs.set kk ⟨num, va, vc, v, (A5, c5, vs)⟩).set kk r = rs.set kk r := fun r => List.set_set ..
  have hsl : (rs.set kk ⟨num, va, vc, v, (A5, c5, vs)⟩).length = rs.length := List.length_set
  have hsg : (rs.set kk ⟨num, va, vc, v, (A5, c5, vs)⟩).getD kk default = ⟨num, va, vc, v, (A5, c5, vs)⟩ := by rw [List.getD_eq_getElem?_getD, List.getElem?_set_self hkl]; rfl
  by_cases d0 : d = 0
  · subst d0
    have hf0 : ((rs.set kk ⟨num, va, vc, v, (A5, c5, vs)⟩).flatMap relC).set (kk * 3 + 0) (.int .i64 (z30 - 2)) = (rs.set kk ⟨z30 - 2, va, vc, v, (A5, c5, vs)⟩).flatMap relC := by
      rw [flat_set (x' := ⟨z30 - 2, va, vc, v, (A5, c5, vs)⟩) relC_len (by omega) (by decide) (by rw [hsg]; rfl), hset]
    repeat' first
      | ((with_reducible refine Nx.is_wp ?_); first | refine Nx.p_stops 19 rfl ?_ | refine Nx.wo ?_ | refine Nx.zp (fun hc => ?_) (fun hc => ?_))
      | (refine Nx.zo ?_; first | (refine Nx.quietly rfl rfl (QRun.fld (A := (ad A3).add (kk * 3)) rfl rfl) ?_) | refine Nx.opr rfl rfl ?_ | refine Nx.callv rfl rfl rfl (by kernel_rfl) rfl hM8 ?_ | refine Nx.callv rfl rfl rfl (by kernel_rfl) rfl hM30 ?_ | refine Nx.indexAddr_nat (A := A3) (i := kk) (sz := 3) rfl rfl rfl rfl rfl hkl hA3 ?_ | (refine Nx.store_fld 1 (A := A3) (i := kk) (j := 0) rfl rfl rfl rfl rfl rfl (by omega) ?_; rw [hf0]) | refine Nx.so ?_ | refine Nx.sb (fun bx => ?_) | refine Nx.sa (fun A2 c2 => ?_))
      | ((with_reducible refine Nx.is_at ?_); first | refine Nx.a ?_ | refine Nx.zd ?_ | refine Nx.zs (fun hc => ?_) (fun hc => ?_))
      | ((with_reducible refine Nx.is_mix ?_); first | refine Nx.m ?_ | refine Nx.zm ?_ | refine Nx.zt (fun hc => ?_) (fun hc => ?_))
      | refine Nx.zx ?_ | fail
    exact Nx.unstop (Nx.weak (by exact ⟨rfl, rfl, rfl, rfl, rfl, rfl, trivial⟩) (by (exact Ent.auto)) (da_end w F b14 B As A3 A5 Ao Bp c' ca c3 c5 co cp s odd p vs rs kk ⟨z30 - 2, va, vc, v, (A5, c5, vs)⟩ margin cell hmg hcell I I2 hle2 hz hs hrs hwv (by omega) hkl hva hvc hvv (fun _ h => h) ho hp h30 (by omega)))
  by_cases d1 : d = 1
  · subst d1
    have hf1 : (rs.set kk ⟨num, va, vc, v, (A5, c5, vs)⟩).flatMap relC = (rs.set kk ⟨num, va, vc, v, (A5, c5, vs.set 0 (z7 - 2))⟩).flatMap relC := by
      rw [List.flatMap_def, List.flatMap_def, List.map_set, List.map_set]
      unfold relC rowV
      dsimp only
      rw [List.length_set]
    repeat' first
      | ((with_reducible refine Nx.is_wp ?_); first | refine Nx.p_stops 19 rfl ?_ | refine Nx.wo ?_ | refine Nx.p_drawF (id := 14) rfl [0, 1, 2, 3, 4, 5, 6, 7, 8] [6] [9] _ rfl rfl (by kernel_rfl) (by kernel_rfl) rfl (by repeat first | exact PanicOk.fn | refine PanicOk.then_ ?_ | refine PanicOk.inB ?_) (Ent.refl _) ?_ | refine Nx.zp (fun hc => ?_) (fun hc => ?_))
      | (refine Nx.zo ?_; first | refine Nx.opr rfl rfl ?_ | refine Nx.callv rfl rfl rfl (by kernel_rfl) rfl hM8 ?_ | refine Nx.callv rfl rfl rfl (by kernel_rfl) rfl hM7 ?_ | refine Nx.store_ints 0 (A := A5) (i := 0) (l := vs) rfl rfl rfl rfl (by omega) ?_ | refine Nx.so ?_ | refine Nx.sb (fun bx => ?_) | refine Nx.sa (fun A2 c2 => ?_))
      | ((with_reducible refine Nx.is_at ?_); first | refine Nx.a ?_ | refine Nx.zd ?_ | refine Nx.zs (fun hc => ?_) (fun hc => ?_))
      | ((with_reducible refine Nx.is_mix ?_); first | refine Nx.m_quiet rfl rfl rfl rfl rfl (by first | exact QRun.fld (A := (ad A3).add (kk * 3)) rfl rfl | exact QRun.opr rfl | exact QRun.idx (A := A3) (i := kk) (sz := 3) rfl rfl rfl rfl hkl hA3 | exact QRun.idx (A := A5) (i := 0) (sz := 1) rfl rfl rfl rfl (by omega) hA5 | exact QRun.load rfl rfl (Rd.vecFld (v := .slice A5 vs.length c5) 1 relC_len rfl (by omega) 2 (by rw [hsg]; rfl))) ?_ | refine Nx.m_quiet_do rfl rfl rfl rfl rfl rfl rfl (by first | exact QRun.fld (A := (ad A3).add (kk * 3)) rfl rfl | exact QRun.opr rfl | exact QRun.idx (A := A3) (i := kk) (sz := 3) rfl rfl rfl rfl hkl hA3 | exact QRun.idx (A := A5) (i := 0) (sz := 1) rfl rfl rfl rfl (by omega) hA5 | exact QRun.load rfl rfl (Rd.vecFld (v := .slice A5 vs.length c5) 1 relC_len rfl (by omega) 2 (by rw [hsg]; rfl))) ?_ | refine Nx.m ?_ | refine Nx.zm ?_ | refine Nx.zt (fun hc => ?_) (fun hc => ?_))
      | refine Nx.zx ?_ | fail
    exact Nx.unstop (Nx.weak (by exact ⟨rfl, rfl, rfl, rfl, rfl, rfl, trivial⟩) (by unfold iR; rw [List.length_set, ← hf1]; (exact Ent.auto)) (da_end w F b14 B As A3 A5 Ao Bp c' ca c3 c5 co cp s odd p (vs.set 0 (z7 - 2)) rs kk ⟨num, va, vc, v, (A5, c5, vs.set 0 (z7 - 2))⟩ margin cell hmg hcell I I2 hle2 hz hs hrs hwv (by omega) hkl hva hvc hvv (fun _ h => h) ho hp h30 (by omega)))
  by_cases d2 : d = 2
  · subst d2
    have hf2 : ((rs.set kk ⟨num, va, vc, v, (A5, c5, vs)⟩).flatMap relC).set (kk * 3 + 2) (.slice (offA A5 c5 1 1) (vs.length - 1) (c5 - 1)) = (rs.set kk ⟨num, va, vc, v, (offA A5 c5 1 1, c5 - 1, vs.drop 1)⟩).flatMap relC := by
      rw [flat_set (x' := ⟨num, va, vc, v, (offA A5 c5 1 1, c5 - 1, vs.drop 1)⟩) relC_len (by omega) (by decide) (by rw [hsg]; unfold relC rowV; dsimp only; rw [List.length_drop]; rfl), hset]
    repeat' first
      | ((with_reducible refine Nx.is_wp ?_); first | refine Nx.p_stops 19 rfl ?_ | refine Nx.wo ?_ | refine Nx.zp (fun hc => ?_) (fun hc => ?_))
      | (refine Nx.zo ?_; first | (refine Nx.quietly rfl rfl (QRun.fld (A := (ad A3).add (kk * 3)) rfl rfl) ?_) | refine Nx.opr rfl rfl ?_ | refine Nx.callv rfl rfl rfl (by kernel_rfl) rfl hM8 ?_ | refine Nx.indexAddr_nat (A := A3) (i := kk) (sz := 3) rfl rfl rfl rfl rfl hkl hA3 ?_ | refine Nx.load rfl rfl rfl (Rd.vecFld (v := .slice A5 vs.length c5) 1 relC_len rfl (by omega) 2 (by rw [hsg]; rfl)) ?_ | refine Nx.slice_lo (l := 1) rfl rfl rfl rfl rfl (by omega) ?_ | (refine Nx.store_fld 1 (A := A3) (i := kk) (j := 2) rfl rfl rfl rfl rfl rfl (by omega) ?_; rw [hf2]) | refine Nx.so ?_ | refine Nx.sb (fun bx => ?_) | refine Nx.sa (fun A2 c2 => ?_))
      | ((with_reducible refine Nx.is_at ?_); first | refine Nx.a ?_ | refine Nx.zd ?_ | refine Nx.zs (fun hc => ?_) (fun hc => ?_))
      | ((with_reducible refine Nx.is_mix ?_); first | refine Nx.m ?_ | refine Nx.zm ?_ | refine Nx.zt (fun hc => ?_) (fun hc => ?_))
      | refine Nx.zx ?_ | fail
    exact Nx.unstop (Nx.weak (by exact ⟨rfl, rfl, rfl, rfl, rfl, rfl, trivial⟩) (by (exact Ent.auto)) (da_end w F b14 B As A3 A5 Ao Bp c' ca c3 c5 co cp s odd p vs rs kk ⟨num, va, vc, v, (offA A5 c5 1 1, c5 - 1, vs.drop 1)⟩ margin cell hmg hcell I I2 hle2 hz hs hrs hwv (by omega) hkl hva hvc hvv (fun _ h => SliceOf.drop h (by omega)) ho hp h30 (by omega)))
  by_cases d3 : d = 3
  · subst d3
    have hd4 := hs.dims
    repeat' first
      | ((with_reducible refine Nx.is_wp ?_); first | refine Nx.p_stops 19 rfl ?_ | refine Nx.wo ?_ | refine Nx.zp (fun hc => ?_) (fun hc => ?_))
      | (refine Nx.zo ?_; first | refine Nx.opr rfl rfl ?_ | refine Nx.callv rfl rfl rfl (by kernel_rfl) rfl hM8 ?_ | (refine Nx.blk_vec 0 0 1 rfl rfl (by omega) ?_; refine Nx.append rfl rfl rfl rfl (by kernel_rfl) rfl (Src.arr hz.arr (by simp) (by omega) (fun u hu => by obtain ⟨z, _, rfl⟩ := List.mem_map.1 hu; rfl)) (by omega) fun A7 c7 => ?_; rw [Nat.zero_add, List.nil_append]) | refine Nx.append_lit 1 rfl rfl rfl rfl (by kernel_rfl) rfl rfl rfl rfl (by omega) (fun A8 c8 => ?_) | (refine Nx.store_fld 3 (A := some ⟨b14, 0, none⟩) (i := 0) (j := 0) rfl rfl rfl rfl rfl rfl (by omega) ?_) | refine Nx.so ?_ | refine Nx.sb (fun bx => ?_) | refine Nx.sa (fun A2 c2 => ?_))
      | ((with_reducible refine Nx.is_at ?_); first | refine Nx.a ?_ | refine Nx.zd ?_ | refine Nx.zs (fun hc => ?_) (fun hc => ?_))
      | ((with_reducible refine Nx.is_mix ?_); first | refine Nx.m ?_ | refine Nx.zm ?_ | refine Nx.zt (fun hc => ?_) (fun hc => ?_))
      | refine Nx.zx ?_ | fail
    exact Nx.unstop (Nx.weak (by exact ⟨rfl, rfl, rfl, rfl, rfl, rfl, trivial⟩) (by unfold iR; rw [List.length_append (bs := [_]), List.map_append]; (exact Ent.auto)) (da_odd w F b14 A2 As A3 A5 Ao Bp c2 ca c3 c5 co cp s odd p vs rs kk (s.length + 1) rfl ⟨num, va, vc, v, (A5, c5, vs)⟩ margin cell hmg hcell I I2 hle2 hs hrs hwv (by omega) hkl hnum hvn hva hvc hvv (fun _ h => h) ho hp h30 (by omega)))
  repeat' first
    | ((with_reducible refine Nx.is_wp ?_); first | refine Nx.p_stops 19 rfl ?_ | refine Nx.wo ?_ | refine Nx.zp (fun hc => ?_) (fun hc => ?_))
    | (refine Nx.zo ?_; first | refine Nx.opr rfl rfl ?_ | refine Nx.callv rfl rfl rfl (by kernel_rfl) rfl hM8 ?_ | refine Nx.so ?_ | refine Nx.sb (fun bx => ?_) | refine Nx.sa (fun A2 c2 => ?_))
    | ((with_reducible refine Nx.is_at ?_); first | refine Nx.a ?_ | refine Nx.zd ?_ | refine Nx.zs (fun hc => ?_) (fun hc => ?_))
    | ((with_reducible refine Nx.is_mix ?_); first | refine Nx.m ?_ | refine Nx.zm ?_ | refine Nx.zt (fun hc => ?_) (fun hc => ?_))
    | refine Nx.zx ?_ | fail
  exact Nx.unstop (Nx.weak (by exact ⟨rfl, rfl, rfl, rfl, rfl, rfl, trivial⟩) (by (exact Ent.auto)) (da_end w F b14 B As A3 A5 Ao Bp c' ca c3 c5 co cp s odd p vs rs kk ⟨num, va, vc, v, (A5, c5, vs)⟩ margin cell hmg hcell I I2 hle2 hz hs hrs hwv (by omega) hkl hva hvc hvv (fun _ h => h) ho hp h30 (by omega)))
end Go.Proofs.YtcmdemfhbekabaaGreat
