/- Contracts of functions of the given program, and lemmas. -/
import Derived.Test.YtpcnapidlhpbkaaGreatDoorBq8
set_option maxHeartbeats 32000000
namespace Go.Proofs.YtpcnapidlhpbkaaGreatDoor
open Go.Eng Go.Sol
attribute [local irreducible] opK wpList Code.wp Exit.then Exit.inBlock fnPost bodyPost Nx Calls Oper.wp Rd Rds Wr Ent Stars Blk Again Vec FnSpec wpMix QRun Stop Upto wpAt
structure RelV (l : List Int) (r : Rel) : Prop where
  view : Viewed l r.v
  len : r.val.2.2.length = (prod (szs r.v)).toNat
  each : ∀ j, j < r.val.2.2.length → r.val.2.2.getD j default = -1 ∨ (0 ≤ r.val.2.2.getD j default ∧ r.val.2.2.getD j default ≤ 1000000)
set_option maxRecDepth 10000 in
theorem release_spec (A B D : Option Addr) (c cv cd : Nat) (l vs : List Int) (v : List Row) (num before : Int) (I : PH) (hl : Ints I A c l) (hs : Sizes l) (hv : RowsOf I B cv v) (hd : Ints I D cd vs) (hr : RelV l ⟨num, B, cv, v, (D, cd, vs)⟩) (hb : before < num) (h0 : 0 ≤ num) (h24 : num < 24) :
    FnSpec Tryz.prog 157 [.agg #[.slice A l.length c], .agg #[.int .i64 num, .slice B v.length cv, .slice D vs.length cd], .int .i64 before] I [] (fun u R' => u = .int .i64 0 ∧ R' = []) := by
  obtain ⟨hw, hlen, heach⟩ := hr
  dsimp only at hw hlen heach
  have hvl := hd.len
  have hszs := hw.sizes hs
  have hpr := hszs.bound (k := (szs v).length) (Nat.le_refl _)
  rw [List.take_length] at hpr
  have hP := RPublished_spec A B c cv l v I hl hs hv hw
  rw [show prod (szs v) = (vs.length : Int) by omega] at hP
  refine FnSpec.enterP Tryz.func157 rfl Tryz.ntmps157 rfl fun w F => ?_
  repeat' first
    | ((with_reducible refine Nx.is_wp ?_); first | refine Nx.wo ?_ | refine Nx.p_draw (id := 6) rfl [0, 1, 2, 3, 4, 5, 6, 7] [6] _ rfl rfl (by kernel_rfl) (by kernel_rfl) rfl PanicOk.auto (Ent.refl _) ?_ | refine Nx.zp (fun hc => ?_) (fun hc => ?_))
    | (refine Nx.zo ?_; first | refine Nx.opr rfl rfl ?_ | refine Nx.loads rfl rfl rfl rfl (Rds.cut 0 1 rfl rfl) rfl ?_ | refine Nx.callv rfl rfl rfl (by kernel_rfl) rfl (RView_spec _ _ _ _ _ _ _ hl hs hv hw) ?_ | refine Nx.callv rfl rfl rfl (by kernel_rfl) rfl hP ?_ | refine Nx.so ?_ | refine Nx.sb (fun bx => ?_) | refine Nx.sa (fun A2 c2 => ?_))
    | refine Nx.za ?_ | refine Nx.zr (fun hc => ?_) (fun hc => ?_)
    | ((with_reducible refine Nx.is_mix ?_); first | refine Nx.m_quiet rfl rfl rfl rfl rfl (by first | exact QRun.opr rfl | exact QRun.loads rfl rfl rfl (Rds.cut 0 1 rfl rfl) rfl) ?_ | refine Nx.m_quiet_do rfl rfl rfl rfl rfl rfl rfl (by first | exact QRun.opr rfl | exact QRun.loads rfl rfl rfl (Rds.cut 0 1 rfl rfl) rfl) ?_ | refine Nx.m ?_ | refine Nx.zm ?_ | refine Nx.zt (fun hc => ?_) (fun hc => ?_))
    | refine Nx.zx ?_ | fail
  refine Nx.p_loop (σ := Nat) (fun i => [(40, .slice D vs.length cd), (41, .int .i64 vs.length), (42, .int .i64 (i : Int))])
    (fun _ => [F]) (fun i => i ≤ vs.length) (fun i => vs.length - i) 0 rfl (Nat.zero_le _) ⟨rfl, rfl, rfl, trivial⟩ (by (exact Ent.auto)) ?_
  intro i hi
  have hi : i ≤ vs.length := hi
  by_cases hiv : i < vs.length
  case neg =>
    repeat' first
      | ((with_reducible refine Nx.is_wp ?_); first | refine Nx.wo ?_ | refine Nx.zp (fun hc => ?_) (fun hc => ?_))
      | (refine Nx.zo ?_; first | refine Nx.opr rfl rfl ?_ | refine Nx.so ?_ | refine Nx.sb (fun bx => ?_) | refine Nx.sa (fun A2 c2 => ?_))
      | refine Nx.za ?_ | refine Nx.zr (fun hc => ?_) (fun hc => ?_)
      | refine Nx.zq ?_ | refine Nx.zu (fun hc => ?_) (fun hc => ?_)
      | refine Nx.zx ?_ | fail
    exact Nx.ret_fn rfl [] ⟨rfl, rfl⟩ (by (exact Ent.auto))
  have hei := heach i hiv
  have hrd : ∀ (W : World) (R : List Res), Rd W I R ((ad D).add (i * 1)) (.int .i64 (vs.getD i default)) := fun W R => hd.rd hiv
  generalize vs.getD i default = z at hei hrd
  rcases hei with rfl | ⟨hz0, hz1⟩
  · repeat' first
      | ((with_reducible refine Nx.is_wp ?_); first | refine Nx.wo ?_ | refine Nx.zp (fun hc => ?_) (fun hc => ?_))
      | (refine Nx.zo ?_; first | refine Nx.opr rfl rfl ?_ | refine Nx.indexAddr_nat (A := D) (i := i) (sz := 1) rfl rfl rfl rfl rfl (by omega) (hd.isSome (by omega)) ?_ | refine Nx.load rfl rfl rfl (hrd _ _) ?_ | refine Nx.so ?_ | refine Nx.sb (fun bx => ?_) | refine Nx.sa (fun A2 c2 => ?_))
      | refine Nx.za ?_ | refine Nx.zr (fun hc => ?_) (fun hc => ?_)
      | refine Nx.zq ?_ | refine Nx.zu (fun hc => ?_) (fun hc => ?_)
      | refine Nx.zx ?_ | fail
    exact Nx.again (i + 1) hiv (by omega) ⟨rfl, rfl, rfl, trivial⟩ (by (exact Ent.auto))
  · repeat' first
      | ((with_reducible refine Nx.is_wp ?_); first | refine Nx.wo ?_ | refine Nx.zp (fun hc => ?_) (fun hc => ?_))
      | (refine Nx.zo ?_; first | refine Nx.opr rfl rfl ?_ | refine Nx.indexAddr_nat (A := D) (i := i) (sz := 1) rfl rfl rfl rfl rfl (by omega) (hd.isSome (by omega)) ?_ | refine Nx.load rfl rfl rfl (hrd _ _) ?_ | refine Nx.so ?_ | refine Nx.sb (fun bx => ?_) | refine Nx.sa (fun A2 c2 => ?_))
      | refine Nx.za ?_ | refine Nx.zr (fun hc => ?_) (fun hc => ?_)
      | refine Nx.zq ?_ | refine Nx.zu (fun hc => ?_) (fun hc => ?_)
      | refine Nx.zx ?_ | fail
    exact Nx.again (i + 1) hiv (by omega) ⟨rfl, rfl, rfl, trivial⟩ (by (exact Ent.auto))
structure RelsV (l : List Int) (rs : List Rel) : Prop where
  len : rs.length ≤ 24
  each : ∀ i, i < rs.length → RelV l (rs.getD i default) ∧ 0 ≤ (rs.getD i default).num ∧ (rs.getD i default).num < 24
  asc : ∀ i, i + 1 < rs.length → (rs.getD i default).num < (rs.getD (i + 1) default).num
def prevN (rs : List Rel) : Nat → Int
  | 0 => -1
  | i + 1 => (rs.getD i default).num
theorem RelsV.prev {l : List Int} {rs : List Rel} (h : RelsV l rs) : ∀ {i : Nat}, i < rs.length → prevN rs i < (rs.getD i default).num
  | 0, hi => by have := (h.each 0 hi).2.1; show -1 < _; omega
  | i + 1, hi => h.asc i hi
theorem getD_memR {l : List Rel} {k : Nat} (h : k < l.length) : l.getD k default ∈ l := by
  rw [List.getD_eq_getElem?_getD, List.getElem?_eq_getElem h]; exact List.getElem_mem _
set_option maxRecDepth 10000 in
theorem RECheck_spec (A As : Option Addr) (c cs : Nat) (l : List Int) (rs : List Rel) (I : PH) (hl : Ints I A c l) (hs : Sizes l) (hr : Rels I As cs rs) (hV : RelsV l rs) :
    FnSpec Tryz.prog 90 [.agg #[.slice A l.length c], .slice As rs.length cs] I [] (fun u R' => u = .int .i64 0 ∧ R' = []) := by
  have h24 := hV.len
  refine FnSpec.enterP Tryz.func90 rfl Tryz.ntmps90 rfl fun w F => ?_
  repeat' first
    | ((with_reducible refine Nx.is_wp ?_); first | refine Nx.wo ?_ | refine Nx.zp (fun hc => ?_) (fun hc => ?_))
    | (refine Nx.zo ?_; first | refine Nx.opr rfl rfl ?_ | refine Nx.callv rfl rfl rfl (by kernel_rfl) rfl (RCheck_spec _ _ _ _ hl hs) ?_ | refine Nx.so ?_ | refine Nx.sb (fun bx => ?_) | refine Nx.sa (fun A2 c2 => ?_))
    | refine Nx.za ?_ | refine Nx.zr (fun hc => ?_) (fun hc => ?_)
    | refine Nx.zq ?_ | refine Nx.zu (fun hc => ?_) (fun hc => ?_)
    | refine Nx.zx ?_ | fail
  revert bx; intro b2
  refine Nx.p_loop (σ := Nat) (fun i => [(2, .pointer (some ⟨b2, 0, none⟩)), (6, .int .i64 (prevN rs i)), (18, .slice As rs.length cs), (19, .int .i64 rs.length), (20, .int .i64 (i : Int))])
    (fun _ => [Blk b2 54 [.slice A l.length c], F]) (fun i => i ≤ rs.length) (fun i => rs.length - i) 0 rfl (Nat.zero_le _) ⟨rfl, rfl, rfl, rfl, rfl, trivial⟩ (by (exact Ent.auto)) ?_
  intro i hi
  have hi : i ≤ rs.length := hi
  by_cases hiv : i < rs.length
  case neg =>
    repeat' first
      | ((with_reducible refine Nx.is_wp ?_); first | refine Nx.wo ?_ | refine Nx.zp (fun hc => ?_) (fun hc => ?_))
      | (refine Nx.zo ?_; first | refine Nx.opr rfl rfl ?_ | refine Nx.so ?_ | refine Nx.sb (fun bx => ?_) | refine Nx.sa (fun A2 c2 => ?_))
      | refine Nx.za ?_ | refine Nx.zr (fun hc => ?_) (fun hc => ?_)
      | refine Nx.zq ?_ | refine Nx.zu (fun hc => ?_) (fun hc => ?_)
      | refine Nx.zx ?_ | fail
    exact Nx.ret_fn rfl [] ⟨rfl, rfl⟩ (by (exact Ent.auto))
  obtain ⟨hei, h0, h24'⟩ := hV.each i hiv
  have hpv := hV.prev hiv
  have hnx : (.int .i64 (rs.getD i default).num : Value) = .int .i64 (prevN rs (i + 1)) := rfl
  have hv := hr.view _ (getD_memR hiv)
  have hd := hr.val _ (getD_memR hiv)
  have hrds : ∀ (W : World) (R : List Res), Rds W I R ((ad As).add (i * 3)) (relC (rs.getD i default)) := fun W R => hr.outer.rds hiv
  generalize rs.getD i default = r at hei h0 h24' hpv hnx hv hd hrds
  obtain ⟨num, va, vc, v, D, cd, vs⟩ := r
  dsimp only at h0 h24' hpv hnx hv hd
  replace hrds : ∀ (W : World) (R : List Res), Rds W I R ((ad As).add (i * 3)) [.int .i64 num, .slice va v.length vc, .slice D vs.length cd] := hrds
  have hS := release_spec A va D c vc cd l vs v num (prevN rs i) I hl hs hv hd hei hpv h0 h24'
  generalize prevN rs i = pv at hS
  repeat' first
    | ((with_reducible refine Nx.is_wp ?_); first | refine Nx.wo ?_ | refine Nx.zp (fun hc => ?_) (fun hc => ?_))
    | (refine Nx.zo ?_; first | refine Nx.opr rfl rfl ?_ | refine Nx.indexAddr_nat rfl rfl rfl rfl rfl hiv (hr.outer.isSome (by omega) (by omega)) ?_ | refine Nx.loads rfl rfl rfl rfl (hrds _ _) rfl ?_ | refine Nx.callv rfl rfl rfl (by kernel_rfl) rfl hS ?_ | refine Nx.so ?_ | refine Nx.sb (fun bx => ?_) | refine Nx.sa (fun A2 c2 => ?_))
    | refine Nx.za ?_ | refine Nx.zr (fun hc => ?_) (fun hc => ?_)
    | refine Nx.zq ?_ | refine Nx.zu (fun hc => ?_) (fun hc => ?_)
    | refine Nx.zx ?_ | fail
  exact Nx.again (i + 1) hiv (by omega) ⟨rfl, hnx ▸ rfl, rfl, rfl, rfl, trivial⟩ (by (exact Ent.auto))
def cont (q : EqR) : List Int × Int := (q.1.2.2, q.2)
def toldK (l : List Int) (v : List Row) (vs : List Int) : Nat → List (List Int × Int)
  | 0 => []
  | j + 1 => toldK l v vs j ++ if vs.getD j default = -1 then [] else [(memK l v (j : Int) (prod l).toNat, vs.getD j default)]
def told (l : List Int) (r : Rel) : List (List Int × Int) := toldK l r.v r.val.2.2 r.val.2.2.length
abbrev eqsR (A : Option Addr) (c : Nat) (qs : List EqR) : List Res := [Vec 46 2 A qs.length c (qs.flatMap eqC), Stars (qs.map fun q => rowR q.1)]
theorem take_snocR {l : List Rel} {k : Nat} (h : k < l.length) : l.take (k + 1) = l.take k ++ [l.getD k default] := by
  rw [List.take_add_one, List.getElem?_eq_getElem h, List.getD_eq_getElem?_getD, List.getElem?_eq_getElem h]; rfl
set_option maxRecDepth 10000 in
theorem REAll_spec (A As : Option Addr) (c cs : Nat) (l : List Int) (rs : List Rel) (I : PH) (hl : Ints I A c l) (hs : Sizes l) (hr : Rels I As cs rs) (hV : RelsV l rs) :
    FnSpec Tryz.prog 37 [.agg #[.slice A l.length c], .slice As rs.length cs] I []
      (fun u R' => ∃ (A' : Option Addr) (c' : Nat) (qs : List EqR), u = .tuple #[.slice A' qs.length c', .int .i64 0] ∧ qs.map cont = rs.flatMap (told l) ∧ qs.length ≤ 24 * 48 ∧ R' = eqsR A' c' qs) := by
  have h24 := hV.len
  refine FnSpec.enterP Tryz.func37 rfl Tryz.ntmps37 rfl fun w F => ?_
  repeat' first
    | ((with_reducible refine Nx.is_wp ?_); first | refine Nx.wo ?_ | refine Nx.zp (fun hc => ?_) (fun hc => ?_))
    | (refine Nx.zo ?_; first | refine Nx.opr rfl rfl ?_ | refine Nx.callv rfl rfl rfl (by kernel_rfl) rfl (RECheck_spec _ _ _ _ _ _ _ hl hs hr hV) ?_ | refine Nx.so ?_ | refine Nx.sb (fun bx => ?_) | refine Nx.sa (fun A2 c2 => ?_))
    | refine Nx.za ?_ | refine Nx.zr (fun hc => ?_) (fun hc => ?_)
    | refine Nx.zq ?_ | refine Nx.zu (fun hc => ?_) (fun hc => ?_)
    | refine Nx.zx ?_ | fail
  revert bx; intro b2
  refine Nx.p_loop (σ := Nat × Option Addr × Nat × List EqR) (fun s => [(2, .pointer (some ⟨b2, 0, none⟩)), (7, .slice s.2.1 s.2.2.2.length s.2.2.1), (20, .slice As rs.length cs), (21, .int .i64 rs.length), (22, .int .i64 (s.1 : Int))])
    (fun s => Blk b2 54 [.slice A l.length c] :: (eqsR s.2.1 s.2.2.1 s.2.2.2 ++ [F])) (fun s => s.1 ≤ rs.length ∧ s.2.2.2.map cont = (rs.take s.1).flatMap (told l) ∧ s.2.2.2.length ≤ s.1 * 48) (fun s => rs.length - s.1) (0, none, 0, []) rfl ⟨Nat.zero_le _, rfl, Nat.le_refl _⟩ ⟨rfl, rfl, rfl, rfl, rfl, trivial⟩ ((Ent.stars_nil _).trans ((Ent.vec_nil 46 2 _).trans (by unfold eqsR; (exact Ent.auto)))) ?_
  rintro ⟨i, Ao, co, qs⟩ ⟨hi, hqs, hql⟩
  dsimp only at hi hqs hql ⊢
  by_cases hiv : i < rs.length
  case neg =>
    obtain rfl : i = rs.length := by omega
    rw [List.take_length] at hqs
    repeat' first
      | ((with_reducible refine Nx.is_wp ?_); first | refine Nx.wo ?_ | refine Nx.zp (fun hc => ?_) (fun hc => ?_))
      | (refine Nx.zo ?_; first | refine Nx.opr rfl rfl ?_ | refine Nx.so ?_ | refine Nx.sb (fun bx => ?_) | refine Nx.sa (fun A2 c2 => ?_))
      | refine Nx.za ?_ | refine Nx.zr (fun hc => ?_) (fun hc => ?_)
      | refine Nx.zq ?_ | refine Nx.zu (fun hc => ?_) (fun hc => ?_)
      | refine Nx.zx ?_ | fail
    exact Nx.ret_fn rfl [_, _] ⟨Ao, co, qs, rfl, hqs, by omega, rfl⟩ (by (exact Ent.auto))
  obtain ⟨hei, _, _⟩ := hV.each i hiv
  have htk := take_snocR hiv
  have hv := hr.view _ (getD_memR hiv)
  have hd := hr.val _ (getD_memR hiv)
  have hrds : ∀ (W : World) (R : List Res), Rds W I R ((ad As).add (i * 3)) (relC (rs.getD i default)) := fun W R => hr.outer.rds hiv
  generalize rs.getD i default = r at hei htk hv hd hrds
  obtain ⟨num, va, vc, v, D, cd, vs⟩ := r
  dsimp only at hv hd
  obtain ⟨hw, hlen, heach⟩ := hei
  dsimp only at hw hlen heach
  have hszs := hw.sizes hs
  have hvl := hd.len
  have hpc := hszs.cells
  have hpr := hszs.bound (k := (szs v).length) (Nat.le_refl _)
  rw [List.take_length] at hpr
  replace hrds : ∀ (W : World) (R : List Res), Rds W I R ((ad As).add (i * 3)) [.int .i64 num, .slice va v.length vc, .slice D vs.length cd] := hrds
  repeat' first
    | ((with_reducible refine Nx.is_wp ?_); first | refine Nx.wo ?_ | refine Nx.zp (fun hc => ?_) (fun hc => ?_))
    | (refine Nx.zo ?_; first | refine Nx.opr rfl rfl ?_ | refine Nx.indexAddr_nat rfl rfl rfl rfl rfl hiv (hr.outer.isSome (by omega) (by omega)) ?_ | refine Nx.loads rfl rfl rfl rfl (hrds _ _) rfl ?_ | refine Nx.so ?_ | refine Nx.sb (fun bx => ?_) | refine Nx.sa (fun A2 c2 => ?_))
    | refine Nx.za ?_ | refine Nx.zr (fun hc => ?_) (fun hc => ?_)
    | refine Nx.zq ?_ | refine Nx.zu (fun hc => ?_) (fun hc => ?_)
    | refine Nx.zx ?_ | fail
  revert bx; intro b9
  refine Nx.p_loop (σ := Nat × Option Addr × Nat × List EqR) (fun s => [(2, .pointer (some ⟨b2, 0, none⟩)), (7, .slice s.2.1 s.2.2.2.length s.2.2.1), (9, .pointer (some ⟨b9, 0, none⟩)), (20, .slice As rs.length cs), (21, .int .i64 rs.length), (22, .int .i64 (i : Int)), (27, .slice D vs.length cd), (28, .int .i64 vs.length), (29, .int .i64 (s.1 : Int))])
    (fun s => Blk b9 116 [.int .i64 num, .slice va v.length vc, .slice D vs.length cd] :: Blk b2 54 [.slice A l.length c] :: (eqsR s.2.1 s.2.2.1 s.2.2.2 ++ [F])) (fun s => s.1 ≤ vs.length ∧ s.2.2.2.map cont = (rs.take i).flatMap (told l) ++ toldK l v vs s.1 ∧ s.2.2.2.length ≤ i * 48 + s.1) (fun s => vs.length - s.1) (0, Ao, co, qs) rfl ⟨Nat.zero_le _, by rw [toldK, List.append_nil]; exact hqs, hql⟩ ⟨rfl, rfl, rfl, rfl, rfl, rfl, rfl, rfl, rfl, trivial⟩ (by (exact Ent.auto)) ?_
  rintro ⟨j, Ap, cp, ps⟩ ⟨hj, hps, hpl⟩
  dsimp only at hj hps hpl ⊢
  by_cases hjv : j < vs.length
  case neg =>
    obtain rfl : j = vs.length := by omega
    repeat' first
      | ((with_reducible refine Nx.is_wp ?_); first | refine Nx.wo ?_ | refine Nx.zp (fun hc => ?_) (fun hc => ?_))
      | (refine Nx.zo ?_; first | refine Nx.opr rfl rfl ?_ | refine Nx.so ?_ | refine Nx.sb (fun bx => ?_) | refine Nx.sa (fun A2 c2 => ?_))
      | refine Nx.za ?_ | refine Nx.zr (fun hc => ?_) (fun hc => ?_)
      | refine Nx.zq ?_ | refine Nx.zu (fun hc => ?_) (fun hc => ?_)
      | refine Nx.zx ?_ | fail
    exact Nx.again (i + 1, Ap, cp, ps) ⟨hiv, by dsimp only; rw [htk, List.flatMap_append, List.flatMap_cons, List.flatMap_nil, List.append_nil]; exact hps, by dsimp only; omega⟩ (by dsimp only; omega) ⟨rfl, rfl, rfl, rfl, rfl, trivial⟩ (by (exact Ent.auto))
  have hrd : ∀ (W : World) (R : List Res), Rd W I R ((ad D).add (j * 1)) (.int .i64 (vs.getD j default)) := fun W R => hd.rd hjv
  have hts : toldK l v vs (j + 1) = toldK l v vs j ++ if vs.getD j default = -1 then [] else [(memK l v (j : Int) (prod l).toNat, vs.getD j default)] := rfl
  have hM := RMembers_spec A va c vc l v (j : Int) I hl hs hv hw ⟨by omega, by omega⟩
  generalize memK l v (j : Int) (prod l).toNat = mm at hM hts
  generalize vs.getD j default = z at hrd hts
  by_cases hz : z = -1
  · subst hz
    rw [if_pos rfl, List.append_nil] at hts
    repeat' first
      | ((with_reducible refine Nx.is_wp ?_); first | refine Nx.wo ?_ | refine Nx.zp (fun hc => ?_) (fun hc => ?_))
      | (refine Nx.zo ?_; first | refine Nx.opr rfl rfl ?_ | refine Nx.indexAddr_nat (A := D) rfl rfl rfl rfl rfl hjv (hd.isSome (by omega)) ?_ | refine Nx.load rfl rfl rfl (hrd _ _) ?_ | refine Nx.so ?_ | refine Nx.sb (fun bx => ?_) | refine Nx.sa (fun A2 c2 => ?_))
      | refine Nx.za ?_ | refine Nx.zr (fun hc => ?_) (fun hc => ?_)
      | refine Nx.zq ?_ | refine Nx.zu (fun hc => ?_) (fun hc => ?_)
      | refine Nx.zx ?_ | fail
    exact Nx.again (j + 1, Ap, cp, ps) ⟨hjv, by rw [hts]; exact hps, by dsimp only; omega⟩ (by dsimp only; omega) ⟨rfl, rfl, rfl, rfl, rfl, rfl, rfl, rfl, rfl, trivial⟩ (by (exact Ent.auto))
  · rw [if_neg hz] at hts
    repeat' first
      | ((with_reducible refine Nx.is_wp ?_); first | refine Nx.wo ?_ | refine Nx.zp (fun hc => ?_) (fun hc => ?_))
      | (refine Nx.zo ?_; first | refine Nx.opr rfl rfl ?_ | refine Nx.indexAddr_nat (A := D) rfl rfl rfl rfl rfl hjv (hd.isSome (by omega)) ?_ | refine Nx.load rfl rfl rfl (hrd _ _) ?_ | refine Nx.loads rfl rfl rfl rfl (Rds.cut 0 1 rfl rfl) rfl ?_ | (refine Nx.call (Rpre := []) rfl rfl rfl (by kernel_rfl) rfl hM (Ent.refl _) ?_; rintro _ _ ⟨Am, cm, rfl, rfl⟩) | refine Nx.so ?_ | refine Nx.sb (fun bx => ?_) | refine Nx.sa (fun A2 c2 => ?_))
      | refine Nx.za ?_ | refine Nx.zr (fun hc => ?_) (fun hc => ?_)
      | refine Nx.zq ?_ | refine Nx.zu (fun hc => ?_) (fun hc => ?_)
      | refine Nx.zx ?_ | fail
    refine Nx.again (j + 1, A2, c2, ps ++ [((Am, cm, mm), z)]) ⟨hjv, by dsimp only; rw [hts, List.map_append, hps, List.append_assoc]; rfl, by dsimp only; rw [List.length_append]; show ps.length + 1 ≤ _; omega⟩ (by dsimp only; omega) ⟨rfl, by dsimp only; rw [List.length_append]; rfl, rfl, rfl, rfl, rfl, rfl, rfl, rfl, trivial⟩ ?_
    dsimp only
    refine Ent.trans (R' := rowR (Am, cm, mm) :: Stars (ps.map fun q => rowR q.1) :: [Vec 46 2 A2 (ps.length + 1) c2 (ps.flatMap eqC ++ eqC ((Am, cm, mm), z)), Blk b9 116 [.int .i64 num, .slice va v.length vc, .slice D vs.length cd], Blk b2 54 [.slice A l.length c], F]) (by unfold rowR eqC eqsR; (exact Ent.auto)) ?_
    refine Ent.trans (R' := Stars ((ps.map fun q => rowR q.1) ++ [rowR (Am, cm, mm)]) :: [Vec 46 2 A2 (ps.length + 1) c2 (ps.flatMap eqC ++ eqC ((Am, cm, mm), z)), Blk b9 116 [.int .i64 num, .slice va v.length vc, .slice D vs.length cd], Blk b2 54 [.slice A l.length c], F]) Ent.bundle ?_
    unfold eqsR
    rw [List.length_append, List.flatMap_append, List.map_append, List.flatMap_cons, List.flatMap_nil, List.append_nil]
    (exact Ent.auto)
end Go.Proofs.YtpcnapidlhpbkaaGreatDoor
namespace Go.Proofs.YtpcnapidlhpbkaaGreatDoor
open Go.Eng Go.Sol
attribute [local irreducible] opK wpList Code.wp Exit.then Exit.inBlock fnPost bodyPost Nx Calls Oper.wp Rd Rds Wr Ent Stars Blk Again Vec FnSpec wpMix QRun Stop Upto wpAt
theorem rels_of {As : Option Addr} {cs : Nat} {rs : List Rel} {m I' : PH} {m1 m2 : PH} (hm : PH.le m I') (h1 : Vec 116 3 As rs.length cs (rs.flatMap relC) m1) (hm1 : PH.le m1 m) (h2 : Stars (rs.map relR) m2) (hm2 : PH.le m2 m) : Rels I' As cs rs := by
  have hat : ∀ r ∈ rs, ∃ m3, PH.le m3 I' ∧ relR r m3 := fun r hr => by
    obtain ⟨k, hk, he⟩ := List.mem_iff_getElem.1 hr
    obtain ⟨m3, h3le, h3⟩ := Stars.get k (r := relR r) h2 (by rw [nthL_eq, List.getElem?_map, List.getElem?_eq_getElem hk, he]; rfl)
    exact ⟨m3, (h3le.trans hm2).trans hm, h3⟩
  refine ⟨Vec.sliceN (hm1.trans hm) h1 fun x _ => relC_len x, fun r hr => ?_, fun r hr => ?_⟩
  · obtain ⟨m3, h3, hr3⟩ := hat r hr
    obtain ⟨m4, h4le, h4⟩ := Stars.get 0 hr3 rfl
    exact ViewR.rows (h4le.trans h3) h4
  · obtain ⟨m3, h3, hr3⟩ := hat r hr
    obtain ⟨m4, h4le, h4⟩ := Stars.get 1 hr3 rfl
    exact Vec.sliceOf (h4le.trans h3) h4
abbrev tabOk (s t : List Int) (most : Int) : Prop := t.length = (prod s).toNat ∧ ∀ j, j < t.length → 0 ≤ t.getD j default ∧ t.getD j default ≤ most
abbrev toldR (B : Option Addr) (c' : Nat) (s : List Int) (At : Option Addr) (ct : Nat) (t : List Int) (As : Option Addr) (ca : Nat) (rs : List Rel) : List Res := [iR B c' s, iR At ct t, Vec 116 3 As rs.length ca (rs.flatMap relC), Stars (rs.map relR)]
theorem sumAt_bd2 {p : Nat → Int} {t : List Int} {k M : Int} (ht : ∀ j, j < t.length → 0 ≤ t.getD j default ∧ t.getD j default ≤ M) (hM : 0 ≤ M) : ∀ n, n ≤ t.length → 0 ≤ sumAt p t k n ∧ sumAt p t k n ≤ n * M
  | 0, _ => by simp [sumAt]
  | n + 1, h => by
    have ih := sumAt_bd2 (p := p) (k := k) ht hM n (by omega)
    have h1 := ht n (by omega)
    rw [sumAt]
    have e : ((n + 1 : Nat) : Int) * M = n * M + M := by rw [Int.natCast_succ, Int.add_mul, Int.one_mul]
    split <;> omega
theorem relsV_of {l t : List Int} {rs : List Rel} {most : Int} (hs : Sizes l) (hT : tabOk l t most) (h0 : 0 ≤ most) (hm : most ≤ 1000) (h : RelsOk l t rs) (hn : rs.length ≤ 24) : RelsV l rs := by
  have hc := hs.cells
  refine ⟨hn, fun i hi => ?_, fun i hi => ?_⟩
  · obtain ⟨⟨h1, h2, h3⟩, h4⟩ := h.each i hi
    refine ⟨⟨h1, h2, fun j hj => ?_⟩, by omega, by omega⟩
    rcases h3 j hj with h5 | h5
    · exact .inl h5
    · have hb := sumAt_bd2 (p := pubOf l (rs.getD i default).v) (k := (j : Int)) hT.2 h0 t.length (Nat.le_refl _)
      have hlt : (t.length : Int) ≤ 48 := by have := hT.1; omega
      have h6 : (t.length : Int) * most ≤ 48 * 1000 := Int.mul_le_mul hlt hm h0 (by omega)
      rw [h5]
      right; omega
  · have h1 := (h.each i (by omega)).2
    have h2 := (h.each (i + 1) hi).2
    omega
theorem mem_toldK {l : List Int} {v : List Row} {vs : List Int} {x : List Int × Int} : ∀ {n : Nat}, x ∈ toldK l v vs n ↔ ∃ j, j < n ∧ vs.getD j default ≠ -1 ∧ x = (memK l v (j : Int) (prod l).toNat, vs.getD j default)
  | 0 => by simp [toldK]
  | n + 1 => by
    rw [toldK, List.mem_append, mem_toldK]
    constructor
    · rintro (⟨j, h1, h2, h3⟩ | h)
      · exact ⟨j, by omega, h2, h3⟩
      · by_cases hz : vs.getD n default = -1
        · rw [if_pos hz] at h; cases h
        · rw [if_neg hz, List.mem_singleton] at h
          exact ⟨n, by omega, hz, h⟩
    · rintro ⟨j, h1, h2, h3⟩
      rcases Nat.lt_or_ge j n with hj | hj
      · exact .inl ⟨j, hj, h2, h3⟩
      · obtain rfl : j = n := by omega
        right
        rw [if_neg h2, List.mem_singleton]
        exact h3
theorem told_eq {l t : List Int} {rs : List Rel} {most : Int} (hs : Sizes l) (hT : tabOk l t most) (h0 : 0 ≤ most) (hm : most ≤ 1000) (h : RelsOk l t rs) (hn : rs.length ≤ 24) {q : EqR} (hq : cont q ∈ rs.flatMap (told l)) : GoodE (prod l).toNat q ∧ sumC t (eqn q).1 = q.2 := by
  rw [List.mem_flatMap] at hq
  obtain ⟨r, hr, hq⟩ := hq
  obtain ⟨i, hi, he⟩ := List.mem_iff_getElem.1 hr
  have hri : rs.getD i default = r := by rw [List.getD_eq_getElem?_getD, List.getElem?_eq_getElem hi, he]; rfl
  have hV := ((relsV_of hs hT h0 hm h hn).each i hi).1
  have hO := (h.each i hi).1
  rw [hri] at hV hO
  unfold told at hq
  obtain ⟨j, hj, hne, hc⟩ := mem_toldK.1 hq
  obtain ⟨⟨a, c, m⟩, z⟩ := q
  unfold cont at hc
  obtain ⟨rfl, rfl⟩ := Prod.mk.inj hc
  have hP := hV.len
  have hvj := hV.each j hj
  have hoj := hO.each j hj
  have hszs := hV.view.sizes hs
  have hk : 0 ≤ (j : Int) ∧ (j : Int) < prod (szs r.v) := ⟨by omega, by omega⟩
  refine ⟨memK_good hs hV.view hk (by omega), ?_⟩
  show sumC t ((memK l r.v (j : Int) (prod l).toNat).map Int.toNat) = r.val.2.2.getD j default
  rw [memK_sum, ← hT.1]
  rcases hoj with h5 | h5
  · exact absurd h5 hne
  · exact h5.symm
theorem min_take {l : List EqR} {k : Nat} (h : k < l.length) : l.take (min (k + 1) 8) = if k < 8 then l.take (min k 8) ++ [l.getD k default] else l.take (min k 8) := by
  split
  · rename_i hk
    rw [show min (k + 1) 8 = k + 1 by omega, show min k 8 = k by omega, take_snocQ h]
  · rename_i hk
    rw [show min (k + 1) 8 = min k 8 by omega]
structure EqsOk (N : Nat) (t : List Int) (most : Int) (qs : List EqR) : Prop where
  n : 1 ≤ N ∧ N ≤ 48
  len : t.length = N
  tab : ∀ j, j < t.length → 0 ≤ t.getD j default ∧ t.getD j default ≤ most
  few : qs.length ≤ 8
  good : ∀ q ∈ qs, GoodE N q
  sum : ∀ q ∈ qs, sumC t (eqn q).1 = q.2
end Go.Proofs.YtpcnapidlhpbkaaGreatDoor
namespace Go.Proofs.YtpcnapidlhpbkaaGreatDoor
open Go.Eng Go.Sol
attribute [local irreducible] opK wpList Code.wp Exit.then Exit.inBlock fnPost bodyPost Nx Calls Oper.wp Rd Rds Wr Ent Stars Blk Again Vec FnSpec wpMix QRun Stop Upto wpAt
set_option maxRecDepth 10000 in
theorem Space_spec8 (b : Nat) (A : Option Addr) (c : Nat) (l : List Int) (k : Nat) (I : PH) (hl : SliceOf (fun x : Int => Value.int .u8 x) I A c l) (hx : ∀ x ∈ l, 0 ≤ x ∧ x < 256) (hk : k ≤ l.length) :
    FnSpec Tryz.prog 62 [.pointer (some ⟨b, 0, none⟩)] I [Blk b 83 [.slice A l.length c, .int .i64 (k : Int)]]
      (fun v R' => ∃ (B : Option Addr) (c' : Nat) (s : List Int) (k' : Nat), v = .agg #[.slice B s.length c'] ∧ (Sizes s ∧ prod s ≤ 8) ∧ k' ≤ l.length ∧ R' = [Vec 3 1 B s.length c' (s.map (Value.int .i64)), Blk b 83 [.slice A l.length c, .int .i64 (k' : Int)]]) := by
  refine FnSpec.enterP Tryz.func62 rfl Tryz.ntmps62 rfl fun w F => ?_
  repeat' first
    | ((with_reducible refine Nx.is_wp ?_); first | refine Nx.wo ?_ | refine Nx.zp (fun hc => ?_) (fun hc => ?_))
    | (refine Nx.zo ?_; first | refine Nx.opr rfl rfl ?_ | refine Nx.so ?_ | refine Nx.sb (fun bx => ?_) | refine Nx.sa (fun A2 c2 => ?_))
    | refine Nx.za ?_ | refine Nx.zr (fun hc => ?_) (fun hc => ?_)
    | refine Nx.zq ?_ | refine Nx.zu (fun hc => ?_) (fun hc => ?_)
    | refine Nx.zx ?_ | fail
  refine Nx.pull 11 rfl ?_
  refine Nx.at_op rfl rfl ?_
  refine Nx.call rfl rfl rfl (by kernel_rfl) rfl (Next_spec b A c l k 9 I hl hx hk (by omega)) (Ent.refl _) ?_
  rintro v R' ⟨r, k', rfl, hr, hk', rfl⟩
  have hr9 : r = 0 ∨ r = 1 ∨ r = 2 ∨ r = 3 ∨ r = 4 ∨ r = 5 ∨ r = 6 ∨ r = 7 ∨ r = 8 := by omega
  rcases hr9 with rfl | rfl | rfl | rfl | rfl | rfl | rfl | rfl | rfl
  all_goals repeat' first
              | ((with_reducible refine Nx.is_wp ?_); first | refine Nx.wo ?_ | refine Nx.zp (fun hc => ?_) (fun hc => ?_))
              | (refine Nx.zo ?_; first | refine Nx.opr rfl rfl ?_ | refine Nx.indexAddr rfl rfl rfl rfl rfl (by decide) (by decide) rfl ?_ | refine Nx.so ?_ | refine Nx.sb (fun bx => ?_) | refine Nx.sa (fun A2 c2 => ?_))
              | refine Nx.za ?_ | refine Nx.zr (fun hc => ?_) (fun hc => ?_)
              | refine Nx.zq ?_ | refine Nx.zu (fun hc => ?_) (fun hc => ?_)
              | refine Nx.zx ?_ | fail
  all_goals refine Nx.blk_vec 0 0 1 rfl rfl (by omega) ?_
  all_goals first
    | (refine Nx.pull 11 rfl ?_; refine Nx.at_op rfl rfl ?_; refine Nx.append_lit 0 rfl rfl rfl rfl (by kernel_rfl) rfl rfl rfl rfl (by omega) (fun A2 c2 => ?_))
    | (refine Nx.pull 10 rfl ?_; refine Nx.at_op rfl rfl ?_; refine Nx.append_lit 0 rfl rfl rfl rfl (by kernel_rfl) rfl rfl rfl rfl (by omega) (fun A2 c2 => ?_))
    | (refine Nx.pull 9 rfl ?_; refine Nx.at_op rfl rfl ?_; refine Nx.append_lit 0 rfl rfl rfl rfl (by kernel_rfl) rfl rfl rfl rfl (by omega) (fun A2 c2 => ?_))
    | (refine Nx.pull 8 rfl ?_; refine Nx.at_op rfl rfl ?_; refine Nx.append_lit 0 rfl rfl rfl rfl (by kernel_rfl) rfl rfl rfl rfl (by omega) (fun A2 c2 => ?_))
    | (refine Nx.pull 7 rfl ?_; refine Nx.at_op rfl rfl ?_; refine Nx.append_lit 0 rfl rfl rfl rfl (by kernel_rfl) rfl rfl rfl rfl (by omega) (fun A2 c2 => ?_))
    | (refine Nx.pull 6 rfl ?_; refine Nx.at_op rfl rfl ?_; refine Nx.append_lit 0 rfl rfl rfl rfl (by kernel_rfl) rfl rfl rfl rfl (by omega) (fun A2 c2 => ?_))
    | (refine Nx.pull 5 rfl ?_; refine Nx.at_op rfl rfl ?_; refine Nx.append_lit 0 rfl rfl rfl rfl (by kernel_rfl) rfl rfl rfl rfl (by omega) (fun A2 c2 => ?_))
    | (refine Nx.pull 4 rfl ?_; refine Nx.at_op rfl rfl ?_; refine Nx.append_lit 0 rfl rfl rfl rfl (by kernel_rfl) rfl rfl rfl rfl (by omega) (fun A2 c2 => ?_))
    | (refine Nx.pull 3 rfl ?_; refine Nx.at_op rfl rfl ?_; refine Nx.append_lit 0 rfl rfl rfl rfl (by kernel_rfl) rfl rfl rfl rfl (by omega) (fun A2 c2 => ?_))
  all_goals refine Nx.pull 11 rfl ?_
  all_goals repeat' first
              | ((with_reducible refine Nx.is_wp ?_); first | refine Nx.wo ?_ | refine Nx.zp (fun hc => ?_) (fun hc => ?_))
              | (refine Nx.zo ?_; first | refine Nx.opr rfl rfl ?_ | refine Nx.so ?_ | refine Nx.sb (fun bx => ?_) | refine Nx.sa (fun A2 c2 => ?_))
              | refine Nx.za ?_ | refine Nx.zr (fun hc => ?_) (fun hc => ?_)
              | refine Nx.zq ?_ | refine Nx.zu (fun hc => ?_) (fun hc => ?_)
              | refine Nx.zx ?_ | fail
  all_goals first
    | (refine Nx.ret_cell 0 rfl rfl rfl rfl rfl rfl [Vec 3 1 _ (0 + 1) _ ([] ++ [.int .i64 2]), _] ⟨_, _, [2], k', rfl, ⟨⟨by decide, by decide, by decide⟩, by decide⟩, hk', rfl⟩ ?_; refine Ent.pick 1 rfl ?_)
    | (refine Nx.ret_cell 0 rfl rfl rfl rfl rfl rfl [Vec 3 1 _ (0 + 1) _ ([] ++ [.int .i64 3]), _] ⟨_, _, [3], k', rfl, ⟨⟨by decide, by decide, by decide⟩, by decide⟩, hk', rfl⟩ ?_; refine Ent.pick 1 rfl ?_)
    | (refine Nx.ret_cell 0 rfl rfl rfl rfl rfl rfl [Vec 3 1 _ (0 + 2) _ ([] ++ [.int .i64 2, .int .i64 2]), _] ⟨_, _, [2, 2], k', rfl, ⟨⟨by decide, by decide, by decide⟩, by decide⟩, hk', rfl⟩ ?_; refine Ent.pick 1 rfl ?_)
    | (refine Nx.ret_cell 0 rfl rfl rfl rfl rfl rfl [Vec 3 1 _ (0 + 2) _ ([] ++ [.int .i64 2, .int .i64 3]), _] ⟨_, _, [2, 3], k', rfl, ⟨⟨by decide, by decide, by decide⟩, by decide⟩, hk', rfl⟩ ?_; refine Ent.pick 1 rfl ?_)
    | (refine Nx.ret_cell 0 rfl rfl rfl rfl rfl rfl [Vec 3 1 _ (0 + 1) _ ([] ++ [.int .i64 4]), _] ⟨_, _, [4], k', rfl, ⟨⟨by decide, by decide, by decide⟩, by decide⟩, hk', rfl⟩ ?_; refine Ent.pick 1 rfl ?_)
    | (refine Nx.ret_cell 0 rfl rfl rfl rfl rfl rfl [Vec 3 1 _ (0 + 3) _ ([] ++ [.int .i64 2, .int .i64 2, .int .i64 2]), _] ⟨_, _, [2, 2, 2], k', rfl, ⟨⟨by decide, by decide, by decide⟩, by decide⟩, hk', rfl⟩ ?_; refine Ent.pick 1 rfl ?_)
    | (refine Nx.ret_cell 0 rfl rfl rfl rfl rfl rfl [Vec 3 1 _ (0 + 2) _ ([] ++ [.int .i64 3, .int .i64 2]), _] ⟨_, _, [3, 2], k', rfl, ⟨⟨by decide, by decide, by decide⟩, by decide⟩, hk', rfl⟩ ?_; refine Ent.pick 1 rfl ?_)
    | (refine Nx.ret_cell 0 rfl rfl rfl rfl rfl rfl [Vec 3 1 _ (0 + 1) _ ([] ++ [.int .i64 6]), _] ⟨_, _, [6], k', rfl, ⟨⟨by decide, by decide, by decide⟩, by decide⟩, hk', rfl⟩ ?_; refine Ent.pick 1 rfl ?_)
    | (refine Nx.ret_cell 0 rfl rfl rfl rfl rfl rfl [Vec 3 1 _ (0 + 2) _ ([] ++ [.int .i64 1, .int .i64 3]), _] ⟨_, _, [1, 3], k', rfl, ⟨⟨by decide, by decide, by decide⟩, by decide⟩, hk', rfl⟩ ?_; refine Ent.pick 1 rfl ?_)
  all_goals (exact Ent.auto)
theorem Space_made8 (b : Nat) (A : Option Addr) (c : Nat) (L : List Int) (k : Nat) (I : PH) (hL : CodesOk I A c L) (hk : k ≤ L.length) :
    FnSpec Tryz.prog 62 [.pointer (some ⟨b, 0, none⟩)] I [CodesR b A c L k]
      (fun v R' => ∃ (B : Option Addr) (c' : Nat) (s : List Int) (k' : Nat), v = .agg #[.slice B s.length c'] ∧ (Sizes s ∧ prod s ≤ 8) ∧ k' ≤ L.length ∧ R' = [Vec 3 1 B s.length c' (s.map (Value.int .i64)), CodesR b A c L k']) := Space_spec8 b A c L k I hL.sl hL.each hk
set_option maxRecDepth 10000 in
theorem Told_made8 (b : Nat) (A : Option Addr) (c : Nat) (L : List Int) (k most n : Nat) (I : PH) (hL : CodesOk I A c L) (hk : k ≤ L.length) (hm : most ≤ 1000) (hn : n ≤ 1000) :
    FnSpec Tryz.prog 20 [.pointer (some ⟨b, 0, none⟩), .int .i64 (most : Int), .int .i64 (n : Int)] I [CodesR b A c L k]
      (fun u R' => ∃ (B : Option Addr) (c' : Nat) (s : List Int) (At : Option Addr) (ct : Nat) (t : List Int) (As : Option Addr) (ca : Nat) (rs : List Rel) (k' : Nat), u = .tuple #[.agg #[.slice B s.length c'], .slice At t.length ct, .slice As rs.length ca] ∧ (Sizes s ∧ prod s ≤ 8) ∧ tabOk s t most ∧ rs.length ≤ n ∧ RelsOk s t rs ∧ k' ≤ L.length ∧ R' = toldR B c' s At ct t As ca rs ++ [CodesR b A c L k']) := by
  refine FnSpec.enterP Tryz.func20 rfl Tryz.ntmps20 rfl fun w F => ?_
  repeat' first
    | ((with_reducible refine Nx.is_wp ?_); first | refine Nx.wo ?_ | refine Nx.zp (fun hc => ?_) (fun hc => ?_))
    | (refine Nx.zo ?_; first | refine Nx.opr rfl rfl ?_ | refine Nx.so ?_ | refine Nx.sb (fun bx => ?_) | refine Nx.sa (fun A2 c2 => ?_))
    | refine Nx.za ?_ | refine Nx.zr (fun hc => ?_) (fun hc => ?_)
    | refine Nx.zq ?_ | refine Nx.zu (fun hc => ?_) (fun hc => ?_)
    | refine Nx.zx ?_ | fail
  revert bx; intro b6
  refine Nx.at_op rfl rfl ?_
  refine Nx.call rfl rfl rfl (by kernel_rfl) rfl (Space_made8 b A c L k I hL hk) (by (exact Ent.auto)) ?_
  rintro _ _ ⟨B, c', s, k1, rfl, ⟨hs, hs8⟩, hk1, rfl⟩
  repeat' first
    | ((with_reducible refine Nx.is_wp ?_); first | refine Nx.wo ?_ | refine Nx.zp (fun hc => ?_) (fun hc => ?_))
    | (refine Nx.zo ?_; first | refine Nx.opr rfl rfl ?_ | refine Nx.so ?_ | refine Nx.sb (fun bx => ?_) | refine Nx.sa (fun A2 c2 => ?_))
    | refine Nx.za ?_ | refine Nx.zr (fun hc => ?_) (fun hc => ?_)
    | refine Nx.zq ?_ | refine Nx.zu (fun hc => ?_) (fun hc => ?_)
    | refine Nx.zx ?_ | fail
  revert bx; intro b9
  refine Nx.at_op rfl rfl ?_
  refine Nx.call rfl rfl rfl (by kernel_rfl) rfl (FnSpec.keep [iR B c' s] fun m I' hle hm' hv => Cells_spec b A B c c' L s k1 most I' (hL.mono hle) hk1 (by obtain ⟨m1, hm1, h1⟩ := Stars.get 0 hv rfl; exact Vec.sliceOf (hm1.trans hm') h1) hs (by omega)) (by (exact Ent.auto)) ?_
  rintro _ _ ⟨_, ⟨bt, t, k2, rfl, htl, hte, hk2, rfl⟩, rfl⟩
  have hT : Table s t := ⟨htl, fun j hj => by have := hte j hj; omega⟩
  repeat' first
    | ((with_reducible refine Nx.is_wp ?_); first | refine Nx.wo ?_ | refine Nx.p_drawF (id := 3) rfl [0, 1, 2, 3, 4, 5, 6, 7, 8, 9] [6, 7] [] _ rfl rfl (by kernel_rfl) (by kernel_rfl) rfl PanicOk.auto ((Ent.eraseK 4 _).trans (Ent.eraseK 2 _)) ?_ | refine Nx.zp (fun hc => ?_) (fun hc => ?_))
    | (refine Nx.zo ?_; first | refine Nx.opr rfl rfl ?_ | (refine Nx.call rfl rfl rfl (by kernel_rfl) rfl (FnSpec.keep [iR B c' s, iR (some ⟨bt, 0, none⟩) t.length t] fun m I' hle hm' hv => Releases_made b A B (some ⟨bt, 0, none⟩) c c' t.length L s t k2 n I' (hL.mono hle) hk2 (by obtain ⟨m1, hm1, h1⟩ := Stars.get 0 hv rfl; exact Vec.sliceOf (hm1.trans hm') h1) hs (by obtain ⟨m1, hm1, h1⟩ := Stars.get 1 hv rfl; exact Vec.sliceOf (hm1.trans hm') h1) hT hn) (by (exact Ent.auto)) ?_; rintro _ _ ⟨_, ⟨As, ca, rs, k3, rfl, hrn, hro, hk3, rfl⟩, rfl⟩) | refine Nx.so ?_ | refine Nx.sb (fun bx => ?_) | refine Nx.sa (fun A2 c2 => ?_))
    | refine Nx.za ?_ | refine Nx.zr (fun hc => ?_) (fun hc => ?_)
    | refine Nx.zq ?_ | refine Nx.zu (fun hc => ?_) (fun hc => ?_)
    | refine Nx.zx ?_ | fail
  exact Nx.ret3 rfl (ROne.cell 0 rfl rfl rfl rfl rfl) (ROne.tmp rfl) (ROne.tmp rfl) [_, _, _, _, _] ⟨B, c', s, _, _, t, As, ca, rs, k3, rfl, ⟨hs, hs8⟩, ⟨htl, hte⟩, hrn, hro, hk3, rfl⟩ (by (exact Ent.auto))
set_option maxRecDepth 10000 in
theorem Equations_made8 (b : Nat) (A : Option Addr) (c : Nat) (L : List Int) (k most : Nat) (I : PH) (hL : CodesOk I A c L) (hk : k ≤ L.length) (hm : most ≤ 1000) :
    FnSpec Tryz.prog 11 [.pointer (some ⟨b, 0, none⟩), .int .i64 (most : Int)] I [CodesR b A c L k]
      (fun u R' => ∃ (N : Nat) (At : Option Addr) (ct : Nat) (t : List Int) (A' : Option Addr) (c' : Nat) (qs : List EqR) (k' : Nat), u = .tuple #[.int .i64 (N : Int), .slice At t.length ct, .slice A' qs.length c'] ∧ (EqsOk N t most qs ∧ N ≤ 8) ∧ k' ≤ L.length ∧ R' = iR At ct t :: (eqsR A' c' qs ++ [CodesR b A c L k'])) := by
  refine FnSpec.enterP Tryz.func11 rfl Tryz.ntmps11 rfl fun w F => ?_
  repeat' first
    | ((with_reducible refine Nx.is_wp ?_); first | refine Nx.wo ?_ | refine Nx.zp (fun hc => ?_) (fun hc => ?_))
    | (refine Nx.zo ?_; first | refine Nx.opr rfl rfl ?_ | (refine Nx.call rfl rfl rfl (by kernel_rfl) rfl (Told_made8 b A c L k most 3 I hL hk hm (by omega)) (by (exact Ent.auto)) ?_; rintro _ _ ⟨B, c', s, At, ct, t, As, ca, rs, k3, rfl, ⟨hs, hs8⟩, hT, hrn, hro, hk3, rfl⟩) | (refine Nx.call rfl rfl rfl (by kernel_rfl) rfl (FnSpec.keep [iR B c' s, Vec 116 3 As rs.length ca (rs.flatMap relC), Stars (rs.map relR)] fun m I' hle hm' hv => REAll_spec B As c' ca s rs I' (by obtain ⟨m1, hm1, h1⟩ := Stars.get 0 hv rfl; exact Vec.sliceOf (hm1.trans hm') h1) hs (by obtain ⟨m1, hm1, h1⟩ := Stars.get 1 hv rfl; obtain ⟨m2, hm2, h2⟩ := Stars.get 2 hv rfl; exact rels_of hm' h1 hm1 h2 hm2) (relsV_of hs hT (by omega) (by omega) hro (by omega))) (by (exact Ent.auto)) ?_; rintro _ _ ⟨_, ⟨Ao, co, ps, rfl, hps, hpl, rfl⟩, rfl⟩) | (refine Nx.call rfl rfl rfl (by kernel_rfl) rfl (FnSpec.keep [iR B c' s] fun m I' hle hm' hv => RCount_spec B c' s I' (by obtain ⟨m1, hm1, h1⟩ := Stars.get 0 hv rfl; exact Vec.sliceOf (hm1.trans hm') h1) hs) (by (exact Ent.auto)) ?_; rintro _ _ ⟨_, ⟨rfl, rfl⟩, rfl⟩) | refine Nx.so ?_ | refine Nx.sb (fun bx => ?_) | refine Nx.sa (fun A2 c2 => ?_))
    | refine Nx.za ?_ | refine Nx.zr (fun hc => ?_) (fun hc => ?_)
    | refine Nx.zq ?_ | refine Nx.zu (fun hc => ?_) (fun hc => ?_)
    | refine Nx.zx ?_ | fail
  have hall : ∀ q ∈ ps, GoodE (prod s).toNat q ∧ sumC t (eqn q).1 = q.2 := fun q hq => told_eq hs hT (by omega) (by omega) hro (by omega) (hps ▸ List.mem_map.2 ⟨q, hq, rfl⟩)
  have hpr := hs.bound (k := s.length) (Nat.le_refl _)
  rw [List.take_length] at hpr
  have hpc := hs.cells
  refine Nx.p_loop (σ := Nat × Option Addr × Nat) (fun z => [(8, .slice At t.length ct), (10, .slice Ao ps.length co), (12, .int .i64 (prod s)), (13, .slice z.2.1 (ps.take (min z.1 8)).length z.2.2), (30, .slice Ao ps.length co), (31, .int .i64 ps.length), (32, .int .i64 (z.1 : Int))])
    (fun z => Vec 46 2 Ao ps.length co (ps.flatMap eqC) :: Vec 46 2 z.2.1 (ps.take (min z.1 8)).length z.2.2 ((ps.take (min z.1 8)).flatMap eqC) :: Stars (ps.map fun q => rowR q.1) :: iR At ct t :: [CodesR b A c L k3, F]) (fun z => z.1 ≤ ps.length) (fun z => ps.length - z.1) (0, none, 0) rfl (Nat.zero_le _) ⟨rfl, rfl, rfl, rfl, rfl, rfl, rfl, trivial⟩ ((Ent.vec_nil 46 2 _).trans (by unfold eqsR toldR; (exact Ent.auto))) ?_
  rintro ⟨i, Ap, cp⟩ hi
  dsimp only at hi ⊢
  by_cases hiv : i < ps.length
  case neg =>
    obtain rfl : i = ps.length := by omega
    repeat' first
      | ((with_reducible refine Nx.is_wp ?_); first | refine Nx.wo ?_ | refine Nx.zp (fun hc => ?_) (fun hc => ?_))
      | (refine Nx.zo ?_; first | refine Nx.opr rfl rfl ?_ | refine Nx.so ?_ | refine Nx.sb (fun bx => ?_) | refine Nx.sa (fun A2 c2 => ?_))
      | refine Nx.za ?_ | refine Nx.zr (fun hc => ?_) (fun hc => ?_)
      | refine Nx.zq ?_ | refine Nx.zu (fun hc => ?_) (fun hc => ?_)
      | refine Nx.zx ?_ | fail
    refine Nx.ret_fn rfl [iR At ct t, Vec 46 2 Ap (ps.take (min ps.length 8)).length cp ((ps.take (min ps.length 8)).flatMap eqC), Stars ((ps.take (min ps.length 8)).map fun q => rowR q.1), CodesR b A c L k3] ⟨(prod s).toNat, At, ct, t, Ap, cp, ps.take (min ps.length 8), k3, by rw [show (((prod s).toNat : Nat) : Int) = prod s by omega], ⟨⟨by omega, hT.1, hT.2, by rw [List.length_take]; omega, fun q hq => (hall q (List.mem_of_mem_take hq)).1, fun q hq => (hall q (List.mem_of_mem_take hq)).2⟩, by omega⟩, hk3, rfl⟩ ?_
    refine Ent.trans (R' := Stars (ps.map fun q => rowR q.1) :: [Vec 46 2 Ap (ps.take (min ps.length 8)).length cp ((ps.take (min ps.length 8)).flatMap eqC), iR At ct t, CodesR b A c L k3, F]) (by (exact Ent.auto)) ?_
    have hsp : (ps.map fun q => rowR q.1) = ((ps.take (min ps.length 8)).map fun q => rowR q.1) ++ ((ps.drop (min ps.length 8)).map fun q => rowR q.1) := by rw [← List.map_append, List.take_append_drop]
    rw [hsp]
    exact Ent.stars_pre.trans (by (exact Ent.auto))
  have hmt := min_take hiv
  by_cases h8 : i < 8
  · rw [if_pos h8] at hmt
    have hln : (ps.take (min i 8)).length = i := by rw [List.length_take]; omega
    generalize ps.take (min i 8) = out at hmt hln
    subst hln
    have hcl : eqC (ps.getD out.length default) = [.slice (ps.getD out.length default).1.1 (ps.getD out.length default).1.2.2.length (ps.getD out.length default).1.2.1, .int .i64 (ps.getD out.length default).2] := rfl
    refine Nx.vec_fact fun _ _ _ hAo => ?_
    repeat' first
      | ((with_reducible refine Nx.is_wp ?_); first | refine Nx.wo ?_ | refine Nx.zp (fun hc => ?_) (fun hc => ?_))
      | (refine Nx.zo ?_; first | refine Nx.opr rfl rfl ?_ | refine Nx.indexAddr_nat (A := Ao) (sz := 2) rfl rfl rfl rfl rfl hiv (hAo (by omega)) ?_ | refine Nx.loads rfl rfl rfl rfl (Rds.vecN 0 eqC_len rfl hiv) rfl ?_ | refine Nx.so ?_ | refine Nx.sb (fun bx => ?_) | refine Nx.sa (fun A2 c2 => ?_))
      | refine Nx.za ?_ | refine Nx.zr (fun hc => ?_) (fun hc => ?_)
      | refine Nx.zq ?_ | refine Nx.zu (fun hc => ?_) (fun hc => ?_)
      | refine Nx.zx ?_ | fail
    refine Nx.again (out.length + 1, A2, c2) hiv (by dsimp only; omega) ⟨rfl, rfl, rfl, by dsimp only; rw [hmt, List.length_append]; rfl, rfl, rfl, rfl, trivial⟩ ?_
    dsimp only
    rw [hmt, List.length_append, List.flatMap_append, List.flatMap_cons, List.flatMap_nil, List.append_nil]
    (exact Ent.auto)
  · rw [if_neg h8] at hmt
    have hln : (ps.take (min i 8)).length = 8 := by rw [List.length_take]; omega
    rw [← hmt] at hln
    rw [← hmt]
    generalize hout : ps.take (min (i + 1) 8) = out at hln
    repeat' first
      | ((with_reducible refine Nx.is_wp ?_); first | refine Nx.wo ?_ | refine Nx.zp (fun hc => ?_) (fun hc => ?_))
      | (refine Nx.zo ?_; first | refine Nx.opr rfl rfl ?_ | refine Nx.so ?_ | refine Nx.sb (fun bx => ?_) | refine Nx.sa (fun A2 c2 => ?_))
      | refine Nx.za ?_ | refine Nx.zr (fun hc => ?_) (fun hc => ?_)
      | refine Nx.zq ?_ | refine Nx.zu (fun hc => ?_) (fun hc => ?_)
      | refine Nx.zx ?_ | fail
    exact Nx.again (i + 1, Ap, cp) hiv (by dsimp only; omega) ⟨rfl, rfl, rfl, by dsimp only; rw [hout]; rfl, rfl, rfl, rfl, trivial⟩ (by dsimp only; rw [hout]; (exact Ent.auto))
end Go.Proofs.YtpcnapidlhpbkaaGreatDoor
namespace Go.Proofs.YtpcnapidlhpbkaaGreatDoor
open Go.Eng Go.Sol
attribute [local irreducible] opK wpList Code.wp Exit.then Exit.inBlock fnPost bodyPost Nx Calls Oper.wp Rd Rds Wr Ent Stars Blk Again Vec FnSpec wpMix QRun Stop Upto wpAt
theorem valid30 {N : Nat} {qs : List EqR} (hN : 1 ≤ N ∧ N ≤ 48) (hl : qs.length ≤ 1152) (hg : ∀ q ∈ qs, GoodE N q) : validB (N : Int) qs = true := by
  unfold validB
  rw [decide_eq_true (show 1 ≤ (N : Int) ∧ (N : Int) ≤ 48 by omega), decide_eq_true hl]
  exact List.all_eq_true.2 fun q hq => rightB_iff.2 (hg q hq)
theorem sumC_bdB {t : List Int} {most : Int} (h0 : 0 ≤ most) (ht : ∀ j, j < t.length → 0 ≤ t.getD j default ∧ t.getD j default ≤ most) : ∀ cs : List Nat, sumC t cs ≤ most * (cs.length : Int)
  | [] => by show (0 : Int) ≤ most * ((0 : Nat) : Int); omega
  | c :: cs => by
    have ih := sumC_bdB h0 ht cs
    have hc : t.getD c 0 ≤ most := by
      by_cases h : c < t.length
      · exact (ht c h).2
      · rw [List.getD_eq_getElem?_getD, List.getElem?_eq_none (by omega)]; exact h0
    rw [sumC, List.length_cons]
    have : most * ((cs.length + 1 : Nat) : Int) = most * (cs.length : Int) + most := by rw [Int.natCast_add, Int.mul_add]; simp
    omega
theorem EqsOk.small {N : Nat} {t : List Int} {most : Int} {qs : List EqR} (h : EqsOk N t most qs) (hN : N ≤ 8) (h0 : 0 ≤ most) (hm : most ≤ 100) {q : EqR} (hq : q ∈ qs) : q.2 ≤ 1000 := by
  have hg := h.good q hq
  have h1 := sumC_bdB h0 h.tab (eqn q).1
  rw [h.sum q hq] at h1
  have h2 : (eqn q).1.length ≤ 8 := by
    unfold eqn
    rw [List.length_map]
    have := asc_len (a := 0) (n := N) hg.asc fun y hy => by have := hg.lt y hy; omega
    omega
  have : most * ((eqn q).1.length : Int) ≤ 100 * 8 := Int.mul_le_mul hm (by omega) (by omega) (by omega)
  omega
theorem EqsOk.beq {N : Nat} {t : List Int} {most : Int} {qs : List EqR} (h : EqsOk N t most qs) (hN : N ≤ 8) (h0 : 0 ≤ most) (hm : most ≤ 100) : BEq N qs := ⟨by have := h.n; omega, by have := h.few; omega, h.good, fun _ hq => h.small hN h0 hm hq⟩
theorem chkB_of {N : Nat} {qs : List EqR} (h : BEq N qs) (hv : validB (N : Int) qs = true) {k : Int} (hk : 0 ≤ k ∧ k < N) : chkB (N : Int) qs k = 0 := by
  have hn := h.cnt
  have hl := h.len
  unfold chkB
  rw [if_neg, if_neg (by omega), if_neg]
  · rintro (h1 | h1)
    · obtain ⟨q, hq, hb⟩ := List.any_eq_true.1 h1
      have := h.val q hq
      have hb' : 1000 < q.2 := of_decide_eq_true hb
      omega
    · exact h1 hk
  · rintro (h1 | h1)
    · exact h1 (by omega)
    · rw [hv] at h1; cases h1
def tabF (t : List Int) : Nat → Rat := fun k => ((t.getD k 0 : Int) : Rat)
theorem ls_tab (t : List Int) : ∀ cs : List Nat, Bl.ls (cs.map (tabF t)) = ((sumC t cs : Int) : Rat)
  | [] => rfl
  | c :: cs => by
    rw [List.map_cons, Bl.ls, ls_tab t cs, sumC, Rat.intCast_add]; rfl
theorem EqsOk.feas {N : Nat} {t : List Int} {most : Int} {qs : List EqR} (h : EqsOk N t most qs) : Bl.Feas (toQ N qs) (tabF t) := by
  have hlen := h.len
  refine ⟨fun k hk => ?_, fun i hi => ?_⟩
  · have hk : k < N := hk
    have := (h.tab k (by omega)).1
    have e : (0 : Rat) = ((0 : Int) : Rat) := rfl
    rw [e]
    exact Rat.intCast_le_intCast.2 this
  · have hm : qs.getD i default ∈ qs := getD_memQ hi
    have hg := h.good _ hm
    have h1 := h.sum _ hm
    have h2 := ls_tab t (eqn (qs.getD i default)).1
    rw [h1] at h2
    have h3 := Bl.ls_asc (tabF t) N (qs.getD i default).1.2.2 hg.asc (fun x hx => hg.lt x hx)
    rw [show (toQ N qs).val i = (qs.getD i default).2 from rfl, ← h2]
    unfold eqn
    rw [List.map_map]
    exact h3.symm
theorem eqs30 {A : Option Addr} {c : Nat} {qs : List EqR} {m m1 m2 I' : PH} (hm : PH.le m I') (h1 : Vec 46 2 A qs.length c (qs.flatMap eqC) m1) (hm1 : PH.le m1 m) (h2 : Stars (qs.map fun q => rowR q.1) m2) (hm2 : PH.le m2 m) : Eqs I' A c qs := by
  refine ⟨Vec.sliceN (t := 46) (hm1.trans hm) h1 fun x _ => eqC_len x, fun q hq => ?_⟩
  obtain ⟨i, hi, rfl⟩ := List.mem_iff_getElem.1 hq
  obtain ⟨m3, d3, h3⟩ := Stars.nth (i := i) (r := rowR qs[i].1) h2 (by rw [List.getElem?_map, List.getElem?_eq_getElem hi]; rfl)
  exact Vec.sliceOf (t := 3) ((d3.trans hm2).trans hm) h3
theorem Nx.giveEq30 {C : Cx} {e : Env} {I : PH} {R : List Res} {K : Act → World → Prop} {At A : Option Addr} {ct c : Nat} {t : List Int} {qs : List EqR} {RR : List Res}
    (hR : Ent R (Stars (iR At ct t :: eqsR A c qs) :: RR)) (h : ∀ I', PH.le I I' → Ints I' At ct t → Eqs I' A c qs → Nx C e I' RR K) : Nx C e I R K := by
  refine Nx.ent hR ?_
  refine Nx.freezeAt 0 rfl fun I1 m1 hI1 hm1 h1 => ?_
  obtain ⟨a1, ha1, b1⟩ := Stars.get 0 h1 rfl
  obtain ⟨a2, ha2, b2⟩ := Stars.get 1 h1 rfl
  obtain ⟨a3, ha3, b3⟩ := Stars.get 2 h1 rfl
  exact h I1 hI1 (Vec.sliceOf (ha1.trans hm1) b1) (eqs30 hm1 b2 ha2 b3 ha3)
end Go.Proofs.YtpcnapidlhpbkaaGreatDoor
namespace Go.Sol
def roomR (L : List Eqn) (c : Nat) : Int := L.foldl (fun a q => if c ∈ q.1 then (if a = 0 ∨ q.2 + 1 < a then q.2 + 1 else a) else a) 0
def gtF (t : List Int) (c : Nat) (a : Int) (L : List Eqn) : Int := L.foldl (fun a q => if c ∈ q.1 then min a (restQ t q) else a) a
def topF (L : List Eqn) (t : List Int) : Int := gtF t t.length (max 0 (roomR L t.length - 1)) L
def fitB (L : List Eqn) (t : List Int) : Bool := L.all fun q => !decide (q.1.getLast? = some (t.length - 1)) || decide (restQ t q = 0)
def rs (L : List Eqn) : Nat → List Int → List (List Int)
  | 0, t => if L.all (fun q => decide (restQ t q = 0)) then [t] else []
  | k + 1, t => (List.range (topF L t + 1).toNat).flatMap fun (n : Nat) => if fitB L (t ++ [(n : Int)]) then rs L k (t ++ [(n : Int)]) else []
structure From (L : List Eqn) (k : Nat) (t s : List Int) : Prop where
  len : s.length = t.length + k
  pre : s.take t.length = t
  pos : ∀ c, t.length ≤ c → 0 ≤ s.getD c 0 ∧ ((∀ q ∈ L, c ∉ q.1) → s.getD c 0 = 0)
  sum : ∀ q ∈ L, sumC s q.1 = q.2
end Go.Sol
namespace Go.Proofs.YtpcnapidlhpbkaaGreatDoor
open Go.Eng Go.Sol
attribute [local irreducible] opK wpList Code.wp Exit.then Exit.inBlock fnPost bodyPost Nx Calls Oper.wp Rd Rds Wr Ent Stars Blk Again Vec FnSpec wpMix QRun Stop Upto wpAt
theorem all_dropQ {n : Int} {l : List EqR} {k : Nat} (hk : k < l.length) : (l.drop k).all (rightB n) = (rightB n (l.getD k default) && (l.drop (k + 1)).all (rightB n)) := by
  rw [List.drop_eq_getElem_cons hk, List.all_cons, List.getD_eq_getElem?_getD, List.getElem?_eq_getElem hk]; rfl
set_option maxRecDepth 10000 in
theorem RValid_spec (n : Int) (A : Option Addr) (c : Nat) (l : List EqR) (I : PH) (hl : Eqs I A c l) :
    FnSpec Tryz.prog 49 [.int .i64 n, .slice A l.length c] I [] (fun v R' => v = .bool (validB n l) ∧ R' = []) := by
  have hlen := hl.len
  unfold validB
  refine FnSpec.enterP Tryz.func49 rfl Tryz.ntmps49 rfl fun w F => ?_
  by_cases h1 : n < 1
  · rw [decide_eq_false (show ¬(1 ≤ n ∧ n ≤ 48) by omega), Bool.false_and, Bool.false_and]
    repeat' first
      | ((with_reducible refine Nx.is_wp ?_); first | refine Nx.wo ?_ | refine Nx.zp (fun hc => ?_) (fun hc => ?_))
      | (refine Nx.zo ?_; first | refine Nx.opr rfl rfl ?_ | refine Nx.so ?_ | refine Nx.sb (fun bx => ?_) | refine Nx.sa (fun A2 c2 => ?_))
      | refine Nx.za ?_ | refine Nx.zr (fun hc => ?_) (fun hc => ?_)
      | refine Nx.zq ?_ | refine Nx.zu (fun hc => ?_) (fun hc => ?_)
      | refine Nx.zx ?_ | fail
    exact Nx.ret_fn rfl [] ⟨rfl, rfl⟩ (by (exact Ent.auto))
  by_cases h2 : 48 < n
  · rw [decide_eq_false (show ¬(1 ≤ n ∧ n ≤ 48) by omega), Bool.false_and, Bool.false_and]
    repeat' first
      | ((with_reducible refine Nx.is_wp ?_); first | refine Nx.wo ?_ | refine Nx.zp (fun hc => ?_) (fun hc => ?_))
      | (refine Nx.zo ?_; first | refine Nx.opr rfl rfl ?_ | refine Nx.so ?_ | refine Nx.sb (fun bx => ?_) | refine Nx.sa (fun A2 c2 => ?_))
      | refine Nx.za ?_ | refine Nx.zr (fun hc => ?_) (fun hc => ?_)
      | refine Nx.zq ?_ | refine Nx.zu (fun hc => ?_) (fun hc => ?_)
      | refine Nx.zx ?_ | fail
    exact Nx.ret_fn rfl [] ⟨rfl, rfl⟩ (by (exact Ent.auto))
  rw [decide_eq_true (show 1 ≤ n ∧ n ≤ 48 by omega), Bool.true_and]
  by_cases h3 : l.length ≤ 1152
  case neg =>
    rw [decide_eq_false h3, Bool.false_and]
    repeat' first
      | ((with_reducible refine Nx.is_wp ?_); first | refine Nx.wo ?_ | refine Nx.zp (fun hc => ?_) (fun hc => ?_))
      | (refine Nx.zo ?_; first | refine Nx.opr rfl rfl ?_ | refine Nx.so ?_ | refine Nx.sb (fun bx => ?_) | refine Nx.sa (fun A2 c2 => ?_))
      | refine Nx.za ?_ | refine Nx.zr (fun hc => ?_) (fun hc => ?_)
      | refine Nx.zq ?_ | refine Nx.zu (fun hc => ?_) (fun hc => ?_)
      | refine Nx.zx ?_ | fail
    exact Nx.ret_fn rfl [] ⟨rfl, rfl⟩ (by (exact Ent.auto))
  rw [decide_eq_true h3, Bool.true_and]
  repeat' first
    | ((with_reducible refine Nx.is_wp ?_); first | refine Nx.wo ?_ | refine Nx.zp (fun hc => ?_) (fun hc => ?_))
    | (refine Nx.zo ?_; first | refine Nx.opr rfl rfl ?_ | refine Nx.so ?_ | refine Nx.sb (fun bx => ?_) | refine Nx.sa (fun A2 c2 => ?_))
    | refine Nx.za ?_ | refine Nx.zr (fun hc => ?_) (fun hc => ?_)
    | refine Nx.zq ?_ | refine Nx.zu (fun hc => ?_) (fun hc => ?_)
    | refine Nx.zx ?_ | fail
  refine Nx.p_loop (σ := Nat) (fun k => [(0, .int .i64 n), (21, .slice A l.length c), (22, .int .i64 l.length), (23, .int .i64 (k : Int))])
    (fun _ => [F]) (fun k => k ≤ l.length ∧ l.all (rightB n) = (l.drop k).all (rightB n)) (fun k => l.length - k) 0 rfl ⟨Nat.zero_le _, rfl⟩ ⟨rfl, rfl, rfl, rfl, trivial⟩ (by (exact Ent.auto)) ?_
  rintro k ⟨hk, he⟩
  by_cases hlt : k < l.length
  case neg =>
    obtain rfl : k = l.length := by omega
    rw [List.drop_length] at he
    rw [he]
    repeat' first
      | ((with_reducible refine Nx.is_wp ?_); first | refine Nx.wo ?_ | refine Nx.zp (fun hc => ?_) (fun hc => ?_))
      | (refine Nx.zo ?_; first | refine Nx.opr rfl rfl ?_ | refine Nx.so ?_ | refine Nx.sb (fun bx => ?_) | refine Nx.sa (fun A2 c2 => ?_))
      | refine Nx.za ?_ | refine Nx.zr (fun hc => ?_) (fun hc => ?_)
      | refine Nx.zq ?_ | refine Nx.zu (fun hc => ?_) (fun hc => ?_)
      | refine Nx.zx ?_ | fail
    exact Nx.ret_fn rfl [] ⟨rfl, rfl⟩ (by (exact Ent.auto))
  rw [all_dropQ hlt] at he
  have hq := hl.inner _ (getD_memQ hlt)
  have hrds : ∀ (W : World) (R : List Res), Rds W I R ((ad A).add (k * 2)) (eqC (l.getD k default)) := fun W R => hl.outer.rds hlt
  generalize l.getD k default = q at he hq hrds
  obtain ⟨⟨Ax, cx, xs⟩, z⟩ := q
  dsimp only at hq
  replace hrds : ∀ (W : World) (R : List Res), Rds W I R ((ad A).add (k * 2)) [.slice Ax xs.length cx, .int .i64 z] := hrds
  have hxl := hq.len
  have hrt : rightB n ((Ax, cx, xs), z) = (decide (xs ≠ []) && decide (0 ≤ z ∧ z ≤ 1000000) && ascB n (-1) xs) := rfl
  rw [hrt] at he
  by_cases h0 : xs = []
  · subst h0
    rw [he]
    repeat' first
      | ((with_reducible refine Nx.is_wp ?_); first | refine Nx.wo ?_ | refine Nx.zp (fun hc => ?_) (fun hc => ?_))
      | (refine Nx.zo ?_; first | refine Nx.opr rfl rfl ?_ | refine Nx.indexAddr_nat rfl rfl rfl rfl rfl (by omega) (hl.outer.isSome (by omega) (by omega)) ?_ | refine Nx.loads rfl rfl rfl rfl (hrds _ _) rfl ?_ | refine Nx.so ?_ | refine Nx.sb (fun bx => ?_) | refine Nx.sa (fun A2 c2 => ?_))
      | refine Nx.za ?_ | refine Nx.zr (fun hc => ?_) (fun hc => ?_)
      | refine Nx.zq ?_ | refine Nx.zu (fun hc => ?_) (fun hc => ?_)
      | refine Nx.zx ?_ | fail
    exact Nx.ret_fn rfl [] ⟨rfl, rfl⟩ (by (exact Ent.auto))
  have hpos : 0 < xs.length := List.length_pos_iff.2 h0
  rw [decide_eq_true h0, Bool.true_and] at he
  by_cases hz0 : z < 0
  · rw [decide_eq_false (show ¬(0 ≤ z ∧ z ≤ 1000000) by omega), Bool.false_and, Bool.false_and] at he
    rw [he]
    repeat' first
      | ((with_reducible refine Nx.is_wp ?_); first | refine Nx.wo ?_ | refine Nx.zp (fun hc => ?_) (fun hc => ?_))
      | (refine Nx.zo ?_; first | refine Nx.opr rfl rfl ?_ | refine Nx.indexAddr_nat rfl rfl rfl rfl rfl (by omega) (hl.outer.isSome (by omega) (by omega)) ?_ | refine Nx.loads rfl rfl rfl rfl (hrds _ _) rfl ?_ | refine Nx.so ?_ | refine Nx.sb (fun bx => ?_) | refine Nx.sa (fun A2 c2 => ?_))
      | refine Nx.za ?_ | refine Nx.zr (fun hc => ?_) (fun hc => ?_)
      | refine Nx.zq ?_ | refine Nx.zu (fun hc => ?_) (fun hc => ?_)
      | refine Nx.zx ?_ | fail
    exact Nx.ret_fn rfl [] ⟨rfl, rfl⟩ (by (exact Ent.auto))
  by_cases hz1 : 1000000 < z
  · rw [decide_eq_false (show ¬(0 ≤ z ∧ z ≤ 1000000) by omega), Bool.false_and, Bool.false_and] at he
    rw [he]
    repeat' first
      | ((with_reducible refine Nx.is_wp ?_); first | refine Nx.wo ?_ | refine Nx.zp (fun hc => ?_) (fun hc => ?_))
      | (refine Nx.zo ?_; first | refine Nx.opr rfl rfl ?_ | refine Nx.indexAddr_nat rfl rfl rfl rfl rfl (by omega) (hl.outer.isSome (by omega) (by omega)) ?_ | refine Nx.loads rfl rfl rfl rfl (hrds _ _) rfl ?_ | refine Nx.so ?_ | refine Nx.sb (fun bx => ?_) | refine Nx.sa (fun A2 c2 => ?_))
      | refine Nx.za ?_ | refine Nx.zr (fun hc => ?_) (fun hc => ?_)
      | refine Nx.zq ?_ | refine Nx.zu (fun hc => ?_) (fun hc => ?_)
      | refine Nx.zx ?_ | fail
    exact Nx.ret_fn rfl [] ⟨rfl, rfl⟩ (by (exact Ent.auto))
  rw [decide_eq_true (show 0 ≤ z ∧ z ≤ 1000000 by omega), Bool.true_and] at he
  repeat' first
    | ((with_reducible refine Nx.is_wp ?_); first | refine Nx.wo ?_ | refine Nx.zp (fun hc => ?_) (fun hc => ?_))
    | (refine Nx.zo ?_; first | refine Nx.opr rfl rfl ?_ | refine Nx.indexAddr_nat rfl rfl rfl rfl rfl (by omega) (hl.outer.isSome (by omega) (by omega)) ?_ | refine Nx.loads rfl rfl rfl rfl (hrds _ _) rfl ?_ | refine Nx.so ?_ | refine Nx.sb (fun bx => ?_) | refine Nx.sa (fun A2 c2 => ?_))
    | refine Nx.za ?_ | refine Nx.zr (fun hc => ?_) (fun hc => ?_)
    | refine Nx.zq ?_ | refine Nx.zu (fun hc => ?_) (fun hc => ?_)
    | refine Nx.zx ?_ | fail
  revert bx; intro b6
  refine Nx.p_loop (σ := Nat) (fun j => [(0, .int .i64 n), (7, .int .i64 (lastOr (-1) xs j)), (21, .slice A l.length c), (22, .int .i64 l.length), (23, .int .i64 (k : Int)), (42, .slice Ax xs.length cx), (43, .int .i64 xs.length), (44, .int .i64 (j : Int))])
    (fun _ => [F]) (fun j => j ≤ xs.length ∧ ascB n (-1) xs = ascB n (lastOr (-1) xs j) (xs.drop j)) (fun j => xs.length - j) 0 rfl ⟨Nat.zero_le _, rfl⟩ ⟨rfl, rfl, rfl, rfl, rfl, rfl, rfl, rfl, trivial⟩ (by (exact Ent.auto)) ?_
  rintro j ⟨hj, hje⟩
  by_cases hjl : j < xs.length
  case neg =>
    obtain rfl : j = xs.length := by omega
    rw [List.drop_length] at hje
    rw [hje] at he
    repeat' first
      | ((with_reducible refine Nx.is_wp ?_); first | refine Nx.wo ?_ | refine Nx.zp (fun hc => ?_) (fun hc => ?_))
      | (refine Nx.zo ?_; first | refine Nx.opr rfl rfl ?_ | refine Nx.so ?_ | refine Nx.sb (fun bx => ?_) | refine Nx.sa (fun A2 c2 => ?_))
      | refine Nx.za ?_ | refine Nx.zr (fun hc => ?_) (fun hc => ?_)
      | refine Nx.zq ?_ | refine Nx.zu (fun hc => ?_) (fun hc => ?_)
      | refine Nx.zx ?_ | fail
    exact Nx.again (k + 1) ⟨hlt, by rw [he, ascB, Bool.true_and]⟩ (by omega) ⟨rfl, rfl, rfl, rfl, trivial⟩ (by (exact Ent.auto))
  rw [ascB_at hjl] at hje
  by_cases h4 : lastOr (-1) xs j < xs.getD j default
  · by_cases h5 : xs.getD j default < n
    · rw [decide_eq_true ⟨h4, h5⟩, Bool.true_and] at hje
      repeat' first
        | ((with_reducible refine Nx.is_wp ?_); first | refine Nx.wo ?_ | refine Nx.zp (fun hc => ?_) (fun hc => ?_))
        | (refine Nx.zo ?_; first | refine Nx.opr rfl rfl ?_ | refine Nx.indexAddr_nat rfl rfl rfl rfl rfl (by omega) (hq.isSome (by omega)) ?_ | refine Nx.load rfl rfl rfl (hq.rd (by omega)) ?_ | refine Nx.so ?_ | refine Nx.sb (fun bx => ?_) | refine Nx.sa (fun A2 c2 => ?_))
        | refine Nx.za ?_ | refine Nx.zr (fun hc => ?_) (fun hc => ?_)
        | refine Nx.zq ?_ | refine Nx.zu (fun hc => ?_) (fun hc => ?_)
        | refine Nx.zx ?_ | fail
      exact Nx.again (j + 1) ⟨hjl, hje⟩ (by omega) ⟨rfl, by unfold lastOr; rw [if_neg (Nat.succ_ne_zero j), Nat.add_sub_cancel]; rfl, rfl, rfl, rfl, rfl, rfl, rfl, trivial⟩ (by (exact Ent.auto))
    · rw [decide_eq_false (by rintro ⟨_, h⟩; exact h5 h), Bool.false_and] at hje
      rw [hje] at he
      rw [he]
      repeat' first
        | ((with_reducible refine Nx.is_wp ?_); first | refine Nx.wo ?_ | refine Nx.zp (fun hc => ?_) (fun hc => ?_))
        | (refine Nx.zo ?_; first | refine Nx.opr rfl rfl ?_ | refine Nx.indexAddr_nat rfl rfl rfl rfl rfl (by omega) (hq.isSome (by omega)) ?_ | refine Nx.load rfl rfl rfl (hq.rd (by omega)) ?_ | refine Nx.so ?_ | refine Nx.sb (fun bx => ?_) | refine Nx.sa (fun A2 c2 => ?_))
        | refine Nx.za ?_ | refine Nx.zr (fun hc => ?_) (fun hc => ?_)
        | refine Nx.zq ?_ | refine Nx.zu (fun hc => ?_) (fun hc => ?_)
        | refine Nx.zx ?_ | fail
      exact Nx.ret_fn rfl [] ⟨rfl, rfl⟩ (by (exact Ent.auto))
  · rw [decide_eq_false (by rintro ⟨h, _⟩; exact h4 h), Bool.false_and] at hje
    rw [hje] at he
    rw [he]
    repeat' first
      | ((with_reducible refine Nx.is_wp ?_); first | refine Nx.wo ?_ | refine Nx.zp (fun hc => ?_) (fun hc => ?_))
      | (refine Nx.zo ?_; first | refine Nx.opr rfl rfl ?_ | refine Nx.indexAddr_nat rfl rfl rfl rfl rfl (by omega) (hq.isSome (by omega)) ?_ | refine Nx.load rfl rfl rfl (hq.rd (by omega)) ?_ | refine Nx.so ?_ | refine Nx.sb (fun bx => ?_) | refine Nx.sa (fun A2 c2 => ?_))
      | refine Nx.za ?_ | refine Nx.zr (fun hc => ?_) (fun hc => ?_)
      | refine Nx.zq ?_ | refine Nx.zu (fun hc => ?_) (fun hc => ?_)
      | refine Nx.zx ?_ | fail
    exact Nx.ret_fn rfl [] ⟨rfl, rfl⟩ (by (exact Ent.auto))
end Go.Proofs.YtpcnapidlhpbkaaGreatDoor
namespace Go.Proofs.YtpcnapidlhpbkaaGreatDoor
open Go.Eng Go.Sol
attribute [local irreducible] opK wpList Code.wp Exit.then Exit.inBlock fnPost bodyPost Nx Calls Oper.wp Rd Rds Wr Ent Stars Blk Again Vec FnSpec wpMix QRun Stop Upto wpAt
set_option maxRecDepth 10000 in
theorem rsumF_spec (A : Option Addr) (c : Nat) (l : List Rat) (I : PH) (hl : Rats I A c l) (hr : ∀ q ∈ l, RB q) :
    FnSpec Tryz.prog 51 [.slice A l.length c] I [] (fun v R' => ∃ r : Rat, v = .tuple #[.agg #[.int .i64 r.num, .int .i64 r.den], .bool (Bl.sumF l).isSome] ∧ (∀ s, Bl.sumF l = some s → r = s) ∧ R' = []) := by
  have hlen := hl.len
  refine FnSpec.enterP Tryz.func51 rfl Tryz.ntmps51 rfl fun w F => ?_
  repeat' first
    | ((with_reducible refine Nx.is_wp ?_); first | refine Nx.wo ?_ | refine Nx.zp (fun hc => ?_) (fun hc => ?_))
    | (refine Nx.zo ?_; first | refine Nx.opr rfl rfl ?_ | refine Nx.callv rfl rfl rfl (by kernel_rfl) rfl (rwhole_spec _ _) ?_ | refine Nx.so ?_ | refine Nx.sb (fun bx => ?_) | refine Nx.sa (fun A2 c2 => ?_))
    | refine Nx.za ?_ | refine Nx.zr (fun hc => ?_) (fun hc => ?_)
    | refine Nx.zq ?_ | refine Nx.zu (fun hc => ?_) (fun hc => ?_)
    | refine Nx.zx ?_ | fail
  rename_i b2
  revert bx; intro b4
  refine Nx.p_loop (σ := Nat × Rat) (fun z => [(0, .slice A l.length c), (2, .pointer (some ⟨b2, 0, none⟩)), (4, .pointer (some ⟨b4, 0, none⟩)), (10, .slice A l.length c), (11, .int .i64 l.length), (12, .int .i64 (z.1 : Int))])
    (fun z => [Blk b4 24 (ratC z.2), Blk b2 24 [.int .i64 0, .int .i64 0], F]) (fun z => z.1 ≤ l.length ∧ Bl.sumF (l.take z.1) = some z.2) (fun z => l.length - z.1) (0, 0) rfl ⟨Nat.zero_le _, rfl⟩ ⟨rfl, rfl, rfl, rfl, rfl, rfl, trivial⟩ (by (exact Ent.auto)) ?_
  rintro ⟨k, s⟩ ⟨hk, hs⟩
  dsimp only at hk hs ⊢
  by_cases hkl : k < l.length
  case neg =>
    obtain rfl : k = l.length := by omega
    rw [List.take_length] at hs
    repeat' first
      | ((with_reducible refine Nx.is_wp ?_); first | refine Nx.wo ?_ | refine Nx.zp (fun hc => ?_) (fun hc => ?_))
      | (refine Nx.zo ?_; first | refine Nx.opr rfl rfl ?_ | refine Nx.so ?_ | refine Nx.sb (fun bx => ?_) | refine Nx.sa (fun A2 c2 => ?_))
      | refine Nx.za ?_ | refine Nx.zr (fun hc => ?_) (fun hc => ?_)
      | refine Nx.zq ?_ | refine Nx.zu (fun hc => ?_) (fun hc => ?_)
      | refine Nx.zx ?_ | fail
    exact Nx.ret2 rfl (ROne.cell 0 rfl rfl rfl rfl rfl) (ROne.tmp rfl) [] ⟨s, by rw [hs]; rfl, (fun s' h => by rw [hs] at h; exact Option.some.inj h), rfl⟩ (by (exact Ent.auto))
  have hrd : ∀ (W : World) (R : List Res), Rds W I R ((ad A).add (k * 2)) (ratC (l.getD k default)) := fun W R => hl.rds hkl
  have hA := hl.isSome (by omega) (by omega)
  have hxb := hr _ (getD_memXB hkl)
  have hsn := take_snocX hkl
  generalize l.getD k default = x at hrd hxb hsn
  have hsb := sumF_rb hs
  have hnx : Bl.sumF (l.take (k + 1)) = Bl.addO (some s) x := by rw [hsn, sumF_snoc, hs]
  have hM := rAdd_rat s x hsb hxb I
  obtain ⟨y, hy⟩ : ∃ y, y = s + x := ⟨_, rfl⟩
  unfold Bl.addO at hnx
  dsimp only at hnx
  rw [← hy] at hM hnx
  by_cases hb : RB y
  · rw [if_pos (show Bl.RBp y from hb)] at hnx
    rw [redV_pos hb] at hM
    repeat' first
      | ((with_reducible refine Nx.is_wp ?_); first | refine Nx.wo ?_ | refine Nx.zp (fun hc => ?_) (fun hc => ?_))
      | (refine Nx.zo ?_; first | refine Nx.opr rfl rfl ?_ | refine Nx.indexAddr_nat (A := A) (i := k) (sz := 2) rfl rfl rfl rfl rfl hkl hA ?_ | refine Nx.loads rfl rfl rfl rfl (hrd _ _) rfl ?_ | refine Nx.loads rfl rfl rfl rfl (Rds.cut 1 2 rfl rfl) rfl ?_ | refine Nx.callv rfl rfl rfl (by kernel_rfl) rfl hM ?_ | refine Nx.so ?_ | refine Nx.sb (fun bx => ?_) | refine Nx.sa (fun A2 c2 => ?_))
      | refine Nx.za ?_ | refine Nx.zr (fun hc => ?_) (fun hc => ?_)
      | refine Nx.zq ?_ | refine Nx.zu (fun hc => ?_) (fun hc => ?_)
      | refine Nx.zx ?_ | fail
    exact Nx.again (k + 1, y) ⟨hkl, hnx⟩ (by dsimp only; omega) ⟨rfl, rfl, rfl, rfl, rfl, rfl, trivial⟩ (by (exact Ent.auto))
  · rw [if_neg (show ¬ Bl.RBp y from hb)] at hnx
    rw [redV_neg hb] at hM
    have hno := sumF_cut hnx
    repeat' first
      | ((with_reducible refine Nx.is_wp ?_); first | refine Nx.wo ?_ | refine Nx.zp (fun hc => ?_) (fun hc => ?_))
      | (refine Nx.zo ?_; first | refine Nx.opr rfl rfl ?_ | refine Nx.indexAddr_nat (A := A) (i := k) (sz := 2) rfl rfl rfl rfl rfl hkl hA ?_ | refine Nx.loads rfl rfl rfl rfl (hrd _ _) rfl ?_ | refine Nx.loads rfl rfl rfl rfl (Rds.cut 1 2 rfl rfl) rfl ?_ | refine Nx.callv rfl rfl rfl (by kernel_rfl) rfl hM ?_ | refine Nx.loads rfl rfl rfl rfl (Rds.cut 2 2 rfl rfl) rfl ?_ | refine Nx.so ?_ | refine Nx.sb (fun bx => ?_) | refine Nx.sa (fun A2 c2 => ?_))
      | refine Nx.za ?_ | refine Nx.zr (fun hc => ?_) (fun hc => ?_)
      | refine Nx.zq ?_ | refine Nx.zu (fun hc => ?_) (fun hc => ?_)
      | refine Nx.zx ?_ | fail
    exact Nx.ret2 rfl (ROne.cell 0 rfl rfl rfl rfl rfl) (ROne.tmp rfl) [] ⟨s, by rw [hno]; rfl, (fun s' h => by rw [hno] at h; cases h), rfl⟩ (by (exact Ent.auto))
set_option maxRecDepth 10000 in
theorem rchk38 (w0 : World) (F : Res) (n : Nat) (A : Option Addr) (c : Nat) (l : List EqR) (cell : Int) (up : Bool) (b : Rat) (Ap : Option Addr) (pl cp : Nat) (Aw : Option Addr) (cw : Nat) (w : List Rat) (I : PH) (b5 : Nat) (hn : n ≤ 48) (hl9 : l.length ≤ 1152) (hl : Eqs I A c l) (hg : ∀ q ∈ l, GoodE n q) (hw : Rats I Aw cw w) (hwl : w.length = l.length) (hwr : ∀ y ∈ w, RB y) :
    Nx ⟨Tryz.prog, 245, w0⟩ [(0, .int .i64 (n : Int)), (1, .slice A l.length c), (5, .pointer (some ⟨b5, 0, none⟩))] I [Blk b5 27 (prC cell up b Ap pl cp Aw l.length cw), F]
      (Code.wp Tryz.prog (cr (cr (cr (cr (cr (cr (cr (cr (bodyOf Tryz.f15))))))))) (fnPost Tryz.prog Tryz.f15 I F w0 (fun v R' => v = .bool ((List.range n).all (exclB l w cell up)) ∧ R' = []))) := by
  have hlen := hl.len
  repeat' first
    | ((with_reducible refine Nx.is_wp ?_); first | refine Nx.wo ?_ | refine Nx.zp (fun hc => ?_) (fun hc => ?_))
    | (refine Nx.zo ?_; first | refine Nx.opr rfl rfl ?_ | refine Nx.so ?_ | refine Nx.sb (fun bx => ?_) | refine Nx.sa (fun A2 c2 => ?_))
    | refine Nx.za ?_ | refine Nx.zr (fun hc => ?_) (fun hc => ?_)
    | refine Nx.zq ?_ | refine Nx.zu (fun hc => ?_) (fun hc => ?_)
    | refine Nx.zx ?_ | fail
  refine Nx.p_loop (σ := Nat) (fun k => [(0, .int .i64 (n : Int)), (1, .slice A l.length c), (5, .pointer (some ⟨b5, 0, none⟩)), (23, .int .i64 (k : Int))])
    (fun _ => [Blk b5 27 (prC cell up b Ap pl cp Aw l.length cw), F]) (fun k => k ≤ n ∧ (List.range k).all (exclB l w cell up) = true) (fun k => n - k) 0 rfl ⟨Nat.zero_le _, rfl⟩ ⟨rfl, rfl, rfl, rfl, trivial⟩ (by (exact Ent.auto)) ?_
  rintro k ⟨hk, hok⟩
  by_cases hkn : k < n
  case neg =>
    obtain rfl : k = n := by omega
    repeat' first
      | ((with_reducible refine Nx.is_wp ?_); first | refine Nx.wo ?_ | refine Nx.zp (fun hc => ?_) (fun hc => ?_))
      | (refine Nx.zo ?_; first | refine Nx.opr rfl rfl ?_ | refine Nx.so ?_ | refine Nx.sb (fun bx => ?_) | refine Nx.sa (fun A2 c2 => ?_))
      | refine Nx.za ?_ | refine Nx.zr (fun hc => ?_) (fun hc => ?_)
      | refine Nx.zq ?_ | refine Nx.zu (fun hc => ?_) (fun hc => ?_)
      | refine Nx.zx ?_ | fail
    exact Nx.ret_fn rfl [] ⟨by rw [hok], rfl⟩ (by (exact Ent.auto))
  have hstop : exclB l w cell up k = false → (List.range n).all (exclB l w cell up) = false := fun h => all_no (List.mem_range.2 hkn) h
  have hnext : exclB l w cell up k = true → (List.range (k + 1)).all (exclB l w cell up) = true := fun h => by rw [List.range_succ, List.all_append, hok]; simpa using h
  repeat' first
    | ((with_reducible refine Nx.is_wp ?_); first | refine Nx.wo ?_ | refine Nx.zp (fun hc => ?_) (fun hc => ?_))
    | (refine Nx.zo ?_; first | refine Nx.opr rfl rfl ?_ | refine Nx.so ?_ | refine Nx.sb (fun bx => ?_) | refine Nx.sa (fun A2 c2 => ?_))
    | refine Nx.za ?_ | refine Nx.zr (fun hc => ?_) (fun hc => ?_)
    | refine Nx.zq ?_ | refine Nx.zu (fun hc => ?_) (fun hc => ?_)
    | refine Nx.zx ?_ | fail
  refine Nx.p_loop (σ := Nat × (Option Addr × Nat)) (fun z => [(0, .int .i64 (n : Int)), (1, .slice A l.length c), (5, .pointer (some ⟨b5, 0, none⟩)), (23, .int .i64 (k : Int)), (24, .slice z.2.1 (pickT l w k z.1).length z.2.2), (186, .slice A l.length c), (187, .int .i64 l.length), (188, .int .i64 (z.1 : Int))])
    (fun z => [Vec 24 2 z.2.1 (pickT l w k z.1).length z.2.2 ((pickT l w k z.1).flatMap ratC), Blk b5 27 (prC cell up b Ap pl cp Aw l.length cw), F]) (fun z => z.1 ≤ l.length) (fun z => l.length - z.1) (0, (none, 0)) rfl (Nat.zero_le _) ⟨rfl, rfl, rfl, rfl, rfl, rfl, rfl, rfl, trivial⟩ ((Ent.vec_nil 24 2 _).trans (by (exact Ent.auto))) ?_
  rintro ⟨i, ⟨At, ct⟩⟩ hil
  have hil : i ≤ l.length := hil
  dsimp only
  by_cases him : i < l.length
  · have hm := getD_memQ him
    have hgd := hg _ hm
    have hin := hl.inner _ hm
    have hrds : ∀ (W : World) (R : List Res), Rds W I R ((ad A).add (i * 2)) (eqC (l.getD i default)) := fun W R => hl.outer.rds him
    have hA := hl.outer.isSome (by omega) (by omega)
    have hiw : i < w.length := by omega
    have hrw : ∀ (W : World) (R : List Res), Rds W I R ((ad Aw).add (i * 2)) (ratC (w.getD i default)) := fun W R => hw.rds hiw
    have hAw := hw.isSome (by omega) (by omega)
    have hyes := pickT_yes (l := l) (w := w) (k := k) (i := i)
    have hno := pickT_no (l := l) (w := w) (k := k) (i := i)
    have hpl := pickT_len l w k i
    have hasc := hgd.asc
    generalize l.getD i default = q at hm hin hrds hyes hno hasc
    clear hgd
    obtain ⟨⟨Ax, cx, L⟩, vx⟩ := q
    dsimp only at hin hyes hno hasc
    have hLl := hin.len
    generalize w.getD i default = wi at hrw hyes
    generalize pickT l w k i = out at hpl hyes hno ⊢
    obtain ⟨outN, houtN⟩ : ∃ o, o = pickT l w k (i + 1) := ⟨_, rfl⟩
    rw [← houtN] at hyes hno
    repeat' first
      | ((with_reducible refine Nx.is_wp ?_); first | refine Nx.wo ?_ | refine Nx.zp (fun hc => ?_) (fun hc => ?_))
      | (refine Nx.zo ?_; first | refine Nx.opr rfl rfl ?_ | refine Nx.indexAddr_nat (A := A) (i := i) (sz := 2) rfl rfl rfl rfl rfl him hA ?_ | refine Nx.loads rfl rfl rfl rfl (hrds _ _) rfl ?_ | refine Nx.so ?_ | refine Nx.sb (fun bx => ?_) | refine Nx.sa (fun A2 c2 => ?_))
      | refine Nx.za ?_ | refine Nx.zr (fun hc => ?_) (fun hc => ?_)
      | refine Nx.zq ?_ | refine Nx.zu (fun hc => ?_) (fun hc => ?_)
      | refine Nx.zx ?_ | fail
    revert bx; intro b26
    refine Nx.p_loop (σ := Nat × List Rat × (Option Addr × Nat)) (fun z => [(0, .int .i64 (n : Int)), (1, .slice A l.length c), (5, .pointer (some ⟨b5, 0, none⟩)), (23, .int .i64 (k : Int)), (24, .slice z.2.2.1 z.2.1.length z.2.2.2), (25, .int .i64 (i : Int)), (186, .slice A l.length c), (187, .int .i64 l.length), (188, .int .i64 (i : Int)), (194, .slice Ax L.length cx), (195, .int .i64 L.length), (196, .int .i64 (z.1 : Int))])
      (fun z => [Vec 24 2 z.2.2.1 z.2.1.length z.2.2.2 (z.2.1.flatMap ratC), Blk b5 27 (prC cell up b Ap pl cp Aw l.length cw), F]) (fun z => z.1 ≤ L.length ∧ z.2.1 = if (k : Int) ∈ L.take z.1 then out ++ [wi] else out) (fun z => L.length - z.1) (0, out, (At, ct)) rfl ⟨Nat.zero_le _, by rw [List.take_zero, if_neg List.not_mem_nil]⟩ ⟨rfl, rfl, rfl, rfl, rfl, rfl, rfl, rfl, rfl, rfl, rfl, rfl, trivial⟩ (by (exact Ent.auto)) ?_
    rintro ⟨j, o, ⟨Ao, co⟩⟩ ⟨hj, ho⟩
    dsimp only at hj ho ⊢
    have hol : o.length ≤ i + 1 := by
      rw [ho]
      split
      · rw [List.length_append, List.length_singleton]; omega
      · omega
    by_cases hjL : j < L.length
    case neg =>
      obtain rfl : j = L.length := by omega
      rw [List.take_length] at ho
      have hoN : o = outN := by
        rw [ho]
        by_cases hmem : (k : Int) ∈ L
        · rw [if_pos hmem, hyes hmem]
        · rw [if_neg hmem, hno hmem]
      repeat' first
        | ((with_reducible refine Nx.is_wp ?_); first | refine Nx.wo ?_ | refine Nx.zp (fun hc => ?_) (fun hc => ?_))
        | (refine Nx.zo ?_; first | refine Nx.opr rfl rfl ?_ | refine Nx.so ?_ | refine Nx.sb (fun bx => ?_) | refine Nx.sa (fun A2 c2 => ?_))
        | refine Nx.za ?_ | refine Nx.zr (fun hc => ?_) (fun hc => ?_)
        | refine Nx.zq ?_ | refine Nx.zu (fun hc => ?_) (fun hc => ?_)
        | refine Nx.zx ?_ | fail
      exact Nx.again (i + 1, (Ao, co)) him (by dsimp only; omega) ⟨rfl, rfl, rfl, rfl, by dsimp only; rw [← houtN, ← hoN]; rfl, rfl, rfl, rfl, trivial⟩ (by dsimp only; rw [← houtN, ← hoN]; (exact Ent.auto))
    have hrd : ∀ (W : World) (R : List Res), Rd W I R ((ad Ax).add (j * 1)) (.int .i64 (L.getD j default)) := fun W R => hin.rd hjL
    have hAx := hin.isSome (by omega)
    have hts := take_snocJ hjL
    have hnew : L.getD j default ∉ L.take j := fun hm2 => by
      have h1 : L.Pairwise (· < ·) := hasc
      rw [← List.take_append_drop (j + 1) L, hts, List.append_assoc, List.singleton_append] at h1
      have := (List.pairwise_append.1 h1).2.2 _ hm2 _ List.mem_cons_self
      omega
    generalize L.getD j default = y at hrd hts hnew
    by_cases hy : y = (k : Int)
    · subst hy
      rw [if_neg hnew] at ho
      subst ho
      repeat' first
        | ((with_reducible refine Nx.is_wp ?_); first | refine Nx.wo ?_ | refine Nx.zp (fun hc => ?_) (fun hc => ?_))
        | (refine Nx.zo ?_; first | refine Nx.opr rfl rfl ?_ | refine Nx.indexAddr_nat (A := Ax) (i := j) (sz := 1) rfl rfl rfl rfl rfl hjL hAx ?_ | refine Nx.load rfl rfl rfl (hrd _ _) ?_ | refine Nx.indexAddr_nat (A := Aw) (i := i) (sz := 2) rfl rfl rfl rfl rfl him hAw ?_ | refine Nx.loads rfl rfl rfl rfl (hrw _ _) rfl ?_ | refine Nx.so ?_ | refine Nx.sb (fun bx => ?_) | refine Nx.sa (fun A2 c2 => ?_))
        | refine Nx.za ?_ | refine Nx.zr (fun hc => ?_) (fun hc => ?_)
        | refine Nx.zq ?_ | refine Nx.zu (fun hc => ?_) (fun hc => ?_)
        | refine Nx.zx ?_ | fail
      all_goals first
        | exact absurd rfl (by assumption)
        | exact Nx.again (j + 1, o ++ [wi], (A2, c2)) ⟨hjL, by dsimp only; rw [hts, if_pos (by simp)]⟩ (by dsimp only; omega) ⟨rfl, rfl, rfl, rfl, by dsimp only; rw [List.length_append]; rfl, rfl, rfl, rfl, rfl, rfl, rfl, rfl, trivial⟩ (by dsimp only; rw [flat_snoc, List.length_append]; (exact Ent.auto))
    · repeat' first
        | ((with_reducible refine Nx.is_wp ?_); first | refine Nx.wo ?_ | refine Nx.zp (fun hc => ?_) (fun hc => ?_))
        | (refine Nx.zo ?_; first | refine Nx.opr rfl rfl ?_ | refine Nx.indexAddr_nat (A := Ax) (i := j) (sz := 1) rfl rfl rfl rfl rfl hjL hAx ?_ | refine Nx.load rfl rfl rfl (hrd _ _) ?_ | refine Nx.so ?_ | refine Nx.sb (fun bx => ?_) | refine Nx.sa (fun A2 c2 => ?_))
        | refine Nx.za ?_ | refine Nx.zr (fun hc => ?_) (fun hc => ?_)
        | refine Nx.zq ?_ | refine Nx.zu (fun hc => ?_) (fun hc => ?_)
        | refine Nx.zx ?_ | fail
      all_goals first
        | exact absurd (by assumption) hy
        | exact Nx.again (j + 1, o, (Ao, co)) ⟨hjL, by
            dsimp only
            rw [ho, hts]
            by_cases hm3 : (k : Int) ∈ L.take j
            · rw [if_pos hm3, if_pos (by simp [hm3])]
            · rw [if_neg hm3, if_neg (by simp [hm3]; exact fun h => hy h.symm)]⟩ (by dsimp only; omega) ⟨rfl, rfl, rfl, rfl, rfl, rfl, rfl, rfl, rfl, rfl, rfl, rfl, trivial⟩ (by (exact Ent.auto))
  obtain rfl : i = l.length := by omega
  have hrb : ∀ y ∈ pickT l w k l.length, RB y := fun y hy => by
    obtain ⟨j, hj, rfl⟩ := List.mem_map.1 hy
    have := List.mem_range.1 (List.mem_filter.1 hj).1
    exact hwr _ (getD_memXB (by omega))
  refine Nx.freezeAt 0 rfl fun I2 m2 hI2 hm2 hf2 => ?_
  have hfz : Rats I2 At ct (pickT l w k l.length) := Vec.sliceN (t := 24) hm2 hf2 fun _ _ => rfl
  have hS := rsumF_spec At ct _ I2 hfz hrb
  have hpl := hfz.len
  have hex : exclB l w cell up k = (match Bl.sumF (pickT l w k l.length) with | none => false | some s => if up then !decide (s < wantF cell k) else !decide (wantF cell k < s)) := rfl
  rw [hex] at hstop hnext
  have hW0 := rwhole_spec 0 I2
  have hW1 := rwhole_spec 1 I2
  generalize (pickT l w k l.length).length = pn at hS hpl ⊢
  cases hs : Bl.sumF (pickT l w k l.length) with
  | none =>
    have hS' : FnSpec Tryz.prog 51 [.slice At pn ct] I2 [] (fun v R' => (∃ r1 r2 : Int, v = .tuple #[.agg #[.int .i64 r1, .int .i64 r2], .bool false]) ∧ R' = []) := FnSpec.mono hS fun v R' h => by
      obtain ⟨r, h1, _, h3⟩ := h
      rw [hs] at h1
      exact ⟨⟨_, _, h1⟩, h3⟩
    rw [hs] at hstop
    by_cases hkc : (k : Int) = cell
    all_goals
      repeat' first
        | ((with_reducible refine Nx.is_wp ?_); first | refine Nx.wo ?_ | refine Nx.zp (fun hc => ?_) (fun hc => ?_))
        | (refine Nx.zo ?_; first | refine Nx.opr rfl rfl ?_ | (refine Nx.call rfl rfl rfl (by kernel_rfl) rfl hS' (by (exact Ent.auto)) ?_; rintro _ _ ⟨⟨r1, r2, rfl⟩, rfl⟩) | refine Nx.callv rfl rfl rfl (by kernel_rfl) rfl hW0 ?_ | refine Nx.callv rfl rfl rfl (by kernel_rfl) rfl hW1 ?_ | refine Nx.so ?_ | refine Nx.sb (fun bx => ?_) | refine Nx.sa (fun A2 c2 => ?_))
        | refine Nx.za ?_ | refine Nx.zr (fun hc => ?_) (fun hc => ?_)
        | refine Nx.zq ?_ | refine Nx.zu (fun hc => ?_) (fun hc => ?_)
        | refine Nx.zx ?_ | fail
      exact Nx.imm_le hI2 (Nx.ret_fn rfl [] ⟨by rw [hstop rfl], rfl⟩ (by (exact Ent.auto)))
  | some s =>
    have hS' : FnSpec Tryz.prog 51 [.slice At pn ct] I2 [] (fun v R' => v = .tuple #[.agg #[.int .i64 s.num, .int .i64 s.den], .bool true] ∧ R' = []) := FnSpec.mono hS fun v R' h => by
      obtain ⟨r, h1, h2, h3⟩ := h
      rw [hs] at h1
      obtain rfl := h2 s hs
      exact ⟨h1, h3⟩
    rw [hs] at hstop hnext
    have hsb := sumF_rb hs
    dsimp only at hstop hnext
    have hWr : RB (wantF cell k) := by
      unfold wantF
      split
      · exact ⟨by decide, by decide⟩
      · exact ⟨by decide, by decide⟩
    have hL1 := rLess_rat s (wantF cell k) hsb hWr I2
    have hL2 := rLess_rat (wantF cell k) s hWr hsb I2
    have hwv : ratV (wantF cell k) = ratV ((if (k : Int) = cell then 1 else 0 : Int) : Rat) := by
      unfold wantF
      split <;> rfl
    rw [hwv] at hL1 hL2
    generalize hd1 : decide (s < wantF cell k) = d1 at hL1 hstop hnext
    generalize hd2 : decide (wantF cell k < s) = d2 at hL2 hstop hnext
    clear hwv hex hS
    by_cases hkc : (k : Int) = cell
    · rw [if_pos hkc] at hL1 hL2
      cases up
      · cases d2
        · repeat' first
            | ((with_reducible refine Nx.is_wp ?_); first | refine Nx.wo ?_ | refine Nx.zp (fun hc => ?_) (fun hc => ?_))
            | (refine Nx.zo ?_; first | refine Nx.opr rfl rfl ?_ | refine Nx.callv rfl rfl rfl (by kernel_rfl) rfl hS' ?_ | refine Nx.callv rfl rfl rfl (by kernel_rfl) rfl hW0 ?_ | refine Nx.callv rfl rfl rfl (by kernel_rfl) rfl hW1 ?_ | refine Nx.callv rfl rfl rfl (by kernel_rfl) rfl hL2 ?_ | refine Nx.so ?_ | refine Nx.sb (fun bx => ?_) | refine Nx.sa (fun A2 c2 => ?_))
            | refine Nx.za ?_ | refine Nx.zr (fun hc => ?_) (fun hc => ?_)
            | refine Nx.zq ?_ | refine Nx.zu (fun hc => ?_) (fun hc => ?_)
            | refine Nx.zx ?_ | fail
          exact Nx.imm_le hI2 (Nx.again (k + 1) ⟨hkn, hnext rfl⟩ (by omega) ⟨rfl, rfl, rfl, rfl, trivial⟩ (by (exact Ent.auto)))
        · repeat' first
            | ((with_reducible refine Nx.is_wp ?_); first | refine Nx.wo ?_ | refine Nx.zp (fun hc => ?_) (fun hc => ?_))
            | (refine Nx.zo ?_; first | refine Nx.opr rfl rfl ?_ | refine Nx.callv rfl rfl rfl (by kernel_rfl) rfl hS' ?_ | refine Nx.callv rfl rfl rfl (by kernel_rfl) rfl hW0 ?_ | refine Nx.callv rfl rfl rfl (by kernel_rfl) rfl hW1 ?_ | refine Nx.callv rfl rfl rfl (by kernel_rfl) rfl hL2 ?_ | refine Nx.so ?_ | refine Nx.sb (fun bx => ?_) | refine Nx.sa (fun A2 c2 => ?_))
            | refine Nx.za ?_ | refine Nx.zr (fun hc => ?_) (fun hc => ?_)
            | refine Nx.zq ?_ | refine Nx.zu (fun hc => ?_) (fun hc => ?_)
            | refine Nx.zx ?_ | fail
          exact Nx.imm_le hI2 (Nx.ret_fn rfl [] ⟨by rw [hstop rfl], rfl⟩ (by (exact Ent.auto)))
      · cases d1
        · repeat' first
            | ((with_reducible refine Nx.is_wp ?_); first | refine Nx.wo ?_ | refine Nx.zp (fun hc => ?_) (fun hc => ?_))
            | (refine Nx.zo ?_; first | refine Nx.opr rfl rfl ?_ | refine Nx.callv rfl rfl rfl (by kernel_rfl) rfl hS' ?_ | refine Nx.callv rfl rfl rfl (by kernel_rfl) rfl hW0 ?_ | refine Nx.callv rfl rfl rfl (by kernel_rfl) rfl hW1 ?_ | refine Nx.callv rfl rfl rfl (by kernel_rfl) rfl hL1 ?_ | refine Nx.so ?_ | refine Nx.sb (fun bx => ?_) | refine Nx.sa (fun A2 c2 => ?_))
            | refine Nx.za ?_ | refine Nx.zr (fun hc => ?_) (fun hc => ?_)
            | refine Nx.zq ?_ | refine Nx.zu (fun hc => ?_) (fun hc => ?_)
            | refine Nx.zx ?_ | fail
          exact Nx.imm_le hI2 (Nx.again (k + 1) ⟨hkn, hnext rfl⟩ (by omega) ⟨rfl, rfl, rfl, rfl, trivial⟩ (by (exact Ent.auto)))
        · repeat' first
            | ((with_reducible refine Nx.is_wp ?_); first | refine Nx.wo ?_ | refine Nx.zp (fun hc => ?_) (fun hc => ?_))
            | (refine Nx.zo ?_; first | refine Nx.opr rfl rfl ?_ | refine Nx.callv rfl rfl rfl (by kernel_rfl) rfl hS' ?_ | refine Nx.callv rfl rfl rfl (by kernel_rfl) rfl hW0 ?_ | refine Nx.callv rfl rfl rfl (by kernel_rfl) rfl hW1 ?_ | refine Nx.callv rfl rfl rfl (by kernel_rfl) rfl hL1 ?_ | refine Nx.so ?_ | refine Nx.sb (fun bx => ?_) | refine Nx.sa (fun A2 c2 => ?_))
            | refine Nx.za ?_ | refine Nx.zr (fun hc => ?_) (fun hc => ?_)
            | refine Nx.zq ?_ | refine Nx.zu (fun hc => ?_) (fun hc => ?_)
            | refine Nx.zx ?_ | fail
          exact Nx.imm_le hI2 (Nx.ret_fn rfl [] ⟨by rw [hstop rfl], rfl⟩ (by (exact Ent.auto)))
    · rw [if_neg hkc] at hL1 hL2
      cases up
      · cases d2
        · repeat' first
            | ((with_reducible refine Nx.is_wp ?_); first | refine Nx.wo ?_ | refine Nx.zp (fun hc => ?_) (fun hc => ?_))
            | (refine Nx.zo ?_; first | refine Nx.opr rfl rfl ?_ | refine Nx.callv rfl rfl rfl (by kernel_rfl) rfl hS' ?_ | refine Nx.callv rfl rfl rfl (by kernel_rfl) rfl hW0 ?_ | refine Nx.callv rfl rfl rfl (by kernel_rfl) rfl hL2 ?_ | refine Nx.so ?_ | refine Nx.sb (fun bx => ?_) | refine Nx.sa (fun A2 c2 => ?_))
            | refine Nx.za ?_ | refine Nx.zr (fun hc => ?_) (fun hc => ?_)
            | refine Nx.zq ?_ | refine Nx.zu (fun hc => ?_) (fun hc => ?_)
            | refine Nx.zx ?_ | fail
          exact Nx.imm_le hI2 (Nx.again (k + 1) ⟨hkn, hnext rfl⟩ (by omega) ⟨rfl, rfl, rfl, rfl, trivial⟩ (by (exact Ent.auto)))
        · repeat' first
            | ((with_reducible refine Nx.is_wp ?_); first | refine Nx.wo ?_ | refine Nx.zp (fun hc => ?_) (fun hc => ?_))
            | (refine Nx.zo ?_; first | refine Nx.opr rfl rfl ?_ | refine Nx.callv rfl rfl rfl (by kernel_rfl) rfl hS' ?_ | refine Nx.callv rfl rfl rfl (by kernel_rfl) rfl hW0 ?_ | refine Nx.callv rfl rfl rfl (by kernel_rfl) rfl hL2 ?_ | refine Nx.so ?_ | refine Nx.sb (fun bx => ?_) | refine Nx.sa (fun A2 c2 => ?_))
            | refine Nx.za ?_ | refine Nx.zr (fun hc => ?_) (fun hc => ?_)
            | refine Nx.zq ?_ | refine Nx.zu (fun hc => ?_) (fun hc => ?_)
            | refine Nx.zx ?_ | fail
          exact Nx.imm_le hI2 (Nx.ret_fn rfl [] ⟨by rw [hstop rfl], rfl⟩ (by (exact Ent.auto)))
      · cases d1
        · repeat' first
            | ((with_reducible refine Nx.is_wp ?_); first | refine Nx.wo ?_ | refine Nx.zp (fun hc => ?_) (fun hc => ?_))
            | (refine Nx.zo ?_; first | refine Nx.opr rfl rfl ?_ | refine Nx.callv rfl rfl rfl (by kernel_rfl) rfl hS' ?_ | refine Nx.callv rfl rfl rfl (by kernel_rfl) rfl hW0 ?_ | refine Nx.callv rfl rfl rfl (by kernel_rfl) rfl hL1 ?_ | refine Nx.so ?_ | refine Nx.sb (fun bx => ?_) | refine Nx.sa (fun A2 c2 => ?_))
            | refine Nx.za ?_ | refine Nx.zr (fun hc => ?_) (fun hc => ?_)
            | refine Nx.zq ?_ | refine Nx.zu (fun hc => ?_) (fun hc => ?_)
            | refine Nx.zx ?_ | fail
          exact Nx.imm_le hI2 (Nx.again (k + 1) ⟨hkn, hnext rfl⟩ (by omega) ⟨rfl, rfl, rfl, rfl, trivial⟩ (by (exact Ent.auto)))
        · repeat' first
            | ((with_reducible refine Nx.is_wp ?_); first | refine Nx.wo ?_ | refine Nx.zp (fun hc => ?_) (fun hc => ?_))
            | (refine Nx.zo ?_; first | refine Nx.opr rfl rfl ?_ | refine Nx.callv rfl rfl rfl (by kernel_rfl) rfl hS' ?_ | refine Nx.callv rfl rfl rfl (by kernel_rfl) rfl hW0 ?_ | refine Nx.callv rfl rfl rfl (by kernel_rfl) rfl hL1 ?_ | refine Nx.so ?_ | refine Nx.sb (fun bx => ?_) | refine Nx.sa (fun A2 c2 => ?_))
            | refine Nx.za ?_ | refine Nx.zr (fun hc => ?_) (fun hc => ?_)
            | refine Nx.zq ?_ | refine Nx.zu (fun hc => ?_) (fun hc => ?_)
            | refine Nx.zx ?_ | fail
          exact Nx.imm_le hI2 (Nx.ret_fn rfl [] ⟨by rw [hstop rfl], rfl⟩ (by (exact Ent.auto)))
end Go.Proofs.YtpcnapidlhpbkaaGreatDoor
namespace Go.Proofs.YtpcnapidlhpbkaaGreatDoor
open Go.Eng Go.Sol
attribute [local irreducible] opK wpList Code.wp Exit.then Exit.inBlock fnPost bodyPost Nx Calls Oper.wp Rd Rds Wr Ent Stars Blk Again Vec FnSpec wpMix QRun Stop Upto wpAt
set_option maxRecDepth 10000 in
theorem rchk17 (w0 : World) (F : Res) (n : Nat) (A : Option Addr) (c : Nat) (l : List EqR) (cell : Int) (up : Bool) (b : Rat) (Ap : Option Addr) (cp : Nat) (X : List Rat) (Aw : Option Addr) (cw : Nat) (w : List Rat) (I : PH) (b5 : Nat) (hn : n ≤ 48) (hl9 : l.length ≤ 1152) (hl : Eqs I A c l) (hg : ∀ q ∈ l, GoodE n q) (hpx : Rats I Ap cp X) (hpn : X.length = n) (hX : ∀ y ∈ X, RB y) (hw : Rats I Aw cw w) (hwl : w.length = l.length) (hwr : ∀ y ∈ w, RB y) :
    Nx ⟨Tryz.prog, 245, w0⟩ [(0, .int .i64 (n : Int)), (1, .slice A l.length c), (5, .pointer (some ⟨b5, 0, none⟩))] I [Blk b5 27 (prC cell up b Ap X.length cp Aw l.length cw), F]
      (Code.wp Tryz.prog (cr (cr (cr (cr (cr (bodyOf Tryz.f15)))))) (fnPost Tryz.prog Tryz.f15 I F w0 (fun v R' => v = .bool (l.all (eqnB X) && weighB l w b && (List.range n).all (exclB l w cell up)) ∧ R' = []))) := by
  have hlen := hl.len
  repeat' first
    | ((with_reducible refine Nx.is_wp ?_); first | refine Nx.wo ?_ | refine Nx.zp (fun hc => ?_) (fun hc => ?_))
    | (refine Nx.zo ?_; first | refine Nx.opr rfl rfl ?_ | refine Nx.so ?_ | refine Nx.sb (fun bx => ?_) | refine Nx.sa (fun A2 c2 => ?_))
    | refine Nx.za ?_ | refine Nx.zr (fun hc => ?_) (fun hc => ?_)
    | refine Nx.zq ?_ | refine Nx.zu (fun hc => ?_) (fun hc => ?_)
    | refine Nx.zx ?_ | fail
  refine Nx.p_loop (σ := Nat × (Option Addr × Nat)) (fun z => [(0, .int .i64 (n : Int)), (1, .slice A l.length c), (5, .pointer (some ⟨b5, 0, none⟩)), (11, .slice z.2.1 z.1 z.2.2), (112, .slice A l.length c), (113, .int .i64 l.length), (114, .int .i64 (z.1 : Int))])
    (fun z => [Vec 24 2 z.2.1 z.1 z.2.2 (((mulL l w).take z.1).flatMap ratC), Blk b5 27 (prC cell up b Ap X.length cp Aw l.length cw), F]) (fun z => z.1 ≤ l.length ∧ (l.take z.1).all (eqnB X) = true ∧ ∀ y ∈ (mulL l w).take z.1, RB y) (fun z => l.length - z.1) (0, (none, 0)) rfl ⟨Nat.zero_le _, by rw [List.take_zero]; rfl, fun y hy => by rw [List.take_zero] at hy; cases hy⟩ ⟨rfl, rfl, rfl, rfl, rfl, rfl, rfl, trivial⟩ ((Ent.vec_nil 24 2 _).trans (by (exact Ent.auto))) ?_
  rintro ⟨i, ⟨At, ct⟩⟩ ⟨hil, hok, hrb⟩
  dsimp only at hil hok hrb ⊢
  by_cases him : i < l.length
  case neg =>
    obtain rfl : i = l.length := by omega
    rw [List.take_length] at hok
    have hml := mulL_len l w
    have htk : (mulL l w).take l.length = mulL l w := by rw [← hml, List.take_length]
    rw [htk] at hrb ⊢
    rw [hok, Bool.true_and]
    refine Nx.freezeAt 0 rfl fun I2 m2 hI2 hm2 hf2 => ?_
    have hfz : Rats I2 At ct (mulL l w) := Vec.sliceN (t := 24) hm2 (by rw [hml]; exact hf2) fun _ _ => rfl
    have hS := rsumF_spec At ct _ I2 hfz hrb
    rw [hml] at hS
    have hall : (mulL l w).all (fun x => decide (RB x)) = true := List.all_eq_true.2 fun y hy => decide_eq_true (hrb y hy)
    have hwB : weighB l w b = decide (Bl.sumF (mulL l w) = some b) := by unfold weighB; rw [hall, Bool.true_and]
    rw [hwB]
    cases hs : Bl.sumF (mulL l w) with
    | none =>
      have hS' : FnSpec Tryz.prog 51 [.slice At l.length ct] I2 [] (fun v R' => (∃ r1 r2 : Int, v = .tuple #[.agg #[.int .i64 r1, .int .i64 r2], .bool false]) ∧ R' = []) := FnSpec.mono hS fun v R' h => by
        obtain ⟨r, h1, _, h3⟩ := h
        rw [hs] at h1
        exact ⟨⟨_, _, h1⟩, h3⟩
      repeat' first
        | ((with_reducible refine Nx.is_wp ?_); first | refine Nx.wo ?_ | refine Nx.zp (fun hc => ?_) (fun hc => ?_))
        | (refine Nx.zo ?_; first | refine Nx.opr rfl rfl ?_ | (refine Nx.call rfl rfl rfl (by kernel_rfl) rfl hS' (by (exact Ent.auto)) ?_; rintro _ _ ⟨⟨r1, r2, rfl⟩, rfl⟩) | refine Nx.so ?_ | refine Nx.sb (fun bx => ?_) | refine Nx.sa (fun A2 c2 => ?_))
        | refine Nx.za ?_ | refine Nx.zr (fun hc => ?_) (fun hc => ?_)
        | refine Nx.zq ?_ | refine Nx.zu (fun hc => ?_) (fun hc => ?_)
        | refine Nx.zx ?_ | fail
      exact Nx.imm_le hI2 (Nx.ret_fn rfl [] ⟨rfl, rfl⟩ (by (exact Ent.auto)))
    | some s =>
      have hS' : FnSpec Tryz.prog 51 [.slice At l.length ct] I2 [] (fun v R' => v = .tuple #[.agg #[.int .i64 s.num, .int .i64 s.den], .bool true] ∧ R' = []) := FnSpec.mono hS fun v R' h => by
        obtain ⟨r, h1, h2, h3⟩ := h
        rw [hs] at h1
        obtain rfl := h2 s hs
        exact ⟨h1, h3⟩
      by_cases hsv : s = b
      · have hE := fun {x y : Operand} (w : World) => neq_fracK (x := x) (y := y) s.num s.den b.num b.den false (decide_eq_false fun hh => hh (rat_eq_iff.2 hsv)) w
        rw [decide_eq_true (by rw [hsv]), Bool.true_and]
        repeat' first
          | ((with_reducible refine Nx.is_wp ?_); first | refine Nx.p_stops 38 rfl ?_ | refine Nx.wo ?_ | refine Nx.zp (fun hc => ?_) (fun hc => ?_))
          | (refine Nx.zo ?_; first | refine Nx.opr rfl rfl ?_ | refine Nx.callv rfl rfl rfl (by kernel_rfl) rfl hS' ?_ | refine Nx.loads rfl rfl rfl rfl (Rds.cut 1 2 rfl rfl) rfl ?_ | refine Nx.binr rfl rfl hE rfl ?_ | refine Nx.so ?_ | refine Nx.sb (fun bx => ?_) | refine Nx.sa (fun A2 c2 => ?_))
          | refine Nx.za ?_ | refine Nx.zr (fun hc => ?_) (fun hc => ?_)
          | refine Nx.zq ?_ | refine Nx.zu (fun hc => ?_) (fun hc => ?_)
          | refine Nx.zx ?_ | fail
        refine Nx.unstop ?_
        exact Nx.imm_le hI2 (Nx.weak (by exact ⟨rfl, rfl, rfl, trivial⟩) (by (exact Ent.auto)) (rchk38 w0 F n A c l cell up b Ap X.length cp Aw cw w I b5 hn hl9 hl hg hw hwl hwr))
      · have hE := fun {x y : Operand} (w : World) => neq_fracK (x := x) (y := y) s.num s.den b.num b.den true (decide_eq_true fun hh => hsv (rat_eq_iff.1 hh)) w
        rw [decide_eq_false fun hh => hsv (Option.some.inj hh), Bool.false_and]
        repeat' first
          | ((with_reducible refine Nx.is_wp ?_); first | refine Nx.wo ?_ | refine Nx.zp (fun hc => ?_) (fun hc => ?_))
          | (refine Nx.zo ?_; first | refine Nx.opr rfl rfl ?_ | refine Nx.callv rfl rfl rfl (by kernel_rfl) rfl hS' ?_ | refine Nx.loads rfl rfl rfl rfl (Rds.cut 1 2 rfl rfl) rfl ?_ | refine Nx.binr rfl rfl hE rfl ?_ | refine Nx.so ?_ | refine Nx.sb (fun bx => ?_) | refine Nx.sa (fun A2 c2 => ?_))
          | refine Nx.za ?_ | refine Nx.zr (fun hc => ?_) (fun hc => ?_)
          | refine Nx.zq ?_ | refine Nx.zu (fun hc => ?_) (fun hc => ?_)
          | refine Nx.zx ?_ | fail
        exact Nx.imm_le hI2 (Nx.ret_fn rfl [] ⟨rfl, rfl⟩ (by (exact Ent.auto)))
  have hm := getD_memQ him
  have hgood := hg _ hm
  have hin := hl.inner _ hm
  have hrds : ∀ (W : World) (R : List Res), Rds W I R ((ad A).add (i * 2)) (eqC (l.getD i default)) := fun W R => hl.outer.rds him
  have hA := hl.outer.isSome (by omega) (by omega)
  have hnext : eqnB X (l.getD i default) = true → (l.take (i + 1)).all (eqnB X) = true := fun h => by rw [take_snocQ him, List.all_append, hok]; simpa using h
  have hstop : eqnB X (l.getD i default) = false → l.all (eqnB X) = false := fun h => all_no hm h
  have hiw : i < w.length := by omega
  have hrw : ∀ (W : World) (R : List Res), Rds W I R ((ad Aw).add (i * 2)) (ratC (w.getD i default)) := fun W R => hw.rds hiw
  have hAw := hw.isSome (by omega) (by omega)
  have hwb := hwr _ (getD_memXB hiw)
  have hts0 := take_snocX (l := mulL l w) (k := i) (by rw [mulL_len]; exact him)
  have hmem0 := getD_memXB (l := mulL l w) (k := i) (by rw [mulL_len]; exact him)
  have hat := mulL_at (w := w) him
  have hbad : ¬ RB ((mulL l w).getD i default) → weighB l w b = false := fun h => by
    unfold weighB
    rw [all_no hmem0 (decide_eq_false h), Bool.false_and]
  generalize l.getD i default = q at hm hgood hin hrds hnext hstop hat
  have hlt := hgood.lt
  have hqv := hgood.val
  have hLn := asc_len (a := 0) (n := n) hgood.asc fun y hy => by have := hlt y hy; omega
  have heq : eqnB X q = decide (Bl.sumF (termL X q.1.2.2 q.1.2.2.length) = some (q.2 : Rat)) := by unfold eqnB termL; rw [List.take_length]
  rw [heq] at hnext hstop
  clear hgood heq hmem0
  obtain ⟨⟨Ax, cx, L⟩, vx⟩ := q
  dsimp only at hin hlt hqv hnext hstop hLn hat
  have hLl := hin.len
  obtain ⟨wi, hwi2⟩ : ∃ wi, w.getD i default = wi := ⟨_, rfl⟩
  rw [hwi2] at hrw hwb hat
  generalize (mulL l w).getD i default = tm at hts0 hat hbad
  repeat' first
    | ((with_reducible refine Nx.is_wp ?_); first | refine Nx.wo ?_ | refine Nx.zp (fun hc => ?_) (fun hc => ?_))
    | (refine Nx.zo ?_; first | refine Nx.opr rfl rfl ?_ | refine Nx.indexAddr_nat (A := A) (i := i) (sz := 2) rfl rfl rfl rfl rfl him hA ?_ | refine Nx.loads rfl rfl rfl rfl (hrds _ _) rfl ?_ | refine Nx.so ?_ | refine Nx.sb (fun bx => ?_) | refine Nx.sa (fun A2 c2 => ?_))
    | refine Nx.za ?_ | refine Nx.zr (fun hc => ?_) (fun hc => ?_)
    | refine Nx.zq ?_ | refine Nx.zu (fun hc => ?_) (fun hc => ?_)
    | refine Nx.zx ?_ | fail
  revert bx; intro b13
  refine Nx.p_loop (σ := Nat × (Option Addr × Nat)) (fun z => [(0, .int .i64 (n : Int)), (1, .slice A l.length c), (5, .pointer (some ⟨b5, 0, none⟩)), (11, .slice At i ct), (12, .int .i64 (i : Int)), (13, .pointer (some ⟨b13, 0, none⟩)), (14, .slice z.2.1 z.1 z.2.2), (112, .slice A l.length c), (113, .int .i64 l.length), (114, .int .i64 (i : Int)), (120, .slice Ax L.length cx), (121, .int .i64 (L.length : Int)), (122, .int .i64 (z.1 : Int))])
    (fun z => [Vec 24 2 z.2.1 z.1 z.2.2 ((termL X L z.1).flatMap ratC), Vec 24 2 At i ct (((mulL l w).take i).flatMap ratC), Blk b13 46 [.slice Ax L.length cx, .int .i64 vx], Blk b5 27 (prC cell up b Ap X.length cp Aw l.length cw), F]) (fun z => z.1 ≤ L.length) (fun z => L.length - z.1) (0, (none, 0)) rfl (Nat.zero_le _) ⟨rfl, rfl, rfl, rfl, rfl, rfl, rfl, rfl, rfl, rfl, rfl, rfl, rfl, trivial⟩ ((Ent.vec_nil 24 2 _).trans (by (exact Ent.auto))) ?_
  rintro ⟨j, ⟨Ao, co⟩⟩ hj
  have hj : j ≤ L.length := hj
  dsimp only
  by_cases hjL : j < L.length
  · have hrd : ∀ (W : World) (R : List Res), Rd W I R ((ad Ax).add (j * 1)) (.int .i64 (L.getD j default)) := fun W R => hin.rd hjL
    have hcb := hlt (L.getD j default) (by rw [List.getD_eq_getElem?_getD, List.getElem?_eq_getElem hjL]; exact List.getElem_mem _)
    obtain ⟨cN, hcN⟩ : ∃ cN : Nat, L.getD j default = (cN : Int) := ⟨(L.getD j default).toNat, by omega⟩
    have hts := termL_succ (x := X) hjL
    rw [hcN] at hrd hcb hts
    rw [Int.toNat_natCast] at hts
    have hcX : cN < X.length := by omega
    have hrx : ∀ (W : World) (R : List Res), Rds W I R ((ad Ap).add (cN * 2)) (ratC (X.getD cN default)) := fun W R => hpx.rds hcX
    have hAp := hpx.isSome (by omega) (by omega)
    have hAx := hin.isSome (by omega)
    generalize X.getD cN default = y at hts hrx
    repeat' first
      | ((with_reducible refine Nx.is_wp ?_); first | refine Nx.wo ?_ | refine Nx.zp (fun hc => ?_) (fun hc => ?_))
      | (refine Nx.zo ?_; first | refine Nx.opr rfl rfl ?_ | refine Nx.indexAddr_nat (A := Ax) (i := j) (sz := 1) rfl rfl rfl rfl rfl hjL hAx ?_ | refine Nx.load rfl rfl rfl (hrd _ _) ?_ | refine Nx.indexAddr_nat (A := Ap) (i := cN) (sz := 2) rfl rfl rfl rfl rfl hcX hAp ?_ | refine Nx.loads rfl rfl rfl rfl (hrx _ _) rfl ?_ | refine Nx.so ?_ | refine Nx.sb (fun bx => ?_) | refine Nx.sa (fun A2 c2 => ?_))
      | refine Nx.za ?_ | refine Nx.zr (fun hc => ?_) (fun hc => ?_)
      | refine Nx.zq ?_ | refine Nx.zu (fun hc => ?_) (fun hc => ?_)
      | refine Nx.zx ?_ | fail
    exact Nx.again (j + 1, (A2, c2)) hjL (by dsimp only; omega) ⟨rfl, rfl, rfl, rfl, rfl, rfl, rfl, rfl, rfl, rfl, rfl, rfl, rfl, trivial⟩ (by dsimp only; rw [hts, flat_snoc]; (exact Ent.auto))
  obtain rfl : j = L.length := by omega
  have htl := termL_len (x := X) (Nat.le_refl L.length)
  have hrbt : ∀ y ∈ termL X L L.length, RB y := fun y hy => by
    obtain ⟨z, hz, rfl⟩ := List.mem_map.1 hy
    have := hlt z (List.mem_of_mem_take hz)
    exact hX _ (getD_memXB (by omega))
  refine Nx.freezeAt 0 rfl fun I2 m2 hI2 hm2 hf2 => ?_
  have hfz : Rats I2 Ao co (termL X L L.length) := Vec.sliceN (t := 24) hm2 (by rw [htl]; exact hf2) fun _ _ => rfl
  have hS := rsumF_spec Ao co _ I2 hfz hrbt
  rw [htl] at hS
  have hW := rwhole_spec vx I2
  have hrw2 : ∀ (W : World) (R : List Res), Rds W I2 R ((ad Aw).add (i * 2)) (ratC wi) := fun W R => hwi2 ▸ (hw.mono hI2).rds hiw
  cases hs : Bl.sumF (termL X L L.length) with
  | none =>
    have hS' : FnSpec Tryz.prog 51 [.slice Ao L.length co] I2 [] (fun v R' => (∃ r1 r2 : Int, v = .tuple #[.agg #[.int .i64 r1, .int .i64 r2], .bool false]) ∧ R' = []) := FnSpec.mono hS fun v R' h => by
      obtain ⟨r, h1, _, h3⟩ := h
      rw [hs] at h1
      exact ⟨⟨_, _, h1⟩, h3⟩
    rw [hs] at hstop
    repeat' first
      | ((with_reducible refine Nx.is_wp ?_); first | refine Nx.wo ?_ | refine Nx.p_draw (id := 15) rfl [0, 1, 2, 3, 4, 5, 6, 7, 8] [] _ rfl rfl (by kernel_rfl) (by kernel_rfl) rfl PanicOk.auto (Ent.refl _) ?_ | refine Nx.p_draw (id := 28) rfl [0, 1, 2, 3, 4, 5, 6, 7, 8] [6] _ rfl rfl (by kernel_rfl) (by kernel_rfl) rfl PanicOk.auto (Ent.refl _) ?_ | refine Nx.zp (fun hc => ?_) (fun hc => ?_))
      | (refine Nx.zo ?_; first | refine Nx.opr rfl rfl ?_ | (refine Nx.call rfl rfl rfl (by kernel_rfl) rfl hS' (by (exact Ent.auto)) ?_; rintro _ _ ⟨⟨r1, r2, rfl⟩, rfl⟩) | refine Nx.so ?_ | refine Nx.sb (fun bx => ?_) | refine Nx.sa (fun A2 c2 => ?_))
      | refine Nx.za ?_ | refine Nx.zr (fun hc => ?_) (fun hc => ?_)
      | refine Nx.zq ?_ | refine Nx.zu (fun hc => ?_) (fun hc => ?_)
      | refine Nx.zx ?_ | fail
    exact Nx.imm_le hI2 (Nx.ret_fn rfl [] ⟨by rw [hstop rfl, Bool.false_and, Bool.false_and], rfl⟩ (by (exact Ent.auto)))
  | some s =>
    have hS' : FnSpec Tryz.prog 51 [.slice Ao L.length co] I2 [] (fun v R' => v = .tuple #[.agg #[.int .i64 s.num, .int .i64 s.den], .bool true] ∧ R' = []) := FnSpec.mono hS fun v R' h => by
      obtain ⟨r, h1, h2, h3⟩ := h
      rw [hs] at h1
      obtain rfl := h2 s hs
      exact ⟨h1, h3⟩
    rw [hs] at hstop hnext
    by_cases hsv : s = (vx : Rat)
    case neg =>
      have hE := fun {x y : Operand} (w : World) => neq_fracK (x := x) (y := y) s.num s.den (vx : Rat).num (vx : Rat).den true (decide_eq_true fun hh => hsv (rat_eq_iff.1 hh)) w
      repeat' first
        | ((with_reducible refine Nx.is_wp ?_); first | refine Nx.wo ?_ | refine Nx.p_draw (id := 15) rfl [0, 1, 2, 3, 4, 5, 6, 7, 8] [] _ rfl rfl (by kernel_rfl) (by kernel_rfl) rfl PanicOk.auto (Ent.refl _) ?_ | refine Nx.p_draw (id := 28) rfl [0, 1, 2, 3, 4, 5, 6, 7, 8] [6] _ rfl rfl (by kernel_rfl) (by kernel_rfl) rfl PanicOk.auto (Ent.refl _) ?_ | refine Nx.zp (fun hc => ?_) (fun hc => ?_))
        | (refine Nx.zo ?_; first | refine Nx.opr rfl rfl ?_ | refine Nx.binr rfl rfl hE rfl ?_ | refine Nx.callv rfl rfl rfl (by kernel_rfl) rfl hS' ?_ | refine Nx.callv rfl rfl rfl (by kernel_rfl) rfl hW ?_ | refine Nx.so ?_ | refine Nx.sb (fun bx => ?_) | refine Nx.sa (fun A2 c2 => ?_))
        | refine Nx.za ?_ | refine Nx.zr (fun hc => ?_) (fun hc => ?_)
        | ((with_reducible refine Nx.is_mix ?_); first | refine Nx.m_quiet rfl rfl rfl rfl rfl (by first | exact QRun.opr rfl | exact QRun.binr rfl rfl hE) ?_ | refine Nx.m_quiet_do rfl rfl rfl rfl rfl rfl rfl (by first | exact QRun.opr rfl | exact QRun.binr rfl rfl hE) ?_ | refine Nx.m ?_ | refine Nx.zm ?_ | refine Nx.zt (fun hc => ?_) (fun hc => ?_))
        | refine Nx.zx ?_ | fail
      exact Nx.imm_le hI2 (Nx.ret_fn rfl [] ⟨by rw [hstop (decide_eq_false fun hh => hsv (Option.some.inj hh)), Bool.false_and, Bool.false_and], rfl⟩ (by (exact Ent.auto)))
    have hE := fun {x y : Operand} (w : World) => neq_fracK (x := x) (y := y) s.num s.den (vx : Rat).num (vx : Rat).den false (decide_eq_false fun hh => hh (rat_eq_iff.2 hsv)) w
    have hM := rMul_rat wi (vx : Rat) hwb (RB_int (by omega)) I2
    rw [← hat] at hM
    clear hat
    by_cases hy : RB tm
    · rw [redV_pos hy] at hM
      repeat' first
        | ((with_reducible refine Nx.is_wp ?_); first | refine Nx.wo ?_ | refine Nx.p_drawF (id := 15) rfl [0, 1, 2, 3, 4, 5, 6, 7, 8] [] [] _ rfl rfl (by kernel_rfl) (by kernel_rfl) rfl PanicOk.auto (Ent.refl _) ?_ | refine Nx.p_drawF (id := 28) rfl [0, 1, 2, 3, 4, 5, 6, 7, 8] [6] [] _ rfl rfl (by kernel_rfl) (by kernel_rfl) rfl PanicOk.auto (Ent.refl _) ?_ | refine Nx.p_poolF (id := 30) rfl [0, 1, 2, 3, 4, 5, 6, 7, 8, 9, 10, 11] [7, 8] [11, 10] [13, 14] [13] [⟨12, 19, 24, _⟩] rfl rfl (by kernel_rfl) (by kernel_rfl) (by decide) (PoolFit.cons ⟨⟨_, _, _, rfl⟩, rfl, rfl⟩ PoolFit.nil) PanicOk.auto (Ent.refl _) ?_ | refine Nx.zp (fun hc => ?_) (fun hc => ?_))
        | ((first | refine Nx.at_op rfl rfl ?_ | refine Nx.m_loud rfl rfl rfl ?_ | refine Nx.at_do rfl rfl rfl rfl ?_ | refine Nx.m_loud_do rfl rfl rfl rfl rfl ?_ | refine GoodF.loud_ rfl rfl rfl rfl (fun ex X => ?_)); first | refine Nx.opr rfl rfl ?_ | refine Nx.binr rfl rfl hE rfl ?_ | refine Nx.callv rfl rfl rfl (by kernel_rfl) rfl hS' ?_ | refine Nx.callv rfl rfl rfl (by kernel_rfl) rfl hW ?_ | refine Nx.callv rfl rfl rfl (by kernel_rfl) rfl hM ?_ | refine Nx.so ?_ | refine Nx.sb (fun bx => ?_) | refine Nx.sa (fun A2 c2 => ?_))
        | refine Nx.za ?_ | refine Nx.zr (fun hc => ?_) (fun hc => ?_)
        | ((with_reducible refine Nx.is_mix ?_); first | refine Nx.m_quiet rfl rfl rfl rfl rfl (by first | exact QRun.opr rfl | exact QRun.binr rfl rfl hE | exact QRun.idx (A := Aw) (i := i) (sz := 2) rfl rfl rfl rfl him hAw | exact QRun.loads rfl rfl rfl (hrw2 _ _) rfl) ?_ | refine Nx.m_quiet_do rfl rfl rfl rfl rfl rfl rfl (by first | exact QRun.opr rfl | exact QRun.binr rfl rfl hE | exact QRun.idx (A := Aw) (i := i) (sz := 2) rfl rfl rfl rfl him hAw | exact QRun.loads rfl rfl rfl (hrw2 _ _) rfl) ?_ | refine Nx.m ?_ | refine Nx.zm ?_ | refine Nx.zt (fun hc => ?_) (fun hc => ?_))
        | ((with_reducible refine GoodF.is ?_); first | refine GoodF.quiet rfl rfl rfl rfl rfl rfl (by first | exact QRun.opr rfl | exact QRun.binr rfl rfl hE | exact QRun.idx (A := Aw) (i := i) (sz := 2) rfl rfl rfl rfl him hAw | exact QRun.loads rfl rfl rfl (hrw2 _ _) rfl |  exact QRun.std) ?_ | refine GoodF.done1 rfl (fun bx => ?_) | refine GoodF.done2 rfl (fun bx by_ => ?_) | refine GoodF.done3 rfl (fun bx by_ bz => ?_))
        | ((fail_if_success (with_reducible refine Nx.is_at ?_)); (fail_if_success (with_reducible refine Nx.is_wp ?_)); (fail_if_success (with_reducible refine Nx.is_mix ?_)); first | refine Nx.ex ?_ | refine Nx.pool_nextF 0 rfl (by exact Ent.auto) ?_ | refine Nx.pool_nextF 1 rfl (by exact Ent.auto) ?_ | refine Nx.pool_nextF 2 rfl (by exact Ent.auto) ?_ | refine Nx.pool_nextF 3 rfl (by exact Ent.auto) ?_)
      exact Nx.imm_le hI2 (Nx.again (i + 1, (A2, c2)) ⟨him, hnext (decide_eq_true (by rw [hsv])), fun z hz => by
        rw [hts0] at hz
        rcases List.mem_append.1 hz with hz | hz
        · exact hrb z hz
        · rw [List.mem_singleton] at hz; rw [hz]; exact hy⟩ (by dsimp only; omega) ⟨rfl, rfl, rfl, rfl, rfl, rfl, rfl, trivial⟩ (by dsimp only; rw [hts0, flat_snoc]; (exact Ent.auto)))
    · rw [redV_neg hy] at hM
      repeat' first
        | ((with_reducible refine Nx.is_wp ?_); first | refine Nx.wo ?_ | refine Nx.p_drawF (id := 15) rfl [0, 1, 2, 3, 4, 5, 6, 7, 8] [] [] _ rfl rfl (by kernel_rfl) (by kernel_rfl) rfl PanicOk.auto (Ent.refl _) ?_ | refine Nx.p_drawF (id := 28) rfl [0, 1, 2, 3, 4, 5, 6, 7, 8] [6] [] _ rfl rfl (by kernel_rfl) (by kernel_rfl) rfl PanicOk.auto (Ent.refl _) ?_ | refine Nx.p_poolF (id := 30) rfl [0, 1, 2, 3, 4, 5, 6, 7, 8, 9, 10, 11] [7, 8] [11, 10] [13, 14] [13] [⟨12, 19, 24, _⟩] rfl rfl (by kernel_rfl) (by kernel_rfl) (by decide) (PoolFit.cons ⟨⟨_, _, _, rfl⟩, rfl, rfl⟩ PoolFit.nil) PanicOk.auto (Ent.refl _) ?_ | refine Nx.zp (fun hc => ?_) (fun hc => ?_))
        | ((first | refine Nx.at_op rfl rfl ?_ | refine Nx.m_loud rfl rfl rfl ?_ | refine Nx.at_do rfl rfl rfl rfl ?_ | refine Nx.m_loud_do rfl rfl rfl rfl rfl ?_ | refine GoodF.loud_ rfl rfl rfl rfl (fun ex X => ?_)); first | refine Nx.opr rfl rfl ?_ | refine Nx.binr rfl rfl hE rfl ?_ | refine Nx.callv rfl rfl rfl (by kernel_rfl) rfl hS' ?_ | refine Nx.callv rfl rfl rfl (by kernel_rfl) rfl hW ?_ | refine Nx.callv rfl rfl rfl (by kernel_rfl) rfl hM ?_ | refine Nx.so ?_ | refine Nx.sb (fun bx => ?_) | refine Nx.sa (fun A2 c2 => ?_))
        | refine Nx.za ?_ | refine Nx.zr (fun hc => ?_) (fun hc => ?_)
        | ((with_reducible refine Nx.is_mix ?_); first | refine Nx.m_quiet rfl rfl rfl rfl rfl (by first | exact QRun.opr rfl | exact QRun.binr rfl rfl hE | exact QRun.idx (A := Aw) (i := i) (sz := 2) rfl rfl rfl rfl him hAw | exact QRun.loads rfl rfl rfl (hrw2 _ _) rfl) ?_ | refine Nx.m_quiet_do rfl rfl rfl rfl rfl rfl rfl (by first | exact QRun.opr rfl | exact QRun.binr rfl rfl hE | exact QRun.idx (A := Aw) (i := i) (sz := 2) rfl rfl rfl rfl him hAw | exact QRun.loads rfl rfl rfl (hrw2 _ _) rfl) ?_ | refine Nx.m ?_ | refine Nx.zm ?_ | refine Nx.zt (fun hc => ?_) (fun hc => ?_))
        | ((with_reducible refine GoodF.is ?_); first | refine GoodF.quiet rfl rfl rfl rfl rfl rfl (by first | exact QRun.opr rfl | exact QRun.binr rfl rfl hE | exact QRun.idx (A := Aw) (i := i) (sz := 2) rfl rfl rfl rfl him hAw | exact QRun.loads rfl rfl rfl (hrw2 _ _) rfl |  exact QRun.std) ?_ | refine GoodF.done1 rfl (fun bx => ?_) | refine GoodF.done2 rfl (fun bx by_ => ?_) | refine GoodF.done3 rfl (fun bx by_ bz => ?_))
        | ((fail_if_success (with_reducible refine Nx.is_at ?_)); (fail_if_success (with_reducible refine Nx.is_wp ?_)); (fail_if_success (with_reducible refine Nx.is_mix ?_)); first | refine Nx.ex ?_ | refine Nx.pool_nextF 0 rfl (by exact Ent.auto) ?_ | refine Nx.pool_nextF 1 rfl (by exact Ent.auto) ?_ | refine Nx.pool_nextF 2 rfl (by exact Ent.auto) ?_ | refine Nx.pool_nextF 3 rfl (by exact Ent.auto) ?_)
      exact Nx.imm_le hI2 (Nx.ret_fn rfl [] ⟨by rw [hbad hy, Bool.and_false, Bool.false_and], rfl⟩ (by (exact Ent.auto)))
set_option maxRecDepth 10000 in
theorem R30Check_spec (n : Int) (A : Option Addr) (c : Nat) (l : List EqR) (p : PrM) (I : PH) (hl : Eqs I A c l) (hp : PrIn I p) :
    FnSpec Tryz.prog 15 [.int .i64 n, .slice A l.length c, p.V] I [] (fun v R' => v = .bool (chkP n l p) ∧ R' = []) := by
  have hlen := hl.len
  have hpl := hp.pts.len
  have hwl := hp.wts.len
  have hV := RValid_spec n A c l I hl
  have hFb : FnSpec Tryz.prog 50 [.agg #[.int .i64 p.bnd.1, .int .i64 p.bnd.2]] I [] (fun v R' => v = .bool (fokB p.bnd) ∧ R' = []) := rValid_spec p.bnd.1 p.bnd.2 hp.bnd.1 hp.bnd.2 I
  have hVr : ∀ x : RawF, I64F x → FnSpec Tryz.prog 50 [.agg #[.int .i64 x.1, .int .i64 x.2]] I [] (fun v R' => v = .bool (fokB x) ∧ R' = []) := fun x hx => rValid_spec x.1 x.2 hx.1 hx.2 I
  have hpts := hp.pts
  have hwts := hp.wts
  have hpn := hp.pn
  have hwn := hp.wn
  obtain ⟨cell, up, ⟨bn, bd⟩, Ap, cp, pts, Aw, cw, wts⟩ := p
  dsimp only at hpl hwl hFb hpts hwts hpn hwn
  dsimp only [PrM.V]
  refine FnSpec.enterP Tryz.func15 rfl Tryz.ntmps15 rfl fun w F => ?_
  by_cases h1 : 1 ≤ n
  case neg =>
    rw [chkP_no1 fun h => h1 h.1.1]
    repeat' first
      | ((with_reducible refine Nx.is_wp ?_); first | refine Nx.wo ?_ | refine Nx.zp (fun hc => ?_) (fun hc => ?_))
      | (refine Nx.zo ?_; first | refine Nx.opr rfl rfl ?_ | refine Nx.so ?_ | refine Nx.sb (fun bx => ?_) | refine Nx.sa (fun A2 c2 => ?_))
      | refine Nx.za ?_ | refine Nx.zr (fun hc => ?_) (fun hc => ?_)
      | refine Nx.zq ?_ | refine Nx.zu (fun hc => ?_) (fun hc => ?_)
      | refine Nx.zx ?_ | fail
    exact Nx.ret_fn rfl [] ⟨rfl, rfl⟩ (by (exact Ent.auto))
  by_cases h2 : n ≤ 10
  case neg =>
    rw [chkP_no1 fun h => h2 h.1.2]
    repeat' first
      | ((with_reducible refine Nx.is_wp ?_); first | refine Nx.wo ?_ | refine Nx.zp (fun hc => ?_) (fun hc => ?_))
      | (refine Nx.zo ?_; first | refine Nx.opr rfl rfl ?_ | refine Nx.so ?_ | refine Nx.sb (fun bx => ?_) | refine Nx.sa (fun A2 c2 => ?_))
      | refine Nx.za ?_ | refine Nx.zr (fun hc => ?_) (fun hc => ?_)
      | refine Nx.zq ?_ | refine Nx.zu (fun hc => ?_) (fun hc => ?_)
      | refine Nx.zx ?_ | fail
    exact Nx.ret_fn rfl [] ⟨rfl, rfl⟩ (by (exact Ent.auto))
  cases hv : validB n l with
  | false =>
    rw [hv] at hV
    rw [chkP_no1 fun h => by rw [hv] at h; cases h.2.1]
    repeat' first
      | ((with_reducible refine Nx.is_wp ?_); first | refine Nx.wo ?_ | refine Nx.zp (fun hc => ?_) (fun hc => ?_))
      | (refine Nx.zo ?_; first | refine Nx.opr rfl rfl ?_ | refine Nx.callv rfl rfl rfl (by kernel_rfl) rfl hV ?_ | refine Nx.so ?_ | refine Nx.sb (fun bx => ?_) | refine Nx.sa (fun A2 c2 => ?_))
      | refine Nx.za ?_ | refine Nx.zr (fun hc => ?_) (fun hc => ?_)
      | refine Nx.zq ?_ | refine Nx.zu (fun hc => ?_) (fun hc => ?_)
      | refine Nx.zx ?_ | fail
    exact Nx.ret_fn rfl [] ⟨rfl, rfl⟩ (by (exact Ent.auto))
  | true =>
  rw [hv] at hV
  by_cases h3 : 0 ≤ cell
  case neg =>
    rw [chkP_no1 fun h => h3 h.2.2.1]
    repeat' first
      | ((with_reducible refine Nx.is_wp ?_); first | refine Nx.wo ?_ | refine Nx.zp (fun hc => ?_) (fun hc => ?_))
      | (refine Nx.zo ?_; first | refine Nx.opr rfl rfl ?_ | refine Nx.callv rfl rfl rfl (by kernel_rfl) rfl hV ?_ | refine Nx.so ?_ | refine Nx.sb (fun bx => ?_) | refine Nx.sa (fun A2 c2 => ?_))
      | refine Nx.za ?_ | refine Nx.zr (fun hc => ?_) (fun hc => ?_)
      | refine Nx.zq ?_ | refine Nx.zu (fun hc => ?_) (fun hc => ?_)
      | refine Nx.zx ?_ | fail
    exact Nx.ret_fn rfl [] ⟨rfl, rfl⟩ (by (exact Ent.auto))
  by_cases h4 : cell < n
  case neg =>
    rw [chkP_no1 fun h => h4 h.2.2.2.1]
    repeat' first
      | ((with_reducible refine Nx.is_wp ?_); first | refine Nx.wo ?_ | refine Nx.zp (fun hc => ?_) (fun hc => ?_))
      | (refine Nx.zo ?_; first | refine Nx.opr rfl rfl ?_ | refine Nx.callv rfl rfl rfl (by kernel_rfl) rfl hV ?_ | refine Nx.so ?_ | refine Nx.sb (fun bx => ?_) | refine Nx.sa (fun A2 c2 => ?_))
      | refine Nx.za ?_ | refine Nx.zr (fun hc => ?_) (fun hc => ?_)
      | refine Nx.zq ?_ | refine Nx.zu (fun hc => ?_) (fun hc => ?_)
      | refine Nx.zx ?_ | fail
    exact Nx.ret_fn rfl [] ⟨rfl, rfl⟩ (by (exact Ent.auto))
  by_cases h5 : (pts.length : Int) = n
  case neg =>
    rw [chkP_no1 fun h => h5 h.2.2.2.2.1]
    repeat' first
      | ((with_reducible refine Nx.is_wp ?_); first | refine Nx.wo ?_ | refine Nx.zp (fun hc => ?_) (fun hc => ?_))
      | (refine Nx.zo ?_; first | refine Nx.opr rfl rfl ?_ | refine Nx.callv rfl rfl rfl (by kernel_rfl) rfl hV ?_ | refine Nx.so ?_ | refine Nx.sb (fun bx => ?_) | refine Nx.sa (fun A2 c2 => ?_))
      | refine Nx.za ?_ | refine Nx.zr (fun hc => ?_) (fun hc => ?_)
      | refine Nx.zq ?_ | refine Nx.zu (fun hc => ?_) (fun hc => ?_)
      | refine Nx.zx ?_ | fail
    exact Nx.ret_fn rfl [] ⟨rfl, rfl⟩ (by (exact Ent.auto))
  by_cases h6 : (wts.length : Int) = l.length
  case neg =>
    rw [chkP_no1 fun h => h6 (by have := h.2.2.2.2.2; dsimp only at this; omega)]
    repeat' first
      | ((with_reducible refine Nx.is_wp ?_); first | refine Nx.wo ?_ | refine Nx.zp (fun hc => ?_) (fun hc => ?_))
      | (refine Nx.zo ?_; first | refine Nx.opr rfl rfl ?_ | refine Nx.callv rfl rfl rfl (by kernel_rfl) rfl hV ?_ | refine Nx.so ?_ | refine Nx.sb (fun bx => ?_) | refine Nx.sa (fun A2 c2 => ?_))
      | refine Nx.za ?_ | refine Nx.zr (fun hc => ?_) (fun hc => ?_)
      | refine Nx.zq ?_ | refine Nx.zu (fun hc => ?_) (fun hc => ?_)
      | refine Nx.zx ?_ | fail
    exact Nx.ret_fn rfl [] ⟨rfl, rfl⟩ (by (exact Ent.auto))
  cases h7 : fokB (bn, bd) with
  | false =>
    rw [h7] at hFb
    rw [chkP_no2 fun h => by rw [show fokB _ = false from h7] at h; cases h.1]
    repeat' first
      | ((with_reducible refine Nx.is_wp ?_); first | refine Nx.wo ?_ | refine Nx.zp (fun hc => ?_) (fun hc => ?_))
      | (refine Nx.zo ?_; first | refine Nx.opr rfl rfl ?_ | refine Nx.callv rfl rfl rfl (by kernel_rfl) rfl hV ?_ | refine Nx.loads rfl rfl rfl rfl (Rds.cut 0 2 rfl rfl) rfl ?_ | refine Nx.callv rfl rfl rfl (by kernel_rfl) rfl hFb ?_ | refine Nx.so ?_ | refine Nx.sb (fun bx => ?_) | refine Nx.sa (fun A2 c2 => ?_))
      | refine Nx.za ?_ | refine Nx.zr (fun hc => ?_) (fun hc => ?_)
      | refine Nx.zq ?_ | refine Nx.zu (fun hc => ?_) (fun hc => ?_)
      | refine Nx.zx ?_ | fail
    exact Nx.ret_fn rfl [] ⟨rfl, rfl⟩ (by (exact Ent.auto))
  | true =>
  rw [h7] at hFb
  repeat' first
    | ((with_reducible refine Nx.is_wp ?_); first | refine Nx.wo ?_ | refine Nx.zp (fun hc => ?_) (fun hc => ?_))
    | (refine Nx.zo ?_; first | refine Nx.opr rfl rfl ?_ | refine Nx.callv rfl rfl rfl (by kernel_rfl) rfl hV ?_ | refine Nx.loads rfl rfl rfl rfl (Rds.cut 0 2 rfl rfl) rfl ?_ | refine Nx.callv rfl rfl rfl (by kernel_rfl) rfl hFb ?_ | refine Nx.so ?_ | refine Nx.sb (fun bx => ?_) | refine Nx.sa (fun A2 c2 => ?_))
    | refine Nx.za ?_ | refine Nx.zr (fun hc => ?_) (fun hc => ?_)
    | refine Nx.zq ?_ | refine Nx.zu (fun hc => ?_) (fun hc => ?_)
    | refine Nx.zx ?_ | fail
  revert bx; intro b5
  have hchk := fun hw => chkP_mid (p := ⟨cell, up, (bn, bd), Ap, cp, pts, Aw, cw, wts⟩) ⟨h1, h2⟩ hv ⟨h3, h4, h5, by dsimp only; omega⟩ h7 hw
  refine Nx.p_loop (σ := Nat) (fun i => [(0, .int .i64 n), (1, .slice A l.length c), (5, .pointer (some ⟨b5, 0, none⟩)), (77, .slice Ap pts.length cp), (78, .int .i64 pts.length), (79, .int .i64 (i : Int))])
    (fun _ => [Blk b5 27 [.int .i64 cell, .bool up, .int .i64 bn, .int .i64 bd, .slice Ap pts.length cp, .slice Aw wts.length cw], F]) (fun i => i ≤ pts.length ∧ (pts.take i).all posB = true) (fun i => pts.length - i) 0 rfl ⟨Nat.zero_le _, by rw [List.take_zero]; rfl⟩ ⟨rfl, rfl, rfl, rfl, rfl, rfl, trivial⟩ (by (exact Ent.auto)) ?_
  rintro i ⟨hi, hok⟩
  by_cases him : i < pts.length
  · have hrd : ∀ (W : World) (R : List Res), Rds W I R ((ad Ap).add (i * 2)) (frC0 (pts.getD i default)) := fun W R => hpts.rds him
    have hA := hpts.isSome (by omega) (by omega)
    have hmem := getD_memY him
    have hsn := take_snocY him
    generalize pts.getD i default = x at hrd hmem hsn
    have hVx := hVr x (hpn x hmem)
    have hbad : posB x = false → chkP n l ⟨cell, up, (bn, bd), Ap, cp, pts, Aw, cw, wts⟩ = false := fun h => by
      unfold chkP
      dsimp only
      rw [all_no hmem h, Bool.and_false, Bool.false_and]
    have hgo : posB x = true → (pts.take (i + 1)).all posB = true := fun h => by rw [hsn, List.all_append, hok]; simpa using h
    cases hf : fokB x with
    | false =>
      rw [hf] at hVx
      repeat' first
        | ((with_reducible refine Nx.is_wp ?_); first | refine Nx.wo ?_ | refine Nx.zp (fun hc => ?_) (fun hc => ?_))
        | (refine Nx.zo ?_; first | refine Nx.opr rfl rfl ?_ | refine Nx.indexAddr_nat (A := Ap) (i := i) (sz := 2) rfl rfl rfl rfl rfl him hA ?_ | refine Nx.loads rfl rfl rfl rfl (hrd _ _) rfl ?_ | refine Nx.callv rfl rfl rfl (by kernel_rfl) rfl hVx ?_ | refine Nx.so ?_ | refine Nx.sb (fun bx => ?_) | refine Nx.sa (fun A2 c2 => ?_))
        | refine Nx.za ?_ | refine Nx.zr (fun hc => ?_) (fun hc => ?_)
        | refine Nx.zq ?_ | refine Nx.zu (fun hc => ?_) (fun hc => ?_)
        | refine Nx.zx ?_ | fail
      exact Nx.ret_fn rfl [] ⟨by rw [hbad (by unfold posB; rw [hf]; rfl)], rfl⟩ (by (exact Ent.auto))
    | true =>
      rw [hf] at hVx
      by_cases h0 : 0 ≤ x.1
      · repeat' first
          | ((with_reducible refine Nx.is_wp ?_); first | refine Nx.wo ?_ | refine Nx.zp (fun hc => ?_) (fun hc => ?_))
          | (refine Nx.zo ?_; first | refine Nx.opr rfl rfl ?_ | refine Nx.indexAddr_nat (A := Ap) (i := i) (sz := 2) rfl rfl rfl rfl rfl him hA ?_ | refine Nx.loads rfl rfl rfl rfl (hrd _ _) rfl ?_ | refine Nx.callv rfl rfl rfl (by kernel_rfl) rfl hVx ?_ | refine Nx.so ?_ | refine Nx.sb (fun bx => ?_) | refine Nx.sa (fun A2 c2 => ?_))
          | refine Nx.za ?_ | refine Nx.zr (fun hc => ?_) (fun hc => ?_)
          | refine Nx.zq ?_ | refine Nx.zu (fun hc => ?_) (fun hc => ?_)
          | refine Nx.zx ?_ | fail
        exact Nx.again (i + 1) ⟨him, hgo (by unfold posB; rw [hf, decide_eq_true h0]; rfl)⟩ (by omega) ⟨rfl, rfl, rfl, rfl, rfl, rfl, trivial⟩ (by (exact Ent.auto))
      · repeat' first
          | ((with_reducible refine Nx.is_wp ?_); first | refine Nx.wo ?_ | refine Nx.zp (fun hc => ?_) (fun hc => ?_))
          | (refine Nx.zo ?_; first | refine Nx.opr rfl rfl ?_ | refine Nx.indexAddr_nat (A := Ap) (i := i) (sz := 2) rfl rfl rfl rfl rfl him hA ?_ | refine Nx.loads rfl rfl rfl rfl (hrd _ _) rfl ?_ | refine Nx.callv rfl rfl rfl (by kernel_rfl) rfl hVx ?_ | refine Nx.so ?_ | refine Nx.sb (fun bx => ?_) | refine Nx.sa (fun A2 c2 => ?_))
          | refine Nx.za ?_ | refine Nx.zr (fun hc => ?_) (fun hc => ?_)
          | refine Nx.zq ?_ | refine Nx.zu (fun hc => ?_) (fun hc => ?_)
          | refine Nx.zx ?_ | fail
        exact Nx.ret_fn rfl [] ⟨by rw [hbad (by unfold posB; rw [hf, decide_eq_false h0]; rfl)], rfl⟩ (by (exact Ent.auto))
  obtain rfl : i = pts.length := by omega
  rw [List.take_length] at hok
  repeat' first
    | ((with_reducible refine Nx.is_wp ?_); first | refine Nx.wo ?_ | refine Nx.zp (fun hc => ?_) (fun hc => ?_))
    | (refine Nx.zo ?_; first | refine Nx.opr rfl rfl ?_ | refine Nx.so ?_ | refine Nx.sb (fun bx => ?_) | refine Nx.sa (fun A2 c2 => ?_))
    | refine Nx.za ?_ | refine Nx.zr (fun hc => ?_) (fun hc => ?_)
    | refine Nx.zq ?_ | refine Nx.zu (fun hc => ?_) (fun hc => ?_)
    | refine Nx.zx ?_ | fail
  refine Nx.p_loop (σ := Nat) (fun i => [(0, .int .i64 n), (1, .slice A l.length c), (5, .pointer (some ⟨b5, 0, none⟩)), (93, .slice Aw wts.length cw), (94, .int .i64 wts.length), (95, .int .i64 (i : Int))])
    (fun _ => [Blk b5 27 [.int .i64 cell, .bool up, .int .i64 bn, .int .i64 bd, .slice Ap pts.length cp, .slice Aw wts.length cw], F]) (fun i => i ≤ wts.length ∧ (wts.take i).all fokB = true) (fun i => wts.length - i) 0 rfl ⟨Nat.zero_le _, by rw [List.take_zero]; rfl⟩ ⟨rfl, rfl, rfl, rfl, rfl, rfl, trivial⟩ (by (exact Ent.auto)) ?_
  rintro i ⟨hi, hokw⟩
  by_cases him : i < wts.length
  · have hrd : ∀ (W : World) (R : List Res), Rds W I R ((ad Aw).add (i * 2)) (frC0 (wts.getD i default)) := fun W R => hwts.rds him
    have hA := hwts.isSome (by omega) (by omega)
    have hmem := getD_memY him
    have hsn := take_snocY him
    generalize wts.getD i default = x at hrd hmem hsn
    have hVx := hVr x (hwn x hmem)
    have hbad : fokB x = false → chkP n l ⟨cell, up, (bn, bd), Ap, cp, pts, Aw, cw, wts⟩ = false := fun h => chkP_no2 fun hh => by
      have := List.all_eq_true.1 hh.2 x hmem
      rw [h] at this
      cases this
    have hgo : fokB x = true → (wts.take (i + 1)).all fokB = true := fun h => by rw [hsn, List.all_append, hokw]; simpa using h
    cases hf : fokB x with
    | false =>
      rw [hf] at hVx
      repeat' first
        | ((with_reducible refine Nx.is_wp ?_); first | refine Nx.wo ?_ | refine Nx.zp (fun hc => ?_) (fun hc => ?_))
        | (refine Nx.zo ?_; first | refine Nx.opr rfl rfl ?_ | refine Nx.indexAddr_nat (A := Aw) (i := i) (sz := 2) rfl rfl rfl rfl rfl him hA ?_ | refine Nx.loads rfl rfl rfl rfl (hrd _ _) rfl ?_ | refine Nx.callv rfl rfl rfl (by kernel_rfl) rfl hVx ?_ | refine Nx.so ?_ | refine Nx.sb (fun bx => ?_) | refine Nx.sa (fun A2 c2 => ?_))
        | refine Nx.za ?_ | refine Nx.zr (fun hc => ?_) (fun hc => ?_)
        | refine Nx.zq ?_ | refine Nx.zu (fun hc => ?_) (fun hc => ?_)
        | refine Nx.zx ?_ | fail
      exact Nx.ret_fn rfl [] ⟨by rw [hbad hf], rfl⟩ (by (exact Ent.auto))
    | true =>
      rw [hf] at hVx
      repeat' first
        | ((with_reducible refine Nx.is_wp ?_); first | refine Nx.wo ?_ | refine Nx.zp (fun hc => ?_) (fun hc => ?_))
        | (refine Nx.zo ?_; first | refine Nx.opr rfl rfl ?_ | refine Nx.indexAddr_nat (A := Aw) (i := i) (sz := 2) rfl rfl rfl rfl rfl him hA ?_ | refine Nx.loads rfl rfl rfl rfl (hrd _ _) rfl ?_ | refine Nx.callv rfl rfl rfl (by kernel_rfl) rfl hVx ?_ | refine Nx.so ?_ | refine Nx.sb (fun bx => ?_) | refine Nx.sa (fun A2 c2 => ?_))
        | refine Nx.za ?_ | refine Nx.zr (fun hc => ?_) (fun hc => ?_)
        | refine Nx.zq ?_ | refine Nx.zu (fun hc => ?_) (fun hc => ?_)
        | refine Nx.zx ?_ | fail
      exact Nx.again (i + 1) ⟨him, hgo hf⟩ (by omega) ⟨rfl, rfl, rfl, rfl, rfl, rfl, trivial⟩ (by (exact Ent.auto))
  obtain rfl : i = wts.length := by omega
  rw [List.take_length] at hokw
  replace hchk := hchk hokw
  dsimp only at hchk
  rw [hok, Bool.true_and] at hchk
  rw [hchk]
  obtain ⟨b, hb, hbR⟩ := fok_ex h7
  obtain ⟨rfl, rfl⟩ : bn = b.num ∧ bd = b.den := ⟨congrArg Prod.fst hb, congrArg Prod.snd hb⟩
  obtain ⟨W, rfl, hW⟩ := fok_all hokw
  obtain ⟨X, rfl, hX⟩ := fok_all (pos_all hok)
  obtain ⟨N, rfl⟩ : ∃ N : Nat, n = (N : Int) := ⟨n.toNat, by omega⟩
  obtain ⟨K, rfl⟩ : ∃ K : Nat, cell = (K : Int) := ⟨cell.toNat, by omega⟩
  have hg := (valid_good hv).2.2
  have hll := (valid_good hv).2.1
  rw [Int.toNat_natCast] at hg
  rw [toR_all, toR_all, show toR (b.num, (b.den : Int)) = b from toR_raw b, Int.toNat_natCast, Int.toNat_natCast]
  have hPX := hpts.rats
  have hWR := hwts.rats
  rw [List.length_map] at h5 h6
  rw [List.length_map, List.length_map]
  have h6' : W.length = l.length := by omega
  rw [h6']
  have h17 := rchk17 w F N A c l (K : Int) up b Ap cp X Aw cw W I b5 (by omega) hll hl hg hPX (by omega) hX hWR h6' hW
  have hKX : K < X.length := by omega
  have hrx : ∀ (W' : World) (R : List Res), Rds W' I R ((ad Ap).add (K * 2)) (ratC (X.getD K default)) := fun W' R => hPX.rds hKX
  have hAp := hPX.isSome (by omega) (by omega)
  clear hchk
  generalize X.getD K default = y at hrx
  by_cases hy : y = b
  · have hE := fun {x y' : Operand} (w : World) => neq_fracK (x := x) (y := y') y.num y.den b.num b.den false (decide_eq_false fun hh => hh (rat_eq_iff.2 hy)) w
    rw [decide_eq_true hy, Bool.and_true]
    repeat' first
      | ((with_reducible refine Nx.is_wp ?_); first | refine Nx.p_stopr 17 rfl ?_ | refine Nx.wo ?_ | refine Nx.p_drawF (id := 15) rfl [0, 1, 2, 3, 4, 5, 6, 7, 8] [] [] _ rfl rfl (by kernel_rfl) (by kernel_rfl) rfl PanicOk.auto (Ent.refl _) ?_ | refine Nx.p_drawF (id := 28) rfl [0, 1, 2, 3, 4, 5, 6, 7, 8] [6] [] _ rfl rfl (by kernel_rfl) (by kernel_rfl) rfl PanicOk.auto (Ent.refl _) ?_ | refine Nx.p_poolF (id := 30) rfl [0, 1, 2, 3, 4, 5, 6, 7, 8, 9, 10, 11] [7, 8] [11, 10] [13, 14] [13] [⟨12, 19, 24, _⟩] rfl rfl (by kernel_rfl) (by kernel_rfl) (by decide) (PoolFit.cons ⟨⟨_, _, _, rfl⟩, rfl, rfl⟩ PoolFit.nil) PanicOk.auto (Ent.refl _) ?_ | refine Nx.zp (fun hc => ?_) (fun hc => ?_))
      | ((first | refine Nx.at_op rfl rfl ?_ | refine Nx.m_loud rfl rfl rfl ?_ | refine Nx.at_do rfl rfl rfl rfl ?_ | refine Nx.m_loud_do rfl rfl rfl rfl rfl ?_ | refine GoodF.loud_ rfl rfl rfl rfl (fun ex X => ?_)); first | refine Nx.opr rfl rfl ?_ | refine Nx.so ?_ | refine Nx.sb (fun bx => ?_) | refine Nx.sa (fun A2 c2 => ?_))
      | refine Nx.za ?_ | refine Nx.zr (fun hc => ?_) (fun hc => ?_)
      | ((with_reducible refine Nx.is_mix ?_); first | refine Nx.m_quiet rfl rfl rfl rfl rfl (by first | exact QRun.opr rfl | exact QRun.idx (A := Ap) (i := K) (sz := 2) rfl rfl rfl rfl hKX hAp | exact QRun.loads rfl rfl rfl (hrx _ _) rfl | exact QRun.loads rfl rfl rfl (Rds.cut 0 2 rfl rfl) rfl | exact QRun.binr rfl rfl hE) ?_ | refine Nx.m_quiet_do rfl rfl rfl rfl rfl rfl rfl (by first | exact QRun.opr rfl | exact QRun.idx (A := Ap) (i := K) (sz := 2) rfl rfl rfl rfl hKX hAp | exact QRun.loads rfl rfl rfl (hrx _ _) rfl | exact QRun.loads rfl rfl rfl (Rds.cut 0 2 rfl rfl) rfl | exact QRun.binr rfl rfl hE) ?_ | refine Nx.m ?_ | refine Nx.zm ?_ | refine Nx.zt (fun hc => ?_) (fun hc => ?_))
      | ((with_reducible refine GoodF.is ?_); first | refine GoodF.quiet rfl rfl rfl rfl rfl rfl (by first | exact QRun.opr rfl | exact QRun.idx (A := Ap) (i := K) (sz := 2) rfl rfl rfl rfl hKX hAp | exact QRun.loads rfl rfl rfl (hrx _ _) rfl | exact QRun.loads rfl rfl rfl (Rds.cut 0 2 rfl rfl) rfl | exact QRun.binr rfl rfl hE |  exact QRun.std) ?_ | refine GoodF.done1 rfl (fun bx => ?_) | refine GoodF.done2 rfl (fun bx by_ => ?_) | refine GoodF.done3 rfl (fun bx by_ bz => ?_))
      | ((fail_if_success (with_reducible refine Nx.is_at ?_)); (fail_if_success (with_reducible refine Nx.is_wp ?_)); (fail_if_success (with_reducible refine Nx.is_mix ?_)); first | refine Nx.ex ?_ | refine Nx.pool_nextF 0 rfl (by exact Ent.auto) ?_ | refine Nx.pool_nextF 1 rfl (by exact Ent.auto) ?_ | refine Nx.pool_nextF 2 rfl (by exact Ent.auto) ?_ | refine Nx.pool_nextF 3 rfl (by exact Ent.auto) ?_)
    refine Nx.unstop ?_
    exact Nx.weak (by exact ⟨rfl, rfl, rfl, trivial⟩) (by (exact Ent.auto)) h17
  · have hE := fun {x y' : Operand} (w : World) => neq_fracK (x := x) (y := y') y.num y.den b.num b.den true (decide_eq_true fun hh => hy (rat_eq_iff.1 hh)) w
    rw [decide_eq_false hy, Bool.and_false, Bool.false_and, Bool.false_and]
    repeat' first
      | ((with_reducible refine Nx.is_wp ?_); first | refine Nx.wo ?_ | refine Nx.p_drawF (id := 15) rfl [0, 1, 2, 3, 4, 5, 6, 7, 8] [] [] _ rfl rfl (by kernel_rfl) (by kernel_rfl) rfl PanicOk.auto (Ent.refl _) ?_ | refine Nx.p_drawF (id := 28) rfl [0, 1, 2, 3, 4, 5, 6, 7, 8] [6] [] _ rfl rfl (by kernel_rfl) (by kernel_rfl) rfl PanicOk.auto (Ent.refl _) ?_ | refine Nx.p_poolF (id := 30) rfl [0, 1, 2, 3, 4, 5, 6, 7, 8, 9, 10, 11] [7, 8] [11, 10] [13, 14] [13] [⟨12, 19, 24, _⟩] rfl rfl (by kernel_rfl) (by kernel_rfl) (by decide) (PoolFit.cons ⟨⟨_, _, _, rfl⟩, rfl, rfl⟩ PoolFit.nil) PanicOk.auto (Ent.refl _) ?_ | refine Nx.zp (fun hc => ?_) (fun hc => ?_))
      | ((first | refine Nx.at_op rfl rfl ?_ | refine Nx.m_loud rfl rfl rfl ?_ | refine Nx.at_do rfl rfl rfl rfl ?_ | refine Nx.m_loud_do rfl rfl rfl rfl rfl ?_ | refine GoodF.loud_ rfl rfl rfl rfl (fun ex X => ?_)); first | refine Nx.opr rfl rfl ?_ | refine Nx.so ?_ | refine Nx.sb (fun bx => ?_) | refine Nx.sa (fun A2 c2 => ?_))
      | refine Nx.za ?_ | refine Nx.zr (fun hc => ?_) (fun hc => ?_)
      | ((with_reducible refine Nx.is_mix ?_); first | refine Nx.m_quiet rfl rfl rfl rfl rfl (by first | exact QRun.opr rfl | exact QRun.idx (A := Ap) (i := K) (sz := 2) rfl rfl rfl rfl hKX hAp | exact QRun.loads rfl rfl rfl (hrx _ _) rfl | exact QRun.loads rfl rfl rfl (Rds.cut 0 2 rfl rfl) rfl | exact QRun.binr rfl rfl hE) ?_ | refine Nx.m_quiet_do rfl rfl rfl rfl rfl rfl rfl (by first | exact QRun.opr rfl | exact QRun.idx (A := Ap) (i := K) (sz := 2) rfl rfl rfl rfl hKX hAp | exact QRun.loads rfl rfl rfl (hrx _ _) rfl | exact QRun.loads rfl rfl rfl (Rds.cut 0 2 rfl rfl) rfl | exact QRun.binr rfl rfl hE) ?_ | refine Nx.m ?_ | refine Nx.zm ?_ | refine Nx.zt (fun hc => ?_) (fun hc => ?_))
      | ((with_reducible refine GoodF.is ?_); first | refine GoodF.quiet rfl rfl rfl rfl rfl rfl (by first | exact QRun.opr rfl | exact QRun.idx (A := Ap) (i := K) (sz := 2) rfl rfl rfl rfl hKX hAp | exact QRun.loads rfl rfl rfl (hrx _ _) rfl | exact QRun.loads rfl rfl rfl (Rds.cut 0 2 rfl rfl) rfl | exact QRun.binr rfl rfl hE |  exact QRun.std) ?_ | refine GoodF.done1 rfl (fun bx => ?_) | refine GoodF.done2 rfl (fun bx by_ => ?_) | refine GoodF.done3 rfl (fun bx by_ bz => ?_))
      | ((fail_if_success (with_reducible refine Nx.is_at ?_)); (fail_if_success (with_reducible refine Nx.is_wp ?_)); (fail_if_success (with_reducible refine Nx.is_mix ?_)); first | refine Nx.ex ?_ | refine Nx.pool_nextF 0 rfl (by exact Ent.auto) ?_ | refine Nx.pool_nextF 1 rfl (by exact Ent.auto) ?_ | refine Nx.pool_nextF 2 rfl (by exact Ent.auto) ?_ | refine Nx.pool_nextF 3 rfl (by exact Ent.auto) ?_)
    exact Nx.ret_fn rfl [] ⟨rfl, rfl⟩ (by (exact Ent.auto))
end Go.Proofs.YtpcnapidlhpbkaaGreatDoor
