/- Contracts of functions of the given program, and lemmas about plain lists and numbers: what the laws of this seat lean on. -/
import Derived.Laws.StructEq
import Derived.Laws.Small
import Derived.Test.YtcmdemfhbekabaaGreatDa7
namespace Go.Proofs.YtcmdemfhbekabaaGreat
open Go.Eng Go.Sol
attribute [local irreducible] opK wpList Code.wp Exit.then Exit.inBlock fnPost bodyPost Nx Calls Oper.wp Rd Rds Wr Ent Stars Blk Again Vec FnSpec wpMix QRun Stop Upto wpAt
theorem last_eqn {n : Nat} {q : EqR} (hg : GoodE n q) (x : Nat) : (eqn q).1.getLast? = some x ↔ q.1.2.2.getD (q.1.2.2.length - 1) default = (x : Int) := by
  have hne := hg.ne
  have hpos : 0 < q.1.2.2.length := List.length_pos_iff.2 hne
  have hl : q.1.2.2.getD (q.1.2.2.length - 1) default = q.1.2.2.getLast hne := by
    rw [List.getD_eq_getElem?_getD, List.getElem?_eq_getElem (by omega), List.getLast_eq_getElem]; rfl
  have h0 := (hg.lt _ (List.getLast_mem hne)).1
  rw [hl]
  unfold eqn
  rw [List.getLast?_map, List.getLast?_eq_some_getLast hne]
  simp only [Option.map_some, Option.some.injEq]
  omega
theorem set_same {l : List Int} {i : Nat} {v : Int} (h : l.getD i default = v) (hi : i < l.length) : l.set i v = l := by
  rw [List.getD_eq_getElem?_getD, List.getElem?_eq_getElem hi] at h
  have h : l[i] = v := h
  rw [← h, List.set_getElem_self]
theorem in_snoc {ix : List Int} {j : Nat} (hjl : j < ix.length) {x : Int} (hne : ix.getD j default ≠ x) : x ∈ ix.take (j + 1) ↔ x ∈ ix.take j := by
  rw [take_snocJ hjl, List.mem_append, List.mem_singleton]
  exact ⟨fun h => h.resolve_right fun h => hne h.symm, fun h => .inl h⟩
theorem ite_congr_b {α : Type} {p q : Prop} [Decidable p] [Decidable q] (h : p ↔ q) (a b : α) : (if p then a else b) = if q then a else b := by
  by_cases hp : p
  · rw [if_pos hp, if_pos (h.1 hp)]
  · rw [if_neg hp, if_neg fun hq => hp (h.2 hq)]
set_option maxRecDepth 10000 in
set_option maxHeartbeats 16000000 in
theorem rsearch_spec (A : Option Addr) (c : Nat) (l : List EqR) (n most : Nat) (hg : ∀ q ∈ l, GoodE n q) (hn9 : n ≤ 4096) (hm9 : most ≤ 1000000) (hll : l.length ≤ 100000) :
    ∀ (k : Nat) (I : PH), Eqs I A c l → ∀ (t : List Int), t.length + k = n → (∀ q ∈ eqns l, 0 ≤ restQ t q ∧ restQ t q ≤ 1000000) → ∀ (At : Option Addr) (ct : Nat), Ints I At ct t → ∀ (Ar : Option Addr) (cr : Nat), Ints I Ar cr (restL (eqns l) t) →
      ∀ (Ao : Option Addr) (co : Nat) (o : List Row), o.length ≤ most →
    FnSpec Tryz.prog 106 [.slice A l.length c, .int .i64 (n : Int), .int .i64 (t.length : Int), .slice At t.length ct, .slice Ar l.length cr, .slice Ao o.length co, .int .i64 (most : Int)] I
      [Vec 25 1 Ao o.length co (o.map rowV), Stars (o.map rwR)] (SrPost most o (rs (eqns l) k t))
  | 0, I, hl, t, hk, hb, At, ct, ht, Ar, cr, hr, Ao, co, o, ho => search_end A c l n most hm9 I t (by omega) hn9 At ct ht Ar cr hr Ao co o ho
  | k + 1, I, hl, t, hk, hb, At, ct, ht, Ar, cr, hr, Ao, co, o, ho => by
    have hR := room_spec A c l n t.length I hl hg
    have hlen := hl.len
    have htl := ht.len
    have hrbd := roomR_bd hg t.length l.length
    rw [List.take_length] at hrbd
    have hval := cells_bd hg
    have htop := topF_le (t := t) hval
    rw [rs_succ]
    unfold SrPost
    refine FnSpec.enterP Tryz.func106 rfl Tryz.ntmps106 rfl fun w F => ?_
    by_cases hfull : o.length = most
    · repeat' first
        | ((with_reducible refine Nx.is_wp ?_); first | refine Nx.wo ?_ | refine Nx.zp (fun hc => ?_) (fun hc => ?_))
        | (refine Nx.zo ?_; first | refine Nx.opr rfl rfl ?_ | refine Nx.so ?_ | refine Nx.sb (fun bx => ?_) | refine Nx.sa (fun A2 c2 => ?_))
        | ((with_reducible refine Nx.is_at ?_); first | refine Nx.a ?_ | refine Nx.zd ?_ | refine Nx.zs (fun hc => ?_) (fun hc => ?_))
        | ((with_reducible refine Nx.is_mix ?_); first | refine Nx.m ?_ | refine Nx.zm ?_ | refine Nx.zt (fun hc => ?_) (fun hc => ?_))
        | refine Nx.zx ?_ | fail
      exact Nx.ret_fn rfl [_, _] ⟨Ao, co, o, rfl, by rw [List.take_append_of_le_length (by rw [List.length_map]; omega), List.take_of_length_le (by rw [List.length_map]; omega)], rfl⟩ (by (exact Ent.auto))
    have hlt9 : o.length < most := by omega
    generalize ha0 : max 0 (roomR (eqns l) t.length - 1) = a0
    repeat' first
      | ((with_reducible refine Nx.is_wp ?_); first | refine Nx.wo ?_ | refine Nx.zp (fun hc => ?_) (fun hc => ?_))
      | (refine Nx.zo ?_; first | refine Nx.opr rfl rfl ?_ | refine Nx.callv rfl rfl rfl (by kernel_rfl) rfl hR ?_ | refine Nx.so ?_ | refine Nx.sb (fun bx => ?_) | refine Nx.sa (fun A2 c2 => ?_))
      | ((with_reducible refine Nx.is_at ?_); first | refine Nx.a ?_ | refine Nx.zd ?_ | refine Nx.zs (fun hc => ?_) (fun hc => ?_))
      | ((with_reducible refine Nx.is_mix ?_); first | refine Nx.m ?_ | refine Nx.zm ?_ | refine Nx.zt (fun hc => ?_) (fun hc => ?_))
      | refine Nx.zx ?_ | fail
    refine Nx.p_loop (σ := Nat) (fun i => [(0, .slice A l.length c), (1, .int .i64 (n : Int)), (2, .int .i64 (t.length : Int)), (3, .slice At t.length ct), (4, .slice Ar l.length cr), (5, .slice Ao o.length co), (6, .int .i64 (most : Int)), (17, .int .i64 (gtF t t.length a0 (eqns (l.take i)))), (58, .slice A l.length c), (59, .int .i64 l.length), (60, .int .i64 (i : Int))])
      (fun _ => [Vec 25 1 Ao o.length co (o.map rowV), Stars (o.map rwR), F]) (fun i => i ≤ l.length) (fun i => l.length - i) 0 rfl (Nat.zero_le _) ⟨rfl, rfl, rfl, rfl, rfl, rfl, rfl, by rw [← ha0]; rfl, rfl, rfl, rfl, trivial⟩ (by (exact Ent.auto)) ?_
    intro i hi
    by_cases hil : i < l.length
    · have hin := hl.inner _ (getD_memQ hil)
      have hgk := hg _ (getD_memQ hil)
      have hes := eqns_snoc hil
      have hrds : ∀ (W : World) (R : List Res), Rds W I R ((ad A).add (i * 2)) (eqC (l.getD i default)) := fun W R => hl.outer.rds hil
      have hrd : ∀ (W : World) (R : List Res), Rd W I R ((ad Ar).add (i * 1)) (.int .i64 (restQ t (eqn (l.getD i default)))) := fun W R => by rw [← restE_at hil]; exact hr.rd (by rw [restL_len, eqns_len]; exact hil)
      generalize l.getD i default = q at hin hgk hes hrds hrd
      obtain ⟨⟨Ax, cx, ix⟩, z⟩ := q
      dsimp only at hin
      replace hrds : ∀ (W : World) (R : List Res), Rds W I R ((ad A).add (i * 2)) [.slice Ax ix.length cx, .int .i64 z] := hrds
      have hixl := hin.len
      have hend : gtF t t.length a0 (eqns (l.take (i + 1))) = if (t.length : Int) ∈ ix then min (gtF t t.length a0 (eqns (l.take i))) (restQ t (eqn ((Ax, cx, ix), z))) else gtF t t.length a0 (eqns (l.take i)) := by
        rw [hes, gtF_snoc]
        exact ite_congr_b (mem_eqn hgk) _ _
      generalize restQ t (eqn ((Ax, cx, ix), z)) = rq at hend hrd
      generalize gtF t t.length a0 (eqns (l.take i)) = g at hend ⊢
      repeat' first
        | ((with_reducible refine Nx.is_wp ?_); first | refine Nx.wo ?_ | refine Nx.zp (fun hc => ?_) (fun hc => ?_))
        | (refine Nx.zo ?_; first | refine Nx.opr rfl rfl ?_ | refine Nx.indexAddr_nat rfl rfl rfl rfl rfl (by omega) (hl.outer.isSome (by omega) (by omega)) ?_ | refine Nx.loads rfl rfl rfl rfl (hrds _ _) rfl ?_ | refine Nx.so ?_ | refine Nx.sb (fun bx => ?_) | refine Nx.sa (fun A2 c2 => ?_))
        | ((with_reducible refine Nx.is_at ?_); first | refine Nx.a ?_ | refine Nx.zd ?_ | refine Nx.zs (fun hc => ?_) (fun hc => ?_))
        | ((with_reducible refine Nx.is_mix ?_); first | refine Nx.m ?_ | refine Nx.zm ?_ | refine Nx.zt (fun hc => ?_) (fun hc => ?_))
        | refine Nx.zx ?_ | fail
      revert bx; intro b19
      refine Nx.p_loop (σ := Nat) (fun j => [(0, .slice A l.length c), (1, .int .i64 (n : Int)), (2, .int .i64 (t.length : Int)), (3, .slice At t.length ct), (4, .slice Ar l.length cr), (5, .slice Ao o.length co), (6, .int .i64 (most : Int)), (17, .int .i64 (if (t.length : Int) ∈ ix.take j then min g rq else g)), (18, .int .i64 (i : Int)), (58, .slice A l.length c), (59, .int .i64 l.length), (60, .int .i64 (i : Int)), (66, .slice Ax ix.length cx), (67, .int .i64 ix.length), (68, .int .i64 (j : Int))])
        (fun _ => [Vec 25 1 Ao o.length co (o.map rowV), Stars (o.map rwR), F]) (fun j => j ≤ ix.length) (fun j => ix.length - j) 0 rfl (Nat.zero_le _) ⟨rfl, rfl, rfl, rfl, rfl, rfl, rfl, by rw [List.take_zero, if_neg List.not_mem_nil]; rfl, rfl, rfl, rfl, rfl, rfl, rfl, rfl, trivial⟩ (by (exact Ent.auto)) ?_
      intro j hj
      by_cases hjl : j < ix.length
      case neg =>
        obtain rfl : j = ix.length := by omega
        rw [List.take_length, ← hend]
        repeat' first
          | ((with_reducible refine Nx.is_wp ?_); first | refine Nx.wo ?_ | refine Nx.zp (fun hc => ?_) (fun hc => ?_))
          | (refine Nx.zo ?_; first | refine Nx.opr rfl rfl ?_ | refine Nx.so ?_ | refine Nx.sb (fun bx => ?_) | refine Nx.sa (fun A2 c2 => ?_))
          | ((with_reducible refine Nx.is_at ?_); first | refine Nx.a ?_ | refine Nx.zd ?_ | refine Nx.zs (fun hc => ?_) (fun hc => ?_))
          | ((with_reducible refine Nx.is_mix ?_); first | refine Nx.m ?_ | refine Nx.zm ?_ | refine Nx.zt (fun hc => ?_) (fun hc => ?_))
          | refine Nx.zx ?_ | fail
        exact Nx.again (i + 1) hil (by omega) ⟨rfl, rfl, rfl, rfl, rfl, rfl, rfl, rfl, rfl, rfl, rfl, trivial⟩ (by (exact Ent.auto))
      by_cases hyx : ix.getD j default = (t.length : Int)
      · rw [if_neg (not_mem_take hgk.asc hjl hyx)]
        have hyes : (if (t.length : Int) ∈ ix.take (j + 1) then min g rq else g) = min g rq := if_pos (by rw [take_snocJ hjl, hyx]; simp)
        repeat' first
          | ((with_reducible refine Nx.is_wp ?_); first | refine Nx.wo ?_ | refine Nx.zp (fun hc => ?_) (fun hc => ?_))
          | (refine Nx.zo ?_; first | refine Nx.opr rfl rfl ?_ | refine Nx.indexAddr_nat rfl rfl rfl rfl rfl (by omega) (hin.isSome (by omega)) ?_ | refine Nx.load rfl rfl rfl (hin.rd (by omega)) ?_ | refine Nx.indexAddr_nat rfl rfl rfl rfl rfl (by omega) (hr.isSome (by rw [restL_len, eqns_len]; omega)) ?_ | refine Nx.load rfl rfl rfl (hrd _ _) ?_ | refine Nx.so ?_ | refine Nx.sb (fun bx => ?_) | refine Nx.sa (fun A2 c2 => ?_))
          | ((with_reducible refine Nx.is_at ?_); first | refine Nx.a ?_ | refine Nx.zd ?_ | refine Nx.zs (fun hc => ?_) (fun hc => ?_))
          | ((with_reducible refine Nx.is_mix ?_); first | refine Nx.m ?_ | refine Nx.zm ?_ | refine Nx.zt (fun hc => ?_) (fun hc => ?_))
          | refine Nx.zx ?_ | fail
        exact Nx.again (j + 1) hjl (by omega) ⟨rfl, rfl, rfl, rfl, rfl, rfl, rfl, by rw [hyes]; rfl, rfl, rfl, rfl, rfl, rfl, rfl, rfl, trivial⟩ (by (exact Ent.auto))
      · have hno := ite_congr_b (in_snoc hjl hyx) (min g rq) g
        generalize (if (t.length : Int) ∈ ix.take j then min g rq else g) = cur at hno ⊢
        repeat' first
          | ((with_reducible refine Nx.is_wp ?_); first | refine Nx.wo ?_ | refine Nx.zp (fun hc => ?_) (fun hc => ?_))
          | (refine Nx.zo ?_; first | refine Nx.opr rfl rfl ?_ | refine Nx.indexAddr_nat rfl rfl rfl rfl rfl (by omega) (hin.isSome (by omega)) ?_ | refine Nx.load rfl rfl rfl (hin.rd (by omega)) ?_ | refine Nx.so ?_ | refine Nx.sb (fun bx => ?_) | refine Nx.sa (fun A2 c2 => ?_))
          | ((with_reducible refine Nx.is_at ?_); first | refine Nx.a ?_ | refine Nx.zd ?_ | refine Nx.zs (fun hc => ?_) (fun hc => ?_))
          | ((with_reducible refine Nx.is_mix ?_); first | refine Nx.m ?_ | refine Nx.zm ?_ | refine Nx.zt (fun hc => ?_) (fun hc => ?_))
          | refine Nx.zx ?_ | fail
        exact Nx.again (j + 1) hjl (by omega) ⟨rfl, rfl, rfl, rfl, rfl, rfl, rfl, by rw [hno]; rfl, rfl, rfl, rfl, rfl, rfl, rfl, rfl, trivial⟩ (by (exact Ent.auto))
    obtain rfl : i = l.length := by omega
    rw [List.take_length, show gtF t t.length a0 (eqns l) = topF (eqns l) t by rw [← ha0]; rfl]
    generalize hN : (topF (eqns l) t + 1).toNat = N
    repeat' first
      | ((with_reducible refine Nx.is_wp ?_); first | refine Nx.wo ?_ | refine Nx.zp (fun hc => ?_) (fun hc => ?_))
      | (refine Nx.zo ?_; first | refine Nx.opr rfl rfl ?_ | refine Nx.so ?_ | refine Nx.sb (fun bx => ?_) | refine Nx.sa (fun A2 c2 => ?_))
      | ((with_reducible refine Nx.is_at ?_); first | refine Nx.a ?_ | refine Nx.zd ?_ | refine Nx.zs (fun hc => ?_) (fun hc => ?_))
      | ((with_reducible refine Nx.is_mix ?_); first | refine Nx.m ?_ | refine Nx.zm ?_ | refine Nx.zt (fun hc => ?_) (fun hc => ?_))
      | refine Nx.zx ?_ | fail
    refine Nx.p_loop (σ := Nat × Option Addr × Nat × List Row) (fun s => [(0, .slice A l.length c), (1, .int .i64 (n : Int)), (2, .int .i64 (t.length : Int)), (3, .slice At t.length ct), (4, .slice Ar l.length cr), (5, .slice s.2.1 s.2.2.2.length s.2.2.1), (6, .int .i64 (most : Int)), (17, .int .i64 (topF (eqns l) t)), (22, .int .i64 (s.1 : Int))])
      (fun s => [Vec 25 1 s.2.1 s.2.2.2.length s.2.2.1 (s.2.2.2.map rowV), Stars (s.2.2.2.map rwR), F]) (fun s => s.1 ≤ N ∧ s.2.2.2.map (·.2.2) = (o.map (·.2.2) ++ (List.range s.1).flatMap (stepF (eqns l) k t)).take most) (fun s => N - s.1) (0, Ao, co, o) rfl ⟨Nat.zero_le _, by rw [List.range_zero, List.flatMap_nil, List.append_nil, List.take_of_length_le (by rw [List.length_map]; omega)]⟩ ⟨rfl, rfl, rfl, rfl, rfl, rfl, rfl, rfl, rfl, trivial⟩ (by (exact Ent.auto)) ?_
    rintro ⟨v, A4, c4, o4⟩ ⟨hv, ho4⟩
    dsimp only at hv ho4 ⊢
    have ho4l : o4.length ≤ most := by
      have := congrArg List.length ho4
      rw [List.length_map, List.length_take] at this
      omega
    by_cases hvN : v < N
    case neg =>
      obtain rfl : v = N := by omega
      repeat' first
        | ((with_reducible refine Nx.is_wp ?_); first | refine Nx.wo ?_ | refine Nx.zp (fun hc => ?_) (fun hc => ?_))
        | (refine Nx.zo ?_; first | refine Nx.opr rfl rfl ?_ | refine Nx.so ?_ | refine Nx.sb (fun bx => ?_) | refine Nx.sa (fun A2 c2 => ?_))
        | ((with_reducible refine Nx.is_at ?_); first | refine Nx.a ?_ | refine Nx.zd ?_ | refine Nx.zs (fun hc => ?_) (fun hc => ?_))
        | ((with_reducible refine Nx.is_mix ?_); first | refine Nx.m ?_ | refine Nx.zm ?_ | refine Nx.zt (fun hc => ?_) (fun hc => ?_))
        | refine Nx.zx ?_ | fail
      exact Nx.ret_fn rfl [_, _] ⟨A4, c4, o4, rfl, ho4, rfl⟩ (by (exact Ent.auto))
    have hvt : (v : Int) ≤ topF (eqns l) t := by omega
    repeat' first
      | ((with_reducible refine Nx.is_wp ?_); first | refine Nx.wo ?_ | refine Nx.zp (fun hc => ?_) (fun hc => ?_))
      | (refine Nx.zo ?_; first | refine Nx.opr rfl rfl ?_ | refine Nx.so ?_ | refine Nx.sb (fun bx => ?_) | refine Nx.sa (fun A2 c2 => ?_))
      | ((with_reducible refine Nx.is_at ?_); first | refine Nx.a ?_ | refine Nx.zd ?_ | refine Nx.zs (fun hc => ?_) (fun hc => ?_))
      | ((with_reducible refine Nx.is_mix ?_); first | refine Nx.m ?_ | refine Nx.zm ?_ | refine Nx.zt (fun hc => ?_) (fun hc => ?_))
      | refine Nx.zx ?_ | fail
    refine Nx.blk_vec 0 0 1 rfl rfl (by omega) ?_
    refine Nx.at_op rfl rfl ?_
    refine Nx.append rfl rfl rfl rfl (by kernel_rfl) rfl (Src.arr hr.arr (by simp [restL_len, eqns_len]) (by omega) (fun u hu => by obtain ⟨z, _, rfl⟩ := List.mem_map.1 hu; rfl)) (by omega) fun A' c' => ?_
    rw [Nat.zero_add, List.nil_append]
    repeat' first
      | ((with_reducible refine Nx.is_wp ?_); first | refine Nx.wo ?_ | refine Nx.zp (fun hc => ?_) (fun hc => ?_))
      | (refine Nx.zo ?_; first | refine Nx.opr rfl rfl ?_ | refine Nx.so ?_ | refine Nx.sb (fun bx => ?_) | refine Nx.sa (fun A2 c2 => ?_))
      | ((with_reducible refine Nx.is_at ?_); first | refine Nx.a ?_ | refine Nx.zd ?_ | refine Nx.zs (fun hc => ?_) (fun hc => ?_))
      | ((with_reducible refine Nx.is_mix ?_); first | refine Nx.m ?_ | refine Nx.zm ?_ | refine Nx.zt (fun hc => ?_) (fun hc => ?_))
      | refine Nx.zx ?_ | fail
    have hm0 : restL (eqns l) t = mixR (eqns l) t (v : Int) 0 := (mixR_zero _ _ _).symm
    refine Nx.p_loop (σ := Nat × Bool) (fun s => [(0, .slice A l.length c), (1, .int .i64 (n : Int)), (2, .int .i64 (t.length : Int)), (3, .slice At t.length ct), (4, .slice Ar l.length cr), (5, .slice A4 o4.length c4), (6, .int .i64 (most : Int)), (17, .int .i64 (topF (eqns l) t)), (22, .int .i64 (v : Int)), (23, .slice A' l.length c'), (24, .bool s.2), (91, .slice A l.length c), (92, .int .i64 l.length), (93, .int .i64 (s.1 : Int))])
      (fun s => [Vec 3 1 A' l.length c' ((mixR (eqns l) t (v : Int) s.1).map (Value.int .i64)), Vec 25 1 A4 o4.length c4 (o4.map rowV), Stars (o4.map rwR), F]) (fun s => s.1 ≤ l.length ∧ s.2 = (eqns (l.take s.1)).all (fitQ (t ++ [(v : Int)]))) (fun s => l.length - s.1) (0, true) rfl ⟨Nat.zero_le _, rfl⟩ ⟨rfl, rfl, rfl, rfl, rfl, rfl, rfl, rfl, rfl, rfl, rfl, rfl, rfl, rfl, trivial⟩ (by dsimp only; rw [← hm0]; (exact Ent.auto)) ?_
    rintro ⟨i, f⟩ ⟨hi, hf⟩
    dsimp only at hi hf ⊢
    have hil9 : i ≤ (eqns l).length := by rw [eqns_len]; exact hi
    have hml := mixR_len (t := t) (v := (v : Int)) hil9
    rw [eqns_len] at hml
    by_cases hil : i < l.length
    · have hgk := hg _ (getD_memQ hil)
      have hin := hl.inner _ (getD_memQ hil)
      have hes := eqns_snoc hil
      have hrds : ∀ (W : World) (R : List Res), Rds W I R ((ad A).add (i * 2)) (eqC (l.getD i default)) := fun W R => hl.outer.rds hil
      have hbq := hb (eqn (l.getD i default)) (by rw [← eqns_at hil]; exact getD_memE (by rw [eqns_len]; exact hil))
      have hma := mixR_at (t := t) (v := (v : Int)) (L := eqns l) (i := i) (by rw [eqns_len]; exact hil)
      have hms := mixR_set (t := t) (v := (v : Int)) (L := eqns l) (i := i) (by rw [eqns_len]; exact hil)
      rw [eqns_at hil] at hma hms
      rw [restQ_app (eqn_nd hgk)] at hms
      have hlq := last_eqn hgk t.length
      have hfq : fitQ (t ++ [(v : Int)]) (eqn (l.getD i default)) = (!decide ((l.getD i default).1.2.2.getD ((l.getD i default).1.2.2.length - 1) default = (t.length : Int)) || decide (restQ t (eqn (l.getD i default)) - (if t.length ∈ (eqn (l.getD i default)).1 then (v : Int) else 0) = 0)) := by
        unfold fitQ
        rw [restQ_app (eqn_nd hgk), show (t ++ [(v : Int)]).length - 1 = t.length by simp, decide_eq_decide.2 hlq]
      have hmq := mem_eqn hgk (c := t.length)
      generalize l.getD i default = q at hin hgk hes hrds hbq hma hms hfq hmq
      obtain ⟨⟨Ax, cx, ix⟩, z⟩ := q
      dsimp only at hin hfq hmq
      replace hrds : ∀ (W : World) (R : List Res), Rds W I R ((ad A).add (i * 2)) [.slice Ax ix.length cx, .int .i64 z] := hrds
      have hixl := hin.len
      have hipos : 0 < ix.length := List.length_pos_iff.2 hgk.ne
      rw [ite_congr_b hmq] at hms hfq
      generalize restQ t (eqn ((Ax, cx, ix), z)) = rq at hbq hma hms hfq
      generalize hM : mixR (eqns l) t (v : Int) i = M at hma hms hml ⊢
      repeat' first
        | ((with_reducible refine Nx.is_wp ?_); first | refine Nx.wo ?_ | refine Nx.zp (fun hc => ?_) (fun hc => ?_))
        | (refine Nx.zo ?_; first | refine Nx.opr rfl rfl ?_ | refine Nx.indexAddr_nat rfl rfl rfl rfl rfl (by omega) (hl.outer.isSome (by omega) (by omega)) ?_ | refine Nx.loads rfl rfl rfl rfl (hrds _ _) rfl ?_ | refine Nx.so ?_ | refine Nx.sb (fun bx => ?_) | refine Nx.sa (fun A2 c2 => ?_))
        | ((with_reducible refine Nx.is_at ?_); first | refine Nx.a ?_ | refine Nx.zd ?_ | refine Nx.zs (fun hc => ?_) (fun hc => ?_))
        | ((with_reducible refine Nx.is_mix ?_); first | refine Nx.m ?_ | refine Nx.zm ?_ | refine Nx.zt (fun hc => ?_) (fun hc => ?_))
        | refine Nx.zx ?_ | fail
      revert bx; intro b26
      refine Nx.p_loop (σ := Nat) (fun j => [(0, .slice A l.length c), (1, .int .i64 (n : Int)), (2, .int .i64 (t.length : Int)), (3, .slice At t.length ct), (4, .slice Ar l.length cr), (5, .slice A4 o4.length c4), (6, .int .i64 (most : Int)), (17, .int .i64 (topF (eqns l) t)), (22, .int .i64 (v : Int)), (23, .slice A' l.length c'), (24, .bool f), (25, .int .i64 (i : Int)), (26, .pointer (some ⟨b26, 0, none⟩)), (91, .slice A l.length c), (92, .int .i64 l.length), (93, .int .i64 (i : Int)), (99, .slice Ax ix.length cx), (100, .int .i64 ix.length), (101, .int .i64 (j : Int))])
        (fun j => [Vec 3 1 A' l.length c' ((if (t.length : Int) ∈ ix.take j then M.set i (rq - (v : Int)) else M).map (Value.int .i64)), Blk b26 93 [.slice Ax ix.length cx, .int .i64 z], Vec 25 1 A4 o4.length c4 (o4.map rowV), Stars (o4.map rwR), F]) (fun j => j ≤ ix.length) (fun j => ix.length - j) 0 rfl (Nat.zero_le _) ⟨rfl, rfl, rfl, rfl, rfl, rfl, rfl, rfl, rfl, rfl, rfl, rfl, rfl, rfl, rfl, rfl, rfl, rfl, rfl, trivial⟩ (by rw [List.take_zero, if_neg List.not_mem_nil]; (exact Ent.auto)) ?_
      intro j hj
      by_cases hjl : j < ix.length
      · by_cases hyx : ix.getD j default = (t.length : Int)
        · rw [if_neg (not_mem_take hgk.asc hjl hyx)]
          have hyes : (if (t.length : Int) ∈ ix.take (j + 1) then M.set i (rq - (v : Int)) else M) = M.set i (rq - (v : Int)) := if_pos (by rw [take_snocJ hjl, hyx]; simp)
          have hrv : ∀ (W : World) (R : List Res), Rd W I (Vec 3 1 A' l.length c' (M.map (Value.int .i64)) :: R) ((ad A').add (i * 1)) (.int .i64 rq) := fun W R => by rw [← hma]; exact Rd.vecEl 0 (f := Value.int .i64) (l := M) (i := i) rfl (by omega)
          refine Nx.vec_fact fun _ _ _ hA' => ?_
          repeat' first
            | ((with_reducible refine Nx.is_wp ?_); first | refine Nx.wo ?_ | refine Nx.zp (fun hc => ?_) (fun hc => ?_))
            | (refine Nx.zo ?_; first | refine Nx.opr rfl rfl ?_ | refine Nx.indexAddr_nat rfl rfl rfl rfl rfl (by omega) (hin.isSome (by omega)) ?_ | refine Nx.load rfl rfl rfl (hin.rd (by omega)) ?_ | refine Nx.indexAddr_nat rfl rfl rfl rfl rfl (by omega) (hA' (by omega)) ?_ | refine Nx.load rfl rfl rfl (hrv _ _) ?_ | refine Nx.store_of 0 (Value.int .i64) rfl rfl rfl rfl rfl rfl (by omega) ?_ | refine Nx.so ?_ | refine Nx.sb (fun bx => ?_) | refine Nx.sa (fun A2 c2 => ?_))
            | ((with_reducible refine Nx.is_at ?_); first | refine Nx.a ?_ | refine Nx.zd ?_ | refine Nx.zs (fun hc => ?_) (fun hc => ?_))
            | ((with_reducible refine Nx.is_mix ?_); first | refine Nx.m ?_ | refine Nx.zm ?_ | refine Nx.zt (fun hc => ?_) (fun hc => ?_))
            | refine Nx.zx ?_ | fail
          exact Nx.again (j + 1) hjl (by omega) ⟨rfl, rfl, rfl, rfl, rfl, rfl, rfl, rfl, rfl, rfl, rfl, rfl, rfl, rfl, rfl, rfl, rfl, rfl, rfl, trivial⟩ (by rw [hyes]; (exact Ent.auto))
        · have hno := ite_congr_b (in_snoc hjl hyx) (M.set i (rq - (v : Int))) M
          generalize (if (t.length : Int) ∈ ix.take j then M.set i (rq - (v : Int)) else M) = cur at hno ⊢
          repeat' first
            | ((with_reducible refine Nx.is_wp ?_); first | refine Nx.wo ?_ | refine Nx.zp (fun hc => ?_) (fun hc => ?_))
            | (refine Nx.zo ?_; first | refine Nx.opr rfl rfl ?_ | refine Nx.indexAddr_nat rfl rfl rfl rfl rfl (by omega) (hin.isSome (by omega)) ?_ | refine Nx.load rfl rfl rfl (hin.rd (by omega)) ?_ | refine Nx.so ?_ | refine Nx.sb (fun bx => ?_) | refine Nx.sa (fun A2 c2 => ?_))
            | ((with_reducible refine Nx.is_at ?_); first | refine Nx.a ?_ | refine Nx.zd ?_ | refine Nx.zs (fun hc => ?_) (fun hc => ?_))
            | ((with_reducible refine Nx.is_mix ?_); first | refine Nx.m ?_ | refine Nx.zm ?_ | refine Nx.zt (fun hc => ?_) (fun hc => ?_))
            | refine Nx.zx ?_ | fail
          exact Nx.again (j + 1) hjl (by omega) ⟨rfl, rfl, rfl, rfl, rfl, rfl, rfl, rfl, rfl, rfl, rfl, rfl, rfl, rfl, rfl, rfl, rfl, rfl, rfl, trivial⟩ (by rw [hno]; (exact Ent.auto))
      obtain rfl : j = ix.length := by omega
      rw [List.take_length]
      have hnew : (if (t.length : Int) ∈ ix then M.set i (rq - (v : Int)) else M) = mixR (eqns l) t (v : Int) (i + 1) := by
        rw [← hms]
        by_cases hm : (t.length : Int) ∈ ix
        · rw [if_pos hm, if_pos hm]
        · rw [if_neg hm, if_neg hm, Int.sub_zero, set_same hma (by omega)]
      have hnat : (mixR (eqns l) t (v : Int) (i + 1)).getD i default = rq - if (t.length : Int) ∈ ix then (v : Int) else 0 := by
        rw [← hms, List.getD_eq_getElem?_getD, List.getElem?_set_self (by omega)]; rfl
      have hnl : (mixR (eqns l) t (v : Int) (i + 1)).length = l.length := by rw [← hms, List.length_set]; exact hml
      rw [hnew]
      have hall : (eqns (l.take (i + 1))).all (fitQ (t ++ [(v : Int)])) = (f && fitQ (t ++ [(v : Int)]) (eqn ((Ax, cx, ix), z))) := by
        rw [hes, List.all_append, ← hf, List.all_cons, List.all_nil, Bool.and_true]
      generalize hM2 : mixR (eqns l) t (v : Int) (i + 1) = M2 at hnat hnl ⊢
      generalize (rq - if (t.length : Int) ∈ ix then (v : Int) else 0) = r2 at hnat hfq
      have hidx : (((ix.length : Int) - 1).toNat * 1) = (ix.length - 1) * 1 := by omega
      have hlr : ∀ (W : World) (R : List Res), Rd W I R ((ad Ax).add ((((ix.length : Int) - 1).toNat) * 1)) (.int .i64 (ix.getD (ix.length - 1) default)) := fun W R => by rw [hidx]; exact hin.rd (by omega)
      have hrv : ∀ (W : World) (R : List Res), Rd W I (Vec 3 1 A' l.length c' (M2.map (Value.int .i64)) :: R) ((ad A').add (i * 1)) (.int .i64 r2) := fun W R => by rw [← hnat]; exact Rd.vecEl 0 (f := Value.int .i64) (l := M2) (i := i) rfl (by omega)
      refine Nx.vec_fact fun _ _ _ hA' => ?_
      generalize ix.getD (ix.length - 1) default = lst at hlr hfq
      have hdone : fitQ (t ++ [(v : Int)]) (eqn ((Ax, cx, ix), z)) = true → (eqns (l.take (i + 1))).all (fitQ (t ++ [(v : Int)])) = f := fun h => by rw [hall, h, Bool.and_true]
      by_cases hlst : lst = (t.length : Int)
      · by_cases hr2 : r2 = 0
        · rw [decide_eq_true hr2, Bool.or_true] at hfq
          repeat' first
            | ((with_reducible refine Nx.is_wp ?_); first | refine Nx.wo ?_ | refine Nx.zp (fun hc => ?_) (fun hc => ?_))
            | (refine Nx.zo ?_; first | refine Nx.opr rfl rfl ?_ | refine Nx.indexAddr (sz := 1) rfl rfl rfl rfl rfl (by omega) (by omega) (hin.isSome (by omega)) ?_ | refine Nx.load rfl rfl rfl (hlr _ _) ?_ | refine Nx.indexAddr_nat rfl rfl rfl rfl rfl (by omega) (hA' (by omega)) ?_ | refine Nx.load rfl rfl rfl (hrv _ _) ?_ | refine Nx.so ?_ | refine Nx.sb (fun bx => ?_) | refine Nx.sa (fun A2 c2 => ?_))
            | ((with_reducible refine Nx.is_at ?_); first | refine Nx.a ?_ | refine Nx.zd ?_ | refine Nx.zs (fun hc => ?_) (fun hc => ?_))
            | ((with_reducible refine Nx.is_mix ?_); first | refine Nx.m ?_ | refine Nx.zm ?_ | refine Nx.zt (fun hc => ?_) (fun hc => ?_))
            | refine Nx.zx ?_ | fail
          exact Nx.again (i + 1, f) ⟨hil, (hdone hfq).symm⟩ (by dsimp only; omega) ⟨rfl, rfl, rfl, rfl, rfl, rfl, rfl, rfl, rfl, rfl, rfl, rfl, rfl, rfl, trivial⟩ (by dsimp only; rw [hM2]; (exact Ent.auto))
        · rw [decide_eq_false hr2, decide_eq_true hlst] at hfq
          repeat' first
            | ((with_reducible refine Nx.is_wp ?_); first | refine Nx.wo ?_ | refine Nx.zp (fun hc => ?_) (fun hc => ?_))
            | (refine Nx.zo ?_; first | refine Nx.opr rfl rfl ?_ | refine Nx.indexAddr (sz := 1) rfl rfl rfl rfl rfl (by omega) (by omega) (hin.isSome (by omega)) ?_ | refine Nx.load rfl rfl rfl (hlr _ _) ?_ | refine Nx.indexAddr_nat rfl rfl rfl rfl rfl (by omega) (hA' (by omega)) ?_ | refine Nx.load rfl rfl rfl (hrv _ _) ?_ | refine Nx.so ?_ | refine Nx.sb (fun bx => ?_) | refine Nx.sa (fun A2 c2 => ?_))
            | ((with_reducible refine Nx.is_at ?_); first | refine Nx.a ?_ | refine Nx.zd ?_ | refine Nx.zs (fun hc => ?_) (fun hc => ?_))
            | ((with_reducible refine Nx.is_mix ?_); first | refine Nx.m ?_ | refine Nx.zm ?_ | refine Nx.zt (fun hc => ?_) (fun hc => ?_))
            | refine Nx.zx ?_ | fail
          exact Nx.again (i + 1, false) ⟨hil, by dsimp only; rw [hall, hfq]; cases f <;> rfl⟩ (by dsimp only; omega) ⟨rfl, rfl, rfl, rfl, rfl, rfl, rfl, rfl, rfl, rfl, rfl, rfl, rfl, rfl, trivial⟩ (by dsimp only; rw [hM2]; (exact Ent.auto))
      · rw [decide_eq_false hlst, Bool.not_false, Bool.true_or] at hfq
        repeat' first
          | ((with_reducible refine Nx.is_wp ?_); first | refine Nx.wo ?_ | refine Nx.zp (fun hc => ?_) (fun hc => ?_))
          | (refine Nx.zo ?_; first | refine Nx.opr rfl rfl ?_ | refine Nx.indexAddr (sz := 1) rfl rfl rfl rfl rfl (by omega) (by omega) (hin.isSome (by omega)) ?_ | refine Nx.load rfl rfl rfl (hlr _ _) ?_ | refine Nx.so ?_ | refine Nx.sb (fun bx => ?_) | refine Nx.sa (fun A2 c2 => ?_))
          | ((with_reducible refine Nx.is_at ?_); first | refine Nx.a ?_ | refine Nx.zd ?_ | refine Nx.zs (fun hc => ?_) (fun hc => ?_))
          | ((with_reducible refine Nx.is_mix ?_); first | refine Nx.m ?_ | refine Nx.zm ?_ | refine Nx.zt (fun hc => ?_) (fun hc => ?_))
          | refine Nx.zx ?_ | fail
        exact Nx.again (i + 1, f) ⟨hil, (hdone hfq).symm⟩ (by dsimp only; omega) ⟨rfl, rfl, rfl, rfl, rfl, rfl, rfl, rfl, rfl, rfl, rfl, rfl, rfl, rfl, trivial⟩ (by dsimp only; rw [hM2]; (exact Ent.auto))
    obtain rfl : i = l.length := by omega
    rw [List.take_length, ← fitB_eq] at hf
    have hmall := mixR_all (eqns l) t (v : Int)
    rw [eqns_len] at hmall
    rw [hmall]
    have hnext : (o4.map (·.2.2) ++ stepF (eqns l) k t v).take most = (o.map (·.2.2) ++ (List.range (v + 1)).flatMap (stepF (eqns l) k t)).take most := by
      rw [ho4, take_most, List.append_assoc, List.range_succ, List.flatMap_append, List.flatMap_cons, List.flatMap_nil, List.append_nil]
    cases f with
    | false =>
      have hst : stepF (eqns l) k t v = [] := by unfold stepF; rw [← hf]; rfl
      rw [hst, List.append_nil, List.take_of_length_le (by rw [List.length_map]; exact ho4l)] at hnext
      repeat' first
        | ((with_reducible refine Nx.is_wp ?_); first | refine Nx.wo ?_ | refine Nx.zp (fun hc => ?_) (fun hc => ?_))
        | (refine Nx.zo ?_; first | refine Nx.opr rfl rfl ?_ | refine Nx.so ?_ | refine Nx.sb (fun bx => ?_) | refine Nx.sa (fun A2 c2 => ?_))
        | ((with_reducible refine Nx.is_at ?_); first | refine Nx.a ?_ | refine Nx.zd ?_ | refine Nx.zs (fun hc => ?_) (fun hc => ?_))
        | ((with_reducible refine Nx.is_mix ?_); first | refine Nx.m ?_ | refine Nx.zm ?_ | refine Nx.zt (fun hc => ?_) (fun hc => ?_))
        | refine Nx.zx ?_ | fail
      exact Nx.again (v + 1, A4, c4, o4) ⟨hvN, hnext⟩ (by dsimp only; omega) ⟨rfl, rfl, rfl, rfl, rfl, rfl, rfl, rfl, rfl, trivial⟩ (by (exact Ent.auto))
    | true =>
      have hst : stepF (eqns l) k t v = rs (eqns l) k (t ++ [(v : Int)]) := by unfold stepF; rw [← hf]; rfl
      rw [hst] at hnext
      have hb2 : ∀ q ∈ eqns l, 0 ≤ restQ (t ++ [(v : Int)]) q ∧ restQ (t ++ [(v : Int)]) q ≤ 1000000 := fun q hq => by
        have h1 := hb q hq
        have hnd : q.1.Nodup := by
          obtain ⟨x, hx, rfl⟩ := List.mem_map.1 hq
          exact eqn_nd (hg x hx)
        rw [restQ_app hnd]
        by_cases hm : t.length ∈ q.1
        · rw [if_pos hm]
          have := ((le_gtF (eqns l)).1 (show (v : Int) ≤ gtF t t.length (max 0 (roomR (eqns l) t.length - 1)) (eqns l) from hvt)).2 q hq hm
          omega
        · rw [if_neg hm]; omega
      have htl1 : (t ++ [(v : Int)]).length = t.length + 1 := by simp
      repeat' first
        | ((with_reducible refine Nx.is_wp ?_); first | refine Nx.wo ?_ | refine Nx.zp (fun hc => ?_) (fun hc => ?_))
        | (refine Nx.zo ?_; first | refine Nx.opr rfl rfl ?_ | refine Nx.so ?_ | refine Nx.sb (fun bx => ?_) | refine Nx.sa (fun A2 c2 => ?_))
        | ((with_reducible refine Nx.is_at ?_); first | refine Nx.a ?_ | refine Nx.zd ?_ | refine Nx.zs (fun hc => ?_) (fun hc => ?_))
        | ((with_reducible refine Nx.is_mix ?_); first | refine Nx.m ?_ | refine Nx.zm ?_ | refine Nx.zt (fun hc => ?_) (fun hc => ?_))
        | refine Nx.zx ?_ | fail
      refine Nx.blk_vec 0 0 1 rfl rfl (by omega) ?_
      refine Nx.at_op rfl rfl ?_
      refine Nx.append rfl rfl rfl rfl (by kernel_rfl) rfl (Src.arr ht.arr (by simp) (by omega) (fun u hu => by obtain ⟨z, _, rfl⟩ := List.mem_map.1 hu; rfl)) (by omega) fun A6 c6 => ?_
      rw [Nat.zero_add, List.nil_append]
      repeat' first
        | ((with_reducible refine Nx.is_wp ?_); first | refine Nx.wo ?_ | refine Nx.zp (fun hc => ?_) (fun hc => ?_))
        | (refine Nx.zo ?_; first | refine Nx.opr rfl rfl ?_ | refine Nx.so ?_ | refine Nx.sb (fun bx => ?_) | refine Nx.sa (fun A2 c2 => ?_))
        | ((with_reducible refine Nx.is_at ?_); first | refine Nx.a ?_ | refine Nx.zd ?_ | refine Nx.zs (fun hc => ?_) (fun hc => ?_))
        | ((with_reducible refine Nx.is_mix ?_); first | refine Nx.m ?_ | refine Nx.zm ?_ | refine Nx.zt (fun hc => ?_) (fun hc => ?_))
        | refine Nx.zx ?_ | fail
      refine Nx.ent (R' := [iR A2 c2 (t ++ [(v : Int)]), iR A' c' (restL (eqns l) (t ++ [(v : Int)])), Vec 25 1 A4 o4.length c4 (o4.map rowV), Stars (o4.map rwR), F]) (by unfold iR; rw [htl1, restL_len, eqns_len, List.map_append]; (exact Ent.auto)) ?_
      refine Nx.freezeAt 0 rfl fun I2 m2 hI2 hm2 h2 => ?_
      refine Nx.freezeAt 0 rfl fun I3 m3 hI3 hm3 h3 => ?_
      have ih := rsearch_spec A c l n most hg hn9 hm9 hll k I3 (hl.mono (hI2.trans hI3)) (t ++ [(v : Int)]) (by rw [htl1]; omega) hb2 A2 c2 ((show Ints I2 A2 c2 (t ++ [(v : Int)]) from Vec.sliceOf (t := 3) hm2 h2).mono hI3) A' c' (Vec.sliceOf (t := 3) hm3 h3) A4 c4 o4 ho4l
      rw [htl1, Int.natCast_add] at ih
      unfold SrPost at ih
      rw [hnext] at ih
      repeat' first
        | ((with_reducible refine Nx.is_wp ?_); first | refine Nx.wo ?_ | refine Nx.zp (fun hc => ?_) (fun hc => ?_))
        | (refine Nx.zo ?_; first | refine Nx.opr rfl rfl ?_ | (refine Nx.call rfl rfl rfl (by kernel_rfl) rfl ih (by (exact Ent.auto)) ?_; rintro _ _ ⟨A5, c5, o5, rfl, ho5, rfl⟩) | refine Nx.so ?_ | refine Nx.sb (fun bx => ?_) | refine Nx.sa (fun A2 c2 => ?_))
        | ((with_reducible refine Nx.is_at ?_); first | refine Nx.a ?_ | refine Nx.zd ?_ | refine Nx.zs (fun hc => ?_) (fun hc => ?_))
        | ((with_reducible refine Nx.is_mix ?_); first | refine Nx.m ?_ | refine Nx.zm ?_ | refine Nx.zt (fun hc => ?_) (fun hc => ?_))
        | refine Nx.zx ?_ | fail
      exact Nx.imm_le (hI2.trans hI3) (Nx.again (v + 1, A5, c5, o5) ⟨hvN, ho5⟩ (by dsimp only; omega) ⟨rfl, rfl, rfl, rfl, rfl, rfl, rfl, rfl, rfl, trivial⟩ (by (exact Ent.auto)))
end Go.Proofs.YtcmdemfhbekabaaGreat
/- Contracts of functions of the given program, and lemmas about plain lists and numbers: what the laws of this seat lean on. -/
namespace Go.Proofs.YtcmdemfhbekabaaGreat
open Go.Eng Go.Sol
attribute [local irreducible] opK wpList Code.wp Exit.then Exit.inBlock fnPost bodyPost Nx Calls Oper.wp Rd Rds Wr Ent Stars Blk Again Vec FnSpec wpMix QRun Stop Upto wpAt
/-! Plain: the reference's search finds the same, in the same order -/
theorem asc_eqns {n : Nat} {l : List EqR} (hg : ∀ q ∈ l, GoodE n q) : Asc n (eqns l) := by
  refine ⟨fun q hq => ?_, fun q hq c hc => ?_, fun q hq => (cells_bd hg q hq).1⟩
  · obtain ⟨x, hx, rfl⟩ := List.mem_map.1 hq
    exact toNat_asc (hg x hx).asc fun y hy => ((hg x hx).lt y hy).1
  · obtain ⟨x, hx, rfl⟩ := List.mem_map.1 hq
    have := (hg x hx).lt _ ((mem_eqn (hg x hx)).1 hc)
    omega
theorem nil_at (c : Nat) : (0 : Int) ≤ ([] : List Int).getD c 0 := by rw [getD_ge (Nat.zero_le _)]; exact Int.le_refl _
theorem from_goes {n : Nat} {l : List EqR} (hg : ∀ q ∈ l, GoodE n q) {s : List Int} : From (eqns l) n [] s ↔ Goes n 1000000 (eqns l) (touch n (eqns l)) (List.replicate n 0) s := by
  have ha := asc_eqns hg
  constructor
  · intro h
    have hlen : s.length = n := by have := h.len; rwa [List.length_nil, Nat.zero_add] at this
    have hnn : ∀ c, 0 ≤ s.getD c 0 := fun c => (h.pos c (Nat.zero_le _)).1
    refine ⟨hlen, fun c hc => ?_, fun c hc => ⟨hnn c, ?_⟩, h.sum⟩
    · rw [zeros_at]
      rcases Nat.lt_or_ge c n with hcn | hcn
      · exact (h.pos c (Nat.zero_le _)).2 fun q hq hx => hc (mem_touch.2 ⟨hcn, q, hq, hx⟩)
      · exact getD_ge (by omega)
    · obtain ⟨_, q, hq, hx⟩ := mem_touch.1 hc
      have h1 := le_sumC (s := s) (c := c) (cs := q.1) (fun d _ => hnn d) hx
      rw [h.sum q hq] at h1
      have := (cells_bd hg q hq).2
      omega
  · intro h
    refine ⟨by rw [h.len, List.length_nil, Nat.zero_add], rfl, fun c _ => ?_, h.sum⟩
    by_cases hc : c ∈ touch n (eqns l)
    · refine ⟨(h.pos c hc).1, fun hno => ?_⟩
      obtain ⟨_, q, hq, hx⟩ := mem_touch.1 hc
      exact absurd hx (hno q hq)
    · have := h.same c hc
      rw [zeros_at] at this
      rw [this]; exact ⟨Int.le_refl _, fun _ => rfl⟩
theorem mem_rsols {n : Nat} {l : List EqR} (hg : ∀ q ∈ l, GoodE n q) {s : List Int} : s ∈ rs (eqns l) n [] ↔ s ∈ solsOf n (eqns l) := by
  rw [mem_sols hg, ← from_goes hg]
  exact mem_rs (asc_eqns hg) (by simp) nil_at
theorem once_eqns {n : Nat} {l : List EqR} (hg : ∀ q ∈ l, GoodE n q) : Once (eqns l) := (asc_eqns hg).once
theorem sols_sorted {n : Nat} {l : List EqR} (hg : ∀ q ∈ l, GoodE n q) : (solsOf n (eqns l)).Pairwise (ltU false (touch n (eqns l))) :=
  enum_sorted (once_eqns hg) (inv_start hg (touch_nd _ _) fun _ => Iff.rfl)
theorem ext_sorted {n x : Nat} {down : Bool} {l : List EqR} (hg : ∀ q ∈ l, GoodE n q) (hx : x ∈ touch n (eqns l)) : (extOf n (eqns l) x down).Pairwise (ltU down (ordOf n (eqns l) x)) :=
  enum_sorted (once_eqns hg) (inv_start hg (ord_nd n (eqns l) x) (ord_mem hx))
theorem rs_sols {n : Nat} {l : List EqR} (hg : ∀ q ∈ l, GoodE n q) : rs (eqns l) n [] = solsOf n (eqns l) := by
  refine sorted_same (fun _ => ltU_irrefl) (fun _ _ => ltU_asymm) ?_ (sols_sorted hg) fun s => mem_rsols hg
  refine List.Pairwise.imp_of_mem (fun {a b} hia hib hab => ?_) (rs_sorted (asc_eqns hg) (k := n) (t := []) (by simp) nil_at)
  have ga := (mem_sols hg).1 ((mem_rsols hg).1 hia)
  have gb := (mem_sols hg).1 ((mem_rsols hg).1 hib)
  rw [List.length_nil, ← List.range_eq_range'] at hab
  unfold touch
  refine ltU_filter (fun c hc hp => ?_) hab
  have hno : c ∉ touch n (eqns l) := fun h => by
    have := (List.mem_filter.1 h).2
    rw [hp] at this; cases this
  rw [ga.same c hno, gb.same c hno]
/-! Products -/
def prodF (L : List Eqn) : Nat → Int
  | 0 => 1
  | k + 1 => prodF L k * max 1 (roomR L k)
theorem prodF_pos (L : List Eqn) : ∀ k, 1 ≤ prodF L k
  | 0 => Int.le_refl _
  | k + 1 => by
    have h1 : (1 : Int) * 1 ≤ prodF L k * max 1 (roomR L k) := Int.mul_le_mul (prodF_pos L k) (by omega) (by omega) (by have := prodF_pos L k; omega)
    rw [prodF]; omega
theorem prodF_step (L : List Eqn) (k : Nat) : prodF L k ≤ prodF L (k + 1) := by
  have h0 := prodF_pos L k
  have h1 : prodF L k * 1 ≤ prodF L k * max 1 (roomR L k) := Int.mul_le_mul_of_nonneg_left (by omega) (by omega)
  rw [prodF]; omega
theorem prodF_mono (L : List Eqn) {k : Nat} : ∀ {n : Nat}, k ≤ n → prodF L k ≤ prodF L n
  | 0, h => by rw [show k = 0 by omega]; exact Int.le_refl _
  | n + 1, h => by
    rcases Nat.lt_or_ge n k with h' | h'
    · rw [show k = n + 1 by omega]; exact Int.le_refl _
    · exact Int.le_trans (prodF_mono L h') (prodF_step L n)
theorem prodR_prodF (L : List Eqn) : ∀ (k a : Nat), prodF L a * prodR L (List.range' a k) = prodF L (a + k)
  | 0, a => by rw [List.range'_zero, prodR, Int.mul_one]; rfl
  | k + 1, a => by
    rw [List.range'_succ, prodR, ← Int.mul_assoc, show prodF L a * max 1 (roomR L a) = prodF L (a + 1) from rfl, prodR_prodF L k (a + 1), show a + 1 + k = a + (k + 1) by omega]
theorem rs_count {n : Nat} (L : List Eqn) : ((rs L n []).length : Int) ≤ prodF L n := by
  have h1 := rs_len (L := L) n []
  have h2 := prodR_prodF L n 0
  rw [show prodF L 0 = 1 from rfl, Int.one_mul, Nat.zero_add] at h2
  rw [List.length_nil, h2] at h1
  exact h1
def prodX : List Int → Int
  | [] => 1
  | x :: r => x * prodX r
theorem prodX_app (a b : List Int) : prodX (a ++ b) = prodX a * prodX b := by
  induction a with
  | nil => rw [List.nil_append, prodX, Int.one_mul]
  | cons x r ih => rw [List.cons_append, prodX, prodX, ih, Int.mul_assoc]
theorem prodX_pos : ∀ {xs : List Int}, (∀ x ∈ xs, 1 ≤ x) → 1 ≤ prodX xs
  | [], _ => Int.le_refl _
  | x :: r, h => by
    have h1 : (1 : Int) * 1 ≤ x * prodX r := Int.mul_le_mul (h x (by simp)) (prodX_pos fun y hy => h y (by simp [hy])) (by omega) (by have := h x (by simp); omega)
    rw [prodX]; omega
theorem sizeB_iff : ∀ {xs : List Int} {a : Int}, (∀ x ∈ xs, 1 ≤ x) → 1 ≤ a → a ≤ 65536 → (sizeB a xs = true ↔ a * prodX xs ≤ 65536)
  | [], a, _, _, h9 => by rw [sizeB, prodX, Int.mul_one]; exact ⟨fun _ => h9, fun _ => rfl⟩
  | x :: r, a, hx, h1, h9 => by
    have hx1 := hx x (by simp)
    have hp := prodX_pos (xs := r) fun y hy => hx y (by simp [hy])
    have hax : (1 : Int) * 1 ≤ a * x := Int.mul_le_mul h1 hx1 (by omega) (by omega)
    rw [sizeB, prodX, ← Int.mul_assoc]
    by_cases h : a * x ≤ 65536
    · rw [decide_eq_true h, Bool.true_and]
      exact sizeB_iff (fun y hy => hx y (by simp [hy])) (by omega) h
    · rw [decide_eq_false h, Bool.false_and]
      have h2 : a * x * 1 ≤ a * x * prodX r := Int.mul_le_mul_of_nonneg_left hp (by omega)
      exact ⟨fun h' => (by cases h'), fun h' => by omega⟩
theorem le_roomOf {c : Nat} {v : Int} : ∀ (L : List Eqn), v ≤ roomOf L c ↔ v ≤ 1000001 ∧ ∀ q ∈ L, c ∈ q.1 → v ≤ q.2 + 1 := by
  refine snoc_ind ?_ ?_
  · exact ⟨fun h => ⟨h, fun q hq => (nomatch hq)⟩, fun h => h.1⟩
  · intro L q ih
    rw [room_snoc]
    by_cases hc : c ∈ q.1
    · rw [if_pos hc, Int.le_min, ih]
      refine ⟨fun h => ⟨h.1.1, fun p hp hcp => ?_⟩, fun h => ⟨⟨h.1, fun p hp => h.2 p (by simp [hp])⟩, h.2 q (by simp) hc⟩⟩
      rcases List.mem_append.1 hp with hp | hp
      · exact h.1.2 p hp hcp
      · rw [List.mem_singleton] at hp; subst hp; exact h.2
    · rw [if_neg hc, ih]
      refine ⟨fun h => ⟨h.1, fun p hp hcp => ?_⟩, fun h => ⟨h.1, fun p hp => h.2 p (by simp [hp])⟩⟩
      rcases List.mem_append.1 hp with hp | hp
      · exact h.2 p hp hcp
      · rw [List.mem_singleton] at hp; subst hp; exact absurd hcp hc
theorem room_same {L : List Eqn} {c : Nat} (hv : ∀ q ∈ L, 0 ≤ q.2 ∧ q.2 ≤ 1000000) (hc : ∃ q ∈ L, c ∈ q.1) : roomR L c = roomOf L c ∧ 1 ≤ roomR L c := by
  obtain ⟨h1, h2, h3⟩ := roomR_facts (c := c) L fun q hq => (hv q hq).1
  obtain ⟨q0, hq0, hc0⟩ := hc
  have hne : roomR L c ≠ 0 := fun h => h2.1 h q0 hq0 hc0
  have h3 := h3 hne
  refine ⟨?_, by omega⟩
  have ha : roomR L c ≤ roomOf L c := (le_roomOf L).2 ⟨by have := (h3 (roomR L c - 1)).1 (Int.le_refl _) q0 hq0 hc0; have := (hv q0 hq0).2; omega, fun q hq hx => by have := (h3 (roomR L c - 1)).1 (Int.le_refl _) q hq hx; omega⟩
  have hb := (h3 (roomOf L c - 1)).2 fun q hq hx => by have := ((le_roomOf L).1 (Int.le_refl (roomOf L c))).2 q hq hx; omega
  omega
theorem touch_succ (n : Nat) (L : List Eqn) : touch (n + 1) L = touch n L ++ if L.any fun q => decide (n ∈ q.1) then [n] else [] := by
  unfold touch
  rw [List.range_succ, List.filter_append]
  congr 1
  rw [List.filter_cons, List.filter_nil]
theorem prod_same {L : List Eqn} (hv : ∀ q ∈ L, 0 ≤ q.2 ∧ q.2 ≤ 1000000) : ∀ n, prodX (roomsOf n L) = prodF L n
  | 0 => rfl
  | n + 1 => by
    unfold roomsOf
    rw [touch_succ, List.map_append, prodX_app, prodF]
    have ih := prod_same hv n
    unfold roomsOf at ih
    rw [ih]
    congr 1
    by_cases h : (L.any fun q => decide (n ∈ q.1)) = true
    · rw [if_pos h]
      obtain ⟨q, hq, hn⟩ := List.any_eq_true.1 h
      have hr := room_same (c := n) hv ⟨q, hq, of_decide_eq_true hn⟩
      show roomOf L n * 1 = _
      rw [← hr.1]; omega
    · rw [if_neg h]
      have := (roomR_facts (c := n) L fun q hq => (hv q hq).1).2.1.2 fun q hq hx => h (List.any_eq_true.2 ⟨q, hq, decide_eq_true hx⟩)
      rw [this]; rfl
theorem small_iff {n : Nat} {l : List EqR} (hg : ∀ q ∈ l, GoodE n q) : smallB n (eqns l) = true ↔ prodF (eqns l) n ≤ 65536 := by
  have hv := cells_bd hg
  unfold smallB
  rw [sizeB_iff (fun x hx => ?_) (Int.le_refl _) (by decide), Int.one_mul, prod_same hv]
  obtain ⟨c, _, rfl⟩ := List.mem_map.1 hx
  exact (room_bd fun q hq => (hv q hq).1).1
/-! The first table with the least, or the greatest, number at a cell -/
theorem first_is {S E : List (List Int)} {U : List Nat} {x : Nat} {down : Bool} {h : List Int} {r : List (List Int)} {i : Nat} (hs : S.Pairwise (ltU false U)) (hi : i < S.length) (hE : E = h :: r)
    (hEs : E.Pairwise (ltU down (x :: U.filter fun c => !decide (c = x)))) (hmem : ∀ s, s ∈ E ↔ s ∈ S) (hle : ∀ s ∈ S, if down then s.getD x 0 ≤ (S.getD i default).getD x 0 else (S.getD i default).getD x 0 ≤ s.getD x 0)
    (hlt : ∀ j, j < i → (S.getD j default).getD x 0 ≠ (S.getD i default).getD x 0) : S.getD i default = h := by
  have hat : ∀ {j : Nat} (hj : j < S.length), S.getD j default = S[j] := fun hj => by rw [List.getD_eq_getElem?_getD, List.getElem?_eq_getElem hj]; rfl
  have hhS : h ∈ S := (hmem h).1 (by rw [hE]; exact List.mem_cons_self ..)
  have hiE : S.getD i default ∈ E := (hmem _).2 (by rw [hat hi]; exact List.getElem_mem _)
  rw [hE, List.pairwise_cons] at hEs
  rw [hE] at hiE
  rcases List.mem_cons.1 hiE with h0 | h0
  · exact h0
  · exfalso
    have h1 := hEs.1 _ h0
    have hhle := hle h hhS
    rcases h1 with h1 | ⟨h1, h2⟩
    · cases down with
      | true => rw [if_pos rfl] at h1 hhle; omega
      | false => rw [if_neg (by decide)] at h1 hhle; omega
    · obtain ⟨j, hj, hje⟩ := List.mem_iff_getElem.1 hhS
      rcases Nat.lt_trichotomy j i with hji | hji | hji
      · refine hlt j hji ?_
        rw [hat hj, hje]; exact h1
      · subst hji
        rw [hat hj, hje] at h2
        exact ltU_irrefl h2
      · have h3 := List.pairwise_iff_getElem.1 hs i j hi hj hji
        rw [hje, ← hat hi] at h3
        exact ltU_asymm h2 (ltU_filter (p := fun c => !decide (c = x)) (fun c _ hp => by
          have : c = x := by simpa using hp
          rw [this]; exact h1.symm) h3)
/-- The first in such an order has the least, or the greatest, number. -/
theorem ext_head {n x : Nat} {down : Bool} {l : List EqR} (hg : ∀ q ∈ l, GoodE n q) (hx : x ∈ touch n (eqns l)) {h : List Int} {r : List (List Int)} (he : extOf n (eqns l) x down = h :: r) : h ∈ solsOf n (eqns l) ∧ ∀ s ∈ solsOf n (eqns l), if down then s.getD x 0 ≤ h.getD x 0 else h.getD x 0 ≤ s.getD x 0 := by
  have hm := fun s => mem_ext (down := down) (s := s) hg hx
  have hs := ext_sorted (down := down) hg hx
  rw [he] at hs
  refine ⟨(hm _).1 (by rw [he]; exact List.mem_cons_self ..), fun s h' => ?_⟩
  have h' := (hm _).2 h'
  rw [he] at h'
  rcases List.mem_cons.1 h' with rfl | h'
  · cases down <;> exact Int.le_refl _
  · rcases (List.pairwise_cons.1 hs).1 s h' with h1 | h1
    · cases down with
      | true => rw [if_pos rfl] at h1 ⊢; omega
      | false => rw [if_neg (by decide)] at h1 ⊢; omega
    · cases down with
      | true => rw [if_pos rfl]; omega
      | false => rw [if_neg (by decide)]; omega
end Go.Proofs.YtcmdemfhbekabaaGreat
/- Contracts of functions of the given program, and lemmas about plain lists and numbers: what the laws of this seat lean on. -/
namespace Go.Proofs.YtcmdemfhbekabaaGreat
open Go.Eng Go.Sol
attribute [local irreducible] opK wpList Code.wp Exit.then Exit.inBlock fnPost bodyPost Nx Calls Oper.wp Rd Rds Wr Ent Stars Blk Again Vec FnSpec wpMix QRun Stop Upto wpAt
/-! The reference's functions -/
theorem rest_nil (l : List EqR) : restL (eqns l) [] = valsL l := rest_start 0 l
set_option maxRecDepth 10000 in
set_option maxHeartbeats 8000000 in
theorem all_spec (A : Option Addr) (c : Nat) (l : List EqR) (n most : Nat) (I : PH) (hl : Eqs I A c l) (hg : ∀ q ∈ l, GoodE n q) (hn9 : n ≤ 4096) (hll : l.length ≤ 100000) (hm9 : most ≤ 1000000) :
    FnSpec Tryz.prog 61 [.int .i64 (n : Int), .slice A l.length c, .int .i64 (most : Int)] I []
      (fun v R' => ∃ (A' : Option Addr) (c' : Nat) (o : List Row), v = .slice A' o.length c' ∧ o.map (·.2.2) = (solsOf n (eqns l)).take most ∧ R' = rowsR A' c' o) := by
  have hlen := hl.len
  refine FnSpec.enterP Tryz.func61 rfl Tryz.ntmps61 rfl fun w F => ?_
  repeat' first
    | ((with_reducible refine Nx.is_wp ?_); first | refine Nx.wo ?_ | refine Nx.zp (fun hc => ?_) (fun hc => ?_))
    | (refine Nx.zo ?_; first | refine Nx.opr rfl rfl ?_ | refine Nx.so ?_ | refine Nx.sb (fun bx => ?_) | refine Nx.sa (fun A2 c2 => ?_))
    | ((with_reducible refine Nx.is_at ?_); first | refine Nx.a ?_ | refine Nx.zd ?_ | refine Nx.zs (fun hc => ?_) (fun hc => ?_))
    | ((with_reducible refine Nx.is_mix ?_); first | refine Nx.m ?_ | refine Nx.zm ?_ | refine Nx.zt (fun hc => ?_) (fun hc => ?_))
    | refine Nx.zx ?_ | fail
  refine Nx.p_loop (σ := Nat × Option Addr × Nat) (fun s => [(0, .int .i64 (n : Int)), (1, .slice A l.length c), (2, .int .i64 (most : Int)), (7, .slice s.2.1 (valsL (l.take s.1)).length s.2.2), (10, .slice A l.length c), (11, .int .i64 l.length), (12, .int .i64 (s.1 : Int))])
    (fun s => [iR s.2.1 s.2.2 (valsL (l.take s.1)), F]) (fun s => s.1 ≤ l.length) (fun s => l.length - s.1) (0, none, 0) rfl (Nat.zero_le _) ⟨rfl, rfl, rfl, rfl, rfl, rfl, rfl, trivial⟩ ((Ent.vec_nil 3 1 _).trans (by unfold iR; (exact Ent.auto))) ?_
  rintro ⟨k, A1, c1⟩ hk
  dsimp only at hk ⊢
  have hvl : (valsL (l.take k)).length ≤ 1000000 := by rw [vals_len, List.length_take]; omega
  by_cases hlt : k < l.length
  · have hvs := vals_snoc hlt
    have hrds : ∀ (W : World) (R : List Res), Rds W I R ((ad A).add (k * 2)) (eqC (l.getD k default)) := fun W R => hl.outer.rds hlt
    generalize l.getD k default = q at hvs hrds
    obtain ⟨⟨Ax, cx, ix⟩, z⟩ := q
    dsimp only at hvs
    replace hrds : ∀ (W : World) (R : List Res), Rds W I R ((ad A).add (k * 2)) [.slice Ax ix.length cx, .int .i64 z] := hrds
    generalize valsL (l.take k) = vs at hvs hvl ⊢
    repeat' first
      | ((with_reducible refine Nx.is_wp ?_); first | refine Nx.wo ?_ | refine Nx.zp (fun hc => ?_) (fun hc => ?_))
      | (refine Nx.zo ?_; first | refine Nx.opr rfl rfl ?_ | refine Nx.indexAddr_nat rfl rfl rfl rfl rfl (by omega) (hl.outer.isSome (by omega) (by omega)) ?_ | refine Nx.loads rfl rfl rfl rfl (hrds _ _) rfl ?_ | refine Nx.so ?_ | refine Nx.sb (fun bx => ?_) | refine Nx.sa (fun A2 c2 => ?_))
      | ((with_reducible refine Nx.is_at ?_); first | refine Nx.a ?_ | refine Nx.zd ?_ | refine Nx.zs (fun hc => ?_) (fun hc => ?_))
      | ((with_reducible refine Nx.is_mix ?_); first | refine Nx.m ?_ | refine Nx.zm ?_ | refine Nx.zt (fun hc => ?_) (fun hc => ?_))
      | refine Nx.zx ?_ | fail
    exact Nx.again (k + 1, A2, c2) hlt (by dsimp only; omega) ⟨rfl, rfl, rfl, by dsimp only; rw [hvs, List.length_append]; rfl, rfl, rfl, rfl, trivial⟩ (by dsimp only; rw [hvs]; unfold iR; rw [List.length_append, List.map_append]; (exact Ent.auto))
  obtain rfl : k = l.length := by omega
  rw [List.take_length]
  have hvl2 := vals_len l
  refine Nx.freezeAt 0 rfl fun I2 m2 hI2 hm2 h2 => ?_
  have hS : FnSpec Tryz.prog 106 [.slice A l.length c, .int .i64 (n : Int), .int .i64 0, .slice none 0 0, .slice A1 l.length c1, .slice none 0 0, .int .i64 (most : Int)] I2 [Vec 25 1 none 0 0 [], Stars []] (SrPost most [] (rs (eqns l) n [])) :=
    rsearch_spec A c l n most hg hn9 hm9 hll n I2 (hl.mono hI2) [] (by simp) (fun q hq => by
      have h := cells_bd hg q hq
      have : restQ [] q = q.2 := by
        have := sumC_zero 0 q.1
        unfold restQ; rw [show ([] : List Int) = List.replicate 0 0 from rfl, this]; omega
      rw [this]; exact h) none 0 SliceOf.nil A1 c1 (by rw [rest_nil]; exact Vec.sliceOf (t := 3) hm2 h2) none 0 [] (Nat.zero_le _)
  unfold SrPost at hS
  rw [rs_sols hg] at hS
  rw [hvl2]
  refine Nx.ent (R' := [Vec 25 1 none 0 0 [], Stars [], F]) ((Ent.stars_nil _).trans ((Ent.vec_nil 25 1 _).trans (by (exact Ent.auto)))) ?_
  repeat' first
    | ((with_reducible refine Nx.is_wp ?_); first | refine Nx.wo ?_ | refine Nx.zp (fun hc => ?_) (fun hc => ?_))
    | (refine Nx.zo ?_; first | refine Nx.opr rfl rfl ?_ | (refine Nx.call rfl rfl rfl (by kernel_rfl) rfl hS (by (exact Ent.auto)) ?_; rintro _ _ ⟨A5, c5, o5, rfl, ho5, rfl⟩) | refine Nx.so ?_ | refine Nx.sb (fun bx => ?_) | refine Nx.sa (fun A2 c2 => ?_))
    | ((with_reducible refine Nx.is_at ?_); first | refine Nx.a ?_ | refine Nx.zd ?_ | refine Nx.zs (fun hc => ?_) (fun hc => ?_))
    | ((with_reducible refine Nx.is_mix ?_); first | refine Nx.m ?_ | refine Nx.zm ?_ | refine Nx.zt (fun hc => ?_) (fun hc => ?_))
    | refine Nx.zx ?_ | fail
  exact Nx.imm_le hI2 (Nx.ret_fn rfl [_, _] ⟨A5, c5, o5, rfl, ho5, rfl⟩ (by (exact Ent.auto)))
set_option maxRecDepth 10000 in
set_option maxHeartbeats 8000000 in
theorem rcheck_spec (n : Int) (A : Option Addr) (c : Nat) (l : List EqR) (I : PH) (hl : Eqs I A c l) :
    FnSpec Tryz.prog 60 [.int .i64 n, .slice A l.length c] I [] (fun v R' => v = .int .i64 (chkQ n l) ∧ R' = []) := by
  have hV := RValid_spec n A c l I hl
  unfold chkQ
  refine FnSpec.enterP Tryz.func60 rfl Tryz.ntmps60 rfl fun w F => ?_
  cases hv : validB n l with
  | false =>
    rw [hv] at hV
    repeat' first
      | ((with_reducible refine Nx.is_wp ?_); first | refine Nx.wo ?_ | refine Nx.zp (fun hc => ?_) (fun hc => ?_))
      | (refine Nx.zo ?_; first | refine Nx.opr rfl rfl ?_ | refine Nx.callv rfl rfl rfl (by kernel_rfl) rfl hV ?_ | refine Nx.so ?_ | refine Nx.sb (fun bx => ?_) | refine Nx.sa (fun A2 c2 => ?_))
      | ((with_reducible refine Nx.is_at ?_); first | refine Nx.a ?_ | refine Nx.zd ?_ | refine Nx.zs (fun hc => ?_) (fun hc => ?_))
      | ((with_reducible refine Nx.is_mix ?_); first | refine Nx.m ?_ | refine Nx.zm ?_ | refine Nx.zt (fun hc => ?_) (fun hc => ?_))
      | refine Nx.zx ?_ | fail
    exact Nx.ret_fn rfl [] ⟨rfl, rfl⟩ (by (exact Ent.auto))
  | true =>
    rw [hv] at hV
    obtain ⟨h1, h2, h3⟩ := valid_good hv
    obtain ⟨m, rfl⟩ : ∃ m : Nat, n = m := ⟨n.toNat, by omega⟩
    rw [Int.toNat_natCast] at h3 ⊢
    rw [if_neg (by decide)]
    have hR := fun x => room_spec A c l m x I hl h3
    repeat' first
      | ((with_reducible refine Nx.is_wp ?_); first | refine Nx.wo ?_ | refine Nx.zp (fun hc => ?_) (fun hc => ?_))
      | (refine Nx.zo ?_; first | refine Nx.opr rfl rfl ?_ | refine Nx.callv rfl rfl rfl (by kernel_rfl) rfl hV ?_ | refine Nx.so ?_ | refine Nx.sb (fun bx => ?_) | refine Nx.sa (fun A2 c2 => ?_))
      | ((with_reducible refine Nx.is_at ?_); first | refine Nx.a ?_ | refine Nx.zd ?_ | refine Nx.zs (fun hc => ?_) (fun hc => ?_))
      | ((with_reducible refine Nx.is_mix ?_); first | refine Nx.m ?_ | refine Nx.zm ?_ | refine Nx.zt (fun hc => ?_) (fun hc => ?_))
      | refine Nx.zx ?_ | fail
    refine Nx.p_loop (σ := Nat) (fun k => [(0, .int .i64 (m : Int)), (1, .slice A l.length c), (5, .int .i64 (prodF (eqns l) k)), (6, .int .i64 (k : Int))])
      (fun _ => [F]) (fun k => k ≤ m ∧ prodF (eqns l) k ≤ 65536) (fun k => m - k) 0 rfl ⟨Nat.zero_le _, by rw [prodF]; decide⟩ ⟨rfl, rfl, rfl, rfl, trivial⟩ (by (exact Ent.auto)) ?_
    rintro k ⟨hk, hp⟩
    by_cases hlt : k < m
    · have hrb := roomR_bd h3 k l.length
      rw [List.take_length] at hrb
      have hp1 := prodF_pos (eqns l) k
      have hps : prodF (eqns l) (k + 1) = prodF (eqns l) k * max 1 (roomR (eqns l) k) := rfl
      have hmono := prodF_mono (eqns l) (show k + 1 ≤ m from hlt)
      have hsi := small_iff h3
      have hbig : prodF (eqns l) k * max 1 (roomR (eqns l) k) ≤ 65536 * 1000001 := Int.mul_le_mul hp (by omega) (by omega) (by omega)
      have hsm : 0 ≤ prodF (eqns l) k * max 1 (roomR (eqns l) k) := Int.mul_nonneg (by omega) (by omega)
      by_cases hle : prodF (eqns l) (k + 1) ≤ 65536
      · rw [hps] at hle
        repeat' first
          | ((with_reducible refine Nx.is_wp ?_); first | refine Nx.wo ?_ | refine Nx.zp (fun hc => ?_) (fun hc => ?_))
          | (refine Nx.zo ?_; first | refine Nx.opr rfl rfl ?_ | refine Nx.callv rfl rfl rfl (by kernel_rfl) rfl (hR _) ?_ | refine Nx.so ?_ | refine Nx.sb (fun bx => ?_) | refine Nx.sa (fun A2 c2 => ?_))
          | ((with_reducible refine Nx.is_at ?_); first | refine Nx.a ?_ | refine Nx.zd ?_ | refine Nx.zs (fun hc => ?_) (fun hc => ?_))
          | ((with_reducible refine Nx.is_mix ?_); first | refine Nx.m ?_ | refine Nx.zm ?_ | refine Nx.zt (fun hc => ?_) (fun hc => ?_))
          | refine Nx.zx ?_ | fail
        exact Nx.again (k + 1) ⟨hlt, hle⟩ (by omega) ⟨rfl, rfl, rfl, rfl, trivial⟩ (by (exact Ent.auto))
      · have hno : smallB m (eqns l) = false := by
          cases hs : smallB m (eqns l) with
          | false => rfl
          | true => have := hsi.1 hs; omega
        rw [if_pos hno]
        rw [hps] at hle
        repeat' first
          | ((with_reducible refine Nx.is_wp ?_); first | refine Nx.wo ?_ | refine Nx.zp (fun hc => ?_) (fun hc => ?_))
          | (refine Nx.zo ?_; first | refine Nx.opr rfl rfl ?_ | refine Nx.callv rfl rfl rfl (by kernel_rfl) rfl (hR _) ?_ | refine Nx.so ?_ | refine Nx.sb (fun bx => ?_) | refine Nx.sa (fun A2 c2 => ?_))
          | ((with_reducible refine Nx.is_at ?_); first | refine Nx.a ?_ | refine Nx.zd ?_ | refine Nx.zs (fun hc => ?_) (fun hc => ?_))
          | ((with_reducible refine Nx.is_mix ?_); first | refine Nx.m ?_ | refine Nx.zm ?_ | refine Nx.zt (fun hc => ?_) (fun hc => ?_))
          | refine Nx.zx ?_ | fail
        exact Nx.ret_fn rfl [] ⟨rfl, rfl⟩ (by (exact Ent.auto))
    · obtain rfl : k = m := by omega
      have hyes := (small_iff h3).2 hp
      rw [hyes, if_neg (by decide)]
      repeat' first
        | ((with_reducible refine Nx.is_wp ?_); first | refine Nx.wo ?_ | refine Nx.zp (fun hc => ?_) (fun hc => ?_))
        | (refine Nx.zo ?_; first | refine Nx.opr rfl rfl ?_ | refine Nx.so ?_ | refine Nx.sb (fun bx => ?_) | refine Nx.sa (fun A2 c2 => ?_))
        | ((with_reducible refine Nx.is_at ?_); first | refine Nx.a ?_ | refine Nx.zd ?_ | refine Nx.zs (fun hc => ?_) (fun hc => ?_))
        | ((with_reducible refine Nx.is_mix ?_); first | refine Nx.m ?_ | refine Nx.zm ?_ | refine Nx.zt (fun hc => ?_) (fun hc => ?_))
        | refine Nx.zx ?_ | fail
      exact Nx.ret_fn rfl [] ⟨rfl, rfl⟩ (by (exact Ent.auto))
/-- All solutions are among the first 65536. -/
theorem sols_few {n : Nat} {l : List EqR} (hg : ∀ q ∈ l, GoodE n q) (hs : smallB n (eqns l) = true) : (solsOf n (eqns l)).take 65536 = solsOf n (eqns l) := by
  have h1 := rs_count (n := n) (eqns l)
  have h2 := (small_iff hg).1 hs
  rw [rs_sols hg] at h1
  exact List.take_of_length_le (by omega)
end Go.Proofs.YtcmdemfhbekabaaGreat
/-
  The proof engine, part AO: a statement of open order with several stores at its end, where some operations that only read temporaries are not waited for by the first of them.
-/
namespace Go.Eng
def noFin (fin : List Nat) (listed : Array Bool) : Bool := fin.all fun j => !(listed.getD j false)
/-- In whatever order the operations come up, S holds as long as none of the last ones has come up. -/
def wpAnyE (P : Program) (md : Region.Mode) (ops : Array Oper) (Q : Exit → Act → World → Prop) (S : World → Prop) (fin : List Nat) : Nat → Array Bool → Act → World → Prop
  | 0, listed, a, w => Region.ready md ops listed = [] ∧ Q .normal a w
  | n + 1, listed, a, w => (Region.ready md ops listed = [] → Q .normal a w) ∧
    ∀ i ∈ Region.ready md ops listed, wpOp P ops Q i (fun a' w' => (noFin fin (listed.setIfInBounds i true) = true → S w') ∧ wpAnyE P md ops Q S fin n (listed.setIfInBounds i true) a' w') a w
section
variable {P : Program} {ops : Array Oper} {Q : Exit → Act → World → Prop} {md : Region.Mode} {S : World → Prop} {fin loud : List Nat}
theorem wpAny_of_E : ∀ (n : Nat) (listed : Array Bool) (a : Act) (w : World), wpAnyE P md ops Q S fin n listed a w → wpAny P md ops Q n listed a w
  | 0, _, _, _, h => h
  | n + 1, _, _, _, h => ⟨h.1, fun i hi => wpOp_mono (fun a' w' h' => wpAny_of_E n _ a' w' h'.2) (h.2 i hi)⟩
theorem noFin_of {listed : Array Bool} (h : ∀ j ∈ fin, listed.getD j false = false) : noFin fin listed = true := List.all_eq_true.2 fun j hj => by rw [h j hj]; rfl
theorem noFin_at {listed : Array Bool} (h : noFin fin listed = true) {j : Nat} (hj : j ∈ fin) : listed.getD j false = false := by
  have := List.all_eq_true.1 h j hj
  cases hb : listed.getD j false with
  | false => rfl
  | true => rw [hb] at this; cases this
theorem noFin_set {listed : Array Bool} {i : Nat} (hi : fin.contains i = false) (h : noFin fin listed = true) : noFin fin (listed.setIfInBounds i true) = true := noFin_of fun j hj => by
  rw [getD_set_ne false (by rintro rfl; rw [List.contains_iff_mem.2 hj] at hi; cases hi)]
  exact noFin_at h hj
theorem noFin_less {listed : Array Bool} {i : Nat} (h : noFin fin (listed.setIfInBounds i true) = true) : noFin fin listed = true := noFin_of fun j hj => by
  have := noFin_at h hj
  cases hb : listed.getD j false with
  | false => rfl
  | true => rw [getD_set_true hb] at this; cases this
/-- While a number for which the last ones wait is still to come, none of these has come. -/
theorem noFin_waits {i : Nat} {listed : Array Bool} (hc : Closed md ops listed) (h : finWaits md ops fin i = true) (hi : i ∈ Region.ready md ops listed) (hsz : ∀ j ∈ fin, ∃ o, ops[j]? = some o) : noFin fin listed = true := noFin_of fun j hj => by
  cases hb : listed.getD j false with
  | false => rfl
  | true =>
    exfalso
    have h1 := List.all_eq_true.1 h j hj
    obtain ⟨oj, hoj⟩ := hsz j hj
    have hj' : ∀ o, ops[j]? = some o → ∀ e ∈ o.after, Region.binds md e = true → listed.getD e.on false = true := fun o ho => hc j o ho hb
    have h2 : listed.getD i false = true := by
      simp only [Bool.or_eq_true] at h1
      rcases h1 with (h1 | h1) | h1 <;> exact waitsOn_listed hc _ j h1 hj'
    have h0 := (mem_ready.1 hi).1
    rcases Nat.lt_or_ge i listed.size with h' | h'
    · simp [h'] at h0 h2
      rw [h0] at h2; cases h2
    · simp [Array.getElem?_eq_none h'] at h2
/-- An operation that reads, and that may come now; nothing of the last ones has come. -/
theorem wpAnyE_first {T : World → Prop} {i : Nat} {oi : Oper} {v : Value} (hi : ops[i]? = some oi) (hs : Region.noSelect ops = true) (hQ : PanicOk Q) (hif : fin.contains i = false) (hsz : ∀ j ∈ fin, ∃ o, ops[j]? = some o)
    (hT : ∀ (listed : Array Bool) (w : World), Closed md ops listed → i ∈ Region.ready md ops listed → (noFin fin listed = true → S w) → T w) :
    ∀ (n : Nat) (listed : Array Bool) (a : Act) (w : World), Closed md ops listed →
      (∀ j oj, ops[j]? = some oj → j ≠ i → listed.getD j true = false → (∀ e ∈ oj.after, Region.binds md e = true → e.on ≠ i) → oi.apart ops oj = true) →
      i ∈ Region.ready md ops listed → YieldsIf P ops T oi v a → (noFin fin listed = true → S w) →
      wpAnyE P md ops Q S fin n (listed.setIfInBounds i true) (a.put oi.dst v) w → wpAnyE P md ops Q S fin (n + 1) listed a w
  | n, listed, a, w, hcl, hap, hr, hy, hS, H => by
    have hTw := hT listed w hcl hr hS
    refine ⟨fun h0 => (by rw [h0] at hr; cases hr), fun j hj => ?_⟩
    by_cases hji : j = i
    · subst hji; exact hy.wpOp hi hTw ⟨fun h => hS (noFin_less h), H⟩
    · have hj2 := ready_mono hj hji
      obtain ⟨hjun, oj, hoj, _⟩ := mem_ready.1 hj
      have hno := ready_waits hr hj hoj
      match n, H with
      | 0, H => rw [H.1] at hj2; cases hj2
      | n + 1, H =>
        have h1 := H.2 j hj2
        have hyc : YieldsIf P ops (fun u => u = w) oi v a := by
          unfold YieldsIf at hy ⊢
          rcases hy with ⟨hw, hy⟩ | hy
          · exact .inl ⟨hw, fun u hu => hy u (hu ▸ hTw)⟩
          · exact .inr hy
        have h2 := wpOp_putIf hoj (hap j oj hoj hji hjun hno) (fun cs b => Region.noSelect_spec hs i oi cs b hi) (fun cs b => Region.noSelect_spec hs j oj cs b hoj) (fun c a w => hQ c oi.dst v a w) hy h1
        refine wpOp_mono (fun a' w' h3 => ?_) h2
        obtain ⟨hy', hS', H'⟩ := h3
        have hS2 : noFin fin (listed.setIfInBounds j true) = true → S w' := fun h => hS' (by rw [Array.setIfInBounds_comm _ _ (Ne.symm hji)]; exact noFin_set hif h)
        refine ⟨hS2, wpAnyE_first hi hs hQ hif hsz hT n (listed.setIfInBounds j true) a' w' (hcl.set hj) (fun k ok hk hki hun hnk => ?_) (ready_mono hr (Ne.symm hji)) hy' hS2 ?_⟩
        · refine hap k ok hk hki ?_ hnk
          by_cases hjk : j = k
          · subst hjk; exact hjun
          · rwa [getD_set_ne true hjk] at hun
        · rw [Array.setIfInBounds_comm _ _ hji]
          exact H'
/-- The operations in parts: in those that are marked, more than temporaries may be read. -/
def wpParts (P : Program) (ops : Array Oper) (Q : Exit → Act → World → Prop) (S : World → Prop) (loud fin : List Nat) : List (Bool × List Nat) → Act → World → Prop
  | [], a, w => wpMix P ops Q AnyW fin fin a w
  | (true, g) :: r, a, w => wpMix P ops (Exit.then (wpParts P ops Q S loud fin r) Q) S loud g a w
  | (false, g) :: r, a, w => wpMix P ops (Exit.then (wpParts P ops Q S loud fin r) Q) AnyW [] g a w
def flatP (l : List (Bool × List Nat)) : List (Bool × Nat) := l.flatMap fun p => p.2.map fun k => (p.1, k)
def partsOk (ops : Array Oper) (loud fin : List Nat) : List (Bool × Nat) → Array Bool → Bool
  | [], listed => mixOk ops fin fin listed
  | (b, k) :: r, listed => !(fin.contains k) && (match b && loud.contains k with | true => Region.ready .any ops listed == [k] | false => Region.free .any ops listed k && (Region.ready .any ops listed).contains k && (!b || finWaits .any ops fin k)) && partsOk ops loud fin r (listed.setIfInBounds k true)
theorem wpMix_finE (hall : ∀ k ∈ fin, fin.contains k = true) : ∀ (r : List Nat) (n : Nat) (listed : Array Bool) (a : Act) (w : World), (∀ k ∈ r, k ∈ fin) → (∀ k ∈ r, ∃ o, ops[k]? = some o) → (∀ k ∈ r, k < listed.size) →
    mixOk ops fin r listed = true → r.length ≤ n → wpMix P ops Q AnyW fin r a w → wpAnyE P .any ops Q S fin n listed a w
  | [], n, listed, a, w, _, _, _, hok, _, h => by
    have hr : Region.ready .any ops listed = [] := by simpa [mixOk] using hok
    cases n with
    | zero => exact ⟨hr, h⟩
    | succ n => exact ⟨fun _ => h, by rw [hr]; simp⟩
  | k :: r, 0, listed, a, w, _, _, _, _, hl, _ => by simp at hl
  | k :: r, n + 1, listed, a, w, hk, hsz, hls, hok, hl, h => by
    obtain ⟨o, ho, h⟩ := h
    have hkf := hall k (hk k (by simp))
    unfold mixOk at hok
    rw [if_pos hkf] at h hok
    simp only [Bool.and_eq_true, beq_iff_eq] at hok
    refine ⟨fun h0 => (by rw [hok.1] at h0; cases h0), fun i hi => ?_⟩
    rw [hok.1] at hi
    obtain rfl : i = k := by simpa using hi
    refine wpOp_mono (fun a' w' h3 => ⟨fun hf => ?_, wpMix_finE hall r n _ a' w' (fun j hj => hk j (by simp [hj])) (fun j hj => hsz j (by simp [hj])) (fun j hj => by rw [Array.size_setIfInBounds]; exact hls j (by simp [hj])) hok.2 (by simpa using hl) h3.2⟩) h
    exfalso
    have := noFin_at hf (hk i (by simp))
    have hlt := hls i (by simp)
    simp [hlt] at this
theorem wpParts_any (hs : Region.noSelect ops = true) (hQ : PanicOk Q) (hsz : ∀ j ∈ fin, ∃ o, ops[j]? = some o) : ∀ (ps : List (Bool × List Nat)) (n : Nat) (listed : Array Bool) (a : Act) (w : World), Closed .any ops listed → (∀ k ∈ fin, k < listed.size) →
    partsOk ops loud fin (flatP ps) listed = true → (flatP ps).length + fin.length ≤ n → S w → wpParts P ops Q S loud fin ps a w → wpAnyE P .any ops Q S fin n listed a w
  | [], n, listed, a, w, _, hls, hok, hl, _, h => wpMix_finE (fun k hk => by simpa using hk) fin n listed a w (fun k hk => hk) hsz hls hok (by simpa [flatP] using hl) h
  | (b, g) :: ps, n, listed, a, w, hcl, hls, hok, hl, hS, h => by
    have hfl : flatP ((b, g) :: ps) = g.map (fun k => (b, k)) ++ flatP ps := rfl
    rw [hfl] at hok hl
    replace h : wpMix P ops (Exit.then (wpParts P ops Q S loud fin ps) Q) (if b then S else AnyW) (if b then loud else []) g a w := by
      cases b <;> exact h
    clear hfl
    induction g generalizing n listed a w with
    | nil => exact wpParts_any hs hQ hsz ps n listed a w hcl hls hok hl hS h
    | cons k r ih =>
      obtain ⟨o, ho, h⟩ := h
      rw [List.map_cons, List.cons_append] at hok hl
      unfold partsOk at hok
      simp only [Bool.and_eq_true, Bool.not_eq_true'] at hok
      obtain ⟨⟨hkf, hk⟩, hr⟩ := hok
      cases n with
      | zero => simp at hl
      | succ n =>
        have hl' : (r.map (fun k => (b, k)) ++ flatP ps).length + fin.length ≤ n := by simp only [List.length_cons] at hl; omega
        have hls' : ∀ j ∈ fin, j < (listed.setIfInBounds k true).size := fun j hj => by rw [Array.size_setIfInBounds]; exact hls j hj
        by_cases hc : (b && loud.contains k) = true
        · have hc2 : (if b then loud else []).contains k = true := by
            rw [Bool.and_eq_true] at hc
            rw [hc.1]; exact hc.2
          rw [if_pos hc2] at h
          rw [hc] at hk
          simp only [beq_iff_eq] at hk
          have hb : b = true := by rw [Bool.and_eq_true] at hc; exact hc.1
          subst hb
          refine ⟨fun h0 => (by rw [hk] at h0; cases h0), fun i hi => ?_⟩
          rw [hk] at hi
          obtain rfl : i = k := by simpa using hi
          refine wpOp_then (T := wpParts P ops Q S loud fin ps) ?_
          exact wpOp_mono (fun a' w' h3 => ⟨fun _ => h3.1, ih n (listed.setIfInBounds i true) a' w' (hcl.set (by rw [hk]; simp)) hls' hr hl' h3.1 h3.2⟩) h
        · have hc' : (b && loud.contains k) = false := by simpa using hc
          have hc2 : (if b then loud else []).contains k = false := by
            cases b
            · rfl
            · simpa using hc'
          rw [if_neg (by rw [hc2]; decide)] at h
          rw [hc'] at hk
          simp only [Bool.and_eq_true, Bool.or_eq_true, Bool.not_eq_true'] at hk
          obtain ⟨v, hy, h⟩ := h
          have hrd : k ∈ Region.ready .any ops listed := by simpa using hk.1.2
          refine wpAnyE_first (T := if b then S else AnyW) ho hs hQ hkf hsz ?_ n listed a w hcl (Region.free_spec ho hk.1.1) hrd hy (fun _ => hS) (ih n _ _ w (hcl.set hrd) hls' hr hl' hS h)
          intro listed' w' hcl' hr' hS'
          cases b with
          | false => trivial
          | true => exact hS' (noFin_waits hcl' (by simpa using hk.2) hr' hsz)
end
section
variable {C : Cx} {e e' : Env} {I I' : PH} {R R' R0 R1 : List Res} {K K' : Act → World → Prop} {Q : Exit → Act → World → Prop} {c : Code} {ops : Array Oper} {S : World → Prop} {loud fin : List Nat}
theorem Nx.p_parts {id : Nat} (hid : cid c = id) (ps : List (Bool × List Nat)) (loud fin : List Nat) (R0 : List Res) (hk : ck c = 2) (hm : C.P.follows .mixedOrders = true) (hs : Region.noSelect (cops c) = true) (hok : partsOk (cops c) loud fin (flatP ps) (Array.replicate (cops c).size false) = true) (hlen : Nat.ble ((flatP ps).length + fin.length) (cops c).size = true)
    (hfin : fin.all (fun j => Nat.blt j (cops c).size) = true) (hQ : PanicOk Q) (hR : Ent R R0) (h : Nx C e I R (wpParts C.P (cops c) Q (St C.W I R0) loud fin ps)) : Nx C e I R (c.wp C.P Q) := by
  have hc : c = .region (cid c) (cops c) true := by
    cases c <;> first | (simp [ck] at hk; done) | skip
    rename_i b
    cases b with
    | false => simp [ck] at hk
    | true => rfl
  clear hid
  have hlt : ∀ j ∈ fin, j < (cops c).size := fun j hj => by
    have := List.all_eq_true.1 hfin j hj
    simpa [Nat.blt_eq] using this
  rw [hc]
  intro a w ha hw
  refine wp_region_any hm (wpAny_of_E _ _ _ _ (wpParts_any (S := St C.W I R0) hs hQ (fun j hj => ⟨_, Array.getElem?_eq_getElem (hlt j hj)⟩) ps _ _ a _ (Closed.start _) (fun j hj => by rw [Array.size_replicate]; exact hlt j hj) hok (Nat.le_of_ble_eq_true hlen) (hw.drew.ent hR) (h a _ ha hw.drew)))
theorem Nx.parts_s {g : List Nat} {r : List (Bool × List Nat)} (h : Nx C e I R (wpMix C.P ops (Exit.then (wpParts C.P ops Q S loud fin r) Q) S loud g)) : Nx C e I R (wpParts C.P ops Q S loud fin ((true, g) :: r)) := h
theorem Nx.parts_a {g : List Nat} {r : List (Bool × List Nat)} (h : Nx C e I R (wpMix C.P ops (Exit.then (wpParts C.P ops Q S loud fin r) Q) AnyW [] g)) : Nx C e I R (wpParts C.P ops Q S loud fin ((false, g) :: r)) := h
theorem Nx.parts_end (h : Nx C e I R (wpMix C.P ops Q AnyW fin fin)) : Nx C e I R (wpParts C.P ops Q S loud fin []) := h
end
end Go.Eng
/- Contracts of functions of the given program, and lemmas about plain lists and numbers: what the laws of this seat lean on. -/
namespace Go.Proofs.YtcmdemfhbekabaaGreat
open Go.Eng Go.Sol
attribute [local irreducible] opK wpList Code.wp Exit.then Exit.inBlock fnPost bodyPost Nx Calls Oper.wp Rd Rds Wr Ent Stars Blk Again Vec FnSpec wpMix QRun Stop Upto wpAt
/-! The reference's reaches -/
theorem rows_of {A : Option Addr} {c : Nat} {o : List Row} {m I' : PH} (hm : PH.le m I') (h : Stars [Vec 25 1 A o.length c (o.map rowV), Stars (o.map rwR)] m) : RowsOf I' A c o := by
  obtain ⟨m1, h1le, h1⟩ := Stars.get 0 h rfl
  obtain ⟨m2, h2le, h2⟩ := Stars.get 1 h rfl
  refine ⟨Vec.sliceOf (h1le.trans hm) h1, fun r hr => ?_⟩
  obtain ⟨k, hk, he⟩ := List.mem_iff_getElem.1 hr
  obtain ⟨m3, h3le, h3⟩ := Stars.get k (r := rwR r) h2 (by rw [nthL_eq, List.getElem?_map, List.getElem?_eq_getElem hk, he]; rfl)
  exact Vec.sliceOf ((h3le.trans h2le).trans hm) h3
theorem map_at {o : List Row} {S : List (List Int)} (h : o.map (·.2.2) = S) {j : Nat} (hj : j < o.length) : (o.getD j default).2.2 = S.getD j default := by
  rw [← h, List.getD_eq_getElem?_getD, List.getD_eq_getElem?_getD, List.getElem?_map, List.getElem?_eq_getElem hj]; rfl
theorem getD_in {α : Type} [Inhabited α] {l : List α} {k : Nat} (h : k < l.length) : l.getD k default ∈ l := by
  rw [List.getD_eq_getElem?_getD, List.getElem?_eq_getElem h]; exact List.getElem_mem _
theorem untouched {n : Nat} {l : List EqR} (hg : ∀ q ∈ l, GoodE n q) {c : Nat} (hc : c < n) : roomR (eqns l) c = 0 ↔ c ∉ touch n (eqns l) := by
  rw [(roomR_facts (c := c) (eqns l) fun q hq => (cells_bd hg q hq).1).2.1]
  constructor
  · intro h hm
    obtain ⟨_, q, hq, hx⟩ := mem_touch.1 hm
    exact h q hq hx
  · exact fun h q hq hx => h (mem_touch.2 ⟨hc, q, hq, hx⟩)
/-- The least and the greatest number at a cell. -/
theorem reach_is {n x : Nat} {l : List EqR} (hg : ∀ q ∈ l, GoodE n q) (hx : x ∈ touch n (eqns l)) (hne : solsOf n (eqns l) ≠ []) {lo hi : Int} (h1 : ∃ s ∈ solsOf n (eqns l), s.getD x 0 = lo) (h2 : ∃ s ∈ solsOf n (eqns l), s.getD x 0 = hi)
    (h3 : ∀ s ∈ solsOf n (eqns l), lo ≤ s.getD x 0 ∧ s.getD x 0 ≤ hi) : reachAt n (eqns l) x = (lo, hi, false) := by
  obtain ⟨a, ra, ha, _⟩ := ext_some false hg hx hne
  obtain ⟨b, rb, hb, _⟩ := ext_some true hg hx hne
  have ga := ext_head hg hx ha
  have gb := ext_head hg hx hb
  unfold reachAt
  rw [if_pos hx, ha, hb]
  obtain ⟨s1, hs1, e1⟩ := h1
  obtain ⟨s2, hs2, e2⟩ := h2
  have a1 := ga.2 s1 hs1
  have b1 := gb.2 s2 hs2
  rw [if_neg (by decide)] at a1
  rw [if_pos rfl] at b1
  have a2 := (h3 a ga.1).1
  have b2 := (h3 b gb.1).2
  show (a.getD x 0, b.getD x 0, false) = _
  rw [show a.getD x 0 = lo by omega, show b.getD x 0 = hi by omega]
set_option maxRecDepth 10000 in
set_option maxHeartbeats 16000000 in
theorem RReaches_spec (n : Int) (A : Option Addr) (c : Nat) (l : List EqR) (I : PH) (hl : Eqs I A c l) :
    FnSpec Tryz.prog 15 [.int .i64 n, .slice A l.length c] I []
      (fun v R' => ∃ (A' : Option Addr) (c' : Nat), v = .tuple #[.slice A' (reachR n l).1.length c', .int .i64 (reachR n l).2] ∧ R' = [rcR A' c' (reachR n l).1]) := by
  have hC := rcheck_spec n A c l I hl
  unfold reachR
  refine FnSpec.enterP Tryz.func15 rfl Tryz.ntmps15 rfl fun w F => ?_
  by_cases h0 : chkQ n l = 0
  case neg =>
    rw [if_neg h0]
    repeat' first
      | ((with_reducible refine Nx.is_wp ?_); first | refine Nx.wo ?_ | refine Nx.zp (fun hc => ?_) (fun hc => ?_))
      | (refine Nx.zo ?_; first | refine Nx.opr rfl rfl ?_ | refine Nx.callv rfl rfl rfl (by kernel_rfl) rfl hC ?_ | refine Nx.so ?_ | refine Nx.sb (fun bx => ?_) | refine Nx.sa (fun A2 c2 => ?_))
      | ((with_reducible refine Nx.is_at ?_); first | refine Nx.a ?_ | refine Nx.zd ?_ | refine Nx.zs (fun hc => ?_) (fun hc => ?_))
      | ((with_reducible refine Nx.is_mix ?_); first | refine Nx.m ?_ | refine Nx.zm ?_ | refine Nx.zt (fun hc => ?_) (fun hc => ?_))
      | refine Nx.zx ?_ | fail
    exact Nx.ret_fn rfl [_] ⟨none, 0, rfl, rfl⟩ ((Ent.vec_nil 42 3 _).trans (by unfold rcR; (exact Ent.auto)))
  rw [if_pos h0]
  rw [h0] at hC
  obtain ⟨h1, h2, h3, hsm⟩ := chk_good h0
  obtain ⟨m, rfl⟩ : ∃ m : Nat, n = m := ⟨n.toNat, by omega⟩
  rw [Int.toNat_natCast] at h3 hsm ⊢
  have hS := all_spec A c l m 65536 I hl h3 (by omega) (by omega) (by omega)
  have hfew := sols_few h3 hsm
  rw [hfew] at hS
  have hlen9 : (solsOf m (eqns l)).length ≤ 65536 := by rw [← hfew, List.length_take]; omega
  by_cases hso : solsOf m (eqns l) = []
  · rw [if_pos hso]
    rw [hso] at hS
    repeat' first
      | ((with_reducible refine Nx.is_wp ?_); first | refine Nx.wo ?_ | refine Nx.zp (fun hc => ?_) (fun hc => ?_))
      | (refine Nx.zo ?_; first | refine Nx.opr rfl rfl ?_ | refine Nx.callv rfl rfl rfl (by kernel_rfl) rfl hC ?_ | (refine Nx.call (Rpre := []) rfl rfl rfl (by kernel_rfl) rfl hS (Ent.refl _) ?_; rintro _ _ ⟨A1, c1, o, rfl, ho, rfl⟩; (obtain rfl : o = [] := by simpa using ho)) | refine Nx.so ?_ | refine Nx.sb (fun bx => ?_) | refine Nx.sa (fun A2 c2 => ?_))
      | ((with_reducible refine Nx.is_at ?_); first | refine Nx.a ?_ | refine Nx.zd ?_ | refine Nx.zs (fun hc => ?_) (fun hc => ?_))
      | ((with_reducible refine Nx.is_mix ?_); first | refine Nx.m ?_ | refine Nx.zm ?_ | refine Nx.zt (fun hc => ?_) (fun hc => ?_))
      | refine Nx.zx ?_ | fail
    exact Nx.ret_fn rfl [_] ⟨none, 0, rfl, rfl⟩ ((Ent.vec_nil 42 3 _).trans (by unfold rcR; (exact Ent.auto)))
  rw [if_neg hso]
  have hne : ∀ o : List Row, o.map (·.2.2) = solsOf m (eqns l) → 0 < o.length ∧ o.length ≤ 65536 := fun o ho => by
    rw [← List.length_map (f := fun r : Row => r.2.2), ho]
    exact ⟨List.length_pos_iff.2 hso, hlen9⟩
  have hR := fun I' (hI' : PH.le I I') x => room_spec A c l m x I' (hl.mono hI') h3
  repeat' first
    | ((with_reducible refine Nx.is_wp ?_); first | refine Nx.wo ?_ | refine Nx.zp (fun hc => ?_) (fun hc => ?_))
    | (refine Nx.zo ?_; first | refine Nx.opr rfl rfl ?_ | refine Nx.callv rfl rfl rfl (by kernel_rfl) rfl hC ?_ | (refine Nx.call (Rpre := []) rfl rfl rfl (by kernel_rfl) rfl hS (Ent.refl _) ?_; rintro _ _ ⟨A1, c1, o, rfl, ho, rfl⟩; have hpo := hne o ho) | refine Nx.makeStructs rcC (0, 0, false) (by_ := 24) (m := m) (sz := 3) rfl rfl rfl rfl rfl rfl rfl rfl rfl rfl (by omega) (by unfold maxLen; omega) (fun bx => ?_) | refine Nx.so ?_ | refine Nx.sb (fun bx => ?_) | refine Nx.sa (fun A2 c2 => ?_))
    | ((with_reducible refine Nx.is_at ?_); first | refine Nx.a ?_ | refine Nx.zd ?_ | refine Nx.zs (fun hc => ?_) (fun hc => ?_))
    | ((with_reducible refine Nx.is_mix ?_); first | refine Nx.m ?_ | refine Nx.zm ?_ | refine Nx.zt (fun hc => ?_) (fun hc => ?_))
    | refine Nx.zx ?_ | fail
  revert bx; intro b8
  refine Nx.ent (R' := [Stars [Vec 25 1 A1 o.length c1 (o.map rowV), Stars (o.map rwR)], Vec 42 3 (some ⟨b8, 0, none⟩) m m ((List.replicate m ((0, 0, false) : Rch)).flatMap rcC), F]) (Ent.trans (R' := [Vec 25 1 A1 o.length c1 (o.map rowV), Stars (o.map rwR)] ++ [Vec 42 3 (some ⟨b8, 0, none⟩) m m ((List.replicate m ((0, 0, false) : Rch)).flatMap rcC), F]) (by (exact Ent.auto)) Ent.stars) ?_
  refine Nx.freezeAt 0 rfl fun I2 m2 hI2 hm2 hrw => ?_
  have hrows := rows_of hm2 hrw
  have hmem : ∀ j, j < o.length → (o.getD j default).2.2 ∈ solsOf m (eqns l) := fun j hj => by
    rw [← ho]; exact List.mem_map.2 ⟨_, getD_in hj, rfl⟩
  have hsl : ∀ s ∈ solsOf m (eqns l), s.length = m := fun s hs => ((mem_sols h3).1 hs).len
  have hall : ∀ s ∈ solsOf m (eqns l), ∃ j, j < o.length ∧ (o.getD j default).2.2 = s := fun s hs => by
    rw [← ho] at hs
    obtain ⟨r, hr, rfl⟩ := List.mem_map.1 hs
    obtain ⟨j, hj, rfl⟩ := List.mem_iff_getElem.1 hr
    exact ⟨j, hj, by rw [List.getD_eq_getElem?_getD, List.getElem?_eq_getElem hj]; rfl⟩
  have hrow : ∀ j, j < o.length → ∀ (W : World) (R : List Res), Rd W I2 R ((ad A1).add (j * 1)) (.slice (o.getD j default).1 m (o.getD j default).2.1) := fun j hj W R => by
    have := hrows.outer.rd (W := W) (R := R) (k := j) hj
    unfold rowV at this
    rwa [hsl _ (hmem j hj)] at this
  have hcell : ∀ j, j < o.length → ∀ x, x < m → ∀ (W : World) (R : List Res), Rd W I2 R ((ad (o.getD j default).1).add (x * 1)) (.int .i64 ((o.getD j default).2.2.getD x 0)) := fun j hj x hx W R =>
    (hrows.at hj).rd (k := x) (by rw [hsl _ (hmem j hj)]; exact hx)
  have hrsome : ∀ j, j < o.length → 0 < m → (o.getD j default).1.isSome = true := fun j hj hx => (hrows.at hj).isSome (by rw [hsl _ (hmem j hj)]; exact hx)
  have hA1 := hrows.outer.isSome (by omega)
  have hnn : ∀ j, j < o.length → ∀ x, 0 ≤ (o.getD j default).2.2.getD x 0 ∧ (o.getD j default).2.2.getD x 0 ≤ 1000000 := fun j hj x => by
    have g := (mem_sols h3).1 (hmem j hj)
    by_cases hx : x ∈ touch m (eqns l)
    · exact g.pos x hx
    · rw [g.same x hx, zeros_at]; decide
  repeat' first
    | ((with_reducible refine Nx.is_wp ?_); first | refine Nx.wo ?_ | refine Nx.zp (fun hc => ?_) (fun hc => ?_))
    | (refine Nx.zo ?_; first | refine Nx.opr rfl rfl ?_ | refine Nx.so ?_ | refine Nx.sb (fun bx => ?_) | refine Nx.sa (fun A2 c2 => ?_))
    | ((with_reducible refine Nx.is_at ?_); first | refine Nx.a ?_ | refine Nx.zd ?_ | refine Nx.zs (fun hc => ?_) (fun hc => ?_))
    | ((with_reducible refine Nx.is_mix ?_); first | refine Nx.m ?_ | refine Nx.zm ?_ | refine Nx.zt (fun hc => ?_) (fun hc => ?_))
    | refine Nx.zx ?_ | fail
  refine Nx.p_loop (σ := Nat × List Rch) (fun s => [(1, .slice A l.length c), (7, .slice A1 o.length c1), (8, .slice (some ⟨b8, 0, none⟩) m m), (26, .slice (some ⟨b8, 0, none⟩) m m), (27, .int .i64 (m : Int)), (28, .int .i64 (s.1 : Int))])
    (fun s => [Vec 42 3 (some ⟨b8, 0, none⟩) m m (s.2.flatMap rcC), F]) (fun s => s.1 ≤ m ∧ s.2.length = m ∧ ∀ x, x < s.1 → s.2.getD x default = reachAt m (eqns l) x) (fun s => m - s.1) (0, List.replicate m (0, 0, false)) rfl ⟨Nat.zero_le _, by simp, fun x hx => absurd hx (Nat.not_lt_zero _)⟩ ⟨rfl, rfl, rfl, rfl, rfl, rfl, trivial⟩ (by (exact Ent.auto)) ?_
  rintro ⟨k, rl⟩ ⟨hk, hrl, hrx⟩
  dsimp only at hk hrl hrx ⊢
  by_cases hlt : k < m
  case neg =>
    obtain rfl : k = m := by omega
    have he : rl = (List.range k).map (reachAt k (eqns l)) := by
      refine list_ext_d (by rw [hrl]; simp) fun x hx => ?_
      rw [hrx x (by omega), List.getD_eq_getElem?_getD, List.getElem?_map, List.getElem?_range (by omega)]
      rfl
    rw [← he]
    repeat' first
      | ((with_reducible refine Nx.is_wp ?_); first | refine Nx.wo ?_ | refine Nx.zp (fun hc => ?_) (fun hc => ?_))
      | (refine Nx.zo ?_; first | refine Nx.opr rfl rfl ?_ | refine Nx.so ?_ | refine Nx.sb (fun bx => ?_) | refine Nx.sa (fun A2 c2 => ?_))
      | ((with_reducible refine Nx.is_at ?_); first | refine Nx.a ?_ | refine Nx.zd ?_ | refine Nx.zs (fun hc => ?_) (fun hc => ?_))
      | ((with_reducible refine Nx.is_mix ?_); first | refine Nx.m ?_ | refine Nx.zm ?_ | refine Nx.zt (fun hc => ?_) (fun hc => ?_))
      | refine Nx.zx ?_ | fail
    exact Nx.imm_le hI2 (Nx.ret_fn rfl [rcR (some ⟨b8, 0, none⟩) k rl] ⟨some ⟨b8, 0, none⟩, k, by rw [hrl], rfl⟩ (by unfold rcR; rw [hrl]; (exact Ent.auto)))
  have hkeep : ∀ v : Rch, v = reachAt m (eqns l) k → ∀ x, x < k + 1 → (rl.set k v).getD x default = reachAt m (eqns l) x := fun v hv x hx => by
    rw [List.getD_eq_getElem?_getD]
    by_cases hxk : x = k
    · subst hxk; rw [List.getElem?_set_self (by omega), hv]; rfl
    · rw [List.getElem?_set_ne (Ne.symm hxk), ← List.getD_eq_getElem?_getD]; exact hrx x (by omega)
  have hunt := untouched h3 hlt
  by_cases hto : k ∈ touch m (eqns l)
  case neg =>
    have hra : ((0, 0, true) : Rch) = reachAt m (eqns l) k := by unfold reachAt; rw [if_neg hto]
    have hr0 := hR I2 hI2 k
    rw [hunt.2 hto] at hr0
    repeat' first
      | ((with_reducible refine Nx.is_wp ?_); first | refine Nx.wo ?_ | refine Nx.zp (fun hc => ?_) (fun hc => ?_))
      | (refine Nx.zo ?_; first | refine Nx.opr rfl rfl ?_ | refine Nx.callv rfl rfl rfl (by kernel_rfl) rfl hr0 ?_ | refine Nx.indexAddr_nat rfl rfl rfl rfl rfl (by omega) rfl ?_ | refine Nx.store_elt (A := some ⟨b8, 0, none⟩) 0 rcC (l := rl) (i := k) (x' := (0, 0, true)) rfl rfl rfl rfl rfl rcC_len (by decide) (rcC_one _) (by omega) hrl ?_ | refine Nx.so ?_ | refine Nx.sb (fun bx => ?_) | refine Nx.sa (fun A2 c2 => ?_))
      | ((with_reducible refine Nx.is_at ?_); first | refine Nx.a ?_ | refine Nx.zd ?_ | refine Nx.zs (fun hc => ?_) (fun hc => ?_))
      | ((with_reducible refine Nx.is_mix ?_); first | refine Nx.m ?_ | refine Nx.zm ?_ | refine Nx.zt (fun hc => ?_) (fun hc => ?_))
      | refine Nx.zx ?_ | fail
    exact Nx.again (k + 1, rl.set k (0, 0, true)) ⟨hlt, by dsimp only; rw [List.length_set]; exact hrl, hkeep _ hra⟩ (by dsimp only; omega) ⟨rfl, rfl, rfl, rfl, rfl, rfl, trivial⟩ (by (exact Ent.auto))
  have hr1 := hR I2 hI2 k
  have hrne : roomR (eqns l) k ≠ 0 := fun h => (hunt.1 h) hto
  generalize roomR (eqns l) k = rm at hr1 hrne
  have hs0 := hsl _ (hmem 0 hpo.1)
  repeat' first
    | ((with_reducible refine Nx.is_wp ?_); first | refine Nx.wo ?_ | refine Nx.p_drawF (id := 13) rfl [0, 1, 2, 3, 4, 5, 6, 7, 8, 9, 10, 11, 12, 13, 14, 15] [] [16] _ rfl rfl (by kernel_rfl) (by kernel_rfl) rfl (by repeat first | exact PanicOk.fn | refine PanicOk.then_ ?_ | refine PanicOk.inB ?_) (Ent.refl _) ?_ | refine Nx.p_drawF (id := 17) rfl [0, 1, 2, 3, 4, 5, 6, 7, 8, 9, 10, 11, 12, 13, 14, 15, 16, 17, 18, 19, 20, 21, 22, 23, 24, 25, 26, 27, 28] [26] [29] _ rfl rfl (by kernel_rfl) (by kernel_rfl) rfl (by repeat first | exact PanicOk.fn | refine PanicOk.then_ ?_ | refine PanicOk.inB ?_) (Ent.refl _) ?_ | refine Nx.zp (fun hc => ?_) (fun hc => ?_))
    | (refine Nx.zo ?_; first | refine Nx.opr rfl rfl ?_ | refine Nx.callv rfl rfl rfl (by kernel_rfl) rfl hr1 ?_ | refine Nx.store_elt (A := some ⟨b8, 0, none⟩) 0 rcC (l := rl) (i := k) (x' := ((o.getD 0 default).2.2.getD k 0, (o.getD 0 default).2.2.getD k 0, false)) rfl rfl rfl rfl rfl rcC_len (by decide) (rcC_one _) (by omega) hrl ?_ | refine Nx.so ?_ | refine Nx.sb (fun bx => ?_) | refine Nx.sa (fun A2 c2 => ?_))
    | ((with_reducible refine Nx.is_at ?_); first | refine Nx.a ?_ | refine Nx.zd ?_ | refine Nx.zs (fun hc => ?_) (fun hc => ?_))
    | ((with_reducible refine Nx.is_mix ?_); first | refine Nx.m_quiet rfl rfl rfl rfl rfl (by first | exact QRun.opr rfl | exact QRun.idx (i := 0) rfl rfl rfl rfl hpo.1 hA1 | exact QRun.load rfl rfl (hrow 0 hpo.1 _ _) | exact QRun.idx (i := k) (sz := 1) rfl rfl rfl rfl hlt (hrsome 0 hpo.1 (by omega)) | exact QRun.load rfl rfl (hcell 0 hpo.1 k hlt _ _) | exact QRun.idx (i := k) (sz := 3) rfl rfl rfl rfl hlt rfl) ?_ | refine Nx.m_quiet_do rfl rfl rfl rfl rfl rfl rfl (by first | exact QRun.opr rfl | exact QRun.idx (i := 0) rfl rfl rfl rfl hpo.1 hA1 | exact QRun.load rfl rfl (hrow 0 hpo.1 _ _) | exact QRun.idx (i := k) (sz := 1) rfl rfl rfl rfl hlt (hrsome 0 hpo.1 (by omega)) | exact QRun.load rfl rfl (hcell 0 hpo.1 k hlt _ _) | exact QRun.idx (i := k) (sz := 3) rfl rfl rfl rfl hlt rfl) ?_ | refine Nx.m ?_ | refine Nx.zm ?_ | refine Nx.zt (fun hc => ?_) (fun hc => ?_))
    | refine Nx.zx ?_ | fail
  refine Nx.p_loop (σ := Nat × List Rch × Int × Int) (fun s => [(1, .slice A l.length c), (7, .slice A1 o.length c1), (8, .slice (some ⟨b8, 0, none⟩) m m), (9, .int .i64 (k : Int)), (26, .slice (some ⟨b8, 0, none⟩) m m), (27, .int .i64 (m : Int)), (28, .int .i64 (k : Int)), (55, .slice A1 o.length c1), (56, .int .i64 o.length), (57, .int .i64 (s.1 : Int))])
    (fun s => [Vec 42 3 (some ⟨b8, 0, none⟩) m m (s.2.1.flatMap rcC), F])
    (fun s => s.1 ≤ o.length ∧ s.2.1.length = m ∧ s.2.1.getD k default = (s.2.2.1, s.2.2.2, false) ∧ (∀ x, x < k → s.2.1.getD x default = reachAt m (eqns l) x) ∧ (∃ j, j < o.length ∧ (o.getD j default).2.2.getD k 0 = s.2.2.1) ∧ (∃ j, j < o.length ∧ (o.getD j default).2.2.getD k 0 = s.2.2.2) ∧ ∀ j, j < s.1 → s.2.2.1 ≤ (o.getD j default).2.2.getD k 0 ∧ (o.getD j default).2.2.getD k 0 ≤ s.2.2.2)
    (fun s => o.length - s.1) (0, rl.set k ((o.getD 0 default).2.2.getD k 0, (o.getD 0 default).2.2.getD k 0, false), (o.getD 0 default).2.2.getD k 0, (o.getD 0 default).2.2.getD k 0) rfl
    ⟨Nat.zero_le _, by dsimp only; rw [List.length_set]; exact hrl, by dsimp only; rw [List.getD_eq_getElem?_getD, List.getElem?_set_self (by omega)]; rfl, fun x hx => by dsimp only; rw [List.getD_eq_getElem?_getD, List.getElem?_set_ne (by omega), ← List.getD_eq_getElem?_getD]; exact hrx x hx, ⟨0, hpo.1, rfl⟩, ⟨0, hpo.1, rfl⟩, fun j hj => absurd hj (Nat.not_lt_zero _)⟩ ⟨rfl, rfl, rfl, rfl, rfl, rfl, rfl, rfl, rfl, rfl, trivial⟩ (by (exact Ent.auto)) ?_
  rintro ⟨j, r2, lo, hi⟩ ⟨hj, hr2l, hr2k, hr2x, ⟨jl, hjl, hel⟩, ⟨jh, hjh, heh⟩, hbd⟩
  dsimp only at hj hr2l hr2k hr2x hel heh hbd ⊢
  by_cases hjo : j < o.length
  case neg =>
    obtain rfl : j = o.length := by omega
    have hra := reach_is h3 hto hso ⟨_, hmem jl hjl, hel⟩ ⟨_, hmem jh hjh, heh⟩ fun s hs => by
      obtain ⟨i, hi, rfl⟩ := hall s hs
      exact hbd i hi
    repeat' first
      | ((with_reducible refine Nx.is_wp ?_); first | refine Nx.wo ?_ | refine Nx.zp (fun hc => ?_) (fun hc => ?_))
      | (refine Nx.zo ?_; first | refine Nx.opr rfl rfl ?_ | refine Nx.so ?_ | refine Nx.sb (fun bx => ?_) | refine Nx.sa (fun A2 c2 => ?_))
      | ((with_reducible refine Nx.is_at ?_); first | refine Nx.a ?_ | refine Nx.zd ?_ | refine Nx.zs (fun hc => ?_) (fun hc => ?_))
      | ((with_reducible refine Nx.is_mix ?_); first | refine Nx.m ?_ | refine Nx.zm ?_ | refine Nx.zt (fun hc => ?_) (fun hc => ?_))
      | refine Nx.zx ?_ | fail
    refine Nx.again (k + 1, r2) ⟨hlt, hr2l, fun x hx => ?_⟩ (by dsimp only; omega) ⟨rfl, rfl, rfl, rfl, rfl, rfl, trivial⟩ (by (exact Ent.auto))
    dsimp only
    by_cases hxk : x = k
    · subst hxk; rw [hr2k, hra]
    · exact hr2x x (by omega)
  have hnj := hnn j hjo k
  have hnl := hnn jl hjl k
  have hnh := hnn jh hjh k
  rw [hel] at hnl
  rw [heh] at hnh
  have hcj := hcell j hjo k hlt
  generalize hz : (o.getD j default).2.2.getD k 0 = z at hnj hcj
  have hfl := fun (W : World) (R : List Res) => Rd.vecFld (W := W) (I := I2) (R := Vec 42 3 (some ⟨b8, 0, none⟩) m m (r2.flatMap rcC) :: R) (v := .int .i64 lo) 0 rcC_len rfl (show k < r2.length by omega) 0 (by rw [hr2k]; rfl)
  have hfh := fun (W : World) (R : List Res) => Rd.vecFld (W := W) (I := I2) (R := Vec 42 3 (some ⟨b8, 0, none⟩) m m (r2.flatMap rcC) :: R) (v := .int .i64 hi) 0 rcC_len rfl (show k < r2.length by omega) 1 (by rw [hr2k]; rfl)
  have hst1 : (r2.flatMap rcC).set (k * 3 + 0) (.int .i64 (min lo z)) = (r2.set k (min lo z, hi, false)).flatMap rcC := flat_set rcC_len (by omega) (by decide) (by rw [hr2k]; rfl)
  have hst2 : ((r2.set k (min lo z, hi, false)).flatMap rcC).set (k * 3 + 1) (.int .i64 (max hi z)) = ((r2.set k (min lo z, hi, false)).set k (min lo z, max hi z, false)).flatMap rcC := flat_set rcC_len (by rw [List.length_set]; omega) (by decide) (by rw [List.getD_eq_getElem?_getD, List.getElem?_set_self (by omega)]; rfl)
  repeat' first
    | ((with_reducible refine Nx.is_wp ?_); first | refine Nx.p_parts (id := 17) rfl [(false, [2, 3]), (true, [0, 1, 4, 5, 6, 7, 8, 9, 10, 11, 12, 13, 14, 15, 16, 17, 18, 19, 20, 21, 22, 24, 25]), (false, [23])] [] [26, 27, 28, 29] _ rfl rfl (by kernel_rfl) (by kernel_rfl) rfl rfl (by repeat first | exact PanicOk.fn | refine PanicOk.then_ ?_ | refine PanicOk.inB ?_) (Ent.refl _) (Nx.parts_a ?_) | refine Nx.wo ?_ | refine Nx.zp (fun hc => ?_) (fun hc => ?_))
    | (refine Nx.zo ?_; first | refine Nx.opr rfl rfl ?_ | refine Nx.indexAddr_nat rfl rfl rfl rfl rfl hjo hA1 ?_ | refine Nx.load rfl rfl rfl (hrow j hjo _ _) ?_ | refine Nx.so ?_ | refine Nx.sb (fun bx => ?_) | refine Nx.sa (fun A2 c2 => ?_))
    | ((with_reducible refine Nx.is_at ?_); first | refine Nx.a ?_ | refine Nx.zd ?_ | refine Nx.zs (fun hc => ?_) (fun hc => ?_))
    | ((with_reducible refine Nx.is_mix ?_); first | refine Nx.m ?_ | refine Nx.zm ?_ | refine Nx.zt (fun hc => ?_) (fun hc => ?_))
    | refine Nx.zx ?_ | fail
  refine Nx.parts_s ?_
  repeat' first
    | ((with_reducible refine Nx.is_wp ?_); first | refine Nx.wo ?_ | refine Nx.zp (fun hc => ?_) (fun hc => ?_))
    | (refine Nx.zo ?_; first | refine Nx.opr rfl rfl ?_ | refine Nx.so ?_ | refine Nx.sb (fun bx => ?_) | refine Nx.sa (fun A2 c2 => ?_))
    | ((with_reducible refine Nx.is_at ?_); first | refine Nx.a ?_ | refine Nx.zd ?_ | refine Nx.zs (fun hc => ?_) (fun hc => ?_))
    | ((with_reducible refine Nx.is_mix ?_); first | refine Nx.m_quiet rfl rfl rfl rfl rfl (by first | exact QRun.fld (A := (ad (some ⟨b8, 0, none⟩)).add (k * 3)) rfl rfl | exact QRun.opr rfl | exact QRun.idx (i := k) (sz := 1) rfl rfl rfl rfl hlt (hrsome j hjo (by omega)) | exact QRun.load rfl rfl (hcj _ _) | exact QRun.idx (i := k) (sz := 3) rfl rfl rfl rfl hlt rfl | exact QRun.load rfl rfl (hfl _ _) | exact QRun.load rfl rfl (hfh _ _)) ?_ | refine Nx.m_quiet_do rfl rfl rfl rfl rfl rfl rfl (by first | exact QRun.fld (A := (ad (some ⟨b8, 0, none⟩)).add (k * 3)) rfl rfl | exact QRun.opr rfl | exact QRun.idx (i := k) (sz := 1) rfl rfl rfl rfl hlt (hrsome j hjo (by omega)) | exact QRun.load rfl rfl (hcj _ _) | exact QRun.idx (i := k) (sz := 3) rfl rfl rfl rfl hlt rfl | exact QRun.load rfl rfl (hfl _ _) | exact QRun.load rfl rfl (hfh _ _)) ?_ | refine Nx.m ?_ | refine Nx.zm ?_ | refine Nx.zt (fun hc => ?_) (fun hc => ?_))
    | refine Nx.zx ?_ | fail
  refine Nx.parts_a ?_
  repeat' first
    | ((with_reducible refine Nx.is_wp ?_); first | refine Nx.wo ?_ | refine Nx.zp (fun hc => ?_) (fun hc => ?_))
    | (refine Nx.zo ?_; first | refine Nx.opr rfl rfl ?_ | refine Nx.so ?_ | refine Nx.sb (fun bx => ?_) | refine Nx.sa (fun A2 c2 => ?_))
    | ((with_reducible refine Nx.is_at ?_); first | refine Nx.a ?_ | refine Nx.zd ?_ | refine Nx.zs (fun hc => ?_) (fun hc => ?_))
    | ((with_reducible refine Nx.is_mix ?_); first | refine Nx.m ?_ | refine Nx.zm ?_ | refine Nx.zt (fun hc => ?_) (fun hc => ?_))
    | refine Nx.zx ?_ | fail
  refine Nx.parts_end ?_
  repeat' first
    | ((with_reducible refine Nx.is_wp ?_); first | refine Nx.wo ?_ | refine Nx.zp (fun hc => ?_) (fun hc => ?_))
    | (refine Nx.zo ?_; first | refine Nx.opr rfl rfl ?_ | refine Nx.indexAddr_nat (i := k) (sz := 3) rfl rfl rfl rfl rfl hlt rfl ?_ | (refine Nx.store_fld (A := some ⟨b8, 0, none⟩) (sz := 3) (i := k) (j := 0) 0 rfl rfl rfl rfl rfl rfl (by omega) ?_; rw [hst1]) | (refine Nx.store_fld (A := some ⟨b8, 0, none⟩) (sz := 3) (i := k) (j := 1) 0 rfl rfl rfl rfl rfl rfl (by omega) ?_; rw [hst2]) | refine Nx.so ?_ | refine Nx.sb (fun bx => ?_) | refine Nx.sa (fun A2 c2 => ?_))
    | ((with_reducible refine Nx.is_at ?_); first | refine Nx.a ?_ | refine Nx.zd ?_ | refine Nx.zs (fun hc => ?_) (fun hc => ?_))
    | ((with_reducible refine Nx.is_mix ?_); first | refine Nx.m ?_ | refine Nx.zm ?_ | refine Nx.zt (fun hc => ?_) (fun hc => ?_))
    | refine Nx.zx ?_ | fail
  refine Nx.again (j + 1, (r2.set k (min lo z, hi, false)).set k (min lo z, max hi z, false), min lo z, max hi z)
    ⟨hjo, by dsimp only; rw [List.length_set, List.length_set]; exact hr2l, by dsimp only; rw [List.getD_eq_getElem?_getD, List.getElem?_set_self (by rw [List.length_set]; omega)]; rfl, fun x hx => by dsimp only; rw [List.getD_eq_getElem?_getD, List.getElem?_set_ne (by omega), List.getElem?_set_ne (by omega), ← List.getD_eq_getElem?_getD]; exact hr2x x hx, ?_, ?_, fun i hi => ?_⟩ (by dsimp only; omega) ⟨rfl, rfl, rfl, rfl, rfl, rfl, rfl, rfl, rfl, rfl, trivial⟩ (by (exact Ent.auto))
  · dsimp only
    by_cases h : lo ≤ z
    · exact ⟨jl, hjl, by omega⟩
    · exact ⟨j, hjo, by omega⟩
  · dsimp only
    by_cases h : z ≤ hi
    · exact ⟨jh, hjh, by omega⟩
    · exact ⟨j, hjo, by omega⟩
  · dsimp only at hi ⊢
    by_cases hij : i = j
    · subst hij; omega
    · have := hbd i (by omega)
      omega
end Go.Proofs.YtcmdemfhbekabaaGreat
/- Contracts of functions of the given program, and lemmas about plain lists and numbers: what the laws of this seat lean on. -/
namespace Go.Proofs.YtcmdemfhbekabaaGreat
open Go.Eng Go.Sol
attribute [local irreducible] opK wpList Code.wp Exit.then Exit.inBlock fnPost bodyPost Nx Calls Oper.wp Rd Rds Wr Ent Stars Blk Again Vec FnSpec wpMix QRun Stop Upto wpAt
/-! The reference's pairs -/
theorem pair_is {n x i : Nat} {down : Bool} {l : List EqR} (hg : ∀ q ∈ l, GoodE n q) (hx : x ∈ touch n (eqns l)) (hi : i < (solsOf n (eqns l)).length)
    (hle : ∀ j, j < (solsOf n (eqns l)).length → if down then ((solsOf n (eqns l)).getD j default).getD x 0 ≤ ((solsOf n (eqns l)).getD i default).getD x 0 else ((solsOf n (eqns l)).getD i default).getD x 0 ≤ ((solsOf n (eqns l)).getD j default).getD x 0)
    (hlt : ∀ j, j < i → ((solsOf n (eqns l)).getD j default).getD x 0 ≠ ((solsOf n (eqns l)).getD i default).getD x 0) : (extOf n (eqns l) x down).headD [] = (solsOf n (eqns l)).getD i default := by
  have hne : solsOf n (eqns l) ≠ [] := fun h => by rw [h] at hi; exact Nat.not_lt_zero _ hi
  obtain ⟨h, r, he, _⟩ := ext_some down hg hx hne
  rw [he]
  refine (first_is (sols_sorted hg) hi he (ext_sorted hg hx) (fun s => mem_ext hg hx) (fun s hs => ?_) hlt).symm
  obtain ⟨j, hj, rfl⟩ := List.mem_iff_getElem.1 hs
  have := hle j hj
  rwa [show (solsOf n (eqns l)).getD j default = (solsOf n (eqns l))[j] by rw [List.getD_eq_getElem?_getD, List.getElem?_eq_getElem hj]; rfl] at this
abbrev nilRow : Row := (none, 0, [])
def RPairPost (n : Int) (l : List EqR) (x : Int) (v : Value) (R' : List Res) : Prop :=
  ∃ (r1 r2 : Row) (o : List Row), v = .tuple #[rowV r1, rowV r2, .int .i64 (pairR n l x).2.2] ∧ r1.2.2 = (pairR n l x).1 ∧ r2.2.2 = (pairR n l x).2.1 ∧ (r1 ∈ o ∨ r1 = nilRow) ∧ (r2 ∈ o ∨ r2 = nilRow) ∧ R' = [Stars (o.map rwR)]
set_option maxRecDepth 10000 in
set_option maxHeartbeats 16000000 in
theorem RPair_spec (n x : Int) (A : Option Addr) (c : Nat) (l : List EqR) (I : PH) (hl : Eqs I A c l) :
    FnSpec Tryz.prog 83 [.int .i64 n, .slice A l.length c, .int .i64 x] I [] (RPairPost n l x) := by
  have hC := rcheck_spec n A c l I hl
  unfold RPairPost pairR
  refine FnSpec.enterP Tryz.func83 rfl Tryz.ntmps83 rfl fun w F => ?_
  by_cases h0 : chkQ n l = 0
  case neg =>
    rw [if_neg h0]
    repeat' first
      | ((with_reducible refine Nx.is_wp ?_); first | refine Nx.wo ?_ | refine Nx.zp (fun hc => ?_) (fun hc => ?_))
      | (refine Nx.zo ?_; first | refine Nx.opr rfl rfl ?_ | refine Nx.callv rfl rfl rfl (by kernel_rfl) rfl hC ?_ | refine Nx.so ?_ | refine Nx.sb (fun bx => ?_) | refine Nx.sa (fun A2 c2 => ?_))
      | ((with_reducible refine Nx.is_at ?_); first | refine Nx.a ?_ | refine Nx.zd ?_ | refine Nx.zs (fun hc => ?_) (fun hc => ?_))
      | ((with_reducible refine Nx.is_mix ?_); first | refine Nx.m ?_ | refine Nx.zm ?_ | refine Nx.zt (fun hc => ?_) (fun hc => ?_))
      | refine Nx.zx ?_ | fail
    exact Nx.ret_fn rfl [_] ⟨nilRow, nilRow, [], rfl, rfl, rfl, .inr rfl, .inr rfl, rfl⟩ ((Ent.stars_nil _).trans (by (exact Ent.auto)))
  rw [if_pos h0]
  obtain ⟨h1, h2, h3, hsm⟩ := chk_good h0
  rw [h0] at hC
  by_cases hx0 : x < 0
  · rw [if_pos (.inl hx0)]
    repeat' first
      | ((with_reducible refine Nx.is_wp ?_); first | refine Nx.wo ?_ | refine Nx.zp (fun hc => ?_) (fun hc => ?_))
      | (refine Nx.zo ?_; first | refine Nx.opr rfl rfl ?_ | refine Nx.callv rfl rfl rfl (by kernel_rfl) rfl hC ?_ | refine Nx.so ?_ | refine Nx.sb (fun bx => ?_) | refine Nx.sa (fun A2 c2 => ?_))
      | ((with_reducible refine Nx.is_at ?_); first | refine Nx.a ?_ | refine Nx.zd ?_ | refine Nx.zs (fun hc => ?_) (fun hc => ?_))
      | ((with_reducible refine Nx.is_mix ?_); first | refine Nx.m ?_ | refine Nx.zm ?_ | refine Nx.zt (fun hc => ?_) (fun hc => ?_))
      | refine Nx.zx ?_ | fail
    exact Nx.ret_fn rfl [_] ⟨nilRow, nilRow, [], rfl, rfl, rfl, .inr rfl, .inr rfl, rfl⟩ ((Ent.stars_nil _).trans (by (exact Ent.auto)))
  by_cases hx1 : n ≤ x
  · rw [if_pos (.inr hx1)]
    repeat' first
      | ((with_reducible refine Nx.is_wp ?_); first | refine Nx.wo ?_ | refine Nx.zp (fun hc => ?_) (fun hc => ?_))
      | (refine Nx.zo ?_; first | refine Nx.opr rfl rfl ?_ | refine Nx.callv rfl rfl rfl (by kernel_rfl) rfl hC ?_ | refine Nx.so ?_ | refine Nx.sb (fun bx => ?_) | refine Nx.sa (fun A2 c2 => ?_))
      | ((with_reducible refine Nx.is_at ?_); first | refine Nx.a ?_ | refine Nx.zd ?_ | refine Nx.zs (fun hc => ?_) (fun hc => ?_))
      | ((with_reducible refine Nx.is_mix ?_); first | refine Nx.m ?_ | refine Nx.zm ?_ | refine Nx.zt (fun hc => ?_) (fun hc => ?_))
      | refine Nx.zx ?_ | fail
    exact Nx.ret_fn rfl [_] ⟨nilRow, nilRow, [], rfl, rfl, rfl, .inr rfl, .inr rfl, rfl⟩ ((Ent.stars_nil _).trans (by (exact Ent.auto)))
  rw [if_neg (by omega)]
  obtain ⟨m, rfl⟩ : ∃ m : Nat, n = m := ⟨n.toNat, by omega⟩
  obtain ⟨y, rfl⟩ : ∃ y : Nat, x = y := ⟨x.toNat, by omega⟩
  rw [Int.toNat_natCast] at h3 hsm ⊢
  rw [Int.toNat_natCast]
  have hS := all_spec A c l m 65536 I hl h3 (by omega) (by omega) (by omega)
  have hfew := sols_few h3 hsm
  rw [hfew] at hS
  have hlen9 : (solsOf m (eqns l)).length ≤ 65536 := by rw [← hfew, List.length_take]; omega
  by_cases hso : solsOf m (eqns l) = []
  · rw [if_pos hso]
    rw [hso] at hS
    repeat' first
      | ((with_reducible refine Nx.is_wp ?_); first | refine Nx.wo ?_ | refine Nx.zp (fun hc => ?_) (fun hc => ?_))
      | (refine Nx.zo ?_; first | refine Nx.opr rfl rfl ?_ | refine Nx.callv rfl rfl rfl (by kernel_rfl) rfl hC ?_ | (refine Nx.call (Rpre := []) rfl rfl rfl (by kernel_rfl) rfl hS (Ent.refl _) ?_; rintro _ _ ⟨A1, c1, o, rfl, ho, rfl⟩; (obtain rfl : o = [] := by simpa using ho)) | refine Nx.so ?_ | refine Nx.sb (fun bx => ?_) | refine Nx.sa (fun A2 c2 => ?_))
      | ((with_reducible refine Nx.is_at ?_); first | refine Nx.a ?_ | refine Nx.zd ?_ | refine Nx.zs (fun hc => ?_) (fun hc => ?_))
      | ((with_reducible refine Nx.is_mix ?_); first | refine Nx.m ?_ | refine Nx.zm ?_ | refine Nx.zt (fun hc => ?_) (fun hc => ?_))
      | refine Nx.zx ?_ | fail
    exact Nx.ret_fn rfl [_] ⟨nilRow, nilRow, [], rfl, rfl, rfl, .inr rfl, .inr rfl, rfl⟩ ((Ent.stars_nil _).trans (by (exact Ent.auto)))
  rw [if_neg hso]
  have hne : ∀ o : List Row, o.map (·.2.2) = solsOf m (eqns l) → 0 < o.length ∧ o.length ≤ 65536 := fun o ho => by
    rw [← List.length_map (f := fun r : Row => r.2.2), ho]
    exact ⟨List.length_pos_iff.2 hso, hlen9⟩
  have hym : y < m := by omega
  have hunt := untouched h3 hym
  have hR := room_spec A c l m y I hl h3
  by_cases hto : y ∈ touch m (eqns l)
  case neg =>
    rw [if_neg hto]
    rw [hunt.2 hto] at hR
    repeat' first
      | ((with_reducible refine Nx.is_wp ?_); first | refine Nx.wo ?_ | refine Nx.zp (fun hc => ?_) (fun hc => ?_))
      | (refine Nx.zo ?_; first | refine Nx.opr rfl rfl ?_ | refine Nx.callv rfl rfl rfl (by kernel_rfl) rfl hC ?_ | (refine Nx.call (Rpre := []) rfl rfl rfl (by kernel_rfl) rfl hS (Ent.refl _) ?_; rintro _ _ ⟨A1, c1, o, rfl, ho, rfl⟩; have hpo := hne o ho) | refine Nx.callv rfl rfl rfl (by kernel_rfl) rfl hR ?_ | refine Nx.so ?_ | refine Nx.sb (fun bx => ?_) | refine Nx.sa (fun A2 c2 => ?_))
      | ((with_reducible refine Nx.is_at ?_); first | refine Nx.a ?_ | refine Nx.zd ?_ | refine Nx.zs (fun hc => ?_) (fun hc => ?_))
      | ((with_reducible refine Nx.is_mix ?_); first | refine Nx.m ?_ | refine Nx.zm ?_ | refine Nx.zt (fun hc => ?_) (fun hc => ?_))
      | refine Nx.zx ?_ | fail
    exact Nx.ret_fn rfl [_] ⟨nilRow, nilRow, [], rfl, rfl, rfl, .inr rfl, .inr rfl, rfl⟩ ((Ent.stars_nil _).trans (by (exact Ent.auto)))
  rw [if_pos hto]
  have hrne : roomR (eqns l) y ≠ 0 := fun h => (hunt.1 h) hto
  generalize roomR (eqns l) y = rm at hR hrne
  repeat' first
    | ((with_reducible refine Nx.is_wp ?_); first | refine Nx.p_stopr 11 rfl ?_ | refine Nx.wo ?_ | refine Nx.zp (fun hc => ?_) (fun hc => ?_))
    | (refine Nx.zo ?_; first | refine Nx.opr rfl rfl ?_ | refine Nx.callv rfl rfl rfl (by kernel_rfl) rfl hC ?_ | (refine Nx.call (Rpre := []) rfl rfl rfl (by kernel_rfl) rfl hS (Ent.refl _) ?_; rintro _ _ ⟨A1, c1, o, rfl, ho, rfl⟩; have hpo := hne o ho) | refine Nx.callv rfl rfl rfl (by kernel_rfl) rfl hR ?_ | refine Nx.so ?_ | refine Nx.sb (fun bx => ?_) | refine Nx.sa (fun A2 c2 => ?_))
    | ((with_reducible refine Nx.is_at ?_); first | refine Nx.a ?_ | refine Nx.zd ?_ | refine Nx.zs (fun hc => ?_) (fun hc => ?_))
    | ((with_reducible refine Nx.is_mix ?_); first | refine Nx.m ?_ | refine Nx.zm ?_ | refine Nx.zt (fun hc => ?_) (fun hc => ?_))
    | refine Nx.zx ?_ | fail
  refine unstopN ?_
  refine Nx.freeze (B := [Vec 25 1 A1 o.length c1 (o.map rowV), Stars (o.map rwR)]) (R' := [F]) (by (exact Ent.auto)) fun m2 hd hrw => ?_
  have hrows := rows_of (I' := I.or m2) (PH.le_or_right hd) hrw
  generalize hI2 : I.or m2 = I2 at hrows ⊢
  have hmem : ∀ j, j < o.length → (o.getD j default).2.2 ∈ solsOf m (eqns l) := fun j hj => by
    rw [← ho]; exact List.mem_map.2 ⟨_, getD_in hj, rfl⟩
  have hsl : ∀ s ∈ solsOf m (eqns l), s.length = m := fun s hs => ((mem_sols h3).1 hs).len
  have hrow : ∀ j, j < o.length → ∀ (W : World) (R : List Res), Rd W I2 R ((ad A1).add (j * 1)) (rowV (o.getD j default)) := fun j hj W R => hrows.outer.rd (W := W) (R := R) (k := j) hj
  have hrl : ∀ j, j < o.length → (o.getD j default).2.2.length = m := fun j hj => hsl _ (hmem j hj)
  have hcell : ∀ j, j < o.length → ∀ (W : World) (R : List Res), Rd W I2 R ((ad (o.getD j default).1).add (y * 1)) (.int .i64 ((o.getD j default).2.2.getD y 0)) := fun j hj W R =>
    (hrows.at hj).rd (k := y) (by rw [hrl j hj]; exact hym)
  have hrsome : ∀ j, j < o.length → (o.getD j default).1.isSome = true := fun j hj => (hrows.at hj).isSome (by rw [hrl j hj]; omega)
  have hA1 := hrows.outer.isSome (by omega)
  repeat' first
    | ((with_reducible refine Nx.is_wp ?_); first | refine Nx.wo ?_ | refine Nx.p_draw (id := 11) rfl [0, 1, 2, 3, 4, 5, 6, 7] [] _ rfl rfl (by kernel_rfl) (by kernel_rfl) rfl (by repeat first | exact PanicOk.fn | refine PanicOk.then_ ?_ | refine PanicOk.inB ?_) (Ent.refl _) ?_ | refine Nx.p_draw (id := 15) rfl [0, 1, 2, 3, 4, 5, 6, 7, 8] [] _ rfl rfl (by kernel_rfl) (by kernel_rfl) rfl (by repeat first | exact PanicOk.fn | refine PanicOk.then_ ?_ | refine PanicOk.inB ?_) (Ent.refl _) ?_ | refine Nx.p_draw (id := 17) rfl [0, 1, 2, 3, 4, 5, 6, 7, 8] [] _ rfl rfl (by kernel_rfl) (by kernel_rfl) rfl (by repeat first | exact PanicOk.fn | refine PanicOk.then_ ?_ | refine PanicOk.inB ?_) (Ent.refl _) ?_ | refine Nx.zp (fun hc => ?_) (fun hc => ?_))
    | (refine Nx.zo ?_; first | refine Nx.opr rfl rfl ?_ | refine Nx.so ?_ | refine Nx.sb (fun bx => ?_) | refine Nx.sa (fun A2 c2 => ?_))
    | ((with_reducible refine Nx.is_at ?_); first | refine Nx.a ?_ | refine Nx.zd ?_ | refine Nx.zs (fun hc => ?_) (fun hc => ?_))
    | ((with_reducible refine Nx.is_mix ?_); first | refine Nx.m_quiet rfl rfl rfl rfl rfl (by first | exact QRun.opr rfl | exact QRun.idx (i := 0) rfl rfl rfl rfl hpo.1 hA1 | exact QRun.load rfl rfl (hrow 0 hpo.1 _ _)) ?_ | refine Nx.m_quiet_do rfl rfl rfl rfl rfl rfl rfl (by first | exact QRun.opr rfl | exact QRun.idx (i := 0) rfl rfl rfl rfl hpo.1 hA1 | exact QRun.load rfl rfl (hrow 0 hpo.1 _ _)) ?_ | refine Nx.m ?_ | refine Nx.zm ?_ | refine Nx.zt (fun hc => ?_) (fun hc => ?_))
    | refine Nx.zx ?_ | fail
  refine Nx.p_loop (σ := Nat × Nat × Nat) (fun s => [(2, .int .i64 (y : Int)), (11, rowV (o.getD s.2.1 default)), (12, rowV (o.getD s.2.2 default)), (44, .slice A1 o.length c1), (45, .int .i64 o.length), (46, .int .i64 (s.1 : Int))])
    (fun _ => [F])
    (fun s => s.1 ≤ o.length ∧ s.2.1 < o.length ∧ s.2.2 < o.length ∧ (∀ j, j < s.1 → (o.getD s.2.1 default).2.2.getD y 0 ≤ (o.getD j default).2.2.getD y 0) ∧ (∀ j, j < s.2.1 → (o.getD s.2.1 default).2.2.getD y 0 < (o.getD j default).2.2.getD y 0) ∧ (∀ j, j < s.1 → (o.getD j default).2.2.getD y 0 ≤ (o.getD s.2.2 default).2.2.getD y 0) ∧ (∀ j, j < s.2.2 → (o.getD j default).2.2.getD y 0 < (o.getD s.2.2 default).2.2.getD y 0))
    (fun s => o.length - s.1) (0, 0, 0) rfl
    ⟨Nat.zero_le _, hpo.1, hpo.1, fun j hj => absurd hj (Nat.not_lt_zero _), fun j hj => absurd hj (Nat.not_lt_zero _), fun j hj => absurd hj (Nat.not_lt_zero _), fun j hj => absurd hj (Nat.not_lt_zero _)⟩ ⟨rfl, rfl, rfl, rfl, rfl, rfl, trivial⟩ (by (exact Ent.auto)) ?_
  rintro ⟨k, il, ih⟩ ⟨hk, hil, hih, hl1, hl2, hh1, hh2⟩
  dsimp only at hk hil hih hl1 hl2 hh1 hh2 ⊢
  by_cases hko : k < o.length
  case neg =>
    obtain rfl : k = o.length := by omega
    have hol : (solsOf m (eqns l)).length = o.length := by rw [← ho, List.length_map]
    have hat : ∀ j, j < o.length → (o.getD j default).2.2 = (solsOf m (eqns l)).getD j default := fun j hj => map_at ho hj
    have e1 := pair_is (down := false) h3 hto (i := il) (by omega) (fun j hj => by rw [if_neg (by decide), ← hat il hil, ← hat j (by omega)]; exact hl1 j (by omega)) fun j hj => by rw [← hat il hil, ← hat j (by omega)]; have := hl2 j hj; omega
    have e2 := pair_is (down := true) h3 hto (i := ih) (by omega) (fun j hj => by rw [if_pos rfl, ← hat ih hih, ← hat j (by omega)]; exact hh1 j (by omega)) fun j hj => by rw [← hat ih hih, ← hat j (by omega)]; have := hh2 j hj; omega
    rw [e1, e2, ← hat il hil, ← hat ih hih]
    repeat' first
      | ((with_reducible refine Nx.is_wp ?_); first | refine Nx.wo ?_ | refine Nx.zp (fun hc => ?_) (fun hc => ?_))
      | (refine Nx.zo ?_; first | refine Nx.opr rfl rfl ?_ | refine Nx.so ?_ | refine Nx.sb (fun bx => ?_) | refine Nx.sa (fun A2 c2 => ?_))
      | ((with_reducible refine Nx.is_at ?_); first | refine Nx.a ?_ | refine Nx.zd ?_ | refine Nx.zs (fun hc => ?_) (fun hc => ?_))
      | ((with_reducible refine Nx.is_mix ?_); first | refine Nx.m ?_ | refine Nx.zm ?_ | refine Nx.zt (fun hc => ?_) (fun hc => ?_))
      | refine Nx.zx ?_ | fail
    subst hI2
    exact Nx.thaw hd hrw (Nx.ret_fn rfl [Stars (o.map rwR)] ⟨o.getD il default, o.getD ih default, o, rfl, rfl, rfl, .inl (getD_in hil), .inl (getD_in hih), rfl⟩ (by (exact Ent.auto)))
  have hr1 := hrow k hko
  have hc1 := hcell k hko
  have hs1 := hrsome k hko
  have hz1 := hrl k hko
  have hc2 := hcell il hil
  have hs2 := hrsome il hil
  have hz2 := hrl il hil
  have hc3 := hcell ih hih
  have hs3 := hrsome ih hih
  have hz3 := hrl ih hih
  have hnext : ∀ (il' ih' : Nat), (il' = if (o.getD k default).2.2.getD y 0 < (o.getD il default).2.2.getD y 0 then k else il) → (ih' = if (o.getD ih default).2.2.getD y 0 < (o.getD k default).2.2.getD y 0 then k else ih) →
      (k + 1 ≤ o.length ∧ il' < o.length ∧ ih' < o.length ∧ (∀ j, j < k + 1 → (o.getD il' default).2.2.getD y 0 ≤ (o.getD j default).2.2.getD y 0) ∧ (∀ j, j < il' → (o.getD il' default).2.2.getD y 0 < (o.getD j default).2.2.getD y 0) ∧ (∀ j, j < k + 1 → (o.getD j default).2.2.getD y 0 ≤ (o.getD ih' default).2.2.getD y 0) ∧ (∀ j, j < ih' → (o.getD j default).2.2.getD y 0 < (o.getD ih' default).2.2.getD y 0)) := by
    intro il' ih' e1 e2
    have hlow : il' < o.length ∧ (∀ j, j < k + 1 → (o.getD il' default).2.2.getD y 0 ≤ (o.getD j default).2.2.getD y 0) ∧ (∀ j, j < il' → (o.getD il' default).2.2.getD y 0 < (o.getD j default).2.2.getD y 0) := by
      by_cases h : (o.getD k default).2.2.getD y 0 < (o.getD il default).2.2.getD y 0
      · rw [if_pos h] at e1
        subst e1
        refine ⟨hko, fun j hj => ?_, fun j hj => by have := hl1 j hj; omega⟩
        by_cases hjk : j = il'
        · subst hjk; exact Int.le_refl _
        · have := hl1 j (by omega); omega
      · rw [if_neg h] at e1
        subst e1
        refine ⟨hil, fun j hj => ?_, hl2⟩
        by_cases hjk : j = k
        · subst hjk; omega
        · exact hl1 j (by omega)
    have hhigh : ih' < o.length ∧ (∀ j, j < k + 1 → (o.getD j default).2.2.getD y 0 ≤ (o.getD ih' default).2.2.getD y 0) ∧ (∀ j, j < ih' → (o.getD j default).2.2.getD y 0 < (o.getD ih' default).2.2.getD y 0) := by
      by_cases h : (o.getD ih default).2.2.getD y 0 < (o.getD k default).2.2.getD y 0
      · rw [if_pos h] at e2
        subst e2
        refine ⟨hko, fun j hj => ?_, fun j hj => by have := hh1 j hj; omega⟩
        by_cases hjk : j = ih'
        · subst hjk; exact Int.le_refl _
        · have := hh1 j (by omega); omega
      · rw [if_neg h] at e2
        subst e2
        refine ⟨hih, fun j hj => ?_, hh2⟩
        by_cases hjk : j = k
        · subst hjk; omega
        · exact hh1 j (by omega)
    exact ⟨hko, hlow.1, hhigh.1, hlow.2.1, hlow.2.2, hhigh.2.1, hhigh.2.2⟩
  have hrowv : ∀ (r : Row), r.2.2.length = m → rowV r = .slice r.1 m r.2.1 := fun r h => by unfold rowV; rw [h]
  rw [hrowv _ hz1] at hr1
  rw [hrowv _ hz2, hrowv _ hz3]
  by_cases h4 : (o.getD k default).2.2.getD y 0 < (o.getD il default).2.2.getD y 0
  · by_cases h5 : (o.getD ih default).2.2.getD y 0 < (o.getD k default).2.2.getD y 0
    · repeat' first
        | ((with_reducible refine Nx.is_wp ?_); first | refine Nx.wo ?_ | refine Nx.p_draw (id := 11) rfl [0, 1, 2, 3, 4, 5, 6, 7] [] _ rfl rfl (by kernel_rfl) (by kernel_rfl) rfl (by repeat first | exact PanicOk.fn | refine PanicOk.then_ ?_ | refine PanicOk.inB ?_) (Ent.refl _) ?_ | refine Nx.p_draw (id := 15) rfl [0, 1, 2, 3, 4, 5, 6, 7, 8] [] _ rfl rfl (by kernel_rfl) (by kernel_rfl) rfl (by repeat first | exact PanicOk.fn | refine PanicOk.then_ ?_ | refine PanicOk.inB ?_) (Ent.refl _) ?_ | refine Nx.p_draw (id := 17) rfl [0, 1, 2, 3, 4, 5, 6, 7, 8] [] _ rfl rfl (by kernel_rfl) (by kernel_rfl) rfl (by repeat first | exact PanicOk.fn | refine PanicOk.then_ ?_ | refine PanicOk.inB ?_) (Ent.refl _) ?_ | refine Nx.zp (fun hc => ?_) (fun hc => ?_))
        | (refine Nx.zo ?_; first | refine Nx.opr rfl rfl ?_ | refine Nx.indexAddr_nat rfl rfl rfl rfl rfl hko hA1 ?_ | refine Nx.load rfl rfl rfl (hr1 _ _) ?_ | refine Nx.so ?_ | refine Nx.sb (fun bx => ?_) | refine Nx.sa (fun A2 c2 => ?_))
        | ((with_reducible refine Nx.is_at ?_); first | refine Nx.a ?_ | refine Nx.zd ?_ | refine Nx.zs (fun hc => ?_) (fun hc => ?_))
        | ((with_reducible refine Nx.is_mix ?_); first | refine Nx.m_quiet rfl rfl rfl rfl rfl (by first | exact QRun.opr rfl | exact QRun.idx (i := y) (sz := 1) rfl rfl rfl rfl hym hs1 | exact QRun.idx (i := y) (sz := 1) rfl rfl rfl rfl hym hs2 | exact QRun.idx (i := y) (sz := 1) rfl rfl rfl rfl hym hs3 | exact QRun.load rfl rfl (hc1 _ _) | exact QRun.load rfl rfl (hc2 _ _) | exact QRun.load rfl rfl (hc3 _ _)) ?_ | refine Nx.m_quiet_do rfl rfl rfl rfl rfl rfl rfl (by first | exact QRun.opr rfl | exact QRun.idx (i := y) (sz := 1) rfl rfl rfl rfl hym hs1 | exact QRun.idx (i := y) (sz := 1) rfl rfl rfl rfl hym hs2 | exact QRun.idx (i := y) (sz := 1) rfl rfl rfl rfl hym hs3 | exact QRun.load rfl rfl (hc1 _ _) | exact QRun.load rfl rfl (hc2 _ _) | exact QRun.load rfl rfl (hc3 _ _)) ?_ | refine Nx.m ?_ | refine Nx.zm ?_ | refine Nx.zt (fun hc => ?_) (fun hc => ?_))
        | refine Nx.zx ?_ | fail
      exact Nx.again (k + 1, k, k) (hnext _ _ (by rw [if_pos h4]) (by rw [if_pos h5])) (by dsimp only; omega) ⟨rfl, by dsimp only; rw [hrowv _ hz1]; rfl, by dsimp only; rw [hrowv _ hz1]; rfl, rfl, rfl, rfl, trivial⟩ (by (exact Ent.auto))
    · repeat' first
        | ((with_reducible refine Nx.is_wp ?_); first | refine Nx.wo ?_ | refine Nx.p_draw (id := 11) rfl [0, 1, 2, 3, 4, 5, 6, 7] [] _ rfl rfl (by kernel_rfl) (by kernel_rfl) rfl (by repeat first | exact PanicOk.fn | refine PanicOk.then_ ?_ | refine PanicOk.inB ?_) (Ent.refl _) ?_ | refine Nx.p_draw (id := 15) rfl [0, 1, 2, 3, 4, 5, 6, 7, 8] [] _ rfl rfl (by kernel_rfl) (by kernel_rfl) rfl (by repeat first | exact PanicOk.fn | refine PanicOk.then_ ?_ | refine PanicOk.inB ?_) (Ent.refl _) ?_ | refine Nx.p_draw (id := 17) rfl [0, 1, 2, 3, 4, 5, 6, 7, 8] [] _ rfl rfl (by kernel_rfl) (by kernel_rfl) rfl (by repeat first | exact PanicOk.fn | refine PanicOk.then_ ?_ | refine PanicOk.inB ?_) (Ent.refl _) ?_ | refine Nx.zp (fun hc => ?_) (fun hc => ?_))
        | (refine Nx.zo ?_; first | refine Nx.opr rfl rfl ?_ | refine Nx.indexAddr_nat rfl rfl rfl rfl rfl hko hA1 ?_ | refine Nx.load rfl rfl rfl (hr1 _ _) ?_ | refine Nx.so ?_ | refine Nx.sb (fun bx => ?_) | refine Nx.sa (fun A2 c2 => ?_))
        | ((with_reducible refine Nx.is_at ?_); first | refine Nx.a ?_ | refine Nx.zd ?_ | refine Nx.zs (fun hc => ?_) (fun hc => ?_))
        | ((with_reducible refine Nx.is_mix ?_); first | refine Nx.m_quiet rfl rfl rfl rfl rfl (by first | exact QRun.opr rfl | exact QRun.idx (i := y) (sz := 1) rfl rfl rfl rfl hym hs1 | exact QRun.idx (i := y) (sz := 1) rfl rfl rfl rfl hym hs2 | exact QRun.idx (i := y) (sz := 1) rfl rfl rfl rfl hym hs3 | exact QRun.load rfl rfl (hc1 _ _) | exact QRun.load rfl rfl (hc2 _ _) | exact QRun.load rfl rfl (hc3 _ _)) ?_ | refine Nx.m_quiet_do rfl rfl rfl rfl rfl rfl rfl (by first | exact QRun.opr rfl | exact QRun.idx (i := y) (sz := 1) rfl rfl rfl rfl hym hs1 | exact QRun.idx (i := y) (sz := 1) rfl rfl rfl rfl hym hs2 | exact QRun.idx (i := y) (sz := 1) rfl rfl rfl rfl hym hs3 | exact QRun.load rfl rfl (hc1 _ _) | exact QRun.load rfl rfl (hc2 _ _) | exact QRun.load rfl rfl (hc3 _ _)) ?_ | refine Nx.m ?_ | refine Nx.zm ?_ | refine Nx.zt (fun hc => ?_) (fun hc => ?_))
        | refine Nx.zx ?_ | fail
      exact Nx.again (k + 1, k, ih) (hnext _ _ (by rw [if_pos h4]) (by rw [if_neg h5])) (by dsimp only; omega) ⟨rfl, by dsimp only; rw [hrowv _ hz1]; rfl, by dsimp only; rw [hrowv _ hz3]; rfl, rfl, rfl, rfl, trivial⟩ (by (exact Ent.auto))
  · by_cases h5 : (o.getD ih default).2.2.getD y 0 < (o.getD k default).2.2.getD y 0
    · repeat' first
        | ((with_reducible refine Nx.is_wp ?_); first | refine Nx.wo ?_ | refine Nx.p_draw (id := 11) rfl [0, 1, 2, 3, 4, 5, 6, 7] [] _ rfl rfl (by kernel_rfl) (by kernel_rfl) rfl (by repeat first | exact PanicOk.fn | refine PanicOk.then_ ?_ | refine PanicOk.inB ?_) (Ent.refl _) ?_ | refine Nx.p_draw (id := 15) rfl [0, 1, 2, 3, 4, 5, 6, 7, 8] [] _ rfl rfl (by kernel_rfl) (by kernel_rfl) rfl (by repeat first | exact PanicOk.fn | refine PanicOk.then_ ?_ | refine PanicOk.inB ?_) (Ent.refl _) ?_ | refine Nx.p_draw (id := 17) rfl [0, 1, 2, 3, 4, 5, 6, 7, 8] [] _ rfl rfl (by kernel_rfl) (by kernel_rfl) rfl (by repeat first | exact PanicOk.fn | refine PanicOk.then_ ?_ | refine PanicOk.inB ?_) (Ent.refl _) ?_ | refine Nx.zp (fun hc => ?_) (fun hc => ?_))
        | (refine Nx.zo ?_; first | refine Nx.opr rfl rfl ?_ | refine Nx.indexAddr_nat rfl rfl rfl rfl rfl hko hA1 ?_ | refine Nx.load rfl rfl rfl (hr1 _ _) ?_ | refine Nx.so ?_ | refine Nx.sb (fun bx => ?_) | refine Nx.sa (fun A2 c2 => ?_))
        | ((with_reducible refine Nx.is_at ?_); first | refine Nx.a ?_ | refine Nx.zd ?_ | refine Nx.zs (fun hc => ?_) (fun hc => ?_))
        | ((with_reducible refine Nx.is_mix ?_); first | refine Nx.m_quiet rfl rfl rfl rfl rfl (by first | exact QRun.opr rfl | exact QRun.idx (i := y) (sz := 1) rfl rfl rfl rfl hym hs1 | exact QRun.idx (i := y) (sz := 1) rfl rfl rfl rfl hym hs2 | exact QRun.idx (i := y) (sz := 1) rfl rfl rfl rfl hym hs3 | exact QRun.load rfl rfl (hc1 _ _) | exact QRun.load rfl rfl (hc2 _ _) | exact QRun.load rfl rfl (hc3 _ _)) ?_ | refine Nx.m_quiet_do rfl rfl rfl rfl rfl rfl rfl (by first | exact QRun.opr rfl | exact QRun.idx (i := y) (sz := 1) rfl rfl rfl rfl hym hs1 | exact QRun.idx (i := y) (sz := 1) rfl rfl rfl rfl hym hs2 | exact QRun.idx (i := y) (sz := 1) rfl rfl rfl rfl hym hs3 | exact QRun.load rfl rfl (hc1 _ _) | exact QRun.load rfl rfl (hc2 _ _) | exact QRun.load rfl rfl (hc3 _ _)) ?_ | refine Nx.m ?_ | refine Nx.zm ?_ | refine Nx.zt (fun hc => ?_) (fun hc => ?_))
        | refine Nx.zx ?_ | fail
      exact Nx.again (k + 1, il, k) (hnext _ _ (by rw [if_neg h4]) (by rw [if_pos h5])) (by dsimp only; omega) ⟨rfl, by dsimp only; rw [hrowv _ hz2]; rfl, by dsimp only; rw [hrowv _ hz1]; rfl, rfl, rfl, rfl, trivial⟩ (by (exact Ent.auto))
    · repeat' first
        | ((with_reducible refine Nx.is_wp ?_); first | refine Nx.wo ?_ | refine Nx.p_draw (id := 11) rfl [0, 1, 2, 3, 4, 5, 6, 7] [] _ rfl rfl (by kernel_rfl) (by kernel_rfl) rfl (by repeat first | exact PanicOk.fn | refine PanicOk.then_ ?_ | refine PanicOk.inB ?_) (Ent.refl _) ?_ | refine Nx.p_draw (id := 15) rfl [0, 1, 2, 3, 4, 5, 6, 7, 8] [] _ rfl rfl (by kernel_rfl) (by kernel_rfl) rfl (by repeat first | exact PanicOk.fn | refine PanicOk.then_ ?_ | refine PanicOk.inB ?_) (Ent.refl _) ?_ | refine Nx.p_draw (id := 17) rfl [0, 1, 2, 3, 4, 5, 6, 7, 8] [] _ rfl rfl (by kernel_rfl) (by kernel_rfl) rfl (by repeat first | exact PanicOk.fn | refine PanicOk.then_ ?_ | refine PanicOk.inB ?_) (Ent.refl _) ?_ | refine Nx.zp (fun hc => ?_) (fun hc => ?_))
        | (refine Nx.zo ?_; first | refine Nx.opr rfl rfl ?_ | refine Nx.indexAddr_nat rfl rfl rfl rfl rfl hko hA1 ?_ | refine Nx.load rfl rfl rfl (hr1 _ _) ?_ | refine Nx.so ?_ | refine Nx.sb (fun bx => ?_) | refine Nx.sa (fun A2 c2 => ?_))
        | ((with_reducible refine Nx.is_at ?_); first | refine Nx.a ?_ | refine Nx.zd ?_ | refine Nx.zs (fun hc => ?_) (fun hc => ?_))
        | ((with_reducible refine Nx.is_mix ?_); first | refine Nx.m_quiet rfl rfl rfl rfl rfl (by first | exact QRun.opr rfl | exact QRun.idx (i := y) (sz := 1) rfl rfl rfl rfl hym hs1 | exact QRun.idx (i := y) (sz := 1) rfl rfl rfl rfl hym hs2 | exact QRun.idx (i := y) (sz := 1) rfl rfl rfl rfl hym hs3 | exact QRun.load rfl rfl (hc1 _ _) | exact QRun.load rfl rfl (hc2 _ _) | exact QRun.load rfl rfl (hc3 _ _)) ?_ | refine Nx.m_quiet_do rfl rfl rfl rfl rfl rfl rfl (by first | exact QRun.opr rfl | exact QRun.idx (i := y) (sz := 1) rfl rfl rfl rfl hym hs1 | exact QRun.idx (i := y) (sz := 1) rfl rfl rfl rfl hym hs2 | exact QRun.idx (i := y) (sz := 1) rfl rfl rfl rfl hym hs3 | exact QRun.load rfl rfl (hc1 _ _) | exact QRun.load rfl rfl (hc2 _ _) | exact QRun.load rfl rfl (hc3 _ _)) ?_ | refine Nx.m ?_ | refine Nx.zm ?_ | refine Nx.zt (fun hc => ?_) (fun hc => ?_))
        | refine Nx.zx ?_ | fail
      exact Nx.again (k + 1, il, ih) (hnext _ _ (by rw [if_neg h4]) (by rw [if_neg h5])) (by dsimp only; omega) ⟨rfl, by dsimp only; rw [hrowv _ hz2]; rfl, by dsimp only; rw [hrowv _ hz3]; rfl, rfl, rfl, rfl, trivial⟩ (by (exact Ent.auto))
end Go.Proofs.YtcmdemfhbekabaaGreat
/- Contracts of functions of the given program, and lemmas about plain lists and numbers: what the laws of this seat lean on. -/
namespace Go.Proofs.YtcmdemfhbekabaaGreat
open Go.Eng Go.Sol
attribute [local irreducible] opK wpList Code.wp Exit.then Exit.inBlock fnPost bodyPost Nx Calls Oper.wp Rd Rds Wr Ent Stars Blk Again Vec FnSpec wpMix QRun Stop Upto wpAt
/-! Reaches compared -/
theorem part_rc0 (x : Rch) (w : World) : (part 3 (rcC x).toArray 0).run Tryz.prog w = .ok (.int .i64 x.1) w := run_of_pureRun (by kernel_rfl) w
theorem part_rc1 (x : Rch) (w : World) : (part 3 (rcC x).toArray 1).run Tryz.prog w = .ok (.int .i64 x.2.1) w := run_of_pureRun (by kernel_rfl) w
theorem part_rc2 (x : Rch) (w : World) : (part 4 (rcC x).toArray 2).run Tryz.prog w = .ok (.bool x.2.2) w := run_of_pureRun (by kernel_rfl) w
/-! Lists of tables compared -/
/-! Whether equations are searched quickly -/
end Go.Proofs.YtcmdemfhbekabaaGreat
/- Contracts of functions of the given program, and lemmas about plain lists and numbers: what the laws of this seat lean on. -/
namespace Go.Proofs.YtcmdemfhbekabaaGreat
open Go.Eng Go.Sol
attribute [local irreducible] opK wpList Code.wp Exit.then Exit.inBlock fnPost bodyPost Nx Calls Oper.wp Rd Rds Wr Ent Stars Blk Again Vec FnSpec wpMix QRun Stop Upto wpAt
/-! Plain: made equations and their solutions -/
theorem asc_room : ∀ {xs : List Int} {a b : Int}, xs.Pairwise (· < ·) → (∀ x ∈ xs, a ≤ x ∧ x < b) → (xs.length : Int) ≤ max 0 (b - a)
  | [], a, b, _, _ => by simp; omega
  | x :: r, a, b, h, hb => by
    rw [List.pairwise_cons] at h
    have hx := hb x List.mem_cons_self
    have ih := asc_room (a := x + 1) (b := b) h.2 fun y hy => by have := h.1 y hy; have := hb y (List.mem_cons_of_mem _ hy); omega
    rw [List.length_cons]
    omega
theorem good_len {n : Nat} {q : EqR} (hg : GoodE n q) : q.1.2.2.length ≤ n := by
  have := asc_room hg.asc hg.lt
  omega
theorem allC_good {n : Nat} : ∀ {l : List EqR}, (∀ q ∈ l, GoodE n q) → (allC l).length ≤ l.length * n
  | [], _ => by simp [allC]
  | q :: l, hg => by
    have ih := allC_good (l := l) fun p hp => hg p (List.mem_cons_of_mem _ hp)
    have h1 := good_len (hg q List.mem_cons_self)
    show (q.1.2.2 ++ allC l).length ≤ _
    rw [List.length_append, List.length_cons, Nat.succ_mul]
    omega
theorem EqsOk.all {N : Nat} {t : List Int} {most : Int} {qs : List EqR} (h : EqsOk N t most qs) : (allC qs).length ≤ 384 := by
  have h1 := allC_good h.good
  have h2 := h.few
  have h3 := h.n
  exact Nat.le_trans h1 (Nat.mul_le_mul h2 h3.2)
/-- The table, 0 where no equation is. -/
def wantL (N : Nat) (U : List Nat) (t : List Int) : List Int := (List.range N).map fun c => if c ∈ U then t.getD c 0 else 0
theorem wantL_len (N : Nat) (U : List Nat) (t : List Int) : (wantL N U t).length = N := by simp [wantL]
theorem wantL_at {N : Nat} {U : List Nat} {t : List Int} {c : Nat} (hc : c < N) : (wantL N U t).getD c 0 = if c ∈ U then t.getD c 0 else 0 := by
  unfold wantL
  rw [List.getD_eq_getElem?_getD, List.getElem?_map, List.getElem?_range hc]; rfl
theorem wantL_out {N : Nat} {U : List Nat} {t : List Int} {c : Nat} (hc : ¬ c < N) : (wantL N U t).getD c 0 = 0 := getD_ge (by rw [wantL_len]; omega)
/-- Values of a table that agrees with all equations, 0 elsewhere: a solution. -/
theorem want_sol {N : Nat} {l : List EqR} {t : List Int} (hg : ∀ q ∈ l, GoodE N q) (hp : ∀ c ∈ touch N (eqns l), 0 ≤ t.getD c 0 ∧ t.getD c 0 ≤ 1000000) (hs : ∀ q ∈ l, sumC t (eqn q).1 = q.2) : wantL N (touch N (eqns l)) t ∈ solsOf N (eqns l) := by
  have hat : ∀ c ∈ touch N (eqns l), (wantL N (touch N (eqns l)) t).getD c 0 = t.getD c 0 := fun c hc => by
    rw [wantL_at (mem_touch.1 hc).1, if_pos hc]
  refine (mem_sols hg).2 ⟨wantL_len _ _ _, fun c hc => ?_, fun c hc => by rw [hat c hc]; exact hp c hc, fun q hq => ?_⟩
  · rw [zeros_at]
    by_cases hN : c < N
    · rw [wantL_at hN, if_neg hc]
    · exact wantL_out hN
  · obtain ⟨p, hpl, rfl⟩ := List.mem_map.1 hq
    rw [← show sumC t (eqn p).1 = (eqn p).2 from hs p hpl]
    refine sumC_congr fun c hc => hat c (mem_touch.2 ⟨?_, eqn p, hq, hc⟩)
    have := (hg p hpl).lt (c : Int) ((mem_eqn (hg p hpl)).1 hc)
    omega
theorem EqsOk.pos {N : Nat} {t : List Int} {qs : List EqR} (h : EqsOk N t 2 qs) (c : Nat) : 0 ≤ t.getD c 0 ∧ t.getD c 0 ≤ 1000000 := by
  by_cases hc : c < t.length
  · have := h.tab c hc
    exact ⟨this.1, by have := this.2; show t.getD c default ≤ _; omega⟩
  · rw [getD_ge (by omega)]; decide
theorem EqsOk.want {N : Nat} {t : List Int} {qs : List EqR} (h : EqsOk N t 2 qs) : wantL N (touch N (eqns qs)) t ∈ solsOf N (eqns qs) := want_sol h.good (fun c _ => h.pos c) h.sum
theorem EqsOk.some {N : Nat} {t : List Int} {qs : List EqR} (h : EqsOk N t 2 qs) : solsOf N (eqns qs) ≠ [] := fun he => by
  have := h.want; rw [he] at this; cases this
/-! Made equations are given up -/
end Go.Proofs.YtcmdemfhbekabaaGreat
