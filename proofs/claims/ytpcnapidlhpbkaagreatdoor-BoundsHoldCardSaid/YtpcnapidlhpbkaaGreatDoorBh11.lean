/- Contracts of functions of the given program, and lemmas about plain lists and numbers: what the laws of this seat lean on. -/
import Derived.Test.YtpcnapidlhpbkaaGreatDoorRows
import Derived.Test.YtpcnapidlhpbkaaGreatDoorChecked
import Derived.WalkKit
import Derived.ProofKit
import Derived.OpenShut
import Derived.LaidHandle
import Derived.LaidLaws
import Derived.Lib.LaidTab
import Derived.Stop.LaidErr
import Derived.Test.YtpcnapidlhpbkaaGreatDoorBh10
namespace Go.Proofs.YtpcnapidlhpbkaaGreatDoor
open Go.Eng Go.Sol
attribute [local irreducible] opK wpList Code.wp Exit.then Exit.inBlock fnPost bodyPost Nx Calls Oper.wp Rd Rds Wr Ent Stars Blk Again Vec FnSpec wpMix QRun Stop Upto wpAt
/-! The reference's sum; the last part of its check -/
set_option maxRecDepth 10000 in
set_option maxHeartbeats 4000000 in
theorem rsumF_spec (A : Option Addr) (c : Nat) (l : List Rat) (I : PH) (hl : Rats I A c l) (hr : ∀ q ∈ l, RB q) :
    FnSpec Tryz.prog 51 [.slice A l.length c] I [] (fun v R' => ∃ r : Rat, v = .tuple #[.agg #[.int .i64 r.num, .int .i64 r.den], .bool (Bl.sumF l).isSome] ∧ (∀ s, Bl.sumF l = some s → r = s) ∧ R' = []) := by
  have hlen := hl.len
  refine FnSpec.enterP Tryz.func51 rfl Tryz.ntmps51 rfl fun w F => ?_
  repeat' first
    | ((with_reducible refine Nx.is_wp ?_); first | refine Nx.wo ?_ | refine Nx.zp (fun hc => ?_) (fun hc => ?_))
    | (refine Nx.zo ?_; first | refine Nx.opr rfl rfl ?_ | refine Nx.callv rfl rfl rfl (by kernel_rfl) rfl (rwhole_spec _ _) ?_ | refine Nx.so ?_ | refine Nx.sb (fun bx => ?_) | refine Nx.sa (fun A2 c2 => ?_))
    | ((with_reducible refine Nx.is_at ?_); first | refine Nx.a ?_ | refine Nx.zd ?_ | refine Nx.zs (fun hc => ?_) (fun hc => ?_))
    | ((with_reducible refine Nx.is_mix ?_); first | refine Nx.m ?_ | refine Nx.zm ?_ | refine Nx.zt (fun hc => ?_) (fun hc => ?_))
    | refine Nx.zx ?_ | fail
  rename_i b2
  revert bx; intro b4
  refine Nx.p_loop (σ := Nat × Rat) (fun z => [(0, .slice A l.length c), (2, .pointer (some ⟨b2, 0, none⟩)), (4, .pointer (some ⟨b4, 0, none⟩)), (10, .slice A l.length c), (11, .int .i64 l.length), (12, .int .i64 (z.1 : Int))])
    (fun z => [Blk b4 24 (ratC z.2), Blk b2 24 [.int .i64 0, .int .i64 0], F]) (fun z => z.1 ≤ l.length ∧ Bl.sumF (l.take z.1) = some z.2) (fun z => l.length - z.1) (0, 0) rfl ⟨Nat.zero_le _, rfl⟩ ⟨rfl, rfl, rfl, rfl, rfl, rfl, trivial⟩ (by (exact Ent.auto)) ?_
  rintro ⟨k, s⟩ ⟨hk, hs⟩
  dsimp only at hk hs ⊢
  by_cases hkl : k < l.length
  case neg =>
    obtain rfl : k = l.length := by omega
    rw [List.take_length] at hs
    repeat' first
      | ((with_reducible refine Nx.is_wp ?_); first | refine Nx.wo ?_ | refine Nx.zp (fun hc => ?_) (fun hc => ?_))
      | (refine Nx.zo ?_; first | refine Nx.opr rfl rfl ?_ | refine Nx.so ?_ | refine Nx.sb (fun bx => ?_) | refine Nx.sa (fun A2 c2 => ?_))
      | ((with_reducible refine Nx.is_at ?_); first | refine Nx.a ?_ | refine Nx.zd ?_ | refine Nx.zs (fun hc => ?_) (fun hc => ?_))
      | ((with_reducible refine Nx.is_mix ?_); first | refine Nx.m ?_ | refine Nx.zm ?_ | refine Nx.zt (fun hc => ?_) (fun hc => ?_))
      | refine Nx.zx ?_ | fail
    exact Nx.ret2 rfl (ROne.cell 0 rfl rfl rfl rfl rfl) (ROne.tmp rfl) [] ⟨s, by rw [hs]; rfl, (fun s' h => by rw [hs] at h; exact Option.some.inj h), rfl⟩ (by (exact Ent.auto))
  have hrd : ∀ (W : World) (R : List Res), Rds W I R ((ad A).add (k * 2)) (ratC (l.getD k default)) := fun W R => hl.rds hkl
  have hA := hl.isSome (by omega) (by omega)
  have hxb := hr _ (getD_memX hkl)
  have hsn := take_snocX hkl
  generalize l.getD k default = x at hrd hxb hsn
  have hsb := sumF_rb hs
  have hnx : Bl.sumF (l.take (k + 1)) = Bl.addO (some s) x := by rw [hsn, sumF_snoc, hs]
  have hM := rAdd_rat s x hsb hxb I
  obtain ⟨y, hy⟩ : ∃ y, y = s + x := ⟨_, rfl⟩
  unfold Bl.addO at hnx
  dsimp only at hnx
  rw [← hy] at hM hnx
  by_cases hb : RB y
  · rw [if_pos (show Bl.RBp y from hb)] at hnx
    rw [redV_pos hb] at hM
    repeat' first
      | ((with_reducible refine Nx.is_wp ?_); first | refine Nx.wo ?_ | refine Nx.zp (fun hc => ?_) (fun hc => ?_))
      | (refine Nx.zo ?_; first | refine Nx.opr rfl rfl ?_ | refine Nx.indexAddr_nat (A := A) (i := k) (sz := 2) rfl rfl rfl rfl rfl hkl hA ?_ | refine Nx.loads rfl rfl rfl rfl (hrd _ _) rfl ?_ | refine Nx.loads rfl rfl rfl rfl (Rds.cut 1 2 rfl rfl) rfl ?_ | refine Nx.callv rfl rfl rfl (by kernel_rfl) rfl hM ?_ | refine Nx.so ?_ | refine Nx.sb (fun bx => ?_) | refine Nx.sa (fun A2 c2 => ?_))
      | ((with_reducible refine Nx.is_at ?_); first | refine Nx.a ?_ | refine Nx.zd ?_ | refine Nx.zs (fun hc => ?_) (fun hc => ?_))
      | ((with_reducible refine Nx.is_mix ?_); first | refine Nx.m ?_ | refine Nx.zm ?_ | refine Nx.zt (fun hc => ?_) (fun hc => ?_))
      | refine Nx.zx ?_ | fail
    exact Nx.again (k + 1, y) ⟨hkl, hnx⟩ (by dsimp only; omega) ⟨rfl, rfl, rfl, rfl, rfl, rfl, trivial⟩ (by (exact Ent.auto))
  · rw [if_neg (show ¬ Bl.RBp y from hb)] at hnx
    rw [redV_neg hb] at hM
    have hno := sumF_cut hnx
    repeat' first
      | ((with_reducible refine Nx.is_wp ?_); first | refine Nx.wo ?_ | refine Nx.zp (fun hc => ?_) (fun hc => ?_))
      | (refine Nx.zo ?_; first | refine Nx.opr rfl rfl ?_ | refine Nx.indexAddr_nat (A := A) (i := k) (sz := 2) rfl rfl rfl rfl rfl hkl hA ?_ | refine Nx.loads rfl rfl rfl rfl (hrd _ _) rfl ?_ | refine Nx.loads rfl rfl rfl rfl (Rds.cut 1 2 rfl rfl) rfl ?_ | refine Nx.callv rfl rfl rfl (by kernel_rfl) rfl hM ?_ | refine Nx.loads rfl rfl rfl rfl (Rds.cut 2 2 rfl rfl) rfl ?_ | refine Nx.so ?_ | refine Nx.sb (fun bx => ?_) | refine Nx.sa (fun A2 c2 => ?_))
      | ((with_reducible refine Nx.is_at ?_); first | refine Nx.a ?_ | refine Nx.zd ?_ | refine Nx.zs (fun hc => ?_) (fun hc => ?_))
      | ((with_reducible refine Nx.is_mix ?_); first | refine Nx.m ?_ | refine Nx.zm ?_ | refine Nx.zt (fun hc => ?_) (fun hc => ?_))
      | refine Nx.zx ?_ | fail
    exact Nx.ret2 rfl (ROne.cell 0 rfl rfl rfl rfl rfl) (ROne.tmp rfl) [] ⟨s, by rw [hno]; rfl, (fun s' h => by rw [hno] at h; cases h), rfl⟩ (by (exact Ent.auto))
set_option maxRecDepth 10000 in
set_option maxHeartbeats 32000000 in
theorem rchk38 (w0 : World) (F : Res) (n : Nat) (A : Option Addr) (c : Nat) (l : List EqR) (cell : Int) (up : Bool) (b : Rat) (Ap : Option Addr) (pl cp : Nat) (Aw : Option Addr) (cw : Nat) (w : List Rat) (I : PH) (b5 : Nat) (hn : n ≤ 48) (hl9 : l.length ≤ 1152) (hl : Eqs I A c l) (hg : ∀ q ∈ l, GoodE n q) (hw : Rats I Aw cw w) (hwl : w.length = l.length) (hwr : ∀ y ∈ w, RB y) :
    Nx ⟨Tryz.prog, 245, w0⟩ [(0, .int .i64 (n : Int)), (1, .slice A l.length c), (5, .pointer (some ⟨b5, 0, none⟩))] I [Blk b5 27 (prC cell up b Ap pl cp Aw l.length cw), F]
      (Code.wp Tryz.prog (cr (cr (cr (cr (cr (cr (cr (cr (bodyOf Tryz.f15))))))))) (fnPost Tryz.prog Tryz.f15 I F w0 (fun v R' => v = .bool ((List.range n).all (exclB l w cell up)) ∧ R' = []))) := by
  have hlen := hl.len
  repeat' first
    | ((with_reducible refine Nx.is_wp ?_); first | refine Nx.wo ?_ | refine Nx.zp (fun hc => ?_) (fun hc => ?_))
    | (refine Nx.zo ?_; first | refine Nx.opr rfl rfl ?_ | refine Nx.so ?_ | refine Nx.sb (fun bx => ?_) | refine Nx.sa (fun A2 c2 => ?_))
    | ((with_reducible refine Nx.is_at ?_); first | refine Nx.a ?_ | refine Nx.zd ?_ | refine Nx.zs (fun hc => ?_) (fun hc => ?_))
    | ((with_reducible refine Nx.is_mix ?_); first | refine Nx.m ?_ | refine Nx.zm ?_ | refine Nx.zt (fun hc => ?_) (fun hc => ?_))
    | refine Nx.zx ?_ | fail
  refine Nx.p_loop (σ := Nat) (fun k => [(0, .int .i64 (n : Int)), (1, .slice A l.length c), (5, .pointer (some ⟨b5, 0, none⟩)), (23, .int .i64 (k : Int))])
    (fun _ => [Blk b5 27 (prC cell up b Ap pl cp Aw l.length cw), F]) (fun k => k ≤ n ∧ (List.range k).all (exclB l w cell up) = true) (fun k => n - k) 0 rfl ⟨Nat.zero_le _, rfl⟩ ⟨rfl, rfl, rfl, rfl, trivial⟩ (by (exact Ent.auto)) ?_
  rintro k ⟨hk, hok⟩
  by_cases hkn : k < n
  case neg =>
    obtain rfl : k = n := by omega
    repeat' first
      | ((with_reducible refine Nx.is_wp ?_); first | refine Nx.wo ?_ | refine Nx.zp (fun hc => ?_) (fun hc => ?_))
      | (refine Nx.zo ?_; first | refine Nx.opr rfl rfl ?_ | refine Nx.so ?_ | refine Nx.sb (fun bx => ?_) | refine Nx.sa (fun A2 c2 => ?_))
      | ((with_reducible refine Nx.is_at ?_); first | refine Nx.a ?_ | refine Nx.zd ?_ | refine Nx.zs (fun hc => ?_) (fun hc => ?_))
      | ((with_reducible refine Nx.is_mix ?_); first | refine Nx.m ?_ | refine Nx.zm ?_ | refine Nx.zt (fun hc => ?_) (fun hc => ?_))
      | refine Nx.zx ?_ | fail
    exact Nx.ret_fn rfl [] ⟨by rw [hok], rfl⟩ (by (exact Ent.auto))
  have hstop : exclB l w cell up k = false → (List.range n).all (exclB l w cell up) = false := fun h => all_no (List.mem_range.2 hkn) h
  have hnext : exclB l w cell up k = true → (List.range (k + 1)).all (exclB l w cell up) = true := fun h => by rw [List.range_succ, List.all_append, hok]; simpa using h
  repeat' first
    | ((with_reducible refine Nx.is_wp ?_); first | refine Nx.wo ?_ | refine Nx.zp (fun hc => ?_) (fun hc => ?_))
    | (refine Nx.zo ?_; first | refine Nx.opr rfl rfl ?_ | refine Nx.so ?_ | refine Nx.sb (fun bx => ?_) | refine Nx.sa (fun A2 c2 => ?_))
    | ((with_reducible refine Nx.is_at ?_); first | refine Nx.a ?_ | refine Nx.zd ?_ | refine Nx.zs (fun hc => ?_) (fun hc => ?_))
    | ((with_reducible refine Nx.is_mix ?_); first | refine Nx.m ?_ | refine Nx.zm ?_ | refine Nx.zt (fun hc => ?_) (fun hc => ?_))
    | refine Nx.zx ?_ | fail
  refine Nx.p_loop (σ := Nat × (Option Addr × Nat)) (fun z => [(0, .int .i64 (n : Int)), (1, .slice A l.length c), (5, .pointer (some ⟨b5, 0, none⟩)), (23, .int .i64 (k : Int)), (24, .slice z.2.1 (pickT l w k z.1).length z.2.2), (186, .slice A l.length c), (187, .int .i64 l.length), (188, .int .i64 (z.1 : Int))])
    (fun z => [Vec 24 2 z.2.1 (pickT l w k z.1).length z.2.2 ((pickT l w k z.1).flatMap ratC), Blk b5 27 (prC cell up b Ap pl cp Aw l.length cw), F]) (fun z => z.1 ≤ l.length) (fun z => l.length - z.1) (0, (none, 0)) rfl (Nat.zero_le _) ⟨rfl, rfl, rfl, rfl, rfl, rfl, rfl, rfl, trivial⟩ ((Ent.vec_nil 24 2 _).trans (by (exact Ent.auto))) ?_
  rintro ⟨i, ⟨At, ct⟩⟩ hil
  have hil : i ≤ l.length := hil
  dsimp only
  by_cases him : i < l.length
  · have hm := getD_memQ him
    have hgd := hg _ hm
    have hin := hl.inner _ hm
    have hrds : ∀ (W : World) (R : List Res), Rds W I R ((ad A).add (i * 2)) (eqC (l.getD i default)) := fun W R => hl.outer.rds him
    have hA := hl.outer.isSome (by omega) (by omega)
    have hiw : i < w.length := by omega
    have hrw : ∀ (W : World) (R : List Res), Rds W I R ((ad Aw).add (i * 2)) (ratC (w.getD i default)) := fun W R => hw.rds hiw
    have hAw := hw.isSome (by omega) (by omega)
    have hyes := pickT_yes (l := l) (w := w) (k := k) (i := i)
    have hno := pickT_no (l := l) (w := w) (k := k) (i := i)
    have hpl := pickT_len l w k i
    have hasc := hgd.asc
    generalize l.getD i default = q at hm hin hrds hyes hno hasc
    clear hgd
    obtain ⟨⟨Ax, cx, L⟩, vx⟩ := q
    dsimp only at hin hyes hno hasc
    have hLl := hin.len
    generalize w.getD i default = wi at hrw hyes
    generalize pickT l w k i = out at hpl hyes hno ⊢
    obtain ⟨outN, houtN⟩ : ∃ o, o = pickT l w k (i + 1) := ⟨_, rfl⟩
    rw [← houtN] at hyes hno
    repeat' first
      | ((with_reducible refine Nx.is_wp ?_); first | refine Nx.wo ?_ | refine Nx.zp (fun hc => ?_) (fun hc => ?_))
      | (refine Nx.zo ?_; first | refine Nx.opr rfl rfl ?_ | refine Nx.indexAddr_nat (A := A) (i := i) (sz := 2) rfl rfl rfl rfl rfl him hA ?_ | refine Nx.loads rfl rfl rfl rfl (hrds _ _) rfl ?_ | refine Nx.so ?_ | refine Nx.sb (fun bx => ?_) | refine Nx.sa (fun A2 c2 => ?_))
      | ((with_reducible refine Nx.is_at ?_); first | refine Nx.a ?_ | refine Nx.zd ?_ | refine Nx.zs (fun hc => ?_) (fun hc => ?_))
      | ((with_reducible refine Nx.is_mix ?_); first | refine Nx.m ?_ | refine Nx.zm ?_ | refine Nx.zt (fun hc => ?_) (fun hc => ?_))
      | refine Nx.zx ?_ | fail
    revert bx; intro b26
    refine Nx.p_loop (σ := Nat × List Rat × (Option Addr × Nat)) (fun z => [(0, .int .i64 (n : Int)), (1, .slice A l.length c), (5, .pointer (some ⟨b5, 0, none⟩)), (23, .int .i64 (k : Int)), (24, .slice z.2.2.1 z.2.1.length z.2.2.2), (25, .int .i64 (i : Int)), (186, .slice A l.length c), (187, .int .i64 l.length), (188, .int .i64 (i : Int)), (194, .slice Ax L.length cx), (195, .int .i64 L.length), (196, .int .i64 (z.1 : Int))])
      (fun z => [Vec 24 2 z.2.2.1 z.2.1.length z.2.2.2 (z.2.1.flatMap ratC), Blk b5 27 (prC cell up b Ap pl cp Aw l.length cw), F]) (fun z => z.1 ≤ L.length ∧ z.2.1 = if (k : Int) ∈ L.take z.1 then out ++ [wi] else out) (fun z => L.length - z.1) (0, out, (At, ct)) rfl ⟨Nat.zero_le _, by rw [List.take_zero, if_neg List.not_mem_nil]⟩ ⟨rfl, rfl, rfl, rfl, rfl, rfl, rfl, rfl, rfl, rfl, rfl, rfl, trivial⟩ (by (exact Ent.auto)) ?_
    rintro ⟨j, o, ⟨Ao, co⟩⟩ ⟨hj, ho⟩
    dsimp only at hj ho ⊢
    have hol : o.length ≤ i + 1 := by
      rw [ho]
      split
      · rw [List.length_append, List.length_singleton]; omega
      · omega
    by_cases hjL : j < L.length
    case neg =>
      obtain rfl : j = L.length := by omega
      rw [List.take_length] at ho
      have hoN : o = outN := by
        rw [ho]
        by_cases hmem : (k : Int) ∈ L
        · rw [if_pos hmem, hyes hmem]
        · rw [if_neg hmem, hno hmem]
      repeat' first
        | ((with_reducible refine Nx.is_wp ?_); first | refine Nx.wo ?_ | refine Nx.zp (fun hc => ?_) (fun hc => ?_))
        | (refine Nx.zo ?_; first | refine Nx.opr rfl rfl ?_ | refine Nx.so ?_ | refine Nx.sb (fun bx => ?_) | refine Nx.sa (fun A2 c2 => ?_))
        | ((with_reducible refine Nx.is_at ?_); first | refine Nx.a ?_ | refine Nx.zd ?_ | refine Nx.zs (fun hc => ?_) (fun hc => ?_))
        | ((with_reducible refine Nx.is_mix ?_); first | refine Nx.m ?_ | refine Nx.zm ?_ | refine Nx.zt (fun hc => ?_) (fun hc => ?_))
        | refine Nx.zx ?_ | fail
      exact Nx.again (i + 1, (Ao, co)) him (by dsimp only; omega) ⟨rfl, rfl, rfl, rfl, by dsimp only; rw [← houtN, ← hoN]; rfl, rfl, rfl, rfl, trivial⟩ (by dsimp only; rw [← houtN, ← hoN]; (exact Ent.auto))
    have hrd : ∀ (W : World) (R : List Res), Rd W I R ((ad Ax).add (j * 1)) (.int .i64 (L.getD j default)) := fun W R => hin.rd hjL
    have hAx := hin.isSome (by omega)
    have hts := take_snocJ hjL
    have hnew : L.getD j default ∉ L.take j := fun hm2 => by
      have h1 : L.Pairwise (· < ·) := hasc
      rw [← List.take_append_drop (j + 1) L, hts, List.append_assoc, List.singleton_append] at h1
      have := (List.pairwise_append.1 h1).2.2 _ hm2 _ List.mem_cons_self
      omega
    generalize L.getD j default = y at hrd hts hnew
    by_cases hy : y = (k : Int)
    · subst hy
      rw [if_neg hnew] at ho
      subst ho
      repeat' first
        | ((with_reducible refine Nx.is_wp ?_); first | refine Nx.wo ?_ | refine Nx.zp (fun hc => ?_) (fun hc => ?_))
        | (refine Nx.zo ?_; first | refine Nx.opr rfl rfl ?_ | refine Nx.indexAddr_nat (A := Ax) (i := j) (sz := 1) rfl rfl rfl rfl rfl hjL hAx ?_ | refine Nx.load rfl rfl rfl (hrd _ _) ?_ | refine Nx.indexAddr_nat (A := Aw) (i := i) (sz := 2) rfl rfl rfl rfl rfl him hAw ?_ | refine Nx.loads rfl rfl rfl rfl (hrw _ _) rfl ?_ | refine Nx.so ?_ | refine Nx.sb (fun bx => ?_) | refine Nx.sa (fun A2 c2 => ?_))
        | ((with_reducible refine Nx.is_at ?_); first | refine Nx.a ?_ | refine Nx.zd ?_ | refine Nx.zs (fun hc => ?_) (fun hc => ?_))
        | ((with_reducible refine Nx.is_mix ?_); first | refine Nx.m ?_ | refine Nx.zm ?_ | refine Nx.zt (fun hc => ?_) (fun hc => ?_))
        | refine Nx.zx ?_ | fail
      all_goals first
        | exact absurd rfl (by assumption)
        | exact Nx.again (j + 1, o ++ [wi], (A2, c2)) ⟨hjL, by dsimp only; rw [hts, if_pos (by simp)]⟩ (by dsimp only; omega) ⟨rfl, rfl, rfl, rfl, by dsimp only; rw [List.length_append]; rfl, rfl, rfl, rfl, rfl, rfl, rfl, rfl, trivial⟩ (by dsimp only; rw [flat_snoc, List.length_append]; (exact Ent.auto))
    · repeat' first
        | ((with_reducible refine Nx.is_wp ?_); first | refine Nx.wo ?_ | refine Nx.zp (fun hc => ?_) (fun hc => ?_))
        | (refine Nx.zo ?_; first | refine Nx.opr rfl rfl ?_ | refine Nx.indexAddr_nat (A := Ax) (i := j) (sz := 1) rfl rfl rfl rfl rfl hjL hAx ?_ | refine Nx.load rfl rfl rfl (hrd _ _) ?_ | refine Nx.so ?_ | refine Nx.sb (fun bx => ?_) | refine Nx.sa (fun A2 c2 => ?_))
        | ((with_reducible refine Nx.is_at ?_); first | refine Nx.a ?_ | refine Nx.zd ?_ | refine Nx.zs (fun hc => ?_) (fun hc => ?_))
        | ((with_reducible refine Nx.is_mix ?_); first | refine Nx.m ?_ | refine Nx.zm ?_ | refine Nx.zt (fun hc => ?_) (fun hc => ?_))
        | refine Nx.zx ?_ | fail
      all_goals first
        | exact absurd (by assumption) hy
        | exact Nx.again (j + 1, o, (Ao, co)) ⟨hjL, by
            dsimp only
            rw [ho, hts]
            by_cases hm3 : (k : Int) ∈ L.take j
            · rw [if_pos hm3, if_pos (by simp [hm3])]
            · rw [if_neg hm3, if_neg (by simp [hm3]; exact fun h => hy h.symm)]⟩ (by dsimp only; omega) ⟨rfl, rfl, rfl, rfl, rfl, rfl, rfl, rfl, rfl, rfl, rfl, rfl, trivial⟩ (by (exact Ent.auto))
  obtain rfl : i = l.length := by omega
  have hrb : ∀ y ∈ pickT l w k l.length, RB y := fun y hy => by
    obtain ⟨j, hj, rfl⟩ := List.mem_map.1 hy
    have := List.mem_range.1 (List.mem_filter.1 hj).1
    exact hwr _ (getD_memX (by omega))
  refine Nx.freezeAt 0 rfl fun I2 m2 hI2 hm2 hf2 => ?_
  have hfz : Rats I2 At ct (pickT l w k l.length) := Vec.sliceN (t := 24) hm2 hf2 fun _ _ => rfl
  have hS := rsumF_spec At ct _ I2 hfz hrb
  have hpl := hfz.len
  have hex : exclB l w cell up k = (match Bl.sumF (pickT l w k l.length) with | none => false | some s => if up then !decide (s < wantF cell k) else !decide (wantF cell k < s)) := rfl
  rw [hex] at hstop hnext
  have hW0 := rwhole_spec 0 I2
  have hW1 := rwhole_spec 1 I2
  generalize (pickT l w k l.length).length = pn at hS hpl ⊢
  cases hs : Bl.sumF (pickT l w k l.length) with
  | none =>
    have hS' : FnSpec Tryz.prog 51 [.slice At pn ct] I2 [] (fun v R' => (∃ r1 r2 : Int, v = .tuple #[.agg #[.int .i64 r1, .int .i64 r2], .bool false]) ∧ R' = []) := FnSpec.mono hS fun v R' h => by
      obtain ⟨r, h1, _, h3⟩ := h
      rw [hs] at h1
      exact ⟨⟨_, _, h1⟩, h3⟩
    rw [hs] at hstop
    by_cases hkc : (k : Int) = cell
    all_goals
      repeat' first
        | ((with_reducible refine Nx.is_wp ?_); first | refine Nx.wo ?_ | refine Nx.zp (fun hc => ?_) (fun hc => ?_))
        | (refine Nx.zo ?_; first | refine Nx.opr rfl rfl ?_ | (refine Nx.call rfl rfl rfl (by kernel_rfl) rfl hS' (by (exact Ent.auto)) ?_; rintro _ _ ⟨⟨r1, r2, rfl⟩, rfl⟩) | refine Nx.callv rfl rfl rfl (by kernel_rfl) rfl hW0 ?_ | refine Nx.callv rfl rfl rfl (by kernel_rfl) rfl hW1 ?_ | refine Nx.so ?_ | refine Nx.sb (fun bx => ?_) | refine Nx.sa (fun A2 c2 => ?_))
        | ((with_reducible refine Nx.is_at ?_); first | refine Nx.a ?_ | refine Nx.zd ?_ | refine Nx.zs (fun hc => ?_) (fun hc => ?_))
        | ((with_reducible refine Nx.is_mix ?_); first | refine Nx.m ?_ | refine Nx.zm ?_ | refine Nx.zt (fun hc => ?_) (fun hc => ?_))
        | refine Nx.zx ?_ | fail
      exact Nx.imm_le hI2 (Nx.ret_fn rfl [] ⟨by rw [hstop rfl], rfl⟩ (by (exact Ent.auto)))
  | some s =>
    have hS' : FnSpec Tryz.prog 51 [.slice At pn ct] I2 [] (fun v R' => v = .tuple #[.agg #[.int .i64 s.num, .int .i64 s.den], .bool true] ∧ R' = []) := FnSpec.mono hS fun v R' h => by
      obtain ⟨r, h1, h2, h3⟩ := h
      rw [hs] at h1
      obtain rfl := h2 s hs
      exact ⟨h1, h3⟩
    rw [hs] at hstop hnext
    have hsb := sumF_rb hs
    dsimp only at hstop hnext
    have hWr : RB (wantF cell k) := by
      unfold wantF
      split
      · exact ⟨by decide, by decide⟩
      · exact ⟨by decide, by decide⟩
    have hL1 := rLess_rat s (wantF cell k) hsb hWr I2
    have hL2 := rLess_rat (wantF cell k) s hWr hsb I2
    have hwv : ratV (wantF cell k) = ratV ((if (k : Int) = cell then 1 else 0 : Int) : Rat) := by
      unfold wantF
      split <;> rfl
    rw [hwv] at hL1 hL2
    generalize hd1 : decide (s < wantF cell k) = d1 at hL1 hstop hnext
    generalize hd2 : decide (wantF cell k < s) = d2 at hL2 hstop hnext
    clear hwv hex hS
    by_cases hkc : (k : Int) = cell
    · rw [if_pos hkc] at hL1 hL2
      cases up
      · cases d2
        · repeat' first
            | ((with_reducible refine Nx.is_wp ?_); first | refine Nx.wo ?_ | refine Nx.zp (fun hc => ?_) (fun hc => ?_))
            | (refine Nx.zo ?_; first | refine Nx.opr rfl rfl ?_ | refine Nx.callv rfl rfl rfl (by kernel_rfl) rfl hS' ?_ | refine Nx.callv rfl rfl rfl (by kernel_rfl) rfl hW0 ?_ | refine Nx.callv rfl rfl rfl (by kernel_rfl) rfl hW1 ?_ | refine Nx.callv rfl rfl rfl (by kernel_rfl) rfl hL2 ?_ | refine Nx.so ?_ | refine Nx.sb (fun bx => ?_) | refine Nx.sa (fun A2 c2 => ?_))
            | ((with_reducible refine Nx.is_at ?_); first | refine Nx.a ?_ | refine Nx.zd ?_ | refine Nx.zs (fun hc => ?_) (fun hc => ?_))
            | ((with_reducible refine Nx.is_mix ?_); first | refine Nx.m ?_ | refine Nx.zm ?_ | refine Nx.zt (fun hc => ?_) (fun hc => ?_))
            | refine Nx.zx ?_ | fail
          exact Nx.imm_le hI2 (Nx.again (k + 1) ⟨hkn, hnext rfl⟩ (by omega) ⟨rfl, rfl, rfl, rfl, trivial⟩ (by (exact Ent.auto)))
        · repeat' first
            | ((with_reducible refine Nx.is_wp ?_); first | refine Nx.wo ?_ | refine Nx.zp (fun hc => ?_) (fun hc => ?_))
            | (refine Nx.zo ?_; first | refine Nx.opr rfl rfl ?_ | refine Nx.callv rfl rfl rfl (by kernel_rfl) rfl hS' ?_ | refine Nx.callv rfl rfl rfl (by kernel_rfl) rfl hW0 ?_ | refine Nx.callv rfl rfl rfl (by kernel_rfl) rfl hW1 ?_ | refine Nx.callv rfl rfl rfl (by kernel_rfl) rfl hL2 ?_ | refine Nx.so ?_ | refine Nx.sb (fun bx => ?_) | refine Nx.sa (fun A2 c2 => ?_))
            | ((with_reducible refine Nx.is_at ?_); first | refine Nx.a ?_ | refine Nx.zd ?_ | refine Nx.zs (fun hc => ?_) (fun hc => ?_))
            | ((with_reducible refine Nx.is_mix ?_); first | refine Nx.m ?_ | refine Nx.zm ?_ | refine Nx.zt (fun hc => ?_) (fun hc => ?_))
            | refine Nx.zx ?_ | fail
          exact Nx.imm_le hI2 (Nx.ret_fn rfl [] ⟨by rw [hstop rfl], rfl⟩ (by (exact Ent.auto)))
      · cases d1
        · repeat' first
            | ((with_reducible refine Nx.is_wp ?_); first | refine Nx.wo ?_ | refine Nx.zp (fun hc => ?_) (fun hc => ?_))
            | (refine Nx.zo ?_; first | refine Nx.opr rfl rfl ?_ | refine Nx.callv rfl rfl rfl (by kernel_rfl) rfl hS' ?_ | refine Nx.callv rfl rfl rfl (by kernel_rfl) rfl hW0 ?_ | refine Nx.callv rfl rfl rfl (by kernel_rfl) rfl hW1 ?_ | refine Nx.callv rfl rfl rfl (by kernel_rfl) rfl hL1 ?_ | refine Nx.so ?_ | refine Nx.sb (fun bx => ?_) | refine Nx.sa (fun A2 c2 => ?_))
            | ((with_reducible refine Nx.is_at ?_); first | refine Nx.a ?_ | refine Nx.zd ?_ | refine Nx.zs (fun hc => ?_) (fun hc => ?_))
            | ((with_reducible refine Nx.is_mix ?_); first | refine Nx.m ?_ | refine Nx.zm ?_ | refine Nx.zt (fun hc => ?_) (fun hc => ?_))
            | refine Nx.zx ?_ | fail
          exact Nx.imm_le hI2 (Nx.again (k + 1) ⟨hkn, hnext rfl⟩ (by omega) ⟨rfl, rfl, rfl, rfl, trivial⟩ (by (exact Ent.auto)))
        · repeat' first
            | ((with_reducible refine Nx.is_wp ?_); first | refine Nx.wo ?_ | refine Nx.zp (fun hc => ?_) (fun hc => ?_))
            | (refine Nx.zo ?_; first | refine Nx.opr rfl rfl ?_ | refine Nx.callv rfl rfl rfl (by kernel_rfl) rfl hS' ?_ | refine Nx.callv rfl rfl rfl (by kernel_rfl) rfl hW0 ?_ | refine Nx.callv rfl rfl rfl (by kernel_rfl) rfl hW1 ?_ | refine Nx.callv rfl rfl rfl (by kernel_rfl) rfl hL1 ?_ | refine Nx.so ?_ | refine Nx.sb (fun bx => ?_) | refine Nx.sa (fun A2 c2 => ?_))
            | ((with_reducible refine Nx.is_at ?_); first | refine Nx.a ?_ | refine Nx.zd ?_ | refine Nx.zs (fun hc => ?_) (fun hc => ?_))
            | ((with_reducible refine Nx.is_mix ?_); first | refine Nx.m ?_ | refine Nx.zm ?_ | refine Nx.zt (fun hc => ?_) (fun hc => ?_))
            | refine Nx.zx ?_ | fail
          exact Nx.imm_le hI2 (Nx.ret_fn rfl [] ⟨by rw [hstop rfl], rfl⟩ (by (exact Ent.auto)))
    · rw [if_neg hkc] at hL1 hL2
      cases up
      · cases d2
        · repeat' first
            | ((with_reducible refine Nx.is_wp ?_); first | refine Nx.wo ?_ | refine Nx.zp (fun hc => ?_) (fun hc => ?_))
            | (refine Nx.zo ?_; first | refine Nx.opr rfl rfl ?_ | refine Nx.callv rfl rfl rfl (by kernel_rfl) rfl hS' ?_ | refine Nx.callv rfl rfl rfl (by kernel_rfl) rfl hW0 ?_ | refine Nx.callv rfl rfl rfl (by kernel_rfl) rfl hL2 ?_ | refine Nx.so ?_ | refine Nx.sb (fun bx => ?_) | refine Nx.sa (fun A2 c2 => ?_))
            | ((with_reducible refine Nx.is_at ?_); first | refine Nx.a ?_ | refine Nx.zd ?_ | refine Nx.zs (fun hc => ?_) (fun hc => ?_))
            | ((with_reducible refine Nx.is_mix ?_); first | refine Nx.m ?_ | refine Nx.zm ?_ | refine Nx.zt (fun hc => ?_) (fun hc => ?_))
            | refine Nx.zx ?_ | fail
          exact Nx.imm_le hI2 (Nx.again (k + 1) ⟨hkn, hnext rfl⟩ (by omega) ⟨rfl, rfl, rfl, rfl, trivial⟩ (by (exact Ent.auto)))
        · repeat' first
            | ((with_reducible refine Nx.is_wp ?_); first | refine Nx.wo ?_ | refine Nx.zp (fun hc => ?_) (fun hc => ?_))
            | (refine Nx.zo ?_; first | refine Nx.opr rfl rfl ?_ | refine Nx.callv rfl rfl rfl (by kernel_rfl) rfl hS' ?_ | refine Nx.callv rfl rfl rfl (by kernel_rfl) rfl hW0 ?_ | refine Nx.callv rfl rfl rfl (by kernel_rfl) rfl hL2 ?_ | refine Nx.so ?_ | refine Nx.sb (fun bx => ?_) | refine Nx.sa (fun A2 c2 => ?_))
            | ((with_reducible refine Nx.is_at ?_); first | refine Nx.a ?_ | refine Nx.zd ?_ | refine Nx.zs (fun hc => ?_) (fun hc => ?_))
            | ((with_reducible refine Nx.is_mix ?_); first | refine Nx.m ?_ | refine Nx.zm ?_ | refine Nx.zt (fun hc => ?_) (fun hc => ?_))
            | refine Nx.zx ?_ | fail
          exact Nx.imm_le hI2 (Nx.ret_fn rfl [] ⟨by rw [hstop rfl], rfl⟩ (by (exact Ent.auto)))
      · cases d1
        · repeat' first
            | ((with_reducible refine Nx.is_wp ?_); first | refine Nx.wo ?_ | refine Nx.zp (fun hc => ?_) (fun hc => ?_))
            | (refine Nx.zo ?_; first | refine Nx.opr rfl rfl ?_ | refine Nx.callv rfl rfl rfl (by kernel_rfl) rfl hS' ?_ | refine Nx.callv rfl rfl rfl (by kernel_rfl) rfl hW0 ?_ | refine Nx.callv rfl rfl rfl (by kernel_rfl) rfl hL1 ?_ | refine Nx.so ?_ | refine Nx.sb (fun bx => ?_) | refine Nx.sa (fun A2 c2 => ?_))
            | ((with_reducible refine Nx.is_at ?_); first | refine Nx.a ?_ | refine Nx.zd ?_ | refine Nx.zs (fun hc => ?_) (fun hc => ?_))
            | ((with_reducible refine Nx.is_mix ?_); first | refine Nx.m ?_ | refine Nx.zm ?_ | refine Nx.zt (fun hc => ?_) (fun hc => ?_))
            | refine Nx.zx ?_ | fail
          exact Nx.imm_le hI2 (Nx.again (k + 1) ⟨hkn, hnext rfl⟩ (by omega) ⟨rfl, rfl, rfl, rfl, trivial⟩ (by (exact Ent.auto)))
        · repeat' first
            | ((with_reducible refine Nx.is_wp ?_); first | refine Nx.wo ?_ | refine Nx.zp (fun hc => ?_) (fun hc => ?_))
            | (refine Nx.zo ?_; first | refine Nx.opr rfl rfl ?_ | refine Nx.callv rfl rfl rfl (by kernel_rfl) rfl hS' ?_ | refine Nx.callv rfl rfl rfl (by kernel_rfl) rfl hW0 ?_ | refine Nx.callv rfl rfl rfl (by kernel_rfl) rfl hL1 ?_ | refine Nx.so ?_ | refine Nx.sb (fun bx => ?_) | refine Nx.sa (fun A2 c2 => ?_))
            | ((with_reducible refine Nx.is_at ?_); first | refine Nx.a ?_ | refine Nx.zd ?_ | refine Nx.zs (fun hc => ?_) (fun hc => ?_))
            | ((with_reducible refine Nx.is_mix ?_); first | refine Nx.m ?_ | refine Nx.zm ?_ | refine Nx.zt (fun hc => ?_) (fun hc => ?_))
            | refine Nx.zx ?_ | fail
          exact Nx.imm_le hI2 (Nx.ret_fn rfl [] ⟨by rw [hstop rfl], rfl⟩ (by (exact Ent.auto)))
end Go.Proofs.YtpcnapidlhpbkaaGreatDoor
/- Contracts of functions of the given program, and lemmas about plain lists and numbers: what the laws of this seat lean on. -/
namespace Go.Proofs.YtpcnapidlhpbkaaGreatDoor
open Go.Eng Go.Sol
attribute [local irreducible] opK wpList Code.wp Exit.then Exit.inBlock fnPost bodyPost Nx Calls Oper.wp Rd Rds Wr Ent Stars Blk Again Vec FnSpec wpMix QRun Stop Upto wpAt
/-! The middle of the reference's check -/
set_option maxRecDepth 10000 in
set_option maxHeartbeats 32000000 in
theorem rchk17 (w0 : World) (F : Res) (n : Nat) (A : Option Addr) (c : Nat) (l : List EqR) (cell : Int) (up : Bool) (b : Rat) (Ap : Option Addr) (cp : Nat) (X : List Rat) (Aw : Option Addr) (cw : Nat) (w : List Rat) (I : PH) (b5 : Nat) (hn : n ≤ 48) (hl9 : l.length ≤ 1152) (hl : Eqs I A c l) (hg : ∀ q ∈ l, GoodE n q) (hpx : Rats I Ap cp X) (hpn : X.length = n) (hX : ∀ y ∈ X, RB y) (hw : Rats I Aw cw w) (hwl : w.length = l.length) (hwr : ∀ y ∈ w, RB y) :
    Nx ⟨Tryz.prog, 245, w0⟩ [(0, .int .i64 (n : Int)), (1, .slice A l.length c), (5, .pointer (some ⟨b5, 0, none⟩))] I [Blk b5 27 (prC cell up b Ap X.length cp Aw l.length cw), F]
      (Code.wp Tryz.prog (cr (cr (cr (cr (cr (bodyOf Tryz.f15)))))) (fnPost Tryz.prog Tryz.f15 I F w0 (fun v R' => v = .bool (l.all (eqnB X) && weighB l w b && (List.range n).all (exclB l w cell up)) ∧ R' = []))) := by
  have hlen := hl.len
  repeat' first
    | ((with_reducible refine Nx.is_wp ?_); first | refine Nx.wo ?_ | refine Nx.zp (fun hc => ?_) (fun hc => ?_))
    | (refine Nx.zo ?_; first | refine Nx.opr rfl rfl ?_ | refine Nx.so ?_ | refine Nx.sb (fun bx => ?_) | refine Nx.sa (fun A2 c2 => ?_))
    | ((with_reducible refine Nx.is_at ?_); first | refine Nx.a ?_ | refine Nx.zd ?_ | refine Nx.zs (fun hc => ?_) (fun hc => ?_))
    | ((with_reducible refine Nx.is_mix ?_); first | refine Nx.m ?_ | refine Nx.zm ?_ | refine Nx.zt (fun hc => ?_) (fun hc => ?_))
    | refine Nx.zx ?_ | fail
  refine Nx.p_loop (σ := Nat × (Option Addr × Nat)) (fun z => [(0, .int .i64 (n : Int)), (1, .slice A l.length c), (5, .pointer (some ⟨b5, 0, none⟩)), (11, .slice z.2.1 z.1 z.2.2), (112, .slice A l.length c), (113, .int .i64 l.length), (114, .int .i64 (z.1 : Int))])
    (fun z => [Vec 24 2 z.2.1 z.1 z.2.2 (((mulL l w).take z.1).flatMap ratC), Blk b5 27 (prC cell up b Ap X.length cp Aw l.length cw), F]) (fun z => z.1 ≤ l.length ∧ (l.take z.1).all (eqnB X) = true ∧ ∀ y ∈ (mulL l w).take z.1, RB y) (fun z => l.length - z.1) (0, (none, 0)) rfl ⟨Nat.zero_le _, by rw [List.take_zero]; rfl, fun y hy => by rw [List.take_zero] at hy; cases hy⟩ ⟨rfl, rfl, rfl, rfl, rfl, rfl, rfl, trivial⟩ ((Ent.vec_nil 24 2 _).trans (by (exact Ent.auto))) ?_
  rintro ⟨i, ⟨At, ct⟩⟩ ⟨hil, hok, hrb⟩
  dsimp only at hil hok hrb ⊢
  by_cases him : i < l.length
  case neg =>
    obtain rfl : i = l.length := by omega
    rw [List.take_length] at hok
    have hml := mulL_len l w
    have htk : (mulL l w).take l.length = mulL l w := by rw [← hml, List.take_length]
    rw [htk] at hrb ⊢
    rw [hok, Bool.true_and]
    refine Nx.freezeAt 0 rfl fun I2 m2 hI2 hm2 hf2 => ?_
    have hfz : Rats I2 At ct (mulL l w) := Vec.sliceN (t := 24) hm2 (by rw [hml]; exact hf2) fun _ _ => rfl
    have hS := rsumF_spec At ct _ I2 hfz hrb
    rw [hml] at hS
    have hall : (mulL l w).all (fun x => decide (RB x)) = true := List.all_eq_true.2 fun y hy => decide_eq_true (hrb y hy)
    have hwB : weighB l w b = decide (Bl.sumF (mulL l w) = some b) := by unfold weighB; rw [hall, Bool.true_and]
    rw [hwB]
    cases hs : Bl.sumF (mulL l w) with
    | none =>
      have hS' : FnSpec Tryz.prog 51 [.slice At l.length ct] I2 [] (fun v R' => (∃ r1 r2 : Int, v = .tuple #[.agg #[.int .i64 r1, .int .i64 r2], .bool false]) ∧ R' = []) := FnSpec.mono hS fun v R' h => by
        obtain ⟨r, h1, _, h3⟩ := h
        rw [hs] at h1
        exact ⟨⟨_, _, h1⟩, h3⟩
      repeat' first
        | ((with_reducible refine Nx.is_wp ?_); first | refine Nx.wo ?_ | refine Nx.zp (fun hc => ?_) (fun hc => ?_))
        | (refine Nx.zo ?_; first | refine Nx.opr rfl rfl ?_ | (refine Nx.call rfl rfl rfl (by kernel_rfl) rfl hS' (by (exact Ent.auto)) ?_; rintro _ _ ⟨⟨r1, r2, rfl⟩, rfl⟩) | refine Nx.so ?_ | refine Nx.sb (fun bx => ?_) | refine Nx.sa (fun A2 c2 => ?_))
        | ((with_reducible refine Nx.is_at ?_); first | refine Nx.a ?_ | refine Nx.zd ?_ | refine Nx.zs (fun hc => ?_) (fun hc => ?_))
        | ((with_reducible refine Nx.is_mix ?_); first | refine Nx.m ?_ | refine Nx.zm ?_ | refine Nx.zt (fun hc => ?_) (fun hc => ?_))
        | refine Nx.zx ?_ | fail
      exact Nx.imm_le hI2 (Nx.ret_fn rfl [] ⟨rfl, rfl⟩ (by (exact Ent.auto)))
    | some s =>
      have hS' : FnSpec Tryz.prog 51 [.slice At l.length ct] I2 [] (fun v R' => v = .tuple #[.agg #[.int .i64 s.num, .int .i64 s.den], .bool true] ∧ R' = []) := FnSpec.mono hS fun v R' h => by
        obtain ⟨r, h1, h2, h3⟩ := h
        rw [hs] at h1
        obtain rfl := h2 s hs
        exact ⟨h1, h3⟩
      by_cases hsv : s = b
      · have hE := fun {x y : Operand} (w : World) => neq_fracK (x := x) (y := y) s.num s.den b.num b.den false (decide_eq_false fun hh => hh (rat_eq_iff.2 hsv)) w
        rw [decide_eq_true (by rw [hsv]), Bool.true_and]
        repeat' first
          | ((with_reducible refine Nx.is_wp ?_); first | refine Nx.p_stops 38 rfl ?_ | refine Nx.wo ?_ | refine Nx.zp (fun hc => ?_) (fun hc => ?_))
          | (refine Nx.zo ?_; first | refine Nx.opr rfl rfl ?_ | refine Nx.callv rfl rfl rfl (by kernel_rfl) rfl hS' ?_ | refine Nx.loads rfl rfl rfl rfl (Rds.cut 1 2 rfl rfl) rfl ?_ | refine Nx.binr rfl rfl hE rfl ?_ | refine Nx.so ?_ | refine Nx.sb (fun bx => ?_) | refine Nx.sa (fun A2 c2 => ?_))
          | ((with_reducible refine Nx.is_at ?_); first | refine Nx.a ?_ | refine Nx.zd ?_ | refine Nx.zs (fun hc => ?_) (fun hc => ?_))
          | ((with_reducible refine Nx.is_mix ?_); first | refine Nx.m ?_ | refine Nx.zm ?_ | refine Nx.zt (fun hc => ?_) (fun hc => ?_))
          | refine Nx.zx ?_ | fail
        refine Nx.unstop ?_
        exact Nx.imm_le hI2 (Nx.weak (by exact ⟨rfl, rfl, rfl, trivial⟩) (by (exact Ent.auto)) (rchk38 w0 F n A c l cell up b Ap X.length cp Aw cw w I b5 hn hl9 hl hg hw hwl hwr))
      · have hE := fun {x y : Operand} (w : World) => neq_fracK (x := x) (y := y) s.num s.den b.num b.den true (decide_eq_true fun hh => hsv (rat_eq_iff.1 hh)) w
        rw [decide_eq_false fun hh => hsv (Option.some.inj hh), Bool.false_and]
        repeat' first
          | ((with_reducible refine Nx.is_wp ?_); first | refine Nx.wo ?_ | refine Nx.zp (fun hc => ?_) (fun hc => ?_))
          | (refine Nx.zo ?_; first | refine Nx.opr rfl rfl ?_ | refine Nx.callv rfl rfl rfl (by kernel_rfl) rfl hS' ?_ | refine Nx.loads rfl rfl rfl rfl (Rds.cut 1 2 rfl rfl) rfl ?_ | refine Nx.binr rfl rfl hE rfl ?_ | refine Nx.so ?_ | refine Nx.sb (fun bx => ?_) | refine Nx.sa (fun A2 c2 => ?_))
          | ((with_reducible refine Nx.is_at ?_); first | refine Nx.a ?_ | refine Nx.zd ?_ | refine Nx.zs (fun hc => ?_) (fun hc => ?_))
          | ((with_reducible refine Nx.is_mix ?_); first | refine Nx.m ?_ | refine Nx.zm ?_ | refine Nx.zt (fun hc => ?_) (fun hc => ?_))
          | refine Nx.zx ?_ | fail
        exact Nx.imm_le hI2 (Nx.ret_fn rfl [] ⟨rfl, rfl⟩ (by (exact Ent.auto)))
  have hm := getD_memQ him
  have hgood := hg _ hm
  have hin := hl.inner _ hm
  have hrds : ∀ (W : World) (R : List Res), Rds W I R ((ad A).add (i * 2)) (eqC (l.getD i default)) := fun W R => hl.outer.rds him
  have hA := hl.outer.isSome (by omega) (by omega)
  have hnext : eqnB X (l.getD i default) = true → (l.take (i + 1)).all (eqnB X) = true := fun h => by rw [take_snocQ him, List.all_append, hok]; simpa using h
  have hstop : eqnB X (l.getD i default) = false → l.all (eqnB X) = false := fun h => all_no hm h
  have hiw : i < w.length := by omega
  have hrw : ∀ (W : World) (R : List Res), Rds W I R ((ad Aw).add (i * 2)) (ratC (w.getD i default)) := fun W R => hw.rds hiw
  have hAw := hw.isSome (by omega) (by omega)
  have hwb := hwr _ (getD_memX hiw)
  have hts0 := take_snocX (l := mulL l w) (k := i) (by rw [mulL_len]; exact him)
  have hmem0 := getD_memX (l := mulL l w) (k := i) (by rw [mulL_len]; exact him)
  have hat := mulL_at (w := w) him
  have hbad : ¬ RB ((mulL l w).getD i default) → weighB l w b = false := fun h => by
    unfold weighB
    rw [all_no hmem0 (decide_eq_false h), Bool.false_and]
  generalize l.getD i default = q at hm hgood hin hrds hnext hstop hat
  have hlt := hgood.lt
  have hqv := hgood.val
  have hLn := asc_len (a := 0) (n := n) hgood.asc fun y hy => by have := hlt y hy; omega
  have heq : eqnB X q = decide (Bl.sumF (termL X q.1.2.2 q.1.2.2.length) = some (q.2 : Rat)) := by unfold eqnB termL; rw [List.take_length]
  rw [heq] at hnext hstop
  clear hgood heq hmem0
  obtain ⟨⟨Ax, cx, L⟩, vx⟩ := q
  dsimp only at hin hlt hqv hnext hstop hLn hat
  have hLl := hin.len
  obtain ⟨wi, hwi2⟩ : ∃ wi, w.getD i default = wi := ⟨_, rfl⟩
  rw [hwi2] at hrw hwb hat
  generalize (mulL l w).getD i default = tm at hts0 hat hbad
  repeat' first
    | ((with_reducible refine Nx.is_wp ?_); first | refine Nx.wo ?_ | refine Nx.zp (fun hc => ?_) (fun hc => ?_))
    | (refine Nx.zo ?_; first | refine Nx.opr rfl rfl ?_ | refine Nx.indexAddr_nat (A := A) (i := i) (sz := 2) rfl rfl rfl rfl rfl him hA ?_ | refine Nx.loads rfl rfl rfl rfl (hrds _ _) rfl ?_ | refine Nx.so ?_ | refine Nx.sb (fun bx => ?_) | refine Nx.sa (fun A2 c2 => ?_))
    | ((with_reducible refine Nx.is_at ?_); first | refine Nx.a ?_ | refine Nx.zd ?_ | refine Nx.zs (fun hc => ?_) (fun hc => ?_))
    | ((with_reducible refine Nx.is_mix ?_); first | refine Nx.m ?_ | refine Nx.zm ?_ | refine Nx.zt (fun hc => ?_) (fun hc => ?_))
    | refine Nx.zx ?_ | fail
  revert bx; intro b13
  refine Nx.p_loop (σ := Nat × (Option Addr × Nat)) (fun z => [(0, .int .i64 (n : Int)), (1, .slice A l.length c), (5, .pointer (some ⟨b5, 0, none⟩)), (11, .slice At i ct), (12, .int .i64 (i : Int)), (13, .pointer (some ⟨b13, 0, none⟩)), (14, .slice z.2.1 z.1 z.2.2), (112, .slice A l.length c), (113, .int .i64 l.length), (114, .int .i64 (i : Int)), (120, .slice Ax L.length cx), (121, .int .i64 (L.length : Int)), (122, .int .i64 (z.1 : Int))])
    (fun z => [Vec 24 2 z.2.1 z.1 z.2.2 ((termL X L z.1).flatMap ratC), Vec 24 2 At i ct (((mulL l w).take i).flatMap ratC), Blk b13 46 [.slice Ax L.length cx, .int .i64 vx], Blk b5 27 (prC cell up b Ap X.length cp Aw l.length cw), F]) (fun z => z.1 ≤ L.length) (fun z => L.length - z.1) (0, (none, 0)) rfl (Nat.zero_le _) ⟨rfl, rfl, rfl, rfl, rfl, rfl, rfl, rfl, rfl, rfl, rfl, rfl, rfl, trivial⟩ ((Ent.vec_nil 24 2 _).trans (by (exact Ent.auto))) ?_
  rintro ⟨j, ⟨Ao, co⟩⟩ hj
  have hj : j ≤ L.length := hj
  dsimp only
  by_cases hjL : j < L.length
  · have hrd : ∀ (W : World) (R : List Res), Rd W I R ((ad Ax).add (j * 1)) (.int .i64 (L.getD j default)) := fun W R => hin.rd hjL
    have hcb := hlt (L.getD j default) (by rw [List.getD_eq_getElem?_getD, List.getElem?_eq_getElem hjL]; exact List.getElem_mem _)
    obtain ⟨cN, hcN⟩ : ∃ cN : Nat, L.getD j default = (cN : Int) := ⟨(L.getD j default).toNat, by omega⟩
    have hts := termL_succ (x := X) hjL
    rw [hcN] at hrd hcb hts
    rw [Int.toNat_natCast] at hts
    have hcX : cN < X.length := by omega
    have hrx : ∀ (W : World) (R : List Res), Rds W I R ((ad Ap).add (cN * 2)) (ratC (X.getD cN default)) := fun W R => hpx.rds hcX
    have hAp := hpx.isSome (by omega) (by omega)
    have hAx := hin.isSome (by omega)
    generalize X.getD cN default = y at hts hrx
    repeat' first
      | ((with_reducible refine Nx.is_wp ?_); first | refine Nx.wo ?_ | refine Nx.zp (fun hc => ?_) (fun hc => ?_))
      | (refine Nx.zo ?_; first | refine Nx.opr rfl rfl ?_ | refine Nx.indexAddr_nat (A := Ax) (i := j) (sz := 1) rfl rfl rfl rfl rfl hjL hAx ?_ | refine Nx.load rfl rfl rfl (hrd _ _) ?_ | refine Nx.indexAddr_nat (A := Ap) (i := cN) (sz := 2) rfl rfl rfl rfl rfl hcX hAp ?_ | refine Nx.loads rfl rfl rfl rfl (hrx _ _) rfl ?_ | refine Nx.so ?_ | refine Nx.sb (fun bx => ?_) | refine Nx.sa (fun A2 c2 => ?_))
      | ((with_reducible refine Nx.is_at ?_); first | refine Nx.a ?_ | refine Nx.zd ?_ | refine Nx.zs (fun hc => ?_) (fun hc => ?_))
      | ((with_reducible refine Nx.is_mix ?_); first | refine Nx.m ?_ | refine Nx.zm ?_ | refine Nx.zt (fun hc => ?_) (fun hc => ?_))
      | refine Nx.zx ?_ | fail
    exact Nx.again (j + 1, (A2, c2)) hjL (by dsimp only; omega) ⟨rfl, rfl, rfl, rfl, rfl, rfl, rfl, rfl, rfl, rfl, rfl, rfl, rfl, trivial⟩ (by dsimp only; rw [hts, flat_snoc]; (exact Ent.auto))
  obtain rfl : j = L.length := by omega
  have htl := termL_len (x := X) (Nat.le_refl L.length)
  have hrbt : ∀ y ∈ termL X L L.length, RB y := fun y hy => by
    obtain ⟨z, hz, rfl⟩ := List.mem_map.1 hy
    have := hlt z (List.mem_of_mem_take hz)
    exact hX _ (getD_memX (by omega))
  refine Nx.freezeAt 0 rfl fun I2 m2 hI2 hm2 hf2 => ?_
  have hfz : Rats I2 Ao co (termL X L L.length) := Vec.sliceN (t := 24) hm2 (by rw [htl]; exact hf2) fun _ _ => rfl
  have hS := rsumF_spec Ao co _ I2 hfz hrbt
  rw [htl] at hS
  have hW := rwhole_spec vx I2
  have hrw2 : ∀ (W : World) (R : List Res), Rds W I2 R ((ad Aw).add (i * 2)) (ratC wi) := fun W R => hwi2 ▸ (hw.mono hI2).rds hiw
  cases hs : Bl.sumF (termL X L L.length) with
  | none =>
    have hS' : FnSpec Tryz.prog 51 [.slice Ao L.length co] I2 [] (fun v R' => (∃ r1 r2 : Int, v = .tuple #[.agg #[.int .i64 r1, .int .i64 r2], .bool false]) ∧ R' = []) := FnSpec.mono hS fun v R' h => by
      obtain ⟨r, h1, _, h3⟩ := h
      rw [hs] at h1
      exact ⟨⟨_, _, h1⟩, h3⟩
    rw [hs] at hstop
    repeat' first
      | ((with_reducible refine Nx.is_wp ?_); first | refine Nx.wo ?_ | refine Nx.p_draw (id := 15) rfl [0, 1, 2, 3, 4, 5, 6, 7, 8] [] _ rfl rfl (by kernel_rfl) (by kernel_rfl) rfl (by repeat first | exact PanicOk.fn | refine PanicOk.then_ ?_ | refine PanicOk.inB ?_) (Ent.refl _) ?_ | refine Nx.p_draw (id := 28) rfl [0, 1, 2, 3, 4, 5, 6, 7, 8] [6] _ rfl rfl (by kernel_rfl) (by kernel_rfl) rfl (by repeat first | exact PanicOk.fn | refine PanicOk.then_ ?_ | refine PanicOk.inB ?_) (Ent.refl _) ?_ | refine Nx.zp (fun hc => ?_) (fun hc => ?_))
      | (refine Nx.zo ?_; first | refine Nx.opr rfl rfl ?_ | (refine Nx.call rfl rfl rfl (by kernel_rfl) rfl hS' (by (exact Ent.auto)) ?_; rintro _ _ ⟨⟨r1, r2, rfl⟩, rfl⟩) | refine Nx.so ?_ | refine Nx.sb (fun bx => ?_) | refine Nx.sa (fun A2 c2 => ?_))
      | ((with_reducible refine Nx.is_at ?_); first | refine Nx.a ?_ | refine Nx.zd ?_ | refine Nx.zs (fun hc => ?_) (fun hc => ?_))
      | ((with_reducible refine Nx.is_mix ?_); first | refine Nx.m ?_ | refine Nx.zm ?_ | refine Nx.zt (fun hc => ?_) (fun hc => ?_))
      | refine Nx.zx ?_ | fail
    exact Nx.imm_le hI2 (Nx.ret_fn rfl [] ⟨by rw [hstop rfl, Bool.false_and, Bool.false_and], rfl⟩ (by (exact Ent.auto)))
  | some s =>
    have hS' : FnSpec Tryz.prog 51 [.slice Ao L.length co] I2 [] (fun v R' => v = .tuple #[.agg #[.int .i64 s.num, .int .i64 s.den], .bool true] ∧ R' = []) := FnSpec.mono hS fun v R' h => by
      obtain ⟨r, h1, h2, h3⟩ := h
      rw [hs] at h1
      obtain rfl := h2 s hs
      exact ⟨h1, h3⟩
    rw [hs] at hstop hnext
    by_cases hsv : s = (vx : Rat)
    case neg =>
      have hE := fun {x y : Operand} (w : World) => neq_fracK (x := x) (y := y) s.num s.den (vx : Rat).num (vx : Rat).den true (decide_eq_true fun hh => hsv (rat_eq_iff.1 hh)) w
      repeat' first
        | ((with_reducible refine Nx.is_wp ?_); first | refine Nx.wo ?_ | refine Nx.p_draw (id := 15) rfl [0, 1, 2, 3, 4, 5, 6, 7, 8] [] _ rfl rfl (by kernel_rfl) (by kernel_rfl) rfl (by repeat first | exact PanicOk.fn | refine PanicOk.then_ ?_ | refine PanicOk.inB ?_) (Ent.refl _) ?_ | refine Nx.p_draw (id := 28) rfl [0, 1, 2, 3, 4, 5, 6, 7, 8] [6] _ rfl rfl (by kernel_rfl) (by kernel_rfl) rfl (by repeat first | exact PanicOk.fn | refine PanicOk.then_ ?_ | refine PanicOk.inB ?_) (Ent.refl _) ?_ | refine Nx.zp (fun hc => ?_) (fun hc => ?_))
        | (refine Nx.zo ?_; first | refine Nx.opr rfl rfl ?_ | refine Nx.binr rfl rfl hE rfl ?_ | refine Nx.callv rfl rfl rfl (by kernel_rfl) rfl hS' ?_ | refine Nx.callv rfl rfl rfl (by kernel_rfl) rfl hW ?_ | refine Nx.so ?_ | refine Nx.sb (fun bx => ?_) | refine Nx.sa (fun A2 c2 => ?_))
        | ((with_reducible refine Nx.is_at ?_); first | refine Nx.a ?_ | refine Nx.zd ?_ | refine Nx.zs (fun hc => ?_) (fun hc => ?_))
        | ((with_reducible refine Nx.is_mix ?_); first | refine Nx.m_quiet rfl rfl rfl rfl rfl (by first | exact QRun.opr rfl | exact QRun.binr rfl rfl hE) ?_ | refine Nx.m_quiet_do rfl rfl rfl rfl rfl rfl rfl (by first | exact QRun.opr rfl | exact QRun.binr rfl rfl hE) ?_ | refine Nx.m ?_ | refine Nx.zm ?_ | refine Nx.zt (fun hc => ?_) (fun hc => ?_))
        | refine Nx.zx ?_ | fail
      exact Nx.imm_le hI2 (Nx.ret_fn rfl [] ⟨by rw [hstop (decide_eq_false fun hh => hsv (Option.some.inj hh)), Bool.false_and, Bool.false_and], rfl⟩ (by (exact Ent.auto)))
    have hE := fun {x y : Operand} (w : World) => neq_fracK (x := x) (y := y) s.num s.den (vx : Rat).num (vx : Rat).den false (decide_eq_false fun hh => hh (rat_eq_iff.2 hsv)) w
    have hM := rMul_rat wi (vx : Rat) hwb (RB_int (by omega)) I2
    rw [← hat] at hM
    clear hat
    by_cases hy : RB tm
    · rw [redV_pos hy] at hM
      repeat' first
        | ((with_reducible refine Nx.is_wp ?_); first | refine Nx.wo ?_ | refine Nx.p_drawF (id := 15) rfl [0, 1, 2, 3, 4, 5, 6, 7, 8] [] [] _ rfl rfl (by kernel_rfl) (by kernel_rfl) rfl (by repeat first | exact PanicOk.fn | refine PanicOk.then_ ?_ | refine PanicOk.inB ?_) (Ent.refl _) ?_ | refine Nx.p_drawF (id := 28) rfl [0, 1, 2, 3, 4, 5, 6, 7, 8] [6] [] _ rfl rfl (by kernel_rfl) (by kernel_rfl) rfl (by repeat first | exact PanicOk.fn | refine PanicOk.then_ ?_ | refine PanicOk.inB ?_) (Ent.refl _) ?_ | refine Nx.p_poolF (id := 30) rfl [0, 1, 2, 3, 4, 5, 6, 7, 8, 9, 10, 11] [7, 8] [11, 10] [13, 14] [13] [⟨12, 19, 24, _⟩] rfl rfl (by kernel_rfl) (by kernel_rfl) (by decide) (PoolFit.cons ⟨⟨_, _, _, rfl⟩, rfl, rfl⟩ PoolFit.nil) (by repeat first | exact PanicOk.fn | refine PanicOk.then_ ?_ | refine PanicOk.inB ?_) (Ent.refl _) ?_ | refine Nx.zp (fun hc => ?_) (fun hc => ?_))
        | ((first | refine Nx.at_op rfl rfl ?_ | refine Nx.m_loud rfl rfl rfl ?_ | refine Nx.at_do rfl rfl rfl rfl ?_ | refine Nx.m_loud_do rfl rfl rfl rfl rfl ?_ | refine GoodF.loud_ rfl rfl rfl rfl (fun ex X => ?_)); first | refine Nx.opr rfl rfl ?_ | refine Nx.binr rfl rfl hE rfl ?_ | refine Nx.callv rfl rfl rfl (by kernel_rfl) rfl hS' ?_ | refine Nx.callv rfl rfl rfl (by kernel_rfl) rfl hW ?_ | refine Nx.callv rfl rfl rfl (by kernel_rfl) rfl hM ?_ | refine Nx.so ?_ | refine Nx.sb (fun bx => ?_) | refine Nx.sa (fun A2 c2 => ?_))
        | ((with_reducible refine Nx.is_at ?_); first | refine Nx.a ?_ | refine Nx.zd ?_ | refine Nx.zs (fun hc => ?_) (fun hc => ?_))
        | ((with_reducible refine Nx.is_mix ?_); first | refine Nx.m_quiet rfl rfl rfl rfl rfl (by first | exact QRun.opr rfl | exact QRun.binr rfl rfl hE | exact QRun.idx (A := Aw) (i := i) (sz := 2) rfl rfl rfl rfl him hAw | exact QRun.loads rfl rfl rfl (hrw2 _ _) rfl) ?_ | refine Nx.m_quiet_do rfl rfl rfl rfl rfl rfl rfl (by first | exact QRun.opr rfl | exact QRun.binr rfl rfl hE | exact QRun.idx (A := Aw) (i := i) (sz := 2) rfl rfl rfl rfl him hAw | exact QRun.loads rfl rfl rfl (hrw2 _ _) rfl) ?_ | refine Nx.m ?_ | refine Nx.zm ?_ | refine Nx.zt (fun hc => ?_) (fun hc => ?_))
        | ((with_reducible refine GoodF.is ?_); first | refine GoodF.quiet rfl rfl rfl rfl rfl rfl (by first | exact QRun.opr rfl | exact QRun.binr rfl rfl hE | exact QRun.idx (A := Aw) (i := i) (sz := 2) rfl rfl rfl rfl him hAw | exact QRun.loads rfl rfl rfl (hrw2 _ _) rfl |  exact QRun.std) ?_ | refine GoodF.done1 rfl (fun bx => ?_) | refine GoodF.done2 rfl (fun bx by_ => ?_) | refine GoodF.done3 rfl (fun bx by_ bz => ?_))
        | ((fail_if_success (with_reducible refine Nx.is_at ?_)); (fail_if_success (with_reducible refine Nx.is_wp ?_)); (fail_if_success (with_reducible refine Nx.is_mix ?_)); first | refine Nx.ex ?_ | refine Nx.pool_nextF 0 rfl (by exact Ent.auto) ?_ | refine Nx.pool_nextF 1 rfl (by exact Ent.auto) ?_ | refine Nx.pool_nextF 2 rfl (by exact Ent.auto) ?_ | refine Nx.pool_nextF 3 rfl (by exact Ent.auto) ?_)
      exact Nx.imm_le hI2 (Nx.again (i + 1, (A2, c2)) ⟨him, hnext (decide_eq_true (by rw [hsv])), fun z hz => by
        rw [hts0] at hz
        rcases List.mem_append.1 hz with hz | hz
        · exact hrb z hz
        · rw [List.mem_singleton] at hz; rw [hz]; exact hy⟩ (by dsimp only; omega) ⟨rfl, rfl, rfl, rfl, rfl, rfl, rfl, trivial⟩ (by dsimp only; rw [hts0, flat_snoc]; (exact Ent.auto)))
    · rw [redV_neg hy] at hM
      repeat' first
        | ((with_reducible refine Nx.is_wp ?_); first | refine Nx.wo ?_ | refine Nx.p_drawF (id := 15) rfl [0, 1, 2, 3, 4, 5, 6, 7, 8] [] [] _ rfl rfl (by kernel_rfl) (by kernel_rfl) rfl (by repeat first | exact PanicOk.fn | refine PanicOk.then_ ?_ | refine PanicOk.inB ?_) (Ent.refl _) ?_ | refine Nx.p_drawF (id := 28) rfl [0, 1, 2, 3, 4, 5, 6, 7, 8] [6] [] _ rfl rfl (by kernel_rfl) (by kernel_rfl) rfl (by repeat first | exact PanicOk.fn | refine PanicOk.then_ ?_ | refine PanicOk.inB ?_) (Ent.refl _) ?_ | refine Nx.p_poolF (id := 30) rfl [0, 1, 2, 3, 4, 5, 6, 7, 8, 9, 10, 11] [7, 8] [11, 10] [13, 14] [13] [⟨12, 19, 24, _⟩] rfl rfl (by kernel_rfl) (by kernel_rfl) (by decide) (PoolFit.cons ⟨⟨_, _, _, rfl⟩, rfl, rfl⟩ PoolFit.nil) (by repeat first | exact PanicOk.fn | refine PanicOk.then_ ?_ | refine PanicOk.inB ?_) (Ent.refl _) ?_ | refine Nx.zp (fun hc => ?_) (fun hc => ?_))
        | ((first | refine Nx.at_op rfl rfl ?_ | refine Nx.m_loud rfl rfl rfl ?_ | refine Nx.at_do rfl rfl rfl rfl ?_ | refine Nx.m_loud_do rfl rfl rfl rfl rfl ?_ | refine GoodF.loud_ rfl rfl rfl rfl (fun ex X => ?_)); first | refine Nx.opr rfl rfl ?_ | refine Nx.binr rfl rfl hE rfl ?_ | refine Nx.callv rfl rfl rfl (by kernel_rfl) rfl hS' ?_ | refine Nx.callv rfl rfl rfl (by kernel_rfl) rfl hW ?_ | refine Nx.callv rfl rfl rfl (by kernel_rfl) rfl hM ?_ | refine Nx.so ?_ | refine Nx.sb (fun bx => ?_) | refine Nx.sa (fun A2 c2 => ?_))
        | ((with_reducible refine Nx.is_at ?_); first | refine Nx.a ?_ | refine Nx.zd ?_ | refine Nx.zs (fun hc => ?_) (fun hc => ?_))
        | ((with_reducible refine Nx.is_mix ?_); first | refine Nx.m_quiet rfl rfl rfl rfl rfl (by first | exact QRun.opr rfl | exact QRun.binr rfl rfl hE | exact QRun.idx (A := Aw) (i := i) (sz := 2) rfl rfl rfl rfl him hAw | exact QRun.loads rfl rfl rfl (hrw2 _ _) rfl) ?_ | refine Nx.m_quiet_do rfl rfl rfl rfl rfl rfl rfl (by first | exact QRun.opr rfl | exact QRun.binr rfl rfl hE | exact QRun.idx (A := Aw) (i := i) (sz := 2) rfl rfl rfl rfl him hAw | exact QRun.loads rfl rfl rfl (hrw2 _ _) rfl) ?_ | refine Nx.m ?_ | refine Nx.zm ?_ | refine Nx.zt (fun hc => ?_) (fun hc => ?_))
        | ((with_reducible refine GoodF.is ?_); first | refine GoodF.quiet rfl rfl rfl rfl rfl rfl (by first | exact QRun.opr rfl | exact QRun.binr rfl rfl hE | exact QRun.idx (A := Aw) (i := i) (sz := 2) rfl rfl rfl rfl him hAw | exact QRun.loads rfl rfl rfl (hrw2 _ _) rfl |  exact QRun.std) ?_ | refine GoodF.done1 rfl (fun bx => ?_) | refine GoodF.done2 rfl (fun bx by_ => ?_) | refine GoodF.done3 rfl (fun bx by_ bz => ?_))
        | ((fail_if_success (with_reducible refine Nx.is_at ?_)); (fail_if_success (with_reducible refine Nx.is_wp ?_)); (fail_if_success (with_reducible refine Nx.is_mix ?_)); first | refine Nx.ex ?_ | refine Nx.pool_nextF 0 rfl (by exact Ent.auto) ?_ | refine Nx.pool_nextF 1 rfl (by exact Ent.auto) ?_ | refine Nx.pool_nextF 2 rfl (by exact Ent.auto) ?_ | refine Nx.pool_nextF 3 rfl (by exact Ent.auto) ?_)
      exact Nx.imm_le hI2 (Nx.ret_fn rfl [] ⟨by rw [hbad hy, Bool.and_false, Bool.false_and], rfl⟩ (by (exact Ent.auto)))
set_option maxRecDepth 10000 in
set_option maxHeartbeats 32000000 in
theorem R30Check_spec (n : Int) (A : Option Addr) (c : Nat) (l : List EqR) (p : PrM) (I : PH) (hl : Eqs I A c l) (hp : PrIn I p) :
    FnSpec Tryz.prog 15 [.int .i64 n, .slice A l.length c, p.V] I [] (fun v R' => v = .bool (chkP n l p) ∧ R' = []) := by
  have hlen := hl.len
  have hpl := hp.pts.len
  have hwl := hp.wts.len
  have hV := RValid_spec n A c l I hl
  have hFb : FnSpec Tryz.prog 50 [.agg #[.int .i64 p.bnd.1, .int .i64 p.bnd.2]] I [] (fun v R' => v = .bool (fokB p.bnd) ∧ R' = []) := rValid_spec p.bnd.1 p.bnd.2 hp.bnd.1 hp.bnd.2 I
  have hVr : ∀ x : RawF, I64F x → FnSpec Tryz.prog 50 [.agg #[.int .i64 x.1, .int .i64 x.2]] I [] (fun v R' => v = .bool (fokB x) ∧ R' = []) := fun x hx => rValid_spec x.1 x.2 hx.1 hx.2 I
  have hpts := hp.pts
  have hwts := hp.wts
  have hpn := hp.pn
  have hwn := hp.wn
  obtain ⟨cell, up, ⟨bn, bd⟩, Ap, cp, pts, Aw, cw, wts⟩ := p
  dsimp only at hpl hwl hFb hpts hwts hpn hwn
  dsimp only [PrM.V]
  refine FnSpec.enterP Tryz.func15 rfl Tryz.ntmps15 rfl fun w F => ?_
  by_cases h1 : 1 ≤ n
  case neg =>
    rw [chkP_no1 fun h => h1 h.1.1]
    repeat' first
      | ((with_reducible refine Nx.is_wp ?_); first | refine Nx.wo ?_ | refine Nx.zp (fun hc => ?_) (fun hc => ?_))
      | (refine Nx.zo ?_; first | refine Nx.opr rfl rfl ?_ | refine Nx.so ?_ | refine Nx.sb (fun bx => ?_) | refine Nx.sa (fun A2 c2 => ?_))
      | ((with_reducible refine Nx.is_at ?_); first | refine Nx.a ?_ | refine Nx.zd ?_ | refine Nx.zs (fun hc => ?_) (fun hc => ?_))
      | ((with_reducible refine Nx.is_mix ?_); first | refine Nx.m ?_ | refine Nx.zm ?_ | refine Nx.zt (fun hc => ?_) (fun hc => ?_))
      | refine Nx.zx ?_ | fail
    exact Nx.ret_fn rfl [] ⟨rfl, rfl⟩ (by (exact Ent.auto))
  by_cases h2 : n ≤ 10
  case neg =>
    rw [chkP_no1 fun h => h2 h.1.2]
    repeat' first
      | ((with_reducible refine Nx.is_wp ?_); first | refine Nx.wo ?_ | refine Nx.zp (fun hc => ?_) (fun hc => ?_))
      | (refine Nx.zo ?_; first | refine Nx.opr rfl rfl ?_ | refine Nx.so ?_ | refine Nx.sb (fun bx => ?_) | refine Nx.sa (fun A2 c2 => ?_))
      | ((with_reducible refine Nx.is_at ?_); first | refine Nx.a ?_ | refine Nx.zd ?_ | refine Nx.zs (fun hc => ?_) (fun hc => ?_))
      | ((with_reducible refine Nx.is_mix ?_); first | refine Nx.m ?_ | refine Nx.zm ?_ | refine Nx.zt (fun hc => ?_) (fun hc => ?_))
      | refine Nx.zx ?_ | fail
    exact Nx.ret_fn rfl [] ⟨rfl, rfl⟩ (by (exact Ent.auto))
  cases hv : validB n l with
  | false =>
    rw [hv] at hV
    rw [chkP_no1 fun h => by rw [hv] at h; cases h.2.1]
    repeat' first
      | ((with_reducible refine Nx.is_wp ?_); first | refine Nx.wo ?_ | refine Nx.zp (fun hc => ?_) (fun hc => ?_))
      | (refine Nx.zo ?_; first | refine Nx.opr rfl rfl ?_ | refine Nx.callv rfl rfl rfl (by kernel_rfl) rfl hV ?_ | refine Nx.so ?_ | refine Nx.sb (fun bx => ?_) | refine Nx.sa (fun A2 c2 => ?_))
      | ((with_reducible refine Nx.is_at ?_); first | refine Nx.a ?_ | refine Nx.zd ?_ | refine Nx.zs (fun hc => ?_) (fun hc => ?_))
      | ((with_reducible refine Nx.is_mix ?_); first | refine Nx.m ?_ | refine Nx.zm ?_ | refine Nx.zt (fun hc => ?_) (fun hc => ?_))
      | refine Nx.zx ?_ | fail
    exact Nx.ret_fn rfl [] ⟨rfl, rfl⟩ (by (exact Ent.auto))
  | true =>
  rw [hv] at hV
  by_cases h3 : 0 ≤ cell
  case neg =>
    rw [chkP_no1 fun h => h3 h.2.2.1]
    repeat' first
      | ((with_reducible refine Nx.is_wp ?_); first | refine Nx.wo ?_ | refine Nx.zp (fun hc => ?_) (fun hc => ?_))
      | (refine Nx.zo ?_; first | refine Nx.opr rfl rfl ?_ | refine Nx.callv rfl rfl rfl (by kernel_rfl) rfl hV ?_ | refine Nx.so ?_ | refine Nx.sb (fun bx => ?_) | refine Nx.sa (fun A2 c2 => ?_))
      | ((with_reducible refine Nx.is_at ?_); first | refine Nx.a ?_ | refine Nx.zd ?_ | refine Nx.zs (fun hc => ?_) (fun hc => ?_))
      | ((with_reducible refine Nx.is_mix ?_); first | refine Nx.m ?_ | refine Nx.zm ?_ | refine Nx.zt (fun hc => ?_) (fun hc => ?_))
      | refine Nx.zx ?_ | fail
    exact Nx.ret_fn rfl [] ⟨rfl, rfl⟩ (by (exact Ent.auto))
  by_cases h4 : cell < n
  case neg =>
    rw [chkP_no1 fun h => h4 h.2.2.2.1]
    repeat' first
      | ((with_reducible refine Nx.is_wp ?_); first | refine Nx.wo ?_ | refine Nx.zp (fun hc => ?_) (fun hc => ?_))
      | (refine Nx.zo ?_; first | refine Nx.opr rfl rfl ?_ | refine Nx.callv rfl rfl rfl (by kernel_rfl) rfl hV ?_ | refine Nx.so ?_ | refine Nx.sb (fun bx => ?_) | refine Nx.sa (fun A2 c2 => ?_))
      | ((with_reducible refine Nx.is_at ?_); first | refine Nx.a ?_ | refine Nx.zd ?_ | refine Nx.zs (fun hc => ?_) (fun hc => ?_))
      | ((with_reducible refine Nx.is_mix ?_); first | refine Nx.m ?_ | refine Nx.zm ?_ | refine Nx.zt (fun hc => ?_) (fun hc => ?_))
      | refine Nx.zx ?_ | fail
    exact Nx.ret_fn rfl [] ⟨rfl, rfl⟩ (by (exact Ent.auto))
  by_cases h5 : (pts.length : Int) = n
  case neg =>
    rw [chkP_no1 fun h => h5 h.2.2.2.2.1]
    repeat' first
      | ((with_reducible refine Nx.is_wp ?_); first | refine Nx.wo ?_ | refine Nx.zp (fun hc => ?_) (fun hc => ?_))
      | (refine Nx.zo ?_; first | refine Nx.opr rfl rfl ?_ | refine Nx.callv rfl rfl rfl (by kernel_rfl) rfl hV ?_ | refine Nx.so ?_ | refine Nx.sb (fun bx => ?_) | refine Nx.sa (fun A2 c2 => ?_))
      | ((with_reducible refine Nx.is_at ?_); first | refine Nx.a ?_ | refine Nx.zd ?_ | refine Nx.zs (fun hc => ?_) (fun hc => ?_))
      | ((with_reducible refine Nx.is_mix ?_); first | refine Nx.m ?_ | refine Nx.zm ?_ | refine Nx.zt (fun hc => ?_) (fun hc => ?_))
      | refine Nx.zx ?_ | fail
    exact Nx.ret_fn rfl [] ⟨rfl, rfl⟩ (by (exact Ent.auto))
  by_cases h6 : (wts.length : Int) = l.length
  case neg =>
    rw [chkP_no1 fun h => h6 (by have := h.2.2.2.2.2; dsimp only at this; omega)]
    repeat' first
      | ((with_reducible refine Nx.is_wp ?_); first | refine Nx.wo ?_ | refine Nx.zp (fun hc => ?_) (fun hc => ?_))
      | (refine Nx.zo ?_; first | refine Nx.opr rfl rfl ?_ | refine Nx.callv rfl rfl rfl (by kernel_rfl) rfl hV ?_ | refine Nx.so ?_ | refine Nx.sb (fun bx => ?_) | refine Nx.sa (fun A2 c2 => ?_))
      | ((with_reducible refine Nx.is_at ?_); first | refine Nx.a ?_ | refine Nx.zd ?_ | refine Nx.zs (fun hc => ?_) (fun hc => ?_))
      | ((with_reducible refine Nx.is_mix ?_); first | refine Nx.m ?_ | refine Nx.zm ?_ | refine Nx.zt (fun hc => ?_) (fun hc => ?_))
      | refine Nx.zx ?_ | fail
    exact Nx.ret_fn rfl [] ⟨rfl, rfl⟩ (by (exact Ent.auto))
  cases h7 : fokB (bn, bd) with
  | false =>
    rw [h7] at hFb
    rw [chkP_no2 fun h => by rw [show fokB _ = false from h7] at h; cases h.1]
    repeat' first
      | ((with_reducible refine Nx.is_wp ?_); first | refine Nx.wo ?_ | refine Nx.zp (fun hc => ?_) (fun hc => ?_))
      | (refine Nx.zo ?_; first | refine Nx.opr rfl rfl ?_ | refine Nx.callv rfl rfl rfl (by kernel_rfl) rfl hV ?_ | refine Nx.loads rfl rfl rfl rfl (Rds.cut 0 2 rfl rfl) rfl ?_ | refine Nx.callv rfl rfl rfl (by kernel_rfl) rfl hFb ?_ | refine Nx.so ?_ | refine Nx.sb (fun bx => ?_) | refine Nx.sa (fun A2 c2 => ?_))
      | ((with_reducible refine Nx.is_at ?_); first | refine Nx.a ?_ | refine Nx.zd ?_ | refine Nx.zs (fun hc => ?_) (fun hc => ?_))
      | ((with_reducible refine Nx.is_mix ?_); first | refine Nx.m ?_ | refine Nx.zm ?_ | refine Nx.zt (fun hc => ?_) (fun hc => ?_))
      | refine Nx.zx ?_ | fail
    exact Nx.ret_fn rfl [] ⟨rfl, rfl⟩ (by (exact Ent.auto))
  | true =>
  rw [h7] at hFb
  repeat' first
    | ((with_reducible refine Nx.is_wp ?_); first | refine Nx.wo ?_ | refine Nx.zp (fun hc => ?_) (fun hc => ?_))
    | (refine Nx.zo ?_; first | refine Nx.opr rfl rfl ?_ | refine Nx.callv rfl rfl rfl (by kernel_rfl) rfl hV ?_ | refine Nx.loads rfl rfl rfl rfl (Rds.cut 0 2 rfl rfl) rfl ?_ | refine Nx.callv rfl rfl rfl (by kernel_rfl) rfl hFb ?_ | refine Nx.so ?_ | refine Nx.sb (fun bx => ?_) | refine Nx.sa (fun A2 c2 => ?_))
    | ((with_reducible refine Nx.is_at ?_); first | refine Nx.a ?_ | refine Nx.zd ?_ | refine Nx.zs (fun hc => ?_) (fun hc => ?_))
    | ((with_reducible refine Nx.is_mix ?_); first | refine Nx.m ?_ | refine Nx.zm ?_ | refine Nx.zt (fun hc => ?_) (fun hc => ?_))
    | refine Nx.zx ?_ | fail
  revert bx; intro b5
  have hchk := fun hw => chkP_mid (p := ⟨cell, up, (bn, bd), Ap, cp, pts, Aw, cw, wts⟩) ⟨h1, h2⟩ hv ⟨h3, h4, h5, by dsimp only; omega⟩ h7 hw
  refine Nx.p_loop (σ := Nat) (fun i => [(0, .int .i64 n), (1, .slice A l.length c), (5, .pointer (some ⟨b5, 0, none⟩)), (77, .slice Ap pts.length cp), (78, .int .i64 pts.length), (79, .int .i64 (i : Int))])
    (fun _ => [Blk b5 27 [.int .i64 cell, .bool up, .int .i64 bn, .int .i64 bd, .slice Ap pts.length cp, .slice Aw wts.length cw], F]) (fun i => i ≤ pts.length ∧ (pts.take i).all posB = true) (fun i => pts.length - i) 0 rfl ⟨Nat.zero_le _, by rw [List.take_zero]; rfl⟩ ⟨rfl, rfl, rfl, rfl, rfl, rfl, trivial⟩ (by (exact Ent.auto)) ?_
  rintro i ⟨hi, hok⟩
  by_cases him : i < pts.length
  · have hrd : ∀ (W : World) (R : List Res), Rds W I R ((ad Ap).add (i * 2)) (frC0 (pts.getD i default)) := fun W R => hpts.rds him
    have hA := hpts.isSome (by omega) (by omega)
    have hmem := getD_memY him
    have hsn := take_snocY him
    generalize pts.getD i default = x at hrd hmem hsn
    have hVx := hVr x (hpn x hmem)
    have hbad : posB x = false → chkP n l ⟨cell, up, (bn, bd), Ap, cp, pts, Aw, cw, wts⟩ = false := fun h => by
      unfold chkP
      dsimp only
      rw [all_no hmem h, Bool.and_false, Bool.false_and]
    have hgo : posB x = true → (pts.take (i + 1)).all posB = true := fun h => by rw [hsn, List.all_append, hok]; simpa using h
    cases hf : fokB x with
    | false =>
      rw [hf] at hVx
      repeat' first
        | ((with_reducible refine Nx.is_wp ?_); first | refine Nx.wo ?_ | refine Nx.zp (fun hc => ?_) (fun hc => ?_))
        | (refine Nx.zo ?_; first | refine Nx.opr rfl rfl ?_ | refine Nx.indexAddr_nat (A := Ap) (i := i) (sz := 2) rfl rfl rfl rfl rfl him hA ?_ | refine Nx.loads rfl rfl rfl rfl (hrd _ _) rfl ?_ | refine Nx.callv rfl rfl rfl (by kernel_rfl) rfl hVx ?_ | refine Nx.so ?_ | refine Nx.sb (fun bx => ?_) | refine Nx.sa (fun A2 c2 => ?_))
        | ((with_reducible refine Nx.is_at ?_); first | refine Nx.a ?_ | refine Nx.zd ?_ | refine Nx.zs (fun hc => ?_) (fun hc => ?_))
        | ((with_reducible refine Nx.is_mix ?_); first | refine Nx.m ?_ | refine Nx.zm ?_ | refine Nx.zt (fun hc => ?_) (fun hc => ?_))
        | refine Nx.zx ?_ | fail
      exact Nx.ret_fn rfl [] ⟨by rw [hbad (by unfold posB; rw [hf]; rfl)], rfl⟩ (by (exact Ent.auto))
    | true =>
      rw [hf] at hVx
      by_cases h0 : 0 ≤ x.1
      · repeat' first
          | ((with_reducible refine Nx.is_wp ?_); first | refine Nx.wo ?_ | refine Nx.zp (fun hc => ?_) (fun hc => ?_))
          | (refine Nx.zo ?_; first | refine Nx.opr rfl rfl ?_ | refine Nx.indexAddr_nat (A := Ap) (i := i) (sz := 2) rfl rfl rfl rfl rfl him hA ?_ | refine Nx.loads rfl rfl rfl rfl (hrd _ _) rfl ?_ | refine Nx.callv rfl rfl rfl (by kernel_rfl) rfl hVx ?_ | refine Nx.so ?_ | refine Nx.sb (fun bx => ?_) | refine Nx.sa (fun A2 c2 => ?_))
          | ((with_reducible refine Nx.is_at ?_); first | refine Nx.a ?_ | refine Nx.zd ?_ | refine Nx.zs (fun hc => ?_) (fun hc => ?_))
          | ((with_reducible refine Nx.is_mix ?_); first | refine Nx.m ?_ | refine Nx.zm ?_ | refine Nx.zt (fun hc => ?_) (fun hc => ?_))
          | refine Nx.zx ?_ | fail
        exact Nx.again (i + 1) ⟨him, hgo (by unfold posB; rw [hf, decide_eq_true h0]; rfl)⟩ (by omega) ⟨rfl, rfl, rfl, rfl, rfl, rfl, trivial⟩ (by (exact Ent.auto))
      · repeat' first
          | ((with_reducible refine Nx.is_wp ?_); first | refine Nx.wo ?_ | refine Nx.zp (fun hc => ?_) (fun hc => ?_))
          | (refine Nx.zo ?_; first | refine Nx.opr rfl rfl ?_ | refine Nx.indexAddr_nat (A := Ap) (i := i) (sz := 2) rfl rfl rfl rfl rfl him hA ?_ | refine Nx.loads rfl rfl rfl rfl (hrd _ _) rfl ?_ | refine Nx.callv rfl rfl rfl (by kernel_rfl) rfl hVx ?_ | refine Nx.so ?_ | refine Nx.sb (fun bx => ?_) | refine Nx.sa (fun A2 c2 => ?_))
          | ((with_reducible refine Nx.is_at ?_); first | refine Nx.a ?_ | refine Nx.zd ?_ | refine Nx.zs (fun hc => ?_) (fun hc => ?_))
          | ((with_reducible refine Nx.is_mix ?_); first | refine Nx.m ?_ | refine Nx.zm ?_ | refine Nx.zt (fun hc => ?_) (fun hc => ?_))
          | refine Nx.zx ?_ | fail
        exact Nx.ret_fn rfl [] ⟨by rw [hbad (by unfold posB; rw [hf, decide_eq_false h0]; rfl)], rfl⟩ (by (exact Ent.auto))
  obtain rfl : i = pts.length := by omega
  rw [List.take_length] at hok
  repeat' first
    | ((with_reducible refine Nx.is_wp ?_); first | refine Nx.wo ?_ | refine Nx.zp (fun hc => ?_) (fun hc => ?_))
    | (refine Nx.zo ?_; first | refine Nx.opr rfl rfl ?_ | refine Nx.so ?_ | refine Nx.sb (fun bx => ?_) | refine Nx.sa (fun A2 c2 => ?_))
    | ((with_reducible refine Nx.is_at ?_); first | refine Nx.a ?_ | refine Nx.zd ?_ | refine Nx.zs (fun hc => ?_) (fun hc => ?_))
    | ((with_reducible refine Nx.is_mix ?_); first | refine Nx.m ?_ | refine Nx.zm ?_ | refine Nx.zt (fun hc => ?_) (fun hc => ?_))
    | refine Nx.zx ?_ | fail
  refine Nx.p_loop (σ := Nat) (fun i => [(0, .int .i64 n), (1, .slice A l.length c), (5, .pointer (some ⟨b5, 0, none⟩)), (93, .slice Aw wts.length cw), (94, .int .i64 wts.length), (95, .int .i64 (i : Int))])
    (fun _ => [Blk b5 27 [.int .i64 cell, .bool up, .int .i64 bn, .int .i64 bd, .slice Ap pts.length cp, .slice Aw wts.length cw], F]) (fun i => i ≤ wts.length ∧ (wts.take i).all fokB = true) (fun i => wts.length - i) 0 rfl ⟨Nat.zero_le _, by rw [List.take_zero]; rfl⟩ ⟨rfl, rfl, rfl, rfl, rfl, rfl, trivial⟩ (by (exact Ent.auto)) ?_
  rintro i ⟨hi, hokw⟩
  by_cases him : i < wts.length
  · have hrd : ∀ (W : World) (R : List Res), Rds W I R ((ad Aw).add (i * 2)) (frC0 (wts.getD i default)) := fun W R => hwts.rds him
    have hA := hwts.isSome (by omega) (by omega)
    have hmem := getD_memY him
    have hsn := take_snocY him
    generalize wts.getD i default = x at hrd hmem hsn
    have hVx := hVr x (hwn x hmem)
    have hbad : fokB x = false → chkP n l ⟨cell, up, (bn, bd), Ap, cp, pts, Aw, cw, wts⟩ = false := fun h => chkP_no2 fun hh => by
      have := List.all_eq_true.1 hh.2 x hmem
      rw [h] at this
      cases this
    have hgo : fokB x = true → (wts.take (i + 1)).all fokB = true := fun h => by rw [hsn, List.all_append, hokw]; simpa using h
    cases hf : fokB x with
    | false =>
      rw [hf] at hVx
      repeat' first
        | ((with_reducible refine Nx.is_wp ?_); first | refine Nx.wo ?_ | refine Nx.zp (fun hc => ?_) (fun hc => ?_))
        | (refine Nx.zo ?_; first | refine Nx.opr rfl rfl ?_ | refine Nx.indexAddr_nat (A := Aw) (i := i) (sz := 2) rfl rfl rfl rfl rfl him hA ?_ | refine Nx.loads rfl rfl rfl rfl (hrd _ _) rfl ?_ | refine Nx.callv rfl rfl rfl (by kernel_rfl) rfl hVx ?_ | refine Nx.so ?_ | refine Nx.sb (fun bx => ?_) | refine Nx.sa (fun A2 c2 => ?_))
        | ((with_reducible refine Nx.is_at ?_); first | refine Nx.a ?_ | refine Nx.zd ?_ | refine Nx.zs (fun hc => ?_) (fun hc => ?_))
        | ((with_reducible refine Nx.is_mix ?_); first | refine Nx.m ?_ | refine Nx.zm ?_ | refine Nx.zt (fun hc => ?_) (fun hc => ?_))
        | refine Nx.zx ?_ | fail
      exact Nx.ret_fn rfl [] ⟨by rw [hbad hf], rfl⟩ (by (exact Ent.auto))
    | true =>
      rw [hf] at hVx
      repeat' first
        | ((with_reducible refine Nx.is_wp ?_); first | refine Nx.wo ?_ | refine Nx.zp (fun hc => ?_) (fun hc => ?_))
        | (refine Nx.zo ?_; first | refine Nx.opr rfl rfl ?_ | refine Nx.indexAddr_nat (A := Aw) (i := i) (sz := 2) rfl rfl rfl rfl rfl him hA ?_ | refine Nx.loads rfl rfl rfl rfl (hrd _ _) rfl ?_ | refine Nx.callv rfl rfl rfl (by kernel_rfl) rfl hVx ?_ | refine Nx.so ?_ | refine Nx.sb (fun bx => ?_) | refine Nx.sa (fun A2 c2 => ?_))
        | ((with_reducible refine Nx.is_at ?_); first | refine Nx.a ?_ | refine Nx.zd ?_ | refine Nx.zs (fun hc => ?_) (fun hc => ?_))
        | ((with_reducible refine Nx.is_mix ?_); first | refine Nx.m ?_ | refine Nx.zm ?_ | refine Nx.zt (fun hc => ?_) (fun hc => ?_))
        | refine Nx.zx ?_ | fail
      exact Nx.again (i + 1) ⟨him, hgo hf⟩ (by omega) ⟨rfl, rfl, rfl, rfl, rfl, rfl, trivial⟩ (by (exact Ent.auto))
  obtain rfl : i = wts.length := by omega
  rw [List.take_length] at hokw
  replace hchk := hchk hokw
  dsimp only at hchk
  rw [hok, Bool.true_and] at hchk
  rw [hchk]
  obtain ⟨b, hb, hbR⟩ := fok_ex h7
  obtain ⟨rfl, rfl⟩ : bn = b.num ∧ bd = b.den := ⟨congrArg Prod.fst hb, congrArg Prod.snd hb⟩
  obtain ⟨W, rfl, hW⟩ := fok_all hokw
  obtain ⟨X, rfl, hX⟩ := fok_all (pos_all hok)
  obtain ⟨N, rfl⟩ : ∃ N : Nat, n = (N : Int) := ⟨n.toNat, by omega⟩
  obtain ⟨K, rfl⟩ : ∃ K : Nat, cell = (K : Int) := ⟨cell.toNat, by omega⟩
  have hg := (valid_good hv).2.2
  have hll := (valid_good hv).2.1
  rw [Int.toNat_natCast] at hg
  rw [toR_all, toR_all, show toR (b.num, (b.den : Int)) = b from toR_raw b, Int.toNat_natCast, Int.toNat_natCast]
  have hPX := hpts.rats
  have hWR := hwts.rats
  rw [List.length_map] at h5 h6
  rw [List.length_map, List.length_map]
  have h6' : W.length = l.length := by omega
  rw [h6']
  have h17 := rchk17 w F N A c l (K : Int) up b Ap cp X Aw cw W I b5 (by omega) hll hl hg hPX (by omega) hX hWR h6' hW
  have hKX : K < X.length := by omega
  have hrx : ∀ (W' : World) (R : List Res), Rds W' I R ((ad Ap).add (K * 2)) (ratC (X.getD K default)) := fun W' R => hPX.rds hKX
  have hAp := hPX.isSome (by omega) (by omega)
  clear hchk
  generalize X.getD K default = y at hrx
  by_cases hy : y = b
  · have hE := fun {x y' : Operand} (w : World) => neq_fracK (x := x) (y := y') y.num y.den b.num b.den false (decide_eq_false fun hh => hh (rat_eq_iff.2 hy)) w
    rw [decide_eq_true hy, Bool.and_true]
    repeat' first
      | ((with_reducible refine Nx.is_wp ?_); first | refine Nx.p_stopr 17 rfl ?_ | refine Nx.wo ?_ | refine Nx.p_drawF (id := 15) rfl [0, 1, 2, 3, 4, 5, 6, 7, 8] [] [] _ rfl rfl (by kernel_rfl) (by kernel_rfl) rfl (by repeat first | exact PanicOk.fn | refine PanicOk.then_ ?_ | refine PanicOk.inB ?_) (Ent.refl _) ?_ | refine Nx.p_drawF (id := 28) rfl [0, 1, 2, 3, 4, 5, 6, 7, 8] [6] [] _ rfl rfl (by kernel_rfl) (by kernel_rfl) rfl (by repeat first | exact PanicOk.fn | refine PanicOk.then_ ?_ | refine PanicOk.inB ?_) (Ent.refl _) ?_ | refine Nx.p_poolF (id := 30) rfl [0, 1, 2, 3, 4, 5, 6, 7, 8, 9, 10, 11] [7, 8] [11, 10] [13, 14] [13] [⟨12, 19, 24, _⟩] rfl rfl (by kernel_rfl) (by kernel_rfl) (by decide) (PoolFit.cons ⟨⟨_, _, _, rfl⟩, rfl, rfl⟩ PoolFit.nil) (by repeat first | exact PanicOk.fn | refine PanicOk.then_ ?_ | refine PanicOk.inB ?_) (Ent.refl _) ?_ | refine Nx.zp (fun hc => ?_) (fun hc => ?_))
      | ((first | refine Nx.at_op rfl rfl ?_ | refine Nx.m_loud rfl rfl rfl ?_ | refine Nx.at_do rfl rfl rfl rfl ?_ | refine Nx.m_loud_do rfl rfl rfl rfl rfl ?_ | refine GoodF.loud_ rfl rfl rfl rfl (fun ex X => ?_)); first | refine Nx.opr rfl rfl ?_ | refine Nx.so ?_ | refine Nx.sb (fun bx => ?_) | refine Nx.sa (fun A2 c2 => ?_))
      | ((with_reducible refine Nx.is_at ?_); first | refine Nx.a ?_ | refine Nx.zd ?_ | refine Nx.zs (fun hc => ?_) (fun hc => ?_))
      | ((with_reducible refine Nx.is_mix ?_); first | refine Nx.m_quiet rfl rfl rfl rfl rfl (by first | exact QRun.opr rfl | exact QRun.idx (A := Ap) (i := K) (sz := 2) rfl rfl rfl rfl hKX hAp | exact QRun.loads rfl rfl rfl (hrx _ _) rfl | exact QRun.loads rfl rfl rfl (Rds.cut 0 2 rfl rfl) rfl | exact QRun.binr rfl rfl hE) ?_ | refine Nx.m_quiet_do rfl rfl rfl rfl rfl rfl rfl (by first | exact QRun.opr rfl | exact QRun.idx (A := Ap) (i := K) (sz := 2) rfl rfl rfl rfl hKX hAp | exact QRun.loads rfl rfl rfl (hrx _ _) rfl | exact QRun.loads rfl rfl rfl (Rds.cut 0 2 rfl rfl) rfl | exact QRun.binr rfl rfl hE) ?_ | refine Nx.m ?_ | refine Nx.zm ?_ | refine Nx.zt (fun hc => ?_) (fun hc => ?_))
      | ((with_reducible refine GoodF.is ?_); first | refine GoodF.quiet rfl rfl rfl rfl rfl rfl (by first | exact QRun.opr rfl | exact QRun.idx (A := Ap) (i := K) (sz := 2) rfl rfl rfl rfl hKX hAp | exact QRun.loads rfl rfl rfl (hrx _ _) rfl | exact QRun.loads rfl rfl rfl (Rds.cut 0 2 rfl rfl) rfl | exact QRun.binr rfl rfl hE |  exact QRun.std) ?_ | refine GoodF.done1 rfl (fun bx => ?_) | refine GoodF.done2 rfl (fun bx by_ => ?_) | refine GoodF.done3 rfl (fun bx by_ bz => ?_))
      | ((fail_if_success (with_reducible refine Nx.is_at ?_)); (fail_if_success (with_reducible refine Nx.is_wp ?_)); (fail_if_success (with_reducible refine Nx.is_mix ?_)); first | refine Nx.ex ?_ | refine Nx.pool_nextF 0 rfl (by exact Ent.auto) ?_ | refine Nx.pool_nextF 1 rfl (by exact Ent.auto) ?_ | refine Nx.pool_nextF 2 rfl (by exact Ent.auto) ?_ | refine Nx.pool_nextF 3 rfl (by exact Ent.auto) ?_)
    refine Nx.unstop ?_
    exact Nx.weak (by exact ⟨rfl, rfl, rfl, trivial⟩) (by (exact Ent.auto)) h17
  · have hE := fun {x y' : Operand} (w : World) => neq_fracK (x := x) (y := y') y.num y.den b.num b.den true (decide_eq_true fun hh => hy (rat_eq_iff.1 hh)) w
    rw [decide_eq_false hy, Bool.and_false, Bool.false_and, Bool.false_and]
    repeat' first
      | ((with_reducible refine Nx.is_wp ?_); first | refine Nx.wo ?_ | refine Nx.p_drawF (id := 15) rfl [0, 1, 2, 3, 4, 5, 6, 7, 8] [] [] _ rfl rfl (by kernel_rfl) (by kernel_rfl) rfl (by repeat first | exact PanicOk.fn | refine PanicOk.then_ ?_ | refine PanicOk.inB ?_) (Ent.refl _) ?_ | refine Nx.p_drawF (id := 28) rfl [0, 1, 2, 3, 4, 5, 6, 7, 8] [6] [] _ rfl rfl (by kernel_rfl) (by kernel_rfl) rfl (by repeat first | exact PanicOk.fn | refine PanicOk.then_ ?_ | refine PanicOk.inB ?_) (Ent.refl _) ?_ | refine Nx.p_poolF (id := 30) rfl [0, 1, 2, 3, 4, 5, 6, 7, 8, 9, 10, 11] [7, 8] [11, 10] [13, 14] [13] [⟨12, 19, 24, _⟩] rfl rfl (by kernel_rfl) (by kernel_rfl) (by decide) (PoolFit.cons ⟨⟨_, _, _, rfl⟩, rfl, rfl⟩ PoolFit.nil) (by repeat first | exact PanicOk.fn | refine PanicOk.then_ ?_ | refine PanicOk.inB ?_) (Ent.refl _) ?_ | refine Nx.zp (fun hc => ?_) (fun hc => ?_))
      | ((first | refine Nx.at_op rfl rfl ?_ | refine Nx.m_loud rfl rfl rfl ?_ | refine Nx.at_do rfl rfl rfl rfl ?_ | refine Nx.m_loud_do rfl rfl rfl rfl rfl ?_ | refine GoodF.loud_ rfl rfl rfl rfl (fun ex X => ?_)); first | refine Nx.opr rfl rfl ?_ | refine Nx.so ?_ | refine Nx.sb (fun bx => ?_) | refine Nx.sa (fun A2 c2 => ?_))
      | ((with_reducible refine Nx.is_at ?_); first | refine Nx.a ?_ | refine Nx.zd ?_ | refine Nx.zs (fun hc => ?_) (fun hc => ?_))
      | ((with_reducible refine Nx.is_mix ?_); first | refine Nx.m_quiet rfl rfl rfl rfl rfl (by first | exact QRun.opr rfl | exact QRun.idx (A := Ap) (i := K) (sz := 2) rfl rfl rfl rfl hKX hAp | exact QRun.loads rfl rfl rfl (hrx _ _) rfl | exact QRun.loads rfl rfl rfl (Rds.cut 0 2 rfl rfl) rfl | exact QRun.binr rfl rfl hE) ?_ | refine Nx.m_quiet_do rfl rfl rfl rfl rfl rfl rfl (by first | exact QRun.opr rfl | exact QRun.idx (A := Ap) (i := K) (sz := 2) rfl rfl rfl rfl hKX hAp | exact QRun.loads rfl rfl rfl (hrx _ _) rfl | exact QRun.loads rfl rfl rfl (Rds.cut 0 2 rfl rfl) rfl | exact QRun.binr rfl rfl hE) ?_ | refine Nx.m ?_ | refine Nx.zm ?_ | refine Nx.zt (fun hc => ?_) (fun hc => ?_))
      | ((with_reducible refine GoodF.is ?_); first | refine GoodF.quiet rfl rfl rfl rfl rfl rfl (by first | exact QRun.opr rfl | exact QRun.idx (A := Ap) (i := K) (sz := 2) rfl rfl rfl rfl hKX hAp | exact QRun.loads rfl rfl rfl (hrx _ _) rfl | exact QRun.loads rfl rfl rfl (Rds.cut 0 2 rfl rfl) rfl | exact QRun.binr rfl rfl hE |  exact QRun.std) ?_ | refine GoodF.done1 rfl (fun bx => ?_) | refine GoodF.done2 rfl (fun bx by_ => ?_) | refine GoodF.done3 rfl (fun bx by_ bz => ?_))
      | ((fail_if_success (with_reducible refine Nx.is_at ?_)); (fail_if_success (with_reducible refine Nx.is_wp ?_)); (fail_if_success (with_reducible refine Nx.is_mix ?_)); first | refine Nx.ex ?_ | refine Nx.pool_nextF 0 rfl (by exact Ent.auto) ?_ | refine Nx.pool_nextF 1 rfl (by exact Ent.auto) ?_ | refine Nx.pool_nextF 2 rfl (by exact Ent.auto) ?_ | refine Nx.pool_nextF 3 rfl (by exact Ent.auto) ?_)
    exact Nx.ret_fn rfl [] ⟨rfl, rfl⟩ (by (exact Ent.auto))
end Go.Proofs.YtpcnapidlhpbkaaGreatDoor
/- Contracts of functions of the given program, and lemmas about plain lists and numbers: what the laws of this seat lean on. -/
namespace Go.Proofs.YtpcnapidlhpbkaaGreatDoor
open Go.Eng Go.Sol
attribute [local irreducible] opK wpList Code.wp Exit.then Exit.inBlock fnPost bodyPost Nx Calls Oper.wp Rd Rds Wr Ent Stars Blk Again Vec FnSpec wpMix QRun Stop Upto wpAt
/-! Right proofs pass both checks -/
theorem right_in {n m : Nat} {cell : Nat} {up : Bool} {x w : Nat → Rat} {D : Int} {q : Bl.Eqs} (hqn : q.cnt = n) (hqm : q.m = m) (hc : cell < n) (hz : Bl.PrSz q x w D) {I : PH} {b' : Nat} {A' : Option Addr} {c' : Nat} (hp : Rats I (some ⟨b', 0, none⟩) n (rl n x)) (hw : Rats I A' c' (rl m w)) :
    PrIn I ⟨cell, up, rawOf (x cell), some ⟨b', 0, none⟩, n, (rl n x).map rawOf, A', c', (rl m w).map rawOf⟩ := by
  have hle := hz.le
  have hrx : ∀ k, k < n → RB (x k) := fun k hk => by
    obtain ⟨p, h1, h2⟩ := hz.pnt k (by omega)
    exact Bl.rb_of hz.ne h1 (by omega) (by omega)
  have hrw : ∀ j, j < m → RB (w j) := fun j hj => by
    obtain ⟨p, h1, h2⟩ := hz.wgt j (by omega)
    exact Bl.rb_of hz.ne h1 (by omega) (by omega)
  refine ⟨Raws.of hp, Raws.of hw, rawOf_i64 (hrx cell hc), fun y hy => ?_, fun y hy => ?_⟩
  · obtain ⟨z, hz', rfl⟩ := List.mem_map.1 hy
    obtain ⟨j, hj, rfl⟩ := List.mem_map.1 hz'
    exact rawOf_i64 (hrx j (List.mem_range.1 hj))
  · obtain ⟨z, hz', rfl⟩ := List.mem_map.1 hy
    obtain ⟨j, hj, rfl⟩ := List.mem_map.1 hz'
    exact rawOf_i64 (hrw j (List.mem_range.1 hj))
set_option maxHeartbeats 8000000 in
theorem rcheck_right {n : Nat} {l : List EqR} {cell : Nat} {up : Bool} {x w : Nat → Rat} {D : Int} (hb : BEq n l) (hv : validB n l = true) (hc : cell < n) (h : Bl.PrOk (toQ n l) cell up x w) (hz : Bl.PrSz (toQ n l) x w D) (A : Option Addr) (c : Nat) (I : PH) (hl : Eqs I A c l) (b' : Nat) (A' : Option Addr) (c' : Nat) (hp : Rats I (some ⟨b', 0, none⟩) n (rl n x)) (hw : Rats I A' c' (rl l.length w)) :
    FnSpec Tryz.prog 15 [.int .i64 (n : Int), .slice A l.length c, proofV cell up (x cell) (.slice (some ⟨b', 0, none⟩) n n) (.slice A' l.length c')] I [] (fun v R' => v = .bool true ∧ R' = []) := by
  have := R30Check_spec (n : Int) A c l ⟨cell, up, rawOf (x cell), some ⟨b', 0, none⟩, n, (rl n x).map rawOf, A', c', (rl l.length w).map rawOf⟩ I hl (right_in rfl rfl hc hz hp hw)
  rw [chkP_ok hb hv hc h hz] at this
  unfold PrM.V at this
  dsimp only at this
  rw [List.length_map, List.length_map, rl_len, rl_len] at this
  exact this
theorem iv_lowC {W : World} {I I' : PH} {R : List Res} {A : Option Addr} {c : Nat} {L : List IvR} {k : Nat} {lo hi : Rat} {op : Bool} (h : SliceN ivC 5 I A c L) (hk : k < L.length) (he : L.getD k default = (lo, hi, op)) (hle : PH.le I I') : Rds W I' R (((ad A).add (k * 5)).add 0) (ratC lo) := by
  have := iv_low (W := W) (R := R) (h.mono hle) hk
  rwa [he] at this
theorem iv_highC {W : World} {I I' : PH} {R : List Res} {A : Option Addr} {c : Nat} {L : List IvR} {k : Nat} {lo hi : Rat} {op : Bool} (h : SliceN ivC 5 I A c L) (hk : k < L.length) (he : L.getD k default = (lo, hi, op)) (hle : PH.le I I') : Rds W I' R (((ad A).add (k * 5)).add 2) (ratC hi) := by
  have := iv_high (W := W) (R := R) (h.mono hle) hk
  rwa [he] at this
/-- What a proof of a bound is. -/
def ProofPost (n : Nat) (l : List EqR) (cell : Nat) (up : Bool) (v : Value) (R' : List Res) : Prop :=
  ∃ (x w : Nat → Rat) (D : Int) (b' : Nat) (A' : Option Addr) (c' : Nat), Bl.PrOk (toQ n l) cell up x w ∧ Bl.PrSz (toQ n l) x w D ∧ Bl.IsOpt (toQ n l) cell up (x cell) ∧ v = .tuple #[proofV cell up (x cell) (.slice (some ⟨b', 0, none⟩) n n) (.slice A' l.length c'), .int .i64 0] ∧ R' = [ratsR (some ⟨b', 0, none⟩) n n (rl n x), ratsR A' l.length c' (rl l.length w)]
set_option maxHeartbeats 8000000 in
theorem bProve_yes {n : Nat} {l : List EqR} (hb : BEq n l) (hv : validB n l = true) {cell : Nat} (hc : cell < n) {up : Bool} (hfe : ∃ x, Bl.Feas (toQ n l) x) (hnu : ¬(up = true ∧ Unb (toQ n l) cell)) (A : Option Addr) (c : Nat) (I : PH) (hl : Eqs I A c l) (hT : TabI I) :
    FnSpec Tryz.prog 30 [.int .i64 (n : Int), .slice A l.length c, .int .i64 (cell : Int), .bool up] I [] (ProofPost n l cell up) := by
  refine FnSpec.mono (bProve_spec (n : Int) A c l (cell : Int) up I hl hT) fun v R' h => ?_
  rcases h.2 (chkB_of hb hv ⟨by omega, by omega⟩) with ⟨hno, _⟩ | ⟨_, hu, _⟩ | ⟨_, _, x, w, D, b', A', c', g1, g2, g3, g4, g5⟩
  · exact absurd hfe hno
  · exact absurd hu hnu
  · exact ⟨x, w, D, b', A', c', g1, g2, g3, g4, g5⟩
set_option maxHeartbeats 8000000 in
theorem bProve_no {n : Nat} {l : List EqR} (hb : BEq n l) (hv : validB n l = true) {cell : Nat} (hc : cell < n) (hfe : ∃ x, Bl.Feas (toQ n l) x) (hu : Unb (toQ n l) cell) (A : Option Addr) (c : Nat) (I : PH) (hl : Eqs I A c l) (hT : TabI I) :
    FnSpec Tryz.prog 30 [.int .i64 (n : Int), .slice A l.length c, .int .i64 (cell : Int), .bool true] I [] (fun v R' => v = .tuple #[noProof, .int .i64 21] ∧ R' = []) := by
  refine FnSpec.mono (bProve_spec (n : Int) A c l (cell : Int) true I hl hT) fun v R' h => ?_
  rcases h.2 (chkB_of hb hv ⟨by omega, by omega⟩) with ⟨hno, _⟩ | ⟨_, _, h1, h2⟩ | ⟨_, hnu, _⟩
  · exact absurd hfe hno
  · exact ⟨h1, h2⟩
  · exact absurd ⟨rfl, hu⟩ hnu
set_option maxRecDepth 10000 in
set_option maxHeartbeats 32000000 in
theorem BoundsHold_spec (A : Option Addr) (c : Nat) (l : List Int) (I : PH) (hl : Bytes I A c l) (hx : ∀ x ∈ l, 0 ≤ x ∧ x < 256) (hT : TabI I) :
    FnSpec Tryz.prog 6 [.slice A l.length c] I [] (fun v R' => v = .bool true ∧ R' = []) := by
  have hL := bytes_take hl hx
  refine FnSpec.enterP Tryz.func6 rfl Tryz.ntmps6 rfl fun w F => ?_
  repeat' first
    | ((with_reducible refine Nx.is_wp ?_); first | refine Nx.p_stopr 3 rfl ?_ | refine Nx.wo ?_ | refine Nx.zp (fun hc => ?_) (fun hc => ?_))
    | (refine Nx.zo ?_; first | refine Nx.opr rfl rfl ?_ | (refine Nx.call (Rpre := []) rfl rfl rfl (by kernel_rfl) rfl (New_codes A c l I hl) (Ent.refl _) ?_; rintro _ _ ⟨b, rfl, rfl⟩) | (refine Nx.call rfl rfl rfl (by kernel_rfl) rfl (Equations_made8 b A c _ 0 4 I hL (Nat.zero_le _) (by omega)) (by (exact Ent.auto)) ?_; rintro _ _ ⟨N, At, ct, t, Aq, cq, qs, k1, rfl, ⟨hE, hN8⟩, hk1, rfl⟩) | refine Nx.so ?_ | refine Nx.sb (fun bx => ?_) | refine Nx.sa (fun A2 c2 => ?_))
    | ((with_reducible refine Nx.is_at ?_); first | refine Nx.a ?_ | refine Nx.zd ?_ | refine Nx.zs (fun hc => ?_) (fun hc => ?_))
    | ((with_reducible refine Nx.is_mix ?_); first | refine Nx.m ?_ | refine Nx.zm ?_ | refine Nx.zt (fun hc => ?_) (fun hc => ?_))
    | refine Nx.zx ?_ | fail
  refine Nx.unstop ?_
  refine Nx.giveEq30 (At := At) (ct := ct) (t := t) (A := Aq) (c := cq) (qs := qs) (RR := [F]) (by refine Ent.trans ?_ Ent.stars; unfold eqsR; (exact Ent.auto)) fun I1 hI1 ht hq => ?_
  have hN := hE.n
  have hfew := hE.few
  have hfeas := hE.feas
  have htn := hE.len
  have hbe := hE.beq hN8 (by omega) (by omega)
  have hvd := valid30 hN (by omega) hE.good
  have hB := bBounds_made hE hN8 (by omega) (by omega) Aq cq I1 hq (tab_mono hI1 hT)
  repeat' first
    | ((with_reducible refine Nx.is_wp ?_); first | refine Nx.p_stop 4 rfl ?_ | refine Nx.wo ?_ | refine Nx.zp (fun hc => ?_) (fun hc => ?_))
    | (refine Nx.zo ?_; first | refine Nx.opr rfl rfl ?_ | (refine Nx.call (Rpre := []) rfl rfl rfl (by kernel_rfl) rfl hB (Ent.refl _) ?_; rintro v R' ⟨A1, c1, L, hLl, hok, rfl, rfl⟩) | refine Nx.so ?_ | refine Nx.sb (fun bx => ?_) | refine Nx.sa (fun A2 c2 => ?_))
    | ((with_reducible refine Nx.is_at ?_); first | refine Nx.a ?_ | refine Nx.zd ?_ | refine Nx.zs (fun hc => ?_) (fun hc => ?_))
    | ((with_reducible refine Nx.is_mix ?_); first | refine Nx.m ?_ | refine Nx.zm ?_ | refine Nx.zt (fun hc => ?_) (fun hc => ?_))
    | refine Nx.zx ?_ | fail
  refine Nx.unstop ?_
  refine Nx.freezeAt 0 rfl fun I2 m2 hI2 hm2 hf2 => ?_
  have hIv : SliceN ivC 5 I2 A1 c1 L := Vec.sliceN (t := 50) hm2 hf2 fun _ _ => rfl
  replace hq := hq.mono hI2
  replace ht := ht.mono hI2
  have hI12 := hI1.trans hI2
  have hLN : (L.length : Int) = (N : Int) := by omega
  have htN : (t.length : Int) = (N : Int) := by omega
  repeat' first
    | ((with_reducible refine Nx.is_wp ?_); first | refine Nx.wo ?_ | refine Nx.zp (fun hc => ?_) (fun hc => ?_))
    | (refine Nx.zo ?_; first | refine Nx.opr rfl rfl ?_ | refine Nx.so ?_ | refine Nx.sb (fun bx => ?_) | refine Nx.sa (fun A2 c2 => ?_))
    | ((with_reducible refine Nx.is_at ?_); first | refine Nx.a ?_ | refine Nx.zd ?_ | refine Nx.zs (fun hc => ?_) (fun hc => ?_))
    | ((with_reducible refine Nx.is_mix ?_); first | refine Nx.m ?_ | refine Nx.zm ?_ | refine Nx.zt (fun hc => ?_) (fun hc => ?_))
    | refine Nx.zx ?_ | fail
  refine Nx.p_loop (σ := Nat) (fun i => [(4, .int .i64 (N : Int)), (5, .slice At t.length ct), (6, .slice Aq qs.length cq), (7, .slice A1 L.length c1), (44, .int .i64 L.length), (45, .int .i64 (i : Int))])
    (fun _ => [F]) (fun i => i ≤ L.length) (fun i => L.length - i) 0 rfl (Nat.zero_le _) ⟨rfl, rfl, rfl, rfl, rfl, rfl, trivial⟩ (by (exact Ent.auto)) ?_
  intro i hi
  have hi : i ≤ L.length := hi
  by_cases him : i < L.length
  case neg =>
    repeat' first
      | ((with_reducible refine Nx.is_wp ?_); first | refine Nx.wo ?_ | refine Nx.zp (fun hc => ?_) (fun hc => ?_))
      | (refine Nx.zo ?_; first | refine Nx.opr rfl rfl ?_ | refine Nx.callv rfl rfl rfl (by kernel_rfl) rfl (awakeB_spec _ (tab_mono hI12 hT)) ?_ | refine Nx.so ?_ | refine Nx.sb (fun bx => ?_) | refine Nx.sa (fun A2 c2 => ?_))
      | ((with_reducible refine Nx.is_at ?_); first | refine Nx.a ?_ | refine Nx.zd ?_ | refine Nx.zs (fun hc => ?_) (fun hc => ?_))
      | ((with_reducible refine Nx.is_mix ?_); first | refine Nx.m ?_ | refine Nx.zm ?_ | refine Nx.zt (fun hc => ?_) (fun hc => ?_))
      | refine Nx.zx ?_ | fail
    exact Nx.imm_le hI12 (Nx.ret_fn rfl [] ⟨rfl, rfl⟩ (by (exact Ent.auto)))
  have hiN : i < N := by omega
  have hit : i < t.length := by omega
  have htd : ∀ (W : World) (R : List Res), Rd W I2 R ((ad At).add (i * 1)) (.int .i64 (t.getD i default)) := fun W R => ht.rd hit
  have hAt := ht.isSome (by omega)
  have hA1 := hIv.isSome (by omega) (by omega)
  have htb := hE.tab i hit
  have htF : tabF t i = ((t.getD i default : Int) : Rat) := rfl
  have hoki := hok i hiN
  have hl0 := fun (W : World) (R : List Res) => iv_low (W := W) (R := R) hIv him
  have hl2 := fun (W : World) (R : List Res) => iv_high (W := W) (R := R) hIv him
  have hop := fun (W : World) (R : List Res) => iv_open (W := W) (R := R) hIv him
  have hlow := hoki.low.low hfeas
  have hlnn := hoki.low.nonneg hiN
  have hP1 := bProve_yes (up := false) hbe hvd hiN ⟨_, hfeas⟩ (fun h => Bool.noConfusion h.1) Aq cq I2 hq (tab_mono hI12 hT)
  have hP2 := fun I3 (hI3 : PH.le I2 I3) (hnu : ¬ Unb (toQ N qs) i) => bProve_yes (up := true) hbe hvd hiN ⟨_, hfeas⟩ (fun h => hnu h.2) Aq cq I3 (hq.mono hI3) (tab_mono (hI12.trans hI3) hT)
  have hP3 := fun I3 (hI3 : PH.le I2 I3) (hu : Unb (toQ N qs) i) => bProve_no hbe hvd hiN ⟨_, hfeas⟩ hu Aq cq I3 (hq.mono hI3) (tab_mono (hI12.trans hI3) hT)
  have hhigh : (L.getD i default).2.2 = false → tabF t i ≤ (L.getD i default).2.1 := fun h => (hoki.high h).high hfeas
  have hhopt := hoki.high
  have hlopt := hoki.low
  have hopn := hoki.opn
  have hr1 := hoki.rlow
  have hr2 := hoki.rhigh
  rw [htF] at hlow hhigh
  generalize t.getD i default = ti at htd htb hlow hhigh
  have hRt : RB (ti : Rat) := RB_int (by omega)
  generalize hivd0 : L.getD i default = iv at hl0 hl2 hop hlow hlnn hhigh hhopt hlopt hopn hr1 hr2
  clear hoki htF
  obtain ⟨lo, hi', op⟩ := iv
  have hIv0 := hivd0
  dsimp only at hl0 hl2 hop hlow hlnn hhigh hhopt hlopt hopn hr1 hr2
  have hLs1 := rLess_rat (ti : Rat) lo hRt hr1 I2
  rw [decide_eq_false (Rat.not_lt.2 hlow)] at hLs1
  have hl00 := fun (W : World) (R : List Res) => Rds.get (hl0 W R) 0 (u := .int .i64 lo.num) rfl
  have hn0 : ¬ lo.num < 0 := by
    have := Rat.num_nonneg.2 hlnn
    omega
  have hLs2 : op = false → FnSpec Tryz.prog 19 [ratV hi', ratV (ti : Rat)] I2 [] (fun v R' => v = .bool false ∧ R' = []) := fun h => by
    have := rLess_rat hi' (ti : Rat) hr2 hRt I2
    rwa [decide_eq_false (Rat.not_lt.2 (hhigh h))] at this
  cases op with
  | true =>
    have hu := hopn.1 rfl
    repeat' first
      | ((with_reducible refine Nx.is_wp ?_); first | refine Nx.p_stopr 13 rfl ?_ | refine Nx.wo ?_ | refine Nx.p_drawF (id := 10) rfl [0, 1, 2, 3, 4, 5, 6, 7, 8, 9, 10, 11, 12, 13, 14, 15, 16, 17, 18, 19, 20, 21, 22, 23, 24, 25, 26, 27, 28, 29, 30, 31, 32] [6, 21] [] _ rfl rfl (by kernel_rfl) (by kernel_rfl) rfl (by repeat first | exact PanicOk.fn | refine PanicOk.then_ ?_ | refine PanicOk.inB ?_) (Ent.refl _) ?_ | refine Nx.p_drawF (id := 14) rfl [0, 1, 2, 3, 4, 5, 6, 7, 8, 9, 10, 11, 12, 13, 14, 15, 16, 17, 18, 19, 20, 21, 22, 23, 24, 25, 26, 27, 28, 29, 30, 31, 32, 33, 34, 35, 36, 37, 38, 39, 40, 41, 42, 43, 44, 45, 46, 47, 48, 49] [16, 45] [] _ rfl rfl (by kernel_rfl) (by kernel_rfl) rfl (by repeat first | exact PanicOk.fn | refine PanicOk.then_ ?_ | refine PanicOk.inB ?_) (Ent.refl _) ?_ | refine Nx.zp (fun hc => ?_) (fun hc => ?_))
      | (refine Nx.zo ?_; first | refine Nx.opr rfl rfl ?_ | refine Nx.indexAddr_nat (A := At) (i := i) (sz := 1) rfl rfl rfl rfl rfl hit hAt ?_ | refine Nx.load rfl rfl rfl (htd _ _) ?_ | refine Nx.callv rfl rfl rfl (by kernel_rfl) rfl hLs1 ?_ | (refine Nx.call (Rpre := []) rfl rfl rfl (by kernel_rfl) rfl hP1 (Ent.refl _) ?_; rintro v R' ⟨x, wt, D, b', A', c', g1, g2, g3, rfl, rfl⟩) | refine Nx.so ?_ | refine Nx.sb (fun bx => ?_) | refine Nx.sa (fun A2 c2 => ?_))
      | ((with_reducible refine Nx.is_at ?_); first | refine Nx.a ?_ | refine Nx.zd ?_ | refine Nx.zs (fun hc => ?_) (fun hc => ?_))
      | ((with_reducible refine Nx.is_mix ?_); first | refine Nx.m_quiet rfl rfl rfl rfl rfl (by first | exact QRun.fld (A := (ad A1).add (i * 5)) rfl rfl | exact QRun.fld (A := ((ad A1).add (i * 5)).add 0) rfl rfl | exact QRun.opr rfl | exact QRun.idx (A := A1) (i := i) (sz := 5) rfl rfl rfl rfl him hA1 | exact QRun.loads rfl rfl rfl (hl0 _ _) rfl | exact QRun.load rfl rfl (hop _ _) | exact QRun.load rfl rfl (hl00 _ _) | exact QRun.loads rfl rfl rfl (Rds.cut 0 2 rfl rfl) rfl) ?_ | refine Nx.m_quiet_do rfl rfl rfl rfl rfl rfl rfl (by first | exact QRun.fld (A := (ad A1).add (i * 5)) rfl rfl | exact QRun.fld (A := ((ad A1).add (i * 5)).add 0) rfl rfl | exact QRun.opr rfl | exact QRun.idx (A := A1) (i := i) (sz := 5) rfl rfl rfl rfl him hA1 | exact QRun.loads rfl rfl rfl (hl0 _ _) rfl | exact QRun.load rfl rfl (hop _ _) | exact QRun.load rfl rfl (hl00 _ _) | exact QRun.loads rfl rfl rfl (Rds.cut 0 2 rfl rfl) rfl) ?_ | refine Nx.m ?_ | refine Nx.zm ?_ | refine Nx.zt (fun hc => ?_) (fun hc => ?_))
      | refine Nx.zx ?_ | fail
    refine Nx.unstop ?_
    revert bx; intro b11
    have hxl : x i = lo := g3.uniq hlopt
    rw [hxl]
    refine Nx.ent (R' := [ratsR (some ⟨b', 0, none⟩) N N (rl N x), ratsR A' qs.length c' (rl qs.length wt), Blk b11 27 [.int .i64 (i : Int), .bool false, .int .i64 lo.num, .int .i64 lo.den, .slice (some ⟨b', 0, none⟩) N N, .slice A' qs.length c'], F]) (by (exact Ent.auto)) ?_
    refine Nx.freezeAt 0 rfl fun I3 m3 hI3 hm3 hf3 => ?_
    refine Nx.freezeAt 0 rfl fun I4 m4 hI4 hm4 hf4 => ?_
    have hI24 := hI3.trans hI4
    have hC1' := fun (J : PH) (hJ : PH.le I4 J) => rcheck_right hbe hvd hiN g1 g2 Aq cq J (hq.mono (hI24.trans hJ)) b' A' c' (Vec.sliceN (t := 24) ((hm3.trans hI4).trans hJ) (by rw [rl_len]; exact hf3) fun _ _ => rfl) (Vec.sliceN (t := 24) (hm4.trans hJ) (by rw [rl_len]; exact hf4) fun _ _ => rfl)
    rw [hxl] at hC1'
    have hC1 := hC1' I4 (PH.le_refl _)
    replace hl0 := fun (W : World) (R : List Res) => iv_lowC (W := W) (R := R) hIv him hIv0 hI24
    have hE1 := fun {x y : Operand} (w : World) => neq_fracK (x := x) (y := y) lo.num lo.den lo.num lo.den false (decide_eq_false fun hh => hh ⟨rfl, rfl⟩) w
    have hop4 : ∀ (W : World) (R : List Res), Rd W I4 R (((ad A1).add (i * 5)).add 4) (.bool true) := fun W R => by
      have := iv_open (W := W) (R := R) (hIv.mono hI24) him
      rwa [hivd0] at this
    have hBn := fun {x y : Operand} (w : World) => (run_boolne (t := 4) (x := x) (y := y) Tryz.underlying4 (decide ((21 : Int) = 21)) true w).trans (show _ = Result.ok (Value.bool false) w from rfl)
    repeat' first
      | ((with_reducible refine Nx.is_wp ?_); first | refine Nx.wo ?_ | refine Nx.zp (fun hc => ?_) (fun hc => ?_))
      | (refine Nx.zo ?_; first | refine Nx.opr rfl rfl ?_ | (refine Nx.call (Rpre := []) rfl rfl rfl (by kernel_rfl) rfl (hP3 I4 hI24 hu) (Ent.refl _) ?_; rintro v R' ⟨rfl, rfl⟩) | refine Nx.so ?_ | refine Nx.sb (fun bx => ?_) | refine Nx.sa (fun A2 c2 => ?_))
      | ((with_reducible refine Nx.is_at ?_); first | refine Nx.a ?_ | refine Nx.zd ?_ | refine Nx.zs (fun hc => ?_) (fun hc => ?_))
      | ((with_reducible refine Nx.is_mix ?_); first | refine Nx.m ?_ | refine Nx.zm ?_ | refine Nx.zt (fun hc => ?_) (fun hc => ?_))
      | refine Nx.zx ?_ | fail
    repeat' first
      | ((with_reducible refine Nx.is_wp ?_); first | refine Nx.wo ?_ | refine Nx.p_drawF (id := 10) rfl [0, 1, 2, 3, 4, 5, 6, 7, 8, 9, 10, 11, 12, 13, 14, 15, 16, 17, 18, 19, 20, 21, 22, 23, 24, 25, 26, 27, 28, 29, 30, 31, 32] [6, 21] [] _ rfl rfl (by kernel_rfl) (by kernel_rfl) rfl (by repeat first | exact PanicOk.fn | refine PanicOk.then_ ?_ | refine PanicOk.inB ?_) (Ent.refl _) ?_ | refine Nx.p_drawF (id := 14) rfl [0, 1, 2, 3, 4, 5, 6, 7, 8, 9, 10, 11, 12, 13, 14, 15, 16, 17, 18, 19, 20, 21, 22, 23, 24, 25, 26, 27, 28, 29, 30, 31, 32, 33, 34, 35, 36, 37, 38, 39, 40, 41, 42, 43, 44, 45, 46, 47, 48, 49] [16, 45] [] _ rfl rfl (by kernel_rfl) (by kernel_rfl) rfl (by repeat first | exact PanicOk.fn | refine PanicOk.then_ ?_ | refine PanicOk.inB ?_) (Ent.refl _) ?_ | refine Nx.zp (fun hc => ?_) (fun hc => ?_))
      | (refine Nx.zo ?_; first | refine Nx.opr rfl rfl ?_ | refine Nx.callv rfl rfl rfl (by kernel_rfl) rfl hC1 ?_ | refine Nx.so ?_ | refine Nx.sb (fun bx => ?_) | refine Nx.sa (fun A2 c2 => ?_))
      | ((with_reducible refine Nx.is_at ?_); first | refine Nx.a ?_ | refine Nx.zd ?_ | refine Nx.zs (fun hc => ?_) (fun hc => ?_))
      | ((with_reducible refine Nx.is_mix ?_); first | refine Nx.m_quiet rfl rfl rfl rfl rfl (by first | exact QRun.fld (A := (ad A1).add (i * 5)) rfl rfl | exact QRun.binr rfl rfl hE1 | exact QRun.binr rfl rfl hBn | exact QRun.opr rfl | exact QRun.idx (A := A1) (i := i) (sz := 5) rfl rfl rfl rfl him hA1 | exact QRun.loads rfl rfl rfl (hl0 _ _) rfl | exact QRun.load rfl rfl (hop4 _ _) | exact QRun.loads rfl rfl rfl (Rds.cut 1 2 rfl rfl) rfl | exact QRun.loads rfl rfl rfl (Rds.cut 1 6 rfl rfl) rfl) ?_ | refine Nx.m_quiet_do rfl rfl rfl rfl rfl rfl rfl (by first | exact QRun.fld (A := (ad A1).add (i * 5)) rfl rfl | exact QRun.binr rfl rfl hE1 | exact QRun.binr rfl rfl hBn | exact QRun.opr rfl | exact QRun.idx (A := A1) (i := i) (sz := 5) rfl rfl rfl rfl him hA1 | exact QRun.loads rfl rfl rfl (hl0 _ _) rfl | exact QRun.load rfl rfl (hop4 _ _) | exact QRun.loads rfl rfl rfl (Rds.cut 1 2 rfl rfl) rfl | exact QRun.loads rfl rfl rfl (Rds.cut 1 6 rfl rfl) rfl) ?_ | refine Nx.m ?_ | refine Nx.zm ?_ | refine Nx.zt (fun hc => ?_) (fun hc => ?_))
      | refine Nx.zx ?_ | fail
    exact Nx.imm_le hI24 (Nx.again (i + 1) him (by omega) ⟨rfl, rfl, rfl, rfl, rfl, rfl, trivial⟩ (by (exact Ent.auto)))
  | false =>
    have hnu : ¬ Unb (toQ N qs) i := fun h => Bool.noConfusion (hopn.2 h)
    have hL2 := hLs2 rfl
    repeat' first
      | ((with_reducible refine Nx.is_wp ?_); first | refine Nx.p_stopr 13 rfl ?_ | refine Nx.wo ?_ | refine Nx.p_drawF (id := 10) rfl [0, 1, 2, 3, 4, 5, 6, 7, 8, 9, 10, 11, 12, 13, 14, 15, 16, 17, 18, 19, 20, 21, 22, 23, 24, 25, 26, 27, 28, 29, 30, 31, 32] [6, 21] [] _ rfl rfl (by kernel_rfl) (by kernel_rfl) rfl (by repeat first | exact PanicOk.fn | refine PanicOk.then_ ?_ | refine PanicOk.inB ?_) (Ent.refl _) ?_ | refine Nx.p_drawF (id := 14) rfl [0, 1, 2, 3, 4, 5, 6, 7, 8, 9, 10, 11, 12, 13, 14, 15, 16, 17, 18, 19, 20, 21, 22, 23, 24, 25, 26, 27, 28, 29, 30, 31, 32, 33, 34, 35, 36, 37, 38, 39, 40, 41, 42, 43, 44, 45, 46, 47, 48, 49] [16, 45] [] _ rfl rfl (by kernel_rfl) (by kernel_rfl) rfl (by repeat first | exact PanicOk.fn | refine PanicOk.then_ ?_ | refine PanicOk.inB ?_) (Ent.refl _) ?_ | refine Nx.zp (fun hc => ?_) (fun hc => ?_))
      | (refine Nx.zo ?_; first | refine Nx.opr rfl rfl ?_ | refine Nx.indexAddr_nat (A := At) (i := i) (sz := 1) rfl rfl rfl rfl rfl hit hAt ?_ | refine Nx.load rfl rfl rfl (htd _ _) ?_ | refine Nx.callv rfl rfl rfl (by kernel_rfl) rfl hLs1 ?_ | refine Nx.callv rfl rfl rfl (by kernel_rfl) rfl hL2 ?_ | (refine Nx.call (Rpre := []) rfl rfl rfl (by kernel_rfl) rfl hP1 (Ent.refl _) ?_; rintro v R' ⟨x, wt, D, b', A', c', g1, g2, g3, rfl, rfl⟩) | refine Nx.so ?_ | refine Nx.sb (fun bx => ?_) | refine Nx.sa (fun A2 c2 => ?_))
      | ((with_reducible refine Nx.is_at ?_); first | refine Nx.a ?_ | refine Nx.zd ?_ | refine Nx.zs (fun hc => ?_) (fun hc => ?_))
      | ((with_reducible refine Nx.is_mix ?_); first | refine Nx.m_quiet rfl rfl rfl rfl rfl (by first | exact QRun.fld (A := (ad A1).add (i * 5)) rfl rfl | exact QRun.fld (A := ((ad A1).add (i * 5)).add 0) rfl rfl | exact QRun.opr rfl | exact QRun.idx (A := A1) (i := i) (sz := 5) rfl rfl rfl rfl him hA1 | exact QRun.loads rfl rfl rfl (hl0 _ _) rfl | exact QRun.load rfl rfl (hop _ _) | exact QRun.load rfl rfl (hl00 _ _) | exact QRun.loads rfl rfl rfl (Rds.cut 0 2 rfl rfl) rfl | exact QRun.loads rfl rfl rfl (hl2 _ _) rfl) ?_ | refine Nx.m_quiet_do rfl rfl rfl rfl rfl rfl rfl (by first | exact QRun.fld (A := (ad A1).add (i * 5)) rfl rfl | exact QRun.fld (A := ((ad A1).add (i * 5)).add 0) rfl rfl | exact QRun.opr rfl | exact QRun.idx (A := A1) (i := i) (sz := 5) rfl rfl rfl rfl him hA1 | exact QRun.loads rfl rfl rfl (hl0 _ _) rfl | exact QRun.load rfl rfl (hop _ _) | exact QRun.load rfl rfl (hl00 _ _) | exact QRun.loads rfl rfl rfl (Rds.cut 0 2 rfl rfl) rfl | exact QRun.loads rfl rfl rfl (hl2 _ _) rfl) ?_ | refine Nx.m ?_ | refine Nx.zm ?_ | refine Nx.zt (fun hc => ?_) (fun hc => ?_))
      | refine Nx.zx ?_ | fail
    refine Nx.unstop ?_
    revert bx; intro b11
    have hxl : x i = lo := g3.uniq hlopt
    rw [hxl]
    refine Nx.ent (R' := [ratsR (some ⟨b', 0, none⟩) N N (rl N x), ratsR A' qs.length c' (rl qs.length wt), Blk b11 27 [.int .i64 (i : Int), .bool false, .int .i64 lo.num, .int .i64 lo.den, .slice (some ⟨b', 0, none⟩) N N, .slice A' qs.length c'], F]) (by (exact Ent.auto)) ?_
    refine Nx.freezeAt 0 rfl fun I3 m3 hI3 hm3 hf3 => ?_
    refine Nx.freezeAt 0 rfl fun I4 m4 hI4 hm4 hf4 => ?_
    have hI24 := hI3.trans hI4
    have hC1' := fun (J : PH) (hJ : PH.le I4 J) => rcheck_right hbe hvd hiN g1 g2 Aq cq J (hq.mono (hI24.trans hJ)) b' A' c' (Vec.sliceN (t := 24) ((hm3.trans hI4).trans hJ) (by rw [rl_len]; exact hf3) fun _ _ => rfl) (Vec.sliceN (t := 24) (hm4.trans hJ) (by rw [rl_len]; exact hf4) fun _ _ => rfl)
    rw [hxl] at hC1'
    have hC1 := hC1' I4 (PH.le_refl _)
    replace hl0 := fun (W : World) (R : List Res) => iv_lowC (W := W) (R := R) hIv him hIv0 hI24
    have hE1 := fun {x y : Operand} (w : World) => neq_fracK (x := x) (y := y) lo.num lo.den lo.num lo.den false (decide_eq_false fun hh => hh ⟨rfl, rfl⟩) w
    repeat' first
      | ((with_reducible refine Nx.is_wp ?_); first | refine Nx.wo ?_ | refine Nx.zp (fun hc => ?_) (fun hc => ?_))
      | (refine Nx.zo ?_; first | refine Nx.opr rfl rfl ?_ | (refine Nx.call (Rpre := []) rfl rfl rfl (by kernel_rfl) rfl (hP2 I4 hI24 hnu) (Ent.refl _) ?_; rintro v R' ⟨x2, wt2, D2, b2', A2', c2', k1, k2, k3, rfl, rfl⟩) | refine Nx.so ?_ | refine Nx.sb (fun bx => ?_) | refine Nx.sa (fun A2 c2 => ?_))
      | ((with_reducible refine Nx.is_at ?_); first | refine Nx.a ?_ | refine Nx.zd ?_ | refine Nx.zs (fun hc => ?_) (fun hc => ?_))
      | ((with_reducible refine Nx.is_mix ?_); first | refine Nx.m ?_ | refine Nx.zm ?_ | refine Nx.zt (fun hc => ?_) (fun hc => ?_))
      | refine Nx.zx ?_ | fail
    revert bx; intro b13
    have hxh : x2 i = hi' := k3.uniq (hhopt rfl)
    rw [hxh]
    refine Nx.ent (R' := [ratsR (some ⟨b2', 0, none⟩) N N (rl N x2), ratsR A2' qs.length c2' (rl qs.length wt2), Blk b13 27 [.int .i64 (i : Int), .bool true, .int .i64 hi'.num, .int .i64 hi'.den, .slice (some ⟨b2', 0, none⟩) N N, .slice A2' qs.length c2'], Blk b11 27 [.int .i64 (i : Int), .bool false, .int .i64 lo.num, .int .i64 lo.den, .slice (some ⟨b', 0, none⟩) N N, .slice A' qs.length c'], F]) (by (exact Ent.auto)) ?_
    refine Nx.freezeAt 0 rfl fun I5 m5 hI5 hm5 hf5 => ?_
    refine Nx.freezeAt 0 rfl fun I6 m6 hI6 hm6 hf6 => ?_
    have hI46 := hI5.trans hI6
    have hI26 := hI24.trans hI46
    have hC2 := rcheck_right hbe hvd hiN k1 k2 Aq cq I6 (hq.mono hI26) b2' A2' c2' (Vec.sliceN (t := 24) (hm5.trans hI6) (by rw [rl_len]; exact hf5) fun _ _ => rfl) (Vec.sliceN (t := 24) hm6 (by rw [rl_len]; exact hf6) fun _ _ => rfl)
    rw [hxh] at hC2
    replace hC1 := hC1' I6 hI46
    replace hl0 := fun (W : World) (R : List Res) => iv_lowC (W := W) (R := R) hIv him hIv0 hI26
    have hl26 := fun (W : World) (R : List Res) => iv_highC (W := W) (R := R) hIv him hIv0 hI26
    have hop6 : ∀ (W : World) (R : List Res), Rd W I6 R (((ad A1).add (i * 5)).add 4) (.bool false) := fun W R => by
      have := iv_open (W := W) (R := R) (hIv.mono hI26) him
      rwa [hivd0] at this
    have hBn := fun {x y : Operand} (w : World) => (run_boolne (t := 4) (x := x) (y := y) Tryz.underlying4 (decide ((0 : Int) = 21)) false w).trans (show _ = Result.ok (Value.bool false) w from rfl)
    have hE2 := fun {x y : Operand} (w : World) => neq_fracK (x := x) (y := y) hi'.num hi'.den hi'.num hi'.den false (decide_eq_false fun hh => hh ⟨rfl, rfl⟩) w
    repeat' first
      | ((with_reducible refine Nx.is_wp ?_); first | refine Nx.wo ?_ | refine Nx.p_drawF (id := 10) rfl [0, 1, 2, 3, 4, 5, 6, 7, 8, 9, 10, 11, 12, 13, 14, 15, 16, 17, 18, 19, 20, 21, 22, 23, 24, 25, 26, 27, 28, 29, 30, 31, 32] [6, 21] [] _ rfl rfl (by kernel_rfl) (by kernel_rfl) rfl (by repeat first | exact PanicOk.fn | refine PanicOk.then_ ?_ | refine PanicOk.inB ?_) (Ent.refl _) ?_ | refine Nx.p_drawF (id := 14) rfl [0, 1, 2, 3, 4, 5, 6, 7, 8, 9, 10, 11, 12, 13, 14, 15, 16, 17, 18, 19, 20, 21, 22, 23, 24, 25, 26, 27, 28, 29, 30, 31, 32, 33, 34, 35, 36, 37, 38, 39, 40, 41, 42, 43, 44, 45, 46, 47, 48, 49] [16, 45] [] _ rfl rfl (by kernel_rfl) (by kernel_rfl) rfl (by repeat first | exact PanicOk.fn | refine PanicOk.then_ ?_ | refine PanicOk.inB ?_) (Ent.refl _) ?_ | refine Nx.zp (fun hc => ?_) (fun hc => ?_))
      | (refine Nx.zo ?_; first | refine Nx.opr rfl rfl ?_ | refine Nx.callv rfl rfl rfl (by kernel_rfl) rfl hC1 ?_ | refine Nx.callv rfl rfl rfl (by kernel_rfl) rfl hC2 ?_ | refine Nx.so ?_ | refine Nx.sb (fun bx => ?_) | refine Nx.sa (fun A2 c2 => ?_))
      | ((with_reducible refine Nx.is_at ?_); first | refine Nx.a ?_ | refine Nx.zd ?_ | refine Nx.zs (fun hc => ?_) (fun hc => ?_))
      | ((with_reducible refine Nx.is_mix ?_); first | refine Nx.m_quiet rfl rfl rfl rfl rfl (by first | exact QRun.fld (A := (ad A1).add (i * 5)) rfl rfl | exact QRun.opr rfl | exact QRun.idx (A := A1) (i := i) (sz := 5) rfl rfl rfl rfl him hA1 | exact QRun.loads rfl rfl rfl (hl0 _ _) rfl | exact QRun.loads rfl rfl rfl (hl26 _ _) rfl | exact QRun.load rfl rfl (hop6 _ _) | exact QRun.loads rfl rfl rfl (Rds.cut 0 2 rfl rfl) rfl | exact QRun.loads rfl rfl rfl (Rds.cut 1 2 rfl rfl) rfl | exact QRun.loads rfl rfl rfl (Rds.cut 0 6 rfl rfl) rfl | exact QRun.loads rfl rfl rfl (Rds.cut 1 6 rfl rfl) rfl | exact QRun.binr rfl rfl hE1 | exact QRun.binr rfl rfl hE2 | exact QRun.binr rfl rfl hBn) ?_ | refine Nx.m_quiet_do rfl rfl rfl rfl rfl rfl rfl (by first | exact QRun.fld (A := (ad A1).add (i * 5)) rfl rfl | exact QRun.opr rfl | exact QRun.idx (A := A1) (i := i) (sz := 5) rfl rfl rfl rfl him hA1 | exact QRun.loads rfl rfl rfl (hl0 _ _) rfl | exact QRun.loads rfl rfl rfl (hl26 _ _) rfl | exact QRun.load rfl rfl (hop6 _ _) | exact QRun.loads rfl rfl rfl (Rds.cut 0 2 rfl rfl) rfl | exact QRun.loads rfl rfl rfl (Rds.cut 1 2 rfl rfl) rfl | exact QRun.loads rfl rfl rfl (Rds.cut 0 6 rfl rfl) rfl | exact QRun.loads rfl rfl rfl (Rds.cut 1 6 rfl rfl) rfl | exact QRun.binr rfl rfl hE1 | exact QRun.binr rfl rfl hE2 | exact QRun.binr rfl rfl hBn) ?_ | refine Nx.m ?_ | refine Nx.zm ?_ | refine Nx.zt (fun hc => ?_) (fun hc => ?_))
      | refine Nx.zx ?_ | fail
    exact Nx.imm_le hI26 (Nx.again (i + 1) him (by omega) ⟨rfl, rfl, rfl, rfl, rfl, rfl, trivial⟩ (by (exact Ent.auto)))
end Go.Proofs.YtpcnapidlhpbkaaGreatDoor
/- Contracts of functions of the given program, and lemmas about plain lists and numbers: what the laws of this seat lean on. -/
namespace Go.Proofs.YtpcnapidlhpbkaaGreatDoor
open Go.Eng
/-! The table that the program reads -/
theorem g64 : Tryz.prog.globalNamed  "math/bits.deBruijn64tab" = some 1 := by kernel_rfl
theorem g64T : (Tryz.prog.globals[1]?).map (·.type) = some 291 := by kernel_rfl
theorem c5 : Tryz.prog.cellsOf 5 = 1 := by kernel_rfl
theorem c79 : Tryz.prog.cellsOf 291 = 64 := by kernel_rfl
abbrev laid1 : List (String × DataW Unit) := [("math/bits.deBruijn64tab", Rows.laid_math_bits_deBruijn64tab)]
def setBlk (cs : List Value) : Obj → Obj
  | .cells _ t frozen => .cells cs.toArray t frozen
  | o => o
/-- The settled world, the table holding what its initialiser lays: the witness. -/
noncomputable def laidWorld (os : Os) : World :=
  { World.holding Tryz.prog os ⟨#[], #[], []⟩ with heap := (World.holding Tryz.prog os ⟨#[], #[], []⟩).heap.modify 1 (setBlk (Lib.deBruijn64tab.map fun z : Nat => Value.int .u8 z)) }
theorem laidWorld_met (os : Os) (args : Array Value) : laidMetH Tryz.prog laid1 ((laidWorld os).forCall (fun _ _ => 0) ⟨#[], args, []⟩).memory :=
  laidMetH_of_parts (laidMet_of_run' 8 (by kernel_rfl) (by kernel_rfl)) (by kernel_rfl)
theorem heap_keep {W w0 w : World} {R : List Res} (h : St w0 (fun i => W.heap[i]?) R w) {i : Nat} {o : Obj} (ho : W.heap[i]? = some o) : w.heap[i]? = some o := by
  obtain ⟨m, _, hs⟩ := h.mem
  exact hs.imm i o ho
theorem var_keep {W w0 w : World} {R : List Res} (h : St w0 (fun i => W.heap[i]?) R w) {P : Program} {name : String} {k : IntKind} {zs : List Int} (ht : Lib.TabIs P W name k zs) : Lib.TabIs P w name k zs := by
  unfold Lib.TabIs World.var? at *
  cases hg : P.globalNamed name with
  | none => simp [hg] at ht
  | some g =>
    simp only [hg, Option.bind_some] at ht ⊢
    cases ho : W.heap[g]? with
    | none => rw [ho] at ht; simp at ht
    | some o => rw [heap_keep h ho]; rw [ho] at ht; exact ht
theorem tab_of {W : World} (h : laidMetH Tryz.prog laid1 W) : TabI (fun i => W.heap[i]?) := fun _ _ _ hst j hj => by
  have h1 : Lib.TabIs Tryz.prog W  "math/bits.deBruijn64tab" .u8 (Lib.deBruijn64tab.map fun z : Nat => (z : Int)) := Lib.tabIs_of_head g64 g64T Tryz.underlying291 Tryz.underlying5 c5 c79 (h : laidMet Tryz.prog laid1 W)
  have h2 := (var_keep hst h1).cell g64 j (by rw [List.length_map]; exact hj)
  rw [show (Lib.deBruijn64tab.map fun z : Nat => (z : Int)).getD j 0 = ((Lib.deBruijn64tab.getD j 0 : Nat) : Int) by
    rw [List.getD_eq_getElem?_getD, List.getD_eq_getElem?_getD, List.getElem?_map]
    cases Lib.deBruijn64tab[j]? <;> rfl] at h2
  exact h2
end Go.Proofs.YtpcnapidlhpbkaaGreatDoor
