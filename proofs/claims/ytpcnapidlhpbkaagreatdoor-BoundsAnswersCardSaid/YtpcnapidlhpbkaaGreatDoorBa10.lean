/- Contracts of functions of the given program, and lemmas. -/
import Derived.Test.YtpcnapidlhpbkaaGreatDoorBa9
set_option maxHeartbeats 32000000
namespace Go.Proofs.YtpcnapidlhpbkaaGreatDoor
open Go.Eng Go.Sol
attribute [local irreducible] opK wpList Code.wp Exit.then Exit.inBlock fnPost bodyPost Nx Calls Oper.wp Rd Rds Wr Ent Stars Blk Again Vec FnSpec wpMix QRun Stop Upto wpAt
set_option maxRecDepth 10000 in
theorem rchk17 (w0 : World) (F : Res) (n : Nat) (A : Option Addr) (c : Nat) (l : List EqR) (cell : Int) (up : Bool) (b : Rat) (Ap : Option Addr) (cp : Nat) (X : List Rat) (Aw : Option Addr) (cw : Nat) (w : List Rat) (I : PH) (b5 : Nat) (hn : n ≤ 48) (hl9 : l.length ≤ 1152) (hl : Eqs I A c l) (hg : ∀ q ∈ l, GoodE n q) (hpx : Rats I Ap cp X) (hpn : X.length = n) (hX : ∀ y ∈ X, RB y) (hw : Rats I Aw cw w) (hwl : w.length = l.length) (hwr : ∀ y ∈ w, RB y) :
    Nx ⟨Tryz.prog, 245, w0⟩ [(0, .int .i64 (n : Int)), (1, .slice A l.length c), (5, .pointer (some ⟨b5, 0, none⟩))] I [Blk b5 27 (prC cell up b Ap X.length cp Aw l.length cw), F]
      (Code.wp Tryz.prog (cr (cr (cr (cr (cr (bodyOf Tryz.f15)))))) (fnPost Tryz.prog Tryz.f15 I F w0 (fun v R' => v = .bool (l.all (eqnB X) && weighB l w b && (List.range n).all (exclB l w cell up)) ∧ R' = []))) := by
  have hlen := hl.len
  repeat' first
    | ((with_reducible refine Nx.is_wp ?_); first | refine Nx.wo ?_ | refine Nx.zp (fun hc => ?_) (fun hc => ?_))
    | (refine Nx.zo ?_; first | refine Nx.opr rfl rfl ?_ | refine Nx.so ?_ | refine Nx.sb (fun bx => ?_) | refine Nx.sa (fun A2 c2 => ?_))
    | refine Nx.za ?_ | refine Nx.zr (fun hc => ?_) (fun hc => ?_)
    | refine Nx.zq ?_ | refine Nx.zu (fun hc => ?_) (fun hc => ?_)
    | refine Nx.zx ?_ | fail
  refine Nx.p_loop (σ := Nat × (Option Addr × Nat)) (fun z => [(0, .int .i64 (n : Int)), (1, .slice A l.length c), (5, .pointer (some ⟨b5, 0, none⟩)), (11, .slice z.2.1 z.1 z.2.2), (112, .slice A l.length c), (113, .int .i64 l.length), (114, .int .i64 (z.1 : Int))])
    (fun z => [Vec 24 2 z.2.1 z.1 z.2.2 (((mulL l w).take z.1).flatMap ratC), Blk b5 27 (prC cell up b Ap X.length cp Aw l.length cw), F]) (fun z => z.1 ≤ l.length ∧ (l.take z.1).all (eqnB X) = true ∧ ∀ y ∈ (mulL l w).take z.1, RB y) (fun z => l.length - z.1) (0, (none, 0)) rfl ⟨Nat.zero_le _, by rw [List.take_zero]; rfl, fun y hy => by rw [List.take_zero] at hy; cases hy⟩ ⟨rfl, rfl, rfl, rfl, rfl, rfl, rfl, trivial⟩ ((Ent.vec_nil 24 2 _).trans (by (exact Ent.auto))) ?_
  rintro ⟨i, ⟨At, ct⟩⟩ ⟨hil, hok, hrb⟩
  dsimp only at hil hok hrb ⊢
  by_cases him : i < l.length
  case neg =>
    obtain rfl : i = l.length := by omega
    rw [List.take_length] at hok
    have hml := mulL_len l w
    have htk : (mulL l w).take l.length = mulL l w := by rw [← hml, List.take_length]
    rw [htk] at hrb ⊢
    rw [hok, Bool.true_and]
    refine Nx.freezeAt 0 rfl fun I2 m2 hI2 hm2 hf2 => ?_
    have hfz : Rats I2 At ct (mulL l w) := Vec.sliceN (t := 24) hm2 (by rw [hml]; exact hf2) fun _ _ => rfl
    have hS := rsumF_spec At ct _ I2 hfz hrb
    rw [hml] at hS
    have hall : (mulL l w).all (fun x => decide (RB x)) = true := List.all_eq_true.2 fun y hy => decide_eq_true (hrb y hy)
    have hwB : weighB l w b = decide (Bl.sumF (mulL l w) = some b) := by unfold weighB; rw [hall, Bool.true_and]
    rw [hwB]
    cases hs : Bl.sumF (mulL l w) with
    | none =>
      have hS' : FnSpec Tryz.prog 51 [.slice At l.length ct] I2 [] (fun v R' => (∃ r1 r2 : Int, v = .tuple #[.agg #[.int .i64 r1, .int .i64 r2], .bool false]) ∧ R' = []) := FnSpec.mono hS fun v R' h => by
        obtain ⟨r, h1, _, h3⟩ := h
        rw [hs] at h1
        exact ⟨⟨_, _, h1⟩, h3⟩
      repeat' first
        | ((with_reducible refine Nx.is_wp ?_); first | refine Nx.wo ?_ | refine Nx.zp (fun hc => ?_) (fun hc => ?_))
        | (refine Nx.zo ?_; first | refine Nx.opr rfl rfl ?_ | (refine Nx.call rfl rfl rfl (by kernel_rfl) rfl hS' (by (exact Ent.auto)) ?_; rintro _ _ ⟨⟨r1, r2, rfl⟩, rfl⟩) | refine Nx.so ?_ | refine Nx.sb (fun bx => ?_) | refine Nx.sa (fun A2 c2 => ?_))
        | refine Nx.za ?_ | refine Nx.zr (fun hc => ?_) (fun hc => ?_)
        | refine Nx.zq ?_ | refine Nx.zu (fun hc => ?_) (fun hc => ?_)
        | refine Nx.zx ?_ | fail
      exact Nx.imm_le hI2 (Nx.ret_fn rfl [] ⟨rfl, rfl⟩ (by (exact Ent.auto)))
    | some s =>
      have hS' : FnSpec Tryz.prog 51 [.slice At l.length ct] I2 [] (fun v R' => v = .tuple #[.agg #[.int .i64 s.num, .int .i64 s.den], .bool true] ∧ R' = []) := FnSpec.mono hS fun v R' h => by
        obtain ⟨r, h1, h2, h3⟩ := h
        rw [hs] at h1
        obtain rfl := h2 s hs
        exact ⟨h1, h3⟩
      by_cases hsv : s = b
      · have hE := fun {x y : Operand} (w : World) => neq_fracK (x := x) (y := y) s.num s.den b.num b.den false (decide_eq_false fun hh => hh (rat_eq_iff.2 hsv)) w
        rw [decide_eq_true (by rw [hsv]), Bool.true_and]
        repeat' first
          | ((with_reducible refine Nx.is_wp ?_); first | refine Nx.p_stops 38 rfl ?_ | refine Nx.wo ?_ | refine Nx.zp (fun hc => ?_) (fun hc => ?_))
          | (refine Nx.zo ?_; first | refine Nx.opr rfl rfl ?_ | refine Nx.callv rfl rfl rfl (by kernel_rfl) rfl hS' ?_ | refine Nx.loads rfl rfl rfl rfl (Rds.cut 1 2 rfl rfl) rfl ?_ | refine Nx.binr rfl rfl hE rfl ?_ | refine Nx.so ?_ | refine Nx.sb (fun bx => ?_) | refine Nx.sa (fun A2 c2 => ?_))
          | refine Nx.za ?_ | refine Nx.zr (fun hc => ?_) (fun hc => ?_)
          | refine Nx.zq ?_ | refine Nx.zu (fun hc => ?_) (fun hc => ?_)
          | refine Nx.zx ?_ | fail
        refine Nx.unstop ?_
        exact Nx.imm_le hI2 (Nx.weak (by exact ⟨rfl, rfl, rfl, trivial⟩) (by (exact Ent.auto)) (rchk38 w0 F n A c l cell up b Ap X.length cp Aw cw w I b5 hn hl9 hl hg hw hwl hwr))
      · have hE := fun {x y : Operand} (w : World) => neq_fracK (x := x) (y := y) s.num s.den b.num b.den true (decide_eq_true fun hh => hsv (rat_eq_iff.1 hh)) w
        rw [decide_eq_false fun hh => hsv (Option.some.inj hh), Bool.false_and]
        repeat' first
          | ((with_reducible refine Nx.is_wp ?_); first | refine Nx.wo ?_ | refine Nx.zp (fun hc => ?_) (fun hc => ?_))
          | (refine Nx.zo ?_; first | refine Nx.opr rfl rfl ?_ | refine Nx.callv rfl rfl rfl (by kernel_rfl) rfl hS' ?_ | refine Nx.loads rfl rfl rfl rfl (Rds.cut 1 2 rfl rfl) rfl ?_ | refine Nx.binr rfl rfl hE rfl ?_ | refine Nx.so ?_ | refine Nx.sb (fun bx => ?_) | refine Nx.sa (fun A2 c2 => ?_))
          | refine Nx.za ?_ | refine Nx.zr (fun hc => ?_) (fun hc => ?_)
          | refine Nx.zq ?_ | refine Nx.zu (fun hc => ?_) (fun hc => ?_)
          | refine Nx.zx ?_ | fail
        exact Nx.imm_le hI2 (Nx.ret_fn rfl [] ⟨rfl, rfl⟩ (by (exact Ent.auto)))
  have hm := getD_memQ him
  have hgood := hg _ hm
  have hin := hl.inner _ hm
  have hrds : ∀ (W : World) (R : List Res), Rds W I R ((ad A).add (i * 2)) (eqC (l.getD i default)) := fun W R => hl.outer.rds him
  have hA := hl.outer.isSome (by omega) (by omega)
  have hnext : eqnB X (l.getD i default) = true → (l.take (i + 1)).all (eqnB X) = true := fun h => by rw [take_snocQ him, List.all_append, hok]; simpa using h
  have hstop : eqnB X (l.getD i default) = false → l.all (eqnB X) = false := fun h => all_no hm h
  have hiw : i < w.length := by omega
  have hrw : ∀ (W : World) (R : List Res), Rds W I R ((ad Aw).add (i * 2)) (ratC (w.getD i default)) := fun W R => hw.rds hiw
  have hAw := hw.isSome (by omega) (by omega)
  have hwb := hwr _ (getD_memX hiw)
  have hts0 := take_snocX (l := mulL l w) (k := i) (by rw [mulL_len]; exact him)
  have hmem0 := getD_memX (l := mulL l w) (k := i) (by rw [mulL_len]; exact him)
  have hat := mulL_at (w := w) him
  have hbad : ¬ RB ((mulL l w).getD i default) → weighB l w b = false := fun h => by
    unfold weighB
    rw [all_no hmem0 (decide_eq_false h), Bool.false_and]
  generalize l.getD i default = q at hm hgood hin hrds hnext hstop hat
  have hlt := hgood.lt
  have hqv := hgood.val
  have hLn := asc_len (a := 0) (n := n) hgood.asc fun y hy => by have := hlt y hy; omega
  have heq : eqnB X q = decide (Bl.sumF (termL X q.1.2.2 q.1.2.2.length) = some (q.2 : Rat)) := by unfold eqnB termL; rw [List.take_length]
  rw [heq] at hnext hstop
  clear hgood heq hmem0
  obtain ⟨⟨Ax, cx, L⟩, vx⟩ := q
  dsimp only at hin hlt hqv hnext hstop hLn hat
  have hLl := hin.len
  obtain ⟨wi, hwi2⟩ : ∃ wi, w.getD i default = wi := ⟨_, rfl⟩
  rw [hwi2] at hrw hwb hat
  generalize (mulL l w).getD i default = tm at hts0 hat hbad
  repeat' first
    | ((with_reducible refine Nx.is_wp ?_); first | refine Nx.wo ?_ | refine Nx.zp (fun hc => ?_) (fun hc => ?_))
    | (refine Nx.zo ?_; first | refine Nx.opr rfl rfl ?_ | refine Nx.indexAddr_nat (A := A) (i := i) (sz := 2) rfl rfl rfl rfl rfl him hA ?_ | refine Nx.loads rfl rfl rfl rfl (hrds _ _) rfl ?_ | refine Nx.so ?_ | refine Nx.sb (fun bx => ?_) | refine Nx.sa (fun A2 c2 => ?_))
    | refine Nx.za ?_ | refine Nx.zr (fun hc => ?_) (fun hc => ?_)
    | refine Nx.zq ?_ | refine Nx.zu (fun hc => ?_) (fun hc => ?_)
    | refine Nx.zx ?_ | fail
  revert bx; intro b13
  refine Nx.p_loop (σ := Nat × (Option Addr × Nat)) (fun z => [(0, .int .i64 (n : Int)), (1, .slice A l.length c), (5, .pointer (some ⟨b5, 0, none⟩)), (11, .slice At i ct), (12, .int .i64 (i : Int)), (13, .pointer (some ⟨b13, 0, none⟩)), (14, .slice z.2.1 z.1 z.2.2), (112, .slice A l.length c), (113, .int .i64 l.length), (114, .int .i64 (i : Int)), (120, .slice Ax L.length cx), (121, .int .i64 (L.length : Int)), (122, .int .i64 (z.1 : Int))])
    (fun z => [Vec 24 2 z.2.1 z.1 z.2.2 ((termL X L z.1).flatMap ratC), Vec 24 2 At i ct (((mulL l w).take i).flatMap ratC), Blk b13 46 [.slice Ax L.length cx, .int .i64 vx], Blk b5 27 (prC cell up b Ap X.length cp Aw l.length cw), F]) (fun z => z.1 ≤ L.length) (fun z => L.length - z.1) (0, (none, 0)) rfl (Nat.zero_le _) ⟨rfl, rfl, rfl, rfl, rfl, rfl, rfl, rfl, rfl, rfl, rfl, rfl, rfl, trivial⟩ ((Ent.vec_nil 24 2 _).trans (by (exact Ent.auto))) ?_
  rintro ⟨j, ⟨Ao, co⟩⟩ hj
  have hj : j ≤ L.length := hj
  dsimp only
  by_cases hjL : j < L.length
  · have hrd : ∀ (W : World) (R : List Res), Rd W I R ((ad Ax).add (j * 1)) (.int .i64 (L.getD j default)) := fun W R => hin.rd hjL
    have hcb := hlt (L.getD j default) (by rw [List.getD_eq_getElem?_getD, List.getElem?_eq_getElem hjL]; exact List.getElem_mem _)
    obtain ⟨cN, hcN⟩ : ∃ cN : Nat, L.getD j default = (cN : Int) := ⟨(L.getD j default).toNat, by omega⟩
    have hts := termL_succ (x := X) hjL
    rw [hcN] at hrd hcb hts
    rw [Int.toNat_natCast] at hts
    have hcX : cN < X.length := by omega
    have hrx : ∀ (W : World) (R : List Res), Rds W I R ((ad Ap).add (cN * 2)) (ratC (X.getD cN default)) := fun W R => hpx.rds hcX
    have hAp := hpx.isSome (by omega) (by omega)
    have hAx := hin.isSome (by omega)
    generalize X.getD cN default = y at hts hrx
    repeat' first
      | ((with_reducible refine Nx.is_wp ?_); first | refine Nx.wo ?_ | refine Nx.zp (fun hc => ?_) (fun hc => ?_))
      | (refine Nx.zo ?_; first | refine Nx.opr rfl rfl ?_ | refine Nx.indexAddr_nat (A := Ax) (i := j) (sz := 1) rfl rfl rfl rfl rfl hjL hAx ?_ | refine Nx.load rfl rfl rfl (hrd _ _) ?_ | refine Nx.indexAddr_nat (A := Ap) (i := cN) (sz := 2) rfl rfl rfl rfl rfl hcX hAp ?_ | refine Nx.loads rfl rfl rfl rfl (hrx _ _) rfl ?_ | refine Nx.so ?_ | refine Nx.sb (fun bx => ?_) | refine Nx.sa (fun A2 c2 => ?_))
      | refine Nx.za ?_ | refine Nx.zr (fun hc => ?_) (fun hc => ?_)
      | refine Nx.zq ?_ | refine Nx.zu (fun hc => ?_) (fun hc => ?_)
      | refine Nx.zx ?_ | fail
    exact Nx.again (j + 1, (A2, c2)) hjL (by dsimp only; omega) ⟨rfl, rfl, rfl, rfl, rfl, rfl, rfl, rfl, rfl, rfl, rfl, rfl, rfl, trivial⟩ (by dsimp only; rw [hts, flat_snoc]; (exact Ent.auto))
  obtain rfl : j = L.length := by omega
  have htl := termL_len (x := X) (Nat.le_refl L.length)
  have hrbt : ∀ y ∈ termL X L L.length, RB y := fun y hy => by
    obtain ⟨z, hz, rfl⟩ := List.mem_map.1 hy
    have := hlt z (List.mem_of_mem_take hz)
    exact hX _ (getD_memX (by omega))
  refine Nx.freezeAt 0 rfl fun I2 m2 hI2 hm2 hf2 => ?_
  have hfz : Rats I2 Ao co (termL X L L.length) := Vec.sliceN (t := 24) hm2 (by rw [htl]; exact hf2) fun _ _ => rfl
  have hS := rsumF_spec Ao co _ I2 hfz hrbt
  rw [htl] at hS
  have hW := rwhole_spec vx I2
  have hrw2 : ∀ (W : World) (R : List Res), Rds W I2 R ((ad Aw).add (i * 2)) (ratC wi) := fun W R => hwi2 ▸ (hw.mono hI2).rds hiw
  cases hs : Bl.sumF (termL X L L.length) with
  | none =>
    have hS' : FnSpec Tryz.prog 51 [.slice Ao L.length co] I2 [] (fun v R' => (∃ r1 r2 : Int, v = .tuple #[.agg #[.int .i64 r1, .int .i64 r2], .bool false]) ∧ R' = []) := FnSpec.mono hS fun v R' h => by
      obtain ⟨r, h1, _, h3⟩ := h
      rw [hs] at h1
      exact ⟨⟨_, _, h1⟩, h3⟩
    rw [hs] at hstop
    repeat' first
      | ((with_reducible refine Nx.is_wp ?_); first | refine Nx.wo ?_ | refine Nx.p_draw (id := 15) rfl [0, 1, 2, 3, 4, 5, 6, 7, 8] [] _ rfl rfl (by kernel_rfl) (by kernel_rfl) rfl PanicOk.auto (Ent.refl _) ?_ | refine Nx.p_draw (id := 28) rfl [0, 1, 2, 3, 4, 5, 6, 7, 8] [6] _ rfl rfl (by kernel_rfl) (by kernel_rfl) rfl PanicOk.auto (Ent.refl _) ?_ | refine Nx.zp (fun hc => ?_) (fun hc => ?_))
      | (refine Nx.zo ?_; first | refine Nx.opr rfl rfl ?_ | (refine Nx.call rfl rfl rfl (by kernel_rfl) rfl hS' (by (exact Ent.auto)) ?_; rintro _ _ ⟨⟨r1, r2, rfl⟩, rfl⟩) | refine Nx.so ?_ | refine Nx.sb (fun bx => ?_) | refine Nx.sa (fun A2 c2 => ?_))
      | refine Nx.za ?_ | refine Nx.zr (fun hc => ?_) (fun hc => ?_)
      | refine Nx.zq ?_ | refine Nx.zu (fun hc => ?_) (fun hc => ?_)
      | refine Nx.zx ?_ | fail
    exact Nx.imm_le hI2 (Nx.ret_fn rfl [] ⟨by rw [hstop rfl, Bool.false_and, Bool.false_and], rfl⟩ (by (exact Ent.auto)))
  | some s =>
    have hS' : FnSpec Tryz.prog 51 [.slice Ao L.length co] I2 [] (fun v R' => v = .tuple #[.agg #[.int .i64 s.num, .int .i64 s.den], .bool true] ∧ R' = []) := FnSpec.mono hS fun v R' h => by
      obtain ⟨r, h1, h2, h3⟩ := h
      rw [hs] at h1
      obtain rfl := h2 s hs
      exact ⟨h1, h3⟩
    rw [hs] at hstop hnext
    by_cases hsv : s = (vx : Rat)
    case neg =>
      have hE := fun {x y : Operand} (w : World) => neq_fracK (x := x) (y := y) s.num s.den (vx : Rat).num (vx : Rat).den true (decide_eq_true fun hh => hsv (rat_eq_iff.1 hh)) w
      repeat' first
        | ((with_reducible refine Nx.is_wp ?_); first | refine Nx.wo ?_ | refine Nx.p_draw (id := 15) rfl [0, 1, 2, 3, 4, 5, 6, 7, 8] [] _ rfl rfl (by kernel_rfl) (by kernel_rfl) rfl PanicOk.auto (Ent.refl _) ?_ | refine Nx.p_draw (id := 28) rfl [0, 1, 2, 3, 4, 5, 6, 7, 8] [6] _ rfl rfl (by kernel_rfl) (by kernel_rfl) rfl PanicOk.auto (Ent.refl _) ?_ | refine Nx.zp (fun hc => ?_) (fun hc => ?_))
        | (refine Nx.zo ?_; first | refine Nx.opr rfl rfl ?_ | refine Nx.binr rfl rfl hE rfl ?_ | refine Nx.callv rfl rfl rfl (by kernel_rfl) rfl hS' ?_ | refine Nx.callv rfl rfl rfl (by kernel_rfl) rfl hW ?_ | refine Nx.so ?_ | refine Nx.sb (fun bx => ?_) | refine Nx.sa (fun A2 c2 => ?_))
        | refine Nx.za ?_ | refine Nx.zr (fun hc => ?_) (fun hc => ?_)
        | ((with_reducible refine Nx.is_mix ?_); first | refine Nx.m_quiet rfl rfl rfl rfl rfl (by first | exact QRun.opr rfl | exact QRun.binr rfl rfl hE) ?_ | refine Nx.m_quiet_do rfl rfl rfl rfl rfl rfl rfl (by first | exact QRun.opr rfl | exact QRun.binr rfl rfl hE) ?_ | refine Nx.m ?_ | refine Nx.zm ?_ | refine Nx.zt (fun hc => ?_) (fun hc => ?_))
        | refine Nx.zx ?_ | fail
      exact Nx.imm_le hI2 (Nx.ret_fn rfl [] ⟨by rw [hstop (decide_eq_false fun hh => hsv (Option.some.inj hh)), Bool.false_and, Bool.false_and], rfl⟩ (by (exact Ent.auto)))
    have hE := fun {x y : Operand} (w : World) => neq_fracK (x := x) (y := y) s.num s.den (vx : Rat).num (vx : Rat).den false (decide_eq_false fun hh => hh (rat_eq_iff.2 hsv)) w
    have hM := rMul_rat wi (vx : Rat) hwb (RB_int (by omega)) I2
    rw [← hat] at hM
    clear hat
    by_cases hy : RB tm
    · rw [redV_pos hy] at hM
      repeat' first
        | ((with_reducible refine Nx.is_wp ?_); first | refine Nx.wo ?_ | refine Nx.p_drawF (id := 15) rfl [0, 1, 2, 3, 4, 5, 6, 7, 8] [] [] _ rfl rfl (by kernel_rfl) (by kernel_rfl) rfl PanicOk.auto (Ent.refl _) ?_ | refine Nx.p_drawF (id := 28) rfl [0, 1, 2, 3, 4, 5, 6, 7, 8] [6] [] _ rfl rfl (by kernel_rfl) (by kernel_rfl) rfl PanicOk.auto (Ent.refl _) ?_ | refine Nx.p_poolF (id := 30) rfl [0, 1, 2, 3, 4, 5, 6, 7, 8, 9, 10, 11] [7, 8] [11, 10] [13, 14] [13] [⟨12, 19, 24, _⟩] rfl rfl (by kernel_rfl) (by kernel_rfl) (by decide) (PoolFit.cons ⟨⟨_, _, _, rfl⟩, rfl, rfl⟩ PoolFit.nil) PanicOk.auto (Ent.refl _) ?_ | refine Nx.zp (fun hc => ?_) (fun hc => ?_))
        | ((first | refine Nx.at_op rfl rfl ?_ | refine Nx.m_loud rfl rfl rfl ?_ | refine Nx.at_do rfl rfl rfl rfl ?_ | refine Nx.m_loud_do rfl rfl rfl rfl rfl ?_ | refine GoodF.loud_ rfl rfl rfl rfl (fun ex X => ?_)); first | refine Nx.opr rfl rfl ?_ | refine Nx.binr rfl rfl hE rfl ?_ | refine Nx.callv rfl rfl rfl (by kernel_rfl) rfl hS' ?_ | refine Nx.callv rfl rfl rfl (by kernel_rfl) rfl hW ?_ | refine Nx.callv rfl rfl rfl (by kernel_rfl) rfl hM ?_ | refine Nx.so ?_ | refine Nx.sb (fun bx => ?_) | refine Nx.sa (fun A2 c2 => ?_))
        | refine Nx.za ?_ | refine Nx.zr (fun hc => ?_) (fun hc => ?_)
        | ((with_reducible refine Nx.is_mix ?_); first | refine Nx.m_quiet rfl rfl rfl rfl rfl (by first | exact QRun.opr rfl | exact QRun.binr rfl rfl hE | exact QRun.idx (A := Aw) (i := i) (sz := 2) rfl rfl rfl rfl him hAw | exact QRun.loads rfl rfl rfl (hrw2 _ _) rfl) ?_ | refine Nx.m_quiet_do rfl rfl rfl rfl rfl rfl rfl (by first | exact QRun.opr rfl | exact QRun.binr rfl rfl hE | exact QRun.idx (A := Aw) (i := i) (sz := 2) rfl rfl rfl rfl him hAw | exact QRun.loads rfl rfl rfl (hrw2 _ _) rfl) ?_ | refine Nx.m ?_ | refine Nx.zm ?_ | refine Nx.zt (fun hc => ?_) (fun hc => ?_))
        | ((with_reducible refine GoodF.is ?_); first | refine GoodF.quiet rfl rfl rfl rfl rfl rfl (by first | exact QRun.opr rfl | exact QRun.binr rfl rfl hE | exact QRun.idx (A := Aw) (i := i) (sz := 2) rfl rfl rfl rfl him hAw | exact QRun.loads rfl rfl rfl (hrw2 _ _) rfl |  exact QRun.std) ?_ | refine GoodF.done1 rfl (fun bx => ?_) | refine GoodF.done2 rfl (fun bx by_ => ?_) | refine GoodF.done3 rfl (fun bx by_ bz => ?_))
        | ((fail_if_success (with_reducible refine Nx.is_at ?_)); (fail_if_success (with_reducible refine Nx.is_wp ?_)); (fail_if_success (with_reducible refine Nx.is_mix ?_)); first | refine Nx.ex ?_ | refine Nx.pool_nextF 0 rfl (by exact Ent.auto) ?_ | refine Nx.pool_nextF 1 rfl (by exact Ent.auto) ?_ | refine Nx.pool_nextF 2 rfl (by exact Ent.auto) ?_ | refine Nx.pool_nextF 3 rfl (by exact Ent.auto) ?_)
      exact Nx.imm_le hI2 (Nx.again (i + 1, (A2, c2)) ⟨him, hnext (decide_eq_true (by rw [hsv])), fun z hz => by
        rw [hts0] at hz
        rcases List.mem_append.1 hz with hz | hz
        · exact hrb z hz
        · rw [List.mem_singleton] at hz; rw [hz]; exact hy⟩ (by dsimp only; omega) ⟨rfl, rfl, rfl, rfl, rfl, rfl, rfl, trivial⟩ (by dsimp only; rw [hts0, flat_snoc]; (exact Ent.auto)))
    · rw [redV_neg hy] at hM
      repeat' first
        | ((with_reducible refine Nx.is_wp ?_); first | refine Nx.wo ?_ | refine Nx.p_drawF (id := 15) rfl [0, 1, 2, 3, 4, 5, 6, 7, 8] [] [] _ rfl rfl (by kernel_rfl) (by kernel_rfl) rfl PanicOk.auto (Ent.refl _) ?_ | refine Nx.p_drawF (id := 28) rfl [0, 1, 2, 3, 4, 5, 6, 7, 8] [6] [] _ rfl rfl (by kernel_rfl) (by kernel_rfl) rfl PanicOk.auto (Ent.refl _) ?_ | refine Nx.p_poolF (id := 30) rfl [0, 1, 2, 3, 4, 5, 6, 7, 8, 9, 10, 11] [7, 8] [11, 10] [13, 14] [13] [⟨12, 19, 24, _⟩] rfl rfl (by kernel_rfl) (by kernel_rfl) (by decide) (PoolFit.cons ⟨⟨_, _, _, rfl⟩, rfl, rfl⟩ PoolFit.nil) PanicOk.auto (Ent.refl _) ?_ | refine Nx.zp (fun hc => ?_) (fun hc => ?_))
        | ((first | refine Nx.at_op rfl rfl ?_ | refine Nx.m_loud rfl rfl rfl ?_ | refine Nx.at_do rfl rfl rfl rfl ?_ | refine Nx.m_loud_do rfl rfl rfl rfl rfl ?_ | refine GoodF.loud_ rfl rfl rfl rfl (fun ex X => ?_)); first | refine Nx.opr rfl rfl ?_ | refine Nx.binr rfl rfl hE rfl ?_ | refine Nx.callv rfl rfl rfl (by kernel_rfl) rfl hS' ?_ | refine Nx.callv rfl rfl rfl (by kernel_rfl) rfl hW ?_ | refine Nx.callv rfl rfl rfl (by kernel_rfl) rfl hM ?_ | refine Nx.so ?_ | refine Nx.sb (fun bx => ?_) | refine Nx.sa (fun A2 c2 => ?_))
        | refine Nx.za ?_ | refine Nx.zr (fun hc => ?_) (fun hc => ?_)
        | ((with_reducible refine Nx.is_mix ?_); first | refine Nx.m_quiet rfl rfl rfl rfl rfl (by first | exact QRun.opr rfl | exact QRun.binr rfl rfl hE | exact QRun.idx (A := Aw) (i := i) (sz := 2) rfl rfl rfl rfl him hAw | exact QRun.loads rfl rfl rfl (hrw2 _ _) rfl) ?_ | refine Nx.m_quiet_do rfl rfl rfl rfl rfl rfl rfl (by first | exact QRun.opr rfl | exact QRun.binr rfl rfl hE | exact QRun.idx (A := Aw) (i := i) (sz := 2) rfl rfl rfl rfl him hAw | exact QRun.loads rfl rfl rfl (hrw2 _ _) rfl) ?_ | refine Nx.m ?_ | refine Nx.zm ?_ | refine Nx.zt (fun hc => ?_) (fun hc => ?_))
        | ((with_reducible refine GoodF.is ?_); first | refine GoodF.quiet rfl rfl rfl rfl rfl rfl (by first | exact QRun.opr rfl | exact QRun.binr rfl rfl hE | exact QRun.idx (A := Aw) (i := i) (sz := 2) rfl rfl rfl rfl him hAw | exact QRun.loads rfl rfl rfl (hrw2 _ _) rfl |  exact QRun.std) ?_ | refine GoodF.done1 rfl (fun bx => ?_) | refine GoodF.done2 rfl (fun bx by_ => ?_) | refine GoodF.done3 rfl (fun bx by_ bz => ?_))
        | ((fail_if_success (with_reducible refine Nx.is_at ?_)); (fail_if_success (with_reducible refine Nx.is_wp ?_)); (fail_if_success (with_reducible refine Nx.is_mix ?_)); first | refine Nx.ex ?_ | refine Nx.pool_nextF 0 rfl (by exact Ent.auto) ?_ | refine Nx.pool_nextF 1 rfl (by exact Ent.auto) ?_ | refine Nx.pool_nextF 2 rfl (by exact Ent.auto) ?_ | refine Nx.pool_nextF 3 rfl (by exact Ent.auto) ?_)
      exact Nx.imm_le hI2 (Nx.ret_fn rfl [] ⟨by rw [hbad hy, Bool.and_false, Bool.false_and], rfl⟩ (by (exact Ent.auto)))
set_option maxRecDepth 10000 in
theorem R30Check_spec (n : Int) (A : Option Addr) (c : Nat) (l : List EqR) (p : PrM) (I : PH) (hl : Eqs I A c l) (hp : PrIn I p) :
    FnSpec Tryz.prog 15 [.int .i64 n, .slice A l.length c, p.V] I [] (fun v R' => v = .bool (chkP n l p) ∧ R' = []) := by
  have hlen := hl.len
  have hpl := hp.pts.len
  have hwl := hp.wts.len
  have hV := RValid_spec n A c l I hl
  have hFb : FnSpec Tryz.prog 50 [.agg #[.int .i64 p.bnd.1, .int .i64 p.bnd.2]] I [] (fun v R' => v = .bool (fokB p.bnd) ∧ R' = []) := rValid_spec p.bnd.1 p.bnd.2 hp.bnd.1 hp.bnd.2 I
  have hVr : ∀ x : RawF, I64F x → FnSpec Tryz.prog 50 [.agg #[.int .i64 x.1, .int .i64 x.2]] I [] (fun v R' => v = .bool (fokB x) ∧ R' = []) := fun x hx => rValid_spec x.1 x.2 hx.1 hx.2 I
  have hpts := hp.pts
  have hwts := hp.wts
  have hpn := hp.pn
  have hwn := hp.wn
  obtain ⟨cell, up, ⟨bn, bd⟩, Ap, cp, pts, Aw, cw, wts⟩ := p
  dsimp only at hpl hwl hFb hpts hwts hpn hwn
  dsimp only [PrM.V]
  refine FnSpec.enterP Tryz.func15 rfl Tryz.ntmps15 rfl fun w F => ?_
  by_cases h1 : 1 ≤ n
  case neg =>
    rw [chkP_no1 fun h => h1 h.1.1]
    repeat' first
      | ((with_reducible refine Nx.is_wp ?_); first | refine Nx.wo ?_ | refine Nx.zp (fun hc => ?_) (fun hc => ?_))
      | (refine Nx.zo ?_; first | refine Nx.opr rfl rfl ?_ | refine Nx.so ?_ | refine Nx.sb (fun bx => ?_) | refine Nx.sa (fun A2 c2 => ?_))
      | refine Nx.za ?_ | refine Nx.zr (fun hc => ?_) (fun hc => ?_)
      | refine Nx.zq ?_ | refine Nx.zu (fun hc => ?_) (fun hc => ?_)
      | refine Nx.zx ?_ | fail
    exact Nx.ret_fn rfl [] ⟨rfl, rfl⟩ (by (exact Ent.auto))
  by_cases h2 : n ≤ 10
  case neg =>
    rw [chkP_no1 fun h => h2 h.1.2]
    repeat' first
      | ((with_reducible refine Nx.is_wp ?_); first | refine Nx.wo ?_ | refine Nx.zp (fun hc => ?_) (fun hc => ?_))
      | (refine Nx.zo ?_; first | refine Nx.opr rfl rfl ?_ | refine Nx.so ?_ | refine Nx.sb (fun bx => ?_) | refine Nx.sa (fun A2 c2 => ?_))
      | refine Nx.za ?_ | refine Nx.zr (fun hc => ?_) (fun hc => ?_)
      | refine Nx.zq ?_ | refine Nx.zu (fun hc => ?_) (fun hc => ?_)
      | refine Nx.zx ?_ | fail
    exact Nx.ret_fn rfl [] ⟨rfl, rfl⟩ (by (exact Ent.auto))
  cases hv : validB n l with
  | false =>
    rw [hv] at hV
    rw [chkP_no1 fun h => by rw [hv] at h; cases h.2.1]
    repeat' first
      | ((with_reducible refine Nx.is_wp ?_); first | refine Nx.wo ?_ | refine Nx.zp (fun hc => ?_) (fun hc => ?_))
      | (refine Nx.zo ?_; first | refine Nx.opr rfl rfl ?_ | refine Nx.callv rfl rfl rfl (by kernel_rfl) rfl hV ?_ | refine Nx.so ?_ | refine Nx.sb (fun bx => ?_) | refine Nx.sa (fun A2 c2 => ?_))
      | refine Nx.za ?_ | refine Nx.zr (fun hc => ?_) (fun hc => ?_)
      | refine Nx.zq ?_ | refine Nx.zu (fun hc => ?_) (fun hc => ?_)
      | refine Nx.zx ?_ | fail
    exact Nx.ret_fn rfl [] ⟨rfl, rfl⟩ (by (exact Ent.auto))
  | true =>
  rw [hv] at hV
  by_cases h3 : 0 ≤ cell
  case neg =>
    rw [chkP_no1 fun h => h3 h.2.2.1]
    repeat' first
      | ((with_reducible refine Nx.is_wp ?_); first | refine Nx.wo ?_ | refine Nx.zp (fun hc => ?_) (fun hc => ?_))
      | (refine Nx.zo ?_; first | refine Nx.opr rfl rfl ?_ | refine Nx.callv rfl rfl rfl (by kernel_rfl) rfl hV ?_ | refine Nx.so ?_ | refine Nx.sb (fun bx => ?_) | refine Nx.sa (fun A2 c2 => ?_))
      | refine Nx.za ?_ | refine Nx.zr (fun hc => ?_) (fun hc => ?_)
      | refine Nx.zq ?_ | refine Nx.zu (fun hc => ?_) (fun hc => ?_)
      | refine Nx.zx ?_ | fail
    exact Nx.ret_fn rfl [] ⟨rfl, rfl⟩ (by (exact Ent.auto))
  by_cases h4 : cell < n
  case neg =>
    rw [chkP_no1 fun h => h4 h.2.2.2.1]
    repeat' first
      | ((with_reducible refine Nx.is_wp ?_); first | refine Nx.wo ?_ | refine Nx.zp (fun hc => ?_) (fun hc => ?_))
      | (refine Nx.zo ?_; first | refine Nx.opr rfl rfl ?_ | refine Nx.callv rfl rfl rfl (by kernel_rfl) rfl hV ?_ | refine Nx.so ?_ | refine Nx.sb (fun bx => ?_) | refine Nx.sa (fun A2 c2 => ?_))
      | refine Nx.za ?_ | refine Nx.zr (fun hc => ?_) (fun hc => ?_)
      | refine Nx.zq ?_ | refine Nx.zu (fun hc => ?_) (fun hc => ?_)
      | refine Nx.zx ?_ | fail
    exact Nx.ret_fn rfl [] ⟨rfl, rfl⟩ (by (exact Ent.auto))
  by_cases h5 : (pts.length : Int) = n
  case neg =>
    rw [chkP_no1 fun h => h5 h.2.2.2.2.1]
    repeat' first
      | ((with_reducible refine Nx.is_wp ?_); first | refine Nx.wo ?_ | refine Nx.zp (fun hc => ?_) (fun hc => ?_))
      | (refine Nx.zo ?_; first | refine Nx.opr rfl rfl ?_ | refine Nx.callv rfl rfl rfl (by kernel_rfl) rfl hV ?_ | refine Nx.so ?_ | refine Nx.sb (fun bx => ?_) | refine Nx.sa (fun A2 c2 => ?_))
      | refine Nx.za ?_ | refine Nx.zr (fun hc => ?_) (fun hc => ?_)
      | refine Nx.zq ?_ | refine Nx.zu (fun hc => ?_) (fun hc => ?_)
      | refine Nx.zx ?_ | fail
    exact Nx.ret_fn rfl [] ⟨rfl, rfl⟩ (by (exact Ent.auto))
  by_cases h6 : (wts.length : Int) = l.length
  case neg =>
    rw [chkP_no1 fun h => h6 (by have := h.2.2.2.2.2; dsimp only at this; omega)]
    repeat' first
      | ((with_reducible refine Nx.is_wp ?_); first | refine Nx.wo ?_ | refine Nx.zp (fun hc => ?_) (fun hc => ?_))
      | (refine Nx.zo ?_; first | refine Nx.opr rfl rfl ?_ | refine Nx.callv rfl rfl rfl (by kernel_rfl) rfl hV ?_ | refine Nx.so ?_ | refine Nx.sb (fun bx => ?_) | refine Nx.sa (fun A2 c2 => ?_))
      | refine Nx.za ?_ | refine Nx.zr (fun hc => ?_) (fun hc => ?_)
      | refine Nx.zq ?_ | refine Nx.zu (fun hc => ?_) (fun hc => ?_)
      | refine Nx.zx ?_ | fail
    exact Nx.ret_fn rfl [] ⟨rfl, rfl⟩ (by (exact Ent.auto))
  cases h7 : fokB (bn, bd) with
  | false =>
    rw [h7] at hFb
    rw [chkP_no2 fun h => by rw [show fokB _ = false from h7] at h; cases h.1]
    repeat' first
      | ((with_reducible refine Nx.is_wp ?_); first | refine Nx.wo ?_ | refine Nx.zp (fun hc => ?_) (fun hc => ?_))
      | (refine Nx.zo ?_; first | refine Nx.opr rfl rfl ?_ | refine Nx.callv rfl rfl rfl (by kernel_rfl) rfl hV ?_ | refine Nx.loads rfl rfl rfl rfl (Rds.cut 0 2 rfl rfl) rfl ?_ | refine Nx.callv rfl rfl rfl (by kernel_rfl) rfl hFb ?_ | refine Nx.so ?_ | refine Nx.sb (fun bx => ?_) | refine Nx.sa (fun A2 c2 => ?_))
      | refine Nx.za ?_ | refine Nx.zr (fun hc => ?_) (fun hc => ?_)
      | refine Nx.zq ?_ | refine Nx.zu (fun hc => ?_) (fun hc => ?_)
      | refine Nx.zx ?_ | fail
    exact Nx.ret_fn rfl [] ⟨rfl, rfl⟩ (by (exact Ent.auto))
  | true =>
  rw [h7] at hFb
  repeat' first
    | ((with_reducible refine Nx.is_wp ?_); first | refine Nx.wo ?_ | refine Nx.zp (fun hc => ?_) (fun hc => ?_))
    | (refine Nx.zo ?_; first | refine Nx.opr rfl rfl ?_ | refine Nx.callv rfl rfl rfl (by kernel_rfl) rfl hV ?_ | refine Nx.loads rfl rfl rfl rfl (Rds.cut 0 2 rfl rfl) rfl ?_ | refine Nx.callv rfl rfl rfl (by kernel_rfl) rfl hFb ?_ | refine Nx.so ?_ | refine Nx.sb (fun bx => ?_) | refine Nx.sa (fun A2 c2 => ?_))
    | refine Nx.za ?_ | refine Nx.zr (fun hc => ?_) (fun hc => ?_)
    | refine Nx.zq ?_ | refine Nx.zu (fun hc => ?_) (fun hc => ?_)
    | refine Nx.zx ?_ | fail
  revert bx; intro b5
  have hchk := fun hw => chkP_mid (p := ⟨cell, up, (bn, bd), Ap, cp, pts, Aw, cw, wts⟩) ⟨h1, h2⟩ hv ⟨h3, h4, h5, by dsimp only; omega⟩ h7 hw
  refine Nx.p_loop (σ := Nat) (fun i => [(0, .int .i64 n), (1, .slice A l.length c), (5, .pointer (some ⟨b5, 0, none⟩)), (77, .slice Ap pts.length cp), (78, .int .i64 pts.length), (79, .int .i64 (i : Int))])
    (fun _ => [Blk b5 27 [.int .i64 cell, .bool up, .int .i64 bn, .int .i64 bd, .slice Ap pts.length cp, .slice Aw wts.length cw], F]) (fun i => i ≤ pts.length ∧ (pts.take i).all posB = true) (fun i => pts.length - i) 0 rfl ⟨Nat.zero_le _, by rw [List.take_zero]; rfl⟩ ⟨rfl, rfl, rfl, rfl, rfl, rfl, trivial⟩ (by (exact Ent.auto)) ?_
  rintro i ⟨hi, hok⟩
  by_cases him : i < pts.length
  · have hrd : ∀ (W : World) (R : List Res), Rds W I R ((ad Ap).add (i * 2)) (frC0 (pts.getD i default)) := fun W R => hpts.rds him
    have hA := hpts.isSome (by omega) (by omega)
    have hmem := getD_memY him
    have hsn := take_snocY him
    generalize pts.getD i default = x at hrd hmem hsn
    have hVx := hVr x (hpn x hmem)
    have hbad : posB x = false → chkP n l ⟨cell, up, (bn, bd), Ap, cp, pts, Aw, cw, wts⟩ = false := fun h => by
      unfold chkP
      dsimp only
      rw [all_no hmem h, Bool.and_false, Bool.false_and]
    have hgo : posB x = true → (pts.take (i + 1)).all posB = true := fun h => by rw [hsn, List.all_append, hok]; simpa using h
    cases hf : fokB x with
    | false =>
      rw [hf] at hVx
      repeat' first
        | ((with_reducible refine Nx.is_wp ?_); first | refine Nx.wo ?_ | refine Nx.zp (fun hc => ?_) (fun hc => ?_))
        | (refine Nx.zo ?_; first | refine Nx.opr rfl rfl ?_ | refine Nx.indexAddr_nat (A := Ap) (i := i) (sz := 2) rfl rfl rfl rfl rfl him hA ?_ | refine Nx.loads rfl rfl rfl rfl (hrd _ _) rfl ?_ | refine Nx.callv rfl rfl rfl (by kernel_rfl) rfl hVx ?_ | refine Nx.so ?_ | refine Nx.sb (fun bx => ?_) | refine Nx.sa (fun A2 c2 => ?_))
        | refine Nx.za ?_ | refine Nx.zr (fun hc => ?_) (fun hc => ?_)
        | refine Nx.zq ?_ | refine Nx.zu (fun hc => ?_) (fun hc => ?_)
        | refine Nx.zx ?_ | fail
      exact Nx.ret_fn rfl [] ⟨by rw [hbad (by unfold posB; rw [hf]; rfl)], rfl⟩ (by (exact Ent.auto))
    | true =>
      rw [hf] at hVx
      by_cases h0 : 0 ≤ x.1
      · repeat' first
          | ((with_reducible refine Nx.is_wp ?_); first | refine Nx.wo ?_ | refine Nx.zp (fun hc => ?_) (fun hc => ?_))
          | (refine Nx.zo ?_; first | refine Nx.opr rfl rfl ?_ | refine Nx.indexAddr_nat (A := Ap) (i := i) (sz := 2) rfl rfl rfl rfl rfl him hA ?_ | refine Nx.loads rfl rfl rfl rfl (hrd _ _) rfl ?_ | refine Nx.callv rfl rfl rfl (by kernel_rfl) rfl hVx ?_ | refine Nx.so ?_ | refine Nx.sb (fun bx => ?_) | refine Nx.sa (fun A2 c2 => ?_))
          | refine Nx.za ?_ | refine Nx.zr (fun hc => ?_) (fun hc => ?_)
          | refine Nx.zq ?_ | refine Nx.zu (fun hc => ?_) (fun hc => ?_)
          | refine Nx.zx ?_ | fail
        exact Nx.again (i + 1) ⟨him, hgo (by unfold posB; rw [hf, decide_eq_true h0]; rfl)⟩ (by omega) ⟨rfl, rfl, rfl, rfl, rfl, rfl, trivial⟩ (by (exact Ent.auto))
      · repeat' first
          | ((with_reducible refine Nx.is_wp ?_); first | refine Nx.wo ?_ | refine Nx.zp (fun hc => ?_) (fun hc => ?_))
          | (refine Nx.zo ?_; first | refine Nx.opr rfl rfl ?_ | refine Nx.indexAddr_nat (A := Ap) (i := i) (sz := 2) rfl rfl rfl rfl rfl him hA ?_ | refine Nx.loads rfl rfl rfl rfl (hrd _ _) rfl ?_ | refine Nx.callv rfl rfl rfl (by kernel_rfl) rfl hVx ?_ | refine Nx.so ?_ | refine Nx.sb (fun bx => ?_) | refine Nx.sa (fun A2 c2 => ?_))
          | refine Nx.za ?_ | refine Nx.zr (fun hc => ?_) (fun hc => ?_)
          | refine Nx.zq ?_ | refine Nx.zu (fun hc => ?_) (fun hc => ?_)
          | refine Nx.zx ?_ | fail
        exact Nx.ret_fn rfl [] ⟨by rw [hbad (by unfold posB; rw [hf, decide_eq_false h0]; rfl)], rfl⟩ (by (exact Ent.auto))
  obtain rfl : i = pts.length := by omega
  rw [List.take_length] at hok
  repeat' first
    | ((with_reducible refine Nx.is_wp ?_); first | refine Nx.wo ?_ | refine Nx.zp (fun hc => ?_) (fun hc => ?_))
    | (refine Nx.zo ?_; first | refine Nx.opr rfl rfl ?_ | refine Nx.so ?_ | refine Nx.sb (fun bx => ?_) | refine Nx.sa (fun A2 c2 => ?_))
    | refine Nx.za ?_ | refine Nx.zr (fun hc => ?_) (fun hc => ?_)
    | refine Nx.zq ?_ | refine Nx.zu (fun hc => ?_) (fun hc => ?_)
    | refine Nx.zx ?_ | fail
  refine Nx.p_loop (σ := Nat) (fun i => [(0, .int .i64 n), (1, .slice A l.length c), (5, .pointer (some ⟨b5, 0, none⟩)), (93, .slice Aw wts.length cw), (94, .int .i64 wts.length), (95, .int .i64 (i : Int))])
    (fun _ => [Blk b5 27 [.int .i64 cell, .bool up, .int .i64 bn, .int .i64 bd, .slice Ap pts.length cp, .slice Aw wts.length cw], F]) (fun i => i ≤ wts.length ∧ (wts.take i).all fokB = true) (fun i => wts.length - i) 0 rfl ⟨Nat.zero_le _, by rw [List.take_zero]; rfl⟩ ⟨rfl, rfl, rfl, rfl, rfl, rfl, trivial⟩ (by (exact Ent.auto)) ?_
  rintro i ⟨hi, hokw⟩
  by_cases him : i < wts.length
  · have hrd : ∀ (W : World) (R : List Res), Rds W I R ((ad Aw).add (i * 2)) (frC0 (wts.getD i default)) := fun W R => hwts.rds him
    have hA := hwts.isSome (by omega) (by omega)
    have hmem := getD_memY him
    have hsn := take_snocY him
    generalize wts.getD i default = x at hrd hmem hsn
    have hVx := hVr x (hwn x hmem)
    have hbad : fokB x = false → chkP n l ⟨cell, up, (bn, bd), Ap, cp, pts, Aw, cw, wts⟩ = false := fun h => chkP_no2 fun hh => by
      have := List.all_eq_true.1 hh.2 x hmem
      rw [h] at this
      cases this
    have hgo : fokB x = true → (wts.take (i + 1)).all fokB = true := fun h => by rw [hsn, List.all_append, hokw]; simpa using h
    cases hf : fokB x with
    | false =>
      rw [hf] at hVx
      repeat' first
        | ((with_reducible refine Nx.is_wp ?_); first | refine Nx.wo ?_ | refine Nx.zp (fun hc => ?_) (fun hc => ?_))
        | (refine Nx.zo ?_; first | refine Nx.opr rfl rfl ?_ | refine Nx.indexAddr_nat (A := Aw) (i := i) (sz := 2) rfl rfl rfl rfl rfl him hA ?_ | refine Nx.loads rfl rfl rfl rfl (hrd _ _) rfl ?_ | refine Nx.callv rfl rfl rfl (by kernel_rfl) rfl hVx ?_ | refine Nx.so ?_ | refine Nx.sb (fun bx => ?_) | refine Nx.sa (fun A2 c2 => ?_))
        | refine Nx.za ?_ | refine Nx.zr (fun hc => ?_) (fun hc => ?_)
        | refine Nx.zq ?_ | refine Nx.zu (fun hc => ?_) (fun hc => ?_)
        | refine Nx.zx ?_ | fail
      exact Nx.ret_fn rfl [] ⟨by rw [hbad hf], rfl⟩ (by (exact Ent.auto))
    | true =>
      rw [hf] at hVx
      repeat' first
        | ((with_reducible refine Nx.is_wp ?_); first | refine Nx.wo ?_ | refine Nx.zp (fun hc => ?_) (fun hc => ?_))
        | (refine Nx.zo ?_; first | refine Nx.opr rfl rfl ?_ | refine Nx.indexAddr_nat (A := Aw) (i := i) (sz := 2) rfl rfl rfl rfl rfl him hA ?_ | refine Nx.loads rfl rfl rfl rfl (hrd _ _) rfl ?_ | refine Nx.callv rfl rfl rfl (by kernel_rfl) rfl hVx ?_ | refine Nx.so ?_ | refine Nx.sb (fun bx => ?_) | refine Nx.sa (fun A2 c2 => ?_))
        | refine Nx.za ?_ | refine Nx.zr (fun hc => ?_) (fun hc => ?_)
        | refine Nx.zq ?_ | refine Nx.zu (fun hc => ?_) (fun hc => ?_)
        | refine Nx.zx ?_ | fail
      exact Nx.again (i + 1) ⟨him, hgo hf⟩ (by omega) ⟨rfl, rfl, rfl, rfl, rfl, rfl, trivial⟩ (by (exact Ent.auto))
  obtain rfl : i = wts.length := by omega
  rw [List.take_length] at hokw
  replace hchk := hchk hokw
  dsimp only at hchk
  rw [hok, Bool.true_and] at hchk
  rw [hchk]
  obtain ⟨b, hb, hbR⟩ := fok_ex h7
  obtain ⟨rfl, rfl⟩ : bn = b.num ∧ bd = b.den := ⟨congrArg Prod.fst hb, congrArg Prod.snd hb⟩
  obtain ⟨W, rfl, hW⟩ := fok_all hokw
  obtain ⟨X, rfl, hX⟩ := fok_all (pos_all hok)
  obtain ⟨N, rfl⟩ : ∃ N : Nat, n = (N : Int) := ⟨n.toNat, by omega⟩
  obtain ⟨K, rfl⟩ : ∃ K : Nat, cell = (K : Int) := ⟨cell.toNat, by omega⟩
  have hg := (valid_good hv).2.2
  have hll := (valid_good hv).2.1
  rw [Int.toNat_natCast] at hg
  rw [toR_all, toR_all, show toR (b.num, (b.den : Int)) = b from toR_raw b, Int.toNat_natCast, Int.toNat_natCast]
  have hPX := hpts.rats
  have hWR := hwts.rats
  rw [List.length_map] at h5 h6
  rw [List.length_map, List.length_map]
  have h6' : W.length = l.length := by omega
  rw [h6']
  have h17 := rchk17 w F N A c l (K : Int) up b Ap cp X Aw cw W I b5 (by omega) hll hl hg hPX (by omega) hX hWR h6' hW
  have hKX : K < X.length := by omega
  have hrx : ∀ (W' : World) (R : List Res), Rds W' I R ((ad Ap).add (K * 2)) (ratC (X.getD K default)) := fun W' R => hPX.rds hKX
  have hAp := hPX.isSome (by omega) (by omega)
  clear hchk
  generalize X.getD K default = y at hrx
  by_cases hy : y = b
  · have hE := fun {x y' : Operand} (w : World) => neq_fracK (x := x) (y := y') y.num y.den b.num b.den false (decide_eq_false fun hh => hh (rat_eq_iff.2 hy)) w
    rw [decide_eq_true hy, Bool.and_true]
    repeat' first
      | ((with_reducible refine Nx.is_wp ?_); first | refine Nx.p_stopr 17 rfl ?_ | refine Nx.wo ?_ | refine Nx.p_drawF (id := 15) rfl [0, 1, 2, 3, 4, 5, 6, 7, 8] [] [] _ rfl rfl (by kernel_rfl) (by kernel_rfl) rfl PanicOk.auto (Ent.refl _) ?_ | refine Nx.p_drawF (id := 28) rfl [0, 1, 2, 3, 4, 5, 6, 7, 8] [6] [] _ rfl rfl (by kernel_rfl) (by kernel_rfl) rfl PanicOk.auto (Ent.refl _) ?_ | refine Nx.p_poolF (id := 30) rfl [0, 1, 2, 3, 4, 5, 6, 7, 8, 9, 10, 11] [7, 8] [11, 10] [13, 14] [13] [⟨12, 19, 24, _⟩] rfl rfl (by kernel_rfl) (by kernel_rfl) (by decide) (PoolFit.cons ⟨⟨_, _, _, rfl⟩, rfl, rfl⟩ PoolFit.nil) PanicOk.auto (Ent.refl _) ?_ | refine Nx.zp (fun hc => ?_) (fun hc => ?_))
      | ((first | refine Nx.at_op rfl rfl ?_ | refine Nx.m_loud rfl rfl rfl ?_ | refine Nx.at_do rfl rfl rfl rfl ?_ | refine Nx.m_loud_do rfl rfl rfl rfl rfl ?_ | refine GoodF.loud_ rfl rfl rfl rfl (fun ex X => ?_)); first | refine Nx.opr rfl rfl ?_ | refine Nx.so ?_ | refine Nx.sb (fun bx => ?_) | refine Nx.sa (fun A2 c2 => ?_))
      | refine Nx.za ?_ | refine Nx.zr (fun hc => ?_) (fun hc => ?_)
      | ((with_reducible refine Nx.is_mix ?_); first | refine Nx.m_quiet rfl rfl rfl rfl rfl (by first | exact QRun.opr rfl | exact QRun.idx (A := Ap) (i := K) (sz := 2) rfl rfl rfl rfl hKX hAp | exact QRun.loads rfl rfl rfl (hrx _ _) rfl | exact QRun.loads rfl rfl rfl (Rds.cut 0 2 rfl rfl) rfl | exact QRun.binr rfl rfl hE) ?_ | refine Nx.m_quiet_do rfl rfl rfl rfl rfl rfl rfl (by first | exact QRun.opr rfl | exact QRun.idx (A := Ap) (i := K) (sz := 2) rfl rfl rfl rfl hKX hAp | exact QRun.loads rfl rfl rfl (hrx _ _) rfl | exact QRun.loads rfl rfl rfl (Rds.cut 0 2 rfl rfl) rfl | exact QRun.binr rfl rfl hE) ?_ | refine Nx.m ?_ | refine Nx.zm ?_ | refine Nx.zt (fun hc => ?_) (fun hc => ?_))
      | ((with_reducible refine GoodF.is ?_); first | refine GoodF.quiet rfl rfl rfl rfl rfl rfl (by first | exact QRun.opr rfl | exact QRun.idx (A := Ap) (i := K) (sz := 2) rfl rfl rfl rfl hKX hAp | exact QRun.loads rfl rfl rfl (hrx _ _) rfl | exact QRun.loads rfl rfl rfl (Rds.cut 0 2 rfl rfl) rfl | exact QRun.binr rfl rfl hE |  exact QRun.std) ?_ | refine GoodF.done1 rfl (fun bx => ?_) | refine GoodF.done2 rfl (fun bx by_ => ?_) | refine GoodF.done3 rfl (fun bx by_ bz => ?_))
      | ((fail_if_success (with_reducible refine Nx.is_at ?_)); (fail_if_success (with_reducible refine Nx.is_wp ?_)); (fail_if_success (with_reducible refine Nx.is_mix ?_)); first | refine Nx.ex ?_ | refine Nx.pool_nextF 0 rfl (by exact Ent.auto) ?_ | refine Nx.pool_nextF 1 rfl (by exact Ent.auto) ?_ | refine Nx.pool_nextF 2 rfl (by exact Ent.auto) ?_ | refine Nx.pool_nextF 3 rfl (by exact Ent.auto) ?_)
    refine Nx.unstop ?_
    exact Nx.weak (by exact ⟨rfl, rfl, rfl, trivial⟩) (by (exact Ent.auto)) h17
  · have hE := fun {x y' : Operand} (w : World) => neq_fracK (x := x) (y := y') y.num y.den b.num b.den true (decide_eq_true fun hh => hy (rat_eq_iff.1 hh)) w
    rw [decide_eq_false hy, Bool.and_false, Bool.false_and, Bool.false_and]
    repeat' first
      | ((with_reducible refine Nx.is_wp ?_); first | refine Nx.wo ?_ | refine Nx.p_drawF (id := 15) rfl [0, 1, 2, 3, 4, 5, 6, 7, 8] [] [] _ rfl rfl (by kernel_rfl) (by kernel_rfl) rfl PanicOk.auto (Ent.refl _) ?_ | refine Nx.p_drawF (id := 28) rfl [0, 1, 2, 3, 4, 5, 6, 7, 8] [6] [] _ rfl rfl (by kernel_rfl) (by kernel_rfl) rfl PanicOk.auto (Ent.refl _) ?_ | refine Nx.p_poolF (id := 30) rfl [0, 1, 2, 3, 4, 5, 6, 7, 8, 9, 10, 11] [7, 8] [11, 10] [13, 14] [13] [⟨12, 19, 24, _⟩] rfl rfl (by kernel_rfl) (by kernel_rfl) (by decide) (PoolFit.cons ⟨⟨_, _, _, rfl⟩, rfl, rfl⟩ PoolFit.nil) PanicOk.auto (Ent.refl _) ?_ | refine Nx.zp (fun hc => ?_) (fun hc => ?_))
      | ((first | refine Nx.at_op rfl rfl ?_ | refine Nx.m_loud rfl rfl rfl ?_ | refine Nx.at_do rfl rfl rfl rfl ?_ | refine Nx.m_loud_do rfl rfl rfl rfl rfl ?_ | refine GoodF.loud_ rfl rfl rfl rfl (fun ex X => ?_)); first | refine Nx.opr rfl rfl ?_ | refine Nx.so ?_ | refine Nx.sb (fun bx => ?_) | refine Nx.sa (fun A2 c2 => ?_))
      | refine Nx.za ?_ | refine Nx.zr (fun hc => ?_) (fun hc => ?_)
      | ((with_reducible refine Nx.is_mix ?_); first | refine Nx.m_quiet rfl rfl rfl rfl rfl (by first | exact QRun.opr rfl | exact QRun.idx (A := Ap) (i := K) (sz := 2) rfl rfl rfl rfl hKX hAp | exact QRun.loads rfl rfl rfl (hrx _ _) rfl | exact QRun.loads rfl rfl rfl (Rds.cut 0 2 rfl rfl) rfl | exact QRun.binr rfl rfl hE) ?_ | refine Nx.m_quiet_do rfl rfl rfl rfl rfl rfl rfl (by first | exact QRun.opr rfl | exact QRun.idx (A := Ap) (i := K) (sz := 2) rfl rfl rfl rfl hKX hAp | exact QRun.loads rfl rfl rfl (hrx _ _) rfl | exact QRun.loads rfl rfl rfl (Rds.cut 0 2 rfl rfl) rfl | exact QRun.binr rfl rfl hE) ?_ | refine Nx.m ?_ | refine Nx.zm ?_ | refine Nx.zt (fun hc => ?_) (fun hc => ?_))
      | ((with_reducible refine GoodF.is ?_); first | refine GoodF.quiet rfl rfl rfl rfl rfl rfl (by first | exact QRun.opr rfl | exact QRun.idx (A := Ap) (i := K) (sz := 2) rfl rfl rfl rfl hKX hAp | exact QRun.loads rfl rfl rfl (hrx _ _) rfl | exact QRun.loads rfl rfl rfl (Rds.cut 0 2 rfl rfl) rfl | exact QRun.binr rfl rfl hE |  exact QRun.std) ?_ | refine GoodF.done1 rfl (fun bx => ?_) | refine GoodF.done2 rfl (fun bx by_ => ?_) | refine GoodF.done3 rfl (fun bx by_ bz => ?_))
      | ((fail_if_success (with_reducible refine Nx.is_at ?_)); (fail_if_success (with_reducible refine Nx.is_wp ?_)); (fail_if_success (with_reducible refine Nx.is_mix ?_)); first | refine Nx.ex ?_ | refine Nx.pool_nextF 0 rfl (by exact Ent.auto) ?_ | refine Nx.pool_nextF 1 rfl (by exact Ent.auto) ?_ | refine Nx.pool_nextF 2 rfl (by exact Ent.auto) ?_ | refine Nx.pool_nextF 3 rfl (by exact Ent.auto) ?_)
    exact Nx.ret_fn rfl [] ⟨rfl, rfl⟩ (by (exact Ent.auto))
end Go.Proofs.YtpcnapidlhpbkaaGreatDoor
namespace Go.Proofs.YtpcnapidlhpbkaaGreatDoor
open Go.Eng Go.Sol
attribute [local irreducible] opK wpList Code.wp Exit.then Exit.inBlock fnPost bodyPost Nx Calls Oper.wp Rd Rds Wr Ent Stars Blk Again Vec FnSpec wpMix QRun Stop Upto wpAt
theorem right_in {n m : Nat} {cell : Nat} {up : Bool} {x w : Nat → Rat} {D : Int} {q : Bl.Eqs} (hqn : q.cnt = n) (hqm : q.m = m) (hc : cell < n) (hz : Bl.PrSz q x w D) {I : PH} {b' : Nat} {A' : Option Addr} {c' : Nat} (hp : Rats I (some ⟨b', 0, none⟩) n (rl n x)) (hw : Rats I A' c' (rl m w)) :
    PrIn I ⟨cell, up, rawOf (x cell), some ⟨b', 0, none⟩, n, (rl n x).map rawOf, A', c', (rl m w).map rawOf⟩ := by
  have hle := hz.le
  have hrx : ∀ k, k < n → RB (x k) := fun k hk => by
    obtain ⟨p, h1, h2⟩ := hz.pnt k (by omega)
    exact Bl.rb_of hz.ne h1 (by omega) (by omega)
  have hrw : ∀ j, j < m → RB (w j) := fun j hj => by
    obtain ⟨p, h1, h2⟩ := hz.wgt j (by omega)
    exact Bl.rb_of hz.ne h1 (by omega) (by omega)
  refine ⟨Raws.of hp, Raws.of hw, rawOf_i64 (hrx cell hc), fun y hy => ?_, fun y hy => ?_⟩
  · obtain ⟨z, hz', rfl⟩ := List.mem_map.1 hy
    obtain ⟨j, hj, rfl⟩ := List.mem_map.1 hz'
    exact rawOf_i64 (hrx j (List.mem_range.1 hj))
  · obtain ⟨z, hz', rfl⟩ := List.mem_map.1 hy
    obtain ⟨j, hj, rfl⟩ := List.mem_map.1 hz'
    exact rawOf_i64 (hrw j (List.mem_range.1 hj))
theorem rcheck_right {n : Nat} {l : List EqR} {cell : Nat} {up : Bool} {x w : Nat → Rat} {D : Int} (hb : BEq n l) (hv : validB n l = true) (hc : cell < n) (h : Bl.PrOk (toQ n l) cell up x w) (hz : Bl.PrSz (toQ n l) x w D) (A : Option Addr) (c : Nat) (I : PH) (hl : Eqs I A c l) (b' : Nat) (A' : Option Addr) (c' : Nat) (hp : Rats I (some ⟨b', 0, none⟩) n (rl n x)) (hw : Rats I A' c' (rl l.length w)) :
    FnSpec Tryz.prog 15 [.int .i64 (n : Int), .slice A l.length c, proofV cell up (x cell) (.slice (some ⟨b', 0, none⟩) n n) (.slice A' l.length c')] I [] (fun v R' => v = .bool true ∧ R' = []) := by
  have := R30Check_spec (n : Int) A c l ⟨cell, up, rawOf (x cell), some ⟨b', 0, none⟩, n, (rl n x).map rawOf, A', c', (rl l.length w).map rawOf⟩ I hl (right_in rfl rfl hc hz hp hw)
  rw [chkP_ok hb hv hc h hz] at this
  unfold PrM.V at this
  dsimp only at this
  rw [List.length_map, List.length_map, rl_len, rl_len] at this
  exact this
def ProofPost (n : Nat) (l : List EqR) (cell : Nat) (up : Bool) (v : Value) (R' : List Res) : Prop :=
  ∃ (x w : Nat → Rat) (D : Int) (b' : Nat) (A' : Option Addr) (c' : Nat), Bl.PrOk (toQ n l) cell up x w ∧ Bl.PrSz (toQ n l) x w D ∧ Bl.IsOpt (toQ n l) cell up (x cell) ∧ v = .tuple #[proofV cell up (x cell) (.slice (some ⟨b', 0, none⟩) n n) (.slice A' l.length c'), .int .i64 0] ∧ R' = [ratsR (some ⟨b', 0, none⟩) n n (rl n x), ratsR A' l.length c' (rl l.length w)]
theorem bProve_yes {n : Nat} {l : List EqR} (hb : BEq n l) (hv : validB n l = true) {cell : Nat} (hc : cell < n) {up : Bool} (hfe : ∃ x, Bl.Feas (toQ n l) x) (hnu : ¬(up = true ∧ Unb (toQ n l) cell)) (A : Option Addr) (c : Nat) (I : PH) (hl : Eqs I A c l) (hT : TabI I) :
    FnSpec Tryz.prog 30 [.int .i64 (n : Int), .slice A l.length c, .int .i64 (cell : Int), .bool up] I [] (ProofPost n l cell up) := by
  refine FnSpec.mono (bProve_spec (n : Int) A c l (cell : Int) up I hl hT) fun v R' h => ?_
  rcases h.2 (chkB_of hb hv ⟨by omega, by omega⟩) with ⟨hno, _⟩ | ⟨_, hu, _⟩ | ⟨_, _, x, w, D, b', A', c', g1, g2, g3, g4, g5⟩
  · exact absurd hfe hno
  · exact absurd hu hnu
  · exact ⟨x, w, D, b', A', c', g1, g2, g3, g4, g5⟩
end Go.Proofs.YtpcnapidlhpbkaaGreatDoor
namespace Go.Proofs.YtpcnapidlhpbkaaGreatDoor
open Go.Eng
attribute [local irreducible] opK wpList Code.wp Exit.then Exit.inBlock fnPost bodyPost Nx Calls Oper.wp Rd Rds Wr Ent Stars Blk Again Vec FnSpec wpMix QRun Stop Upto wpAt
structure RA where
  ta : TA
  Ax : Option Addr
  cx : Nat
abbrev rtC (q : Bl.Eqs) (ra : RA) : List Value := [.slice ra.ta.Ar q.m ra.ta.cr, .slice ra.Ax q.m ra.cx, .slice ra.ta.Ab q.m ra.ta.cb]
abbrev rtV (q : Bl.Eqs) (ra : RA) : Value := .agg #[.slice ra.ta.Ar q.m ra.ta.cr, .slice ra.Ax q.m ra.cx, .slice ra.ta.Ab q.m ra.ta.cb]
def rrowF (q : Bl.Eqs) (ta : TA) (x : RowT) : Res := ratsR (ta.ra x.1).1 q.N (ta.ra x.1).2 (rl q.N x.2)
def rrowsR (q : Bl.Eqs) (ta : TA) (T : Nat → Nat → Rat) : Res := Stars ((rowsL q T).map (rrowF q ta))
def rightR (q : Bl.Eqs) (ra : RA) (T : Nat → Nat → Rat) : Res := ratsR ra.Ax q.m ra.cx (rl q.m fun i => T i q.N)
section
variable {C : Cx} {e : Env} {I : PH} {R : List Res} {K : Act → World → Prop} {Q : Exit → Act → World → Prop} {t ty : TypeId} {pos : String} {after : Array Edge} {g : Option (Nat × Bool)} {x y : Operand} {q : Bl.Eqs} {ta : TA} {ra : RA} {T : Nat → Nat → Rat} {i kk : Nat}
theorem rnum_rds {W : World} (k : Nat) (hk : nthL R k = some (rrowsR q ta T)) (hi : i < q.m) (hkk : kk < q.N) : Rds W I R ((ad (ta.ra i).1).add (kk * 2)) (ratC (T i kk)) := by
  have := Rds.rowN (W := W) (I := I) (R := R) (f := ratC) (r := rrowF q ta) (bs := rowsL q T) (j := i) (sz := 2) (l := rl q.N (T i)) (i := kk) (A := (ta.ra i).1) (n := q.N) (c := (ta.ra i).2) (el := 24) k ratC_len hk (by rw [rowsL_len]; exact hi) (by rw [rowsL_at hi]; rfl) (by rw [rl_len]; exact hkk)
  rwa [rl_at _ hkk] at this
theorem Nx.rstore_num (k : Nat) {z : Rat} (hx : evo e x = some (.pointer (some ((ad (ta.ra i).1).add (kk * 2))))) (hy : evo e y = some (ratV z)) (hn : Go.Eng.cellsIn C.P t = some 2) (hk : nthL R k = some (rrowsR q ta T)) (hi : i < q.m) (hkk : kk < q.N)
    (h : Nx C e I (rrowsR q ta (upd2 T i kk z) :: R.eraseIdx k) K) : Nx C e I R (opK C.P ⟨none, .store t x y, ty, pos, after, g⟩ K Q) := by
  refine Nx.store_row2 (f := ratC) (a := fun q => .int .i64 q.num) (b := fun q => .int .i64 q.den) (r := rrowF q ta) (bs := rowsL q T) (j := i) (y' := (i, updF (T i) kk z)) (l := rl q.N (T i)) (i := kk) (z := z) (A := (ta.ra i).1) (n := q.N) (c := (ta.ra i).2) (el := 24) k hx hy rfl (fun _ => rfl) rfl rfl hn hk (by rw [rowsL_len]; exact hi) (by rw [rowsL_at hi]; rfl) (by rw [rl_set]; rfl) (by rw [rl_len]; exact hkk) hkk ?_
  rw [rowsL_set]
  exact h
theorem right_rds {W : World} (k : Nat) (hk : nthL R k = some (rightR q ra T)) (hi : i < q.m) : Rds W I R ((ad ra.Ax).add (i * 2)) (ratC (T i q.N)) := by
  have := Rds.vecN (W := W) (I := I) (R := R) (f := ratC) (t := 24) (A := ra.Ax) (n := q.m) (c := ra.cx) (l := rl q.m fun i => T i q.N) (i := i) k ratC_len hk (by rw [rl_len]; exact hi)
  rwa [rl_at _ hi] at this
theorem Nx.store_right (k : Nat) {z : Rat} (hx : evo e x = some (.pointer (some ((ad ra.Ax).add (i * 2))))) (hy : evo e y = some (ratV z)) (hn : Go.Eng.cellsIn C.P t = some 2) (hk : nthL R k = some (rightR q ra T)) (hi : i < q.m)
    (h : Nx C e I (rightR q ra (upd2 T i q.N z) :: R.eraseIdx k) K) : Nx C e I R (opK C.P ⟨none, .store t x y, ty, pos, after, g⟩ K Q) := by
  refine Nx.store_el2 (f := ratC) (a := fun q => .int .i64 q.num) (b := fun q => .int .i64 q.den) (A := ra.Ax) (n := q.m) (c := ra.cx) (el := 24) (l := rl q.m fun i => T i q.N) (i := i) (z := z) k hx hy rfl (fun _ => rfl) rfl rfl hn hk (by rw [rl_len]; exact hi) hi ?_
  rw [rl_set]
  have e1 : rl q.m (updF (fun i => T i q.N) i z) = rl q.m fun a => upd2 T i q.N z a q.N := rl_congr fun a _ => by
    unfold updF upd2
    by_cases h : a = i
    · rw [if_pos h, if_pos h]; unfold updF; rw [if_pos rfl]
    · rw [if_neg h, if_neg h]
  rw [e1]
  exact h
end
theorem rrows_congr {q : Bl.Eqs} {ta : TA} {T T' : Nat → Nat → Rat} (h : ∀ i j, i < q.m → j < q.N → T i j = T' i j) : rrowsR q ta T = rrowsR q ta T' := by
  unfold rrowsR rowsL
  rw [List.map_map, List.map_map]
  congr 1
  refine List.map_congr_left fun i hi => ?_
  show rrowF q ta (i, T i) = rrowF q ta (i, T' i)
  unfold rrowF
  rw [rl_congr (f := T i) (g := T' i) fun j hj => h i j (List.mem_range.1 hi) hj]
theorem right_congr {q : Bl.Eqs} {ra : RA} {T T' : Nat → Nat → Rat} (h : ∀ i, i < q.m → T i q.N = T' i q.N) : rightR q ra T = rightR q ra T' := by
  unfold rightR
  rw [rl_congr (f := fun i => T i q.N) (g := fun i => T' i q.N) fun i hi => h i hi]
theorem r1_end {q : Bl.Eqs} {ta : TA} {T : Nat → Nat → Rat} {r : Nat} {p : Rat} : rrowsR q ta (T1 T r p q.N) = rrowsR q ta (T1 T r p (q.N + 1)) := rrows_congr fun i j _ hj => by
  unfold T1
  by_cases h : i = r
  · rw [if_pos ⟨h, hj⟩, if_pos ⟨h, by omega⟩]
  · rw [if_neg fun hh => h hh.1, if_neg fun hh => h hh.1]
theorem r1_right {q : Bl.Eqs} {ra : RA} {T : Nat → Nat → Rat} {r : Nat} {p : Rat} : rightR q ra (upd2 T r q.N (T r q.N / p)) = rightR q ra (T1 T r p (q.N + 1)) := right_congr fun i _ => by
  unfold upd2 T1 updF
  by_cases h : i = r
  · rw [if_pos h, if_pos rfl, if_pos ⟨h, by omega⟩]
  · rw [if_neg h, if_neg fun hh => h hh.1]
theorem r2_end {q : Bl.Eqs} {ta : TA} {T : Nat → Nat → Rat} {r e i : Nat} : rrowsR q ta (T2 T q.N r e i q.N) = rrowsR q ta (T2 T q.N r e (i + 1) 0) := rrows_congr fun a j _ hj => by
  unfold T2
  by_cases h : a = r
  · rw [if_pos h, if_pos h]
  · rw [if_neg h, if_neg h]
    by_cases h2 : a < i ∨ a = i
    · rw [if_pos ⟨h2.elim .inl fun h3 => .inr ⟨h3, hj⟩, by omega⟩, if_pos ⟨.inl (by omega), by omega⟩]
    · rw [if_neg fun hh => h2 (hh.1.elim .inl fun h3 => .inr h3.1), if_neg fun hh => h2 (by omega)]
theorem r2_right {q : Bl.Eqs} {ra : RA} {T : Nat → Nat → Rat} {r e i : Nat} (hir : i ≠ r) : rightR q ra (upd2 (T2 T q.N r e i 0) i q.N (T i q.N - T i e * (T r q.N / T r e))) = rightR q ra (T2 T q.N r e (i + 1) 0) := right_congr fun a _ => by
  unfold upd2 updF T2
  by_cases h : a = i
  · subst h
    rw [if_pos rfl, if_pos rfl, if_neg hir, if_pos ⟨.inl (by omega), by omega⟩]
  · rw [if_neg h]
    by_cases h3 : a = r
    · rw [if_pos h3, if_pos h3]
    · rw [if_neg h3, if_neg h3]
      by_cases h2 : a < i
      · rw [if_pos ⟨.inl h2, by omega⟩, if_pos ⟨.inl (by omega), by omega⟩]
      · rw [if_neg fun hh => h2 (by omega), if_neg fun hh => h2 (by omega)]
theorem r2_fin {q : Bl.Eqs} {ta : TA} {s : Bl.Tab} {r e : Nat} : rrowsR q ta (T2 s.T q.N r e q.m 0) = rrowsR q ta (Bl.piv s r e).T := rrows_congr fun i j hi hj => by
  unfold T2
  rw [Bl.piv_T]
  by_cases hir : i = r
  · rw [if_pos hir, if_pos (by omega), if_pos hir]
  · rw [if_neg hir, if_pos ⟨.inl hi, by omega⟩, if_neg hir]
theorem r2_fin_right {q : Bl.Eqs} {ra : RA} {s : Bl.Tab} {r e : Nat} : rightR q ra (T2 s.T q.N r e q.m 0) = rightR q ra (Bl.piv s r e).T := right_congr fun i hi => by
  unfold T2
  rw [Bl.piv_T]
  by_cases hir : i = r
  · rw [if_pos hir, if_pos (by omega), if_pos hir]
  · rw [if_neg hir, if_pos ⟨.inl hi, by omega⟩, if_neg hir]
theorem neg_num (z : Rat) : [Value.int .i64 (-z.num), Value.int .i64 z.den] = ratC (-z) := rfl
theorem RB_neg {z : Rat} (h : RB z) : RB (-z) := ⟨by show (-z.num).natAbs ≤ _; rw [Int.natAbs_neg]; exact h.1, h.2⟩
set_option maxRecDepth 10000 in
theorem rpivot_spec (q : Bl.Eqs) (hq : q.Small) (ra : RA) (s : Bl.Tab) (hs : Bl.Inv q s) (r e : Nat) (hr : r < q.m) (he : e < q.cnt) (hne : s.T r e ≠ 0) (hs' : Bl.Inv q (Bl.piv s r e)) (I : PH)
    (ho : SliceOf (fun i : Nat => Value.slice (ra.ta.ra i).1 q.N (ra.ta.ra i).2) I ra.ta.Ar ra.ta.cr (List.range q.m)) (hra : ∀ i, i < q.m → (ra.ta.ra i).1.isSome = true) (hAx : ra.Ax.isSome = true) (hAb : ra.ta.Ab.isSome = true) :
    FnSpec Tryz.prog 94 [rtV q ra, .int .i64 (r : Int), .int .i64 (e : Int)] I [rrowsR q ra.ta s.T, rightR q ra s.T, basisR q ra.ta s.B]
      (fun _ R' => R' = [rrowsR q ra.ta (Bl.piv s r e).T, rightR q ra (Bl.piv s r e).T, basisR q ra.ta (Bl.piv s r e).B]) := by
  obtain ⟨ta, Ax, cx⟩ := ra
  dsimp only at ho hra hAx hAb ⊢
  have h1 := hq.cnt
  have h2 := hq.m
  have hNb : q.N ≤ 20 := by show q.cnt + q.m ≤ 20; omega
  have heN : e < q.N := by show e < q.cnt + q.m; omega
  obtain ⟨D, hD⟩ := hs.num hq
  obtain ⟨D', hD'⟩ := hs'.num hq
  have ror := fun (W : World) (Q : List Res) (i : Nat) (hi : i < q.m) => (by
    have := ho.rd (W := W) (R := Q) (k := i) (by rw [List.length_range]; exact hi)
    rwa [range_getD hi] at this : Rd W I Q ((ad ta.Ar).add (i * 1)) (.slice (ta.ra i).1 q.N (ta.ra i).2))
  have hAr : ta.Ar.isSome = true := ho.isSome (by rw [List.length_range]; omega)
  have ro1 := fun (W : World) (Q : List Res) => ror W Q r hr
  have hrr := hra r hr
  obtain ⟨p, hp⟩ : ∃ p, p = s.T r e := ⟨_, rfl⟩
  have hpe : ∀ {W : World} {R : List Res} (k : Nat), nthL R k = some (rrowsR q ta s.T) → Rds W I R ((ad (ta.ra r).1).add (e * 2)) (ratC p) := fun k hk => by rw [hp]; exact rnum_rds k hk hr heN
  refine FnSpec.enterP Tryz.func94 rfl Tryz.ntmps94 rfl fun w F => ?_
  repeat' first
    | ((with_reducible refine Nx.is_wp ?_); first | refine Nx.wo ?_ | refine Nx.zp (fun hc => ?_) (fun hc => ?_))
    | (refine Nx.zo ?_; first | refine Nx.opr rfl rfl ?_ | refine Nx.indexAddr_nat (A := ta.Ar) (i := r) (sz := 1) rfl rfl rfl rfl rfl hr hAr ?_ | refine Nx.load rfl rfl rfl (ro1 _ _) ?_ | refine Nx.indexAddr_nat (A := (ta.ra r).1) (i := e) (sz := 2) rfl rfl rfl rfl rfl heN hrr ?_ | refine Nx.loads rfl rfl rfl rfl (hpe 1 rfl) rfl ?_ | refine Nx.so ?_ | refine Nx.sb (fun bx => ?_) | refine Nx.sa (fun A2 c2 => ?_))
    | refine Nx.za ?_ | refine Nx.zr (fun hc => ?_) (fun hc => ?_)
    | refine Nx.zq ?_ | refine Nx.zu (fun hc => ?_) (fun hc => ?_)
    | refine Nx.zx ?_ | fail
  rename_i b3
  revert bx; intro b6
  have hpne : p ≠ 0 := by rw [hp]; exact hne
  have hRBp : RB p := by rw [hp]; exact hD.rb hr (by omega)
  refine Nx.p_loop (σ := Nat) (fun k => [(1, .int .i64 (r : Int)), (2, .int .i64 (e : Int)), (3, .pointer (some ⟨b3, 0, none⟩)), (6, .pointer (some ⟨b6, 0, none⟩)), (24, .int .i64 (q.N : Int)), (25, .int .i64 (k : Int))])
    (fun k => [Blk b6 24 (ratC p), rrowsR q ta (T1 s.T r p k), Blk b3 87 (rtC q ⟨ta, Ax, cx⟩), rightR q ⟨ta, Ax, cx⟩ s.T, basisR q ta s.B, F]) (fun k => k ≤ q.N) (fun k => q.N - k) 0 rfl (Nat.zero_le _) ⟨rfl, rfl, rfl, rfl, rfl, rfl, trivial⟩ (by rw [T1_zero]; (exact Ent.auto)) ?_
  intro k hk
  have hk : k ≤ q.N := hk
  by_cases hkN : k < q.N
  · obtain ⟨xk, hxk⟩ : ∃ xk, xk = s.T r k := ⟨_, rfl⟩
    obtain ⟨qk, hqk⟩ : ∃ qk, qk = xk / p := ⟨_, rfl⟩
    have hxe : ∀ (W : World) (R : List Res) (j : Nat), nthL R j = some (rrowsR q ta (T1 s.T r p k)) → Rds W I R ((ad (ta.ra r).1).add (k * 2)) (ratC xk) := fun W R j hj => by
      have := rnum_rds (W := W) (I := I) j hj hr hkN
      rw [show T1 s.T r p k r k = xk by rw [hxk]; unfold T1; rw [if_neg (by omega)]] at this
      exact this
    have hM := rdiv_spec xk p (by rw [hxk]; exact hD.rb hr (by omega)) hRBp hpne (by rw [hxk, hp]; exact hD.rbq hr hr (by omega) heN hne) I
    rw [← hqk] at hM
    have hup := T1_succ s.T r p k
    rw [← hxk, ← hqk] at hup
    repeat' first
      | ((with_reducible refine Nx.is_wp ?_); first | refine Nx.wo ?_ | refine Nx.p_drawF (id := 5) rfl [0, 1, 2, 3, 4, 5, 6, 7, 8, 9, 10, 11, 12, 13, 14, 15, 16] [15] [17] _ rfl rfl (by kernel_rfl) (by kernel_rfl) rfl PanicOk.auto (Ent.refl _) ?_ | refine Nx.p_drawF (id := 7) rfl [0, 1, 2, 3, 4, 5, 6, 7, 8, 9, 10] [9] [11] _ rfl rfl (by kernel_rfl) (by kernel_rfl) rfl PanicOk.auto (Ent.refl _) ?_ | refine Nx.p_drawF (id := 17) rfl [0, 1, 2, 3, 4, 5, 6, 7, 8, 9, 10, 11, 12, 13, 14, 15, 16, 17, 18, 19, 20, 21, 22, 23, 24, 25] [23, 24] [26] _ rfl rfl (by kernel_rfl) (by kernel_rfl) rfl PanicOk.auto (Ent.refl _) ?_ | refine Nx.p_drawF (id := 19) rfl [0, 1, 2, 3, 4, 5, 6, 7, 8, 9, 10, 11, 12, 13, 14, 15, 16] [14, 15] [17] _ rfl rfl (by kernel_rfl) (by kernel_rfl) rfl PanicOk.auto (Ent.refl _) ?_ | refine Nx.zp (fun hc => ?_) (fun hc => ?_))
      | (refine Nx.zo ?_; first | refine Nx.opr rfl rfl ?_ | refine Nx.callv rfl rfl rfl (by kernel_rfl) rfl hM ?_ | refine Nx.indexAddr_nat (A := (ta.ra r).1) (i := k) (sz := 2) rfl rfl rfl rfl rfl hkN hrr ?_ | refine Nx.rstore_num 1 rfl rfl rfl rfl hr hkN ?_ | refine Nx.so ?_ | refine Nx.sb (fun bx => ?_) | refine Nx.sa (fun A2 c2 => ?_))
      | refine Nx.za ?_ | refine Nx.zr (fun hc => ?_) (fun hc => ?_)
      | ((with_reducible refine Nx.is_mix ?_); first | refine Nx.m_quiet rfl rfl rfl rfl rfl (by first | exact QRun.opr rfl | exact QRun.idx (A := ta.Ar) (i := r) (sz := 1) rfl rfl rfl rfl hr hAr | exact QRun.load rfl rfl (ro1 _ _) | exact QRun.idx (A := (ta.ra r).1) (i := k) (sz := 2) rfl rfl rfl rfl hkN hrr | exact QRun.loads rfl rfl rfl (hxe _ _ 1 rfl) rfl | exact QRun.loads rfl rfl rfl (Rds.cut 0 2 rfl rfl) rfl) ?_ | refine Nx.m_quiet_do rfl rfl rfl rfl rfl rfl rfl (by first | exact QRun.opr rfl | exact QRun.idx (A := ta.Ar) (i := r) (sz := 1) rfl rfl rfl rfl hr hAr | exact QRun.load rfl rfl (ro1 _ _) | exact QRun.idx (A := (ta.ra r).1) (i := k) (sz := 2) rfl rfl rfl rfl hkN hrr | exact QRun.loads rfl rfl rfl (hxe _ _ 1 rfl) rfl | exact QRun.loads rfl rfl rfl (Rds.cut 0 2 rfl rfl) rfl) ?_ | refine Nx.m ?_ | refine Nx.zm ?_ | refine Nx.zt (fun hc => ?_) (fun hc => ?_))
      | refine Nx.zx ?_ | fail
    exact Nx.again (k + 1) hkN (by omega) ⟨rfl, rfl, rfl, rfl, rfl, rfl, trivial⟩ (by rw [← hup]; (exact Ent.auto))
  obtain rfl : k = q.N := by omega
  rw [r1_end]
  have hb1 : ∀ (W : World) (R : List Res) (j : Nat), nthL R j = some (rightR q ⟨ta, Ax, cx⟩ s.T) → Rds W I R ((ad Ax).add (r * 2)) (ratC (s.T r q.N)) := fun W R j hj => right_rds (ra := ⟨ta, Ax, cx⟩) j hj hr
  obtain ⟨xr, hxr⟩ : ∃ xr, xr = s.T r q.N := ⟨_, rfl⟩
  obtain ⟨qr, hqr⟩ : ∃ qr, qr = xr / p := ⟨_, rfl⟩
  have hrr1 := r1_right (q := q) (ra := ⟨ta, Ax, cx⟩) (T := s.T) (r := r) (p := p)
  rw [← hxr] at hb1 hrr1
  rw [← hqr] at hrr1
  have hMr := rdiv_spec xr p (by rw [hxr]; exact hD.rb hr (Nat.le_refl _)) hRBp hpne (by rw [hxr, hp]; exact hD.rbq hr hr (Nat.le_refl _) heN hne) I
  rw [← hqr] at hMr
  repeat' first
    | ((with_reducible refine Nx.is_wp ?_); first | refine Nx.p_stopr 8 rfl ?_ | refine Nx.wo ?_ | refine Nx.p_drawF (id := 5) rfl [0, 1, 2, 3, 4, 5, 6, 7, 8, 9, 10, 11, 12, 13, 14, 15, 16] [15] [17] _ rfl rfl (by kernel_rfl) (by kernel_rfl) rfl PanicOk.auto (Ent.refl _) ?_ | refine Nx.p_drawF (id := 7) rfl [0, 1, 2, 3, 4, 5, 6, 7, 8, 9, 10] [9] [11] _ rfl rfl (by kernel_rfl) (by kernel_rfl) rfl PanicOk.auto (Ent.refl _) ?_ | refine Nx.p_drawF (id := 17) rfl [0, 1, 2, 3, 4, 5, 6, 7, 8, 9, 10, 11, 12, 13, 14, 15, 16, 17, 18, 19, 20, 21, 22, 23, 24, 25] [23, 24] [26] _ rfl rfl (by kernel_rfl) (by kernel_rfl) rfl PanicOk.auto (Ent.refl _) ?_ | refine Nx.p_drawF (id := 19) rfl [0, 1, 2, 3, 4, 5, 6, 7, 8, 9, 10, 11, 12, 13, 14, 15, 16] [14, 15] [17] _ rfl rfl (by kernel_rfl) (by kernel_rfl) rfl PanicOk.auto (Ent.refl _) ?_ | refine Nx.zp (fun hc => ?_) (fun hc => ?_))
    | (refine Nx.zo ?_; first | refine Nx.opr rfl rfl ?_ | refine Nx.callv rfl rfl rfl (by kernel_rfl) rfl hMr ?_ | refine Nx.indexAddr_nat (A := Ax) (i := r) (sz := 2) rfl rfl rfl rfl rfl hr hAx ?_ | refine Nx.store_right (ra := ⟨ta, Ax, cx⟩) 3 rfl rfl rfl rfl hr ?_ | refine Nx.so ?_ | refine Nx.sb (fun bx => ?_) | refine Nx.sa (fun A2 c2 => ?_))
    | refine Nx.za ?_ | refine Nx.zr (fun hc => ?_) (fun hc => ?_)
    | ((with_reducible refine Nx.is_mix ?_); first | refine Nx.m_quiet rfl rfl rfl rfl rfl (by first | exact QRun.opr rfl | exact QRun.idx (A := Ax) (i := r) (sz := 2) rfl rfl rfl rfl hr hAx | exact QRun.loads rfl rfl rfl (hb1 _ _ 3 rfl) rfl | exact QRun.loads rfl rfl rfl (Rds.cut 0 2 rfl rfl) rfl) ?_ | refine Nx.m_quiet_do rfl rfl rfl rfl rfl rfl rfl (by first | exact QRun.opr rfl | exact QRun.idx (A := Ax) (i := r) (sz := 2) rfl rfl rfl rfl hr hAx | exact QRun.loads rfl rfl rfl (hb1 _ _ 3 rfl) rfl | exact QRun.loads rfl rfl rfl (Rds.cut 0 2 rfl rfl) rfl) ?_ | refine Nx.m ?_ | refine Nx.zm ?_ | refine Nx.zt (fun hc => ?_) (fun hc => ?_))
    | refine Nx.zx ?_ | fail
  refine Nx.unstop ?_
  refine Nx.ent (R' := [rrowsR q ta (T2 s.T q.N r e 0 0), rightR q ⟨ta, Ax, cx⟩ (T2 s.T q.N r e 0 0), Blk b3 87 (rtC q ⟨ta, Ax, cx⟩), basisR q ta s.B, F]) (by rw [← T2_zero, ← hp, ← hrr1]; (exact Ent.auto)) ?_
  clear hpe hRBp hMr hrr1 hb1
  repeat' first
    | ((with_reducible refine Nx.is_wp ?_); first | refine Nx.wo ?_ | refine Nx.zp (fun hc => ?_) (fun hc => ?_))
    | (refine Nx.zo ?_; first | refine Nx.opr rfl rfl ?_ | refine Nx.so ?_ | refine Nx.sb (fun bx => ?_) | refine Nx.sa (fun A2 c2 => ?_))
    | refine Nx.za ?_ | refine Nx.zr (fun hc => ?_) (fun hc => ?_)
    | refine Nx.zq ?_ | refine Nx.zu (fun hc => ?_) (fun hc => ?_)
    | refine Nx.zx ?_ | fail
  refine Nx.p_loop (σ := Nat) (fun i => [(1, .int .i64 (r : Int)), (2, .int .i64 (e : Int)), (3, .pointer (some ⟨b3, 0, none⟩)), (59, .int .i64 (q.m : Int)), (60, .int .i64 (i : Int))])
    (fun i => [rrowsR q ta (T2 s.T q.N r e i 0), rightR q ⟨ta, Ax, cx⟩ (T2 s.T q.N r e i 0), Blk b3 87 (rtC q ⟨ta, Ax, cx⟩), basisR q ta s.B, F]) (fun i => i ≤ q.m) (fun i => q.m - i) 0 rfl (Nat.zero_le _) ⟨rfl, rfl, rfl, rfl, rfl, trivial⟩ (by (exact Ent.auto)) ?_
  intro i hi
  have hi : i ≤ q.m := hi
  by_cases him : i < q.m
  case neg =>
    obtain rfl : i = q.m := by omega
    rw [r2_fin, r2_fin_right]
    have hbs : (basL q s.B).set r (e : Int) = basL q (Bl.piv s r e).B := basL_set
    repeat' first
      | ((with_reducible refine Nx.is_wp ?_); first | refine Nx.wo ?_ | refine Nx.zp (fun hc => ?_) (fun hc => ?_))
      | (refine Nx.zo ?_; first | refine Nx.opr rfl rfl ?_ | refine Nx.indexAddr_nat (A := ta.Ab) (i := r) (sz := 1) rfl rfl rfl rfl rfl hr hAb ?_ | refine Nx.store_ints 3 (A := ta.Ab) (i := r) (l := basL q s.B) (z := (e : Int)) rfl rfl rfl rfl hr ?_ | refine Nx.so ?_ | refine Nx.sb (fun bx => ?_) | refine Nx.sa (fun A2 c2 => ?_))
      | refine Nx.za ?_ | refine Nx.zr (fun hc => ?_) (fun hc => ?_)
      | refine Nx.zq ?_ | refine Nx.zu (fun hc => ?_) (fun hc => ?_)
      | refine Nx.zx ?_ | fail
    refine Nx.end_fn rfl [_, _, _] rfl ?_
    rw [hbs]
    unfold basisR
    (exact Ent.auto)
  have roi := fun (W : World) (Q : List Res) => ror W Q i him
  have hri := hra i him
  obtain ⟨z, hz⟩ : ∃ z, z = T2 s.T q.N r e i 0 i e := ⟨_, rfl⟩
  have hze : ∀ (W : World) (R : List Res) (j : Nat), nthL R j = some (rrowsR q ta (T2 s.T q.N r e i 0)) → Rds W I R ((ad (ta.ra i).1).add (e * 2)) (ratC z) := fun W R j hj => by
    have := rnum_rds (W := W) (I := I) j hj him heN
    rwa [← hz] at this
  by_cases hir : i = r
  · subst hir
    have hsk := T2_skip s.T (N := q.N) (r := i) (e := e) (i := i) (.inl rfl)
    repeat' first
      | ((with_reducible refine Nx.is_wp ?_); first | refine Nx.wo ?_ | refine Nx.zp (fun hc => ?_) (fun hc => ?_))
      | (refine Nx.zo ?_; first | refine Nx.opr rfl rfl ?_ | refine Nx.indexAddr_nat (A := ta.Ar) (i := i) (sz := 1) rfl rfl rfl rfl rfl him hAr ?_ | refine Nx.load rfl rfl rfl (roi _ _) ?_ | refine Nx.indexAddr_nat (A := (ta.ra i).1) (i := e) (sz := 2) rfl rfl rfl rfl rfl heN hri ?_ | refine Nx.loads rfl rfl rfl rfl (hze _ _ 0 rfl) rfl ?_ | refine Nx.so ?_ | refine Nx.sb (fun bx => ?_) | refine Nx.sa (fun A2 c2 => ?_))
      | refine Nx.za ?_ | refine Nx.zr (fun hc => ?_) (fun hc => ?_)
      | refine Nx.zq ?_ | refine Nx.zu (fun hc => ?_) (fun hc => ?_)
      | refine Nx.zx ?_ | fail
    exact Nx.again (i + 1) him (by omega) ⟨rfl, rfl, rfl, rfl, rfl, trivial⟩ (by rw [← hsk]; (exact Ent.auto))
  have hzi : z = s.T i e := by rw [hz]; unfold T2; rw [if_neg hir, if_neg (by omega)]
  by_cases hz0 : z = 0
  · have hsk := T2_skip s.T (N := q.N) (r := r) (e := e) (i := i) (.inr (by rw [← hzi]; exact hz0))
    have hn0 : z.num = 0 := by rw [hz0]; rfl
    repeat' first
      | ((with_reducible refine Nx.is_wp ?_); first | refine Nx.wo ?_ | refine Nx.zp (fun hc => ?_) (fun hc => ?_))
      | (refine Nx.zo ?_; first | refine Nx.opr rfl rfl ?_ | refine Nx.indexAddr_nat (A := ta.Ar) (i := i) (sz := 1) rfl rfl rfl rfl rfl him hAr ?_ | refine Nx.load rfl rfl rfl (roi _ _) ?_ | refine Nx.indexAddr_nat (A := (ta.ra i).1) (i := e) (sz := 2) rfl rfl rfl rfl rfl heN hri ?_ | refine Nx.loads rfl rfl rfl rfl (hze _ _ 0 rfl) rfl ?_ | refine Nx.so ?_ | refine Nx.sb (fun bx => ?_) | refine Nx.sa (fun A2 c2 => ?_))
      | refine Nx.za ?_ | refine Nx.zr (fun hc => ?_) (fun hc => ?_)
      | refine Nx.zq ?_ | refine Nx.zu (fun hc => ?_) (fun hc => ?_)
      | refine Nx.zx ?_ | fail
    exact Nx.again (i + 1) him (by omega) ⟨rfl, rfl, rfl, rfl, rfl, trivial⟩ (by rw [← hsk]; (exact Ent.auto))
  have hn0 : z.num ≠ 0 := rat_ne hz0
  have hRBz : RB z := by rw [hzi]; exact hD.rb him (by omega)
  have hI64 : I64 (-z.num) := (rat_i64 (RB_neg hRBz)).1
  repeat' first
    | ((with_reducible refine Nx.is_wp ?_); first | refine Nx.wo ?_ | refine Nx.zp (fun hc => ?_) (fun hc => ?_))
    | (refine Nx.zo ?_; first | refine Nx.opr rfl rfl ?_ | refine Nx.indexAddr_nat (A := ta.Ar) (i := i) (sz := 1) rfl rfl rfl rfl rfl him hAr ?_ | refine Nx.load rfl rfl rfl (roi _ _) ?_ | refine Nx.indexAddr_nat (A := (ta.ra i).1) (i := e) (sz := 2) rfl rfl rfl rfl rfl heN hri ?_ | refine Nx.loads rfl rfl rfl rfl (hze _ _ 0 rfl) rfl ?_ | refine Nx.neg rfl hI64 rfl ?_ | refine Nx.so ?_ | refine Nx.sb (fun bx => ?_) | refine Nx.sa (fun A2 c2 => ?_))
    | refine Nx.za ?_ | refine Nx.zr (fun hc => ?_) (fun hc => ?_)
    | refine Nx.zq ?_ | refine Nx.zu (fun hc => ?_) (fun hc => ?_)
    | refine Nx.zx ?_ | fail
  revert bx; intro b9
  obtain ⟨nz, hnz⟩ : ∃ nz, nz = -z := ⟨_, rfl⟩
  refine Nx.p_loop (σ := Nat) (fun k => [(1, .int .i64 (r : Int)), (2, .int .i64 (e : Int)), (3, .pointer (some ⟨b3, 0, none⟩)), (8, .int .i64 (i : Int)), (9, .pointer (some ⟨b9, 0, none⟩)), (59, .int .i64 (q.m : Int)), (60, .int .i64 (i : Int)), (88, .int .i64 (q.N : Int)), (89, .int .i64 (k : Int))])
    (fun k => [Blk b9 24 (ratC nz), rrowsR q ta (T2 s.T q.N r e i k), Blk b3 87 (rtC q ⟨ta, Ax, cx⟩), rightR q ⟨ta, Ax, cx⟩ (T2 s.T q.N r e i 0), basisR q ta s.B, F]) (fun k => k ≤ q.N) (fun k => q.N - k) 0 rfl (Nat.zero_le _) ⟨rfl, rfl, rfl, rfl, rfl, rfl, rfl, rfl, rfl, trivial⟩ (by rw [hnz, ← neg_num]; (exact Ent.auto)) ?_
  intro k hk
  have hk : k ≤ q.N := hk
  have hRnz : RB nz := by rw [hnz]; exact RB_neg hRBz
  obtain ⟨qk, hqk⟩ : ∃ qk, qk = s.T r k / s.T r e := ⟨_, rfl⟩
  obtain ⟨xk, hxk⟩ : ∃ xk, xk = s.T i k := ⟨_, rfl⟩
  obtain ⟨pr, hpr⟩ : ∃ pr, pr = nz * qk := ⟨_, rfl⟩
  obtain ⟨nk, hnk⟩ : ∃ nk, nk = xk + pr := ⟨_, rfl⟩
  have hnk2 : nk = s.T i k - s.T i e * (s.T r k / s.T r e) := by rw [hnk, hpr, hnz, hxk, hqk, hzi, Rat.neg_mul, ← Rat.sub_eq_add_neg]
  have hRq : RB qk := by rw [hqk]; exact hD.rbq hr hr hk heN hne
  have hRp : RB pr := by rw [hpr, hnz, Rat.neg_mul, hzi, hqk]; exact RB_neg (hD.rbt him hr hk heN hne)
  have hRn : RB nk := by
    have : nk = (Bl.piv s r e).T i k := by rw [Bl.piv_T, if_neg hir, hnk2]
    rw [this]; exact hD'.rb him hk
  have hM1 := rmul_spec nz qk hRnz hRq (by rw [← hpr]; exact hRp) I
  rw [← hpr] at hM1
  have hM2 := radd_spec xk pr (by rw [hxk]; exact hD.rb him hk) hRp (by rw [← hnk]; exact hRn) I
  rw [← hnk] at hM2
  by_cases hkN : k < q.N
  case neg =>
    obtain rfl : k = q.N := by omega
    rw [r2_end]
    have hb1 : ∀ (W : World) (R : List Res) (j : Nat), nthL R j = some (rightR q ⟨ta, Ax, cx⟩ (T2 s.T q.N r e i 0)) → Rds W I R ((ad Ax).add (r * 2)) (ratC qk) := fun W R j hj => by
      have := right_rds (W := W) (I := I) (ra := ⟨ta, Ax, cx⟩) j hj hr
      rwa [show T2 s.T q.N r e i 0 r q.N = qk by rw [hqk]; unfold T2; rw [if_pos rfl, if_pos (by omega)]] at this
    have hb2 : ∀ (W : World) (R : List Res) (j : Nat), nthL R j = some (rightR q ⟨ta, Ax, cx⟩ (T2 s.T q.N r e i 0)) → Rds W I R ((ad Ax).add (i * 2)) (ratC xk) := fun W R j hj => by
      have := right_rds (W := W) (I := I) (ra := ⟨ta, Ax, cx⟩) j hj him
      rwa [show T2 s.T q.N r e i 0 i q.N = xk by rw [hxk]; unfold T2; rw [if_neg hir, if_neg (by omega)]] at this
    have hup := r2_right (q := q) (ra := ⟨ta, Ax, cx⟩) (T := s.T) (e := e) hir
    rw [← hnk2] at hup
    clear hqk hxk hpr hnk hRq hRp hRn hze hz hnk2
    repeat' first
      | ((with_reducible refine Nx.is_wp ?_); first | refine Nx.wo ?_ | refine Nx.p_drawF (id := 5) rfl [0, 1, 2, 3, 4, 5, 6, 7, 8, 9, 10, 11, 12, 13, 14, 15, 16] [15] [17] _ rfl rfl (by kernel_rfl) (by kernel_rfl) rfl PanicOk.auto (Ent.refl _) ?_ | refine Nx.p_drawF (id := 7) rfl [0, 1, 2, 3, 4, 5, 6, 7, 8, 9, 10] [9] [11] _ rfl rfl (by kernel_rfl) (by kernel_rfl) rfl PanicOk.auto (Ent.refl _) ?_ | refine Nx.p_drawF (id := 17) rfl [0, 1, 2, 3, 4, 5, 6, 7, 8, 9, 10, 11, 12, 13, 14, 15, 16, 17, 18, 19, 20, 21, 22, 23, 24, 25] [23, 24] [26] _ rfl rfl (by kernel_rfl) (by kernel_rfl) rfl PanicOk.auto (Ent.refl _) ?_ | refine Nx.p_drawF (id := 19) rfl [0, 1, 2, 3, 4, 5, 6, 7, 8, 9, 10, 11, 12, 13, 14, 15, 16] [14, 15] [17] _ rfl rfl (by kernel_rfl) (by kernel_rfl) rfl PanicOk.auto (Ent.refl _) ?_ | refine Nx.zp (fun hc => ?_) (fun hc => ?_))
      | (refine Nx.zo ?_; first | refine Nx.opr rfl rfl ?_ | refine Nx.callv rfl rfl rfl (by kernel_rfl) rfl hM1 ?_ | refine Nx.callv rfl rfl rfl (by kernel_rfl) rfl hM2 ?_ | refine Nx.indexAddr_nat (A := Ax) (i := i) (sz := 2) rfl rfl rfl rfl rfl him hAx ?_ | refine Nx.store_right (ra := ⟨ta, Ax, cx⟩) 3 rfl rfl rfl rfl him ?_ | refine Nx.so ?_ | refine Nx.sb (fun bx => ?_) | refine Nx.sa (fun A2 c2 => ?_))
      | refine Nx.za ?_ | refine Nx.zr (fun hc => ?_) (fun hc => ?_)
      | ((with_reducible refine Nx.is_mix ?_); first | refine Nx.m_quiet rfl rfl rfl rfl rfl (by first | exact QRun.opr rfl | exact QRun.idx (A := Ax) (i := r) (sz := 2) rfl rfl rfl rfl hr hAx | exact QRun.idx (A := Ax) (i := i) (sz := 2) rfl rfl rfl rfl him hAx | exact QRun.loads rfl rfl rfl (hb1 _ _ 3 rfl) rfl | exact QRun.loads rfl rfl rfl (hb2 _ _ 3 rfl) rfl | exact QRun.loads rfl rfl rfl (Rds.cut 0 2 rfl rfl) rfl) ?_ | refine Nx.m_quiet_do rfl rfl rfl rfl rfl rfl rfl (by first | exact QRun.opr rfl | exact QRun.idx (A := Ax) (i := r) (sz := 2) rfl rfl rfl rfl hr hAx | exact QRun.idx (A := Ax) (i := i) (sz := 2) rfl rfl rfl rfl him hAx | exact QRun.loads rfl rfl rfl (hb1 _ _ 3 rfl) rfl | exact QRun.loads rfl rfl rfl (hb2 _ _ 3 rfl) rfl | exact QRun.loads rfl rfl rfl (Rds.cut 0 2 rfl rfl) rfl) ?_ | refine Nx.m ?_ | refine Nx.zm ?_ | refine Nx.zt (fun hc => ?_) (fun hc => ?_))
      | refine Nx.zx ?_ | fail
    exact Nx.again (i + 1) him (by omega) ⟨rfl, rfl, rfl, rfl, rfl, trivial⟩ (by rw [← hup]; (exact Ent.auto))
  have hqe : ∀ (W : World) (R : List Res) (j : Nat), nthL R j = some (rrowsR q ta (T2 s.T q.N r e i k)) → Rds W I R ((ad (ta.ra r).1).add (k * 2)) (ratC qk) := fun W R j hj => by
    have := rnum_rds (W := W) (I := I) j hj hr hkN
    rwa [show T2 s.T q.N r e i k r k = qk by rw [hqk]; unfold T2; rw [if_pos rfl, if_pos (by omega)]] at this
  have hxe : ∀ (W : World) (R : List Res) (j : Nat), nthL R j = some (rrowsR q ta (T2 s.T q.N r e i k)) → Rds W I R ((ad (ta.ra i).1).add (k * 2)) (ratC xk) := fun W R j hj => by
    have := rnum_rds (W := W) (I := I) j hj him hkN
    rwa [show T2 s.T q.N r e i k i k = xk by rw [hxk]; unfold T2; rw [if_neg hir, if_neg (by omega)]] at this
  have hup := T2_succ s.T (N := q.N) (r := r) (e := e) (i := i) (k := k) hir (by omega)
  rw [← hnk2] at hup
  clear hqk hxk hpr hnk hRq hRp hRn hze hz hnk2
  repeat' first
    | ((with_reducible refine Nx.is_wp ?_); first | refine Nx.wo ?_ | refine Nx.p_drawF (id := 5) rfl [0, 1, 2, 3, 4, 5, 6, 7, 8, 9, 10, 11, 12, 13, 14, 15, 16] [15] [17] _ rfl rfl (by kernel_rfl) (by kernel_rfl) rfl PanicOk.auto (Ent.refl _) ?_ | refine Nx.p_drawF (id := 7) rfl [0, 1, 2, 3, 4, 5, 6, 7, 8, 9, 10] [9] [11] _ rfl rfl (by kernel_rfl) (by kernel_rfl) rfl PanicOk.auto (Ent.refl _) ?_ | refine Nx.p_drawF (id := 17) rfl [0, 1, 2, 3, 4, 5, 6, 7, 8, 9, 10, 11, 12, 13, 14, 15, 16, 17, 18, 19, 20, 21, 22, 23, 24, 25] [23, 24] [26] _ rfl rfl (by kernel_rfl) (by kernel_rfl) rfl PanicOk.auto (Ent.refl _) ?_ | refine Nx.p_drawF (id := 19) rfl [0, 1, 2, 3, 4, 5, 6, 7, 8, 9, 10, 11, 12, 13, 14, 15, 16] [14, 15] [17] _ rfl rfl (by kernel_rfl) (by kernel_rfl) rfl PanicOk.auto (Ent.refl _) ?_ | refine Nx.zp (fun hc => ?_) (fun hc => ?_))
    | (refine Nx.zo ?_; first | refine Nx.opr rfl rfl ?_ | refine Nx.callv rfl rfl rfl (by kernel_rfl) rfl hM1 ?_ | refine Nx.callv rfl rfl rfl (by kernel_rfl) rfl hM2 ?_ | refine Nx.indexAddr_nat (A := (ta.ra i).1) (i := k) (sz := 2) rfl rfl rfl rfl rfl hkN hri ?_ | refine Nx.rstore_num 1 rfl rfl rfl rfl him hkN ?_ | refine Nx.so ?_ | refine Nx.sb (fun bx => ?_) | refine Nx.sa (fun A2 c2 => ?_))
    | refine Nx.za ?_ | refine Nx.zr (fun hc => ?_) (fun hc => ?_)
    | ((with_reducible refine Nx.is_mix ?_); first | refine Nx.m_quiet rfl rfl rfl rfl rfl (by first | exact QRun.opr rfl | exact QRun.idx (A := ta.Ar) (i := r) (sz := 1) rfl rfl rfl rfl hr hAr | exact QRun.load rfl rfl (ro1 _ _) | exact QRun.idx (A := ta.Ar) (i := i) (sz := 1) rfl rfl rfl rfl him hAr | exact QRun.load rfl rfl (roi _ _) | exact QRun.idx (A := (ta.ra i).1) (i := k) (sz := 2) rfl rfl rfl rfl hkN hri | exact QRun.idx (A := (ta.ra r).1) (i := k) (sz := 2) rfl rfl rfl rfl hkN hrr | exact QRun.loads rfl rfl rfl (hqe _ _ 1 rfl) rfl | exact QRun.loads rfl rfl rfl (hxe _ _ 1 rfl) rfl | exact QRun.loads rfl rfl rfl (Rds.cut 0 2 rfl rfl) rfl) ?_ | refine Nx.m_quiet_do rfl rfl rfl rfl rfl rfl rfl (by first | exact QRun.opr rfl | exact QRun.idx (A := ta.Ar) (i := r) (sz := 1) rfl rfl rfl rfl hr hAr | exact QRun.load rfl rfl (ro1 _ _) | exact QRun.idx (A := ta.Ar) (i := i) (sz := 1) rfl rfl rfl rfl him hAr | exact QRun.load rfl rfl (roi _ _) | exact QRun.idx (A := (ta.ra i).1) (i := k) (sz := 2) rfl rfl rfl rfl hkN hri | exact QRun.idx (A := (ta.ra r).1) (i := k) (sz := 2) rfl rfl rfl rfl hkN hrr | exact QRun.loads rfl rfl rfl (hqe _ _ 1 rfl) rfl | exact QRun.loads rfl rfl rfl (hxe _ _ 1 rfl) rfl | exact QRun.loads rfl rfl rfl (Rds.cut 0 2 rfl rfl) rfl) ?_ | refine Nx.m ?_ | refine Nx.zm ?_ | refine Nx.zt (fun hc => ?_) (fun hc => ?_))
    | refine Nx.zx ?_ | fail
  exact Nx.again (k + 1) hkN (by omega) ⟨rfl, rfl, rfl, rfl, rfl, rfl, rfl, rfl, rfl, trivial⟩ (by rw [← hup]; (exact Ent.auto))
end Go.Proofs.YtpcnapidlhpbkaaGreatDoor
namespace Go.Proofs.YtpcnapidlhpbkaaGreatDoor
open Go.Eng
attribute [local irreducible] opK wpList Code.wp Exit.then Exit.inBlock fnPost bodyPost Nx Calls Oper.wp Rd Rds Wr Ent Stars Blk Again Vec FnSpec wpMix QRun Stop Upto wpAt
theorem num_ps {z : Rat} : 0 < z.num ↔ 0 < z := by
  rw [Rat.lt_iff]
  show 0 < z.num ↔ 0 * (z.den : Int) < z.num * ((1 : Nat) : Int)
  omega
theorem num_np {z : Rat} : z.num ≤ 0 ↔ z ≤ 0 := by
  rw [← Rat.not_lt, ← num_ps]
  omega
theorem gn_succ' (c : Nat → Int) (s : Bl.Tab) (col j : Nat) : gn c s col (j + 1) = gn c s col j + -(Bl.cst c (s.B j) * s.T j col) := by rw [gn_succ, Rat.sub_eq_add_neg]
set_option maxRecDepth 10000 in
theorem greatest15 (w : World) (Q : Exit → Act → World → Prop) (hQ : PanicOk Q) (F : Res) (q : Bl.Eqs) (hq : q.Small) (ta : TA) (Ax : Option Addr) (cx : Nat) (s : Bl.Tab) (hs : Bl.Inv q s) (e : Nat) (he : e < q.cnt) (v1 v2 : Value) (b3 : Nat) (I : PH)
    (ho : SliceOf (fun i : Nat => Value.slice (ta.ra i).1 q.N (ta.ra i).2) I ta.Ar ta.cr (List.range q.m)) (hra : ∀ i, i < q.m → (ta.ra i).1.isSome = true) (hAx : 0 < q.m → Ax.isSome = true) (hAb : 0 < q.m → ta.Ab.isSome = true)
    (hst : ∀ r, Bl.Lea q.m q.N s e r → Bl.Inv q (Bl.piv s r e))
    (h1 : (∀ i, i < q.m → s.T i e ≤ 0) → Nx ⟨Tryz.prog, 141, w⟩ [] I [Blk b3 87 (rtC q ⟨ta, Ax, cx⟩), rrowsR q ta s.T, rightR q ⟨ta, Ax, cx⟩ s.T, basisR q ta s.B, F] (Q .ret))
    (h2 : ∀ r, Bl.Lea q.m q.N s e r → Nx ⟨Tryz.prog, 141, w⟩ [(1, v1), (2, v2), (3, .pointer (some ⟨b3, 0, none⟩))] I [Blk b3 87 (rtC q ⟨ta, Ax, cx⟩), rrowsR q ta (Bl.piv s r e).T, rightR q ⟨ta, Ax, cx⟩ (Bl.piv s r e).T, basisR q ta (Bl.piv s r e).B, F] (Q .normal)) :
    Nx ⟨Tryz.prog, 141, w⟩ [(1, v1), (2, v2), (3, .pointer (some ⟨b3, 0, none⟩)), (6, .int .i64 (e : Int))] I [Blk b3 87 (rtC q ⟨ta, Ax, cx⟩), rrowsR q ta s.T, rightR q ⟨ta, Ax, cx⟩ s.T, basisR q ta s.B, F]
      (Code.wp Tryz.prog (cr (cr (cl (cl (cl (cr (bodyOf Tryz.f93))))))) Q) := by
  have hc1 := hq.cnt
  have hm10 := hq.m
  have hNb : q.N ≤ 20 := by show q.cnt + q.m ≤ 20; omega
  have heN : e < q.N := by show e < q.cnt + q.m; omega
  obtain ⟨D, hD⟩ := hs.num hq
  have ror := fun (W : World) (Q : List Res) (i : Nat) (hi : i < q.m) => (by
    have := ho.rd (W := W) (R := Q) (k := i) (by rw [List.length_range]; exact hi)
    rwa [range_getD hi] at this : Rd W I Q ((ad ta.Ar).add (i * 1)) (.slice (ta.ra i).1 q.N (ta.ra i).2))
  have hAr : 0 < q.m → ta.Ar.isSome = true := fun h => ho.isSome (by rw [List.length_range]; omega)
  repeat' first
    | ((with_reducible refine Nx.is_wp ?_); first | refine Nx.wo ?_ | refine Nx.zp (fun hc => ?_) (fun hc => ?_))
    | (refine Nx.zo ?_; first | refine Nx.opr rfl rfl ?_ | refine Nx.so ?_ | refine Nx.sb (fun bx => ?_) | refine Nx.sa (fun A2 c2 => ?_))
    | refine Nx.za ?_ | refine Nx.zr (fun hc => ?_) (fun hc => ?_)
    | refine Nx.zq ?_ | refine Nx.zu (fun hc => ?_) (fun hc => ?_)
    | refine Nx.zx ?_ | fail
  refine Nx.p_loop (σ := Nat × Option Nat) (fun z => [(1, v1), (2, v2), (3, .pointer (some ⟨b3, 0, none⟩)), (6, .int .i64 (e : Int)), (11, .int .i64 (bestV z.2)), (67, .int .i64 (q.m : Int)), (68, .int .i64 (z.1 : Int))])
    (fun _ => [Blk b3 87 (rtC q ⟨ta, Ax, cx⟩), rrowsR q ta s.T, rightR q ⟨ta, Ax, cx⟩ s.T, basisR q ta s.B, F]) (fun z => z.1 ≤ q.m ∧ Best q s e z.1 z.2) (fun z => q.m - z.1) (0, none) rfl ⟨Nat.zero_le _, fun i hi => absurd hi (Nat.not_lt_zero _)⟩ ⟨rfl, rfl, rfl, rfl, rfl, rfl, rfl, trivial⟩ (by (exact Ent.auto)) ?_
  rintro ⟨i, o⟩ ⟨hi, hob⟩
  dsimp only at hi hob ⊢
  by_cases him : i < q.m
  case neg =>
    obtain rfl : i = q.m := by omega
    cases o with
    | none =>
      have hbv : bestV none = -1 := rfl
      rw [hbv]
      repeat' first
        | ((with_reducible refine Nx.is_wp ?_); first | refine Nx.wo ?_ | refine Nx.zp (fun hc => ?_) (fun hc => ?_))
        | (refine Nx.zo ?_; first | refine Nx.opr rfl rfl ?_ | refine Nx.so ?_ | refine Nx.sb (fun bx => ?_) | refine Nx.sa (fun A2 c2 => ?_))
        | refine Nx.za ?_ | refine Nx.zr (fun hc => ?_) (fun hc => ?_)
        | refine Nx.zq ?_ | refine Nx.zu (fun hc => ?_) (fun hc => ?_)
        | refine Nx.zx ?_ | fail
      exact Nx.weak (by exact trivial) (by (exact Ent.auto)) (h1 hob)
    | some r =>
      have hbv : bestV (some r) = (r : Int) := rfl
      rw [hbv]
      have hl : Bl.Lea q.m q.N s e r := ⟨hob.1, hob.2.1, hob.2.2⟩
      have hP := rpivot_spec q hq ⟨ta, Ax, cx⟩ s hs r e hl.lt he (by have := hl.pos; grind) (hst r hl) I ho hra (hAx (by have := hl.lt; omega)) (hAb (by have := hl.lt; omega))
      repeat' first
        | ((with_reducible refine Nx.is_wp ?_); first | refine Nx.wo ?_ | refine Nx.zp (fun hc => ?_) (fun hc => ?_))
        | (refine Nx.zo ?_; first | refine Nx.opr rfl rfl ?_ | (refine Nx.call rfl rfl rfl (by kernel_rfl) rfl hP (by (exact Ent.auto)) ?_; rintro _ _ rfl) | refine Nx.so ?_ | refine Nx.sb (fun bx => ?_) | refine Nx.sa (fun A2 c2 => ?_))
        | refine Nx.za ?_ | refine Nx.zr (fun hc => ?_) (fun hc => ?_)
        | refine Nx.zq ?_ | refine Nx.zu (fun hc => ?_) (fun hc => ?_)
        | refine Nx.zx ?_ | fail
      exact Nx.weak (by exact ⟨rfl, rfl, rfl, trivial⟩) (by (exact Ent.auto)) (h2 r hl)
  have hAr' := hAr (by omega)
  have hAb' := hAb (by omega)
  have hAx' := hAx (by omega)
  have hri := hra i him
  have roi := fun (W : World) (Q : List Res) => ror W Q i him
  have hnr := fun (W : World) (R : List Res) (j : Nat) (hj : nthL R j = some (rrowsR q ta s.T)) => Rds.get (rnum_rds (W := W) (I := I) j hj him heN) 0 (u := .int .i64 (s.T i e).num) rfl
  by_cases hp : 0 < s.T i e
  case neg =>
    have hn0 : (s.T i e).num ≤ 0 := num_np.2 (Rat.not_lt.1 hp)
    have hbn := hob.skip (Rat.not_lt.1 hp)
    generalize s.T i e = tie at hnr hn0
    repeat' first
      | ((with_reducible refine Nx.is_wp ?_); first | refine Nx.wo ?_ | refine Nx.zp (fun hc => ?_) (fun hc => ?_))
      | (refine Nx.zo ?_; first | refine Nx.fieldAddr (A := (ad (ta.ra i).1).add (e * 2)) rfl rfl rfl ?_ | refine Nx.opr rfl rfl ?_ | refine Nx.indexAddr_nat (A := ta.Ar) (i := i) (sz := 1) rfl rfl rfl rfl rfl him hAr' ?_ | refine Nx.load rfl rfl rfl (roi _ _) ?_ | refine Nx.indexAddr_nat (A := (ta.ra i).1) (i := e) (sz := 2) rfl rfl rfl rfl rfl heN hri ?_ | refine Nx.load rfl rfl rfl (hnr _ _ 1 rfl) ?_ | refine Nx.so ?_ | refine Nx.sb (fun bx => ?_) | refine Nx.sa (fun A2 c2 => ?_))
      | refine Nx.za ?_ | refine Nx.zr (fun hc => ?_) (fun hc => ?_)
      | refine Nx.zq ?_ | refine Nx.zu (fun hc => ?_) (fun hc => ?_)
      | refine Nx.zx ?_ | fail
    exact Nx.again (i + 1, o) ⟨him, hbn⟩ (by dsimp only; omega) ⟨rfl, rfl, rfl, rfl, rfl, rfl, rfl, trivial⟩ (by (exact Ent.auto))
  have hn0 : ¬ (s.T i e).num ≤ 0 := fun h => absurd (num_ps.2 hp) (by omega)
  cases o with
  | none =>
    have hbv : bestV none = -1 := rfl
    rw [hbv]
    have hbn := hob.first hp
    generalize s.T i e = tie at hnr hn0
    repeat' first
      | ((with_reducible refine Nx.is_wp ?_); first | refine Nx.wo ?_ | refine Nx.zp (fun hc => ?_) (fun hc => ?_))
      | (refine Nx.zo ?_; first | refine Nx.fieldAddr (A := (ad (ta.ra i).1).add (e * 2)) rfl rfl rfl ?_ | refine Nx.opr rfl rfl ?_ | refine Nx.indexAddr_nat (A := ta.Ar) (i := i) (sz := 1) rfl rfl rfl rfl rfl him hAr' ?_ | refine Nx.load rfl rfl rfl (roi _ _) ?_ | refine Nx.indexAddr_nat (A := (ta.ra i).1) (i := e) (sz := 2) rfl rfl rfl rfl rfl heN hri ?_ | refine Nx.load rfl rfl rfl (hnr _ _ 1 rfl) ?_ | refine Nx.so ?_ | refine Nx.sb (fun bx => ?_) | refine Nx.sa (fun A2 c2 => ?_))
      | refine Nx.za ?_ | refine Nx.zr (fun hc => ?_) (fun hc => ?_)
      | refine Nx.zq ?_ | refine Nx.zu (fun hc => ?_) (fun hc => ?_)
      | refine Nx.zx ?_ | fail
    exact Nx.again (i + 1, some i) ⟨him, hbn⟩ (by dsimp only; omega) ⟨rfl, rfl, rfl, rfl, rfl, rfl, rfl, trivial⟩ (by (exact Ent.auto))
  | some r =>
    have hbv : bestV (some r) = (r : Int) := rfl
    rw [hbv]
    have hrm : r < q.m := by have := hob.1; omega
    have hrp := hob.2.1
    have hrr := hra r hrm
    have ror' := fun (W : World) (Q : List Res) => ror W Q r hrm
    have a1 := fun (W : World) (R : List Res) (j : Nat) (hj : nthL R j = some (rrowsR q ta s.T)) => rnum_rds (W := W) (I := I) j hj him heN
    have a2 := fun (W : World) (R : List Res) (j : Nat) (hj : nthL R j = some (rrowsR q ta s.T)) => rnum_rds (W := W) (I := I) j hj hrm heN
    have a3 := fun (W : World) (R : List Res) (j : Nat) (hj : nthL R j = some (rightR q ⟨ta, Ax, cx⟩ s.T)) => right_rds (W := W) (I := I) (ra := ⟨ta, Ax, cx⟩) j hj him
    have a4 := fun (W : World) (R : List Res) (j : Nat) (hj : nthL R j = some (rightR q ⟨ta, Ax, cx⟩ s.T)) => right_rds (W := W) (I := I) (ra := ⟨ta, Ax, cx⟩) j hj hrm
    have b1 := fun (W : World) (R : List Res) (j : Nat) (hj : nthL R j = some (basisR q ta s.B)) => bas_rd (W := W) (I := I) j hj him
    have b2 := fun (W : World) (R : List Res) (j : Nat) (hj : nthL R j = some (basisR q ta s.B)) => bas_rd (W := W) (I := I) j hj hrm
    have hq1 : RB (s.T i q.N / s.T i e) := hD.rbq him him (Nat.le_refl _) heN (by grind)
    have hq2 : RB (s.T r q.N / s.T r e) := hD.rbq hrm hrm (Nat.le_refl _) heN (by grind)
    have hM1 := rdiv_spec (s.T i q.N) (s.T i e) (hD.rb him (Nat.le_refl _)) (hD.rb him (Nat.le_of_lt heN)) (by grind) hq1 I
    have hM2 := rdiv_spec (s.T r q.N) (s.T r e) (hD.rb hrm (Nat.le_refl _)) (hD.rb hrm (Nat.le_of_lt heN)) (by grind) hq2 I
    obtain ⟨rq, hrq⟩ : ∃ rq, rq = s.T i q.N / s.T i e := ⟨_, rfl⟩
    obtain ⟨rr, hrr'⟩ : ∃ rr, rr = s.T r q.N / s.T r e := ⟨_, rfl⟩
    have htake : rq < rr ∨ (rq = rr ∧ s.B i < s.B r) → Best q s e (i + 1) (some i) := fun hh => hob.take hp (by rw [← hrq, ← hrr']; exact hh)
    have hstay : rr < rq ∨ (rr = rq ∧ s.B r ≤ s.B i) → Best q s e (i + 1) (some r) := fun hh => hob.keep (by rw [← hrq, ← hrr']; exact hh)
    rw [← hrq] at hM1 hq1
    rw [← hrr'] at hM2 hq2
    have hL2 := rLess_rat rq rr hq1 hq2 I
    clear hrq hrr' hob hbv
    generalize s.T i e = tie at hnr hn0 a1 hM1
    generalize s.T r e = tre at a2 hM2
    generalize s.T i q.N = tin at a3 hM1
    generalize s.T r q.N = trn at a4 hM2
    generalize s.B i = Bi at b1 htake hstay
    generalize s.B r = Br at b2 htake hstay
    repeat' first
      | ((with_reducible refine Nx.is_wp ?_); first | refine Nx.p_stopr 24 rfl ?_ | refine Nx.wo ?_ | refine Nx.p_poolF (id := 9) rfl [0, 1, 2, 3, 4, 5, 6, 7, 8, 9, 10, 11, 12, 13, 14, 15, 16] [16] [] [18] [18] [⟨17, 10, 24, _⟩] rfl rfl (by kernel_rfl) (by kernel_rfl) (by decide) (PoolFit.cons ⟨⟨_, _, _, rfl⟩, rfl, rfl⟩ PoolFit.nil) (by repeat first | exact PanicOk.fn | exact hQ | refine PanicOk.then_ ?_ | refine PanicOk.inB ?_) (Ent.refl _) ?_ | refine Nx.p_poolF (id := 23) rfl [0, 1, 2, 3, 4, 5, 6, 7, 8, 9, 10, 11, 12, 14, 15, 16, 17, 18, 19, 20, 21, 22, 23, 24, 25, 26, 13, 27] [13, 27] [] [30, 31] [30, 31] [⟨28, 13, 24, _⟩, ⟨29, 14, 24, _⟩] rfl rfl (by kernel_rfl) (by kernel_rfl) (by decide) (PoolFit.cons ⟨⟨_, _, _, rfl⟩, rfl, rfl⟩ (PoolFit.cons ⟨⟨_, _, _, rfl⟩, rfl, rfl⟩ PoolFit.nil)) (by repeat first | exact PanicOk.fn | exact hQ | refine PanicOk.then_ ?_ | refine PanicOk.inB ?_) (Ent.refl _) ?_ | refine Nx.p_drawF (id := 24) rfl [0, 1, 2, 3, 4, 5, 6, 7, 8, 9, 10, 11, 12, 13, 14, 15, 16, 17, 18, 19, 20] [2] [] _ rfl rfl (by kernel_rfl) (by kernel_rfl) rfl (by repeat first | exact PanicOk.fn | exact hQ | refine PanicOk.then_ ?_ | refine PanicOk.inB ?_) (Ent.refl _) ?_ | refine Nx.zp (fun hc => ?_) (fun hc => ?_))
      | ((first | refine Nx.at_op rfl rfl ?_ | refine Nx.m_loud rfl rfl rfl ?_ | refine Nx.at_do rfl rfl rfl rfl ?_ | refine Nx.m_loud_do rfl rfl rfl rfl rfl ?_ | refine GoodF.loud_ rfl rfl rfl rfl (fun ex X => ?_)); first | refine Nx.fieldAddr (A := (ad (ta.ra i).1).add (e * 2)) rfl rfl rfl ?_ | refine Nx.opr rfl rfl ?_ | refine Nx.indexAddr_nat (A := ta.Ar) (i := i) (sz := 1) rfl rfl rfl rfl rfl him hAr' ?_ | refine Nx.load rfl rfl rfl (roi _ _) ?_ | refine Nx.indexAddr_nat (A := (ta.ra i).1) (i := e) (sz := 2) rfl rfl rfl rfl rfl heN hri ?_ | refine Nx.load rfl rfl rfl (hnr _ _ 1 rfl) ?_ | refine Nx.callv rfl rfl rfl (by kernel_rfl) rfl hM1 ?_ | refine Nx.callv rfl rfl rfl (by kernel_rfl) rfl hM2 ?_ | refine Nx.so ?_ | refine Nx.sb (fun bx => ?_) | refine Nx.sa (fun A2 c2 => ?_))
      | refine Nx.za ?_ | refine Nx.zr (fun hc => ?_) (fun hc => ?_)
      | ((with_reducible refine Nx.is_mix ?_); first | refine Nx.m_quiet rfl rfl rfl rfl rfl (by first | exact QRun.opr rfl | exact QRun.idx (A := Ax) (i := i) (sz := 2) rfl rfl rfl rfl him hAx' | exact QRun.idx (A := Ax) (i := r) (sz := 2) rfl rfl rfl rfl hrm hAx' | exact QRun.loads rfl rfl rfl (a3 _ _ 2 rfl) rfl | exact QRun.loads rfl rfl rfl (a4 _ _ 2 rfl) rfl | exact QRun.idx (A := ta.Ar) (i := i) (sz := 1) rfl rfl rfl rfl him hAr' | exact QRun.idx (A := ta.Ar) (i := r) (sz := 1) rfl rfl rfl rfl hrm hAr' | exact QRun.load rfl rfl (roi _ _) | exact QRun.load rfl rfl (ror' _ _) | exact QRun.idx (A := (ta.ra i).1) (i := e) (sz := 2) rfl rfl rfl rfl heN hri | exact QRun.idx (A := (ta.ra r).1) (i := e) (sz := 2) rfl rfl rfl rfl heN hrr | exact QRun.loads rfl rfl rfl (a1 _ _ 1 rfl) rfl | exact QRun.loads rfl rfl rfl (a2 _ _ 1 rfl) rfl) ?_ | refine Nx.m_quiet_do rfl rfl rfl rfl rfl rfl rfl (by first | exact QRun.opr rfl | exact QRun.idx (A := Ax) (i := i) (sz := 2) rfl rfl rfl rfl him hAx' | exact QRun.idx (A := Ax) (i := r) (sz := 2) rfl rfl rfl rfl hrm hAx' | exact QRun.loads rfl rfl rfl (a3 _ _ 2 rfl) rfl | exact QRun.loads rfl rfl rfl (a4 _ _ 2 rfl) rfl | exact QRun.idx (A := ta.Ar) (i := i) (sz := 1) rfl rfl rfl rfl him hAr' | exact QRun.idx (A := ta.Ar) (i := r) (sz := 1) rfl rfl rfl rfl hrm hAr' | exact QRun.load rfl rfl (roi _ _) | exact QRun.load rfl rfl (ror' _ _) | exact QRun.idx (A := (ta.ra i).1) (i := e) (sz := 2) rfl rfl rfl rfl heN hri | exact QRun.idx (A := (ta.ra r).1) (i := e) (sz := 2) rfl rfl rfl rfl heN hrr | exact QRun.loads rfl rfl rfl (a1 _ _ 1 rfl) rfl | exact QRun.loads rfl rfl rfl (a2 _ _ 1 rfl) rfl) ?_ | refine Nx.m ?_ | refine Nx.zm ?_ | refine Nx.zt (fun hc => ?_) (fun hc => ?_))
      | ((with_reducible refine GoodF.is ?_); first | refine GoodF.quiet rfl rfl rfl rfl rfl rfl (by first | exact QRun.opr rfl | exact QRun.idx (A := Ax) (i := i) (sz := 2) rfl rfl rfl rfl him hAx' | exact QRun.idx (A := Ax) (i := r) (sz := 2) rfl rfl rfl rfl hrm hAx' | exact QRun.loads rfl rfl rfl (a3 _ _ 2 rfl) rfl | exact QRun.loads rfl rfl rfl (a4 _ _ 2 rfl) rfl | exact QRun.idx (A := ta.Ar) (i := i) (sz := 1) rfl rfl rfl rfl him hAr' | exact QRun.idx (A := ta.Ar) (i := r) (sz := 1) rfl rfl rfl rfl hrm hAr' | exact QRun.load rfl rfl (roi _ _) | exact QRun.load rfl rfl (ror' _ _) | exact QRun.idx (A := (ta.ra i).1) (i := e) (sz := 2) rfl rfl rfl rfl heN hri | exact QRun.idx (A := (ta.ra r).1) (i := e) (sz := 2) rfl rfl rfl rfl heN hrr | exact QRun.loads rfl rfl rfl (a1 _ _ 1 rfl) rfl | exact QRun.loads rfl rfl rfl (a2 _ _ 1 rfl) rfl |  exact QRun.std) ?_ | refine GoodF.done1 rfl (fun bx => ?_) | refine GoodF.done2 rfl (fun bx by_ => ?_) | refine GoodF.done3 rfl (fun bx by_ bz => ?_))
      | ((fail_if_success (with_reducible refine Nx.is_at ?_)); (fail_if_success (with_reducible refine Nx.is_wp ?_)); (fail_if_success (with_reducible refine Nx.is_mix ?_)); first | refine Nx.ex ?_ | refine Nx.pool_nextF 0 rfl (by exact Ent.auto) ?_ | refine Nx.pool_nextF 1 rfl (by exact Ent.auto) ?_ | refine Nx.pool_nextF 2 rfl (by exact Ent.auto) ?_ | refine Nx.pool_nextF 3 rfl (by exact Ent.auto) ?_)
    refine Nx.unstop ?_
    clear a1 a2 a3 a4 hM1 hM2 hnr
    have hrq : ratV rq = .agg #[.int .i64 rq.num, .int .i64 rq.den] := rfl
    by_cases hlt : rq < rr
    · rw [decide_eq_true hlt] at hL2
      have hbn := htake (.inl hlt)
      repeat' first
        | ((with_reducible refine Nx.is_wp ?_); first | refine Nx.wo ?_ | refine Nx.p_poolF (id := 9) rfl [0, 1, 2, 3, 4, 5, 6, 7, 8, 9, 10, 11, 12, 13, 14, 15, 16] [16] [] [18] [18] [⟨17, 10, 24, _⟩] rfl rfl (by kernel_rfl) (by kernel_rfl) (by decide) (PoolFit.cons ⟨⟨_, _, _, rfl⟩, rfl, rfl⟩ PoolFit.nil) (by repeat first | exact PanicOk.fn | exact hQ | refine PanicOk.then_ ?_ | refine PanicOk.inB ?_) (Ent.refl _) ?_ | refine Nx.p_poolF (id := 23) rfl [0, 1, 2, 3, 4, 5, 6, 7, 8, 9, 10, 11, 12, 14, 15, 16, 17, 18, 19, 20, 21, 22, 23, 24, 25, 26, 13, 27] [13, 27] [] [30, 31] [30, 31] [⟨28, 13, 24, _⟩, ⟨29, 14, 24, _⟩] rfl rfl (by kernel_rfl) (by kernel_rfl) (by decide) (PoolFit.cons ⟨⟨_, _, _, rfl⟩, rfl, rfl⟩ (PoolFit.cons ⟨⟨_, _, _, rfl⟩, rfl, rfl⟩ PoolFit.nil)) (by repeat first | exact PanicOk.fn | exact hQ | refine PanicOk.then_ ?_ | refine PanicOk.inB ?_) (Ent.refl _) ?_ | refine Nx.p_drawF (id := 24) rfl [0, 1, 2, 3, 4, 5, 6, 7, 8, 9, 10, 11, 12, 13, 14, 15, 16, 17, 18, 19, 20] [2] [] _ rfl rfl (by kernel_rfl) (by kernel_rfl) rfl (by repeat first | exact PanicOk.fn | exact hQ | refine PanicOk.then_ ?_ | refine PanicOk.inB ?_) (Ent.refl _) ?_ | refine Nx.zp (fun hc => ?_) (fun hc => ?_))
        | ((first | refine Nx.at_op rfl rfl ?_ | refine Nx.m_loud rfl rfl rfl ?_ | refine Nx.at_do rfl rfl rfl rfl ?_ | refine Nx.m_loud_do rfl rfl rfl rfl rfl ?_ | refine GoodF.loud_ rfl rfl rfl rfl (fun ex X => ?_)); first | refine Nx.opr rfl rfl ?_ | refine Nx.callv rfl rfl rfl (by kernel_rfl) rfl hL2 ?_ | refine Nx.so ?_ | refine Nx.sb (fun bx => ?_) | refine Nx.sa (fun A2 c2 => ?_))
        | refine Nx.za ?_ | refine Nx.zr (fun hc => ?_) (fun hc => ?_)
        | refine Nx.zq ?_ | refine Nx.zu (fun hc => ?_) (fun hc => ?_)
        | ((with_reducible refine GoodF.is ?_); first | refine GoodF.quiet rfl rfl rfl rfl rfl rfl (by first | exact QRun.opr rfl |  exact QRun.std) ?_ | refine GoodF.done1 rfl (fun bx => ?_) | refine GoodF.done2 rfl (fun bx by_ => ?_) | refine GoodF.done3 rfl (fun bx by_ bz => ?_))
        | ((fail_if_success (with_reducible refine Nx.is_at ?_)); (fail_if_success (with_reducible refine Nx.is_wp ?_)); (fail_if_success (with_reducible refine Nx.is_mix ?_)); first | refine Nx.ex ?_ | refine Nx.pool_nextF 0 rfl (by exact Ent.auto) ?_ | refine Nx.pool_nextF 1 rfl (by exact Ent.auto) ?_ | refine Nx.pool_nextF 2 rfl (by exact Ent.auto) ?_ | refine Nx.pool_nextF 3 rfl (by exact Ent.auto) ?_)
      exact Nx.again (i + 1, some i) ⟨him, hbn⟩ (by dsimp only; omega) ⟨rfl, rfl, rfl, rfl, rfl, rfl, rfl, trivial⟩ (by (exact Ent.auto))
    rw [decide_eq_false hlt] at hL2
    by_cases heq : rq = rr
    · have hE := fun {x y : Operand} (w : World) => eql_fracK (x := x) (y := y) rq.num rq.den rr.num rr.den true (decide_eq_true (rat_eq_iff.2 heq)) w
      by_cases hB : Bi < Br
      · have hbn := htake (.inr ⟨heq, hB⟩)
        repeat' first
          | ((with_reducible refine Nx.is_wp ?_); first | refine Nx.wo ?_ | refine Nx.p_poolF (id := 9) rfl [0, 1, 2, 3, 4, 5, 6, 7, 8, 9, 10, 11, 12, 13, 14, 15, 16] [16] [] [18] [18] [⟨17, 10, 24, _⟩] rfl rfl (by kernel_rfl) (by kernel_rfl) (by decide) (PoolFit.cons ⟨⟨_, _, _, rfl⟩, rfl, rfl⟩ PoolFit.nil) (by repeat first | exact PanicOk.fn | exact hQ | refine PanicOk.then_ ?_ | refine PanicOk.inB ?_) (Ent.refl _) ?_ | refine Nx.p_poolF (id := 23) rfl [0, 1, 2, 3, 4, 5, 6, 7, 8, 9, 10, 11, 12, 14, 15, 16, 17, 18, 19, 20, 21, 22, 23, 24, 25, 26, 13, 27] [13, 27] [] [30, 31] [30, 31] [⟨28, 13, 24, _⟩, ⟨29, 14, 24, _⟩] rfl rfl (by kernel_rfl) (by kernel_rfl) (by decide) (PoolFit.cons ⟨⟨_, _, _, rfl⟩, rfl, rfl⟩ (PoolFit.cons ⟨⟨_, _, _, rfl⟩, rfl, rfl⟩ PoolFit.nil)) (by repeat first | exact PanicOk.fn | exact hQ | refine PanicOk.then_ ?_ | refine PanicOk.inB ?_) (Ent.refl _) ?_ | refine Nx.p_drawF (id := 24) rfl [0, 1, 2, 3, 4, 5, 6, 7, 8, 9, 10, 11, 12, 13, 14, 15, 16, 17, 18, 19, 20] [2] [] _ rfl rfl (by kernel_rfl) (by kernel_rfl) rfl (by repeat first | exact PanicOk.fn | exact hQ | refine PanicOk.then_ ?_ | refine PanicOk.inB ?_) (Ent.refl _) ?_ | refine Nx.zp (fun hc => ?_) (fun hc => ?_))
          | ((first | refine Nx.at_op rfl rfl ?_ | refine Nx.m_loud rfl rfl rfl ?_ | refine Nx.at_do rfl rfl rfl rfl ?_ | refine Nx.m_loud_do rfl rfl rfl rfl rfl ?_ | refine GoodF.loud_ rfl rfl rfl rfl (fun ex X => ?_)); first | refine Nx.opr rfl rfl ?_ | refine Nx.callv rfl rfl rfl (by kernel_rfl) rfl hL2 ?_ | refine Nx.so ?_ | refine Nx.sb (fun bx => ?_) | refine Nx.sa (fun A2 c2 => ?_))
          | refine Nx.za ?_ | refine Nx.zr (fun hc => ?_) (fun hc => ?_)
          | ((with_reducible refine Nx.is_mix ?_); first | refine Nx.m_quiet rfl rfl rfl rfl rfl (by first | exact QRun.opr rfl | exact QRun.binr rfl rfl hE | exact QRun.idx (A := ta.Ab) (i := i) (sz := 1) rfl rfl rfl rfl him hAb' | exact QRun.idx (A := ta.Ab) (i := r) (sz := 1) rfl rfl rfl rfl hrm hAb' | exact QRun.load rfl rfl (b1 _ _ 3 rfl) | exact QRun.load rfl rfl (b2 _ _ 3 rfl) | exact QRun.load rfl rfl (b1 _ _ 5 rfl) | exact QRun.load rfl rfl (b2 _ _ 5 rfl)) ?_ | refine Nx.m_quiet_do rfl rfl rfl rfl rfl rfl rfl (by first | exact QRun.opr rfl | exact QRun.binr rfl rfl hE | exact QRun.idx (A := ta.Ab) (i := i) (sz := 1) rfl rfl rfl rfl him hAb' | exact QRun.idx (A := ta.Ab) (i := r) (sz := 1) rfl rfl rfl rfl hrm hAb' | exact QRun.load rfl rfl (b1 _ _ 3 rfl) | exact QRun.load rfl rfl (b2 _ _ 3 rfl) | exact QRun.load rfl rfl (b1 _ _ 5 rfl) | exact QRun.load rfl rfl (b2 _ _ 5 rfl)) ?_ | refine Nx.m ?_ | refine Nx.zm ?_ | refine Nx.zt (fun hc => ?_) (fun hc => ?_))
          | ((with_reducible refine GoodF.is ?_); first | refine GoodF.quiet rfl rfl rfl rfl rfl rfl (by first | exact QRun.opr rfl | exact QRun.binr rfl rfl hE | exact QRun.idx (A := ta.Ab) (i := i) (sz := 1) rfl rfl rfl rfl him hAb' | exact QRun.idx (A := ta.Ab) (i := r) (sz := 1) rfl rfl rfl rfl hrm hAb' | exact QRun.load rfl rfl (b1 _ _ 3 rfl) | exact QRun.load rfl rfl (b2 _ _ 3 rfl) | exact QRun.load rfl rfl (b1 _ _ 5 rfl) | exact QRun.load rfl rfl (b2 _ _ 5 rfl) |  exact QRun.std) ?_ | refine GoodF.done1 rfl (fun bx => ?_) | refine GoodF.done2 rfl (fun bx by_ => ?_) | refine GoodF.done3 rfl (fun bx by_ bz => ?_))
          | ((fail_if_success (with_reducible refine Nx.is_at ?_)); (fail_if_success (with_reducible refine Nx.is_wp ?_)); (fail_if_success (with_reducible refine Nx.is_mix ?_)); first | refine Nx.ex ?_ | refine Nx.pool_nextF 0 rfl (by exact Ent.auto) ?_ | refine Nx.pool_nextF 1 rfl (by exact Ent.auto) ?_ | refine Nx.pool_nextF 2 rfl (by exact Ent.auto) ?_ | refine Nx.pool_nextF 3 rfl (by exact Ent.auto) ?_)
        exact Nx.again (i + 1, some i) ⟨him, hbn⟩ (by dsimp only; omega) ⟨rfl, rfl, rfl, rfl, rfl, rfl, rfl, trivial⟩ (by (exact Ent.auto))
      · have hbn := hstay (.inr ⟨heq.symm, by omega⟩)
        repeat' first
          | ((with_reducible refine Nx.is_wp ?_); first | refine Nx.wo ?_ | refine Nx.p_poolF (id := 9) rfl [0, 1, 2, 3, 4, 5, 6, 7, 8, 9, 10, 11, 12, 13, 14, 15, 16] [16] [] [18] [18] [⟨17, 10, 24, _⟩] rfl rfl (by kernel_rfl) (by kernel_rfl) (by decide) (PoolFit.cons ⟨⟨_, _, _, rfl⟩, rfl, rfl⟩ PoolFit.nil) (by repeat first | exact PanicOk.fn | exact hQ | refine PanicOk.then_ ?_ | refine PanicOk.inB ?_) (Ent.refl _) ?_ | refine Nx.p_poolF (id := 23) rfl [0, 1, 2, 3, 4, 5, 6, 7, 8, 9, 10, 11, 12, 14, 15, 16, 17, 18, 19, 20, 21, 22, 23, 24, 25, 26, 13, 27] [13, 27] [] [30, 31] [30, 31] [⟨28, 13, 24, _⟩, ⟨29, 14, 24, _⟩] rfl rfl (by kernel_rfl) (by kernel_rfl) (by decide) (PoolFit.cons ⟨⟨_, _, _, rfl⟩, rfl, rfl⟩ (PoolFit.cons ⟨⟨_, _, _, rfl⟩, rfl, rfl⟩ PoolFit.nil)) (by repeat first | exact PanicOk.fn | exact hQ | refine PanicOk.then_ ?_ | refine PanicOk.inB ?_) (Ent.refl _) ?_ | refine Nx.p_drawF (id := 24) rfl [0, 1, 2, 3, 4, 5, 6, 7, 8, 9, 10, 11, 12, 13, 14, 15, 16, 17, 18, 19, 20] [2] [] _ rfl rfl (by kernel_rfl) (by kernel_rfl) rfl (by repeat first | exact PanicOk.fn | exact hQ | refine PanicOk.then_ ?_ | refine PanicOk.inB ?_) (Ent.refl _) ?_ | refine Nx.zp (fun hc => ?_) (fun hc => ?_))
          | ((first | refine Nx.at_op rfl rfl ?_ | refine Nx.m_loud rfl rfl rfl ?_ | refine Nx.at_do rfl rfl rfl rfl ?_ | refine Nx.m_loud_do rfl rfl rfl rfl rfl ?_ | refine GoodF.loud_ rfl rfl rfl rfl (fun ex X => ?_)); first | refine Nx.opr rfl rfl ?_ | refine Nx.callv rfl rfl rfl (by kernel_rfl) rfl hL2 ?_ | refine Nx.so ?_ | refine Nx.sb (fun bx => ?_) | refine Nx.sa (fun A2 c2 => ?_))
          | refine Nx.za ?_ | refine Nx.zr (fun hc => ?_) (fun hc => ?_)
          | ((with_reducible refine Nx.is_mix ?_); first | refine Nx.m_quiet rfl rfl rfl rfl rfl (by first | exact QRun.opr rfl | exact QRun.binr rfl rfl hE | exact QRun.idx (A := ta.Ab) (i := i) (sz := 1) rfl rfl rfl rfl him hAb' | exact QRun.idx (A := ta.Ab) (i := r) (sz := 1) rfl rfl rfl rfl hrm hAb' | exact QRun.load rfl rfl (b1 _ _ 3 rfl) | exact QRun.load rfl rfl (b2 _ _ 3 rfl) | exact QRun.load rfl rfl (b1 _ _ 5 rfl) | exact QRun.load rfl rfl (b2 _ _ 5 rfl)) ?_ | refine Nx.m_quiet_do rfl rfl rfl rfl rfl rfl rfl (by first | exact QRun.opr rfl | exact QRun.binr rfl rfl hE | exact QRun.idx (A := ta.Ab) (i := i) (sz := 1) rfl rfl rfl rfl him hAb' | exact QRun.idx (A := ta.Ab) (i := r) (sz := 1) rfl rfl rfl rfl hrm hAb' | exact QRun.load rfl rfl (b1 _ _ 3 rfl) | exact QRun.load rfl rfl (b2 _ _ 3 rfl) | exact QRun.load rfl rfl (b1 _ _ 5 rfl) | exact QRun.load rfl rfl (b2 _ _ 5 rfl)) ?_ | refine Nx.m ?_ | refine Nx.zm ?_ | refine Nx.zt (fun hc => ?_) (fun hc => ?_))
          | ((with_reducible refine GoodF.is ?_); first | refine GoodF.quiet rfl rfl rfl rfl rfl rfl (by first | exact QRun.opr rfl | exact QRun.binr rfl rfl hE | exact QRun.idx (A := ta.Ab) (i := i) (sz := 1) rfl rfl rfl rfl him hAb' | exact QRun.idx (A := ta.Ab) (i := r) (sz := 1) rfl rfl rfl rfl hrm hAb' | exact QRun.load rfl rfl (b1 _ _ 3 rfl) | exact QRun.load rfl rfl (b2 _ _ 3 rfl) | exact QRun.load rfl rfl (b1 _ _ 5 rfl) | exact QRun.load rfl rfl (b2 _ _ 5 rfl) |  exact QRun.std) ?_ | refine GoodF.done1 rfl (fun bx => ?_) | refine GoodF.done2 rfl (fun bx by_ => ?_) | refine GoodF.done3 rfl (fun bx by_ bz => ?_))
          | ((fail_if_success (with_reducible refine Nx.is_at ?_)); (fail_if_success (with_reducible refine Nx.is_wp ?_)); (fail_if_success (with_reducible refine Nx.is_mix ?_)); first | refine Nx.ex ?_ | refine Nx.pool_nextF 0 rfl (by exact Ent.auto) ?_ | refine Nx.pool_nextF 1 rfl (by exact Ent.auto) ?_ | refine Nx.pool_nextF 2 rfl (by exact Ent.auto) ?_ | refine Nx.pool_nextF 3 rfl (by exact Ent.auto) ?_)
        exact Nx.again (i + 1, some r) ⟨him, hbn⟩ (by dsimp only; omega) ⟨rfl, rfl, rfl, rfl, rfl, rfl, rfl, trivial⟩ (by (exact Ent.auto))
    · have hE := fun {x y : Operand} (w : World) => eql_fracK (x := x) (y := y) rq.num rq.den rr.num rr.den false (decide_eq_false fun hh => heq (rat_eq_iff.1 hh)) w
      have hbn := hstay (.inl (by grind))
      repeat' first
        | ((with_reducible refine Nx.is_wp ?_); first | refine Nx.wo ?_ | refine Nx.p_poolF (id := 9) rfl [0, 1, 2, 3, 4, 5, 6, 7, 8, 9, 10, 11, 12, 13, 14, 15, 16] [16] [] [18] [18] [⟨17, 10, 24, _⟩] rfl rfl (by kernel_rfl) (by kernel_rfl) (by decide) (PoolFit.cons ⟨⟨_, _, _, rfl⟩, rfl, rfl⟩ PoolFit.nil) (by repeat first | exact PanicOk.fn | exact hQ | refine PanicOk.then_ ?_ | refine PanicOk.inB ?_) (Ent.refl _) ?_ | refine Nx.p_poolF (id := 23) rfl [0, 1, 2, 3, 4, 5, 6, 7, 8, 9, 10, 11, 12, 14, 15, 16, 17, 18, 19, 20, 21, 22, 23, 24, 25, 26, 13, 27] [13, 27] [] [30, 31] [30, 31] [⟨28, 13, 24, _⟩, ⟨29, 14, 24, _⟩] rfl rfl (by kernel_rfl) (by kernel_rfl) (by decide) (PoolFit.cons ⟨⟨_, _, _, rfl⟩, rfl, rfl⟩ (PoolFit.cons ⟨⟨_, _, _, rfl⟩, rfl, rfl⟩ PoolFit.nil)) (by repeat first | exact PanicOk.fn | exact hQ | refine PanicOk.then_ ?_ | refine PanicOk.inB ?_) (Ent.refl _) ?_ | refine Nx.p_drawF (id := 24) rfl [0, 1, 2, 3, 4, 5, 6, 7, 8, 9, 10, 11, 12, 13, 14, 15, 16, 17, 18, 19, 20] [2] [] _ rfl rfl (by kernel_rfl) (by kernel_rfl) rfl (by repeat first | exact PanicOk.fn | exact hQ | refine PanicOk.then_ ?_ | refine PanicOk.inB ?_) (Ent.refl _) ?_ | refine Nx.zp (fun hc => ?_) (fun hc => ?_))
        | ((first | refine Nx.at_op rfl rfl ?_ | refine Nx.m_loud rfl rfl rfl ?_ | refine Nx.at_do rfl rfl rfl rfl ?_ | refine Nx.m_loud_do rfl rfl rfl rfl rfl ?_ | refine GoodF.loud_ rfl rfl rfl rfl (fun ex X => ?_)); first | refine Nx.opr rfl rfl ?_ | refine Nx.callv rfl rfl rfl (by kernel_rfl) rfl hL2 ?_ | refine Nx.so ?_ | refine Nx.sb (fun bx => ?_) | refine Nx.sa (fun A2 c2 => ?_))
        | refine Nx.za ?_ | refine Nx.zr (fun hc => ?_) (fun hc => ?_)
        | ((with_reducible refine Nx.is_mix ?_); first | refine Nx.m_quiet rfl rfl rfl rfl rfl (by first | exact QRun.opr rfl | exact QRun.binr rfl rfl hE) ?_ | refine Nx.m_quiet_do rfl rfl rfl rfl rfl rfl rfl (by first | exact QRun.opr rfl | exact QRun.binr rfl rfl hE) ?_ | refine Nx.m ?_ | refine Nx.zm ?_ | refine Nx.zt (fun hc => ?_) (fun hc => ?_))
        | ((with_reducible refine GoodF.is ?_); first | refine GoodF.quiet rfl rfl rfl rfl rfl rfl (by first | exact QRun.opr rfl | exact QRun.binr rfl rfl hE |  exact QRun.std) ?_ | refine GoodF.done1 rfl (fun bx => ?_) | refine GoodF.done2 rfl (fun bx by_ => ?_) | refine GoodF.done3 rfl (fun bx by_ bz => ?_))
        | ((fail_if_success (with_reducible refine Nx.is_at ?_)); (fail_if_success (with_reducible refine Nx.is_wp ?_)); (fail_if_success (with_reducible refine Nx.is_mix ?_)); first | refine Nx.ex ?_ | refine Nx.pool_nextF 0 rfl (by exact Ent.auto) ?_ | refine Nx.pool_nextF 1 rfl (by exact Ent.auto) ?_ | refine Nx.pool_nextF 2 rfl (by exact Ent.auto) ?_ | refine Nx.pool_nextF 3 rfl (by exact Ent.auto) ?_)
      exact Nx.again (i + 1, some r) ⟨him, hbn⟩ (by dsimp only; omega) ⟨rfl, rfl, rfl, rfl, rfl, rfl, rfl, trivial⟩ (by (exact Ent.auto))
set_option maxRecDepth 10000 in
theorem greatest_spec (q : Bl.Eqs) (hq : q.Small) (ra : RA) (s0 : Bl.Tab) (hs0 : Bl.Inv q s0) (c : Nat → Int) (hc : ∀ k, (c k).natAbs ≤ 1) (Ac : Option Addr) (cc : Nat) (I : PH) (hcost : Rats I Ac cc (rl q.N (Bl.cst c)))
    (ho : SliceOf (fun i : Nat => Value.slice (ra.ta.ra i).1 q.N (ra.ta.ra i).2) I ra.ta.Ar ra.ta.cr (List.range q.m)) (hra : ∀ i, i < q.m → (ra.ta.ra i).1.isSome = true) (hAx : 0 < q.m → ra.Ax.isSome = true) (hAb : 0 < q.m → ra.ta.Ab.isSome = true) :
    FnSpec Tryz.prog 93 [rtV q ra, .slice Ac q.N cc, .int .i64 (q.cnt : Int)] I [rrowsR q ra.ta s0.T, rightR q ra s0.T, basisR q ra.ta s0.B]
      (fun _ R' => ∃ (s' : Bl.Tab) (bo : Bool), Bl.Run q.m q.N q.cnt (Bl.cst c) s0 s' bo ∧ R' = [rrowsR q ra.ta s'.T, rightR q ra s'.T, basisR q ra.ta s'.B]) := by
  obtain ⟨ta, Ax, cx⟩ := ra
  dsimp only at ho hra hAx hAb ⊢
  have h1 := hq.cnt
  have h2 := hq.m
  have hNb : q.N ≤ 20 := by show q.cnt + q.m ≤ 20; omega
  have ror := fun (W : World) (Q : List Res) (i : Nat) (hi : i < q.m) => (by
    have := ho.rd (W := W) (R := Q) (k := i) (by rw [List.length_range]; exact hi)
    rwa [range_getD hi] at this : Rd W I Q ((ad ta.Ar).add (i * 1)) (.slice (ta.ra i).1 q.N (ta.ra i).2))
  have hAr : 0 < q.m → ta.Ar.isSome = true := fun h => ho.isSome (by rw [List.length_range]; omega)
  refine FnSpec.enterP Tryz.func93 rfl Tryz.ntmps93 rfl fun w F => ?_
  repeat' first
    | ((with_reducible refine Nx.is_wp ?_); first | refine Nx.wo ?_ | refine Nx.zp (fun hc => ?_) (fun hc => ?_))
    | (refine Nx.zo ?_; first | refine Nx.opr rfl rfl ?_ | refine Nx.so ?_ | refine Nx.sb (fun bx => ?_) | refine Nx.sa (fun A2 c2 => ?_))
    | refine Nx.za ?_ | refine Nx.zr (fun hc => ?_) (fun hc => ?_)
    | refine Nx.zq ?_ | refine Nx.zu (fun hc => ?_) (fun hc => ?_)
    | refine Nx.zx ?_ | fail
  revert bx; intro b3
  refine Nx.p_loop (σ := Nat × Bl.Tab) (fun _ => [(1, .slice Ac q.N cc), (2, .int .i64 (q.cnt : Int)), (3, .pointer (some ⟨b3, 0, none⟩))])
    (fun z => [Blk b3 87 (rtC q ⟨ta, Ax, cx⟩), rrowsR q ta z.2.T, rightR q ⟨ta, Ax, cx⟩ z.2.T, basisR q ta z.2.B, F]) (fun z => Bl.Gone q.m q.N q.cnt (Bl.cst c) s0 z.2 z.1 ∧ Bl.Inv q z.2) (fun z => q.N ^ q.m - z.1) (0, s0) rfl ⟨Bl.Gone.zero s0, hs0⟩ ⟨rfl, rfl, rfl, trivial⟩ (by (exact Ent.auto)) ?_
  rintro ⟨kk, s⟩ ⟨hgone, hs⟩
  dsimp only at hgone hs ⊢
  have hlt := hgone.lt (show q.cnt ≤ q.cnt + q.m by omega) hs0.ok
  obtain ⟨D, hD⟩ := hs.num hq
  repeat' first
    | ((with_reducible refine Nx.is_wp ?_); first | refine Nx.wo ?_ | refine Nx.zp (fun hc => ?_) (fun hc => ?_))
    | (refine Nx.zo ?_; first | refine Nx.opr rfl rfl ?_ | refine Nx.so ?_ | refine Nx.sb (fun bx => ?_) | refine Nx.sa (fun A2 c2 => ?_))
    | refine Nx.za ?_ | refine Nx.zr (fun hc => ?_) (fun hc => ?_)
    | refine Nx.zq ?_ | refine Nx.zu (fun hc => ?_) (fun hc => ?_)
    | refine Nx.zx ?_ | fail
  refine Nx.p_loop (σ := Nat × Option Nat) (fun z => [(1, .slice Ac q.N cc), (2, .int .i64 (q.cnt : Int)), (3, .pointer (some ⟨b3, 0, none⟩)), (6, .int .i64 (bestV z.2)), (7, .int .i64 (z.1 : Int))])
    (fun _ => [Blk b3 87 (rtC q ⟨ta, Ax, cx⟩), rrowsR q ta s.T, rightR q ⟨ta, Ax, cx⟩ s.T, basisR q ta s.B, F]) (fun z => z.1 ≤ q.cnt ∧ (z.2 = none → ∀ j, j < z.1 → Bl.gain q.m (Bl.cst c) s j ≤ 0) ∧ ∀ e, z.2 = some e → Bl.Ent q.m q.cnt (Bl.cst c) s e) (fun z => q.cnt - z.1) (0, none) rfl ⟨Nat.zero_le _, fun _ j hj => absurd hj (Nat.not_lt_zero _), fun e he => by cases he⟩ ⟨rfl, rfl, rfl, rfl, rfl, trivial⟩ (by (exact Ent.auto)) ?_
  rintro ⟨k, o⟩ ⟨hk, hno, hen⟩
  dsimp only at hk hno hen ⊢
  cases o with
  | none =>
    have hno := hno rfl
    have hbv : bestV none = -1 := rfl
    rw [hbv]
    by_cases hkc : k < q.cnt
    case neg =>
      obtain rfl : k = q.cnt := by omega
      repeat' first
        | ((with_reducible refine Nx.is_wp ?_); first | refine Nx.wo ?_ | refine Nx.zp (fun hc => ?_) (fun hc => ?_))
        | (refine Nx.zo ?_; first | refine Nx.opr rfl rfl ?_ | refine Nx.so ?_ | refine Nx.sb (fun bx => ?_) | refine Nx.sa (fun A2 c2 => ?_))
        | refine Nx.za ?_ | refine Nx.zr (fun hc => ?_) (fun hc => ?_)
        | refine Nx.zq ?_ | refine Nx.zu (fun hc => ?_) (fun hc => ?_)
        | refine Nx.zx ?_ | fail
      exact Nx.ret_fn rfl [_, _, _] ⟨s, true, hgone.run (.opt hno), rfl⟩ (by (exact Ent.auto))
    have hkN : k < q.N := by show k < q.cnt + q.m; omega
    have r1 := fun (W : World) (Q : List Res) => cost_rd (I := I) (W := W) (R := Q) hcost hkN
    have hAc := hcost.isSome (by rw [rl_len]; omega) (by omega)
    repeat' first
      | ((with_reducible refine Nx.is_wp ?_); first | refine Nx.wo ?_ | refine Nx.zp (fun hc => ?_) (fun hc => ?_))
      | (refine Nx.zo ?_; first | refine Nx.opr rfl rfl ?_ | refine Nx.indexAddr_nat (A := Ac) (i := k) (sz := 2) rfl rfl rfl rfl rfl hkN hAc ?_ | refine Nx.loads rfl rfl rfl rfl (r1 _ _) rfl ?_ | refine Nx.so ?_ | refine Nx.sb (fun bx => ?_) | refine Nx.sa (fun A2 c2 => ?_))
      | refine Nx.za ?_ | refine Nx.zr (fun hc => ?_) (fun hc => ?_)
      | refine Nx.zq ?_ | refine Nx.zu (fun hc => ?_) (fun hc => ?_)
      | refine Nx.zx ?_ | fail
    revert bx; intro b8
    refine Nx.p_loop (σ := Nat) (fun i => [(1, .slice Ac q.N cc), (2, .int .i64 (q.cnt : Int)), (3, .pointer (some ⟨b3, 0, none⟩)), (6, .int .i64 (-1)), (7, .int .i64 (k : Int)), (8, .pointer (some ⟨b8, 0, none⟩)), (30, .int .i64 (q.m : Int)), (31, .int .i64 (i : Int))])
      (fun i => [Blk b8 24 (ratC (gn c s k i)), Blk b3 87 (rtC q ⟨ta, Ax, cx⟩), rrowsR q ta s.T, rightR q ⟨ta, Ax, cx⟩ s.T, basisR q ta s.B, F]) (fun i => i ≤ q.m) (fun i => q.m - i) 0 rfl (Nat.zero_le _) ⟨rfl, rfl, rfl, rfl, rfl, rfl, rfl, rfl, trivial⟩ (by rw [show gn c s k 0 = Bl.cst c k by unfold gn; rw [Bl.sm]; grind]; (exact Ent.auto)) ?_
    intro i hi
    have hi : i ≤ q.m := hi
    have hrb : ∀ i, i ≤ q.m → RB (gn c s k i) := fun i hi => hD.rbs hq hkN (fun i => c (s.B i)) (fun i => hc _) (c k) (hc k) hi
    by_cases him : i < q.m
    case neg =>
      obtain rfl : i = q.m := by omega
      rw [gn_end]
      by_cases hpos : 0 < Bl.gain q.m (Bl.cst c) s k
      · have hn0 : 0 < (Bl.gain q.m (Bl.cst c) s k).num := num_ps.2 hpos
        have hEnt : Bl.Ent q.m q.cnt (Bl.cst c) s k := ⟨hkc, hpos, hno⟩
        generalize Bl.gain q.m (Bl.cst c) s k = gv at hn0
        repeat' first
          | ((with_reducible refine Nx.is_wp ?_); first | refine Nx.wo ?_ | refine Nx.zp (fun hc => ?_) (fun hc => ?_))
          | (refine Nx.zo ?_; first | refine Nx.opr rfl rfl ?_ | refine Nx.so ?_ | refine Nx.sb (fun bx => ?_) | refine Nx.sa (fun A2 c2 => ?_))
          | refine Nx.za ?_ | refine Nx.zr (fun hc => ?_) (fun hc => ?_)
          | refine Nx.zq ?_ | refine Nx.zu (fun hc => ?_) (fun hc => ?_)
          | refine Nx.zx ?_ | fail
        exact Nx.again (k + 1, some k) ⟨hkc, (fun h => by cases h), (fun e he => by cases he; exact hEnt)⟩ (by dsimp only; omega) ⟨rfl, rfl, rfl, rfl, rfl, trivial⟩ (by (exact Ent.auto))
      · have hn0 : (Bl.gain q.m (Bl.cst c) s k).num ≤ 0 := num_np.2 (Rat.not_lt.1 hpos)
        have hno2 : ∀ j, j < k + 1 → Bl.gain q.m (Bl.cst c) s j ≤ 0 := fun j hj => by
          by_cases hjk : j < k
          · exact hno j hjk
          · obtain rfl : j = k := by omega
            exact Rat.not_lt.1 hpos
        generalize Bl.gain q.m (Bl.cst c) s k = gv at hn0
        repeat' first
          | ((with_reducible refine Nx.is_wp ?_); first | refine Nx.wo ?_ | refine Nx.zp (fun hc => ?_) (fun hc => ?_))
          | (refine Nx.zo ?_; first | refine Nx.opr rfl rfl ?_ | refine Nx.so ?_ | refine Nx.sb (fun bx => ?_) | refine Nx.sa (fun A2 c2 => ?_))
          | refine Nx.za ?_ | refine Nx.zr (fun hc => ?_) (fun hc => ?_)
          | refine Nx.zq ?_ | refine Nx.zu (fun hc => ?_) (fun hc => ?_)
          | refine Nx.zx ?_ | fail
        exact Nx.again (k + 1, none) ⟨hkc, fun _ => hno2, (fun e he => by cases he)⟩ (by dsimp only; omega) ⟨rfl, rfl, rfl, rfl, rfl, trivial⟩ (by (exact Ent.auto))
    have hB := hs.ok.bas i him
    have hAr' := hAr (by omega)
    have hAb' := hAb (by omega)
    have hri := hra i him
    have roi := fun (W : World) (Q : List Res) => ror W Q i him
    have rb := fun (W : World) (R : List Res) (j : Nat) (hj : nthL R j = some (basisR q ta s.B)) => bas_rd (W := W) (I := I) j hj him
    have r2 := fun (W : World) (Q : List Res) => cost_rd (I := I) (W := W) (R := Q) hcost hB
    have r4 := fun (W : World) (R : List Res) (j : Nat) (hj : nthL R j = some (rrowsR q ta s.T)) => rnum_rds (W := W) (I := I) j hj him hkN
    have hgs := gn_succ' c s k i
    have hR1 : RB (Bl.cst c (s.B i) * s.T i k) := hD.rb1 him (Nat.le_of_lt hkN) _ (hc _)
    have hM1 := rmul_spec (Bl.cst c (s.B i)) (s.T i k) (RB_int (by have := hc (s.B i); omega)) (hD.rb him (Nat.le_of_lt hkN)) hR1 I
    obtain ⟨pr, hpr⟩ : ∃ pr, pr = Bl.cst c (s.B i) * s.T i k := ⟨_, rfl⟩
    rw [← hpr] at hM1 hgs hR1
    obtain ⟨np, hnp⟩ : ∃ np, np = -pr := ⟨_, rfl⟩
    rw [← hnp] at hgs
    have hRn : RB np := by rw [hnp]; exact RB_neg hR1
    have hM2 := radd_spec (gn c s k i) np (hrb i hi) hRn (by rw [← hgs]; exact hrb (i + 1) him) I
    rw [← hgs] at hM2
    have hI64 : I64 (-pr.num) := (rat_i64 (RB_neg hR1)).1
    have hgi := hrb i hi
    have hM2 : FnSpec Tryz.prog 95 [ratV (gn c s k i), .agg #[.int .i64 (-pr.num), .int .i64 pr.den]] I [] (fun v R' => v = ratV (gn c s k (i + 1)) ∧ R' = []) := by rw [hnp] at hM2; exact hM2
    obtain ⟨g1, hg1⟩ : ∃ g1, g1 = gn c s k (i + 1) := ⟨_, rfl⟩
    rw [← hg1] at hM2
    generalize gn c s k i = g0 at hM2 ⊢
    generalize Bl.cst c (s.B i) = ci at r2 hM1 hpr
    generalize s.B i = Bi at hB r2 rb
    generalize s.T i k = tik at r4 hM1 hpr
    clear hpr hgs
    repeat' first
      | ((with_reducible refine Nx.is_wp ?_); first | refine Nx.wo ?_ | refine Nx.p_poolF (id := 9) rfl [0, 1, 2, 3, 4, 5, 6, 7, 8, 9, 10, 11, 12, 13, 14, 15, 16] [16] [] [18] [18] [⟨17, 10, 24, _⟩] rfl rfl (by kernel_rfl) (by kernel_rfl) (by decide) (PoolFit.cons ⟨⟨_, _, _, rfl⟩, rfl, rfl⟩ PoolFit.nil) (by repeat first | exact PanicOk.fn | exact hQ | refine PanicOk.then_ ?_ | refine PanicOk.inB ?_) (Ent.refl _) ?_ | refine Nx.p_poolF (id := 23) rfl [0, 1, 2, 3, 4, 5, 6, 7, 8, 9, 10, 11, 12, 14, 15, 16, 17, 18, 19, 20, 21, 22, 23, 24, 25, 26, 13, 27] [13, 27] [] [30, 31] [30, 31] [⟨28, 13, 24, _⟩, ⟨29, 14, 24, _⟩] rfl rfl (by kernel_rfl) (by kernel_rfl) (by decide) (PoolFit.cons ⟨⟨_, _, _, rfl⟩, rfl, rfl⟩ (PoolFit.cons ⟨⟨_, _, _, rfl⟩, rfl, rfl⟩ PoolFit.nil)) (by repeat first | exact PanicOk.fn | exact hQ | refine PanicOk.then_ ?_ | refine PanicOk.inB ?_) (Ent.refl _) ?_ | refine Nx.p_drawF (id := 24) rfl [0, 1, 2, 3, 4, 5, 6, 7, 8, 9, 10, 11, 12, 13, 14, 15, 16, 17, 18, 19, 20] [2] [] _ rfl rfl (by kernel_rfl) (by kernel_rfl) rfl (by repeat first | exact PanicOk.fn | exact hQ | refine PanicOk.then_ ?_ | refine PanicOk.inB ?_) (Ent.refl _) ?_ | refine Nx.zp (fun hc => ?_) (fun hc => ?_))
      | ((first | refine Nx.at_op rfl rfl ?_ | refine Nx.m_loud rfl rfl rfl ?_ | refine Nx.at_do rfl rfl rfl rfl ?_ | refine Nx.m_loud_do rfl rfl rfl rfl rfl ?_ | refine GoodF.loud_ rfl rfl rfl rfl (fun ex X => ?_)); first | refine Nx.opr rfl rfl ?_ | refine Nx.callv rfl rfl rfl (by kernel_rfl) rfl hM1 ?_ | refine Nx.neg rfl hI64 rfl ?_ | refine Nx.callv rfl rfl rfl (by kernel_rfl) rfl hM2 ?_ | refine Nx.so ?_ | refine Nx.sb (fun bx => ?_) | refine Nx.sa (fun A2 c2 => ?_))
      | refine Nx.za ?_ | refine Nx.zr (fun hc => ?_) (fun hc => ?_)
      | ((with_reducible refine Nx.is_mix ?_); first | refine Nx.m_quiet rfl rfl rfl rfl rfl (by first | exact QRun.opr rfl | exact QRun.idx (A := ta.Ab) (i := i) (sz := 1) rfl rfl rfl rfl him hAb' | exact QRun.load rfl rfl (rb _ _ 4 rfl) | exact QRun.idx (A := Ac) (i := Bi) (sz := 2) rfl rfl rfl rfl hB hAc | exact QRun.loads rfl rfl rfl (r2 _ _) rfl | exact QRun.idx (A := ta.Ar) (i := i) (sz := 1) rfl rfl rfl rfl him hAr' | exact QRun.load rfl rfl (roi _ _) | exact QRun.idx (A := (ta.ra i).1) (i := k) (sz := 2) rfl rfl rfl rfl hkN hri | exact QRun.loads rfl rfl rfl (r4 _ _ 2 rfl) rfl) ?_ | refine Nx.m_quiet_do rfl rfl rfl rfl rfl rfl rfl (by first | exact QRun.opr rfl | exact QRun.idx (A := ta.Ab) (i := i) (sz := 1) rfl rfl rfl rfl him hAb' | exact QRun.load rfl rfl (rb _ _ 4 rfl) | exact QRun.idx (A := Ac) (i := Bi) (sz := 2) rfl rfl rfl rfl hB hAc | exact QRun.loads rfl rfl rfl (r2 _ _) rfl | exact QRun.idx (A := ta.Ar) (i := i) (sz := 1) rfl rfl rfl rfl him hAr' | exact QRun.load rfl rfl (roi _ _) | exact QRun.idx (A := (ta.ra i).1) (i := k) (sz := 2) rfl rfl rfl rfl hkN hri | exact QRun.loads rfl rfl rfl (r4 _ _ 2 rfl) rfl) ?_ | refine Nx.m ?_ | refine Nx.zm ?_ | refine Nx.zt (fun hc => ?_) (fun hc => ?_))
      | ((with_reducible refine GoodF.is ?_); first | refine GoodF.quiet rfl rfl rfl rfl rfl rfl (by first | exact QRun.opr rfl | exact QRun.idx (A := ta.Ab) (i := i) (sz := 1) rfl rfl rfl rfl him hAb' | exact QRun.load rfl rfl (rb _ _ 4 rfl) | exact QRun.idx (A := Ac) (i := Bi) (sz := 2) rfl rfl rfl rfl hB hAc | exact QRun.loads rfl rfl rfl (r2 _ _) rfl | exact QRun.idx (A := ta.Ar) (i := i) (sz := 1) rfl rfl rfl rfl him hAr' | exact QRun.load rfl rfl (roi _ _) | exact QRun.idx (A := (ta.ra i).1) (i := k) (sz := 2) rfl rfl rfl rfl hkN hri | exact QRun.loads rfl rfl rfl (r4 _ _ 2 rfl) rfl |  exact QRun.std) ?_ | refine GoodF.done1 rfl (fun bx => ?_) | refine GoodF.done2 rfl (fun bx by_ => ?_) | refine GoodF.done3 rfl (fun bx by_ bz => ?_))
      | ((fail_if_success (with_reducible refine Nx.is_at ?_)); (fail_if_success (with_reducible refine Nx.is_wp ?_)); (fail_if_success (with_reducible refine Nx.is_mix ?_)); first | refine Nx.ex ?_ | refine Nx.pool_nextF 0 rfl (by exact Ent.auto) ?_ | refine Nx.pool_nextF 1 rfl (by exact Ent.auto) ?_ | refine Nx.pool_nextF 2 rfl (by exact Ent.auto) ?_ | refine Nx.pool_nextF 3 rfl (by exact Ent.auto) ?_)
    exact Nx.again (i + 1) him (by omega) ⟨rfl, rfl, rfl, rfl, rfl, rfl, rfl, rfl, trivial⟩ (by rw [← hg1]; (exact Ent.auto))
  | some e =>
    have he := hen e rfl
    have hbv : bestV (some e) = (e : Int) := rfl
    rw [hbv]
    have hec := he.lt
    have h15 := fun (Q : Exit → Act → World → Prop) (hQ : PanicOk Q) => greatest15 w Q hQ F q hq ta Ax cx s hs e hec (.slice Ac q.N cc) (.int .i64 (q.cnt : Int)) b3 I ho hra hAx hAb (fun r hl => hs.step he hl)
    by_cases hkc : k < q.cnt
    all_goals
      repeat' first
        | ((with_reducible refine Nx.is_wp ?_); first | refine Nx.p_stop 15 rfl ?_ | refine Nx.wo ?_ | refine Nx.zp (fun hc => ?_) (fun hc => ?_))
        | (refine Nx.zo ?_; first | refine Nx.opr rfl rfl ?_ | refine Nx.so ?_ | refine Nx.sb (fun bx => ?_) | refine Nx.sa (fun A2 c2 => ?_))
        | refine Nx.za ?_ | refine Nx.zr (fun hc => ?_) (fun hc => ?_)
        | refine Nx.zq ?_ | refine Nx.zu (fun hc => ?_) (fun hc => ?_)
        | refine Nx.zx ?_ | fail
      refine Nx.unstop ?_
      refine Nx.weak (by exact ⟨rfl, rfl, rfl, rfl, trivial⟩) (by (exact Ent.auto)) (h15 _ PanicOk.auto (fun hno => ?_) fun r hl => ?_)
      · repeat' first
          | ((with_reducible refine Nx.is_wp ?_); first | refine Nx.wo ?_ | refine Nx.zp (fun hc => ?_) (fun hc => ?_))
          | (refine Nx.zo ?_; first | refine Nx.opr rfl rfl ?_ | refine Nx.so ?_ | refine Nx.sb (fun bx => ?_) | refine Nx.sa (fun A2 c2 => ?_))
          | refine Nx.za ?_ | refine Nx.zr (fun hc => ?_) (fun hc => ?_)
          | refine Nx.zq ?_ | refine Nx.zu (fun hc => ?_) (fun hc => ?_)
          | refine Nx.zx ?_ | fail
        exact Nx.ret_fn rfl [_, _, _] ⟨s, false, hgone.run (.unb he hno), rfl⟩ (by (exact Ent.auto))
      · repeat' first
          | ((with_reducible refine Nx.is_wp ?_); first | refine Nx.wo ?_ | refine Nx.zp (fun hc => ?_) (fun hc => ?_))
          | (refine Nx.zo ?_; first | refine Nx.opr rfl rfl ?_ | refine Nx.so ?_ | refine Nx.sb (fun bx => ?_) | refine Nx.sa (fun A2 c2 => ?_))
          | refine Nx.za ?_ | refine Nx.zr (fun hc => ?_) (fun hc => ?_)
          | refine Nx.zq ?_ | refine Nx.zu (fun hc => ?_) (fun hc => ?_)
          | refine Nx.zx ?_ | fail
        exact Nx.again (kk + 1, Bl.piv s r e) ⟨hgone.next he hl, hs.step he hl⟩ (by dsimp only; omega) ⟨rfl, rfl, rfl, trivial⟩ (by (exact Ent.auto))
end Go.Proofs.YtpcnapidlhpbkaaGreatDoor
