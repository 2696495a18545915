/- Contracts of functions of the given program, and lemmas about plain lists and numbers: what the laws of this seat lean on. -/
import Derived.Test.YtlhnhjconifacaaDoorC1
import Derived.Test.YtlhnhjconifacaaDoorF19
namespace Go.Proofs.YtlhnhjconifacaaDoor
open Go.Eng
attribute [local irreducible] opK wpList Code.wp Exit.then Exit.inBlock fnPost bodyPost Nx Calls Oper.wp Rd Rds Wr Ent Stars Blk Again Vec FnSpec wpMix QRun Stop Upto wpAt
/-- Codes: bytes, at most 400 of them, and how many are used up. -/
structure CodesI (I : PH) (A : Option Addr) (c : Nat) (L : List Int) : Prop where
  sl : SliceOf (fun x : Int => Value.int .u8 x) I A c L
  each : ∀ x ∈ L, 0 ≤ x ∧ x < 256
def CodesR (b : Nat) (A : Option Addr) (c : Nat) (L : List Int) (k : Nat) : Res := Blk b 54 [.slice A L.length c, .int .i64 (k : Int)]
theorem CodesI.mono {I I' : PH} {A : Option Addr} {c : Nat} {L : List Int} (hle : PH.le I I') (h : CodesI I A c L) : CodesI I' A c L := ⟨h.sl.mono hle, h.each⟩
theorem Next_codes (b : Nat) (A : Option Addr) (c : Nat) (L : List Int) (k : Nat) (n : Int) (I : PH) (hL : CodesI I A c L) (hk : k ≤ L.length) (hn : 1 ≤ n ∧ n ≤ 1000000) :
    FnSpec Tryd.prog 28 [.pointer (some ⟨b, 0, none⟩), .int .i64 n] I [CodesR b A c L k]
      (fun v R' => ∃ (r : Int) (k' : Nat), v = .int .i64 r ∧ (0 ≤ r ∧ r < n) ∧ k' ≤ L.length ∧ R' = [CodesR b A c L k']) := Next_spec b A c L k n I hL.sl hL.each hk hn
theorem New_codes (A : Option Addr) (c : Nat) (l : List Int) (I : PH) (hl : SliceOf (fun x : Int => Value.int .u8 x) I A c l) (hx : ∀ x ∈ l, 0 ≤ x ∧ x < 256) :
    CodesI I A c (l.take 400) ∧ FnSpec Tryd.prog 12 [.slice A l.length c] I [] (fun v R' => ∃ b, v = .pointer (some ⟨b, 0, none⟩) ∧ R' = [CodesR b A c (l.take 400) 0]) := by
  refine ⟨⟨⟨?_, ?_, hl.max⟩, fun x h => hx x (List.mem_of_mem_take h)⟩, New_spec A c l I hl⟩
  · intro j u hj
    refine hl.arr j u ?_
    rw [List.map_take, List.getElem?_take] at hj
    split at hj
    · exact hj
    · cases hj
  · have := hl.cap
    rw [List.length_take]
    omega
theorem Range_codes (b : Nat) (A : Option Addr) (c : Nat) (L : List Int) (k : Nat) (lo hi : Int) (I : PH) (hL : CodesI I A c L) (hk : k ≤ L.length) (hlo : -1000000 ≤ lo ∧ lo ≤ 1000000) (hh : lo ≤ hi ∧ hi ≤ lo + 999999) :
    FnSpec Tryd.prog 27 [.pointer (some ⟨b, 0, none⟩), .int .i64 lo, .int .i64 hi] I [CodesR b A c L k]
      (fun v R' => ∃ (r : Int) (k' : Nat), v = .int .i64 r ∧ (lo ≤ r ∧ r ≤ hi) ∧ k' ≤ L.length ∧ R' = [CodesR b A c L k']) := by
  refine FnSpec.enterP Tryd.func27 rfl Tryd.ntmps27 rfl fun w F => ?_
  repeat' first
    | ((with_reducible refine Nx.is_wp ?_); first | refine Nx.wo ?_ | refine Nx.p_dec rfl rfl (fun hc => ?_) (fun hc => ?_) | refine Nx.p_bool rfl rfl (fun hc => ?_) (fun hc => ?_))
    | ((first | refine Nx.at_op rfl rfl ?_ | refine Nx.m_loud rfl rfl rfl ?_ | refine Nx.at_do rfl rfl rfl rfl ?_ | refine Nx.m_loud_do rfl rfl rfl rfl rfl ?_); first | refine Nx.opr rfl rfl ?_ | refine Nx.call rfl rfl rfl (by kernel_rfl) rfl (Next_codes b A c L k _ I hL hk (by omega)) (Ent.refl _) ?_; rintro _ _ ⟨r, k1, rfl, hr, hk1, rfl⟩ | refine Nx.so ?_ | refine Nx.sb (fun bx => ?_) | refine Nx.sa (fun A2 c2 => ?_))
    | ((with_reducible refine Nx.is_at ?_); first | refine Nx.a ?_ | ((fail_if_success refine Nx.at_do rfl rfl rfl rfl ?_); first | refine Nx.at_dec_t rfl rfl rfl rfl (by first | assumption | omega) ?_ | refine Nx.at_dec_f rfl rfl rfl rfl (by first | assumption | omega) ?_ | refine Nx.at_split rfl rfl rfl rfl (fun hc => ?_) (fun hc => ?_) | refine Nx.at_splitb rfl rfl rfl rfl (fun hc => ?_) (fun hc => ?_)))
    | ((with_reducible refine Nx.is_mix ?_); first | refine Nx.m ?_ | ((fail_if_success refine Nx.m_quiet_do rfl rfl rfl rfl rfl rfl rfl ?_ ?_); (fail_if_success refine Nx.m_loud_do rfl rfl rfl rfl rfl ?_); first | refine Nx.m_dec_t rfl rfl rfl rfl (by first | assumption | omega) ?_ | refine Nx.m_dec_f rfl rfl rfl rfl (by first | assumption | omega) ?_ | refine Nx.m_split rfl rfl rfl rfl (fun hc => ?_) (fun hc => ?_) | refine Nx.m_splitb rfl rfl rfl rfl (fun hc => ?_) (fun hc => ?_)))
    | ((fail_if_success (with_reducible refine Nx.is_at ?_)); (fail_if_success (with_reducible refine Nx.is_wp ?_)); (fail_if_success (with_reducible refine Nx.is_mix ?_)); first | refine Nx.ex ?_)
  exact Nx.ret_fn rfl [_] ⟨_, k1, rfl, ⟨by omega, by omega⟩, hk1, rfl⟩ (by (first | done | (repeat first | exact Ent.refl _ | exact Ent.nil _ | refine Ent.pick 0 rfl ?_ | refine Ent.pick 1 rfl ?_ | refine Ent.pick 2 rfl ?_ | refine Ent.pick 3 rfl ?_ | refine Ent.pick 4 rfl ?_ | refine Ent.pick 5 rfl ?_ | refine Ent.pick 6 rfl ?_ | refine Ent.pick 7 rfl ?_ | refine Ent.pick 8 rfl ?_ | refine Ent.pick 9 rfl ?_ | refine Ent.pick 10 rfl ?_ | refine Ent.pick 11 rfl ?_ | refine Ent.pick 12 rfl ?_ | refine Ent.pick 13 rfl ?_ | refine Ent.pick 14 rfl ?_)))
theorem div_bd (n d : Int) (h0 : d ≠ 0) : (Rat.divInt n d).num.natAbs ≤ n.natAbs ∧ (Rat.divInt n d).den ≤ d.natAbs := by
  by_cases h : d < 0
  · obtain ⟨D, rfl⟩ : ∃ D : Nat, d = -(D : Int) := ⟨d.natAbs, by omega⟩
    obtain ⟨z, rfl⟩ : ∃ z : Int, n = -z := ⟨-n, by omega⟩
    rw [Rat.neg_divInt_neg]
    obtain ⟨e1, e2, _⟩ := div_parts z (by omega : 0 < D)
    rw [e1, e2]
    have := Nat.div_le_self z.natAbs (Nat.gcd D z.natAbs)
    have := Nat.div_le_self D (Nat.gcd D z.natAbs)
    omega
  · obtain ⟨D, rfl⟩ : ∃ D : Nat, d = (D : Int) := ⟨d.natAbs, by omega⟩
    obtain ⟨e1, e2, _⟩ := div_parts n (by omega : 0 < D)
    rw [e1, e2]
    have := Nat.div_le_self n.natAbs (Nat.gcd D n.natAbs)
    have := Nat.div_le_self D (Nat.gcd D n.natAbs)
    omega
theorem ofV_ok (n d : Int) (hd : 1 ≤ d ∧ d ≤ 1152921504606846976) (hn : n.natAbs ≤ 1152921504606846976) : RB (Rat.divInt n d) ∧ ofV n d = .tuple #[ratV (Rat.divInt n d), .int .i64 0] := by
  have h0 : d ≠ 0 := by omega
  obtain ⟨h1, h2⟩ := div_bd n d h0
  have hb : RB (Rat.divInt n d) := ⟨by omega, by omega⟩
  refine ⟨hb, ?_⟩
  unfold ofV
  rw [if_neg h0, redV_pos hb]
theorem Of_small (n d : Int) (hd : 1 ≤ d ∧ d ≤ 1152921504606846976) (hn : n.natAbs ≤ 1152921504606846976) (I : PH) : FnSpec Tryd.prog 10 [.int .i64 n, .int .i64 d] I [] (fun v R' => (∃ q, RB q ∧ v = .tuple #[ratV q, .int .i64 0]) ∧ R' = []) := by
  obtain ⟨hb, e⟩ := ofV_ok n d hd hn
  have := rOf_spec n d (by unfold I64; omega) (by unfold I64; omega) I
  rw [e] at this
  exact this.mono fun v R' ⟨h1, h2⟩ => ⟨⟨_, hb, h1⟩, h2⟩
theorem small_spec (b : Nat) (A : Option Addr) (c : Nat) (L : List Int) (k : Nat) (I : PH) (hL : CodesI I A c L) (hk : k ≤ L.length) :
    FnSpec Tryd.prog 13 [.pointer (some ⟨b, 0, none⟩)] I [CodesR b A c L k] (fun v R' => ∃ (q : Rat) (k' : Nat), v = ratV q ∧ RB q ∧ k' ≤ L.length ∧ R' = [CodesR b A c L k']) := by
  refine FnSpec.enterP Tryd.func13 rfl Tryd.ntmps13 rfl fun w F => ?_
  repeat' first
    | ((with_reducible refine Nx.is_wp ?_); first | refine Nx.wo ?_ | refine Nx.p_dec rfl rfl (fun hc => ?_) (fun hc => ?_) | refine Nx.p_bool rfl rfl (fun hc => ?_) (fun hc => ?_))
    | ((first | refine Nx.at_op rfl rfl ?_ | refine Nx.m_loud rfl rfl rfl ?_ | refine Nx.at_do rfl rfl rfl rfl ?_ | refine Nx.m_loud_do rfl rfl rfl rfl rfl ?_); first | refine Nx.opr rfl rfl ?_ | refine Nx.call rfl rfl rfl (by kernel_rfl) rfl (Range_codes b A c L _ (-30) 30 I hL (by assumption) (by omega) (by omega)) (by (first | done | (repeat first | exact Ent.refl _ | exact Ent.nil _ | refine Ent.pick 0 rfl ?_ | refine Ent.pick 1 rfl ?_ | refine Ent.pick 2 rfl ?_ | refine Ent.pick 3 rfl ?_ | refine Ent.pick 4 rfl ?_ | refine Ent.pick 5 rfl ?_ | refine Ent.pick 6 rfl ?_ | refine Ent.pick 7 rfl ?_ | refine Ent.pick 8 rfl ?_ | refine Ent.pick 9 rfl ?_ | refine Ent.pick 10 rfl ?_ | refine Ent.pick 11 rfl ?_ | refine Ent.pick 12 rfl ?_ | refine Ent.pick 13 rfl ?_ | refine Ent.pick 14 rfl ?_))) ?_; rintro _ _ ⟨r1, k1, rfl, hr1, hk1, rfl⟩ | refine Nx.call rfl rfl rfl (by kernel_rfl) rfl (Range_codes b A c L _ 1 30 I hL (by assumption) (by omega) (by omega)) (by (first | done | (repeat first | exact Ent.refl _ | exact Ent.nil _ | refine Ent.pick 0 rfl ?_ | refine Ent.pick 1 rfl ?_ | refine Ent.pick 2 rfl ?_ | refine Ent.pick 3 rfl ?_ | refine Ent.pick 4 rfl ?_ | refine Ent.pick 5 rfl ?_ | refine Ent.pick 6 rfl ?_ | refine Ent.pick 7 rfl ?_ | refine Ent.pick 8 rfl ?_ | refine Ent.pick 9 rfl ?_ | refine Ent.pick 10 rfl ?_ | refine Ent.pick 11 rfl ?_ | refine Ent.pick 12 rfl ?_ | refine Ent.pick 13 rfl ?_ | refine Ent.pick 14 rfl ?_))) ?_; rintro _ _ ⟨r2, k2, rfl, hr2, hk2, rfl⟩ | refine Nx.call rfl rfl rfl (by kernel_rfl) rfl (Next_codes b A c L _ 6 I hL (by assumption) (by omega)) (by (first | done | (repeat first | exact Ent.refl _ | exact Ent.nil _ | refine Ent.pick 0 rfl ?_ | refine Ent.pick 1 rfl ?_ | refine Ent.pick 2 rfl ?_ | refine Ent.pick 3 rfl ?_ | refine Ent.pick 4 rfl ?_ | refine Ent.pick 5 rfl ?_ | refine Ent.pick 6 rfl ?_ | refine Ent.pick 7 rfl ?_ | refine Ent.pick 8 rfl ?_ | refine Ent.pick 9 rfl ?_ | refine Ent.pick 10 rfl ?_ | refine Ent.pick 11 rfl ?_ | refine Ent.pick 12 rfl ?_ | refine Ent.pick 13 rfl ?_ | refine Ent.pick 14 rfl ?_))) ?_; rintro _ _ ⟨r3, k3, rfl, hr3, hk3, rfl⟩ | refine Nx.call rfl rfl rfl (by kernel_rfl) rfl (Next_codes b A c L _ 9 I hL (by assumption) (by omega)) (by (first | done | (repeat first | exact Ent.refl _ | exact Ent.nil _ | refine Ent.pick 0 rfl ?_ | refine Ent.pick 1 rfl ?_ | refine Ent.pick 2 rfl ?_ | refine Ent.pick 3 rfl ?_ | refine Ent.pick 4 rfl ?_ | refine Ent.pick 5 rfl ?_ | refine Ent.pick 6 rfl ?_ | refine Ent.pick 7 rfl ?_ | refine Ent.pick 8 rfl ?_ | refine Ent.pick 9 rfl ?_ | refine Ent.pick 10 rfl ?_ | refine Ent.pick 11 rfl ?_ | refine Ent.pick 12 rfl ?_ | refine Ent.pick 13 rfl ?_ | refine Ent.pick 14 rfl ?_))) ?_; rintro _ _ ⟨r4, k4, rfl, hr4, hk4, rfl⟩ | refine Nx.call (Rpre := []) rfl rfl rfl (by kernel_rfl) rfl (Of_small _ _ (by omega) (by omega) I) (Ent.refl _) ?_; rintro _ _ ⟨⟨q, hq, rfl⟩, rfl⟩ | refine Nx.so ?_ | refine Nx.sb (fun bx => ?_) | refine Nx.sa (fun A2 c2 => ?_))
    | ((with_reducible refine Nx.is_at ?_); first | refine Nx.a ?_ | ((fail_if_success refine Nx.at_do rfl rfl rfl rfl ?_); first | refine Nx.at_dec_t rfl rfl rfl rfl (by first | assumption | omega) ?_ | refine Nx.at_dec_f rfl rfl rfl rfl (by first | assumption | omega) ?_ | refine Nx.at_split rfl rfl rfl rfl (fun hc => ?_) (fun hc => ?_) | refine Nx.at_splitb rfl rfl rfl rfl (fun hc => ?_) (fun hc => ?_)))
    | ((with_reducible refine Nx.is_mix ?_); first | refine Nx.m ?_ | ((fail_if_success refine Nx.m_quiet_do rfl rfl rfl rfl rfl rfl rfl ?_ ?_); (fail_if_success refine Nx.m_loud_do rfl rfl rfl rfl rfl ?_); first | refine Nx.m_dec_t rfl rfl rfl rfl (by first | assumption | omega) ?_ | refine Nx.m_dec_f rfl rfl rfl rfl (by first | assumption | omega) ?_ | refine Nx.m_split rfl rfl rfl rfl (fun hc => ?_) (fun hc => ?_) | refine Nx.m_splitb rfl rfl rfl rfl (fun hc => ?_) (fun hc => ?_)))
    | ((fail_if_success (with_reducible refine Nx.is_at ?_)); (fail_if_success (with_reducible refine Nx.is_wp ?_)); (fail_if_success (with_reducible refine Nx.is_mix ?_)); first | refine Nx.ex ?_)
  all_goals refine Nx.ret1 rfl (ROne.cell 0 rfl rfl rfl rfl rfl) [_] ⟨q, _, rfl, hq, by assumption, rfl⟩ (by (first | done | (repeat first | exact Ent.refl _ | exact Ent.nil _ | refine Ent.pick 0 rfl ?_ | refine Ent.pick 1 rfl ?_ | refine Ent.pick 2 rfl ?_ | refine Ent.pick 3 rfl ?_ | refine Ent.pick 4 rfl ?_ | refine Ent.pick 5 rfl ?_ | refine Ent.pick 6 rfl ?_ | refine Ent.pick 7 rfl ?_ | refine Ent.pick 8 rfl ?_ | refine Ent.pick 9 rfl ?_ | refine Ent.pick 10 rfl ?_ | refine Ent.pick 11 rfl ?_ | refine Ent.pick 12 rfl ?_ | refine Ent.pick 13 rfl ?_ | refine Ent.pick 14 rfl ?_)))
end Go.Proofs.YtlhnhjconifacaaDoor
