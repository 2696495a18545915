/-
  The proof engine, part AD: an open statement that forks, with operations between that only read; strings put together.
-/
import Derived.Test.YtaoeapmdhpkidaaDe8
namespace Go.Eng
section
variable {P : Program} {ops : Array Oper} {Q : Exit → Act → World → Prop} {S : World → Prop} {loud fin : List Nat}
def wpForkQ (P : Program) (ops : Array Oper) (Q : Exit → Act → World → Prop) (S : World → Prop) (loud fin : List Nat) : Nat → Array Bool → Act → World → Prop
  | 0, _, _, _ => False
  | n + 1, listed, a, w => (mixOk ops loud fin listed = true ∧ fin.length ≤ n + 1 ∧ wpMix P ops Q S loud fin a w) ∨
    (∃ i, preOk ops (fun l => l == listed.setIfInBounds i true) [i] listed = true ∧ wpMix P ops (Exit.then (wpForkQ P ops Q S loud fin n (listed.setIfInBounds i true)) Q) S [] [i] a w) ∨
    (Region.ready .any ops listed ≠ [] ∧ ∀ i ∈ Region.ready .any ops listed, wpOp P ops Q i (fun a' w' => S w' ∧ wpForkQ P ops Q S loud fin n (listed.setIfInBounds i true) a' w') a w)
theorem wpForkQ_any (hs : Region.noSelect ops = true) (hQ : PanicOk Q) : ∀ (n : Nat) (listed : Array Bool) (a : Act) (w : World), wpForkQ P ops Q S loud fin n listed a w → S w → wpAnyH P .any ops Q S n listed a w
  | 0, _, _, _, h, _ => h.elim
  | n + 1, listed, a, w, h, hS => by
    rcases h with ⟨h1, h2, h3⟩ | ⟨i, h1, h2⟩ | ⟨h1, h2⟩
    · exact wpMix_any hs hQ fin (n + 1) listed a w h1 h2 hS h3
    · exact wpMix_pre (fuel := n) (S := S) (Q := Q) hs hQ (fun l a w hk hS' hT => by
        have hl : l = listed.setIfInBounds i true := by simpa using hk
        subst hl
        exact wpForkQ_any hs hQ n _ a w hT hS') [i] listed a w h1 hS h2
    · exact wpAnyH_all rfl h1 fun i hi => wpOp_mono (fun a' w' ⟨h3, h4⟩ => ⟨h3, wpForkQ_any hs hQ n _ a' w' h4 h3⟩) (h2 i hi)
end
section
variable {C : Cx} {e e' : Env} {I : PH} {R R' R0 : List Res} {K K' : Act → World → Prop} {Q : Exit → Act → World → Prop} {W : World}
variable {ops : Array Oper} {S : World → Prop} {loud fin : List Nat} {c : Code} {n i j : Nat} {o oi oj : Oper} {listed : Array Bool}
theorem Nx.p_forkQ {id : Nat} (hid : cid c = id) (q fin loud : List Nat) (R0 : List Res) (fuel : Nat) (hk : ck c = 2) (hm : C.P.follows .mixedOrders = true) (hs : Region.noSelect (cops c) = true)
    (hok : preOk (cops c) (fun l => l == listedOf (cops c).size q) q (Array.replicate (cops c).size false) = true) (hlen : fuel + q.length = (cops c).size) (hQ : PanicOk Q) (hR : Ent R R0)
    (h : Nx C e I R (wpMix C.P (cops c) (Exit.then (wpForkQ C.P (cops c) Q (St C.W I R0) loud fin fuel (listedOf (cops c).size q)) Q) (St C.W I R0) [] q)) : Nx C e I R (c.wp C.P Q) := by
  have hc : c = .region (cid c) (cops c) true := by
    cases c <;> first | (simp [ck] at hk; done) | skip
    rename_i b
    cases b with
    | false => simp [ck] at hk
    | true => rfl
  clear hid
  rw [hc]
  intro a w ha hw
  refine wp_region_held (S := St C.W I R0) hm ?_
  have key := fun hT => wpMix_pre (fuel := fuel) (S := St C.W I R0) (Q := Q) hs hQ hT q _ a _ hok (hw.drew.ent hR) (h a _ ha hw.drew)
  rw [hlen] at key
  refine key (fun listed a w hpo hSw hT => ?_)
  have hl : listed = listedOf (cops c).size q := by simpa using hpo
  subst hl
  exact wpForkQ_any hs hQ fuel _ a w hT hSw
theorem Nx.forkQ_fin (hok : mixOk ops loud fin listed = true) (hl : Nat.ble fin.length (n + 1) = true) (h : Nx C e I R (wpMix C.P ops Q S loud fin)) : Nx C e I R (wpForkQ C.P ops Q S loud fin (n + 1) listed) :=
  fun a w ha hw => .inl ⟨hok, Nat.le_of_ble_eq_true hl, h a w ha hw⟩
/-- Operation i only reads, and may come now. -/
theorem Nx.forkQ_q (i : Nat) (hok : preOk ops (fun l => l == listed.setIfInBounds i true) [i] listed = true) (h : Nx C e I R (wpMix C.P ops (Exit.then (wpForkQ C.P ops Q S loud fin n (listed.setIfInBounds i true)) Q) S [] [i])) : Nx C e I R (wpForkQ C.P ops Q S loud fin (n + 1) listed) :=
  fun a w ha hw => .inr (.inl ⟨i, hok, h a w ha hw⟩)
theorem Nx.forkQ1 (hr : Region.ready .any ops listed = [i]) (ho : opAt ops.toList i = some oi) (hg : oi.guard = none)
    (h : Nx C e I R (opK C.P oi (fun a w => S w ∧ wpForkQ C.P ops Q S loud fin n (listed.setIfInBounds i true) a w) Q)) : Nx C e I R (wpForkQ C.P ops Q S loud fin (n + 1) listed) := fun a w ha hw =>
  .inr (.inr ⟨by rw [hr]; simp, fun k hk => by
    rw [hr, List.mem_singleton] at hk
    subst hk
    exact wpOp_of ho hg h a w ha hw⟩)
theorem Nx.forkQ2 (hr : Region.ready .any ops listed = [i, j]) (hoi : opAt ops.toList i = some oi) (hgi : oi.guard = none) (hoj : opAt ops.toList j = some oj) (hgj : oj.guard = none)
    (hi : Nx C e I R (opK C.P oi (fun a w => S w ∧ wpForkQ C.P ops Q S loud fin n (listed.setIfInBounds i true) a w) Q))
    (hj : Nx C e I R (opK C.P oj (fun a w => S w ∧ wpForkQ C.P ops Q S loud fin n (listed.setIfInBounds j true) a w) Q)) : Nx C e I R (wpForkQ C.P ops Q S loud fin (n + 1) listed) := fun a w ha hw =>
  .inr (.inr ⟨by rw [hr]; simp, fun k hk => by
    rw [hr, List.mem_cons, List.mem_singleton] at hk
    rcases hk with rfl | rfl
    · exact wpOp_of hoi hgi hi a w ha hw
    · exact wpOp_of hoj hgj hj a w ha hw⟩)
end
section
variable {C : Cx} {e : Env} {S : World → Prop} {dst : Option Tmp} {ty t u : TypeId} {pos : String} {after : Array Edge} {g : Option (Nat × Bool)} {x y : Operand} {a b : List UInt8} {P : Program}
theorem run_add_s (h : a.length + b.length ≤ 9223372036854775807) (w : World) : (do eqGuard .add t x y (strV a) (strV b); binOp .add t (strV a) (strV b)).run P w = .ok (strV (a ++ b)) w := by
  have e1 : (strV (a ++ b)) = .string ((⟨a.toArray⟩ : ByteArray) ++ ⟨b.toArray⟩) := by
    unfold strV
    congr 1
  rw [e1, show eqGuard .add t x y (strV a) (strV b) = pure () from rfl]
  show (do pure (); binOp .add t (.string ⟨a.toArray⟩) (.string ⟨b.toArray⟩) : Sem Value).run P w = _
  rw [binOp_string_add]
  have h2 : (ByteArray.mk a.toArray).size + (ByteArray.mk b.toArray).size ≤ 9223372036854775807 := by simpa [ByteArray.size] using h
  simp [Op.stringOp]
  omega
/-- Two strings put together. -/
theorem QRun.add_s (hx : evo e x = some (strV a)) (hy : evo e y = some (strV b)) (h : a.length + b.length ≤ 9223372036854775807) : QRun C e S ⟨dst, .binOp .add t x y u, ty, pos, after, g⟩ (strV (a ++ b)) := QRun.binr hx hy (run_add_s h)
end
end Go.Eng
/- Contracts of functions of the given program, and lemmas about plain lists and numbers: what the laws of this seat lean on. -/
namespace Go.Proofs.Ytaoeapmdhpkidaa
open Go.Eng
section
variable {C : Cx} {e : Env} {I : PH} {R : List Res} {K : Act → World → Prop} {Q : Exit → Act → World → Prop} {d : Nat} {ty t u : TypeId} {pos : String} {after : Array Edge} {g : Option (Nat × Bool)} {x : Operand} {k0 k1 : IntKind} {p q : Int}
/-- A number of another kind, both told. -/
theorem Nx.convC (hx : evo e x = some (.int k0 p)) (hv : pureRun C.P (convert t u (.int k0 p)) = some (.int k1 q)) (hlt : Nat.blt d C.n = true) (h : Nx C ((d, .int k1 q) :: e) I R K) : Nx C e I R (opK C.P ⟨some d, .convert t u x, ty, pos, after, g⟩ K Q) :=
  Nx.op_run rfl hlt (fun a w ha _ => by simp only [execOp, ha.eval hx]; exact run_v (run_of_pureRun hv w)) h
end
attribute [local irreducible] opK wpList Code.wp Exit.then Exit.inBlock fnPost bodyPost Nx Calls Oper.wp Rd Rds Wr Ent Stars Blk Again Vec FnSpec wpMix QRun Stop Upto wpAt
attribute [local irreducible] wpForkQ
def full3 : List Shift := [([97, 110, 110], 0, 1000), ([98, 111, 98], 0, 1000), ([99, 121, 100], 10, 500)]
theorem full3_ok : checkE full3 = 0 := by decide
theorem full3_sh : ∀ x ∈ full3, shOk x := by
  intro x hx
  simp only [full3, List.mem_cons, List.not_mem_nil, or_false] at hx
  rcases hx with rfl | rfl | rfl <;> exact ⟨by decide, by unfold I64; decide, by unfold I64; decide⟩
set_option maxRecDepth 10000 in
theorem Full_spec (I : PH) : FnSpec Try.prog 20 [] I [] (fun v R' => ∃ A' c', v = .slice A' full3.length c' ∧ R' = [shiftsR A' c' full3]) := by
  refine FnSpec.enterP Try.func20 rfl Try.ntmps20 rfl fun w F => ?_
  repeat' first
    | ((with_reducible refine Nx.is_wp ?_); first | refine Nx.wo ?_ | refine Nx.p_dec rfl rfl (fun hc => ?_) (fun hc => ?_) | refine Nx.p_bool rfl rfl (fun hc => ?_) (fun hc => ?_))
    | ((first | refine Nx.at_op rfl rfl ?_ | refine Nx.m_loud rfl rfl rfl ?_ | refine Nx.at_do rfl rfl rfl rfl ?_ | refine Nx.m_loud_do rfl rfl rfl rfl rfl ?_); first | refine Nx.opr rfl rfl ?_ | refine Nx.so ?_ | refine Nx.sb (fun bx => ?_) | refine Nx.sa (fun A2 c2 => ?_))
    | ((with_reducible refine Nx.is_at ?_); first | refine Nx.a ?_ | ((fail_if_success refine Nx.at_do rfl rfl rfl rfl ?_); first | refine Nx.at_dec_t rfl rfl rfl rfl (by first | assumption | omega) ?_ | refine Nx.at_dec_f rfl rfl rfl rfl (by first | assumption | omega) ?_ | refine Nx.at_split rfl rfl rfl rfl (fun hc => ?_) (fun hc => ?_) | refine Nx.at_splitb rfl rfl rfl rfl (fun hc => ?_) (fun hc => ?_)))
    | ((with_reducible refine Nx.is_mix ?_); first | refine Nx.m ?_ | ((fail_if_success refine Nx.m_quiet_do rfl rfl rfl rfl rfl rfl rfl ?_ ?_); (fail_if_success refine Nx.m_loud_do rfl rfl rfl rfl rfl ?_); first | refine Nx.m_dec_t rfl rfl rfl rfl (by first | assumption | omega) ?_ | refine Nx.m_dec_f rfl rfl rfl rfl (by first | assumption | omega) ?_ | refine Nx.m_split rfl rfl rfl rfl (fun hc => ?_) (fun hc => ?_) | refine Nx.m_splitb rfl rfl rfl rfl (fun hc => ?_) (fun hc => ?_)))
    | ((fail_if_success (with_reducible refine Nx.is_at ?_)); (fail_if_success (with_reducible refine Nx.is_wp ?_)); (fail_if_success (with_reducible refine Nx.is_mix ?_)); first | refine Nx.ex ?_)
  refine Nx.blk_vec 0 3 3 rfl rfl (by omega) ?_
  exact Nx.ret_fn rfl [shiftsR (some ⟨bx, 0, none⟩) 3 full3] ⟨_, _, rfl, rfl⟩ (by (exact Ent.auto))
set_option maxRecDepth 10000 in
theorem Decimal_spec (n : Int) (hn : 0 ≤ n ∧ n < 3) (I : PH) : FnSpec Try.prog 60 [.int .i64 n] I [] (fun v R' => (∃ s : List UInt8, v = strV s ∧ s.length ≤ 10) ∧ R' = []) := by
  have h : n = 0 ∨ n = 1 ∨ n = 2 := by omega
  refine FnSpec.enterP Try.func60 rfl Try.ntmps60 rfl fun w F => ?_
  rcases h with rfl | rfl | rfl
  · repeat' first
      | ((with_reducible refine Nx.is_wp ?_); first | refine Nx.wo ?_ | refine Nx.p_dec rfl rfl (fun hc => ?_) (fun hc => ?_) | refine Nx.p_bool rfl rfl (fun hc => ?_) (fun hc => ?_))
      | ((first | refine Nx.at_op rfl rfl ?_ | refine Nx.m_loud rfl rfl rfl ?_ | refine Nx.at_do rfl rfl rfl rfl ?_ | refine Nx.m_loud_do rfl rfl rfl rfl rfl ?_); first | refine Nx.opr rfl rfl ?_ | refine Nx.convC (k1 := .u8) (q := 48) rfl (by kernel_rfl) rfl ?_ | (refine Nx.blk_vec 0 1 1 rfl rfl (by omega) ?_; refine Nx.vec_str 0 (l := [48]) rfl rfl rfl rfl rfl rfl rfl ?_) | refine Nx.so ?_ | refine Nx.sb (fun bx => ?_) | refine Nx.sa (fun A2 c2 => ?_))
      | ((with_reducible refine Nx.is_at ?_); first | refine Nx.a ?_ | ((fail_if_success refine Nx.at_do rfl rfl rfl rfl ?_); first | refine Nx.at_dec_t rfl rfl rfl rfl (by first | assumption | omega) ?_ | refine Nx.at_dec_f rfl rfl rfl rfl (by first | assumption | omega) ?_ | refine Nx.at_split rfl rfl rfl rfl (fun hc => ?_) (fun hc => ?_) | refine Nx.at_splitb rfl rfl rfl rfl (fun hc => ?_) (fun hc => ?_)))
      | ((with_reducible refine Nx.is_mix ?_); first | refine Nx.m ?_ | ((fail_if_success refine Nx.m_quiet_do rfl rfl rfl rfl rfl rfl rfl ?_ ?_); (fail_if_success refine Nx.m_loud_do rfl rfl rfl rfl rfl ?_); first | refine Nx.m_dec_t rfl rfl rfl rfl (by first | assumption | omega) ?_ | refine Nx.m_dec_f rfl rfl rfl rfl (by first | assumption | omega) ?_ | refine Nx.m_split rfl rfl rfl rfl (fun hc => ?_) (fun hc => ?_) | refine Nx.m_splitb rfl rfl rfl rfl (fun hc => ?_) (fun hc => ?_)))
      | ((fail_if_success (with_reducible refine Nx.is_at ?_)); (fail_if_success (with_reducible refine Nx.is_wp ?_)); (fail_if_success (with_reducible refine Nx.is_mix ?_)); first | refine Nx.ex ?_)
    exact Nx.ret_fn rfl [] ⟨⟨[48], rfl, by decide⟩, rfl⟩ (by (exact Ent.auto))
  · repeat' first
      | ((with_reducible refine Nx.is_wp ?_); first | refine Nx.wo ?_ | refine Nx.p_dec rfl rfl (fun hc => ?_) (fun hc => ?_) | refine Nx.p_bool rfl rfl (fun hc => ?_) (fun hc => ?_))
      | ((first | refine Nx.at_op rfl rfl ?_ | refine Nx.m_loud rfl rfl rfl ?_ | refine Nx.at_do rfl rfl rfl rfl ?_ | refine Nx.m_loud_do rfl rfl rfl rfl rfl ?_); first | refine Nx.opr rfl rfl ?_ | refine Nx.convC (k1 := .u8) (q := 49) rfl (by kernel_rfl) rfl ?_ | (refine Nx.blk_vec 0 1 1 rfl rfl (by omega) ?_; refine Nx.vec_str 0 (l := [49]) rfl rfl rfl rfl rfl rfl rfl ?_) | refine Nx.so ?_ | refine Nx.sb (fun bx => ?_) | refine Nx.sa (fun A2 c2 => ?_))
      | ((with_reducible refine Nx.is_at ?_); first | refine Nx.a ?_ | ((fail_if_success refine Nx.at_do rfl rfl rfl rfl ?_); first | refine Nx.at_dec_t rfl rfl rfl rfl (by first | assumption | omega) ?_ | refine Nx.at_dec_f rfl rfl rfl rfl (by first | assumption | omega) ?_ | refine Nx.at_split rfl rfl rfl rfl (fun hc => ?_) (fun hc => ?_) | refine Nx.at_splitb rfl rfl rfl rfl (fun hc => ?_) (fun hc => ?_)))
      | ((with_reducible refine Nx.is_mix ?_); first | refine Nx.m ?_ | ((fail_if_success refine Nx.m_quiet_do rfl rfl rfl rfl rfl rfl rfl ?_ ?_); (fail_if_success refine Nx.m_loud_do rfl rfl rfl rfl rfl ?_); first | refine Nx.m_dec_t rfl rfl rfl rfl (by first | assumption | omega) ?_ | refine Nx.m_dec_f rfl rfl rfl rfl (by first | assumption | omega) ?_ | refine Nx.m_split rfl rfl rfl rfl (fun hc => ?_) (fun hc => ?_) | refine Nx.m_splitb rfl rfl rfl rfl (fun hc => ?_) (fun hc => ?_)))
      | ((fail_if_success (with_reducible refine Nx.is_at ?_)); (fail_if_success (with_reducible refine Nx.is_wp ?_)); (fail_if_success (with_reducible refine Nx.is_mix ?_)); first | refine Nx.ex ?_)
    exact Nx.ret_fn rfl [] ⟨⟨[49], rfl, by decide⟩, rfl⟩ (by (exact Ent.auto))
  · repeat' first
      | ((with_reducible refine Nx.is_wp ?_); first | refine Nx.wo ?_ | refine Nx.p_dec rfl rfl (fun hc => ?_) (fun hc => ?_) | refine Nx.p_bool rfl rfl (fun hc => ?_) (fun hc => ?_))
      | ((first | refine Nx.at_op rfl rfl ?_ | refine Nx.m_loud rfl rfl rfl ?_ | refine Nx.at_do rfl rfl rfl rfl ?_ | refine Nx.m_loud_do rfl rfl rfl rfl rfl ?_); first | refine Nx.opr rfl rfl ?_ | refine Nx.convC (k1 := .u8) (q := 50) rfl (by kernel_rfl) rfl ?_ | (refine Nx.blk_vec 0 1 1 rfl rfl (by omega) ?_; refine Nx.vec_str 0 (l := [50]) rfl rfl rfl rfl rfl rfl rfl ?_) | refine Nx.so ?_ | refine Nx.sb (fun bx => ?_) | refine Nx.sa (fun A2 c2 => ?_))
      | ((with_reducible refine Nx.is_at ?_); first | refine Nx.a ?_ | ((fail_if_success refine Nx.at_do rfl rfl rfl rfl ?_); first | refine Nx.at_dec_t rfl rfl rfl rfl (by first | assumption | omega) ?_ | refine Nx.at_dec_f rfl rfl rfl rfl (by first | assumption | omega) ?_ | refine Nx.at_split rfl rfl rfl rfl (fun hc => ?_) (fun hc => ?_) | refine Nx.at_splitb rfl rfl rfl rfl (fun hc => ?_) (fun hc => ?_)))
      | ((with_reducible refine Nx.is_mix ?_); first | refine Nx.m ?_ | ((fail_if_success refine Nx.m_quiet_do rfl rfl rfl rfl rfl rfl rfl ?_ ?_); (fail_if_success refine Nx.m_loud_do rfl rfl rfl rfl rfl ?_); first | refine Nx.m_dec_t rfl rfl rfl rfl (by first | assumption | omega) ?_ | refine Nx.m_dec_f rfl rfl rfl rfl (by first | assumption | omega) ?_ | refine Nx.m_split rfl rfl rfl rfl (fun hc => ?_) (fun hc => ?_) | refine Nx.m_splitb rfl rfl rfl rfl (fun hc => ?_) (fun hc => ?_)))
      | ((fail_if_success (with_reducible refine Nx.is_at ?_)); (fail_if_success (with_reducible refine Nx.is_wp ?_)); (fail_if_success (with_reducible refine Nx.is_mix ?_)); first | refine Nx.ex ?_)
    exact Nx.ret_fn rfl [] ⟨⟨[50], rfl, by decide⟩, rfl⟩ (by (exact Ent.auto))
/-- An output as the desk's laws make it. -/
structure MadeO (number : Int) (o : Out) : Prop where
  n : o.n = number
  sg : o.sg = []
  t : 0 ≤ o.t ∧ o.t < 20
  st : 1 ≤ o.st ∧ o.st ≤ 6
def txts : List (List UInt8) := [[], [97, 10], [111, 117, 116, 112, 117, 116, 32, 110, 32, 110, 117, 109, 98, 101, 114, 10, 118, 97, 108, 117, 101, 32, 49, 47, 50, 10], [0, 255]]
set_option maxHeartbeats 8000000 in
set_option maxRecDepth 10000 in
theorem Output_made (b : Nat) (A : Option Addr) (c : Nat) (L : List Int) (k : Nat) (number : Int) (I : PH) (hL : CodesOk I A c L) (hk : k ≤ L.length) :
    FnSpec Try.prog 23 [.pointer (some ⟨b, 0, none⟩), .int .i64 number] I [CodesR b A c L k]
      (fun v R' => ∃ (o : Out) (k' : Nat), v = ouV (o, none, 0) ∧ MadeO number o ∧ k' ≤ L.length ∧ R' = [CodesR b A c L k']) := by
  refine FnSpec.enterP Try.func23 rfl Try.ntmps23 rfl fun w F => ?_
  repeat' first
    | ((with_reducible refine Nx.is_wp ?_); first | refine Nx.wo ?_ | refine Nx.p_dec rfl rfl (fun hc => ?_) (fun hc => ?_) | refine Nx.p_bool rfl rfl (fun hc => ?_) (fun hc => ?_))
    | ((first | refine Nx.at_op rfl rfl ?_ | refine Nx.m_loud rfl rfl rfl ?_ | refine Nx.at_do rfl rfl rfl rfl ?_ | refine Nx.m_loud_do rfl rfl rfl rfl rfl ?_); first | refine Nx.opr rfl rfl ?_ | refine Nx.so ?_ | refine Nx.sb (fun bx => ?_) | refine Nx.sa (fun A2 c2 => ?_))
    | ((with_reducible refine Nx.is_at ?_); first | refine Nx.a ?_ | ((fail_if_success refine Nx.at_do rfl rfl rfl rfl ?_); first | refine Nx.at_dec_t rfl rfl rfl rfl (by first | assumption | omega) ?_ | refine Nx.at_dec_f rfl rfl rfl rfl (by first | assumption | omega) ?_ | refine Nx.at_split rfl rfl rfl rfl (fun hc => ?_) (fun hc => ?_) | refine Nx.at_splitb rfl rfl rfl rfl (fun hc => ?_) (fun hc => ?_)))
    | ((with_reducible refine Nx.is_mix ?_); first | refine Nx.m ?_ | ((fail_if_success refine Nx.m_quiet_do rfl rfl rfl rfl rfl rfl rfl ?_ ?_); (fail_if_success refine Nx.m_loud_do rfl rfl rfl rfl rfl ?_); first | refine Nx.m_dec_t rfl rfl rfl rfl (by first | assumption | omega) ?_ | refine Nx.m_dec_f rfl rfl rfl rfl (by first | assumption | omega) ?_ | refine Nx.m_split rfl rfl rfl rfl (fun hc => ?_) (fun hc => ?_) | refine Nx.m_splitb rfl rfl rfl rfl (fun hc => ?_) (fun hc => ?_)))
    | ((fail_if_success (with_reducible refine Nx.is_at ?_)); (fail_if_success (with_reducible refine Nx.is_wp ?_)); (fail_if_success (with_reducible refine Nx.is_mix ?_)); first | refine Nx.ex ?_)
  refine Nx.p_forkQ (id := 1) rfl [0, 1, 5, 7, 10, 14] [16, 17] [2, 3, 6, 8, 9, 11, 15, 17] [] 12 rfl rfl (by kernel_rfl) (by kernel_rfl) (by kernel_rfl) (by repeat first | exact PanicOk.fn | refine PanicOk.then_ ?_ | refine PanicOk.inB ?_) (Ent.nil _) ?_
  repeat' first
    | ((with_reducible refine Nx.is_wp ?_); first | refine Nx.wo ?_ | refine Nx.p_dec rfl rfl (fun hc => ?_) (fun hc => ?_) | refine Nx.p_bool rfl rfl (fun hc => ?_) (fun hc => ?_))
    | ((first | refine Nx.at_op rfl rfl ?_ | refine Nx.m_loud rfl rfl rfl ?_ | refine Nx.at_do rfl rfl rfl rfl ?_ | refine Nx.m_loud_do rfl rfl rfl rfl rfl ?_); first | refine Nx.opr rfl rfl ?_ | refine Nx.so ?_ | refine Nx.sb (fun bx => ?_) | refine Nx.sa (fun A2 c2 => ?_))
    | ((with_reducible refine Nx.is_at ?_); first | refine Nx.a ?_ | ((fail_if_success refine Nx.at_do rfl rfl rfl rfl ?_); first | refine Nx.at_dec_t rfl rfl rfl rfl (by first | assumption | omega) ?_ | refine Nx.at_dec_f rfl rfl rfl rfl (by first | assumption | omega) ?_ | refine Nx.at_split rfl rfl rfl rfl (fun hc => ?_) (fun hc => ?_) | refine Nx.at_splitb rfl rfl rfl rfl (fun hc => ?_) (fun hc => ?_)))
    | ((with_reducible refine Nx.is_mix ?_); first | refine Nx.m ?_ | ((fail_if_success refine Nx.m_quiet_do rfl rfl rfl rfl rfl rfl rfl ?_ ?_); (fail_if_success refine Nx.m_loud_do rfl rfl rfl rfl rfl ?_); first | refine Nx.m_dec_t rfl rfl rfl rfl (by first | assumption | omega) ?_ | refine Nx.m_dec_f rfl rfl rfl rfl (by first | assumption | omega) ?_ | refine Nx.m_split rfl rfl rfl rfl (fun hc => ?_) (fun hc => ?_) | refine Nx.m_splitb rfl rfl rfl rfl (fun hc => ?_) (fun hc => ?_)))
    | ((fail_if_success (with_reducible refine Nx.is_at ?_)); (fail_if_success (with_reducible refine Nx.is_wp ?_)); (fail_if_success (with_reducible refine Nx.is_mix ?_)); first | refine Nx.ex ?_)
  refine Nx.forkQ2 (i := 2) (j := 9) (by kernel_rfl) rfl rfl rfl rfl ?_ ?_
  · refine Nx.call rfl rfl rfl (by kernel_rfl) rfl (Next_any b A c L k 3 I hL hk (by omega)) (by (exact Ent.auto)) ?_
    rintro _ _ ⟨r2, k2, rfl, hr2, hk2, rfl⟩
    refine Nx.mix_S (Ent.nil _) ?_
    refine Nx.forkQ2 (i := 3) (j := 9) (by kernel_rfl) rfl rfl rfl rfl ?_ ?_
    · refine Nx.call (Rpre := []) rfl rfl rfl (by kernel_rfl) rfl (Decimal_spec r2 hr2 I) (Ent.refl _) ?_
      rintro _ _ ⟨⟨dec, rfl, hdec⟩, rfl⟩
      refine Nx.mix_S (Ent.nil _) ?_
      refine Nx.forkQ_q 4 (by kernel_rfl) ?_
      repeat' first
        | ((with_reducible refine Nx.is_wp ?_); first | refine Nx.wo ?_ | refine Nx.p_dec rfl rfl (fun hc => ?_) (fun hc => ?_) | refine Nx.p_bool rfl rfl (fun hc => ?_) (fun hc => ?_))
        | ((first | refine Nx.at_op rfl rfl ?_ | refine Nx.m_loud rfl rfl rfl ?_ | refine Nx.at_do rfl rfl rfl rfl ?_ | refine Nx.m_loud_do rfl rfl rfl rfl rfl ?_); first | refine Nx.opr rfl rfl ?_ | refine Nx.so ?_ | refine Nx.sb (fun bx => ?_) | refine Nx.sa (fun A2 c2 => ?_))
        | ((with_reducible refine Nx.is_at ?_); first | refine Nx.a ?_ | ((fail_if_success refine Nx.at_do rfl rfl rfl rfl ?_); first | refine Nx.at_dec_t rfl rfl rfl rfl (by first | assumption | omega) ?_ | refine Nx.at_dec_f rfl rfl rfl rfl (by first | assumption | omega) ?_ | refine Nx.at_split rfl rfl rfl rfl (fun hc => ?_) (fun hc => ?_) | refine Nx.at_splitb rfl rfl rfl rfl (fun hc => ?_) (fun hc => ?_)))
        | ((with_reducible refine Nx.is_mix ?_); first | refine Nx.m_quiet rfl rfl rfl rfl rfl (by first | exact QRun.opr rfl | exact QRun.add_s (a := [112]) rfl rfl (by simp; omega)) ?_ | refine Nx.m_quiet_do rfl rfl rfl rfl rfl rfl rfl (by first | exact QRun.opr rfl | exact QRun.add_s (a := [112]) rfl rfl (by simp; omega)) ?_ | refine Nx.m ?_ | ((fail_if_success refine Nx.m_quiet_do rfl rfl rfl rfl rfl rfl rfl ?_ ?_); (fail_if_success refine Nx.m_loud_do rfl rfl rfl rfl rfl ?_); first | refine Nx.m_dec_t rfl rfl rfl rfl (by first | assumption | omega) ?_ | refine Nx.m_dec_f rfl rfl rfl rfl (by first | assumption | omega) ?_ | refine Nx.m_split rfl rfl rfl rfl (fun hc => ?_) (fun hc => ?_) | refine Nx.m_splitb rfl rfl rfl rfl (fun hc => ?_) (fun hc => ?_)))
        | ((fail_if_success (with_reducible refine Nx.is_at ?_)); (fail_if_success (with_reducible refine Nx.is_wp ?_)); (fail_if_success (with_reducible refine Nx.is_mix ?_)); first | refine Nx.ex ?_)
      refine Nx.forkQ2 (i := 6) (j := 9) (by kernel_rfl) rfl rfl rfl rfl ?_ ?_
      · refine Nx.call rfl rfl rfl (by kernel_rfl) rfl (Name_made b A c L k2 I hL hk2) (by (exact Ent.auto)) ?_
        rintro _ _ ⟨nm, k6, rfl, hnm, hk6, rfl⟩
        refine Nx.mix_S (Ent.nil _) ?_
        refine Nx.forkQ2 (i := 8) (j := 9) (by kernel_rfl) rfl rfl rfl rfl ?_ ?_
        · refine Nx.call rfl rfl rfl (by kernel_rfl) rfl (Next_any b A c L k6 20 I hL hk6 (by omega)) (by (exact Ent.auto)) ?_
          rintro _ _ ⟨r8, k8, rfl, hr8, hk8, rfl⟩
          refine Nx.mix_S (Ent.nil _) ?_
          refine Nx.forkQ2 (i := 9) (j := 11) (by kernel_rfl) rfl rfl rfl rfl ?_ ?_
          · refine Nx.sb (fun b9 => ?_)
            refine Nx.freezeAt 0 rfl fun I1 m1 hI1 hm1 h1 => ?_
            have hTX : SliceOf strV I1 (some ⟨b9, 0, none⟩) 4 txts := Blk.sliceOf (l := txts) hm1 h1 (by unfold maxLen; simp [txts])
            have hL1 := hL.mono hI1
            refine Nx.mix_Sle hI1 (Ent.nil _) ?_
            refine Nx.forkQ1 (i := 11) (by kernel_rfl) rfl rfl ?_
            refine Nx.call rfl rfl rfl (by kernel_rfl) rfl (Next_any b A c L k8 4 I1 hL1 hk8 (by omega)) (by (exact Ent.auto)) ?_
            rintro _ _ ⟨r11, k11, rfl, hr11, hk11, rfl⟩
            refine Nx.mix_Sle hI1 (Ent.nil _) ?_
            refine Nx.forkQ_q 12 (by kernel_rfl) ?_
            repeat' first
              | ((with_reducible refine Nx.is_wp ?_); first | refine Nx.wo ?_ | refine Nx.p_dec rfl rfl (fun hc => ?_) (fun hc => ?_) | refine Nx.p_bool rfl rfl (fun hc => ?_) (fun hc => ?_))
              | ((first | refine Nx.at_op rfl rfl ?_ | refine Nx.m_loud rfl rfl rfl ?_ | refine Nx.at_do rfl rfl rfl rfl ?_ | refine Nx.m_loud_do rfl rfl rfl rfl rfl ?_); first | refine Nx.opr rfl rfl ?_ | refine Nx.so ?_ | refine Nx.sb (fun bx => ?_) | refine Nx.sa (fun A2 c2 => ?_))
              | ((with_reducible refine Nx.is_at ?_); first | refine Nx.a ?_ | ((fail_if_success refine Nx.at_do rfl rfl rfl rfl ?_); first | refine Nx.at_dec_t rfl rfl rfl rfl (by first | assumption | omega) ?_ | refine Nx.at_dec_f rfl rfl rfl rfl (by first | assumption | omega) ?_ | refine Nx.at_split rfl rfl rfl rfl (fun hc => ?_) (fun hc => ?_) | refine Nx.at_splitb rfl rfl rfl rfl (fun hc => ?_) (fun hc => ?_)))
              | ((with_reducible refine Nx.is_mix ?_); first | refine Nx.m_quiet rfl rfl rfl rfl rfl (by first | exact QRun.opr rfl | exact QRun.idxi rfl rfl rfl rfl (by omega) (by omega) rfl) ?_ | refine Nx.m_quiet_do rfl rfl rfl rfl rfl rfl rfl (by first | exact QRun.opr rfl | exact QRun.idxi rfl rfl rfl rfl (by omega) (by omega) rfl) ?_ | refine Nx.m ?_ | ((fail_if_success refine Nx.m_quiet_do rfl rfl rfl rfl rfl rfl rfl ?_ ?_); (fail_if_success refine Nx.m_loud_do rfl rfl rfl rfl rfl ?_); first | refine Nx.m_dec_t rfl rfl rfl rfl (by first | assumption | omega) ?_ | refine Nx.m_dec_f rfl rfl rfl rfl (by first | assumption | omega) ?_ | refine Nx.m_split rfl rfl rfl rfl (fun hc => ?_) (fun hc => ?_) | refine Nx.m_splitb rfl rfl rfl rfl (fun hc => ?_) (fun hc => ?_)))
              | ((fail_if_success (with_reducible refine Nx.is_at ?_)); (fail_if_success (with_reducible refine Nx.is_wp ?_)); (fail_if_success (with_reducible refine Nx.is_mix ?_)); first | refine Nx.ex ?_)
            refine Nx.forkQ2 (i := 13) (j := 15) (by kernel_rfl) rfl rfl rfl rfl ?_ ?_
            · refine Nx.load rfl rfl rfl (hTX.rd (k := r11.toNat) (by show _ < 4; omega)) ?_
              refine Nx.mix_Sle hI1 (Ent.nil _) ?_
              refine Nx.forkQ1 (i := 15) (by kernel_rfl) rfl rfl ?_
              refine Nx.call rfl rfl rfl (by kernel_rfl) rfl (Range_any b A c L k11 1 6 I1 hL1 hk11 (by omega) (by omega)) (by (exact Ent.auto)) ?_
              rintro _ _ ⟨r15, k15, rfl, hr15, hk15, rfl⟩
              refine Nx.mix_Sle hI1 (Ent.nil _) ?_
              refine Nx.forkQ_fin (by kernel_rfl) rfl ?_
              repeat' first
                | ((with_reducible refine Nx.is_wp ?_); first | refine Nx.wo ?_ | refine Nx.p_dec rfl rfl (fun hc => ?_) (fun hc => ?_) | refine Nx.p_bool rfl rfl (fun hc => ?_) (fun hc => ?_))
                | ((first | refine Nx.at_op rfl rfl ?_ | refine Nx.m_loud rfl rfl rfl ?_ | refine Nx.at_do rfl rfl rfl rfl ?_ | refine Nx.m_loud_do rfl rfl rfl rfl rfl ?_); first | refine Nx.opr rfl rfl ?_ | (refine Nx.so ?_; refine Nx.mix_Sle hI1 (Ent.nil _) ?_) | refine Nx.so ?_ | refine Nx.sb (fun bx => ?_) | refine Nx.sa (fun A2 c2 => ?_))
                | ((with_reducible refine Nx.is_at ?_); first | refine Nx.a ?_ | ((fail_if_success refine Nx.at_do rfl rfl rfl rfl ?_); first | refine Nx.at_dec_t rfl rfl rfl rfl (by first | assumption | omega) ?_ | refine Nx.at_dec_f rfl rfl rfl rfl (by first | assumption | omega) ?_ | refine Nx.at_split rfl rfl rfl rfl (fun hc => ?_) (fun hc => ?_) | refine Nx.at_splitb rfl rfl rfl rfl (fun hc => ?_) (fun hc => ?_)))
                | ((with_reducible refine Nx.is_mix ?_); first | refine Nx.m ?_ | ((fail_if_success refine Nx.m_quiet_do rfl rfl rfl rfl rfl rfl rfl ?_ ?_); (fail_if_success refine Nx.m_loud_do rfl rfl rfl rfl rfl ?_); first | refine Nx.m_dec_t rfl rfl rfl rfl (by first | assumption | omega) ?_ | refine Nx.m_dec_f rfl rfl rfl rfl (by first | assumption | omega) ?_ | refine Nx.m_split rfl rfl rfl rfl (fun hc => ?_) (fun hc => ?_) | refine Nx.m_splitb rfl rfl rfl rfl (fun hc => ?_) (fun hc => ?_)))
                | ((fail_if_success (with_reducible refine Nx.is_at ?_)); (fail_if_success (with_reducible refine Nx.is_wp ?_)); (fail_if_success (with_reducible refine Nx.is_mix ?_)); first | refine Nx.ex ?_)
              exact Nx.imm_le hI1 (Nx.ret_cell 0 rfl rfl rfl rfl rfl rfl [CodesR b A c L k15] ⟨⟨number, 112 :: dec, nm, r8, txts.getD r11.toNat default, r15, []⟩, k15, rfl, ⟨rfl, rfl, by dsimp only; omega, by dsimp only; omega⟩, hk15, rfl⟩ (by (exact Ent.auto)))
            · refine Nx.call rfl rfl rfl (by kernel_rfl) rfl (Range_any b A c L k11 1 6 I1 hL1 hk11 (by omega) (by omega)) (by (exact Ent.auto)) ?_
              rintro _ _ ⟨r15, k15, rfl, hr15, hk15, rfl⟩
              refine Nx.mix_Sle hI1 (Ent.nil _) ?_
              refine Nx.forkQ1 (i := 13) (by kernel_rfl) rfl rfl ?_
              refine Nx.load rfl rfl rfl (hTX.rd (k := r11.toNat) (by show _ < 4; omega)) ?_
              refine Nx.mix_Sle hI1 (Ent.nil _) ?_
              refine Nx.forkQ_fin (by kernel_rfl) rfl ?_
              repeat' first
                | ((with_reducible refine Nx.is_wp ?_); first | refine Nx.wo ?_ | refine Nx.p_dec rfl rfl (fun hc => ?_) (fun hc => ?_) | refine Nx.p_bool rfl rfl (fun hc => ?_) (fun hc => ?_))
                | ((first | refine Nx.at_op rfl rfl ?_ | refine Nx.m_loud rfl rfl rfl ?_ | refine Nx.at_do rfl rfl rfl rfl ?_ | refine Nx.m_loud_do rfl rfl rfl rfl rfl ?_); first | refine Nx.opr rfl rfl ?_ | (refine Nx.so ?_; refine Nx.mix_Sle hI1 (Ent.nil _) ?_) | refine Nx.so ?_ | refine Nx.sb (fun bx => ?_) | refine Nx.sa (fun A2 c2 => ?_))
                | ((with_reducible refine Nx.is_at ?_); first | refine Nx.a ?_ | ((fail_if_success refine Nx.at_do rfl rfl rfl rfl ?_); first | refine Nx.at_dec_t rfl rfl rfl rfl (by first | assumption | omega) ?_ | refine Nx.at_dec_f rfl rfl rfl rfl (by first | assumption | omega) ?_ | refine Nx.at_split rfl rfl rfl rfl (fun hc => ?_) (fun hc => ?_) | refine Nx.at_splitb rfl rfl rfl rfl (fun hc => ?_) (fun hc => ?_)))
                | ((with_reducible refine Nx.is_mix ?_); first | refine Nx.m ?_ | ((fail_if_success refine Nx.m_quiet_do rfl rfl rfl rfl rfl rfl rfl ?_ ?_); (fail_if_success refine Nx.m_loud_do rfl rfl rfl rfl rfl ?_); first | refine Nx.m_dec_t rfl rfl rfl rfl (by first | assumption | omega) ?_ | refine Nx.m_dec_f rfl rfl rfl rfl (by first | assumption | omega) ?_ | refine Nx.m_split rfl rfl rfl rfl (fun hc => ?_) (fun hc => ?_) | refine Nx.m_splitb rfl rfl rfl rfl (fun hc => ?_) (fun hc => ?_)))
                | ((fail_if_success (with_reducible refine Nx.is_at ?_)); (fail_if_success (with_reducible refine Nx.is_wp ?_)); (fail_if_success (with_reducible refine Nx.is_mix ?_)); first | refine Nx.ex ?_)
              exact Nx.imm_le hI1 (Nx.ret_cell 0 rfl rfl rfl rfl rfl rfl [CodesR b A c L k15] ⟨⟨number, 112 :: dec, nm, r8, txts.getD r11.toNat default, r15, []⟩, k15, rfl, ⟨rfl, rfl, by dsimp only; omega, by dsimp only; omega⟩, hk15, rfl⟩ (by (exact Ent.auto)))
          · refine Nx.call rfl rfl rfl (by kernel_rfl) rfl (Next_any b A c L k8 4 I hL hk8 (by omega)) (by (exact Ent.auto)) ?_
            rintro _ _ ⟨r11, k11, rfl, hr11, hk11, rfl⟩
            refine Nx.mix_S (Ent.nil _) ?_
            refine Nx.forkQ2 (i := 9) (j := 15) (by kernel_rfl) rfl rfl rfl rfl ?_ ?_
            · refine Nx.sb (fun b9 => ?_)
              refine Nx.freezeAt 0 rfl fun I1 m1 hI1 hm1 h1 => ?_
              have hTX : SliceOf strV I1 (some ⟨b9, 0, none⟩) 4 txts := Blk.sliceOf (l := txts) hm1 h1 (by unfold maxLen; simp [txts])
              have hL1 := hL.mono hI1
              refine Nx.mix_Sle hI1 (Ent.nil _) ?_
              refine Nx.forkQ_q 12 (by kernel_rfl) ?_
              repeat' first
                | ((with_reducible refine Nx.is_wp ?_); first | refine Nx.wo ?_ | refine Nx.p_dec rfl rfl (fun hc => ?_) (fun hc => ?_) | refine Nx.p_bool rfl rfl (fun hc => ?_) (fun hc => ?_))
                | ((first | refine Nx.at_op rfl rfl ?_ | refine Nx.m_loud rfl rfl rfl ?_ | refine Nx.at_do rfl rfl rfl rfl ?_ | refine Nx.m_loud_do rfl rfl rfl rfl rfl ?_); first | refine Nx.opr rfl rfl ?_ | refine Nx.so ?_ | refine Nx.sb (fun bx => ?_) | refine Nx.sa (fun A2 c2 => ?_))
                | ((with_reducible refine Nx.is_at ?_); first | refine Nx.a ?_ | ((fail_if_success refine Nx.at_do rfl rfl rfl rfl ?_); first | refine Nx.at_dec_t rfl rfl rfl rfl (by first | assumption | omega) ?_ | refine Nx.at_dec_f rfl rfl rfl rfl (by first | assumption | omega) ?_ | refine Nx.at_split rfl rfl rfl rfl (fun hc => ?_) (fun hc => ?_) | refine Nx.at_splitb rfl rfl rfl rfl (fun hc => ?_) (fun hc => ?_)))
                | ((with_reducible refine Nx.is_mix ?_); first | refine Nx.m_quiet rfl rfl rfl rfl rfl (by first | exact QRun.opr rfl | exact QRun.idxi rfl rfl rfl rfl (by omega) (by omega) rfl) ?_ | refine Nx.m_quiet_do rfl rfl rfl rfl rfl rfl rfl (by first | exact QRun.opr rfl | exact QRun.idxi rfl rfl rfl rfl (by omega) (by omega) rfl) ?_ | refine Nx.m ?_ | ((fail_if_success refine Nx.m_quiet_do rfl rfl rfl rfl rfl rfl rfl ?_ ?_); (fail_if_success refine Nx.m_loud_do rfl rfl rfl rfl rfl ?_); first | refine Nx.m_dec_t rfl rfl rfl rfl (by first | assumption | omega) ?_ | refine Nx.m_dec_f rfl rfl rfl rfl (by first | assumption | omega) ?_ | refine Nx.m_split rfl rfl rfl rfl (fun hc => ?_) (fun hc => ?_) | refine Nx.m_splitb rfl rfl rfl rfl (fun hc => ?_) (fun hc => ?_)))
                | ((fail_if_success (with_reducible refine Nx.is_at ?_)); (fail_if_success (with_reducible refine Nx.is_wp ?_)); (fail_if_success (with_reducible refine Nx.is_mix ?_)); first | refine Nx.ex ?_)
              refine Nx.forkQ2 (i := 13) (j := 15) (by kernel_rfl) rfl rfl rfl rfl ?_ ?_
              · refine Nx.load rfl rfl rfl (hTX.rd (k := r11.toNat) (by show _ < 4; omega)) ?_
                refine Nx.mix_Sle hI1 (Ent.nil _) ?_
                refine Nx.forkQ1 (i := 15) (by kernel_rfl) rfl rfl ?_
                refine Nx.call rfl rfl rfl (by kernel_rfl) rfl (Range_any b A c L k11 1 6 I1 hL1 hk11 (by omega) (by omega)) (by (exact Ent.auto)) ?_
                rintro _ _ ⟨r15, k15, rfl, hr15, hk15, rfl⟩
                refine Nx.mix_Sle hI1 (Ent.nil _) ?_
                refine Nx.forkQ_fin (by kernel_rfl) rfl ?_
                repeat' first
                  | ((with_reducible refine Nx.is_wp ?_); first | refine Nx.wo ?_ | refine Nx.p_dec rfl rfl (fun hc => ?_) (fun hc => ?_) | refine Nx.p_bool rfl rfl (fun hc => ?_) (fun hc => ?_))
                  | ((first | refine Nx.at_op rfl rfl ?_ | refine Nx.m_loud rfl rfl rfl ?_ | refine Nx.at_do rfl rfl rfl rfl ?_ | refine Nx.m_loud_do rfl rfl rfl rfl rfl ?_); first | refine Nx.opr rfl rfl ?_ | (refine Nx.so ?_; refine Nx.mix_Sle hI1 (Ent.nil _) ?_) | refine Nx.so ?_ | refine Nx.sb (fun bx => ?_) | refine Nx.sa (fun A2 c2 => ?_))
                  | ((with_reducible refine Nx.is_at ?_); first | refine Nx.a ?_ | ((fail_if_success refine Nx.at_do rfl rfl rfl rfl ?_); first | refine Nx.at_dec_t rfl rfl rfl rfl (by first | assumption | omega) ?_ | refine Nx.at_dec_f rfl rfl rfl rfl (by first | assumption | omega) ?_ | refine Nx.at_split rfl rfl rfl rfl (fun hc => ?_) (fun hc => ?_) | refine Nx.at_splitb rfl rfl rfl rfl (fun hc => ?_) (fun hc => ?_)))
                  | ((with_reducible refine Nx.is_mix ?_); first | refine Nx.m ?_ | ((fail_if_success refine Nx.m_quiet_do rfl rfl rfl rfl rfl rfl rfl ?_ ?_); (fail_if_success refine Nx.m_loud_do rfl rfl rfl rfl rfl ?_); first | refine Nx.m_dec_t rfl rfl rfl rfl (by first | assumption | omega) ?_ | refine Nx.m_dec_f rfl rfl rfl rfl (by first | assumption | omega) ?_ | refine Nx.m_split rfl rfl rfl rfl (fun hc => ?_) (fun hc => ?_) | refine Nx.m_splitb rfl rfl rfl rfl (fun hc => ?_) (fun hc => ?_)))
                  | ((fail_if_success (with_reducible refine Nx.is_at ?_)); (fail_if_success (with_reducible refine Nx.is_wp ?_)); (fail_if_success (with_reducible refine Nx.is_mix ?_)); first | refine Nx.ex ?_)
                exact Nx.imm_le hI1 (Nx.ret_cell 0 rfl rfl rfl rfl rfl rfl [CodesR b A c L k15] ⟨⟨number, 112 :: dec, nm, r8, txts.getD r11.toNat default, r15, []⟩, k15, rfl, ⟨rfl, rfl, by dsimp only; omega, by dsimp only; omega⟩, hk15, rfl⟩ (by (exact Ent.auto)))
              · refine Nx.call rfl rfl rfl (by kernel_rfl) rfl (Range_any b A c L k11 1 6 I1 hL1 hk11 (by omega) (by omega)) (by (exact Ent.auto)) ?_
                rintro _ _ ⟨r15, k15, rfl, hr15, hk15, rfl⟩
                refine Nx.mix_Sle hI1 (Ent.nil _) ?_
                refine Nx.forkQ1 (i := 13) (by kernel_rfl) rfl rfl ?_
                refine Nx.load rfl rfl rfl (hTX.rd (k := r11.toNat) (by show _ < 4; omega)) ?_
                refine Nx.mix_Sle hI1 (Ent.nil _) ?_
                refine Nx.forkQ_fin (by kernel_rfl) rfl ?_
                repeat' first
                  | ((with_reducible refine Nx.is_wp ?_); first | refine Nx.wo ?_ | refine Nx.p_dec rfl rfl (fun hc => ?_) (fun hc => ?_) | refine Nx.p_bool rfl rfl (fun hc => ?_) (fun hc => ?_))
                  | ((first | refine Nx.at_op rfl rfl ?_ | refine Nx.m_loud rfl rfl rfl ?_ | refine Nx.at_do rfl rfl rfl rfl ?_ | refine Nx.m_loud_do rfl rfl rfl rfl rfl ?_); first | refine Nx.opr rfl rfl ?_ | (refine Nx.so ?_; refine Nx.mix_Sle hI1 (Ent.nil _) ?_) | refine Nx.so ?_ | refine Nx.sb (fun bx => ?_) | refine Nx.sa (fun A2 c2 => ?_))
                  | ((with_reducible refine Nx.is_at ?_); first | refine Nx.a ?_ | ((fail_if_success refine Nx.at_do rfl rfl rfl rfl ?_); first | refine Nx.at_dec_t rfl rfl rfl rfl (by first | assumption | omega) ?_ | refine Nx.at_dec_f rfl rfl rfl rfl (by first | assumption | omega) ?_ | refine Nx.at_split rfl rfl rfl rfl (fun hc => ?_) (fun hc => ?_) | refine Nx.at_splitb rfl rfl rfl rfl (fun hc => ?_) (fun hc => ?_)))
                  | ((with_reducible refine Nx.is_mix ?_); first | refine Nx.m ?_ | ((fail_if_success refine Nx.m_quiet_do rfl rfl rfl rfl rfl rfl rfl ?_ ?_); (fail_if_success refine Nx.m_loud_do rfl rfl rfl rfl rfl ?_); first | refine Nx.m_dec_t rfl rfl rfl rfl (by first | assumption | omega) ?_ | refine Nx.m_dec_f rfl rfl rfl rfl (by first | assumption | omega) ?_ | refine Nx.m_split rfl rfl rfl rfl (fun hc => ?_) (fun hc => ?_) | refine Nx.m_splitb rfl rfl rfl rfl (fun hc => ?_) (fun hc => ?_)))
                  | ((fail_if_success (with_reducible refine Nx.is_at ?_)); (fail_if_success (with_reducible refine Nx.is_wp ?_)); (fail_if_success (with_reducible refine Nx.is_mix ?_)); first | refine Nx.ex ?_)
                exact Nx.imm_le hI1 (Nx.ret_cell 0 rfl rfl rfl rfl rfl rfl [CodesR b A c L k15] ⟨⟨number, 112 :: dec, nm, r8, txts.getD r11.toNat default, r15, []⟩, k15, rfl, ⟨rfl, rfl, by dsimp only; omega, by dsimp only; omega⟩, hk15, rfl⟩ (by (exact Ent.auto)))
            · refine Nx.call rfl rfl rfl (by kernel_rfl) rfl (Range_any b A c L k11 1 6 I hL hk11 (by omega) (by omega)) (by (exact Ent.auto)) ?_
              rintro _ _ ⟨r15, k15, rfl, hr15, hk15, rfl⟩
              refine Nx.mix_S (Ent.nil _) ?_
              refine Nx.forkQ1 (i := 9) (by kernel_rfl) rfl rfl ?_
              refine Nx.sb (fun b9 => ?_)
              refine Nx.freezeAt 0 rfl fun I1 m1 hI1 hm1 h1 => ?_
              have hTX : SliceOf strV I1 (some ⟨b9, 0, none⟩) 4 txts := Blk.sliceOf (l := txts) hm1 h1 (by unfold maxLen; simp [txts])
              have hL1 := hL.mono hI1
              refine Nx.mix_Sle hI1 (Ent.nil _) ?_
              refine Nx.forkQ_q 12 (by kernel_rfl) ?_
              repeat' first
                | ((with_reducible refine Nx.is_wp ?_); first | refine Nx.wo ?_ | refine Nx.p_dec rfl rfl (fun hc => ?_) (fun hc => ?_) | refine Nx.p_bool rfl rfl (fun hc => ?_) (fun hc => ?_))
                | ((first | refine Nx.at_op rfl rfl ?_ | refine Nx.m_loud rfl rfl rfl ?_ | refine Nx.at_do rfl rfl rfl rfl ?_ | refine Nx.m_loud_do rfl rfl rfl rfl rfl ?_); first | refine Nx.opr rfl rfl ?_ | refine Nx.so ?_ | refine Nx.sb (fun bx => ?_) | refine Nx.sa (fun A2 c2 => ?_))
                | ((with_reducible refine Nx.is_at ?_); first | refine Nx.a ?_ | ((fail_if_success refine Nx.at_do rfl rfl rfl rfl ?_); first | refine Nx.at_dec_t rfl rfl rfl rfl (by first | assumption | omega) ?_ | refine Nx.at_dec_f rfl rfl rfl rfl (by first | assumption | omega) ?_ | refine Nx.at_split rfl rfl rfl rfl (fun hc => ?_) (fun hc => ?_) | refine Nx.at_splitb rfl rfl rfl rfl (fun hc => ?_) (fun hc => ?_)))
                | ((with_reducible refine Nx.is_mix ?_); first | refine Nx.m_quiet rfl rfl rfl rfl rfl (by first | exact QRun.opr rfl | exact QRun.idxi rfl rfl rfl rfl (by omega) (by omega) rfl) ?_ | refine Nx.m_quiet_do rfl rfl rfl rfl rfl rfl rfl (by first | exact QRun.opr rfl | exact QRun.idxi rfl rfl rfl rfl (by omega) (by omega) rfl) ?_ | refine Nx.m ?_ | ((fail_if_success refine Nx.m_quiet_do rfl rfl rfl rfl rfl rfl rfl ?_ ?_); (fail_if_success refine Nx.m_loud_do rfl rfl rfl rfl rfl ?_); first | refine Nx.m_dec_t rfl rfl rfl rfl (by first | assumption | omega) ?_ | refine Nx.m_dec_f rfl rfl rfl rfl (by first | assumption | omega) ?_ | refine Nx.m_split rfl rfl rfl rfl (fun hc => ?_) (fun hc => ?_) | refine Nx.m_splitb rfl rfl rfl rfl (fun hc => ?_) (fun hc => ?_)))
                | ((fail_if_success (with_reducible refine Nx.is_at ?_)); (fail_if_success (with_reducible refine Nx.is_wp ?_)); (fail_if_success (with_reducible refine Nx.is_mix ?_)); first | refine Nx.ex ?_)
              refine Nx.forkQ1 (i := 13) (by kernel_rfl) rfl rfl ?_
              refine Nx.load rfl rfl rfl (hTX.rd (k := r11.toNat) (by show _ < 4; omega)) ?_
              refine Nx.mix_Sle hI1 (Ent.nil _) ?_
              refine Nx.forkQ_fin (by kernel_rfl) rfl ?_
              repeat' first
                | ((with_reducible refine Nx.is_wp ?_); first | refine Nx.wo ?_ | refine Nx.p_dec rfl rfl (fun hc => ?_) (fun hc => ?_) | refine Nx.p_bool rfl rfl (fun hc => ?_) (fun hc => ?_))
                | ((first | refine Nx.at_op rfl rfl ?_ | refine Nx.m_loud rfl rfl rfl ?_ | refine Nx.at_do rfl rfl rfl rfl ?_ | refine Nx.m_loud_do rfl rfl rfl rfl rfl ?_); first | refine Nx.opr rfl rfl ?_ | (refine Nx.so ?_; refine Nx.mix_Sle hI1 (Ent.nil _) ?_) | refine Nx.so ?_ | refine Nx.sb (fun bx => ?_) | refine Nx.sa (fun A2 c2 => ?_))
                | ((with_reducible refine Nx.is_at ?_); first | refine Nx.a ?_ | ((fail_if_success refine Nx.at_do rfl rfl rfl rfl ?_); first | refine Nx.at_dec_t rfl rfl rfl rfl (by first | assumption | omega) ?_ | refine Nx.at_dec_f rfl rfl rfl rfl (by first | assumption | omega) ?_ | refine Nx.at_split rfl rfl rfl rfl (fun hc => ?_) (fun hc => ?_) | refine Nx.at_splitb rfl rfl rfl rfl (fun hc => ?_) (fun hc => ?_)))
                | ((with_reducible refine Nx.is_mix ?_); first | refine Nx.m ?_ | ((fail_if_success refine Nx.m_quiet_do rfl rfl rfl rfl rfl rfl rfl ?_ ?_); (fail_if_success refine Nx.m_loud_do rfl rfl rfl rfl rfl ?_); first | refine Nx.m_dec_t rfl rfl rfl rfl (by first | assumption | omega) ?_ | refine Nx.m_dec_f rfl rfl rfl rfl (by first | assumption | omega) ?_ | refine Nx.m_split rfl rfl rfl rfl (fun hc => ?_) (fun hc => ?_) | refine Nx.m_splitb rfl rfl rfl rfl (fun hc => ?_) (fun hc => ?_)))
                | ((fail_if_success (with_reducible refine Nx.is_at ?_)); (fail_if_success (with_reducible refine Nx.is_wp ?_)); (fail_if_success (with_reducible refine Nx.is_mix ?_)); first | refine Nx.ex ?_)
              exact Nx.imm_le hI1 (Nx.ret_cell 0 rfl rfl rfl rfl rfl rfl [CodesR b A c L k15] ⟨⟨number, 112 :: dec, nm, r8, txts.getD r11.toNat default, r15, []⟩, k15, rfl, ⟨rfl, rfl, by dsimp only; omega, by dsimp only; omega⟩, hk15, rfl⟩ (by (exact Ent.auto)))
        · refine Nx.sb (fun b9 => ?_)
          refine Nx.freezeAt 0 rfl fun I1 m1 hI1 hm1 h1 => ?_
          have hTX : SliceOf strV I1 (some ⟨b9, 0, none⟩) 4 txts := Blk.sliceOf (l := txts) hm1 h1 (by unfold maxLen; simp [txts])
          have hL1 := hL.mono hI1
          refine Nx.mix_Sle hI1 (Ent.nil _) ?_
          refine Nx.forkQ1 (i := 8) (by kernel_rfl) rfl rfl ?_
          refine Nx.call rfl rfl rfl (by kernel_rfl) rfl (Next_any b A c L k6 20 I1 hL1 hk6 (by omega)) (by (exact Ent.auto)) ?_
          rintro _ _ ⟨r8, k8, rfl, hr8, hk8, rfl⟩
          refine Nx.mix_Sle hI1 (Ent.nil _) ?_
          refine Nx.forkQ1 (i := 11) (by kernel_rfl) rfl rfl ?_
          refine Nx.call rfl rfl rfl (by kernel_rfl) rfl (Next_any b A c L k8 4 I1 hL1 hk8 (by omega)) (by (exact Ent.auto)) ?_
          rintro _ _ ⟨r11, k11, rfl, hr11, hk11, rfl⟩
          refine Nx.mix_Sle hI1 (Ent.nil _) ?_
          refine Nx.forkQ_q 12 (by kernel_rfl) ?_
          repeat' first
            | ((with_reducible refine Nx.is_wp ?_); first | refine Nx.wo ?_ | refine Nx.p_dec rfl rfl (fun hc => ?_) (fun hc => ?_) | refine Nx.p_bool rfl rfl (fun hc => ?_) (fun hc => ?_))
            | ((first | refine Nx.at_op rfl rfl ?_ | refine Nx.m_loud rfl rfl rfl ?_ | refine Nx.at_do rfl rfl rfl rfl ?_ | refine Nx.m_loud_do rfl rfl rfl rfl rfl ?_); first | refine Nx.opr rfl rfl ?_ | refine Nx.so ?_ | refine Nx.sb (fun bx => ?_) | refine Nx.sa (fun A2 c2 => ?_))
            | ((with_reducible refine Nx.is_at ?_); first | refine Nx.a ?_ | ((fail_if_success refine Nx.at_do rfl rfl rfl rfl ?_); first | refine Nx.at_dec_t rfl rfl rfl rfl (by first | assumption | omega) ?_ | refine Nx.at_dec_f rfl rfl rfl rfl (by first | assumption | omega) ?_ | refine Nx.at_split rfl rfl rfl rfl (fun hc => ?_) (fun hc => ?_) | refine Nx.at_splitb rfl rfl rfl rfl (fun hc => ?_) (fun hc => ?_)))
            | ((with_reducible refine Nx.is_mix ?_); first | refine Nx.m_quiet rfl rfl rfl rfl rfl (by first | exact QRun.opr rfl | exact QRun.idxi rfl rfl rfl rfl (by omega) (by omega) rfl) ?_ | refine Nx.m_quiet_do rfl rfl rfl rfl rfl rfl rfl (by first | exact QRun.opr rfl | exact QRun.idxi rfl rfl rfl rfl (by omega) (by omega) rfl) ?_ | refine Nx.m ?_ | ((fail_if_success refine Nx.m_quiet_do rfl rfl rfl rfl rfl rfl rfl ?_ ?_); (fail_if_success refine Nx.m_loud_do rfl rfl rfl rfl rfl ?_); first | refine Nx.m_dec_t rfl rfl rfl rfl (by first | assumption | omega) ?_ | refine Nx.m_dec_f rfl rfl rfl rfl (by first | assumption | omega) ?_ | refine Nx.m_split rfl rfl rfl rfl (fun hc => ?_) (fun hc => ?_) | refine Nx.m_splitb rfl rfl rfl rfl (fun hc => ?_) (fun hc => ?_)))
            | ((fail_if_success (with_reducible refine Nx.is_at ?_)); (fail_if_success (with_reducible refine Nx.is_wp ?_)); (fail_if_success (with_reducible refine Nx.is_mix ?_)); first | refine Nx.ex ?_)
          refine Nx.forkQ2 (i := 13) (j := 15) (by kernel_rfl) rfl rfl rfl rfl ?_ ?_
          · refine Nx.load rfl rfl rfl (hTX.rd (k := r11.toNat) (by show _ < 4; omega)) ?_
            refine Nx.mix_Sle hI1 (Ent.nil _) ?_
            refine Nx.forkQ1 (i := 15) (by kernel_rfl) rfl rfl ?_
            refine Nx.call rfl rfl rfl (by kernel_rfl) rfl (Range_any b A c L k11 1 6 I1 hL1 hk11 (by omega) (by omega)) (by (exact Ent.auto)) ?_
            rintro _ _ ⟨r15, k15, rfl, hr15, hk15, rfl⟩
            refine Nx.mix_Sle hI1 (Ent.nil _) ?_
            refine Nx.forkQ_fin (by kernel_rfl) rfl ?_
            repeat' first
              | ((with_reducible refine Nx.is_wp ?_); first | refine Nx.wo ?_ | refine Nx.p_dec rfl rfl (fun hc => ?_) (fun hc => ?_) | refine Nx.p_bool rfl rfl (fun hc => ?_) (fun hc => ?_))
              | ((first | refine Nx.at_op rfl rfl ?_ | refine Nx.m_loud rfl rfl rfl ?_ | refine Nx.at_do rfl rfl rfl rfl ?_ | refine Nx.m_loud_do rfl rfl rfl rfl rfl ?_); first | refine Nx.opr rfl rfl ?_ | (refine Nx.so ?_; refine Nx.mix_Sle hI1 (Ent.nil _) ?_) | refine Nx.so ?_ | refine Nx.sb (fun bx => ?_) | refine Nx.sa (fun A2 c2 => ?_))
              | ((with_reducible refine Nx.is_at ?_); first | refine Nx.a ?_ | ((fail_if_success refine Nx.at_do rfl rfl rfl rfl ?_); first | refine Nx.at_dec_t rfl rfl rfl rfl (by first | assumption | omega) ?_ | refine Nx.at_dec_f rfl rfl rfl rfl (by first | assumption | omega) ?_ | refine Nx.at_split rfl rfl rfl rfl (fun hc => ?_) (fun hc => ?_) | refine Nx.at_splitb rfl rfl rfl rfl (fun hc => ?_) (fun hc => ?_)))
              | ((with_reducible refine Nx.is_mix ?_); first | refine Nx.m ?_ | ((fail_if_success refine Nx.m_quiet_do rfl rfl rfl rfl rfl rfl rfl ?_ ?_); (fail_if_success refine Nx.m_loud_do rfl rfl rfl rfl rfl ?_); first | refine Nx.m_dec_t rfl rfl rfl rfl (by first | assumption | omega) ?_ | refine Nx.m_dec_f rfl rfl rfl rfl (by first | assumption | omega) ?_ | refine Nx.m_split rfl rfl rfl rfl (fun hc => ?_) (fun hc => ?_) | refine Nx.m_splitb rfl rfl rfl rfl (fun hc => ?_) (fun hc => ?_)))
              | ((fail_if_success (with_reducible refine Nx.is_at ?_)); (fail_if_success (with_reducible refine Nx.is_wp ?_)); (fail_if_success (with_reducible refine Nx.is_mix ?_)); first | refine Nx.ex ?_)
            exact Nx.imm_le hI1 (Nx.ret_cell 0 rfl rfl rfl rfl rfl rfl [CodesR b A c L k15] ⟨⟨number, 112 :: dec, nm, r8, txts.getD r11.toNat default, r15, []⟩, k15, rfl, ⟨rfl, rfl, by dsimp only; omega, by dsimp only; omega⟩, hk15, rfl⟩ (by (exact Ent.auto)))
          · refine Nx.call rfl rfl rfl (by kernel_rfl) rfl (Range_any b A c L k11 1 6 I1 hL1 hk11 (by omega) (by omega)) (by (exact Ent.auto)) ?_
            rintro _ _ ⟨r15, k15, rfl, hr15, hk15, rfl⟩
            refine Nx.mix_Sle hI1 (Ent.nil _) ?_
            refine Nx.forkQ1 (i := 13) (by kernel_rfl) rfl rfl ?_
            refine Nx.load rfl rfl rfl (hTX.rd (k := r11.toNat) (by show _ < 4; omega)) ?_
            refine Nx.mix_Sle hI1 (Ent.nil _) ?_
            refine Nx.forkQ_fin (by kernel_rfl) rfl ?_
            repeat' first
              | ((with_reducible refine Nx.is_wp ?_); first | refine Nx.wo ?_ | refine Nx.p_dec rfl rfl (fun hc => ?_) (fun hc => ?_) | refine Nx.p_bool rfl rfl (fun hc => ?_) (fun hc => ?_))
              | ((first | refine Nx.at_op rfl rfl ?_ | refine Nx.m_loud rfl rfl rfl ?_ | refine Nx.at_do rfl rfl rfl rfl ?_ | refine Nx.m_loud_do rfl rfl rfl rfl rfl ?_); first | refine Nx.opr rfl rfl ?_ | (refine Nx.so ?_; refine Nx.mix_Sle hI1 (Ent.nil _) ?_) | refine Nx.so ?_ | refine Nx.sb (fun bx => ?_) | refine Nx.sa (fun A2 c2 => ?_))
              | ((with_reducible refine Nx.is_at ?_); first | refine Nx.a ?_ | ((fail_if_success refine Nx.at_do rfl rfl rfl rfl ?_); first | refine Nx.at_dec_t rfl rfl rfl rfl (by first | assumption | omega) ?_ | refine Nx.at_dec_f rfl rfl rfl rfl (by first | assumption | omega) ?_ | refine Nx.at_split rfl rfl rfl rfl (fun hc => ?_) (fun hc => ?_) | refine Nx.at_splitb rfl rfl rfl rfl (fun hc => ?_) (fun hc => ?_)))
              | ((with_reducible refine Nx.is_mix ?_); first | refine Nx.m ?_ | ((fail_if_success refine Nx.m_quiet_do rfl rfl rfl rfl rfl rfl rfl ?_ ?_); (fail_if_success refine Nx.m_loud_do rfl rfl rfl rfl rfl ?_); first | refine Nx.m_dec_t rfl rfl rfl rfl (by first | assumption | omega) ?_ | refine Nx.m_dec_f rfl rfl rfl rfl (by first | assumption | omega) ?_ | refine Nx.m_split rfl rfl rfl rfl (fun hc => ?_) (fun hc => ?_) | refine Nx.m_splitb rfl rfl rfl rfl (fun hc => ?_) (fun hc => ?_)))
              | ((fail_if_success (with_reducible refine Nx.is_at ?_)); (fail_if_success (with_reducible refine Nx.is_wp ?_)); (fail_if_success (with_reducible refine Nx.is_mix ?_)); first | refine Nx.ex ?_)
            exact Nx.imm_le hI1 (Nx.ret_cell 0 rfl rfl rfl rfl rfl rfl [CodesR b A c L k15] ⟨⟨number, 112 :: dec, nm, r8, txts.getD r11.toNat default, r15, []⟩, k15, rfl, ⟨rfl, rfl, by dsimp only; omega, by dsimp only; omega⟩, hk15, rfl⟩ (by (exact Ent.auto)))
      · refine Nx.sb (fun b9 => ?_)
        refine Nx.freezeAt 0 rfl fun I1 m1 hI1 hm1 h1 => ?_
        have hTX : SliceOf strV I1 (some ⟨b9, 0, none⟩) 4 txts := Blk.sliceOf (l := txts) hm1 h1 (by unfold maxLen; simp [txts])
        have hL1 := hL.mono hI1
        refine Nx.mix_Sle hI1 (Ent.nil _) ?_
        refine Nx.forkQ1 (i := 6) (by kernel_rfl) rfl rfl ?_
        refine Nx.call rfl rfl rfl (by kernel_rfl) rfl (Name_made b A c L k2 I1 hL1 hk2) (by (exact Ent.auto)) ?_
        rintro _ _ ⟨nm, k6, rfl, hnm, hk6, rfl⟩
        refine Nx.mix_Sle hI1 (Ent.nil _) ?_
        refine Nx.forkQ1 (i := 8) (by kernel_rfl) rfl rfl ?_
        refine Nx.call rfl rfl rfl (by kernel_rfl) rfl (Next_any b A c L k6 20 I1 hL1 hk6 (by omega)) (by (exact Ent.auto)) ?_
        rintro _ _ ⟨r8, k8, rfl, hr8, hk8, rfl⟩
        refine Nx.mix_Sle hI1 (Ent.nil _) ?_
        refine Nx.forkQ1 (i := 11) (by kernel_rfl) rfl rfl ?_
        refine Nx.call rfl rfl rfl (by kernel_rfl) rfl (Next_any b A c L k8 4 I1 hL1 hk8 (by omega)) (by (exact Ent.auto)) ?_
        rintro _ _ ⟨r11, k11, rfl, hr11, hk11, rfl⟩
        refine Nx.mix_Sle hI1 (Ent.nil _) ?_
        refine Nx.forkQ_q 12 (by kernel_rfl) ?_
        repeat' first
          | ((with_reducible refine Nx.is_wp ?_); first | refine Nx.wo ?_ | refine Nx.p_dec rfl rfl (fun hc => ?_) (fun hc => ?_) | refine Nx.p_bool rfl rfl (fun hc => ?_) (fun hc => ?_))
          | ((first | refine Nx.at_op rfl rfl ?_ | refine Nx.m_loud rfl rfl rfl ?_ | refine Nx.at_do rfl rfl rfl rfl ?_ | refine Nx.m_loud_do rfl rfl rfl rfl rfl ?_); first | refine Nx.opr rfl rfl ?_ | refine Nx.so ?_ | refine Nx.sb (fun bx => ?_) | refine Nx.sa (fun A2 c2 => ?_))
          | ((with_reducible refine Nx.is_at ?_); first | refine Nx.a ?_ | ((fail_if_success refine Nx.at_do rfl rfl rfl rfl ?_); first | refine Nx.at_dec_t rfl rfl rfl rfl (by first | assumption | omega) ?_ | refine Nx.at_dec_f rfl rfl rfl rfl (by first | assumption | omega) ?_ | refine Nx.at_split rfl rfl rfl rfl (fun hc => ?_) (fun hc => ?_) | refine Nx.at_splitb rfl rfl rfl rfl (fun hc => ?_) (fun hc => ?_)))
          | ((with_reducible refine Nx.is_mix ?_); first | refine Nx.m_quiet rfl rfl rfl rfl rfl (by first | exact QRun.opr rfl | exact QRun.idxi rfl rfl rfl rfl (by omega) (by omega) rfl) ?_ | refine Nx.m_quiet_do rfl rfl rfl rfl rfl rfl rfl (by first | exact QRun.opr rfl | exact QRun.idxi rfl rfl rfl rfl (by omega) (by omega) rfl) ?_ | refine Nx.m ?_ | ((fail_if_success refine Nx.m_quiet_do rfl rfl rfl rfl rfl rfl rfl ?_ ?_); (fail_if_success refine Nx.m_loud_do rfl rfl rfl rfl rfl ?_); first | refine Nx.m_dec_t rfl rfl rfl rfl (by first | assumption | omega) ?_ | refine Nx.m_dec_f rfl rfl rfl rfl (by first | assumption | omega) ?_ | refine Nx.m_split rfl rfl rfl rfl (fun hc => ?_) (fun hc => ?_) | refine Nx.m_splitb rfl rfl rfl rfl (fun hc => ?_) (fun hc => ?_)))
          | ((fail_if_success (with_reducible refine Nx.is_at ?_)); (fail_if_success (with_reducible refine Nx.is_wp ?_)); (fail_if_success (with_reducible refine Nx.is_mix ?_)); first | refine Nx.ex ?_)
        refine Nx.forkQ2 (i := 13) (j := 15) (by kernel_rfl) rfl rfl rfl rfl ?_ ?_
        · refine Nx.load rfl rfl rfl (hTX.rd (k := r11.toNat) (by show _ < 4; omega)) ?_
          refine Nx.mix_Sle hI1 (Ent.nil _) ?_
          refine Nx.forkQ1 (i := 15) (by kernel_rfl) rfl rfl ?_
          refine Nx.call rfl rfl rfl (by kernel_rfl) rfl (Range_any b A c L k11 1 6 I1 hL1 hk11 (by omega) (by omega)) (by (exact Ent.auto)) ?_
          rintro _ _ ⟨r15, k15, rfl, hr15, hk15, rfl⟩
          refine Nx.mix_Sle hI1 (Ent.nil _) ?_
          refine Nx.forkQ_fin (by kernel_rfl) rfl ?_
          repeat' first
            | ((with_reducible refine Nx.is_wp ?_); first | refine Nx.wo ?_ | refine Nx.p_dec rfl rfl (fun hc => ?_) (fun hc => ?_) | refine Nx.p_bool rfl rfl (fun hc => ?_) (fun hc => ?_))
            | ((first | refine Nx.at_op rfl rfl ?_ | refine Nx.m_loud rfl rfl rfl ?_ | refine Nx.at_do rfl rfl rfl rfl ?_ | refine Nx.m_loud_do rfl rfl rfl rfl rfl ?_); first | refine Nx.opr rfl rfl ?_ | (refine Nx.so ?_; refine Nx.mix_Sle hI1 (Ent.nil _) ?_) | refine Nx.so ?_ | refine Nx.sb (fun bx => ?_) | refine Nx.sa (fun A2 c2 => ?_))
            | ((with_reducible refine Nx.is_at ?_); first | refine Nx.a ?_ | ((fail_if_success refine Nx.at_do rfl rfl rfl rfl ?_); first | refine Nx.at_dec_t rfl rfl rfl rfl (by first | assumption | omega) ?_ | refine Nx.at_dec_f rfl rfl rfl rfl (by first | assumption | omega) ?_ | refine Nx.at_split rfl rfl rfl rfl (fun hc => ?_) (fun hc => ?_) | refine Nx.at_splitb rfl rfl rfl rfl (fun hc => ?_) (fun hc => ?_)))
            | ((with_reducible refine Nx.is_mix ?_); first | refine Nx.m ?_ | ((fail_if_success refine Nx.m_quiet_do rfl rfl rfl rfl rfl rfl rfl ?_ ?_); (fail_if_success refine Nx.m_loud_do rfl rfl rfl rfl rfl ?_); first | refine Nx.m_dec_t rfl rfl rfl rfl (by first | assumption | omega) ?_ | refine Nx.m_dec_f rfl rfl rfl rfl (by first | assumption | omega) ?_ | refine Nx.m_split rfl rfl rfl rfl (fun hc => ?_) (fun hc => ?_) | refine Nx.m_splitb rfl rfl rfl rfl (fun hc => ?_) (fun hc => ?_)))
            | ((fail_if_success (with_reducible refine Nx.is_at ?_)); (fail_if_success (with_reducible refine Nx.is_wp ?_)); (fail_if_success (with_reducible refine Nx.is_mix ?_)); first | refine Nx.ex ?_)
          exact Nx.imm_le hI1 (Nx.ret_cell 0 rfl rfl rfl rfl rfl rfl [CodesR b A c L k15] ⟨⟨number, 112 :: dec, nm, r8, txts.getD r11.toNat default, r15, []⟩, k15, rfl, ⟨rfl, rfl, by dsimp only; omega, by dsimp only; omega⟩, hk15, rfl⟩ (by (exact Ent.auto)))
        · refine Nx.call rfl rfl rfl (by kernel_rfl) rfl (Range_any b A c L k11 1 6 I1 hL1 hk11 (by omega) (by omega)) (by (exact Ent.auto)) ?_
          rintro _ _ ⟨r15, k15, rfl, hr15, hk15, rfl⟩
          refine Nx.mix_Sle hI1 (Ent.nil _) ?_
          refine Nx.forkQ1 (i := 13) (by kernel_rfl) rfl rfl ?_
          refine Nx.load rfl rfl rfl (hTX.rd (k := r11.toNat) (by show _ < 4; omega)) ?_
          refine Nx.mix_Sle hI1 (Ent.nil _) ?_
          refine Nx.forkQ_fin (by kernel_rfl) rfl ?_
          repeat' first
            | ((with_reducible refine Nx.is_wp ?_); first | refine Nx.wo ?_ | refine Nx.p_dec rfl rfl (fun hc => ?_) (fun hc => ?_) | refine Nx.p_bool rfl rfl (fun hc => ?_) (fun hc => ?_))
            | ((first | refine Nx.at_op rfl rfl ?_ | refine Nx.m_loud rfl rfl rfl ?_ | refine Nx.at_do rfl rfl rfl rfl ?_ | refine Nx.m_loud_do rfl rfl rfl rfl rfl ?_); first | refine Nx.opr rfl rfl ?_ | (refine Nx.so ?_; refine Nx.mix_Sle hI1 (Ent.nil _) ?_) | refine Nx.so ?_ | refine Nx.sb (fun bx => ?_) | refine Nx.sa (fun A2 c2 => ?_))
            | ((with_reducible refine Nx.is_at ?_); first | refine Nx.a ?_ | ((fail_if_success refine Nx.at_do rfl rfl rfl rfl ?_); first | refine Nx.at_dec_t rfl rfl rfl rfl (by first | assumption | omega) ?_ | refine Nx.at_dec_f rfl rfl rfl rfl (by first | assumption | omega) ?_ | refine Nx.at_split rfl rfl rfl rfl (fun hc => ?_) (fun hc => ?_) | refine Nx.at_splitb rfl rfl rfl rfl (fun hc => ?_) (fun hc => ?_)))
            | ((with_reducible refine Nx.is_mix ?_); first | refine Nx.m ?_ | ((fail_if_success refine Nx.m_quiet_do rfl rfl rfl rfl rfl rfl rfl ?_ ?_); (fail_if_success refine Nx.m_loud_do rfl rfl rfl rfl rfl ?_); first | refine Nx.m_dec_t rfl rfl rfl rfl (by first | assumption | omega) ?_ | refine Nx.m_dec_f rfl rfl rfl rfl (by first | assumption | omega) ?_ | refine Nx.m_split rfl rfl rfl rfl (fun hc => ?_) (fun hc => ?_) | refine Nx.m_splitb rfl rfl rfl rfl (fun hc => ?_) (fun hc => ?_)))
            | ((fail_if_success (with_reducible refine Nx.is_at ?_)); (fail_if_success (with_reducible refine Nx.is_wp ?_)); (fail_if_success (with_reducible refine Nx.is_mix ?_)); first | refine Nx.ex ?_)
          exact Nx.imm_le hI1 (Nx.ret_cell 0 rfl rfl rfl rfl rfl rfl [CodesR b A c L k15] ⟨⟨number, 112 :: dec, nm, r8, txts.getD r11.toNat default, r15, []⟩, k15, rfl, ⟨rfl, rfl, by dsimp only; omega, by dsimp only; omega⟩, hk15, rfl⟩ (by (exact Ent.auto)))
    · refine Nx.sb (fun b9 => ?_)
      refine Nx.freezeAt 0 rfl fun I1 m1 hI1 hm1 h1 => ?_
      have hTX : SliceOf strV I1 (some ⟨b9, 0, none⟩) 4 txts := Blk.sliceOf (l := txts) hm1 h1 (by unfold maxLen; simp [txts])
      have hL1 := hL.mono hI1
      refine Nx.mix_Sle hI1 (Ent.nil _) ?_
      refine Nx.forkQ1 (i := 3) (by kernel_rfl) rfl rfl ?_
      refine Nx.call (Rpre := []) rfl rfl rfl (by kernel_rfl) rfl (Decimal_spec r2 hr2 I1) (Ent.refl _) ?_
      rintro _ _ ⟨⟨dec, rfl, hdec⟩, rfl⟩
      refine Nx.mix_Sle hI1 (Ent.nil _) ?_
      refine Nx.forkQ_q 4 (by kernel_rfl) ?_
      repeat' first
        | ((with_reducible refine Nx.is_wp ?_); first | refine Nx.wo ?_ | refine Nx.p_dec rfl rfl (fun hc => ?_) (fun hc => ?_) | refine Nx.p_bool rfl rfl (fun hc => ?_) (fun hc => ?_))
        | ((first | refine Nx.at_op rfl rfl ?_ | refine Nx.m_loud rfl rfl rfl ?_ | refine Nx.at_do rfl rfl rfl rfl ?_ | refine Nx.m_loud_do rfl rfl rfl rfl rfl ?_); first | refine Nx.opr rfl rfl ?_ | refine Nx.so ?_ | refine Nx.sb (fun bx => ?_) | refine Nx.sa (fun A2 c2 => ?_))
        | ((with_reducible refine Nx.is_at ?_); first | refine Nx.a ?_ | ((fail_if_success refine Nx.at_do rfl rfl rfl rfl ?_); first | refine Nx.at_dec_t rfl rfl rfl rfl (by first | assumption | omega) ?_ | refine Nx.at_dec_f rfl rfl rfl rfl (by first | assumption | omega) ?_ | refine Nx.at_split rfl rfl rfl rfl (fun hc => ?_) (fun hc => ?_) | refine Nx.at_splitb rfl rfl rfl rfl (fun hc => ?_) (fun hc => ?_)))
        | ((with_reducible refine Nx.is_mix ?_); first | refine Nx.m_quiet rfl rfl rfl rfl rfl (by first | exact QRun.opr rfl | exact QRun.add_s (a := [112]) rfl rfl (by simp; omega)) ?_ | refine Nx.m_quiet_do rfl rfl rfl rfl rfl rfl rfl (by first | exact QRun.opr rfl | exact QRun.add_s (a := [112]) rfl rfl (by simp; omega)) ?_ | refine Nx.m ?_ | ((fail_if_success refine Nx.m_quiet_do rfl rfl rfl rfl rfl rfl rfl ?_ ?_); (fail_if_success refine Nx.m_loud_do rfl rfl rfl rfl rfl ?_); first | refine Nx.m_dec_t rfl rfl rfl rfl (by first | assumption | omega) ?_ | refine Nx.m_dec_f rfl rfl rfl rfl (by first | assumption | omega) ?_ | refine Nx.m_split rfl rfl rfl rfl (fun hc => ?_) (fun hc => ?_) | refine Nx.m_splitb rfl rfl rfl rfl (fun hc => ?_) (fun hc => ?_)))
        | ((fail_if_success (with_reducible refine Nx.is_at ?_)); (fail_if_success (with_reducible refine Nx.is_wp ?_)); (fail_if_success (with_reducible refine Nx.is_mix ?_)); first | refine Nx.ex ?_)
      refine Nx.forkQ1 (i := 6) (by kernel_rfl) rfl rfl ?_
      refine Nx.call rfl rfl rfl (by kernel_rfl) rfl (Name_made b A c L k2 I1 hL1 hk2) (by (exact Ent.auto)) ?_
      rintro _ _ ⟨nm, k6, rfl, hnm, hk6, rfl⟩
      refine Nx.mix_Sle hI1 (Ent.nil _) ?_
      refine Nx.forkQ1 (i := 8) (by kernel_rfl) rfl rfl ?_
      refine Nx.call rfl rfl rfl (by kernel_rfl) rfl (Next_any b A c L k6 20 I1 hL1 hk6 (by omega)) (by (exact Ent.auto)) ?_
      rintro _ _ ⟨r8, k8, rfl, hr8, hk8, rfl⟩
      refine Nx.mix_Sle hI1 (Ent.nil _) ?_
      refine Nx.forkQ1 (i := 11) (by kernel_rfl) rfl rfl ?_
      refine Nx.call rfl rfl rfl (by kernel_rfl) rfl (Next_any b A c L k8 4 I1 hL1 hk8 (by omega)) (by (exact Ent.auto)) ?_
      rintro _ _ ⟨r11, k11, rfl, hr11, hk11, rfl⟩
      refine Nx.mix_Sle hI1 (Ent.nil _) ?_
      refine Nx.forkQ_q 12 (by kernel_rfl) ?_
      repeat' first
        | ((with_reducible refine Nx.is_wp ?_); first | refine Nx.wo ?_ | refine Nx.p_dec rfl rfl (fun hc => ?_) (fun hc => ?_) | refine Nx.p_bool rfl rfl (fun hc => ?_) (fun hc => ?_))
        | ((first | refine Nx.at_op rfl rfl ?_ | refine Nx.m_loud rfl rfl rfl ?_ | refine Nx.at_do rfl rfl rfl rfl ?_ | refine Nx.m_loud_do rfl rfl rfl rfl rfl ?_); first | refine Nx.opr rfl rfl ?_ | refine Nx.so ?_ | refine Nx.sb (fun bx => ?_) | refine Nx.sa (fun A2 c2 => ?_))
        | ((with_reducible refine Nx.is_at ?_); first | refine Nx.a ?_ | ((fail_if_success refine Nx.at_do rfl rfl rfl rfl ?_); first | refine Nx.at_dec_t rfl rfl rfl rfl (by first | assumption | omega) ?_ | refine Nx.at_dec_f rfl rfl rfl rfl (by first | assumption | omega) ?_ | refine Nx.at_split rfl rfl rfl rfl (fun hc => ?_) (fun hc => ?_) | refine Nx.at_splitb rfl rfl rfl rfl (fun hc => ?_) (fun hc => ?_)))
        | ((with_reducible refine Nx.is_mix ?_); first | refine Nx.m_quiet rfl rfl rfl rfl rfl (by first | exact QRun.opr rfl | exact QRun.idxi rfl rfl rfl rfl (by omega) (by omega) rfl) ?_ | refine Nx.m_quiet_do rfl rfl rfl rfl rfl rfl rfl (by first | exact QRun.opr rfl | exact QRun.idxi rfl rfl rfl rfl (by omega) (by omega) rfl) ?_ | refine Nx.m ?_ | ((fail_if_success refine Nx.m_quiet_do rfl rfl rfl rfl rfl rfl rfl ?_ ?_); (fail_if_success refine Nx.m_loud_do rfl rfl rfl rfl rfl ?_); first | refine Nx.m_dec_t rfl rfl rfl rfl (by first | assumption | omega) ?_ | refine Nx.m_dec_f rfl rfl rfl rfl (by first | assumption | omega) ?_ | refine Nx.m_split rfl rfl rfl rfl (fun hc => ?_) (fun hc => ?_) | refine Nx.m_splitb rfl rfl rfl rfl (fun hc => ?_) (fun hc => ?_)))
        | ((fail_if_success (with_reducible refine Nx.is_at ?_)); (fail_if_success (with_reducible refine Nx.is_wp ?_)); (fail_if_success (with_reducible refine Nx.is_mix ?_)); first | refine Nx.ex ?_)
      refine Nx.forkQ2 (i := 13) (j := 15) (by kernel_rfl) rfl rfl rfl rfl ?_ ?_
      · refine Nx.load rfl rfl rfl (hTX.rd (k := r11.toNat) (by show _ < 4; omega)) ?_
        refine Nx.mix_Sle hI1 (Ent.nil _) ?_
        refine Nx.forkQ1 (i := 15) (by kernel_rfl) rfl rfl ?_
        refine Nx.call rfl rfl rfl (by kernel_rfl) rfl (Range_any b A c L k11 1 6 I1 hL1 hk11 (by omega) (by omega)) (by (exact Ent.auto)) ?_
        rintro _ _ ⟨r15, k15, rfl, hr15, hk15, rfl⟩
        refine Nx.mix_Sle hI1 (Ent.nil _) ?_
        refine Nx.forkQ_fin (by kernel_rfl) rfl ?_
        repeat' first
          | ((with_reducible refine Nx.is_wp ?_); first | refine Nx.wo ?_ | refine Nx.p_dec rfl rfl (fun hc => ?_) (fun hc => ?_) | refine Nx.p_bool rfl rfl (fun hc => ?_) (fun hc => ?_))
          | ((first | refine Nx.at_op rfl rfl ?_ | refine Nx.m_loud rfl rfl rfl ?_ | refine Nx.at_do rfl rfl rfl rfl ?_ | refine Nx.m_loud_do rfl rfl rfl rfl rfl ?_); first | refine Nx.opr rfl rfl ?_ | (refine Nx.so ?_; refine Nx.mix_Sle hI1 (Ent.nil _) ?_) | refine Nx.so ?_ | refine Nx.sb (fun bx => ?_) | refine Nx.sa (fun A2 c2 => ?_))
          | ((with_reducible refine Nx.is_at ?_); first | refine Nx.a ?_ | ((fail_if_success refine Nx.at_do rfl rfl rfl rfl ?_); first | refine Nx.at_dec_t rfl rfl rfl rfl (by first | assumption | omega) ?_ | refine Nx.at_dec_f rfl rfl rfl rfl (by first | assumption | omega) ?_ | refine Nx.at_split rfl rfl rfl rfl (fun hc => ?_) (fun hc => ?_) | refine Nx.at_splitb rfl rfl rfl rfl (fun hc => ?_) (fun hc => ?_)))
          | ((with_reducible refine Nx.is_mix ?_); first | refine Nx.m ?_ | ((fail_if_success refine Nx.m_quiet_do rfl rfl rfl rfl rfl rfl rfl ?_ ?_); (fail_if_success refine Nx.m_loud_do rfl rfl rfl rfl rfl ?_); first | refine Nx.m_dec_t rfl rfl rfl rfl (by first | assumption | omega) ?_ | refine Nx.m_dec_f rfl rfl rfl rfl (by first | assumption | omega) ?_ | refine Nx.m_split rfl rfl rfl rfl (fun hc => ?_) (fun hc => ?_) | refine Nx.m_splitb rfl rfl rfl rfl (fun hc => ?_) (fun hc => ?_)))
          | ((fail_if_success (with_reducible refine Nx.is_at ?_)); (fail_if_success (with_reducible refine Nx.is_wp ?_)); (fail_if_success (with_reducible refine Nx.is_mix ?_)); first | refine Nx.ex ?_)
        exact Nx.imm_le hI1 (Nx.ret_cell 0 rfl rfl rfl rfl rfl rfl [CodesR b A c L k15] ⟨⟨number, 112 :: dec, nm, r8, txts.getD r11.toNat default, r15, []⟩, k15, rfl, ⟨rfl, rfl, by dsimp only; omega, by dsimp only; omega⟩, hk15, rfl⟩ (by (exact Ent.auto)))
      · refine Nx.call rfl rfl rfl (by kernel_rfl) rfl (Range_any b A c L k11 1 6 I1 hL1 hk11 (by omega) (by omega)) (by (exact Ent.auto)) ?_
        rintro _ _ ⟨r15, k15, rfl, hr15, hk15, rfl⟩
        refine Nx.mix_Sle hI1 (Ent.nil _) ?_
        refine Nx.forkQ1 (i := 13) (by kernel_rfl) rfl rfl ?_
        refine Nx.load rfl rfl rfl (hTX.rd (k := r11.toNat) (by show _ < 4; omega)) ?_
        refine Nx.mix_Sle hI1 (Ent.nil _) ?_
        refine Nx.forkQ_fin (by kernel_rfl) rfl ?_
        repeat' first
          | ((with_reducible refine Nx.is_wp ?_); first | refine Nx.wo ?_ | refine Nx.p_dec rfl rfl (fun hc => ?_) (fun hc => ?_) | refine Nx.p_bool rfl rfl (fun hc => ?_) (fun hc => ?_))
          | ((first | refine Nx.at_op rfl rfl ?_ | refine Nx.m_loud rfl rfl rfl ?_ | refine Nx.at_do rfl rfl rfl rfl ?_ | refine Nx.m_loud_do rfl rfl rfl rfl rfl ?_); first | refine Nx.opr rfl rfl ?_ | (refine Nx.so ?_; refine Nx.mix_Sle hI1 (Ent.nil _) ?_) | refine Nx.so ?_ | refine Nx.sb (fun bx => ?_) | refine Nx.sa (fun A2 c2 => ?_))
          | ((with_reducible refine Nx.is_at ?_); first | refine Nx.a ?_ | ((fail_if_success refine Nx.at_do rfl rfl rfl rfl ?_); first | refine Nx.at_dec_t rfl rfl rfl rfl (by first | assumption | omega) ?_ | refine Nx.at_dec_f rfl rfl rfl rfl (by first | assumption | omega) ?_ | refine Nx.at_split rfl rfl rfl rfl (fun hc => ?_) (fun hc => ?_) | refine Nx.at_splitb rfl rfl rfl rfl (fun hc => ?_) (fun hc => ?_)))
          | ((with_reducible refine Nx.is_mix ?_); first | refine Nx.m ?_ | ((fail_if_success refine Nx.m_quiet_do rfl rfl rfl rfl rfl rfl rfl ?_ ?_); (fail_if_success refine Nx.m_loud_do rfl rfl rfl rfl rfl ?_); first | refine Nx.m_dec_t rfl rfl rfl rfl (by first | assumption | omega) ?_ | refine Nx.m_dec_f rfl rfl rfl rfl (by first | assumption | omega) ?_ | refine Nx.m_split rfl rfl rfl rfl (fun hc => ?_) (fun hc => ?_) | refine Nx.m_splitb rfl rfl rfl rfl (fun hc => ?_) (fun hc => ?_)))
          | ((fail_if_success (with_reducible refine Nx.is_at ?_)); (fail_if_success (with_reducible refine Nx.is_wp ?_)); (fail_if_success (with_reducible refine Nx.is_mix ?_)); first | refine Nx.ex ?_)
        exact Nx.imm_le hI1 (Nx.ret_cell 0 rfl rfl rfl rfl rfl rfl [CodesR b A c L k15] ⟨⟨number, 112 :: dec, nm, r8, txts.getD r11.toNat default, r15, []⟩, k15, rfl, ⟨rfl, rfl, by dsimp only; omega, by dsimp only; omega⟩, hk15, rfl⟩ (by (exact Ent.auto)))
  · refine Nx.sb (fun b9 => ?_)
    refine Nx.freezeAt 0 rfl fun I1 m1 hI1 hm1 h1 => ?_
    have hTX : SliceOf strV I1 (some ⟨b9, 0, none⟩) 4 txts := Blk.sliceOf (l := txts) hm1 h1 (by unfold maxLen; simp [txts])
    have hL1 := hL.mono hI1
    refine Nx.mix_Sle hI1 (Ent.nil _) ?_
    refine Nx.forkQ1 (i := 2) (by kernel_rfl) rfl rfl ?_
    refine Nx.call rfl rfl rfl (by kernel_rfl) rfl (Next_any b A c L k 3 I1 hL1 hk (by omega)) (by (exact Ent.auto)) ?_
    rintro _ _ ⟨r2, k2, rfl, hr2, hk2, rfl⟩
    refine Nx.mix_Sle hI1 (Ent.nil _) ?_
    refine Nx.forkQ1 (i := 3) (by kernel_rfl) rfl rfl ?_
    refine Nx.call (Rpre := []) rfl rfl rfl (by kernel_rfl) rfl (Decimal_spec r2 hr2 I1) (Ent.refl _) ?_
    rintro _ _ ⟨⟨dec, rfl, hdec⟩, rfl⟩
    refine Nx.mix_Sle hI1 (Ent.nil _) ?_
    refine Nx.forkQ_q 4 (by kernel_rfl) ?_
    repeat' first
      | ((with_reducible refine Nx.is_wp ?_); first | refine Nx.wo ?_ | refine Nx.p_dec rfl rfl (fun hc => ?_) (fun hc => ?_) | refine Nx.p_bool rfl rfl (fun hc => ?_) (fun hc => ?_))
      | ((first | refine Nx.at_op rfl rfl ?_ | refine Nx.m_loud rfl rfl rfl ?_ | refine Nx.at_do rfl rfl rfl rfl ?_ | refine Nx.m_loud_do rfl rfl rfl rfl rfl ?_); first | refine Nx.opr rfl rfl ?_ | refine Nx.so ?_ | refine Nx.sb (fun bx => ?_) | refine Nx.sa (fun A2 c2 => ?_))
      | ((with_reducible refine Nx.is_at ?_); first | refine Nx.a ?_ | ((fail_if_success refine Nx.at_do rfl rfl rfl rfl ?_); first | refine Nx.at_dec_t rfl rfl rfl rfl (by first | assumption | omega) ?_ | refine Nx.at_dec_f rfl rfl rfl rfl (by first | assumption | omega) ?_ | refine Nx.at_split rfl rfl rfl rfl (fun hc => ?_) (fun hc => ?_) | refine Nx.at_splitb rfl rfl rfl rfl (fun hc => ?_) (fun hc => ?_)))
      | ((with_reducible refine Nx.is_mix ?_); first | refine Nx.m_quiet rfl rfl rfl rfl rfl (by first | exact QRun.opr rfl | exact QRun.add_s (a := [112]) rfl rfl (by simp; omega)) ?_ | refine Nx.m_quiet_do rfl rfl rfl rfl rfl rfl rfl (by first | exact QRun.opr rfl | exact QRun.add_s (a := [112]) rfl rfl (by simp; omega)) ?_ | refine Nx.m ?_ | ((fail_if_success refine Nx.m_quiet_do rfl rfl rfl rfl rfl rfl rfl ?_ ?_); (fail_if_success refine Nx.m_loud_do rfl rfl rfl rfl rfl ?_); first | refine Nx.m_dec_t rfl rfl rfl rfl (by first | assumption | omega) ?_ | refine Nx.m_dec_f rfl rfl rfl rfl (by first | assumption | omega) ?_ | refine Nx.m_split rfl rfl rfl rfl (fun hc => ?_) (fun hc => ?_) | refine Nx.m_splitb rfl rfl rfl rfl (fun hc => ?_) (fun hc => ?_)))
      | ((fail_if_success (with_reducible refine Nx.is_at ?_)); (fail_if_success (with_reducible refine Nx.is_wp ?_)); (fail_if_success (with_reducible refine Nx.is_mix ?_)); first | refine Nx.ex ?_)
    refine Nx.forkQ1 (i := 6) (by kernel_rfl) rfl rfl ?_
    refine Nx.call rfl rfl rfl (by kernel_rfl) rfl (Name_made b A c L k2 I1 hL1 hk2) (by (exact Ent.auto)) ?_
    rintro _ _ ⟨nm, k6, rfl, hnm, hk6, rfl⟩
    refine Nx.mix_Sle hI1 (Ent.nil _) ?_
    refine Nx.forkQ1 (i := 8) (by kernel_rfl) rfl rfl ?_
    refine Nx.call rfl rfl rfl (by kernel_rfl) rfl (Next_any b A c L k6 20 I1 hL1 hk6 (by omega)) (by (exact Ent.auto)) ?_
    rintro _ _ ⟨r8, k8, rfl, hr8, hk8, rfl⟩
    refine Nx.mix_Sle hI1 (Ent.nil _) ?_
    refine Nx.forkQ1 (i := 11) (by kernel_rfl) rfl rfl ?_
    refine Nx.call rfl rfl rfl (by kernel_rfl) rfl (Next_any b A c L k8 4 I1 hL1 hk8 (by omega)) (by (exact Ent.auto)) ?_
    rintro _ _ ⟨r11, k11, rfl, hr11, hk11, rfl⟩
    refine Nx.mix_Sle hI1 (Ent.nil _) ?_
    refine Nx.forkQ_q 12 (by kernel_rfl) ?_
    repeat' first
      | ((with_reducible refine Nx.is_wp ?_); first | refine Nx.wo ?_ | refine Nx.p_dec rfl rfl (fun hc => ?_) (fun hc => ?_) | refine Nx.p_bool rfl rfl (fun hc => ?_) (fun hc => ?_))
      | ((first | refine Nx.at_op rfl rfl ?_ | refine Nx.m_loud rfl rfl rfl ?_ | refine Nx.at_do rfl rfl rfl rfl ?_ | refine Nx.m_loud_do rfl rfl rfl rfl rfl ?_); first | refine Nx.opr rfl rfl ?_ | refine Nx.so ?_ | refine Nx.sb (fun bx => ?_) | refine Nx.sa (fun A2 c2 => ?_))
      | ((with_reducible refine Nx.is_at ?_); first | refine Nx.a ?_ | ((fail_if_success refine Nx.at_do rfl rfl rfl rfl ?_); first | refine Nx.at_dec_t rfl rfl rfl rfl (by first | assumption | omega) ?_ | refine Nx.at_dec_f rfl rfl rfl rfl (by first | assumption | omega) ?_ | refine Nx.at_split rfl rfl rfl rfl (fun hc => ?_) (fun hc => ?_) | refine Nx.at_splitb rfl rfl rfl rfl (fun hc => ?_) (fun hc => ?_)))
      | ((with_reducible refine Nx.is_mix ?_); first | refine Nx.m_quiet rfl rfl rfl rfl rfl (by first | exact QRun.opr rfl | exact QRun.idxi rfl rfl rfl rfl (by omega) (by omega) rfl) ?_ | refine Nx.m_quiet_do rfl rfl rfl rfl rfl rfl rfl (by first | exact QRun.opr rfl | exact QRun.idxi rfl rfl rfl rfl (by omega) (by omega) rfl) ?_ | refine Nx.m ?_ | ((fail_if_success refine Nx.m_quiet_do rfl rfl rfl rfl rfl rfl rfl ?_ ?_); (fail_if_success refine Nx.m_loud_do rfl rfl rfl rfl rfl ?_); first | refine Nx.m_dec_t rfl rfl rfl rfl (by first | assumption | omega) ?_ | refine Nx.m_dec_f rfl rfl rfl rfl (by first | assumption | omega) ?_ | refine Nx.m_split rfl rfl rfl rfl (fun hc => ?_) (fun hc => ?_) | refine Nx.m_splitb rfl rfl rfl rfl (fun hc => ?_) (fun hc => ?_)))
      | ((fail_if_success (with_reducible refine Nx.is_at ?_)); (fail_if_success (with_reducible refine Nx.is_wp ?_)); (fail_if_success (with_reducible refine Nx.is_mix ?_)); first | refine Nx.ex ?_)
    refine Nx.forkQ2 (i := 13) (j := 15) (by kernel_rfl) rfl rfl rfl rfl ?_ ?_
    · refine Nx.load rfl rfl rfl (hTX.rd (k := r11.toNat) (by show _ < 4; omega)) ?_
      refine Nx.mix_Sle hI1 (Ent.nil _) ?_
      refine Nx.forkQ1 (i := 15) (by kernel_rfl) rfl rfl ?_
      refine Nx.call rfl rfl rfl (by kernel_rfl) rfl (Range_any b A c L k11 1 6 I1 hL1 hk11 (by omega) (by omega)) (by (exact Ent.auto)) ?_
      rintro _ _ ⟨r15, k15, rfl, hr15, hk15, rfl⟩
      refine Nx.mix_Sle hI1 (Ent.nil _) ?_
      refine Nx.forkQ_fin (by kernel_rfl) rfl ?_
      repeat' first
        | ((with_reducible refine Nx.is_wp ?_); first | refine Nx.wo ?_ | refine Nx.p_dec rfl rfl (fun hc => ?_) (fun hc => ?_) | refine Nx.p_bool rfl rfl (fun hc => ?_) (fun hc => ?_))
        | ((first | refine Nx.at_op rfl rfl ?_ | refine Nx.m_loud rfl rfl rfl ?_ | refine Nx.at_do rfl rfl rfl rfl ?_ | refine Nx.m_loud_do rfl rfl rfl rfl rfl ?_); first | refine Nx.opr rfl rfl ?_ | (refine Nx.so ?_; refine Nx.mix_Sle hI1 (Ent.nil _) ?_) | refine Nx.so ?_ | refine Nx.sb (fun bx => ?_) | refine Nx.sa (fun A2 c2 => ?_))
        | ((with_reducible refine Nx.is_at ?_); first | refine Nx.a ?_ | ((fail_if_success refine Nx.at_do rfl rfl rfl rfl ?_); first | refine Nx.at_dec_t rfl rfl rfl rfl (by first | assumption | omega) ?_ | refine Nx.at_dec_f rfl rfl rfl rfl (by first | assumption | omega) ?_ | refine Nx.at_split rfl rfl rfl rfl (fun hc => ?_) (fun hc => ?_) | refine Nx.at_splitb rfl rfl rfl rfl (fun hc => ?_) (fun hc => ?_)))
        | ((with_reducible refine Nx.is_mix ?_); first | refine Nx.m ?_ | ((fail_if_success refine Nx.m_quiet_do rfl rfl rfl rfl rfl rfl rfl ?_ ?_); (fail_if_success refine Nx.m_loud_do rfl rfl rfl rfl rfl ?_); first | refine Nx.m_dec_t rfl rfl rfl rfl (by first | assumption | omega) ?_ | refine Nx.m_dec_f rfl rfl rfl rfl (by first | assumption | omega) ?_ | refine Nx.m_split rfl rfl rfl rfl (fun hc => ?_) (fun hc => ?_) | refine Nx.m_splitb rfl rfl rfl rfl (fun hc => ?_) (fun hc => ?_)))
        | ((fail_if_success (with_reducible refine Nx.is_at ?_)); (fail_if_success (with_reducible refine Nx.is_wp ?_)); (fail_if_success (with_reducible refine Nx.is_mix ?_)); first | refine Nx.ex ?_)
      exact Nx.imm_le hI1 (Nx.ret_cell 0 rfl rfl rfl rfl rfl rfl [CodesR b A c L k15] ⟨⟨number, 112 :: dec, nm, r8, txts.getD r11.toNat default, r15, []⟩, k15, rfl, ⟨rfl, rfl, by dsimp only; omega, by dsimp only; omega⟩, hk15, rfl⟩ (by (exact Ent.auto)))
    · refine Nx.call rfl rfl rfl (by kernel_rfl) rfl (Range_any b A c L k11 1 6 I1 hL1 hk11 (by omega) (by omega)) (by (exact Ent.auto)) ?_
      rintro _ _ ⟨r15, k15, rfl, hr15, hk15, rfl⟩
      refine Nx.mix_Sle hI1 (Ent.nil _) ?_
      refine Nx.forkQ1 (i := 13) (by kernel_rfl) rfl rfl ?_
      refine Nx.load rfl rfl rfl (hTX.rd (k := r11.toNat) (by show _ < 4; omega)) ?_
      refine Nx.mix_Sle hI1 (Ent.nil _) ?_
      refine Nx.forkQ_fin (by kernel_rfl) rfl ?_
      repeat' first
        | ((with_reducible refine Nx.is_wp ?_); first | refine Nx.wo ?_ | refine Nx.p_dec rfl rfl (fun hc => ?_) (fun hc => ?_) | refine Nx.p_bool rfl rfl (fun hc => ?_) (fun hc => ?_))
        | ((first | refine Nx.at_op rfl rfl ?_ | refine Nx.m_loud rfl rfl rfl ?_ | refine Nx.at_do rfl rfl rfl rfl ?_ | refine Nx.m_loud_do rfl rfl rfl rfl rfl ?_); first | refine Nx.opr rfl rfl ?_ | (refine Nx.so ?_; refine Nx.mix_Sle hI1 (Ent.nil _) ?_) | refine Nx.so ?_ | refine Nx.sb (fun bx => ?_) | refine Nx.sa (fun A2 c2 => ?_))
        | ((with_reducible refine Nx.is_at ?_); first | refine Nx.a ?_ | ((fail_if_success refine Nx.at_do rfl rfl rfl rfl ?_); first | refine Nx.at_dec_t rfl rfl rfl rfl (by first | assumption | omega) ?_ | refine Nx.at_dec_f rfl rfl rfl rfl (by first | assumption | omega) ?_ | refine Nx.at_split rfl rfl rfl rfl (fun hc => ?_) (fun hc => ?_) | refine Nx.at_splitb rfl rfl rfl rfl (fun hc => ?_) (fun hc => ?_)))
        | ((with_reducible refine Nx.is_mix ?_); first | refine Nx.m ?_ | ((fail_if_success refine Nx.m_quiet_do rfl rfl rfl rfl rfl rfl rfl ?_ ?_); (fail_if_success refine Nx.m_loud_do rfl rfl rfl rfl rfl ?_); first | refine Nx.m_dec_t rfl rfl rfl rfl (by first | assumption | omega) ?_ | refine Nx.m_dec_f rfl rfl rfl rfl (by first | assumption | omega) ?_ | refine Nx.m_split rfl rfl rfl rfl (fun hc => ?_) (fun hc => ?_) | refine Nx.m_splitb rfl rfl rfl rfl (fun hc => ?_) (fun hc => ?_)))
        | ((fail_if_success (with_reducible refine Nx.is_at ?_)); (fail_if_success (with_reducible refine Nx.is_wp ?_)); (fail_if_success (with_reducible refine Nx.is_mix ?_)); first | refine Nx.ex ?_)
      exact Nx.imm_le hI1 (Nx.ret_cell 0 rfl rfl rfl rfl rfl rfl [CodesR b A c L k15] ⟨⟨number, 112 :: dec, nm, r8, txts.getD r11.toNat default, r15, []⟩, k15, rfl, ⟨rfl, rfl, by dsimp only; omega, by dsimp only; omega⟩, hk15, rfl⟩ (by (exact Ent.auto)))
end Go.Proofs.Ytaoeapmdhpkidaa
/- Contracts of functions of the given program, and lemmas about plain lists and numbers: what the laws of this seat lean on. -/
namespace Go.Proofs.Ytaoeapmdhpkidaa
open Go.Eng
attribute [local irreducible] opK wpList Code.wp Exit.then Exit.inBlock fnPost bodyPost Nx Calls Oper.wp Rd Rds Wr Ent Stars Blk Again Vec FnSpec wpMix QRun Stop Upto wpAt
theorem exp_step {lo cl : List Out} {f : Out → Out} {i : Nat} (hi : i < lo.length) (h : cl = (lo.take i).map f ++ lo.drop i) : cl.getD i default = lo.getD i default ∧ cl.set i (f (lo.getD i default)) = (lo.take (i + 1)).map f ++ lo.drop (i + 1) := by
  have hl : ((lo.take i).map f).length = i := by rw [List.length_map, List.length_take]; omega
  have hg : lo.getD i default = lo[i] := by rw [List.getD_eq_getElem?_getD, List.getElem?_eq_getElem hi]; rfl
  rw [h]
  constructor
  · rw [List.getD_eq_getElem?_getD, List.getElem?_append_right (by omega), hl, Nat.sub_self, List.getElem?_drop, Nat.add_zero, ← List.getD_eq_getElem?_getD]
  · rw [List.set_append_right _ _ (by omega), hl, Nat.sub_self, List.drop_eq_getElem_cons hi, List.set_cons_zero, List.take_succ_eq_append_getElem hi, List.map_append, hg, List.append_assoc]
    rfl
theorem set_getD {l : List Out} {i : Nat} (hi : i < l.length) : l.set i (l.getD i default) = l := by
  rw [List.getD_eq_getElem?_getD, List.getElem?_eq_getElem hi]
  exact List.set_getElem_self hi
theorem due_take {lo : List Out} {d t : Int} {i : Nat} (hi : i < lo.length) : ((lo.take (i + 1)).filter (dueB d t)).map (·.n) = ((lo.take i).filter (dueB d t)).map (·.n) ++ (if dueB d t (lo.getD i default) = true then [(lo.getD i default).n] else []) := by
  have hg : lo.getD i default = lo[i] := by rw [List.getD_eq_getElem?_getD, List.getElem?_eq_getElem hi]; rfl
  rw [List.take_succ_eq_append_getElem hi, List.filter_append, List.map_append, hg]
  cases h : dueB d t lo[i] <;> simp [h]
/-- What Expire leaves. -/
def expPost (lo : List Out) (gn : List Int) (e : Int) (v : Value) (R' : List Res) : Prop := ∃ A' c' l' Ag cg, v = .tuple #[.slice A' l'.length c', .slice Ag gn.length cg, .int .i64 e] ∧ l'.map (·.1) = lo ∧ R' = [rowR A' c' l', Stars (l'.map sigR), Vec 3 1 Ag gn.length cg (gn.map (Value.int .i64))]
set_option maxHeartbeats 8000000 in
set_option maxRecDepth 10000 in
theorem Expire_spec (Ao : Option Addr) (co : Nat) (l : List OutM) (Ar : Option Addr) (cr : Nat) (ro : List Shift) (d t : Int) (I : PH) (hl : Outs I Ao co l) (hr : Shifts I Ar cr ro) (hro : ∀ y ∈ ro, shOk y) (hlo : ∀ x ∈ l, I64 x.1.n) (h9 : l.length ≤ 1000) (hs9 : ∀ x ∈ l, x.1.sg.length ≤ 1000) :
    FnSpec Try.prog 31 [.slice Ao l.length co, .slice Ar ro.length cr, .int .i64 d, .int .i64 t] I [] (expPost (expireL (l.map (·.1)) ro d t) (goneL (l.map (·.1)) ro d t) (expireE (l.map (·.1)) ro d t)) := by
  have hA := DCheck_spec Ao co l Ar cr ro d I hl hr hro hlo
  have hlen := hl.sl.len
  refine FnSpec.enterP Try.func31 rfl Try.ntmps31 rfl fun w F => ?_
  repeat' first
    | ((with_reducible refine Nx.is_wp ?_); first | refine Nx.wo ?_ | refine Nx.p_dec rfl rfl (fun hc => ?_) (fun hc => ?_) | refine Nx.p_bool rfl rfl (fun hc => ?_) (fun hc => ?_))
    | ((first | refine Nx.at_op rfl rfl ?_ | refine Nx.m_loud rfl rfl rfl ?_ | refine Nx.at_do rfl rfl rfl rfl ?_ | refine Nx.m_loud_do rfl rfl rfl rfl rfl ?_); first | refine Nx.opr rfl rfl ?_ | refine Nx.so ?_ | refine Nx.sb (fun bx => ?_) | refine Nx.sa (fun A2 c2 => ?_))
    | ((with_reducible refine Nx.is_at ?_); first | refine Nx.a ?_ | ((fail_if_success refine Nx.at_do rfl rfl rfl rfl ?_); first | refine Nx.at_dec_t rfl rfl rfl rfl (by first | assumption | omega) ?_ | refine Nx.at_dec_f rfl rfl rfl rfl (by first | assumption | omega) ?_ | refine Nx.at_split rfl rfl rfl rfl (fun hc => ?_) (fun hc => ?_) | refine Nx.at_splitb rfl rfl rfl rfl (fun hc => ?_) (fun hc => ?_)))
    | ((with_reducible refine Nx.is_mix ?_); first | refine Nx.m ?_ | ((fail_if_success refine Nx.m_quiet_do rfl rfl rfl rfl rfl rfl rfl ?_ ?_); (fail_if_success refine Nx.m_loud_do rfl rfl rfl rfl rfl ?_); first | refine Nx.m_dec_t rfl rfl rfl rfl (by first | assumption | omega) ?_ | refine Nx.m_dec_f rfl rfl rfl rfl (by first | assumption | omega) ?_ | refine Nx.m_split rfl rfl rfl rfl (fun hc => ?_) (fun hc => ?_) | refine Nx.m_splitb rfl rfl rfl rfl (fun hc => ?_) (fun hc => ?_)))
    | ((fail_if_success (with_reducible refine Nx.is_at ?_)); (fail_if_success (with_reducible refine Nx.is_wp ?_)); (fail_if_success (with_reducible refine Nx.is_mix ?_)); first | refine Nx.ex ?_)
  refine Nx.at_op rfl rfl ?_
  refine Nx.call rfl rfl rfl (by kernel_rfl) rfl (copied_spec Ao co l I hl h9 hs9) (by (exact Ent.auto)) ?_
  rintro _ _ ⟨A', c', l', rfl, hl', rfl⟩
  have hll : l'.length = l.length := by have := congrArg List.length hl'; simpa using this
  by_cases c1 : deskE (l.map (·.1)) ro d = 0
  · rw [c1] at hA
    have hno : ¬ deskE (l.map (·.1)) ro d ≠ 0 := by omega
    by_cases c2 : t < 0 ∨ 2147483648 < t
    · have hE : expireE (l.map (·.1)) ro d t = 43 := by unfold expireE; rw [if_neg hno, if_pos c2]
      rw [hE, show expireL (l.map (·.1)) ro d t = l.map (·.1) from if_neg (by rw [hE]; decide), show goneL (l.map (·.1)) ro d t = [] from if_neg (by rw [hE]; decide)]
      rcases c2 with c2 | c2
      · repeat' first
          | ((with_reducible refine Nx.is_wp ?_); first | refine Nx.wo ?_ | refine Nx.p_dec rfl rfl (fun hc => ?_) (fun hc => ?_) | refine Nx.p_bool rfl rfl (fun hc => ?_) (fun hc => ?_))
          | ((first | refine Nx.at_op rfl rfl ?_ | refine Nx.m_loud rfl rfl rfl ?_ | refine Nx.at_do rfl rfl rfl rfl ?_ | refine Nx.m_loud_do rfl rfl rfl rfl rfl ?_); first | refine Nx.opr rfl rfl ?_ | refine Nx.callv rfl rfl rfl (by kernel_rfl) rfl hA ?_ | refine Nx.so ?_ | refine Nx.sb (fun bx => ?_) | refine Nx.sa (fun A2 c2 => ?_))
          | ((with_reducible refine Nx.is_at ?_); first | refine Nx.a ?_ | ((fail_if_success refine Nx.at_do rfl rfl rfl rfl ?_); first | refine Nx.at_dec_t rfl rfl rfl rfl (by first | assumption | omega) ?_ | refine Nx.at_dec_f rfl rfl rfl rfl (by first | assumption | omega) ?_ | refine Nx.at_split rfl rfl rfl rfl (fun hc => ?_) (fun hc => ?_) | refine Nx.at_splitb rfl rfl rfl rfl (fun hc => ?_) (fun hc => ?_)))
          | ((with_reducible refine Nx.is_mix ?_); first | refine Nx.m ?_ | ((fail_if_success refine Nx.m_quiet_do rfl rfl rfl rfl rfl rfl rfl ?_ ?_); (fail_if_success refine Nx.m_loud_do rfl rfl rfl rfl rfl ?_); first | refine Nx.m_dec_t rfl rfl rfl rfl (by first | assumption | omega) ?_ | refine Nx.m_dec_f rfl rfl rfl rfl (by first | assumption | omega) ?_ | refine Nx.m_split rfl rfl rfl rfl (fun hc => ?_) (fun hc => ?_) | refine Nx.m_splitb rfl rfl rfl rfl (fun hc => ?_) (fun hc => ?_)))
          | ((fail_if_success (with_reducible refine Nx.is_at ?_)); (fail_if_success (with_reducible refine Nx.is_wp ?_)); (fail_if_success (with_reducible refine Nx.is_mix ?_)); first | refine Nx.ex ?_)
        exact Nx.ret_fn rfl [rowR A' c' l', Stars (l'.map sigR), Vec 3 1 none 0 0 []] ⟨A', c', l', none, 0, rfl, hl', rfl⟩ ((Ent.vec_nil _ _ _).trans (by (exact Ent.auto)))
      · repeat' first
          | ((with_reducible refine Nx.is_wp ?_); first | refine Nx.wo ?_ | refine Nx.p_dec rfl rfl (fun hc => ?_) (fun hc => ?_) | refine Nx.p_bool rfl rfl (fun hc => ?_) (fun hc => ?_))
          | ((first | refine Nx.at_op rfl rfl ?_ | refine Nx.m_loud rfl rfl rfl ?_ | refine Nx.at_do rfl rfl rfl rfl ?_ | refine Nx.m_loud_do rfl rfl rfl rfl rfl ?_); first | refine Nx.opr rfl rfl ?_ | refine Nx.callv rfl rfl rfl (by kernel_rfl) rfl hA ?_ | refine Nx.so ?_ | refine Nx.sb (fun bx => ?_) | refine Nx.sa (fun A2 c2 => ?_))
          | ((with_reducible refine Nx.is_at ?_); first | refine Nx.a ?_ | ((fail_if_success refine Nx.at_do rfl rfl rfl rfl ?_); first | refine Nx.at_dec_t rfl rfl rfl rfl (by first | assumption | omega) ?_ | refine Nx.at_dec_f rfl rfl rfl rfl (by first | assumption | omega) ?_ | refine Nx.at_split rfl rfl rfl rfl (fun hc => ?_) (fun hc => ?_) | refine Nx.at_splitb rfl rfl rfl rfl (fun hc => ?_) (fun hc => ?_)))
          | ((with_reducible refine Nx.is_mix ?_); first | refine Nx.m ?_ | ((fail_if_success refine Nx.m_quiet_do rfl rfl rfl rfl rfl rfl rfl ?_ ?_); (fail_if_success refine Nx.m_loud_do rfl rfl rfl rfl rfl ?_); first | refine Nx.m_dec_t rfl rfl rfl rfl (by first | assumption | omega) ?_ | refine Nx.m_dec_f rfl rfl rfl rfl (by first | assumption | omega) ?_ | refine Nx.m_split rfl rfl rfl rfl (fun hc => ?_) (fun hc => ?_) | refine Nx.m_splitb rfl rfl rfl rfl (fun hc => ?_) (fun hc => ?_)))
          | ((fail_if_success (with_reducible refine Nx.is_at ?_)); (fail_if_success (with_reducible refine Nx.is_wp ?_)); (fail_if_success (with_reducible refine Nx.is_mix ?_)); first | refine Nx.ex ?_)
        exact Nx.ret_fn rfl [rowR A' c' l', Stars (l'.map sigR), Vec 3 1 none 0 0 []] ⟨A', c', l', none, 0, rfl, hl', rfl⟩ ((Ent.vec_nil _ _ _).trans (by (exact Ent.auto)))
    · have hE : expireE (l.map (·.1)) ro d t = 0 := by unfold expireE; rw [if_neg hno, if_neg c2]
      obtain ⟨hd, _, h40, hall⟩ := desk_ok.1 c1
      rw [hE, show expireL (l.map (·.1)) ro d t = (l.map (·.1)).map (expireO d t) from if_pos hE, show goneL (l.map (·.1)) ro d t = ((l.map (·.1)).filter (dueB d t)).map (·.n) from if_pos hE]
      rw [← hl'] at hall h40 ⊢
      generalize hlo' : l'.map (·.1) = lo at hall h40 ⊢
      have hlol : lo.length = l'.length := by rw [← hlo', List.length_map]
      refine Nx.vec_fact fun hv1 hv2 hv3 hA' => ?_
      repeat' first
        | ((with_reducible refine Nx.is_wp ?_); first | refine Nx.wo ?_ | refine Nx.p_dec rfl rfl (fun hc => ?_) (fun hc => ?_) | refine Nx.p_bool rfl rfl (fun hc => ?_) (fun hc => ?_))
        | ((first | refine Nx.at_op rfl rfl ?_ | refine Nx.m_loud rfl rfl rfl ?_ | refine Nx.at_do rfl rfl rfl rfl ?_ | refine Nx.m_loud_do rfl rfl rfl rfl rfl ?_); first | refine Nx.opr rfl rfl ?_ | refine Nx.callv rfl rfl rfl (by kernel_rfl) rfl hA ?_ | refine Nx.so ?_ | refine Nx.sb (fun bx => ?_) | refine Nx.sa (fun A2 c2 => ?_))
        | ((with_reducible refine Nx.is_at ?_); first | refine Nx.a ?_ | ((fail_if_success refine Nx.at_do rfl rfl rfl rfl ?_); first | refine Nx.at_dec_t rfl rfl rfl rfl (by first | assumption | omega) ?_ | refine Nx.at_dec_f rfl rfl rfl rfl (by first | assumption | omega) ?_ | refine Nx.at_split rfl rfl rfl rfl (fun hc => ?_) (fun hc => ?_) | refine Nx.at_splitb rfl rfl rfl rfl (fun hc => ?_) (fun hc => ?_)))
        | ((with_reducible refine Nx.is_mix ?_); first | refine Nx.m ?_ | ((fail_if_success refine Nx.m_quiet_do rfl rfl rfl rfl rfl rfl rfl ?_ ?_); (fail_if_success refine Nx.m_loud_do rfl rfl rfl rfl rfl ?_); first | refine Nx.m_dec_t rfl rfl rfl rfl (by first | assumption | omega) ?_ | refine Nx.m_dec_f rfl rfl rfl rfl (by first | assumption | omega) ?_ | refine Nx.m_split rfl rfl rfl rfl (fun hc => ?_) (fun hc => ?_) | refine Nx.m_splitb rfl rfl rfl rfl (fun hc => ?_) (fun hc => ?_)))
        | ((fail_if_success (with_reducible refine Nx.is_at ?_)); (fail_if_success (with_reducible refine Nx.is_wp ?_)); (fail_if_success (with_reducible refine Nx.is_mix ?_)); first | refine Nx.ex ?_)
      refine Nx.p_loop (σ := Nat × List OutM × Option Addr × Nat) (fun s => [(2, .int .i64 d), (3, .int .i64 t), (11, .slice A' l'.length c'), (13, .slice s.2.2.1 (((lo.take s.1).filter (dueB d t)).map (·.n)).length s.2.2.2), (33, .slice A' l'.length c'), (34, .int .i64 l'.length), (35, .int .i64 (s.1 : Int))])
        (fun s => [Vec 50 7 A' l'.length c' (s.2.1.flatMap ouC), Vec 3 1 s.2.2.1 (((lo.take s.1).filter (dueB d t)).map (·.n)).length s.2.2.2 ((((lo.take s.1).filter (dueB d t)).map (·.n)).map (Value.int .i64)), Stars (l'.map sigR), F])
        (fun s => s.1 ≤ l'.length ∧ s.2.1.length = l'.length ∧ s.2.1.map (·.1) = (lo.take s.1).map (expireO d t) ++ lo.drop s.1 ∧ s.2.1.map sigR = l'.map sigR) (fun s => l'.length - s.1) (0, l', none, 0) rfl ⟨Nat.zero_le _, rfl, by rw [hlo']; simp, rfl⟩ ⟨rfl, rfl, rfl, rfl, rfl, rfl, rfl, trivial⟩ ((Ent.vec_nil _ _ _).trans (by (exact Ent.auto))) ?_
      rintro ⟨i, cur, Ag, cg⟩ ⟨hi, hcl, hcur, hsig⟩
      dsimp only at hi hcl hcur hsig ⊢
      by_cases hlt : i < l'.length
      · obtain ⟨hget, hset⟩ := exp_step (by omega) hcur
        have hic : i < cur.length := by omega
        rw [lo_at hic] at hget
        obtain ⟨v1, v2, _⟩ := hall i (by omega)
        obtain ⟨_, _, _, b4, _⟩ := valid_bd v1
        rw [← hget] at v2 b4
        have hO := open_spec (cur.getD i default) I
        have hdt := due_take (d := d) (t := t) (show i < lo.length by omega)
        rw [← hget] at hdt hset
        have hgl : (((lo.take i).filter (dueB d t)).map (·.n)).length ≤ 1000 := by
          rw [List.length_map]
          have := List.length_filter_le (dueB d t) (lo.take i)
          rw [List.length_take] at this
          omega
        by_cases c3 : dueB d t (cur.getD i default).1 = true
        · have c4 := Bool.and_eq_true_iff.1 c3
          have c5 : (cur.getD i default).1.t + d ≤ t := of_decide_eq_true c4.2
          rw [c4.1] at hO
          rw [if_pos c3] at hdt
          rw [show expireO d t (cur.getD i default).1 = setSt (cur.getD i default).1 5 from if_pos c3] at hset
          repeat' first
            | ((with_reducible refine Nx.is_wp ?_); first | refine Nx.wo ?_ | refine Nx.p_dec rfl rfl (fun hc => ?_) (fun hc => ?_) | refine Nx.p_bool rfl rfl (fun hc => ?_) (fun hc => ?_))
            | ((first | refine Nx.at_op rfl rfl ?_ | refine Nx.m_loud rfl rfl rfl ?_ | refine Nx.at_do rfl rfl rfl rfl ?_ | refine Nx.m_loud_do rfl rfl rfl rfl rfl ?_); first | refine Nx.opr rfl rfl ?_ | refine Nx.callv rfl rfl rfl (by kernel_rfl) rfl hO ?_ | refine Nx.indexAddr_nat rfl rfl rfl rfl rfl (by omega) (hA' (by omega)) ?_ | refine Nx.loads rfl rfl rfl rfl (Rds.vecN 0 ouC_len rfl (by omega)) rfl ?_ | refine Nx.load rfl rfl rfl (Rd.vecFld 0 ouC_len rfl (by omega) 3 rfl) ?_ | refine Nx.store_fld 1 rfl rfl rfl rfl rfl rfl (by omega) ?_ | refine Nx.store_fld 0 rfl rfl rfl rfl rfl rfl (by omega) ?_ | refine Nx.so ?_ | refine Nx.sb (fun bx => ?_) | refine Nx.sa (fun A2 c2 => ?_))
            | ((with_reducible refine Nx.is_at ?_); first | refine Nx.a ?_ | ((fail_if_success refine Nx.at_do rfl rfl rfl rfl ?_); first | refine Nx.at_dec_t rfl rfl rfl rfl (by first | assumption | omega) ?_ | refine Nx.at_dec_f rfl rfl rfl rfl (by first | assumption | omega) ?_ | refine Nx.at_split rfl rfl rfl rfl (fun hc => ?_) (fun hc => ?_) | refine Nx.at_splitb rfl rfl rfl rfl (fun hc => ?_) (fun hc => ?_)))
            | ((with_reducible refine Nx.is_mix ?_); first | refine Nx.m ?_ | ((fail_if_success refine Nx.m_quiet_do rfl rfl rfl rfl rfl rfl rfl ?_ ?_); (fail_if_success refine Nx.m_loud_do rfl rfl rfl rfl rfl ?_); first | refine Nx.m_dec_t rfl rfl rfl rfl (by first | assumption | omega) ?_ | refine Nx.m_dec_f rfl rfl rfl rfl (by first | assumption | omega) ?_ | refine Nx.m_split rfl rfl rfl rfl (fun hc => ?_) (fun hc => ?_) | refine Nx.m_splitb rfl rfl rfl rfl (fun hc => ?_) (fun hc => ?_)))
            | ((fail_if_success (with_reducible refine Nx.is_at ?_)); (fail_if_success (with_reducible refine Nx.is_wp ?_)); (fail_if_success (with_reducible refine Nx.is_mix ?_)); first | refine Nx.ex ?_)
          refine Nx.ent (R' := [Vec 50 7 A' l'.length c' ((cur.flatMap ouC).set (i * 7 + 5) (.int .i64 5)), Vec 3 1 A2 ((((lo.take i).filter (dueB d t)).map (·.n)).length + 1) c2 ((((lo.take i).filter (dueB d t)).map (·.n)).map (Value.int .i64) ++ [Value.int .i64 ((cur.getD i default).1.n)]), Stars (l'.map sigR), F]) (by (exact Ent.auto)) ?_
          rw [flat_set ouC_len (x' := (setSt (cur.getD i default).1 5, (cur.getD i default).2)) hic (by omega) rfl]
          refine Nx.again (i + 1, cur.set i (setSt (cur.getD i default).1 5, (cur.getD i default).2), A2, c2) ⟨hlt, by dsimp only; rw [List.length_set]; exact hcl, by dsimp only; rw [List.map_set]; exact hset, by dsimp only; rw [map_set_same (o := setSt (cur.getD i default).1 5) hic rfl]; exact hsig⟩ (by dsimp only; omega) ⟨rfl, rfl, rfl, by dsimp only; rw [hdt, List.length_append]; rfl, rfl, rfl, rfl, trivial⟩ ?_
          dsimp only
          rw [hdt, List.length_append, List.map_append]
          skip
          (exact Ent.auto)
        · have c3f : dueB d t (cur.getD i default).1 = false := by simpa using c3
          rw [if_neg c3, List.append_nil] at hdt
          rw [show expireO d t (cur.getD i default).1 = (cur.getD i default).1 from if_neg c3] at hset
          have hset2 : cur.map (·.1) = (lo.take (i + 1)).map (expireO d t) ++ lo.drop (i + 1) := by
            rw [← hset, ← lo_at hic, set_getD (by rw [List.length_map]; exact hic)]
          cases c4 : openB (cur.getD i default).1 with
          | false =>
            rw [c4] at hO
            repeat' first
              | ((with_reducible refine Nx.is_wp ?_); first | refine Nx.wo ?_ | refine Nx.p_dec rfl rfl (fun hc => ?_) (fun hc => ?_) | refine Nx.p_bool rfl rfl (fun hc => ?_) (fun hc => ?_))
              | ((first | refine Nx.at_op rfl rfl ?_ | refine Nx.m_loud rfl rfl rfl ?_ | refine Nx.at_do rfl rfl rfl rfl ?_ | refine Nx.m_loud_do rfl rfl rfl rfl rfl ?_); first | refine Nx.opr rfl rfl ?_ | refine Nx.callv rfl rfl rfl (by kernel_rfl) rfl hO ?_ | refine Nx.indexAddr_nat rfl rfl rfl rfl rfl (by omega) (hA' (by omega)) ?_ | refine Nx.loads rfl rfl rfl rfl (Rds.vecN 0 ouC_len rfl (by omega)) rfl ?_ | refine Nx.load rfl rfl rfl (Rd.vecFld 0 ouC_len rfl (by omega) 3 rfl) ?_ | refine Nx.store_fld 1 rfl rfl rfl rfl rfl rfl (by omega) ?_ | refine Nx.store_fld 0 rfl rfl rfl rfl rfl rfl (by omega) ?_ | refine Nx.so ?_ | refine Nx.sb (fun bx => ?_) | refine Nx.sa (fun A2 c2 => ?_))
              | ((with_reducible refine Nx.is_at ?_); first | refine Nx.a ?_ | ((fail_if_success refine Nx.at_do rfl rfl rfl rfl ?_); first | refine Nx.at_dec_t rfl rfl rfl rfl (by first | assumption | omega) ?_ | refine Nx.at_dec_f rfl rfl rfl rfl (by first | assumption | omega) ?_ | refine Nx.at_split rfl rfl rfl rfl (fun hc => ?_) (fun hc => ?_) | refine Nx.at_splitb rfl rfl rfl rfl (fun hc => ?_) (fun hc => ?_)))
              | ((with_reducible refine Nx.is_mix ?_); first | refine Nx.m ?_ | ((fail_if_success refine Nx.m_quiet_do rfl rfl rfl rfl rfl rfl rfl ?_ ?_); (fail_if_success refine Nx.m_loud_do rfl rfl rfl rfl rfl ?_); first | refine Nx.m_dec_t rfl rfl rfl rfl (by first | assumption | omega) ?_ | refine Nx.m_dec_f rfl rfl rfl rfl (by first | assumption | omega) ?_ | refine Nx.m_split rfl rfl rfl rfl (fun hc => ?_) (fun hc => ?_) | refine Nx.m_splitb rfl rfl rfl rfl (fun hc => ?_) (fun hc => ?_)))
              | ((fail_if_success (with_reducible refine Nx.is_at ?_)); (fail_if_success (with_reducible refine Nx.is_wp ?_)); (fail_if_success (with_reducible refine Nx.is_mix ?_)); first | refine Nx.ex ?_)
            exact Nx.again (i + 1, cur, Ag, cg) ⟨hlt, hcl, hset2, hsig⟩ (by dsimp only; omega) ⟨rfl, rfl, rfl, by dsimp only; rw [hdt]; rfl, rfl, rfl, rfl, trivial⟩ (by dsimp only; rw [hdt]; (exact Ent.auto))
          | true =>
            rw [c4] at hO
            have c5 : ¬ (cur.getD i default).1.t + d ≤ t := by
              unfold dueB at c3f
              rw [c4, Bool.true_and] at c3f
              exact of_decide_eq_false c3f
            repeat' first
              | ((with_reducible refine Nx.is_wp ?_); first | refine Nx.wo ?_ | refine Nx.p_dec rfl rfl (fun hc => ?_) (fun hc => ?_) | refine Nx.p_bool rfl rfl (fun hc => ?_) (fun hc => ?_))
              | ((first | refine Nx.at_op rfl rfl ?_ | refine Nx.m_loud rfl rfl rfl ?_ | refine Nx.at_do rfl rfl rfl rfl ?_ | refine Nx.m_loud_do rfl rfl rfl rfl rfl ?_); first | refine Nx.opr rfl rfl ?_ | refine Nx.callv rfl rfl rfl (by kernel_rfl) rfl hO ?_ | refine Nx.indexAddr_nat rfl rfl rfl rfl rfl (by omega) (hA' (by omega)) ?_ | refine Nx.loads rfl rfl rfl rfl (Rds.vecN 0 ouC_len rfl (by omega)) rfl ?_ | refine Nx.load rfl rfl rfl (Rd.vecFld 0 ouC_len rfl (by omega) 3 rfl) ?_ | refine Nx.store_fld 1 rfl rfl rfl rfl rfl rfl (by omega) ?_ | refine Nx.store_fld 0 rfl rfl rfl rfl rfl rfl (by omega) ?_ | refine Nx.so ?_ | refine Nx.sb (fun bx => ?_) | refine Nx.sa (fun A2 c2 => ?_))
              | ((with_reducible refine Nx.is_at ?_); first | refine Nx.a ?_ | ((fail_if_success refine Nx.at_do rfl rfl rfl rfl ?_); first | refine Nx.at_dec_t rfl rfl rfl rfl (by first | assumption | omega) ?_ | refine Nx.at_dec_f rfl rfl rfl rfl (by first | assumption | omega) ?_ | refine Nx.at_split rfl rfl rfl rfl (fun hc => ?_) (fun hc => ?_) | refine Nx.at_splitb rfl rfl rfl rfl (fun hc => ?_) (fun hc => ?_)))
              | ((with_reducible refine Nx.is_mix ?_); first | refine Nx.m ?_ | ((fail_if_success refine Nx.m_quiet_do rfl rfl rfl rfl rfl rfl rfl ?_ ?_); (fail_if_success refine Nx.m_loud_do rfl rfl rfl rfl rfl ?_); first | refine Nx.m_dec_t rfl rfl rfl rfl (by first | assumption | omega) ?_ | refine Nx.m_dec_f rfl rfl rfl rfl (by first | assumption | omega) ?_ | refine Nx.m_split rfl rfl rfl rfl (fun hc => ?_) (fun hc => ?_) | refine Nx.m_splitb rfl rfl rfl rfl (fun hc => ?_) (fun hc => ?_)))
              | ((fail_if_success (with_reducible refine Nx.is_at ?_)); (fail_if_success (with_reducible refine Nx.is_wp ?_)); (fail_if_success (with_reducible refine Nx.is_mix ?_)); first | refine Nx.ex ?_)
            exact Nx.again (i + 1, cur, Ag, cg) ⟨hlt, hcl, hset2, hsig⟩ (by dsimp only; omega) ⟨rfl, rfl, rfl, by dsimp only; rw [hdt]; rfl, rfl, rfl, rfl, trivial⟩ (by dsimp only; rw [hdt]; (exact Ent.auto))
      · obtain rfl : i = l'.length := by omega
        have hta : lo.take l'.length = lo := by rw [← hlol, List.take_length]
        rw [hta, show lo.drop l'.length = [] by rw [← hlol, List.drop_length], List.append_nil] at hcur
        rw [hta]
        repeat' first
          | ((with_reducible refine Nx.is_wp ?_); first | refine Nx.wo ?_ | refine Nx.p_dec rfl rfl (fun hc => ?_) (fun hc => ?_) | refine Nx.p_bool rfl rfl (fun hc => ?_) (fun hc => ?_))
          | ((first | refine Nx.at_op rfl rfl ?_ | refine Nx.m_loud rfl rfl rfl ?_ | refine Nx.at_do rfl rfl rfl rfl ?_ | refine Nx.m_loud_do rfl rfl rfl rfl rfl ?_); first | refine Nx.opr rfl rfl ?_ | refine Nx.so ?_ | refine Nx.sb (fun bx => ?_) | refine Nx.sa (fun A2 c2 => ?_))
          | ((with_reducible refine Nx.is_at ?_); first | refine Nx.a ?_ | ((fail_if_success refine Nx.at_do rfl rfl rfl rfl ?_); first | refine Nx.at_dec_t rfl rfl rfl rfl (by first | assumption | omega) ?_ | refine Nx.at_dec_f rfl rfl rfl rfl (by first | assumption | omega) ?_ | refine Nx.at_split rfl rfl rfl rfl (fun hc => ?_) (fun hc => ?_) | refine Nx.at_splitb rfl rfl rfl rfl (fun hc => ?_) (fun hc => ?_)))
          | ((with_reducible refine Nx.is_mix ?_); first | refine Nx.m ?_ | ((fail_if_success refine Nx.m_quiet_do rfl rfl rfl rfl rfl rfl rfl ?_ ?_); (fail_if_success refine Nx.m_loud_do rfl rfl rfl rfl rfl ?_); first | refine Nx.m_dec_t rfl rfl rfl rfl (by first | assumption | omega) ?_ | refine Nx.m_dec_f rfl rfl rfl rfl (by first | assumption | omega) ?_ | refine Nx.m_split rfl rfl rfl rfl (fun hc => ?_) (fun hc => ?_) | refine Nx.m_splitb rfl rfl rfl rfl (fun hc => ?_) (fun hc => ?_)))
          | ((fail_if_success (with_reducible refine Nx.is_at ?_)); (fail_if_success (with_reducible refine Nx.is_wp ?_)); (fail_if_success (with_reducible refine Nx.is_mix ?_)); first | refine Nx.ex ?_)
        exact Nx.ret_fn rfl [rowR A' c' cur, Stars (cur.map sigR), Vec 3 1 Ag ((lo.filter (dueB d t)).map (·.n)).length cg (((lo.filter (dueB d t)).map (·.n)).map (Value.int .i64))] ⟨A', c', cur, Ag, cg, by rw [hcl], hcur, rfl⟩ (by unfold rowR; rw [hcl, hsig]; (exact Ent.auto))
  · have hE : expireE (l.map (·.1)) ro d t = deskE (l.map (·.1)) ro d := if_pos c1
    rw [show expireL (l.map (·.1)) ro d t = l.map (·.1) from if_neg (by rw [hE]; exact c1), show goneL (l.map (·.1)) ro d t = [] from if_neg (by rw [hE]; exact c1), hE]
    repeat' first
      | ((with_reducible refine Nx.is_wp ?_); first | refine Nx.wo ?_ | refine Nx.p_dec rfl rfl (fun hc => ?_) (fun hc => ?_) | refine Nx.p_bool rfl rfl (fun hc => ?_) (fun hc => ?_))
      | ((first | refine Nx.at_op rfl rfl ?_ | refine Nx.m_loud rfl rfl rfl ?_ | refine Nx.at_do rfl rfl rfl rfl ?_ | refine Nx.m_loud_do rfl rfl rfl rfl rfl ?_); first | refine Nx.opr rfl rfl ?_ | refine Nx.callv rfl rfl rfl (by kernel_rfl) rfl hA ?_ | refine Nx.so ?_ | refine Nx.sb (fun bx => ?_) | refine Nx.sa (fun A2 c2 => ?_))
      | ((with_reducible refine Nx.is_at ?_); first | refine Nx.a ?_ | ((fail_if_success refine Nx.at_do rfl rfl rfl rfl ?_); first | refine Nx.at_dec_t rfl rfl rfl rfl (by first | assumption | omega) ?_ | refine Nx.at_dec_f rfl rfl rfl rfl (by first | assumption | omega) ?_ | refine Nx.at_split rfl rfl rfl rfl (fun hc => ?_) (fun hc => ?_) | refine Nx.at_splitb rfl rfl rfl rfl (fun hc => ?_) (fun hc => ?_)))
      | ((with_reducible refine Nx.is_mix ?_); first | refine Nx.m ?_ | ((fail_if_success refine Nx.m_quiet_do rfl rfl rfl rfl rfl rfl rfl ?_ ?_); (fail_if_success refine Nx.m_loud_do rfl rfl rfl rfl rfl ?_); first | refine Nx.m_dec_t rfl rfl rfl rfl (by first | assumption | omega) ?_ | refine Nx.m_dec_f rfl rfl rfl rfl (by first | assumption | omega) ?_ | refine Nx.m_split rfl rfl rfl rfl (fun hc => ?_) (fun hc => ?_) | refine Nx.m_splitb rfl rfl rfl rfl (fun hc => ?_) (fun hc => ?_)))
      | ((fail_if_success (with_reducible refine Nx.is_at ?_)); (fail_if_success (with_reducible refine Nx.is_wp ?_)); (fail_if_success (with_reducible refine Nx.is_mix ?_)); first | refine Nx.ex ?_)
    exact Nx.ret_fn rfl [rowR A' c' l', Stars (l'.map sigR), Vec 3 1 none 0 0 []] ⟨A', c', l', none, 0, rfl, hl', rfl⟩ ((Ent.vec_nil _ _ _).trans (by (exact Ent.auto)))
set_option maxHeartbeats 8000000 in
set_option maxRecDepth 10000 in
theorem RExpire_spec (Ao : Option Addr) (co : Nat) (l : List OutM) (Ar : Option Addr) (cr : Nat) (ro : List Shift) (d t : Int) (I : PH) (hl : Outs I Ao co l) (hr : Shifts I Ar cr ro) (hro : ∀ y ∈ ro, shOk y) (hlo : ∀ x ∈ l, I64 x.1.n) (h9 : l.length ≤ 1000) (hs9 : ∀ x ∈ l, x.1.sg.length ≤ 1000) :
    FnSpec Try.prog 39 [.slice Ao l.length co, .slice Ar ro.length cr, .int .i64 d, .int .i64 t] I [] (expPost (expireL (l.map (·.1)) ro d t) (goneL (l.map (·.1)) ro d t) (expireE (l.map (·.1)) ro d t)) := by
  have hA := RDCheck_spec Ao co l Ar cr ro d I hl hr hro hlo
  have hlen := hl.sl.len
  refine FnSpec.enterP Try.func39 rfl Try.ntmps39 rfl fun w F => ?_
  repeat' first
    | ((with_reducible refine Nx.is_wp ?_); first | refine Nx.wo ?_ | refine Nx.p_dec rfl rfl (fun hc => ?_) (fun hc => ?_) | refine Nx.p_bool rfl rfl (fun hc => ?_) (fun hc => ?_))
    | ((first | refine Nx.at_op rfl rfl ?_ | refine Nx.m_loud rfl rfl rfl ?_ | refine Nx.at_do rfl rfl rfl rfl ?_ | refine Nx.m_loud_do rfl rfl rfl rfl rfl ?_); first | refine Nx.opr rfl rfl ?_ | refine Nx.so ?_ | refine Nx.sb (fun bx => ?_) | refine Nx.sa (fun A2 c2 => ?_))
    | ((with_reducible refine Nx.is_at ?_); first | refine Nx.a ?_ | ((fail_if_success refine Nx.at_do rfl rfl rfl rfl ?_); first | refine Nx.at_dec_t rfl rfl rfl rfl (by first | assumption | omega) ?_ | refine Nx.at_dec_f rfl rfl rfl rfl (by first | assumption | omega) ?_ | refine Nx.at_split rfl rfl rfl rfl (fun hc => ?_) (fun hc => ?_) | refine Nx.at_splitb rfl rfl rfl rfl (fun hc => ?_) (fun hc => ?_)))
    | ((with_reducible refine Nx.is_mix ?_); first | refine Nx.m ?_ | ((fail_if_success refine Nx.m_quiet_do rfl rfl rfl rfl rfl rfl rfl ?_ ?_); (fail_if_success refine Nx.m_loud_do rfl rfl rfl rfl rfl ?_); first | refine Nx.m_dec_t rfl rfl rfl rfl (by first | assumption | omega) ?_ | refine Nx.m_dec_f rfl rfl rfl rfl (by first | assumption | omega) ?_ | refine Nx.m_split rfl rfl rfl rfl (fun hc => ?_) (fun hc => ?_) | refine Nx.m_splitb rfl rfl rfl rfl (fun hc => ?_) (fun hc => ?_)))
    | ((fail_if_success (with_reducible refine Nx.is_at ?_)); (fail_if_success (with_reducible refine Nx.is_wp ?_)); (fail_if_success (with_reducible refine Nx.is_mix ?_)); first | refine Nx.ex ?_)
  refine Nx.at_op rfl rfl ?_
  refine Nx.call rfl rfl rfl (by kernel_rfl) rfl (RCopy_spec Ao co l I hl h9 hs9) (by (exact Ent.auto)) ?_
  rintro _ _ ⟨A', c', l', rfl, hl', rfl⟩
  have hll : l'.length = l.length := by have := congrArg List.length hl'; simpa using this
  by_cases c1 : deskE (l.map (·.1)) ro d = 0
  · rw [c1] at hA
    have hno : ¬ deskE (l.map (·.1)) ro d ≠ 0 := by omega
    by_cases c2 : t < 0 ∨ 2147483648 < t
    · have hE : expireE (l.map (·.1)) ro d t = 43 := by unfold expireE; rw [if_neg hno, if_pos c2]
      rw [hE, show expireL (l.map (·.1)) ro d t = l.map (·.1) from if_neg (by rw [hE]; decide), show goneL (l.map (·.1)) ro d t = [] from if_neg (by rw [hE]; decide)]
      rcases c2 with c2 | c2
      · repeat' first
          | ((with_reducible refine Nx.is_wp ?_); first | refine Nx.wo ?_ | refine Nx.p_dec rfl rfl (fun hc => ?_) (fun hc => ?_) | refine Nx.p_bool rfl rfl (fun hc => ?_) (fun hc => ?_))
          | ((first | refine Nx.at_op rfl rfl ?_ | refine Nx.m_loud rfl rfl rfl ?_ | refine Nx.at_do rfl rfl rfl rfl ?_ | refine Nx.m_loud_do rfl rfl rfl rfl rfl ?_); first | refine Nx.opr rfl rfl ?_ | refine Nx.callv rfl rfl rfl (by kernel_rfl) rfl hA ?_ | refine Nx.so ?_ | refine Nx.sb (fun bx => ?_) | refine Nx.sa (fun A2 c2 => ?_))
          | ((with_reducible refine Nx.is_at ?_); first | refine Nx.a ?_ | ((fail_if_success refine Nx.at_do rfl rfl rfl rfl ?_); first | refine Nx.at_dec_t rfl rfl rfl rfl (by first | assumption | omega) ?_ | refine Nx.at_dec_f rfl rfl rfl rfl (by first | assumption | omega) ?_ | refine Nx.at_split rfl rfl rfl rfl (fun hc => ?_) (fun hc => ?_) | refine Nx.at_splitb rfl rfl rfl rfl (fun hc => ?_) (fun hc => ?_)))
          | ((with_reducible refine Nx.is_mix ?_); first | refine Nx.m ?_ | ((fail_if_success refine Nx.m_quiet_do rfl rfl rfl rfl rfl rfl rfl ?_ ?_); (fail_if_success refine Nx.m_loud_do rfl rfl rfl rfl rfl ?_); first | refine Nx.m_dec_t rfl rfl rfl rfl (by first | assumption | omega) ?_ | refine Nx.m_dec_f rfl rfl rfl rfl (by first | assumption | omega) ?_ | refine Nx.m_split rfl rfl rfl rfl (fun hc => ?_) (fun hc => ?_) | refine Nx.m_splitb rfl rfl rfl rfl (fun hc => ?_) (fun hc => ?_)))
          | ((fail_if_success (with_reducible refine Nx.is_at ?_)); (fail_if_success (with_reducible refine Nx.is_wp ?_)); (fail_if_success (with_reducible refine Nx.is_mix ?_)); first | refine Nx.ex ?_)
        exact Nx.ret_fn rfl [rowR A' c' l', Stars (l'.map sigR), Vec 3 1 none 0 0 []] ⟨A', c', l', none, 0, rfl, hl', rfl⟩ ((Ent.vec_nil _ _ _).trans (by (exact Ent.auto)))
      · repeat' first
          | ((with_reducible refine Nx.is_wp ?_); first | refine Nx.wo ?_ | refine Nx.p_dec rfl rfl (fun hc => ?_) (fun hc => ?_) | refine Nx.p_bool rfl rfl (fun hc => ?_) (fun hc => ?_))
          | ((first | refine Nx.at_op rfl rfl ?_ | refine Nx.m_loud rfl rfl rfl ?_ | refine Nx.at_do rfl rfl rfl rfl ?_ | refine Nx.m_loud_do rfl rfl rfl rfl rfl ?_); first | refine Nx.opr rfl rfl ?_ | refine Nx.callv rfl rfl rfl (by kernel_rfl) rfl hA ?_ | refine Nx.so ?_ | refine Nx.sb (fun bx => ?_) | refine Nx.sa (fun A2 c2 => ?_))
          | ((with_reducible refine Nx.is_at ?_); first | refine Nx.a ?_ | ((fail_if_success refine Nx.at_do rfl rfl rfl rfl ?_); first | refine Nx.at_dec_t rfl rfl rfl rfl (by first | assumption | omega) ?_ | refine Nx.at_dec_f rfl rfl rfl rfl (by first | assumption | omega) ?_ | refine Nx.at_split rfl rfl rfl rfl (fun hc => ?_) (fun hc => ?_) | refine Nx.at_splitb rfl rfl rfl rfl (fun hc => ?_) (fun hc => ?_)))
          | ((with_reducible refine Nx.is_mix ?_); first | refine Nx.m ?_ | ((fail_if_success refine Nx.m_quiet_do rfl rfl rfl rfl rfl rfl rfl ?_ ?_); (fail_if_success refine Nx.m_loud_do rfl rfl rfl rfl rfl ?_); first | refine Nx.m_dec_t rfl rfl rfl rfl (by first | assumption | omega) ?_ | refine Nx.m_dec_f rfl rfl rfl rfl (by first | assumption | omega) ?_ | refine Nx.m_split rfl rfl rfl rfl (fun hc => ?_) (fun hc => ?_) | refine Nx.m_splitb rfl rfl rfl rfl (fun hc => ?_) (fun hc => ?_)))
          | ((fail_if_success (with_reducible refine Nx.is_at ?_)); (fail_if_success (with_reducible refine Nx.is_wp ?_)); (fail_if_success (with_reducible refine Nx.is_mix ?_)); first | refine Nx.ex ?_)
        exact Nx.ret_fn rfl [rowR A' c' l', Stars (l'.map sigR), Vec 3 1 none 0 0 []] ⟨A', c', l', none, 0, rfl, hl', rfl⟩ ((Ent.vec_nil _ _ _).trans (by (exact Ent.auto)))
    · have hE : expireE (l.map (·.1)) ro d t = 0 := by unfold expireE; rw [if_neg hno, if_neg c2]
      obtain ⟨hd, _, h40, hall⟩ := desk_ok.1 c1
      rw [hE, show expireL (l.map (·.1)) ro d t = (l.map (·.1)).map (expireO d t) from if_pos hE, show goneL (l.map (·.1)) ro d t = ((l.map (·.1)).filter (dueB d t)).map (·.n) from if_pos hE]
      rw [← hl'] at hall h40 ⊢
      generalize hlo' : l'.map (·.1) = lo at hall h40 ⊢
      have hlol : lo.length = l'.length := by rw [← hlo', List.length_map]
      refine Nx.vec_fact fun hv1 hv2 hv3 hA' => ?_
      repeat' first
        | ((with_reducible refine Nx.is_wp ?_); first | refine Nx.wo ?_ | refine Nx.p_dec rfl rfl (fun hc => ?_) (fun hc => ?_) | refine Nx.p_bool rfl rfl (fun hc => ?_) (fun hc => ?_))
        | ((first | refine Nx.at_op rfl rfl ?_ | refine Nx.m_loud rfl rfl rfl ?_ | refine Nx.at_do rfl rfl rfl rfl ?_ | refine Nx.m_loud_do rfl rfl rfl rfl rfl ?_); first | refine Nx.opr rfl rfl ?_ | refine Nx.callv rfl rfl rfl (by kernel_rfl) rfl hA ?_ | refine Nx.so ?_ | refine Nx.sb (fun bx => ?_) | refine Nx.sa (fun A2 c2 => ?_))
        | ((with_reducible refine Nx.is_at ?_); first | refine Nx.a ?_ | ((fail_if_success refine Nx.at_do rfl rfl rfl rfl ?_); first | refine Nx.at_dec_t rfl rfl rfl rfl (by first | assumption | omega) ?_ | refine Nx.at_dec_f rfl rfl rfl rfl (by first | assumption | omega) ?_ | refine Nx.at_split rfl rfl rfl rfl (fun hc => ?_) (fun hc => ?_) | refine Nx.at_splitb rfl rfl rfl rfl (fun hc => ?_) (fun hc => ?_)))
        | ((with_reducible refine Nx.is_mix ?_); first | refine Nx.m ?_ | ((fail_if_success refine Nx.m_quiet_do rfl rfl rfl rfl rfl rfl rfl ?_ ?_); (fail_if_success refine Nx.m_loud_do rfl rfl rfl rfl rfl ?_); first | refine Nx.m_dec_t rfl rfl rfl rfl (by first | assumption | omega) ?_ | refine Nx.m_dec_f rfl rfl rfl rfl (by first | assumption | omega) ?_ | refine Nx.m_split rfl rfl rfl rfl (fun hc => ?_) (fun hc => ?_) | refine Nx.m_splitb rfl rfl rfl rfl (fun hc => ?_) (fun hc => ?_)))
        | ((fail_if_success (with_reducible refine Nx.is_at ?_)); (fail_if_success (with_reducible refine Nx.is_wp ?_)); (fail_if_success (with_reducible refine Nx.is_mix ?_)); first | refine Nx.ex ?_)
      refine Nx.p_loop (σ := Nat × List OutM × Option Addr × Nat) (fun s => [(2, .int .i64 d), (3, .int .i64 t), (11, .slice A' l'.length c'), (13, .slice s.2.2.1 (((lo.take s.1).filter (dueB d t)).map (·.n)).length s.2.2.2), (33, .int .i64 l'.length), (34, .int .i64 (s.1 : Int))])
        (fun s => [Vec 50 7 A' l'.length c' (s.2.1.flatMap ouC), Vec 3 1 s.2.2.1 (((lo.take s.1).filter (dueB d t)).map (·.n)).length s.2.2.2 ((((lo.take s.1).filter (dueB d t)).map (·.n)).map (Value.int .i64)), Stars (l'.map sigR), F])
        (fun s => s.1 ≤ l'.length ∧ s.2.1.length = l'.length ∧ s.2.1.map (·.1) = (lo.take s.1).map (expireO d t) ++ lo.drop s.1 ∧ s.2.1.map sigR = l'.map sigR) (fun s => l'.length - s.1) (0, l', none, 0) rfl ⟨Nat.zero_le _, rfl, by rw [hlo']; simp, rfl⟩ ⟨rfl, rfl, rfl, rfl, rfl, rfl, trivial⟩ ((Ent.vec_nil _ _ _).trans (by (exact Ent.auto))) ?_
      rintro ⟨i, cur, Ag, cg⟩ ⟨hi, hcl, hcur, hsig⟩
      dsimp only at hi hcl hcur hsig ⊢
      by_cases hlt : i < l'.length
      · obtain ⟨hget, hset⟩ := exp_step (by omega) hcur
        have hic : i < cur.length := by omega
        rw [lo_at hic] at hget
        obtain ⟨v1, v2, _⟩ := hall i (by omega)
        obtain ⟨_, _, _, b4, _⟩ := valid_bd v1
        rw [← hget] at v2 b4
        have hO := ROpen_spec (cur.getD i default) I
        have hdt := due_take (d := d) (t := t) (show i < lo.length by omega)
        rw [← hget] at hdt hset
        have hgl : (((lo.take i).filter (dueB d t)).map (·.n)).length ≤ 1000 := by
          rw [List.length_map]
          have := List.length_filter_le (dueB d t) (lo.take i)
          rw [List.length_take] at this
          omega
        by_cases c3 : dueB d t (cur.getD i default).1 = true
        · have c4 := Bool.and_eq_true_iff.1 c3
          have c5 : (cur.getD i default).1.t + d ≤ t := of_decide_eq_true c4.2
          rw [c4.1] at hO
          rw [if_pos c3] at hdt
          rw [show expireO d t (cur.getD i default).1 = setSt (cur.getD i default).1 5 from if_pos c3] at hset
          repeat' first
            | ((with_reducible refine Nx.is_wp ?_); first | refine Nx.wo ?_ | refine Nx.p_dec rfl rfl (fun hc => ?_) (fun hc => ?_) | refine Nx.p_bool rfl rfl (fun hc => ?_) (fun hc => ?_))
            | ((first | refine Nx.at_op rfl rfl ?_ | refine Nx.m_loud rfl rfl rfl ?_ | refine Nx.at_do rfl rfl rfl rfl ?_ | refine Nx.m_loud_do rfl rfl rfl rfl rfl ?_); first | refine Nx.opr rfl rfl ?_ | refine Nx.callv rfl rfl rfl (by kernel_rfl) rfl hO ?_ | refine Nx.indexAddr_nat rfl rfl rfl rfl rfl (by omega) (hA' (by omega)) ?_ | refine Nx.loads rfl rfl rfl rfl (Rds.vecN 0 ouC_len rfl (by omega)) rfl ?_ | refine Nx.load rfl rfl rfl (Rd.vecFld 0 ouC_len rfl (by omega) 3 rfl) ?_ | refine Nx.store_fld 1 rfl rfl rfl rfl rfl rfl (by omega) ?_ | refine Nx.store_fld 0 rfl rfl rfl rfl rfl rfl (by omega) ?_ | refine Nx.so ?_ | refine Nx.sb (fun bx => ?_) | refine Nx.sa (fun A2 c2 => ?_))
            | ((with_reducible refine Nx.is_at ?_); first | refine Nx.a ?_ | ((fail_if_success refine Nx.at_do rfl rfl rfl rfl ?_); first | refine Nx.at_dec_t rfl rfl rfl rfl (by first | assumption | omega) ?_ | refine Nx.at_dec_f rfl rfl rfl rfl (by first | assumption | omega) ?_ | refine Nx.at_split rfl rfl rfl rfl (fun hc => ?_) (fun hc => ?_) | refine Nx.at_splitb rfl rfl rfl rfl (fun hc => ?_) (fun hc => ?_)))
            | ((with_reducible refine Nx.is_mix ?_); first | refine Nx.m ?_ | ((fail_if_success refine Nx.m_quiet_do rfl rfl rfl rfl rfl rfl rfl ?_ ?_); (fail_if_success refine Nx.m_loud_do rfl rfl rfl rfl rfl ?_); first | refine Nx.m_dec_t rfl rfl rfl rfl (by first | assumption | omega) ?_ | refine Nx.m_dec_f rfl rfl rfl rfl (by first | assumption | omega) ?_ | refine Nx.m_split rfl rfl rfl rfl (fun hc => ?_) (fun hc => ?_) | refine Nx.m_splitb rfl rfl rfl rfl (fun hc => ?_) (fun hc => ?_)))
            | ((fail_if_success (with_reducible refine Nx.is_at ?_)); (fail_if_success (with_reducible refine Nx.is_wp ?_)); (fail_if_success (with_reducible refine Nx.is_mix ?_)); first | refine Nx.ex ?_)
          refine Nx.ent (R' := [Vec 50 7 A' l'.length c' ((cur.flatMap ouC).set (i * 7 + 5) (.int .i64 5)), Vec 3 1 A2 ((((lo.take i).filter (dueB d t)).map (·.n)).length + 1) c2 ((((lo.take i).filter (dueB d t)).map (·.n)).map (Value.int .i64) ++ [Value.int .i64 ((i : Int) + 1)]), Stars (l'.map sigR), F]) (by (exact Ent.auto)) ?_
          rw [flat_set ouC_len (x' := (setSt (cur.getD i default).1 5, (cur.getD i default).2)) hic (by omega) rfl]
          rw [v2] at hdt
          refine Nx.again (i + 1, cur.set i (setSt (cur.getD i default).1 5, (cur.getD i default).2), A2, c2) ⟨hlt, by dsimp only; rw [List.length_set]; exact hcl, by dsimp only; rw [List.map_set]; exact hset, by dsimp only; rw [map_set_same (o := setSt (cur.getD i default).1 5) hic rfl]; exact hsig⟩ (by dsimp only; omega) ⟨rfl, rfl, rfl, by dsimp only; rw [hdt, List.length_append]; rfl, rfl, rfl, trivial⟩ ?_
          dsimp only
          rw [hdt, List.length_append, List.map_append]
          skip
          (exact Ent.auto)
        · have c3f : dueB d t (cur.getD i default).1 = false := by simpa using c3
          rw [if_neg c3, List.append_nil] at hdt
          rw [show expireO d t (cur.getD i default).1 = (cur.getD i default).1 from if_neg c3] at hset
          have hset2 : cur.map (·.1) = (lo.take (i + 1)).map (expireO d t) ++ lo.drop (i + 1) := by
            rw [← hset, ← lo_at hic, set_getD (by rw [List.length_map]; exact hic)]
          cases c4 : openB (cur.getD i default).1 with
          | false =>
            rw [c4] at hO
            repeat' first
              | ((with_reducible refine Nx.is_wp ?_); first | refine Nx.wo ?_ | refine Nx.p_dec rfl rfl (fun hc => ?_) (fun hc => ?_) | refine Nx.p_bool rfl rfl (fun hc => ?_) (fun hc => ?_))
              | ((first | refine Nx.at_op rfl rfl ?_ | refine Nx.m_loud rfl rfl rfl ?_ | refine Nx.at_do rfl rfl rfl rfl ?_ | refine Nx.m_loud_do rfl rfl rfl rfl rfl ?_); first | refine Nx.opr rfl rfl ?_ | refine Nx.callv rfl rfl rfl (by kernel_rfl) rfl hO ?_ | refine Nx.indexAddr_nat rfl rfl rfl rfl rfl (by omega) (hA' (by omega)) ?_ | refine Nx.loads rfl rfl rfl rfl (Rds.vecN 0 ouC_len rfl (by omega)) rfl ?_ | refine Nx.load rfl rfl rfl (Rd.vecFld 0 ouC_len rfl (by omega) 3 rfl) ?_ | refine Nx.store_fld 1 rfl rfl rfl rfl rfl rfl (by omega) ?_ | refine Nx.store_fld 0 rfl rfl rfl rfl rfl rfl (by omega) ?_ | refine Nx.so ?_ | refine Nx.sb (fun bx => ?_) | refine Nx.sa (fun A2 c2 => ?_))
              | ((with_reducible refine Nx.is_at ?_); first | refine Nx.a ?_ | ((fail_if_success refine Nx.at_do rfl rfl rfl rfl ?_); first | refine Nx.at_dec_t rfl rfl rfl rfl (by first | assumption | omega) ?_ | refine Nx.at_dec_f rfl rfl rfl rfl (by first | assumption | omega) ?_ | refine Nx.at_split rfl rfl rfl rfl (fun hc => ?_) (fun hc => ?_) | refine Nx.at_splitb rfl rfl rfl rfl (fun hc => ?_) (fun hc => ?_)))
              | ((with_reducible refine Nx.is_mix ?_); first | refine Nx.m ?_ | ((fail_if_success refine Nx.m_quiet_do rfl rfl rfl rfl rfl rfl rfl ?_ ?_); (fail_if_success refine Nx.m_loud_do rfl rfl rfl rfl rfl ?_); first | refine Nx.m_dec_t rfl rfl rfl rfl (by first | assumption | omega) ?_ | refine Nx.m_dec_f rfl rfl rfl rfl (by first | assumption | omega) ?_ | refine Nx.m_split rfl rfl rfl rfl (fun hc => ?_) (fun hc => ?_) | refine Nx.m_splitb rfl rfl rfl rfl (fun hc => ?_) (fun hc => ?_)))
              | ((fail_if_success (with_reducible refine Nx.is_at ?_)); (fail_if_success (with_reducible refine Nx.is_wp ?_)); (fail_if_success (with_reducible refine Nx.is_mix ?_)); first | refine Nx.ex ?_)
            exact Nx.again (i + 1, cur, Ag, cg) ⟨hlt, hcl, hset2, hsig⟩ (by dsimp only; omega) ⟨rfl, rfl, rfl, by dsimp only; rw [hdt]; rfl, rfl, rfl, trivial⟩ (by dsimp only; rw [hdt]; (exact Ent.auto))
          | true =>
            rw [c4] at hO
            have c5 : ¬ (cur.getD i default).1.t + d ≤ t := by
              unfold dueB at c3f
              rw [c4, Bool.true_and] at c3f
              exact of_decide_eq_false c3f
            repeat' first
              | ((with_reducible refine Nx.is_wp ?_); first | refine Nx.wo ?_ | refine Nx.p_dec rfl rfl (fun hc => ?_) (fun hc => ?_) | refine Nx.p_bool rfl rfl (fun hc => ?_) (fun hc => ?_))
              | ((first | refine Nx.at_op rfl rfl ?_ | refine Nx.m_loud rfl rfl rfl ?_ | refine Nx.at_do rfl rfl rfl rfl ?_ | refine Nx.m_loud_do rfl rfl rfl rfl rfl ?_); first | refine Nx.opr rfl rfl ?_ | refine Nx.callv rfl rfl rfl (by kernel_rfl) rfl hO ?_ | refine Nx.indexAddr_nat rfl rfl rfl rfl rfl (by omega) (hA' (by omega)) ?_ | refine Nx.loads rfl rfl rfl rfl (Rds.vecN 0 ouC_len rfl (by omega)) rfl ?_ | refine Nx.load rfl rfl rfl (Rd.vecFld 0 ouC_len rfl (by omega) 3 rfl) ?_ | refine Nx.store_fld 1 rfl rfl rfl rfl rfl rfl (by omega) ?_ | refine Nx.store_fld 0 rfl rfl rfl rfl rfl rfl (by omega) ?_ | refine Nx.so ?_ | refine Nx.sb (fun bx => ?_) | refine Nx.sa (fun A2 c2 => ?_))
              | ((with_reducible refine Nx.is_at ?_); first | refine Nx.a ?_ | ((fail_if_success refine Nx.at_do rfl rfl rfl rfl ?_); first | refine Nx.at_dec_t rfl rfl rfl rfl (by first | assumption | omega) ?_ | refine Nx.at_dec_f rfl rfl rfl rfl (by first | assumption | omega) ?_ | refine Nx.at_split rfl rfl rfl rfl (fun hc => ?_) (fun hc => ?_) | refine Nx.at_splitb rfl rfl rfl rfl (fun hc => ?_) (fun hc => ?_)))
              | ((with_reducible refine Nx.is_mix ?_); first | refine Nx.m ?_ | ((fail_if_success refine Nx.m_quiet_do rfl rfl rfl rfl rfl rfl rfl ?_ ?_); (fail_if_success refine Nx.m_loud_do rfl rfl rfl rfl rfl ?_); first | refine Nx.m_dec_t rfl rfl rfl rfl (by first | assumption | omega) ?_ | refine Nx.m_dec_f rfl rfl rfl rfl (by first | assumption | omega) ?_ | refine Nx.m_split rfl rfl rfl rfl (fun hc => ?_) (fun hc => ?_) | refine Nx.m_splitb rfl rfl rfl rfl (fun hc => ?_) (fun hc => ?_)))
              | ((fail_if_success (with_reducible refine Nx.is_at ?_)); (fail_if_success (with_reducible refine Nx.is_wp ?_)); (fail_if_success (with_reducible refine Nx.is_mix ?_)); first | refine Nx.ex ?_)
            exact Nx.again (i + 1, cur, Ag, cg) ⟨hlt, hcl, hset2, hsig⟩ (by dsimp only; omega) ⟨rfl, rfl, rfl, by dsimp only; rw [hdt]; rfl, rfl, rfl, trivial⟩ (by dsimp only; rw [hdt]; (exact Ent.auto))
      · obtain rfl : i = l'.length := by omega
        have hta : lo.take l'.length = lo := by rw [← hlol, List.take_length]
        rw [hta, show lo.drop l'.length = [] by rw [← hlol, List.drop_length], List.append_nil] at hcur
        rw [hta]
        repeat' first
          | ((with_reducible refine Nx.is_wp ?_); first | refine Nx.wo ?_ | refine Nx.p_dec rfl rfl (fun hc => ?_) (fun hc => ?_) | refine Nx.p_bool rfl rfl (fun hc => ?_) (fun hc => ?_))
          | ((first | refine Nx.at_op rfl rfl ?_ | refine Nx.m_loud rfl rfl rfl ?_ | refine Nx.at_do rfl rfl rfl rfl ?_ | refine Nx.m_loud_do rfl rfl rfl rfl rfl ?_); first | refine Nx.opr rfl rfl ?_ | refine Nx.so ?_ | refine Nx.sb (fun bx => ?_) | refine Nx.sa (fun A2 c2 => ?_))
          | ((with_reducible refine Nx.is_at ?_); first | refine Nx.a ?_ | ((fail_if_success refine Nx.at_do rfl rfl rfl rfl ?_); first | refine Nx.at_dec_t rfl rfl rfl rfl (by first | assumption | omega) ?_ | refine Nx.at_dec_f rfl rfl rfl rfl (by first | assumption | omega) ?_ | refine Nx.at_split rfl rfl rfl rfl (fun hc => ?_) (fun hc => ?_) | refine Nx.at_splitb rfl rfl rfl rfl (fun hc => ?_) (fun hc => ?_)))
          | ((with_reducible refine Nx.is_mix ?_); first | refine Nx.m ?_ | ((fail_if_success refine Nx.m_quiet_do rfl rfl rfl rfl rfl rfl rfl ?_ ?_); (fail_if_success refine Nx.m_loud_do rfl rfl rfl rfl rfl ?_); first | refine Nx.m_dec_t rfl rfl rfl rfl (by first | assumption | omega) ?_ | refine Nx.m_dec_f rfl rfl rfl rfl (by first | assumption | omega) ?_ | refine Nx.m_split rfl rfl rfl rfl (fun hc => ?_) (fun hc => ?_) | refine Nx.m_splitb rfl rfl rfl rfl (fun hc => ?_) (fun hc => ?_)))
          | ((fail_if_success (with_reducible refine Nx.is_at ?_)); (fail_if_success (with_reducible refine Nx.is_wp ?_)); (fail_if_success (with_reducible refine Nx.is_mix ?_)); first | refine Nx.ex ?_)
        exact Nx.ret_fn rfl [rowR A' c' cur, Stars (cur.map sigR), Vec 3 1 Ag ((lo.filter (dueB d t)).map (·.n)).length cg (((lo.filter (dueB d t)).map (·.n)).map (Value.int .i64))] ⟨A', c', cur, Ag, cg, by rw [hcl], hcur, rfl⟩ (by unfold rowR; rw [hcl, hsig]; (exact Ent.auto))
  · have hE : expireE (l.map (·.1)) ro d t = deskE (l.map (·.1)) ro d := if_pos c1
    rw [show expireL (l.map (·.1)) ro d t = l.map (·.1) from if_neg (by rw [hE]; exact c1), show goneL (l.map (·.1)) ro d t = [] from if_neg (by rw [hE]; exact c1), hE]
    repeat' first
      | ((with_reducible refine Nx.is_wp ?_); first | refine Nx.wo ?_ | refine Nx.p_dec rfl rfl (fun hc => ?_) (fun hc => ?_) | refine Nx.p_bool rfl rfl (fun hc => ?_) (fun hc => ?_))
      | ((first | refine Nx.at_op rfl rfl ?_ | refine Nx.m_loud rfl rfl rfl ?_ | refine Nx.at_do rfl rfl rfl rfl ?_ | refine Nx.m_loud_do rfl rfl rfl rfl rfl ?_); first | refine Nx.opr rfl rfl ?_ | refine Nx.callv rfl rfl rfl (by kernel_rfl) rfl hA ?_ | refine Nx.so ?_ | refine Nx.sb (fun bx => ?_) | refine Nx.sa (fun A2 c2 => ?_))
      | ((with_reducible refine Nx.is_at ?_); first | refine Nx.a ?_ | ((fail_if_success refine Nx.at_do rfl rfl rfl rfl ?_); first | refine Nx.at_dec_t rfl rfl rfl rfl (by first | assumption | omega) ?_ | refine Nx.at_dec_f rfl rfl rfl rfl (by first | assumption | omega) ?_ | refine Nx.at_split rfl rfl rfl rfl (fun hc => ?_) (fun hc => ?_) | refine Nx.at_splitb rfl rfl rfl rfl (fun hc => ?_) (fun hc => ?_)))
      | ((with_reducible refine Nx.is_mix ?_); first | refine Nx.m ?_ | ((fail_if_success refine Nx.m_quiet_do rfl rfl rfl rfl rfl rfl rfl ?_ ?_); (fail_if_success refine Nx.m_loud_do rfl rfl rfl rfl rfl ?_); first | refine Nx.m_dec_t rfl rfl rfl rfl (by first | assumption | omega) ?_ | refine Nx.m_dec_f rfl rfl rfl rfl (by first | assumption | omega) ?_ | refine Nx.m_split rfl rfl rfl rfl (fun hc => ?_) (fun hc => ?_) | refine Nx.m_splitb rfl rfl rfl rfl (fun hc => ?_) (fun hc => ?_)))
      | ((fail_if_success (with_reducible refine Nx.is_at ?_)); (fail_if_success (with_reducible refine Nx.is_wp ?_)); (fail_if_success (with_reducible refine Nx.is_mix ?_)); first | refine Nx.ex ?_)
    exact Nx.ret_fn rfl [rowR A' c' l', Stars (l'.map sigR), Vec 3 1 none 0 0 []] ⟨A', c', l', none, 0, rfl, hl', rfl⟩ ((Ent.vec_nil _ _ _).trans (by (exact Ent.auto)))
end Go.Proofs.Ytaoeapmdhpkidaa
