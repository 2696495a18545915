/- Contracts of functions of the given program, and lemmas about plain lists and numbers: what the laws of this seat lean on. -/
import Derived.Test.YthncphjakklnoaaIt9
namespace Go.Proofs.Ythncphjakklnoaa
open Go.Eng Go.Sol
attribute [local irreducible] opK wpList Code.wp Exit.then Exit.inBlock fnPost bodyPost Nx Calls Oper.wp Rd Rds Wr Ent Stars Blk Again Vec FnSpec wpMix QRun Stop Upto wpAt
/-! The same equations in another order; each solution by itself -/
theorem touch_same {N : Nat} {l r : List EqR} (h : ∀ q, q ∈ l ↔ q ∈ r) : touch N (eqns l) = touch N (eqns r) := by
  unfold touch
  refine List.filter_congr fun c _ => ?_
  rw [Bool.eq_iff_iff, List.any_eq_true, List.any_eq_true]
  constructor
  · rintro ⟨q, hq, hc⟩
    obtain ⟨p, hp, rfl⟩ := List.mem_map.1 hq
    exact ⟨eqn p, List.mem_map.2 ⟨p, (h p).1 hp, rfl⟩, hc⟩
  · rintro ⟨q, hq, hc⟩
    obtain ⟨p, hp, rfl⟩ := List.mem_map.1 hq
    exact ⟨eqn p, List.mem_map.2 ⟨p, (h p).2 hp, rfl⟩, hc⟩
theorem sols_same {N : Nat} {l r : List EqR} (hl : ∀ q ∈ l, GoodE N q) (h : ∀ q, q ∈ l ↔ q ∈ r) : solsOf N (eqns l) = solsOf N (eqns r) := by
  have hr : ∀ q ∈ r, GoodE N q := fun q hq => hl q ((h q).2 hq)
  have ht := touch_same (N := N) h
  refine sorted_same (r := ltU false (touch N (eqns l))) (fun a => ltU_irrefl) (fun a b => ltU_asymm) (sols_sorted hl) (by rw [ht]; exact sols_sorted hr) fun s => ?_
  rw [mem_sols hl, mem_sols hr, ht]
  refine ⟨fun g => ⟨g.len, g.same, g.pos, fun q hq => ?_⟩, fun g => ⟨g.len, g.same, g.pos, fun q hq => ?_⟩⟩
  · obtain ⟨p, hp, rfl⟩ := List.mem_map.1 hq
    exact g.sum _ (List.mem_map.2 ⟨p, (h p).2 hp, rfl⟩)
  · obtain ⟨p, hp, rfl⟩ := List.mem_map.1 hq
    exact g.sum _ (List.mem_map.2 ⟨p, (h p).1 hp, rfl⟩)
theorem room_le {l r : List EqR} (h : ∀ q ∈ l, q ∈ r) (c : Nat) : roomOf (eqns r) c ≤ roomOf (eqns l) c := by
  have h1 := (le_roomOf (c := c) (eqns r)).1 (Int.le_refl _)
  refine (le_roomOf (eqns l)).2 ⟨h1.1, fun q hq hc => ?_⟩
  obtain ⟨p, hp, rfl⟩ := List.mem_map.1 hq
  exact h1.2 _ (List.mem_map.2 ⟨p, h p hp, rfl⟩) hc
theorem small_same {N : Nat} {l r : List EqR} (h : ∀ q, q ∈ l ↔ q ∈ r) : smallB N (eqns l) = smallB N (eqns r) := by
  unfold smallB roomsOf
  rw [touch_same h]
  congr 1
  refine List.map_congr_left fun c _ => Int.le_antisymm (room_le (fun q hq => (h q).2 hq) c) (room_le (fun q hq => (h q).1 hq) c)
theorem chk_rev {N : Nat} {qs : List EqR} (hN : 1 ≤ N ∧ N ≤ 48) (hl : qs.length ≤ 1152) (hg : ∀ q ∈ qs, GoodE N q) : chkQ (N : Int) qs.reverse = chkQ (N : Int) qs := by
  rw [chk_of hN hl hg, chk_of hN (by rw [List.length_reverse]; exact hl) fun q hq => hg q (List.mem_reverse.1 hq), small_same fun q => List.mem_reverse]
theorem solsR_rev {N : Nat} {qs : List EqR} (hN : 1 ≤ N ∧ N ≤ 48) (hl : qs.length ≤ 1152) (hg : ∀ q ∈ qs, GoodE N q) (most : Int) : solsR (N : Int) qs.reverse most = solsR (N : Int) qs most := by
  unfold solsR
  rw [chk_rev hN hl hg, Int.toNat_natCast, sols_same (fun q hq => hg q (List.mem_reverse.1 hq)) fun q => List.mem_reverse]
theorem prodX_mono : ∀ {U : List Nat} {f g : Nat → Int}, (∀ c ∈ U, 1 ≤ f c ∧ f c ≤ g c) → prodX (U.map f) ≤ prodX (U.map g)
  | [], _, _, _ => Int.le_refl _
  | c :: U, f, g, h => by
    have ih := prodX_mono (U := U) fun d hd => h d (List.mem_cons_of_mem _ hd)
    have hc := h c List.mem_cons_self
    have hp := prodX_pos (xs := U.map f) fun x hx => by
      obtain ⟨d, hd, rfl⟩ := List.mem_map.1 hx
      exact (h d (List.mem_cons_of_mem _ hd)).1
    show f c * prodX (U.map f) ≤ g c * prodX (U.map g)
    exact Int.mul_le_mul hc.2 ih (by omega) (by omega)
theorem small_le {N : Nat} {l r : List EqR} (hr : ∀ q ∈ r, GoodE N q) (h : ∀ q ∈ l, q ∈ r) (ht : touch N (eqns r) = touch N (eqns l)) (hs : smallB N (eqns l) = true) : smallB N (eqns r) = true := by
  have hl : ∀ q ∈ l, GoodE N q := fun q hq => hr q (h q hq)
  have hb : ∀ {z : List EqR}, (∀ q ∈ z, GoodE N q) → ∀ x ∈ roomsOf N (eqns z), 1 ≤ x := fun hz x hx => by
    unfold roomsOf at hx
    obtain ⟨c, _, rfl⟩ := List.mem_map.1 hx
    exact (room_bd (c := c) fun q hq => (cells_bd hz q hq).1).1
  unfold smallB at hs ⊢
  rw [sizeB_iff (hb hl) (by decide) (by decide), Int.one_mul] at hs
  rw [sizeB_iff (hb hr) (by decide) (by decide), Int.one_mul]
  refine Int.le_trans ?_ hs
  unfold roomsOf
  rw [ht]
  exact prodX_mono fun c _ => ⟨(room_bd (c := c) fun q hq => (cells_bd hr q hq).1).1, room_le h c⟩
/-- Equations that say the numbers of a solution. -/
structure Own (U : List Nat) (x : List Int) (own : List EqR) : Prop where
  form : ∀ q ∈ own, ∃ c ∈ U, q.1.2.2 = [(c : Int)] ∧ q.2 = x.getD c 0
  has : ∀ c ∈ U, ∃ q ∈ own, q.1.2.2 = [(c : Int)] ∧ q.2 = x.getD c 0
theorem own_good {N : Nat} {l own : List EqR} {x : List Int} (hg : ∀ q ∈ l, GoodE N q) (hx : x ∈ solsOf N (eqns l)) (ho : Own (touch N (eqns l)) x own) : ∀ q ∈ own, GoodE N q := fun q hq => by
  obtain ⟨c, hc, h1, h2⟩ := ho.form q hq
  have hp := ((mem_sols hg).1 hx).pos c hc
  refine ⟨by rw [h1]; simp, by rw [h2]; exact hp, by rw [h1]; exact List.pairwise_singleton _ _, fun y hy => ?_⟩
  rw [h1, List.mem_singleton] at hy
  have := (mem_touch.1 hc).1
  omega
theorem own_touch {N : Nat} {l own : List EqR} {x : List Int} (ho : Own (touch N (eqns l)) x own) : touch N (eqns (l ++ own)) = touch N (eqns l) := by
  unfold touch
  refine List.filter_congr fun c hcN => ?_
  rw [Bool.eq_iff_iff, List.any_eq_true, List.any_eq_true]
  constructor
  · rintro ⟨q, hq, hc⟩
    obtain ⟨p, hp, rfl⟩ := List.mem_map.1 hq
    rcases List.mem_append.1 hp with hp | hp
    · exact ⟨eqn p, List.mem_map.2 ⟨p, hp, rfl⟩, hc⟩
    · obtain ⟨d, hd, h1, _⟩ := ho.form p hp
      have hc := of_decide_eq_true hc
      unfold eqn at hc
      rw [h1] at hc
      have : c = d := by simpa using hc
      obtain ⟨_, q, hq, hx⟩ := mem_touch.1 hd
      exact ⟨q, hq, decide_eq_true (by rw [this]; exact hx)⟩
  · rintro ⟨q, hq, hc⟩
    obtain ⟨p, hp, rfl⟩ := List.mem_map.1 hq
    exact ⟨eqn p, List.mem_map.2 ⟨p, List.mem_append.2 (.inl hp), rfl⟩, hc⟩
theorem all_one {r : List Int → List Int → Prop} (hi : ∀ a, ¬ r a a) {x : List Int} : ∀ {S : List (List Int)}, S.Pairwise r → (∀ s ∈ S, s = x) → x ∈ S → S = [x]
  | [], _, _, h => by cases h
  | [a], _, h, _ => by rw [h a List.mem_cons_self]
  | a :: b :: S, hp, h, _ => by
    have h1 := h a List.mem_cons_self
    have h2 := h b (List.mem_cons_of_mem _ List.mem_cons_self)
    have := (List.pairwise_cons.1 hp).1 b List.mem_cons_self
    rw [h1, h2] at this
    exact absurd this (hi x)
theorem own_sols {N : Nat} {l own : List EqR} {x : List Int} (hg : ∀ q ∈ l, GoodE N q) (hx : x ∈ solsOf N (eqns l)) (ho : Own (touch N (eqns l)) x own) : solsOf N (eqns (l ++ own)) = [x] := by
  have hgo := own_good hg hx ho
  have ht := own_touch ho
  have hga : ∀ q ∈ l ++ own, GoodE N q := fun q hq => (List.mem_append.1 hq).elim (hg q) (hgo q)
  have gx := (mem_sols hg).1 hx
  refine all_one (r := ltU false (touch N (eqns (l ++ own)))) (fun a => ltU_irrefl) (sols_sorted hga) (fun s hs => ?_) ?_
  · have gs := (mem_sols hga).1 hs
    rw [ht] at gs
    refine ext_len (by rw [gs.len, gx.len]) fun c => ?_
    by_cases hc : c ∈ touch N (eqns l)
    · obtain ⟨q, hq, h1, h2⟩ := ho.has c hc
      have := gs.sum (eqn q) (List.mem_map.2 ⟨q, List.mem_append.2 (.inr hq), rfl⟩)
      unfold eqn at this
      rw [h1, h2] at this
      have h3 : s.getD c 0 + 0 = x.getD c 0 := this
      omega
    · rw [gs.same c hc, gx.same c hc]
  · refine (mem_sols hga).2 ⟨gx.len, fun c hc => gx.same c (by rwa [ht] at hc), fun c hc => gx.pos c (by rwa [ht] at hc), fun q hq => ?_⟩
    obtain ⟨p, hp, rfl⟩ := List.mem_map.1 hq
    rcases List.mem_append.1 hp with hp | hp
    · exact gx.sum _ (List.mem_map.2 ⟨p, hp, rfl⟩)
    · obtain ⟨c, hc, h1, h2⟩ := ho.form p hp
      unfold eqn
      rw [h1, h2]
      show x.getD c 0 + 0 = _
      rw [Int.add_zero]
theorem own_solsR {N : Nat} {l own : List EqR} {x : List Int} (hN : 1 ≤ N ∧ N ≤ 48) (hll : l.length ≤ 1000) (hol : own.length ≤ 100) (hg : ∀ q ∈ l, GoodE N q) (hx : x ∈ solsOf N (eqns l)) (ho : Own (touch N (eqns l)) x own) (hsm : smallB N (eqns l) = true) : solsR (N : Int) (l ++ own) 5 = ([x], 0) := by
  have hgo := own_good hg hx ho
  have hga : ∀ q ∈ l ++ own, GoodE N q := fun q hq => (List.mem_append.1 hq).elim (hg q) (hgo q)
  have hsm2 := small_le hga (fun q hq => List.mem_append.2 (.inl hq)) (own_touch ho) hsm
  have hchk : chkQ (N : Int) (l ++ own) = 0 := by
    rw [chk_of hN (by rw [List.length_append]; omega) hga, hsm2, if_neg (by decide)]
  have := solsR_ok hchk (most := 5) (by decide) (by decide)
  rw [own_sols hg hx ho] at this
  exact this
end Go.Proofs.Ythncphjakklnoaa
/- Contracts of functions of the given program, and lemmas about plain lists and numbers: what the laws of this seat lean on. -/
namespace Go.Proofs.Ythncphjakklnoaa
open Go.Eng Go.Sol
attribute [local irreducible] opK wpList Code.wp Exit.then Exit.inBlock fnPost bodyPost Nx Calls Oper.wp Rd Rds Wr Ent Stars Blk Again Vec FnSpec wpMix QRun Stop Upto wpAt
theorem eq_one (l : List EqR) : ∀ u ∈ l.flatMap eqC, u.oneCell' = true := fun u hu => by
  obtain ⟨x, _, hx⟩ := List.mem_flatMap.1 hu
  simp only [eqC, List.mem_cons, List.not_mem_nil, or_false] at hx
  rcases hx with rfl | rfl <;> rfl
theorem eq_len (l : List EqR) : (l.flatMap eqC).length = l.length * 2 := flat_len eqC_len l
theorem rev_step {qs : List EqR} {k : Nat} (hk : k < qs.length) : (qs.drop k).reverse = (qs.drop (k + 1)).reverse ++ [qs.getD k default] := by
  rw [List.drop_eq_getElem_cons hk, List.reverse_cons, List.getD_eq_getElem?_getD, List.getElem?_eq_getElem hk]; rfl
theorem own_of {U : List Nat} {x : List Int} {ow : List EqR} (h : ow.map cont = U.map fun c : Nat => ([(c : Int)], x.getD c 0)) : Own U x ow := by
  refine ⟨fun q hq => ?_, fun c hc => ?_⟩
  · have : cont q ∈ ow.map cont := List.mem_map.2 ⟨q, hq, rfl⟩
    rw [h] at this
    obtain ⟨c, hc, he⟩ := List.mem_map.1 this
    obtain ⟨h1, h2⟩ := Prod.mk.inj he
    exact ⟨c, hc, h1.symm, h2.symm⟩
  · have : (([(c : Int)], x.getD c 0) : List Int × Int) ∈ U.map fun c : Nat => ([(c : Int)], x.getD c 0) := List.mem_map.2 ⟨c, hc, rfl⟩
    rw [← h] at this
    obtain ⟨q, hq, he⟩ := List.mem_map.1 this
    obtain ⟨h1, h2⟩ := Prod.mk.inj he
    exact ⟨q, hq, h1, h2⟩
theorem nat_at {U : List Nat} {j : Nat} (hj : j < U.length) : (U.map Int.ofNat).getD j default = ((U.getD j 0 : Nat) : Int) := by
  rw [List.getD_eq_getElem?_getD, List.getElem?_map, List.getD_eq_getElem?_getD, List.getElem?_eq_getElem hj]; rfl
theorem nat_in {U : List Nat} {j : Nat} (hj : j < U.length) : U.getD j 0 ∈ U := by
  rw [List.getD_eq_getElem?_getD, List.getElem?_eq_getElem hj]; exact List.getElem_mem hj
theorem take_snocN {U : List Nat} {j : Nat} (hj : j < U.length) : U.take (j + 1) = U.take j ++ [U.getD j 0] := by
  rw [List.take_succ_eq_append_getElem hj, List.getD_eq_getElem?_getD, List.getElem?_eq_getElem hj]; rfl
theorem Nx.giveEq {C : Cx} {e : Env} {I : PH} {R : List Res} {K : Act → World → Prop} {A : Option Addr} {c : Nat} {qs : List EqR} {RR : List Res}
    (hR : Ent R (Stars (eqsR A c qs) :: RR)) (h : ∀ I', PH.le I I' → Eqs I' A c qs → Nx C e I' RR K) : Nx C e I R K := by
  refine Nx.ent hR ?_
  refine Nx.freezeAt 0 rfl fun I1 m1 hI1 hm1 h1 => ?_
  obtain ⟨a2, ha2, b2⟩ := Stars.get 0 h1 rfl
  obtain ⟨a3, ha3, b3⟩ := Stars.get 1 h1 rfl
  exact h I1 hI1 (eqs_of hm1 b2 ha2 b3 ha3)
set_option maxRecDepth 10000 in
set_option maxHeartbeats 16000000 in
theorem IntegersTurn_spec (A : Option Addr) (c : Nat) (l : List Int) (which : Int) (I : PH) (hl : Bytes I A c l) (hx : ∀ x ∈ l, 0 ≤ x ∧ x < 256) (hwh : 0 ≤ which ∧ which < 256) :
    FnSpec Try.prog 5 [.slice A l.length c, .int .u8 which] I [] (fun v R' => v = .bool true ∧ R' = []) := by
  have hL := bytes_take hl hx
  refine FnSpec.enterP Try.func5 rfl Try.ntmps5 rfl fun w F => ?_
  repeat' first
    | ((with_reducible refine Nx.is_wp ?_); first | refine Nx.p_stopr 2 rfl ?_ | refine Nx.wo ?_ | refine Nx.p_dec rfl rfl (fun hc => ?_) (fun hc => ?_) | refine Nx.p_bool rfl rfl (fun hc => ?_) (fun hc => ?_))
    | ((first | refine Nx.at_op rfl rfl ?_ | refine Nx.m_loud rfl rfl rfl ?_ | refine Nx.at_do rfl rfl rfl rfl ?_ | refine Nx.m_loud_do rfl rfl rfl rfl rfl ?_); first | refine Nx.opr rfl rfl ?_ | (refine Nx.call (Rpre := []) rfl rfl rfl (by kernel_rfl) rfl (New_codes A c l I hl) (Ent.refl _) ?_; rintro _ _ ⟨b, rfl, rfl⟩) | (refine Nx.call rfl rfl rfl (by kernel_rfl) rfl (Equations_made b A c _ 0 2 I hL (Nat.zero_le _) (by omega)) (by (exact Ent.auto)) ?_; rintro _ _ ⟨N, At, ct, t, Aq, cq, qs, k1, rfl, hE, hk1, rfl⟩) | refine Nx.so ?_ | refine Nx.sb (fun bx => ?_) | refine Nx.sa (fun A2 c2 => ?_))
    | ((with_reducible refine Nx.is_at ?_); first | refine Nx.a ?_ | ((fail_if_success refine Nx.at_do rfl rfl rfl rfl ?_); first | refine Nx.at_dec_t rfl rfl rfl rfl (by first | assumption | omega) ?_ | refine Nx.at_dec_f rfl rfl rfl rfl (by first | assumption | omega) ?_ | refine Nx.at_split rfl rfl rfl rfl (fun hc => ?_) (fun hc => ?_) | refine Nx.at_splitb rfl rfl rfl rfl (fun hc => ?_) (fun hc => ?_)))
    | ((with_reducible refine Nx.is_mix ?_); first | refine Nx.m ?_ | ((fail_if_success refine Nx.m_quiet_do rfl rfl rfl rfl rfl rfl rfl ?_ ?_); (fail_if_success refine Nx.m_loud_do rfl rfl rfl rfl rfl ?_); first | refine Nx.m_dec_t rfl rfl rfl rfl (by first | assumption | omega) ?_ | refine Nx.m_dec_f rfl rfl rfl rfl (by first | assumption | omega) ?_ | refine Nx.m_split rfl rfl rfl rfl (fun hc => ?_) (fun hc => ?_) | refine Nx.m_splitb rfl rfl rfl rfl (fun hc => ?_) (fun hc => ?_)))
    | ((fail_if_success (with_reducible refine Nx.is_at ?_)); (fail_if_success (with_reducible refine Nx.is_wp ?_)); (fail_if_success (with_reducible refine Nx.is_mix ?_)); first | refine Nx.ex ?_)
  refine Nx.unstop ?_
  refine Nx.giveEqs (At := At) (ct := ct) (t := t) (A := Aq) (c := cq) (qs := qs) (RR := [F]) (by refine Ent.trans ?_ Ent.stars; unfold eqsR; (exact Ent.auto)) fun I1 hI1 ht hq => ?_
  have hall := hE.all
  have hN := hE.n
  have hfew := hE.few
  have hg := hE.good
  have htn := hE.len
  have hchk := chk_of hN (show qs.length ≤ 1152 by omega) hg
  have hS := Solutions_spec (N : Int) Aq cq qs ((50 : Nat) : Int) I1 hq (by omega)
  have hcv : ∃ so er, solsR (N : Int) qs ((50 : Nat) : Int) = (so, er) ∧ so.length ≤ 50 ∧ ((er = 1 ∧ so = []) ∨ (er = 0 ∧ so = (solsOf N (eqns qs)).take 50 ∧ smallB N (eqns qs) = true ∧ 0 < so.length)) := by
    by_cases hsm : smallB N (eqns qs) = false
    · rw [if_pos hsm] at hchk
      exact ⟨[], 1, by unfold solsR; rw [hchk, if_neg (by decide)], by simp, .inl ⟨rfl, rfl⟩⟩
    · rw [if_neg hsm] at hchk
      refine ⟨_, 0, solsR_ok hchk (by omega) (by omega), by rw [List.length_take]; omega, .inr ⟨rfl, rfl, sm_eq hsm, ?_⟩⟩
      rw [List.length_take]
      have := List.length_pos_iff.2 hE.some
      omega
  obtain ⟨so, er, hse, hso9, hcases⟩ := hcv
  have hrev := solsR_rev hN (show qs.length ≤ 1152 by omega) hg ((50 : Nat) : Int)
  rw [hse] at hrev hS
  dsimp only at hS
  have hS2 := fun (A' : Option Addr) (c' : Nat) (I' : PH) (h : Eqs I' A' c' qs.reverse) (h9 : (allC qs.reverse).length ≤ 100000) => Solutions_spec (N : Int) A' c' qs.reverse ((50 : Nat) : Int) I' h h9
  simp only [hrev] at hS2
  have har : (allC qs.reverse).length ≤ 100000 := by
    have h1 := allC_good (n := N) (l := qs.reverse) fun q hq => hg q (List.mem_reverse.1 hq)
    rw [List.length_reverse] at h1
    have h2 := Nat.mul_le_mul hfew hN.2
    omega
  repeat' first
    | ((with_reducible refine Nx.is_wp ?_); first | refine Nx.p_stopr 5 rfl ?_ | refine Nx.wo ?_ | refine Nx.p_dec rfl rfl (fun hc => ?_) (fun hc => ?_) | refine Nx.p_bool rfl rfl (fun hc => ?_) (fun hc => ?_))
    | ((first | refine Nx.at_op rfl rfl ?_ | refine Nx.m_loud rfl rfl rfl ?_ | refine Nx.at_do rfl rfl rfl rfl ?_ | refine Nx.m_loud_do rfl rfl rfl rfl rfl ?_); first | refine Nx.opr rfl rfl ?_ | (refine Nx.call (Rpre := []) rfl rfl rfl (by kernel_rfl) rfl (little_spec (N : Int) Aq cq qs I1 hq) (Ent.refl _) ?_; rintro _ _ ⟨bl, rfl, rfl⟩; cases bl) | refine Nx.callv rfl rfl rfl (by kernel_rfl) rfl (awakeI_spec _) ?_ | (refine Nx.call (Rpre := []) rfl rfl rfl (by kernel_rfl) rfl hS (Ent.refl _) ?_; rintro _ _ ⟨As, cs, o, rfl, ho, rfl⟩) | refine Nx.so ?_ | refine Nx.sb (fun bx => ?_) | refine Nx.sa (fun A2 c2 => ?_))
    | ((with_reducible refine Nx.is_at ?_); first | refine Nx.a ?_ | ((fail_if_success refine Nx.at_do rfl rfl rfl rfl ?_); first | refine Nx.at_dec_t rfl rfl rfl rfl (by first | assumption | omega) ?_ | refine Nx.at_dec_f rfl rfl rfl rfl (by first | assumption | omega) ?_ | refine Nx.at_split rfl rfl rfl rfl (fun hc => ?_) (fun hc => ?_) | refine Nx.at_splitb rfl rfl rfl rfl (fun hc => ?_) (fun hc => ?_)))
    | ((with_reducible refine Nx.is_mix ?_); first | refine Nx.m ?_ | ((fail_if_success refine Nx.m_quiet_do rfl rfl rfl rfl rfl rfl rfl ?_ ?_); (fail_if_success refine Nx.m_loud_do rfl rfl rfl rfl rfl ?_); first | refine Nx.m_dec_t rfl rfl rfl rfl (by first | assumption | omega) ?_ | refine Nx.m_dec_f rfl rfl rfl rfl (by first | assumption | omega) ?_ | refine Nx.m_split rfl rfl rfl rfl (fun hc => ?_) (fun hc => ?_) | refine Nx.m_splitb rfl rfl rfl rfl (fun hc => ?_) (fun hc => ?_)))
    | ((fail_if_success (with_reducible refine Nx.is_at ?_)); (fail_if_success (with_reducible refine Nx.is_wp ?_)); (fail_if_success (with_reducible refine Nx.is_mix ?_)); first | refine Nx.ex ?_)
  · exact Nx.imm_le hI1 (Nx.ret_fn rfl [] ⟨rfl, rfl⟩ (by (exact Ent.auto)))
  refine Nx.unstop ?_
  try dsimp only at ho
  refine Nx.giveRows (A := As) (c := cs) (o := o) (RR := [F]) (by refine Ent.trans ?_ Ent.stars; unfold rowsR; (exact Ent.auto)) fun I2 hI2 hrows => ?_
  replace ht := ht.mono hI2
  replace hq := hq.mono hI2
  have hle2 := hI1.trans hI2
  have hol : o.length = so.length := by rw [← ho, List.length_map]
  repeat' first
    | ((with_reducible refine Nx.is_wp ?_); first | refine Nx.wo ?_ | refine Nx.p_dec rfl rfl (fun hc => ?_) (fun hc => ?_) | refine Nx.p_bool rfl rfl (fun hc => ?_) (fun hc => ?_))
    | ((first | refine Nx.at_op rfl rfl ?_ | refine Nx.m_loud rfl rfl rfl ?_ | refine Nx.at_do rfl rfl rfl rfl ?_ | refine Nx.m_loud_do rfl rfl rfl rfl rfl ?_); first | refine Nx.opr rfl rfl ?_ | refine Nx.so ?_ | refine Nx.sb (fun bx => ?_) | refine Nx.sa (fun A2 c2 => ?_))
    | ((with_reducible refine Nx.is_at ?_); first | refine Nx.a ?_ | ((fail_if_success refine Nx.at_do rfl rfl rfl rfl ?_); first | refine Nx.at_dec_t rfl rfl rfl rfl (by first | assumption | omega) ?_ | refine Nx.at_dec_f rfl rfl rfl rfl (by first | assumption | omega) ?_ | refine Nx.at_split rfl rfl rfl rfl (fun hc => ?_) (fun hc => ?_) | refine Nx.at_splitb rfl rfl rfl rfl (fun hc => ?_) (fun hc => ?_)))
    | ((with_reducible refine Nx.is_mix ?_); first | refine Nx.m ?_ | ((fail_if_success refine Nx.m_quiet_do rfl rfl rfl rfl rfl rfl rfl ?_ ?_); (fail_if_success refine Nx.m_loud_do rfl rfl rfl rfl rfl ?_); first | refine Nx.m_dec_t rfl rfl rfl rfl (by first | assumption | omega) ?_ | refine Nx.m_dec_f rfl rfl rfl rfl (by first | assumption | omega) ?_ | refine Nx.m_split rfl rfl rfl rfl (fun hc => ?_) (fun hc => ?_) | refine Nx.m_splitb rfl rfl rfl rfl (fun hc => ?_) (fun hc => ?_)))
    | ((fail_if_success (with_reducible refine Nx.is_at ?_)); (fail_if_success (with_reducible refine Nx.is_wp ?_)); (fail_if_success (with_reducible refine Nx.is_mix ?_)); first | refine Nx.ex ?_)
  refine Nx.p_loop (σ := Nat × Option Addr × Nat) (fun s => [(1, .int .u8 which), (5, .int .i64 (N : Int)), (7, .slice Aq qs.length cq), (8, .slice As o.length cs), (9, .int .i64 er), (10, .slice s.2.1 (qs.drop s.1).reverse.length s.2.2), (11, .int .i64 ((s.1 : Int) - 1))])
    (fun s => [Vec 45 2 s.2.1 (qs.drop s.1).reverse.length s.2.2 ((qs.drop s.1).reverse.flatMap eqC), F]) (fun s => s.1 ≤ qs.length) (fun s => s.1) (qs.length, none, 0) rfl (Nat.le_refl _) ⟨rfl, rfl, rfl, rfl, rfl, by rw [List.drop_length]; rfl, rfl, trivial⟩ (by rw [List.drop_length]; exact (Ent.vec_nil 45 2 _).trans (by (exact Ent.auto))) ?_
  rintro ⟨k, Ar, cr⟩ hk
  dsimp only at hk ⊢
  cases k with
  | succ k =>
    have hk1 : (((k + 1 : Nat) : Int) - 1).toNat = k := by omega
    have hrs := rev_step hk
    have hrds : ∀ (W : World) (R : List Res), Rds W I2 R ((ad Aq).add (k * 2)) (eqC (qs.getD k default)) := fun W R => hq.outer.rds hk
    have hrl : (qs.drop (k + 1)).reverse.length ≤ 8 := by rw [List.length_reverse, List.length_drop]; omega
    generalize qs.getD k default = q at hrs hrds
    generalize (qs.drop (k + 1)).reverse = out at hrs hrl
    repeat' first
      | ((with_reducible refine Nx.is_wp ?_); first | refine Nx.wo ?_ | refine Nx.p_dec rfl rfl (fun hc => ?_) (fun hc => ?_) | refine Nx.p_bool rfl rfl (fun hc => ?_) (fun hc => ?_))
      | ((first | refine Nx.at_op rfl rfl ?_ | refine Nx.m_loud rfl rfl rfl ?_ | refine Nx.at_do rfl rfl rfl rfl ?_ | refine Nx.m_loud_do rfl rfl rfl rfl rfl ?_); first | refine Nx.opr rfl rfl ?_ | (refine Nx.indexAddr (A := Aq) (i := ((k + 1 : Nat) : Int) - 1) rfl rfl rfl rfl rfl (by omega) (by omega) (hq.outer.isSome (by omega) (by omega)) ?_; rw [hk1]) | refine Nx.loads rfl rfl rfl rfl (hrds _ _) rfl ?_ | refine Nx.so ?_ | refine Nx.sb (fun bx => ?_) | refine Nx.sa (fun A2 c2 => ?_))
      | ((with_reducible refine Nx.is_at ?_); first | refine Nx.a ?_ | ((fail_if_success refine Nx.at_do rfl rfl rfl rfl ?_); first | refine Nx.at_dec_t rfl rfl rfl rfl (by first | assumption | omega) ?_ | refine Nx.at_dec_f rfl rfl rfl rfl (by first | assumption | omega) ?_ | refine Nx.at_split rfl rfl rfl rfl (fun hc => ?_) (fun hc => ?_) | refine Nx.at_splitb rfl rfl rfl rfl (fun hc => ?_) (fun hc => ?_)))
      | ((with_reducible refine Nx.is_mix ?_); first | refine Nx.m ?_ | ((fail_if_success refine Nx.m_quiet_do rfl rfl rfl rfl rfl rfl rfl ?_ ?_); (fail_if_success refine Nx.m_loud_do rfl rfl rfl rfl rfl ?_); first | refine Nx.m_dec_t rfl rfl rfl rfl (by first | assumption | omega) ?_ | refine Nx.m_dec_f rfl rfl rfl rfl (by first | assumption | omega) ?_ | refine Nx.m_split rfl rfl rfl rfl (fun hc => ?_) (fun hc => ?_) | refine Nx.m_splitb rfl rfl rfl rfl (fun hc => ?_) (fun hc => ?_)))
      | ((fail_if_success (with_reducible refine Nx.is_at ?_)); (fail_if_success (with_reducible refine Nx.is_wp ?_)); (fail_if_success (with_reducible refine Nx.is_mix ?_)); first | refine Nx.ex ?_)
    refine Nx.again (k, A2, c2) (by dsimp only; omega) (by dsimp only; omega) ⟨rfl, rfl, rfl, rfl, rfl, by dsimp only; rw [hrs, List.length_append]; rfl, by dsimp only; rw [show ((k + 1 : Nat) : Int) - 1 - 1 = (k : Int) - 1 by omega]; rfl, trivial⟩ ?_
    dsimp only
    rw [hrs, List.length_append, List.flatMap_append, List.flatMap_cons, List.flatMap_nil, List.append_nil]
    (exact Ent.auto)
  | zero =>
  rw [List.drop_zero]
  refine Nx.freezeAt 0 rfl fun I3 m3 hI3 hm3 h3 => ?_
  have hqr : Eqs I3 Ar cr qs.reverse := ⟨Vec.sliceN hm3 h3 fun x _ => eqC_len x, fun q hq' => (hq.inner q (List.mem_reverse.1 hq')).mono hI3⟩
  replace ht := ht.mono hI3
  replace hq := hq.mono hI3
  replace hrows := hrows.mono hI3
  have hle3 := hle2.trans hI3
  have hS3 := hS2 Ar cr I3 hqr har
  rcases hcases with ⟨rfl, rfl⟩ | ⟨rfl, hsoe, hsm, hpos⟩
  · repeat' first
      | ((with_reducible refine Nx.is_wp ?_); first | refine Nx.p_stopr 11 rfl ?_ | refine Nx.wo ?_ | refine Nx.p_dec rfl rfl (fun hc => ?_) (fun hc => ?_) | refine Nx.p_bool rfl rfl (fun hc => ?_) (fun hc => ?_))
      | ((first | refine Nx.at_op rfl rfl ?_ | refine Nx.m_loud rfl rfl rfl ?_ | refine Nx.at_do rfl rfl rfl rfl ?_ | refine Nx.m_loud_do rfl rfl rfl rfl rfl ?_); first | refine Nx.opr rfl rfl ?_ | (refine Nx.call (Rpre := []) rfl rfl rfl (by kernel_rfl) rfl hS3 (Ent.refl _) ?_; rintro _ _ ⟨Az, cz, o2, rfl, ho2, rfl⟩) | refine Nx.so ?_ | refine Nx.sb (fun bx => ?_) | refine Nx.sa (fun A2 c2 => ?_))
      | ((with_reducible refine Nx.is_at ?_); first | refine Nx.a ?_ | ((fail_if_success refine Nx.at_do rfl rfl rfl rfl ?_); first | refine Nx.at_dec_t rfl rfl rfl rfl (by first | assumption | omega) ?_ | refine Nx.at_dec_f rfl rfl rfl rfl (by first | assumption | omega) ?_ | refine Nx.at_split rfl rfl rfl rfl (fun hc => ?_) (fun hc => ?_) | refine Nx.at_splitb rfl rfl rfl rfl (fun hc => ?_) (fun hc => ?_)))
      | ((with_reducible refine Nx.is_mix ?_); first | refine Nx.m ?_ | ((fail_if_success refine Nx.m_quiet_do rfl rfl rfl rfl rfl rfl rfl ?_ ?_); (fail_if_success refine Nx.m_loud_do rfl rfl rfl rfl rfl ?_); first | refine Nx.m_dec_t rfl rfl rfl rfl (by first | assumption | omega) ?_ | refine Nx.m_dec_f rfl rfl rfl rfl (by first | assumption | omega) ?_ | refine Nx.m_split rfl rfl rfl rfl (fun hc => ?_) (fun hc => ?_) | refine Nx.m_splitb rfl rfl rfl rfl (fun hc => ?_) (fun hc => ?_)))
      | ((fail_if_success (with_reducible refine Nx.is_at ?_)); (fail_if_success (with_reducible refine Nx.is_wp ?_)); (fail_if_success (with_reducible refine Nx.is_mix ?_)); first | refine Nx.ex ?_)
    refine Nx.unstop ?_
    try dsimp only at ho2
    refine Nx.giveRows (A := Az) (c := cz) (o := o2) (RR := [F]) (by refine Ent.trans ?_ Ent.stars; unfold rowsR; (exact Ent.auto)) fun I4 hI4 hrows2 => ?_
    have hSm := SameT_spec As Az cs cz o o2 I4 (hrows.mono hI4) hrows2
    rw [ho, ho2, decide_eq_true rfl] at hSm
    repeat' first
      | ((with_reducible refine Nx.is_wp ?_); first | refine Nx.wo ?_ | refine Nx.p_dec rfl rfl (fun hc => ?_) (fun hc => ?_) | refine Nx.p_bool rfl rfl (fun hc => ?_) (fun hc => ?_))
      | ((first | refine Nx.at_op rfl rfl ?_ | refine Nx.m_loud rfl rfl rfl ?_ | refine Nx.at_do rfl rfl rfl rfl ?_ | refine Nx.m_loud_do rfl rfl rfl rfl rfl ?_); first | refine Nx.opr rfl rfl ?_ | refine Nx.callv rfl rfl rfl (by kernel_rfl) rfl hSm ?_ | refine Nx.callv rfl rfl rfl (by kernel_rfl) rfl (awakeI_spec _) ?_ | refine Nx.so ?_ | refine Nx.sb (fun bx => ?_) | refine Nx.sa (fun A2 c2 => ?_))
      | ((with_reducible refine Nx.is_at ?_); first | refine Nx.a ?_ | ((fail_if_success refine Nx.at_do rfl rfl rfl rfl ?_); first | refine Nx.at_dec_t rfl rfl rfl rfl (by first | assumption | omega) ?_ | refine Nx.at_dec_f rfl rfl rfl rfl (by first | assumption | omega) ?_ | refine Nx.at_split rfl rfl rfl rfl (fun hc => ?_) (fun hc => ?_) | refine Nx.at_splitb rfl rfl rfl rfl (fun hc => ?_) (fun hc => ?_)))
      | ((with_reducible refine Nx.is_mix ?_); first | refine Nx.m ?_ | ((fail_if_success refine Nx.m_quiet_do rfl rfl rfl rfl rfl rfl rfl ?_ ?_); (fail_if_success refine Nx.m_loud_do rfl rfl rfl rfl rfl ?_); first | refine Nx.m_dec_t rfl rfl rfl rfl (by first | assumption | omega) ?_ | refine Nx.m_dec_f rfl rfl rfl rfl (by first | assumption | omega) ?_ | refine Nx.m_split rfl rfl rfl rfl (fun hc => ?_) (fun hc => ?_) | refine Nx.m_splitb rfl rfl rfl rfl (fun hc => ?_) (fun hc => ?_)))
      | ((fail_if_success (with_reducible refine Nx.is_at ?_)); (fail_if_success (with_reducible refine Nx.is_wp ?_)); (fail_if_success (with_reducible refine Nx.is_mix ?_)); first | refine Nx.ex ?_)
    exact Nx.imm_le (hle3.trans hI4) (Nx.ret_fn rfl [] ⟨rfl, rfl⟩ (by (exact Ent.auto)))
  repeat' first
    | ((with_reducible refine Nx.is_wp ?_); first | refine Nx.p_stopr 11 rfl ?_ | refine Nx.wo ?_ | refine Nx.p_dec rfl rfl (fun hc => ?_) (fun hc => ?_) | refine Nx.p_bool rfl rfl (fun hc => ?_) (fun hc => ?_))
    | ((first | refine Nx.at_op rfl rfl ?_ | refine Nx.m_loud rfl rfl rfl ?_ | refine Nx.at_do rfl rfl rfl rfl ?_ | refine Nx.m_loud_do rfl rfl rfl rfl rfl ?_); first | refine Nx.opr rfl rfl ?_ | (refine Nx.call (Rpre := []) rfl rfl rfl (by kernel_rfl) rfl hS3 (Ent.refl _) ?_; rintro _ _ ⟨Az, cz, o2, rfl, ho2, rfl⟩) | refine Nx.so ?_ | refine Nx.sb (fun bx => ?_) | refine Nx.sa (fun A2 c2 => ?_))
    | ((with_reducible refine Nx.is_at ?_); first | refine Nx.a ?_ | ((fail_if_success refine Nx.at_do rfl rfl rfl rfl ?_); first | refine Nx.at_dec_t rfl rfl rfl rfl (by first | assumption | omega) ?_ | refine Nx.at_dec_f rfl rfl rfl rfl (by first | assumption | omega) ?_ | refine Nx.at_split rfl rfl rfl rfl (fun hc => ?_) (fun hc => ?_) | refine Nx.at_splitb rfl rfl rfl rfl (fun hc => ?_) (fun hc => ?_)))
    | ((with_reducible refine Nx.is_mix ?_); first | refine Nx.m ?_ | ((fail_if_success refine Nx.m_quiet_do rfl rfl rfl rfl rfl rfl rfl ?_ ?_); (fail_if_success refine Nx.m_loud_do rfl rfl rfl rfl rfl ?_); first | refine Nx.m_dec_t rfl rfl rfl rfl (by first | assumption | omega) ?_ | refine Nx.m_dec_f rfl rfl rfl rfl (by first | assumption | omega) ?_ | refine Nx.m_split rfl rfl rfl rfl (fun hc => ?_) (fun hc => ?_) | refine Nx.m_splitb rfl rfl rfl rfl (fun hc => ?_) (fun hc => ?_)))
    | ((fail_if_success (with_reducible refine Nx.is_at ?_)); (fail_if_success (with_reducible refine Nx.is_wp ?_)); (fail_if_success (with_reducible refine Nx.is_mix ?_)); first | refine Nx.ex ?_)
  refine Nx.unstop ?_
  try dsimp only at ho2
  refine Nx.giveRows (A := Az) (c := cz) (o := o2) (RR := [F]) (by refine Ent.trans ?_ Ent.stars; unfold rowsR; (exact Ent.auto)) fun I4 hI4 hrows2 => ?_
  replace ht := ht.mono hI4
  replace hq := hq.mono hI4
  replace hrows := hrows.mono hI4
  have hle4 := hle3.trans hI4
  have hSm := SameT_spec As Az cs cz o o2 I4 hrows hrows2
  rw [ho, ho2, decide_eq_true rfl] at hSm
  have hmod : 0 ≤ which % (o.length : Int) ∧ which % (o.length : Int) < (o.length : Int) := ⟨Int.emod_nonneg _ (by omega), Int.emod_lt_of_pos _ (by omega)⟩
  obtain ⟨m, hm⟩ : ∃ m : Nat, which % (o.length : Int) = m := ⟨(which % (o.length : Int)).toNat, by omega⟩
  rw [hm] at hmod
  have hmo : m < o.length := by omega
  have hxm : (o.getD m default).2.2 ∈ solsOf N (eqns qs) := by
    rw [map_at ho hmo, hsoe]
    exact List.mem_of_mem_take (getD_in (by rw [← hsoe]; omega))
  have hxi := hrows.at hmo
  have hrx : ∀ (W : World) (R : List Res), Rd W I4 R ((ad As).add (m * 1)) (rowV (o.getD m default)) := fun W R => hrows.outer.rd hmo
  have hAs := hrows.outer.isSome (show 0 < o.length by omega)
  generalize o.getD m default = rx at hxm hxi hrx
  obtain ⟨Ax, cx, xs⟩ := rx
  dsimp only at hxm hxi
  have hxn := ((mem_sols hg).1 hxm).len
  replace hrx : ∀ (W : World) (R : List Res), Rd W I4 R ((ad As).add (m * 1)) (.slice Ax xs.length cx) := hrx
  have hT := RTouched_spec Aq cq qs N I4 hq hg (by omega)
  repeat' first
    | ((with_reducible refine Nx.is_wp ?_); first | refine Nx.p_stopr 15 rfl ?_ | refine Nx.wo ?_ | refine Nx.p_dec rfl rfl (fun hc => ?_) (fun hc => ?_) | refine Nx.p_bool rfl rfl (fun hc => ?_) (fun hc => ?_))
    | ((first | refine Nx.at_op rfl rfl ?_ | refine Nx.m_loud rfl rfl rfl ?_ | refine Nx.at_do rfl rfl rfl rfl ?_ | refine Nx.m_loud_do rfl rfl rfl rfl rfl ?_); first | refine Nx.opr rfl rfl ?_ | refine Nx.callv rfl rfl rfl (by kernel_rfl) rfl hSm ?_ | refine Nx.so ?_ | refine Nx.sb (fun bx => ?_) | refine Nx.sa (fun A2 c2 => ?_))
    | ((with_reducible refine Nx.is_at ?_); first | refine Nx.a ?_ | ((fail_if_success refine Nx.at_do rfl rfl rfl rfl ?_); first | refine Nx.at_dec_t rfl rfl rfl rfl (by first | assumption | omega) ?_ | refine Nx.at_dec_f rfl rfl rfl rfl (by first | assumption | omega) ?_ | refine Nx.at_split rfl rfl rfl rfl (fun hc => ?_) (fun hc => ?_) | refine Nx.at_splitb rfl rfl rfl rfl (fun hc => ?_) (fun hc => ?_)))
    | ((with_reducible refine Nx.is_mix ?_); first | refine Nx.m ?_ | ((fail_if_success refine Nx.m_quiet_do rfl rfl rfl rfl rfl rfl rfl ?_ ?_); (fail_if_success refine Nx.m_loud_do rfl rfl rfl rfl rfl ?_); first | refine Nx.m_dec_t rfl rfl rfl rfl (by first | assumption | omega) ?_ | refine Nx.m_dec_f rfl rfl rfl rfl (by first | assumption | omega) ?_ | refine Nx.m_split rfl rfl rfl rfl (fun hc => ?_) (fun hc => ?_) | refine Nx.m_splitb rfl rfl rfl rfl (fun hc => ?_) (fun hc => ?_)))
    | ((fail_if_success (with_reducible refine Nx.is_at ?_)); (fail_if_success (with_reducible refine Nx.is_wp ?_)); (fail_if_success (with_reducible refine Nx.is_mix ?_)); first | refine Nx.ex ?_)
  refine Nx.unstop ?_
  repeat' first
    | ((with_reducible refine Nx.is_wp ?_); first | refine Nx.wo ?_ | refine Nx.p_dec rfl rfl (fun hc => ?_) (fun hc => ?_) | refine Nx.p_bool rfl rfl (fun hc => ?_) (fun hc => ?_))
    | ((first | refine Nx.at_op rfl rfl ?_ | refine Nx.m_loud rfl rfl rfl ?_ | refine Nx.at_do rfl rfl rfl rfl ?_ | refine Nx.m_loud_do rfl rfl rfl rfl rfl ?_); first | refine Nx.opr rfl rfl ?_ | (refine Nx.rem rfl rfl (by omega) (by omega) rfl ?_; rw [hm]) | refine Nx.indexAddr_nat (A := As) (i := m) rfl rfl rfl rfl rfl hmo hAs ?_ | refine Nx.load rfl rfl rfl (hrx _ _) ?_ | (refine Nx.call (Rpre := []) rfl rfl rfl (by kernel_rfl) rfl hT (Ent.refl _) ?_; rintro _ _ ⟨Au, cu, rfl, rfl⟩) | refine Nx.so ?_ | refine Nx.sb (fun bx => ?_) | refine Nx.sa (fun A2 c2 => ?_))
    | ((with_reducible refine Nx.is_at ?_); first | refine Nx.a ?_ | ((fail_if_success refine Nx.at_do rfl rfl rfl rfl ?_); first | refine Nx.at_dec_t rfl rfl rfl rfl (by first | assumption | omega) ?_ | refine Nx.at_dec_f rfl rfl rfl rfl (by first | assumption | omega) ?_ | refine Nx.at_split rfl rfl rfl rfl (fun hc => ?_) (fun hc => ?_) | refine Nx.at_splitb rfl rfl rfl rfl (fun hc => ?_) (fun hc => ?_)))
    | ((with_reducible refine Nx.is_mix ?_); first | refine Nx.m ?_ | ((fail_if_success refine Nx.m_quiet_do rfl rfl rfl rfl rfl rfl rfl ?_ ?_); (fail_if_success refine Nx.m_loud_do rfl rfl rfl rfl rfl ?_); first | refine Nx.m_dec_t rfl rfl rfl rfl (by first | assumption | omega) ?_ | refine Nx.m_dec_f rfl rfl rfl rfl (by first | assumption | omega) ?_ | refine Nx.m_split rfl rfl rfl rfl (fun hc => ?_) (fun hc => ?_) | refine Nx.m_splitb rfl rfl rfl rfl (fun hc => ?_) (fun hc => ?_)))
    | ((fail_if_success (with_reducible refine Nx.is_at ?_)); (fail_if_success (with_reducible refine Nx.is_wp ?_)); (fail_if_success (with_reducible refine Nx.is_mix ?_)); first | refine Nx.ex ?_)
  have hUl := touch_len N (eqns qs)
  have hUN : ∀ j, j < (touch N (eqns qs)).length → (touch N (eqns qs)).getD j 0 < N := fun j hj => (mem_touch.1 (nat_in hj)).1
  have hown := fun (ow : List EqR) (h : ow.map cont = (touch N (eqns qs)).map fun c : Nat => ([(c : Int)], xs.getD c 0)) (h9 : ow.length ≤ 100) => own_solsR hN (by omega) h9 hg hxm (own_of h) hsm
  have howg := fun (ow : List EqR) (h : ow.map cont = (touch N (eqns qs)).map fun c : Nat => ([(c : Int)], xs.getD c 0)) => own_good hg hxm (own_of h)
  generalize touch N (eqns qs) = U at hUl hUN hown howg
  refine Nx.freezeAt 0 rfl fun I5 m5 hI5 hm5 h5 => ?_
  have hUi : Ints I5 Au cu (U.map Int.ofNat) := Vec.sliceOf hm5 h5
  replace hq := hq.mono hI5
  replace hxi := hxi.mono hI5
  have hle5 := hle4.trans hI5
  refine Nx.p_loop (σ := Nat × Option Addr × Nat × List EqR) (fun s => [(5, .int .i64 (N : Int)), (7, .slice Aq qs.length cq), (14, .slice Ax xs.length cx), (15, .slice s.2.1 s.2.2.2.length s.2.2.1), (89, .slice Au U.length cu), (90, .int .i64 U.length), (91, .int .i64 (s.1 : Int))])
    (fun s => eqsR s.2.1 s.2.2.1 s.2.2.2 ++ [F]) (fun s => s.1 ≤ U.length ∧ s.2.2.2.map cont = (U.take s.1).map fun c : Nat => ([(c : Int)], xs.getD c 0)) (fun s => U.length - s.1) (0, none, 0, []) rfl ⟨Nat.zero_le _, rfl⟩ ⟨rfl, rfl, rfl, rfl, rfl, rfl, rfl, trivial⟩ ((Ent.stars_nil _).trans ((Ent.vec_nil 45 2 _).trans (by unfold eqsR; (exact Ent.auto)))) ?_
  rintro ⟨j, Ap, cp, ow⟩ ⟨hj, how⟩
  dsimp only at hj how ⊢
  have howl : ow.length = j := by
    have := congrArg List.length how
    rw [List.length_map, List.length_map, List.length_take] at this
    omega
  by_cases hjl : j < U.length
  · have hts := take_snocN hjl
    have hu : ∀ (W : World) (R : List Res), Rd W I5 R ((ad Au).add (j * 1)) (.int .i64 ((U.getD j 0 : Nat) : Int)) := fun W R => by
      have := hUi.rd (W := W) (R := R) (k := j) (by rw [List.length_map]; exact hjl)
      rwa [nat_at hjl] at this
    have hUs := hUi.isSome (by rw [List.length_map]; omega)
    have hyN := hUN j hjl
    generalize U.getD j 0 = y at hts hu hyN
    have hrx2 : ∀ (W : World) (R : List Res), Rd W I5 R ((ad Ax).add (y * 1)) (.int .i64 (xs.getD y 0)) := fun W R => hxi.rd (by omega)
    repeat' first
      | ((with_reducible refine Nx.is_wp ?_); first | refine Nx.wo ?_ | refine Nx.p_dec rfl rfl (fun hc => ?_) (fun hc => ?_) | refine Nx.p_bool rfl rfl (fun hc => ?_) (fun hc => ?_))
      | ((first | refine Nx.at_op rfl rfl ?_ | refine Nx.m_loud rfl rfl rfl ?_ | refine Nx.at_do rfl rfl rfl rfl ?_ | refine Nx.m_loud_do rfl rfl rfl rfl rfl ?_); first | refine Nx.opr rfl rfl ?_ | refine Nx.indexAddr_nat (A := Au) (i := j) rfl rfl rfl rfl rfl hjl hUs ?_ | refine Nx.load rfl rfl rfl (hu _ _) ?_ | refine Nx.indexAddr_nat (A := Ax) (i := y) rfl rfl rfl rfl rfl (by omega) (hxi.isSome (by omega)) ?_ | refine Nx.load rfl rfl rfl (hrx2 _ _) ?_ | refine Nx.so ?_ | refine Nx.sb (fun bx => ?_) | refine Nx.sa (fun A2 c2 => ?_))
      | ((with_reducible refine Nx.is_at ?_); first | refine Nx.a ?_ | ((fail_if_success refine Nx.at_do rfl rfl rfl rfl ?_); first | refine Nx.at_dec_t rfl rfl rfl rfl (by first | assumption | omega) ?_ | refine Nx.at_dec_f rfl rfl rfl rfl (by first | assumption | omega) ?_ | refine Nx.at_split rfl rfl rfl rfl (fun hc => ?_) (fun hc => ?_) | refine Nx.at_splitb rfl rfl rfl rfl (fun hc => ?_) (fun hc => ?_)))
      | ((with_reducible refine Nx.is_mix ?_); first | refine Nx.m ?_ | ((fail_if_success refine Nx.m_quiet_do rfl rfl rfl rfl rfl rfl rfl ?_ ?_); (fail_if_success refine Nx.m_loud_do rfl rfl rfl rfl rfl ?_); first | refine Nx.m_dec_t rfl rfl rfl rfl (by first | assumption | omega) ?_ | refine Nx.m_dec_f rfl rfl rfl rfl (by first | assumption | omega) ?_ | refine Nx.m_split rfl rfl rfl rfl (fun hc => ?_) (fun hc => ?_) | refine Nx.m_splitb rfl rfl rfl rfl (fun hc => ?_) (fun hc => ?_)))
      | ((fail_if_success (with_reducible refine Nx.is_at ?_)); (fail_if_success (with_reducible refine Nx.is_wp ?_)); (fail_if_success (with_reducible refine Nx.is_mix ?_)); first | refine Nx.ex ?_)
    rename_i b101
    refine Nx.blk_vec 1 1 1 rfl rfl (by omega) ?_
    refine Nx.again (j + 1, A2, c2, ow ++ [((some ⟨b101, 0, none⟩, 1, [(y : Int)]), xs.getD y 0)]) ⟨hjl, by dsimp only; rw [hts, List.map_append, List.map_append, how]; rfl⟩ (by dsimp only; omega) ⟨rfl, rfl, rfl, by dsimp only; rw [List.length_append]; rfl, rfl, rfl, rfl, trivial⟩ ?_
    dsimp only
    refine Ent.trans (R' := rowR (some ⟨b101, 0, none⟩, 1, [(y : Int)]) :: Stars (ow.map fun q => rowR q.1) :: [Vec 45 2 A2 (ow.length + 1) c2 (ow.flatMap eqC ++ eqC ((some ⟨b101, 0, none⟩, 1, [(y : Int)]), xs.getD y 0)), F]) (by unfold rowR eqC eqsR; (exact Ent.auto)) ?_
    refine Ent.trans (R' := Stars ((ow.map fun q => rowR q.1) ++ [rowR (some ⟨b101, 0, none⟩, 1, [(y : Int)])]) :: [Vec 45 2 A2 (ow.length + 1) c2 (ow.flatMap eqC ++ eqC ((some ⟨b101, 0, none⟩, 1, [(y : Int)]), xs.getD y 0)), F]) Ent.bundle ?_
    unfold eqsR
    rw [List.length_append, List.flatMap_append, List.map_append, List.flatMap_cons, List.flatMap_nil, List.append_nil]
    (exact Ent.auto)
  obtain rfl : j = U.length := by omega
  rw [List.take_length] at how
  have hos := hown ow how (by omega)
  have hogd := howg ow how
  repeat' first
    | ((with_reducible refine Nx.is_wp ?_); first | refine Nx.p_stopr 24 rfl ?_ | refine Nx.wo ?_ | refine Nx.p_dec rfl rfl (fun hc => ?_) (fun hc => ?_) | refine Nx.p_bool rfl rfl (fun hc => ?_) (fun hc => ?_))
    | ((first | refine Nx.at_op rfl rfl ?_ | refine Nx.m_loud rfl rfl rfl ?_ | refine Nx.at_do rfl rfl rfl rfl ?_ | refine Nx.m_loud_do rfl rfl rfl rfl rfl ?_); first | refine Nx.opr rfl rfl ?_ | refine Nx.so ?_ | refine Nx.sb (fun bx => ?_) | refine Nx.sa (fun A2 c2 => ?_))
    | ((with_reducible refine Nx.is_at ?_); first | refine Nx.a ?_ | ((fail_if_success refine Nx.at_do rfl rfl rfl rfl ?_); first | refine Nx.at_dec_t rfl rfl rfl rfl (by first | assumption | omega) ?_ | refine Nx.at_dec_f rfl rfl rfl rfl (by first | assumption | omega) ?_ | refine Nx.at_split rfl rfl rfl rfl (fun hc => ?_) (fun hc => ?_) | refine Nx.at_splitb rfl rfl rfl rfl (fun hc => ?_) (fun hc => ?_)))
    | ((with_reducible refine Nx.is_mix ?_); first | refine Nx.m ?_ | ((fail_if_success refine Nx.m_quiet_do rfl rfl rfl rfl rfl rfl rfl ?_ ?_); (fail_if_success refine Nx.m_loud_do rfl rfl rfl rfl rfl ?_); first | refine Nx.m_dec_t rfl rfl rfl rfl (by first | assumption | omega) ?_ | refine Nx.m_dec_f rfl rfl rfl rfl (by first | assumption | omega) ?_ | refine Nx.m_split rfl rfl rfl rfl (fun hc => ?_) (fun hc => ?_) | refine Nx.m_splitb rfl rfl rfl rfl (fun hc => ?_) (fun hc => ?_)))
    | ((fail_if_success (with_reducible refine Nx.is_at ?_)); (fail_if_success (with_reducible refine Nx.is_wp ?_)); (fail_if_success (with_reducible refine Nx.is_mix ?_)); first | refine Nx.ex ?_)
  refine Nx.unstop ?_
  refine Nx.giveEq (A := Ap) (c := cp) (qs := ow) (RR := [F]) (by refine Ent.trans ?_ Ent.stars; unfold eqsR; (exact Ent.auto)) fun I6 hI6 hoq => ?_
  replace hq := hq.mono hI6
  replace hxi := hxi.mono hI6
  have hle6 := hle5.trans hI6
  repeat' first
    | ((with_reducible refine Nx.is_wp ?_); first | refine Nx.wo ?_ | refine Nx.p_dec rfl rfl (fun hc => ?_) (fun hc => ?_) | refine Nx.p_bool rfl rfl (fun hc => ?_) (fun hc => ?_))
    | ((first | refine Nx.at_op rfl rfl ?_ | refine Nx.m_loud rfl rfl rfl ?_ | refine Nx.at_do rfl rfl rfl rfl ?_ | refine Nx.m_loud_do rfl rfl rfl rfl rfl ?_); first | refine Nx.opr rfl rfl ?_ | refine Nx.so ?_ | refine Nx.sb (fun bx => ?_) | refine Nx.sa (fun A2 c2 => ?_))
    | ((with_reducible refine Nx.is_at ?_); first | refine Nx.a ?_ | ((fail_if_success refine Nx.at_do rfl rfl rfl rfl ?_); first | refine Nx.at_dec_t rfl rfl rfl rfl (by first | assumption | omega) ?_ | refine Nx.at_dec_f rfl rfl rfl rfl (by first | assumption | omega) ?_ | refine Nx.at_split rfl rfl rfl rfl (fun hc => ?_) (fun hc => ?_) | refine Nx.at_splitb rfl rfl rfl rfl (fun hc => ?_) (fun hc => ?_)))
    | ((with_reducible refine Nx.is_mix ?_); first | refine Nx.m ?_ | ((fail_if_success refine Nx.m_quiet_do rfl rfl rfl rfl rfl rfl rfl ?_ ?_); (fail_if_success refine Nx.m_loud_do rfl rfl rfl rfl rfl ?_); first | refine Nx.m_dec_t rfl rfl rfl rfl (by first | assumption | omega) ?_ | refine Nx.m_dec_f rfl rfl rfl rfl (by first | assumption | omega) ?_ | refine Nx.m_split rfl rfl rfl rfl (fun hc => ?_) (fun hc => ?_) | refine Nx.m_splitb rfl rfl rfl rfl (fun hc => ?_) (fun hc => ?_)))
    | ((fail_if_success (with_reducible refine Nx.is_at ?_)); (fail_if_success (with_reducible refine Nx.is_wp ?_)); (fail_if_success (with_reducible refine Nx.is_mix ?_)); first | refine Nx.ex ?_)
  revert bx; intro b24
  refine Nx.blk_vec 0 0 2 rfl rfl (by omega) ?_
  refine Nx.at_op rfl rfl ?_
  refine Nx.append rfl rfl rfl rfl (by kernel_rfl) rfl (Src.arr hq.outer.arr (eq_len qs) (by omega) (eq_one qs)) (by omega) fun A3 c3 => ?_
  rw [Nat.zero_add, List.nil_append]
  repeat' first
    | ((with_reducible refine Nx.is_wp ?_); first | refine Nx.wo ?_ | refine Nx.p_dec rfl rfl (fun hc => ?_) (fun hc => ?_) | refine Nx.p_bool rfl rfl (fun hc => ?_) (fun hc => ?_))
    | ((first | refine Nx.at_op rfl rfl ?_ | refine Nx.m_loud rfl rfl rfl ?_ | refine Nx.at_do rfl rfl rfl rfl ?_ | refine Nx.m_loud_do rfl rfl rfl rfl rfl ?_); first | refine Nx.opr rfl rfl ?_ | refine Nx.so ?_ | refine Nx.sb (fun bx => ?_) | refine Nx.sa (fun A2 c2 => ?_))
    | ((with_reducible refine Nx.is_at ?_); first | refine Nx.a ?_ | ((fail_if_success refine Nx.at_do rfl rfl rfl rfl ?_); first | refine Nx.at_dec_t rfl rfl rfl rfl (by first | assumption | omega) ?_ | refine Nx.at_dec_f rfl rfl rfl rfl (by first | assumption | omega) ?_ | refine Nx.at_split rfl rfl rfl rfl (fun hc => ?_) (fun hc => ?_) | refine Nx.at_splitb rfl rfl rfl rfl (fun hc => ?_) (fun hc => ?_)))
    | ((with_reducible refine Nx.is_mix ?_); first | refine Nx.m ?_ | ((fail_if_success refine Nx.m_quiet_do rfl rfl rfl rfl rfl rfl rfl ?_ ?_); (fail_if_success refine Nx.m_loud_do rfl rfl rfl rfl rfl ?_); first | refine Nx.m_dec_t rfl rfl rfl rfl (by first | assumption | omega) ?_ | refine Nx.m_dec_f rfl rfl rfl rfl (by first | assumption | omega) ?_ | refine Nx.m_split rfl rfl rfl rfl (fun hc => ?_) (fun hc => ?_) | refine Nx.m_splitb rfl rfl rfl rfl (fun hc => ?_) (fun hc => ?_)))
    | ((fail_if_success (with_reducible refine Nx.is_at ?_)); (fail_if_success (with_reducible refine Nx.is_wp ?_)); (fail_if_success (with_reducible refine Nx.is_mix ?_)); first | refine Nx.ex ?_)
  refine Nx.at_op rfl rfl ?_
  refine Nx.append rfl rfl rfl rfl (by kernel_rfl) rfl (Src.arr hoq.outer.arr (eq_len ow) (by omega) (eq_one ow)) (by omega) fun A4 c4 => ?_
  refine Nx.freezeAt 0 rfl fun I7 m7 hI7 hm7 h7 => ?_
  rw [← List.flatMap_append, ← List.length_append] at h7
  have hqo : Eqs I7 A4 c4 (qs ++ ow) := ⟨Vec.sliceN hm7 h7 fun x _ => eqC_len x, fun q hq' => (List.mem_append.1 hq').elim (fun h => (hq.inner q h).mono hI7) fun h => (hoq.inner q h).mono hI7⟩
  replace hxi := hxi.mono hI7
  have hle7 := hle6.trans hI7
  have hS4 := Solutions_spec (N : Int) A4 c4 (qs ++ ow) 5 I7 hqo (by
    have h1 := allC_good (n := N) (l := qs ++ ow) fun q hq => (List.mem_append.1 hq).elim (hg q) (hogd q)
    rw [List.length_append] at h1
    have h2 := Nat.mul_le_mul (show qs.length + ow.length ≤ 108 by omega) hN.2
    omega)
  rw [hos, List.length_append] at hS4
  dsimp only at hS4
  repeat' first
    | ((with_reducible refine Nx.is_wp ?_); first | refine Nx.p_stopr 25 rfl ?_ | refine Nx.wo ?_ | refine Nx.p_dec rfl rfl (fun hc => ?_) (fun hc => ?_) | refine Nx.p_bool rfl rfl (fun hc => ?_) (fun hc => ?_))
    | ((first | refine Nx.at_op rfl rfl ?_ | refine Nx.m_loud rfl rfl rfl ?_ | refine Nx.at_do rfl rfl rfl rfl ?_ | refine Nx.m_loud_do rfl rfl rfl rfl rfl ?_); first | refine Nx.opr rfl rfl ?_ | (refine Nx.call (Rpre := []) rfl rfl rfl (by kernel_rfl) rfl hS4 (Ent.refl _) ?_; rintro _ _ ⟨Ao, co, o3, rfl, ho3, rfl⟩) | refine Nx.so ?_ | refine Nx.sb (fun bx => ?_) | refine Nx.sa (fun A2 c2 => ?_))
    | ((with_reducible refine Nx.is_at ?_); first | refine Nx.a ?_ | ((fail_if_success refine Nx.at_do rfl rfl rfl rfl ?_); first | refine Nx.at_dec_t rfl rfl rfl rfl (by first | assumption | omega) ?_ | refine Nx.at_dec_f rfl rfl rfl rfl (by first | assumption | omega) ?_ | refine Nx.at_split rfl rfl rfl rfl (fun hc => ?_) (fun hc => ?_) | refine Nx.at_splitb rfl rfl rfl rfl (fun hc => ?_) (fun hc => ?_)))
    | ((with_reducible refine Nx.is_mix ?_); first | refine Nx.m ?_ | ((fail_if_success refine Nx.m_quiet_do rfl rfl rfl rfl rfl rfl rfl ?_ ?_); (fail_if_success refine Nx.m_loud_do rfl rfl rfl rfl rfl ?_); first | refine Nx.m_dec_t rfl rfl rfl rfl (by first | assumption | omega) ?_ | refine Nx.m_dec_f rfl rfl rfl rfl (by first | assumption | omega) ?_ | refine Nx.m_split rfl rfl rfl rfl (fun hc => ?_) (fun hc => ?_) | refine Nx.m_splitb rfl rfl rfl rfl (fun hc => ?_) (fun hc => ?_)))
    | ((fail_if_success (with_reducible refine Nx.is_at ?_)); (fail_if_success (with_reducible refine Nx.is_wp ?_)); (fail_if_success (with_reducible refine Nx.is_mix ?_)); first | refine Nx.ex ?_)
  refine Nx.unstop ?_
  obtain ⟨r3, rfl⟩ : ∃ r, o3 = [r] := by
    match o3, ho3 with
    | [r], _ => exact ⟨r, rfl⟩
  have hr3 : r3.2.2 = xs := by simpa using ho3
  refine Nx.giveRows (A := Ao) (c := co) (o := [r3]) (RR := [F]) (by refine Ent.trans ?_ Ent.stars; unfold rowsR; (exact Ent.auto)) fun I8 hI8 hrows3 => ?_
  replace hxi := hxi.mono hI8
  have hr3i := hrows3.at (k := 0) (by simp)
  have hr3d : ∀ (W : World) (R : List Res), Rd W I8 R ((ad Ao).add (0 * 1)) (rowV r3) := fun W R => hrows3.outer.rd (k := 0) (by simp)
  obtain ⟨A9, c9, x9⟩ := r3
  dsimp only at hr3
  subst hr3
  have h01 : 0 < ([(A9, c9, x9)] : List Row).length := Nat.zero_lt_one
  have hAo := hrows3.outer.isSome h01
  have hIn := Ints_spec A9 Ax c9 cx x9 x9 I8 hr3i hxi
  rw [decide_eq_true rfl] at hIn
  replace hr3d : ∀ (W : World) (R : List Res), Rd W I8 R ((ad Ao).add (0 * 1)) (.slice A9 x9.length c9) := hr3d
  repeat' first
    | ((with_reducible refine Nx.is_wp ?_); first | refine Nx.wo ?_ | refine Nx.p_dec rfl rfl (fun hc => ?_) (fun hc => ?_) | refine Nx.p_bool rfl rfl (fun hc => ?_) (fun hc => ?_))
    | ((first | refine Nx.at_op rfl rfl ?_ | refine Nx.m_loud rfl rfl rfl ?_ | refine Nx.at_do rfl rfl rfl rfl ?_ | refine Nx.m_loud_do rfl rfl rfl rfl rfl ?_); first | refine Nx.opr rfl rfl ?_ | refine Nx.indexAddr_nat (A := Ao) (i := 0) rfl rfl rfl rfl rfl h01 hAo ?_ | refine Nx.load rfl rfl rfl (hr3d _ _) ?_ | refine Nx.callv rfl rfl rfl (by kernel_rfl) rfl hIn ?_ | refine Nx.callv rfl rfl rfl (by kernel_rfl) rfl (awakeI_spec _) ?_ | refine Nx.so ?_ | refine Nx.sb (fun bx => ?_) | refine Nx.sa (fun A2 c2 => ?_))
    | ((with_reducible refine Nx.is_at ?_); first | refine Nx.a ?_ | ((fail_if_success refine Nx.at_do rfl rfl rfl rfl ?_); first | refine Nx.at_dec_t rfl rfl rfl rfl (by first | assumption | omega) ?_ | refine Nx.at_dec_f rfl rfl rfl rfl (by first | assumption | omega) ?_ | refine Nx.at_split rfl rfl rfl rfl (fun hc => ?_) (fun hc => ?_) | refine Nx.at_splitb rfl rfl rfl rfl (fun hc => ?_) (fun hc => ?_)))
    | ((with_reducible refine Nx.is_mix ?_); first | refine Nx.m ?_ | ((fail_if_success refine Nx.m_quiet_do rfl rfl rfl rfl rfl rfl rfl ?_ ?_); (fail_if_success refine Nx.m_loud_do rfl rfl rfl rfl rfl ?_); first | refine Nx.m_dec_t rfl rfl rfl rfl (by first | assumption | omega) ?_ | refine Nx.m_dec_f rfl rfl rfl rfl (by first | assumption | omega) ?_ | refine Nx.m_split rfl rfl rfl rfl (fun hc => ?_) (fun hc => ?_) | refine Nx.m_splitb rfl rfl rfl rfl (fun hc => ?_) (fun hc => ?_)))
    | ((fail_if_success (with_reducible refine Nx.is_at ?_)); (fail_if_success (with_reducible refine Nx.is_wp ?_)); (fail_if_success (with_reducible refine Nx.is_mix ?_)); first | refine Nx.ex ?_)
  exact Nx.imm_le (hle7.trans hI8) (Nx.ret_fn rfl [] ⟨rfl, rfl⟩ (by (exact Ent.auto)))
end Go.Proofs.Ythncphjakklnoaa
