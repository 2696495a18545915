/- Contracts of functions of the given program, and lemmas. -/
import Derived.Laws.Bits64
import Derived.Laws.Bits64b
import Derived.Laws.Externs
import Derived.Shelf.Spec.BitsCarry
import Derived.Lib.ItoaNum
import Derived.Lib.TrailingZeros
import Derived.Sort.Grow
import Derived.Lib.AppendIntMem
import Derived.Lib.ItoaLen
import Derived.Laws.Concat
import Derived.Laws.Strings
import Derived.Laws.StructEq
import Derived.Laws.Small
import Derived.Recover
import Derived.WalkSmall
import Derived.Test.YtpcnapidlhpbkaaGreatDoorBi2
set_option maxHeartbeats 32000000
namespace Go.Eng
section
variable {P : Program} {ops : Array Oper} {Q : Exit → Act → World → Prop} {md : Region.Mode} {S : World → Prop} {fin fq : List Nat}
theorem wpAnyF_firstA {i : Nat} {oi : Oper} {v : Value} (hi : ops[i]? = some oi) (hs : Region.noSelect ops = true) (hQ : PanicOk Q) (hif : fin.contains i = true) :
    ∀ (n : Nat) (listed : Array Bool) (a : Act) (w : World),
      (∀ j oj, ops[j]? = some oj → j ≠ i → listed.getD j true = false → (∀ e ∈ oj.after, Region.binds md e = true → e.on ≠ i) → oi.apart ops oj = true) →
      i ∈ Region.ready md ops listed → YieldsIf P ops AnyW oi v a →
      wpAnyF P md ops Q S fin n (listed.setIfInBounds i true) (a.put oi.dst v) w → wpAnyF P md ops Q S fin (n + 1) listed a w
  | n, listed, a, w, hap, hr, hy, H => by
    refine ⟨fun h0 => (by rw [h0] at hr; cases hr), fun j hj => ?_⟩
    by_cases hji : j = i
    · subst hji; exact hy.wpOp hi trivial ⟨fun hf => (by rw [hif] at hf; cases hf), H⟩
    · have hj2 := ready_mono hj hji
      obtain ⟨hjun, oj, hoj, _⟩ := mem_ready.1 hj
      have hno := ready_waits hr hj hoj
      match n, H with
      | 0, H => rw [H.1] at hj2; cases hj2
      | n + 1, H =>
        have h1 := H.2 j hj2
        have h2 := wpOp_putIf hoj (hap j oj hoj hji hjun hno) (fun cs b => Region.noSelect_spec hs i oi cs b hi) (fun cs b => Region.noSelect_spec hs j oj cs b hoj) (fun c a w => hQ c oi.dst v a w) hy h1
        refine wpOp_mono (fun a' w' h3 => ?_) h2
        obtain ⟨hy', hS', H'⟩ := h3
        refine ⟨hS', wpAnyF_firstA hi hs hQ hif n (listed.setIfInBounds j true) a' w' (fun k ok hk hki hun hnk => ?_) (ready_mono hr (Ne.symm hji)) hy' ?_⟩
        · refine hap k ok hk hki ?_ hnk
          by_cases hjk : j = k
          · subst hjk; exact hjun
          · rwa [getD_set_ne true hjk] at hun
        · rw [Array.setIfInBounds_comm _ _ hji]
          exact H'
theorem wpMix_finQ (hs : Region.noSelect ops = true) (hQ : PanicOk Q) (hall : ∀ k ∈ fin, fin.contains k = true) : ∀ (r : List Nat) (n : Nat) (listed : Array Bool) (a : Act) (w : World), (∀ k ∈ r, fin.contains k = true) →
    mixOk ops fq r listed = true → r.length ≤ n → wpMix P ops Q AnyW fq r a w → wpAnyF P .any ops Q S fin n listed a w
  | [], n, listed, a, w, _, hok, _, h => by
    have hr : Region.ready .any ops listed = [] := by simpa [mixOk] using hok
    cases n with
    | zero => exact ⟨hr, h⟩
    | succ n => exact ⟨fun _ => h, by rw [hr]; simp⟩
  | k :: r, 0, listed, a, w, _, _, hl, _ => by simp at hl
  | k :: r, n + 1, listed, a, w, hk, hok, hl, h => by
    obtain ⟨o, ho, h⟩ := h
    have hkf := hk k (by simp)
    unfold mixOk at hok
    by_cases hc : fq.contains k = true
    · rw [if_pos hc] at h hok
      simp only [Bool.and_eq_true, beq_iff_eq] at hok
      refine ⟨fun h0 => (by rw [hok.1] at h0; cases h0), fun i hi => ?_⟩
      rw [hok.1] at hi
      obtain rfl : i = k := by simpa using hi
      refine wpOp_mono (fun a' w' h3 => ⟨fun hf => ?_, wpMix_finQ hs hQ hall r n _ a' w' (fun j hj => hk j (by simp [hj])) hok.2 (by simpa using hl) h3.2⟩) h
      rw [hkf] at hf; cases hf
    · rw [if_neg hc] at h hok
      simp only [Bool.and_eq_true] at hok
      obtain ⟨v, hy, h⟩ := h
      exact wpAnyF_firstA ho hs hQ hkf n listed a w (Region.free_spec ho hok.1.1) (by simpa using hok.1.2) hy (wpMix_finQ hs hQ hall r n _ _ w (fun j hj => hk j (by simp [hj])) hok.2 (by simpa using hl) h)
end
def GoodF (C : Cx) (ops : Array Oper) (Q : Exit → Act → World → Prop) (S : World → Prop) (I : PH) (pool : List PoolOp) (loud mv fin fq : List Nat) : List Nat → Env → List Res → Prop
  | [], e, R => keysFree pool e = true ∧ ∀ bs : List Nat, bs.length = pool.length → Nx C (e ++ pe pool (bs.map some)) I (Stars (pr pool (bs.map some)) :: R) (wpMix C.P ops Q AnyW fq fin)
  | k :: ch, e, R => keysFree pool e = true ∧ match loud.contains k with
    | true => ∀ (ex : Env) (X : Res), Nx C (e ++ ex) I (X :: R) (wpOp C.P ops Q k (fun a w => S w ∧ ∃ e' R', Mod C.n (e' ++ ex) a ∧ St C.W I (X :: R') w ∧ GoodF C ops Q S I pool loud mv fin fq ch e' R'))
    | false => ∃ o v e', ops[k]? = some o ∧ (∀ a ex, Mod C.n (e ++ ex) a → YieldsIf C.P ops (if mv.contains k then AnyW else S) o v a ∧ Mod C.n (e' ++ ex) (a.put o.dst v)) ∧ GoodF C ops Q S I pool loud mv fin fq ch e' R
theorem GoodF.free {C : Cx} {ops : Array Oper} {Q : Exit → Act → World → Prop} {S : World → Prop} {I : PH} {pool : List PoolOp} {loud mv fin fq ch : List Nat} {e : Env} {R : List Res} (h : GoodF C ops Q S I pool loud mv fin fq ch e R) : keysFree pool e = true := by
  cases ch <;> exact h.1
def PoolSF (C : Cx) (ops : Array Oper) (Q : Exit → Act → World → Prop) (S : World → Prop) (I : PH) (pool : List PoolOp) (loud mv fin fq ch : List Nat) (ex : Env) (X : Res) : Act → World → Prop :=
  fun a w => S w ∧ ∃ e' R', Mod C.n (e' ++ ex) a ∧ St C.W I (X :: R') w ∧ GoodF C ops Q S I pool loud mv fin fq ch e' R'
def poolOkF (ops : Array Oper) (loud mv fin fq : List Nat) (pool : List PoolOp) : Nat → List Nat → List Bool → Array Bool → Bool
  | fuel, [], fl, listed =>
    if fl.all id then mixOk ops fq fin listed && Nat.ble fin.length fuel
    else match fuel with
      | 0 => false
      | f + 1 => !(Region.ready .any ops listed).isEmpty && (Region.ready .any ops listed).all fun i => match findP pool fl i 0 with
        | some j => poolOkF ops loud mv fin fq pool f [] (fl.set j true) (listed.setIfInBounds i true)
        | none => false
  | 0, _ :: _, _, _ => false
  | f + 1, k :: ch, fl, listed => match loud.contains k with
    | true => !(Region.ready .any ops listed).isEmpty && (Region.ready .any ops listed).all fun i =>
      if Nat.beq i k then poolOkF ops loud mv fin fq pool f ch fl (listed.setIfInBounds i true)
      else match findP pool fl i 0 with
        | some j => poolOkF ops loud mv fin fq pool f (k :: ch) (fl.set j true) (listed.setIfInBounds i true)
        | none => false
    | false => Region.free .any ops listed k && (Region.ready .any ops listed).contains k && (mv.contains k || finWaits .any ops (mv ++ fin) k) && poolOkF ops loud mv fin fq pool f ch fl (listed.setIfInBounds k true)
section
variable {C : Cx} {e e' : Env} {I : PH} {R R' R0 : List Res} {K K' : Act → World → Prop} {Q : Exit → Act → World → Prop} {W : World}
variable {ops : Array Oper} {S : World → Prop} {loud mv fin fq ch : List Nat} {pool : List PoolOp} {c : Code} {o : Oper}
theorem pool_anyF (hs : Region.noSelect ops = true) (hQ : PanicOk Q) (hd : (pool.map (·.d)).Pairwise (· ≠ ·)) (hfit : ∀ p ∈ pool, PoolFit C ops p) (hS : ∀ w o, S w → S (w.alloc o)) :
    ∀ (fuel : Nat) (ch : List Nat) (bs : List (Option Nat)) (listed : Array Bool) (e : Env) (R : List Res) (a : Act) (w : World), Closed .any ops listed → poolOkF ops loud mv fin fq pool fuel ch (bs.map Option.isSome) listed = true → bs.length = pool.length →
      Mod C.n (e ++ pe pool bs) a → St C.W I (Stars (pr pool bs) :: R) w → S w → GoodF C ops Q S I pool loud mv fin fq ch e R → wpAnyF C.P .any ops Q S (mv ++ fin) fuel listed a w := by
  have hfull : ∀ (fuel : Nat) (bs : List (Option Nat)) (listed : Array Bool) (e : Env) (R : List Res) (a : Act) (w : World), (bs.map Option.isSome).all id = true → (mixOk ops fq fin listed && Nat.ble fin.length fuel) = true → bs.length = pool.length →
      Mod C.n (e ++ pe pool bs) a → St C.W I (Stars (pr pool bs) :: R) w → GoodF C ops Q S I pool loud mv fin fq [] e R → wpAnyF C.P .any ops Q S (mv ++ fin) fuel listed a w := by
    intro fuel bs listed e R a w hall hok hbl ha hw hg
    obtain ⟨l, rfl⟩ := map_isSome hall
    rw [Bool.and_eq_true] at hok
    exact wpMix_finQ hs hQ (fun k hk => by simpa using hk) fin fuel listed a w (fun k hk => by simp [hk]) hok.1 (Nat.le_of_ble_eq_true hok.2) (hg.2 l (by simpa using hbl) a w ha hw)
  intro fuel
  induction fuel with
  | zero =>
    intro ch bs listed e R a w hcl hok hbl ha hw hSw hg
    cases ch with
    | cons k ch => simp [poolOkF] at hok
    | nil =>
      unfold poolOkF at hok
      split at hok
      · rename_i hall
        exact hfull 0 bs listed e R a w hall hok hbl ha hw hg
      · cases hok
  | succ f ih =>
    intro ch bs listed e R a w hcl hok hbl ha hw hSw hg
    have poolStep : ∀ i j, i ∈ Region.ready .any ops listed → findP pool (bs.map Option.isSome) i 0 = some j → poolOkF ops loud mv fin fq pool f ch ((bs.map Option.isSome).set j true) (listed.setIfInBounds i true) = true →
        wpOp C.P ops Q i (fun a' w' => ((mv ++ fin).contains i = false → S w') ∧ wpAnyF C.P .any ops Q S (mv ++ fin) f (listed.setIfInBounds i true) a' w') a w := by
      intro i j hir hfj hokj
      obtain ⟨m, p, hm, hpm, hfm, hpk⟩ := findP_ok hfj
      obtain rfl : j = m := by omega
      subst hpk
      have hbj : bs[j]? = some none := by
        rw [List.getElem?_map] at hfm
        cases hbj : bs[j]? with
        | none => rw [hbj] at hfm; cases hfm
        | some o => cases o with
          | none => rfl
          | some b => rw [hbj] at hfm; cases hfm
      obtain ⟨⟨ty, pos, after, hop⟩, hz, hlt⟩ := hfit p (List.mem_of_getElem? hpm)
      unfold wpOp
      simp only [hop]
      rw [if_pos (by simp [Region.wanted])]
      refine .inl ?_
      obtain ⟨z, hzc, hrun⟩ := zeroOf_run hz w
      have hrun' : (execOp a.eval ⟨some p.d, .alloc p.t, ty, pos, after, none⟩).run C.P w = .ok (.value (.pointer (some ⟨w.heap.size, 0, none⟩))) (w.alloc (.cells p.cs.toArray p.t)) := by
        refine run_v ?_
        unfold Instr.alloc
        rw [Sem.run_bind, hrun, Result.andThen_ok]
        simp only [newVar, hzc]
        rfl
      unfold Oper.wp
      rw [hrun']
      refine ⟨fun _ => hS w _ hSw, ?_⟩
      refine ih ch (bs.set j (some w.heap.size)) (listed.setIfInBounds p.k true) e R _ _ (hcl.set hir) ?_ (by rw [List.length_set]; exact hbl) (ha.poolPut hg.free hd hpm hbj hlt) ?_ (hS w _ hSw) hg
      · rw [List.map_set]; exact hokj
      · refine (hw.alloc (.cells p.cs.toArray p.t)).ent ?_
        refine (Ent.bundle (B := pr pool bs) (r := Blk w.heap.size p.t p.cs)).trans ?_
        refine Ent.head fun m hm => ?_
        obtain ⟨m1, m2, hd', rfl, h1, h2⟩ := Stars.append hm
        obtain ⟨n1, n2, hd2, rfl, h3, _⟩ := h2
        obtain ⟨m', hle, h'⟩ := pr_set (b := w.heap.size) hpm hbj (n1.or m1) ⟨n1, m1, (PH.dis_or.1 hd').1.symm, rfl, h3, h1⟩
        exact Stars.up h' (hle.trans (PH.or_le ((PH.le_or_left n1 n2).trans (PH.le_or_right hd')) (PH.le_or_left _ _)))
    cases ch with
    | nil =>
      unfold poolOkF at hok
      split at hok
      · rename_i hall
        exact hfull (f + 1) bs listed e R a w hall hok hbl ha hw hg
      · simp only [Bool.and_eq_true, Bool.not_eq_true', List.all_eq_true] at hok
        refine ⟨fun h0 => (by rw [h0] at hok; simp at hok), fun i hi => ?_⟩
        have := hok.2 i hi
        split at this
        · rename_i j hj; exact poolStep i j hi hj this
        · cases this
    | cons k ch =>
      unfold poolOkF at hok
      cases hl : loud.contains k with
      | true =>
        rw [hl] at hok
        simp only [Bool.and_eq_true, Bool.not_eq_true', List.all_eq_true] at hok
        have hg2 := hg.2
        rw [hl] at hg2
        refine ⟨fun h0 => (by rw [h0] at hok; simp at hok), fun i hi => ?_⟩
        have := hok.2 i hi
        split at this
        · rename_i hik
          obtain rfl := Nat.eq_of_beq_eq_true hik
          refine wpOp_mono (fun a' w' => ?_) (hg2 (pe pool bs) (Stars (pr pool bs)) a w ha hw)
          rintro ⟨hS', e', R', ha', hw', hg'⟩
          exact ⟨fun _ => hS', ih ch bs _ e' R' a' w' (hcl.set hi) this hbl ha' hw' hS' hg'⟩
        · split at this
          · rename_i j hj; exact poolStep i j hi hj this
          · cases this
      | false =>
        rw [hl] at hok
        simp only [Bool.and_eq_true] at hok
        have hg2 := hg.2
        rw [hl] at hg2
        obtain ⟨o, v, e', ho, hy, hg'⟩ := hg2
        obtain ⟨hy1, hy2⟩ := hy a _ ha
        cases hmv : mv.contains k with
        | true =>
          rw [hmv] at hy1
          exact wpAnyF_firstA ho hs hQ (by simp at hmv ⊢; exact .inl hmv) f listed a w (Region.free_spec ho hok.1.1.1) (by simpa using hok.1.1.2) hy1 (ih ch bs _ e' R _ w (hcl.set (by simpa using hok.1.1.2)) hok.2 hbl hy2 hw hSw hg')
        | false =>
          rw [hmv] at hy1 hok
          exact wpAnyF_first ho hs hQ (by simpa using hok.1.2) f listed a w hcl (Region.free_spec ho hok.1.1.1) (by simpa using hok.1.1.2) hy1 hSw (ih ch bs _ e' R _ w (hcl.set (by simpa using hok.1.1.2)) hok.2 hbl hy2 hw hSw hg')
theorem Nx.p_poolF {id : Nat} (hid : cid c = id) (ch loud mv fin fq : List Nat) (pool : List PoolOp) (hk : ck c = 2) (hm : C.P.follows .mixedOrders = true) (hs : Region.noSelect (cops c) = true)
    (hok : poolOkF (cops c) loud mv fin fq pool (cops c).size ch (pool.map fun _ => false) (Array.replicate (cops c).size false) = true)
    (hd : (pool.map (·.d)).Pairwise (· ≠ ·)) (hfit : ∀ p ∈ pool, PoolFit C (cops c) p) (hQ : PanicOk Q) (hR : Ent R R0)
    (h : GoodF C (cops c) Q (St C.W I R0) I pool loud mv fin fq ch e R) : Nx C e I R (c.wp C.P Q) := by
  have hc : c = .region (cid c) (cops c) true := by
    cases c <;> first | (simp [ck] at hk; done) | skip
    rename_i b
    cases b with
    | false => simp [ck] at hk
    | true => rfl
  clear hid
  rw [hc]
  have hS : ∀ w o, St C.W I R0 w → St C.W I R0 (w.alloc o) := fun w o h => (h.alloc o).ent (Ent.drop (Ent.refl _))
  intro a w ha hw
  obtain ⟨h1, h2, h3⟩ := pe_nones pool
  refine wp_region_any hm (wpAny_of_fin (S := St C.W I R0) (fin := mv ++ fin) _ _ _ _ ?_)
  refine pool_anyF hs hQ hd hfit hS _ ch (pool.map fun _ => none) _ e R a _ (Closed.start _) (by rw [h3]; exact hok) (by simp) (by rw [h1, List.append_nil]; exact ha) (hw.drew.ent ?_) (hw.drew.ent hR) h
  rw [h2]
  exact Ent.stars_nil _
theorem GoodF.is (h : GoodF C ops Q S I pool loud mv fin fq ch e R) : GoodF C ops Q S I pool loud mv fin fq ch e R := h
theorem GoodF.loud_ {k : Nat} (hf : keysFree pool e = true) (hl : loud.contains k = true) (ho : opAt ops.toList k = some o) (hg : o.guard = none) (h : ∀ (ex : Env) (X : Res), Nx C (e ++ ex) I (X :: R) (opK C.P o (PoolSF C ops Q S I pool loud mv fin fq ch ex X) Q)) : GoodF C ops Q S I pool loud mv fin fq (k :: ch) e R :=
  ⟨hf, by
    rw [hl]
    intro ex X a w ha hw
    unfold wpOp
    simp only [opAt_arr ho]
    rw [if_pos (by simp [Region.wanted, hg])]
    exact .inl (h ex X a w ha hw)⟩
theorem Mod.app_l {n : Nat} {a : Act} {ex : Env} (h : Mod n (e ++ ex) a) : Mod n e a := ⟨h.size, h.defers, fun t v ht => h.get t v (lk_app_l ht)⟩
theorem GoodF.quiet {k d : Nat} {v : Value} (hf : keysFree pool e = true) (hl : loud.contains k = false) (ho : opAt ops.toList k = some o) (hg : o.guard = none) (hd : o.dst = some d) (hlt : Nat.blt d C.n = true) (hrun : QRun C e (if mv.contains k then AnyW else S) o v) (h : GoodF C ops Q S I pool loud mv fin fq ch ((d, v) :: e) R) : GoodF C ops Q S I pool loud mv fin fq (k :: ch) e R :=
  ⟨hf, by
    rw [hl]
    refine ⟨o, v, (d, v) :: e, opAt_arr ho, fun a ex ha => ⟨.inl ⟨by simp [Region.wanted, hg], fun w hS => hrun a w ha.app_l hS⟩, ?_⟩, h⟩
    rw [hd]
    exact ha.put hlt v⟩
theorem GoodF.done1 {p : PoolOp} (hf : keysFree [p] e = true) (h : ∀ b, Nx C (e ++ [(p.d, .pointer (some ⟨b, 0, none⟩))]) I (Blk b p.t p.cs :: R) (wpMix C.P ops Q AnyW fq fin)) : GoodF C ops Q S I [p] loud mv fin fq [] e R := ⟨hf, fun bs hbs => by
  match bs, hbs with
  | [b], _ => exact Nx.unfoldAt 0 (B := [Blk b p.t p.cs]) rfl (h b)⟩
theorem Nx.pool_nextF (k : Nat) {ex : Env} {X : Res} {t : Nat} {v : Value} (hk : nthL R k = some X) (hS : Ent R R0) (h : GoodF C ops Q (St C.W I R0) I pool loud mv fin fq ch ((t, v) :: e) (R.eraseIdx k)) : Nx C ((t, v) :: (e ++ ex)) I R (PoolSF C ops Q (St C.W I R0) I pool loud mv fin fq ch ex X) :=
  fun _ _ ha hw => ⟨hw.ent hS, (t, v) :: e, R.eraseIdx k, ha, hw.ent (Ent.pull k R X (nthL_eq.symm.trans hk)), h⟩
theorem PoolFit.cons {p : PoolOp} {r : List PoolOp} (h : PoolFit C ops p) (hr : ∀ q ∈ r, PoolFit C ops q) : ∀ q ∈ p :: r, PoolFit C ops q := fun q hq => by
  rcases List.mem_cons.1 hq with rfl | hq
  · exact h
  · exact hr q hq
theorem PoolFit.nil : ∀ q ∈ ([] : List PoolOp), PoolFit C ops q := fun q hq => by simp at hq
end
end Go.Eng
namespace Go.Eng
abbrev B64 : Int := 18446744073709551616
section
variable {P : Program} {t : TypeId} {x y : Operand} {p q : Int}
theorem run_addU : pureRun P (do eqGuard .add t x y (.int .u64 p) (.int .u64 q); binOp .add t (.int .u64 p) (.int .u64 q)) = some (.int .u64 ((p + q) % B64)) := by rw [← IntKind.wrap_u64]; rfl
theorem run_mulU : pureRun P (do eqGuard .mul t x y (.int .u64 p) (.int .u64 q); binOp .mul t (.int .u64 p) (.int .u64 q)) = some (.int .u64 ((p * q) % B64)) := by rw [← IntKind.wrap_u64]; rfl
theorem ofInt_nat {a : Nat} (ha : a < 18446744073709551616) : (BitVec.ofInt 64 (a : Int)).toNat = a := by
  rw [BitVec.toNat_ofInt]
  omega
theorem wrap_nat {a : Nat} (ha : a < 18446744073709551616) : IntKind.u64.wrap (a : Int) = a := by rw [IntKind.wrap_u64]; omega
theorem run_orU {a b : Nat} (ha : a < 18446744073709551616) (hb : b < 18446744073709551616) : pureRun P (do eqGuard .or t x y (.int .u64 (a : Int)) (.int .u64 (b : Int)); binOp .or t (.int .u64 (a : Int)) (.int .u64 (b : Int))) = some (.int .u64 ((a ||| b : Nat) : Int)) := by
  have h : (BitVec.ofInt 64 (a : Int) ||| BitVec.ofInt 64 (b : Int)).toNat = a ||| b := by rw [BitVec.toNat_or, ofInt_nat ha, ofInt_nat hb]
  have hlt : a ||| b < 18446744073709551616 := Nat.or_lt_two_pow (n := 64) ha hb
  rw [← wrap_nat hlt, ← h]
  rfl
theorem run_notU {a : Nat} (ha : a < 18446744073709551616) : pureRun P (Op.unary .xor (.int .u64 (a : Int))) = some (.int .u64 ((18446744073709551615 - a : Nat) : Int)) := by
  have h : (BitVec.ofInt 64 (IntKind.u64.max) ^^^ BitVec.ofInt 64 (a : Int)).toNat = 18446744073709551615 - a := by
    have e : BitVec.ofInt 64 (IntKind.u64.max) = BitVec.allOnes 64 := by decide
    rw [e, BitVec.allOnes_xor, BitVec.toNat_not, ofInt_nat ha]
  have hlt : 18446744073709551615 - a < 18446744073709551616 := by omega
  rw [← wrap_nat hlt, ← h]
  rfl
theorem run_shlU {k : IntKind} {n : Nat} (hn : n ≤ 64) : pureRun P (do eqGuard .shl t x y (.int .u64 p) (.int k (n : Int)); binOp .shl t (.int .u64 p) (.int k (n : Int))) = some (.int .u64 ((p * 2 ^ n) % B64)) := by
  have h1 : ¬ (n : Int) < 0 := by omega
  have h2 : min ((n : Int).toNat) IntKind.u64.bits = n := by rw [Int.toNat_natCast]; exact Nat.min_eq_left (by simp [IntKind.bits]; omega)
  have h3 : Op.shift .shl .u64 p k (n : Int) = pure (.int .u64 (IntKind.u64.wrap (p * 2 ^ n))) := by
    unfold Op.shift
    rw [if_neg h1, h2]
  rw [← IntKind.wrap_u64]
  show pureRun P (Op.shift .shl .u64 p k (n : Int)) = _
  rw [h3]; rfl
theorem run_shrU {k : IntKind} {n : Nat} (hn : n ≤ 64) : pureRun P (do eqGuard .shr t x y (.int .u64 p) (.int k (n : Int)); binOp .shr t (.int .u64 p) (.int k (n : Int))) = some (.int .u64 (p / 2 ^ n)) := by
  have h1 : ¬ (n : Int) < 0 := by omega
  have h2 : min ((n : Int).toNat) IntKind.u64.bits = n := by rw [Int.toNat_natCast]; exact Nat.min_eq_left (by simp [IntKind.bits]; omega)
  have h3 : Op.shift .shr .u64 p k (n : Int) = pure (.int .u64 (p / 2 ^ n)) := by
    unfold Op.shift
    rw [if_neg h1, h2]
    simp only [Int.fdiv_eq_ediv_of_nonneg p (show (0 : Int) ≤ 2 ^ n from Int.pow_nonneg (by omega))]
  show pureRun P (Op.shift .shr .u64 p k (n : Int)) = _
  rw [h3]; rfl
theorem run_orD {p q : Int} (n m k : Nat) (hp : p = ((2 ^ n * m : Nat) : Int)) (hq : q = (k : Int)) (hm : 2 ^ n * m < 18446744073709551616) (hk : k < 2 ^ n) (hk2 : k < 18446744073709551616) :
    pureRun P (do eqGuard .or t x y (.int .u64 p) (.int .u64 q); binOp .or t (.int .u64 p) (.int .u64 q)) = some (.int .u64 (p + q)) := by
  subst hp
  subst hq
  rw [run_orU hm hk2, ← Nat.two_pow_add_eq_or_of_lt hk m]
  rfl
theorem run_shrI {k : IntKind} {n : Nat} (hn : n ≤ 64) : pureRun P (do eqGuard .shr t x y (.int .i64 p) (.int k (n : Int)); binOp .shr t (.int .i64 p) (.int k (n : Int))) = some (.int .i64 (p / 2 ^ n)) := by
  have h1 : ¬ (n : Int) < 0 := by omega
  have h2 : min ((n : Int).toNat) IntKind.i64.bits = n := by rw [Int.toNat_natCast]; exact Nat.min_eq_left (by simp [IntKind.bits]; omega)
  have h3 : Op.shift .shr .i64 p k (n : Int) = pure (.int .i64 (p / 2 ^ n)) := by
    unfold Op.shift
    rw [if_neg h1, h2]
    simp only [Int.fdiv_eq_ediv_of_nonneg p (show (0 : Int) ≤ 2 ^ n from Int.pow_nonneg (by omega))]
  show pureRun P (Op.shift .shr .i64 p k (n : Int)) = _
  rw [h3]; rfl
end
section
variable {C : Cx} {e : Env} {I : PH} {R : List Res} {K : Act → World → Prop} {Q : Exit → Act → World → Prop}
variable {d : Nat} {ty : TypeId} {pos : String} {after : Array Edge} {g : Option (Nat × Bool)} {v : Value}
theorem Nx.binr {op : BinOp} {t u : TypeId} {x y : Operand} {vx vy : Value} (hx : evo e x = some vx) (hy : evo e y = some vy) (hv : ∀ w, (do eqGuard op t x y vx vy; binOp op t vx vy).run C.P w = .ok v w) (hlt : Nat.blt d C.n = true)
    (h : Nx C ((d, v) :: e) I R K) : Nx C e I R (opK C.P ⟨some d, .binOp op t x y u, ty, pos, after, g⟩ K Q) :=
  Nx.op_run rfl hlt (fun a w ha _ => by simp only [execOp, ha.eval hx, ha.eval hy]; exact run_v (hv w)) h
theorem Nx.conv_u64 {t u : TypeId} {x : Operand} {k : IntKind} {p : Int} {s : TypeDesc} (hx : evo e x = some (.int k p)) (hs : C.P.underlying t = some s) (ht : C.P.underlying u = some (.int .u64)) (hlt : Nat.blt d C.n = true)
    (h : Nx C ((d, .int .u64 (p % B64)) :: e) I R K) : Nx C e I R (opK C.P ⟨some d, .convert t u x, ty, pos, after, g⟩ K Q) :=
  Nx.op_run rfl hlt (fun a w ha _ => by
    simp only [execOp, ha.eval hx]
    refine run_v ?_
    unfold convert
    rw [Sem.run_bind, run_underlying hs, Result.andThen_ok, Sem.run_bind, run_underlying ht, Result.andThen_ok]
    show Result.ok (Value.int .u64 (IntKind.u64.wrap p)) w = _
    rw [IntKind.wrap_u64]) h
theorem Nx.call_run {fx : Operand} {args : Array Operand} {tys : Array TypeId} {f : FuncId} {c1 c2 : Array Value} {vs al : List Value}
    (hfx : evo e fx = some (.func (.func f) c1 c2)) (hvs : evs e args.toList = some vs) (hal : c1.toList ++ vs ++ c2.toList = al) (hlt : Nat.blt d C.n = true)
    (hr : ∀ w, (callFunc f al.toArray).run C.P w = .ok (.value v) w)
    (h : Nx C ((d, v) :: e) I R K) : Nx C e I R (opK C.P ⟨some d, .call { callee := .value fx, args, argTypes := tys }, ty, pos, after, g⟩ K Q) :=
  Nx.op_run rfl hlt (fun a w ha _ => by
    have e1 : c1 ++ args.map a.eval ++ c2 = al.toArray := by
      rw [← hal, ← ha.evals hvs]
      apply Array.ext'
      simp
    unfold execOp
    simp only [resolve, ha.eval hfx, Deferred.ofValue]
    rw [Sem.run_bind]
    show Sem.run C.P (callFunc f (c1 ++ args.map a.eval ++ c2)) w = _
    rw [e1]
    exact hr w) h
end
theorem FnSpec.of_same {P : Program} {f : FuncId} {args : List Value} {I : PH} {v : Value} (h : ∀ (w W : World) (R : List Res), St W I R w → Calls P f args.toArray w fun e w' => e = .returned v ∧ w' = w) :
    FnSpec P f args I [] (fun u R' => u = v ∧ R' = []) := fun w _ hw =>
  (h w w _ hw).mono fun _ _ ⟨he, hw'⟩ => ⟨v, [], he, ⟨rfl, rfl⟩, hw' ▸ hw⟩
end Go.Eng
namespace Go.Eng
abbrev B128 : Int := 340282366920938463463374607431768211456
def wH (z : Int) : Nat := ((z % B128) / B64).toNat
def wL (z : Int) : Nat := (z % B64).toNat
def wideL (z : Int) : List Value := [.int .u64 (wH z), .int .u64 (wL z)]
theorem wH_lt (z : Int) : wH z < 18446744073709551616 := by unfold wH B128 B64; omega
theorem wL_lt (z : Int) : wL z < 18446744073709551616 := by unfold wL B64; omega
theorem wide_val (z : Int) : (wH z : Int) * B64 + wL z = z % B128 := by unfold wH wL B64 B128; omega
theorem wide_eq {h l : Nat} {z : Int} (hh : h < 18446744073709551616) (hl : l < 18446744073709551616) (he : ((h : Int) * B64 + l) % B128 = z % B128) : wH z = h ∧ wL z = l := by
  unfold wH wL B64 B128 at *
  omega
theorem wide_add (a b : Int) : wL (a + b) = (wL a + wL b) % 18446744073709551616 ∧ wH (a + b) = (wH a + wH b + (wL a + wL b) / 18446744073709551616) % 18446744073709551616 := by
  have h1 := wide_val a
  have h2 := wide_val b
  have la := wL_lt a; have lb := wL_lt b; have ha := wH_lt a; have hb := wH_lt b
  have := wide_eq (z := a + b) (h := (wH a + wH b + (wL a + wL b) / 18446744073709551616) % 18446744073709551616) (l := (wL a + wL b) % 18446744073709551616) (Nat.mod_lt _ (by decide)) (Nat.mod_lt _ (by decide)) (by
    rw [Int.add_emod a b, ← h1, ← h2]
    unfold B64 B128
    omega)
  exact ⟨this.2, this.1⟩
theorem sub_core {ha hb la lb : Nat} (h1 : ha < 18446744073709551616) (h2 : hb < 18446744073709551616) (h3 : la < 18446744073709551616) (h4 : lb < 18446744073709551616) :
    ((((ha + 18446744073709551616 - hb - (if la < lb + 0 then 1 else 0)) % 18446744073709551616 : Nat) : Int) * B64 + ((la + 18446744073709551616 - lb - 0) % 18446744073709551616 : Nat)) % B128 = ((ha : Int) * B64 + la - ((hb : Int) * B64 + lb)) % B128 := by
  have key : ∀ (x y k : Int), x = y + B128 * k → x % B128 = y % B128 := fun x y k h => by rw [h, Int.add_mul_emod_self_left]
  have nm : ∀ x : Nat, x < 18446744073709551616 → (x + 18446744073709551616) % 18446744073709551616 = x := fun x h => by rw [Nat.add_mod_right, Nat.mod_eq_of_lt h]
  by_cases hl : la < lb
  · rw [if_pos (by omega : la < lb + 0), show (la + 18446744073709551616 - lb - 0) % 18446744073709551616 = la + 18446744073709551616 - lb from Nat.mod_eq_of_lt (by omega)]
    by_cases hh : ha < hb + 1
    · rw [show (ha + 18446744073709551616 - hb - 1) % 18446744073709551616 = ha + 18446744073709551616 - hb - 1 from Nat.mod_eq_of_lt (by omega)]
      exact key _ _ 1 (by unfold B64 B128; omega)
    · rw [show ha + 18446744073709551616 - hb - 1 = (ha - hb - 1) + 18446744073709551616 by omega, nm _ (by omega)]
      exact key _ _ 0 (by unfold B64 B128; omega)
  · rw [if_neg (by omega : ¬ la < lb + 0), show la + 18446744073709551616 - lb - 0 = (la - lb) + 18446744073709551616 by omega, nm _ (by omega)]
    by_cases hh : ha < hb
    · rw [show (ha + 18446744073709551616 - hb - 0) % 18446744073709551616 = ha + 18446744073709551616 - hb from Nat.mod_eq_of_lt (by omega)]
      exact key _ _ 1 (by unfold B64 B128; omega)
    · rw [show ha + 18446744073709551616 - hb - 0 = (ha - hb) + 18446744073709551616 by omega, nm _ (by omega)]
      exact key _ _ 0 (by unfold B64 B128; omega)
theorem wide_sub (a b : Int) : wL (a - b) = (wL a + 18446744073709551616 - wL b - 0) % 18446744073709551616 ∧ wH (a - b) = (wH a + 18446744073709551616 - wH b - (if wL a < wL b + 0 then 1 else 0)) % 18446744073709551616 := by
  have := wide_eq (z := a - b) (h := (wH a + 18446744073709551616 - wH b - (if wL a < wL b + 0 then 1 else 0)) % 18446744073709551616) (l := (wL a + 18446744073709551616 - wL b - 0) % 18446744073709551616) (Nat.mod_lt _ (by decide)) (Nat.mod_lt _ (by decide)) (by
    rw [Int.sub_emod a b, ← wide_val a, ← wide_val b]
    exact sub_core (wH_lt a) (wH_lt b) (wL_lt a) (wL_lt b))
  exact ⟨this.2, this.1⟩
theorem wide_not (a : Int) : wH (-a - 1) = 18446744073709551615 - wH a ∧ wL (-a - 1) = 18446744073709551615 - wL a := by
  have h1 := wide_val a
  have la := wL_lt a; have ha := wH_lt a
  exact wide_eq (by omega) (by omega) (by
    unfold B64 B128 at *
    omega)
theorem wide_mul (a b : Int) : wL (a * b) = (wL a * wL b) % 18446744073709551616 ∧ wH (a * b) = (wL a * wL b / 18446744073709551616 + wH a * wL b + wL a * wH b) % 18446744073709551616 := by
  have h1 := wide_val a
  have h2 := wide_val b
  have := wide_eq (z := a * b) (h := (wL a * wL b / 18446744073709551616 + wH a * wL b + wL a * wH b) % 18446744073709551616) (l := (wL a * wL b) % 18446744073709551616) (Nat.mod_lt _ (by decide)) (Nat.mod_lt _ (by decide)) (by
    rw [Int.mul_emod a b, ← h1, ← h2]
    have e : ((wH a : Int) * B64 + wL a) * ((wH b : Int) * B64 + wL b) = B128 * (wH a * wH b) + ((wH a * wL b : Nat) + (wL a * wH b : Nat)) * B64 + (wL a * wL b : Nat) := by
      unfold B64 B128
      push_cast
      grind
    rw [e]
    generalize wH a * wL b = p
    generalize wL a * wH b = q
    generalize wL a * wL b = r
    generalize (wH a : Int) * wH b = s
    unfold B64 B128
    omega)
  exact ⟨this.2, this.1⟩
def InW (z : Int) : Prop := -170141183460469231731687303715884105728 ≤ z ∧ z < 170141183460469231731687303715884105728
theorem wide_zero {z : Int} (h : InW z) : (wH z = 0 ∧ wL z = 0) ↔ z = 0 := by unfold InW wH wL B128 B64 at *; omega
end Go.Eng
namespace Go.Eng
section
variable {P : Program} {t : TypeId} {x y : Operand} {p q : Int}
theorem run_shlN {k : IntKind} (n : Nat) (hq : q = (n : Int)) (hn : n ≤ 64) : pureRun P (do eqGuard .shl t x y (.int .u64 p) (.int k q); binOp .shl t (.int .u64 p) (.int k q)) = some (.int .u64 ((p * 2 ^ n) % B64)) := by
  subst hq; exact run_shlU hn
theorem run_shrN {k : IntKind} (n : Nat) (hq : q = (n : Int)) (hn : n ≤ 64) : pureRun P (do eqGuard .shr t x y (.int .u64 p) (.int k q); binOp .shr t (.int .u64 p) (.int k q)) = some (.int .u64 (p / 2 ^ n)) := by
  subst hq; exact run_shrU hn
theorem run_orE {p q : Int} (n m k : Nat) (hp : p = (k : Int)) (hq : q = ((2 ^ n * m : Nat) : Int)) (hm : 2 ^ n * m < 18446744073709551616) (hk : k < 2 ^ n) (hk2 : k < 18446744073709551616) :
    pureRun P (do eqGuard .or t x y (.int .u64 p) (.int .u64 q); binOp .or t (.int .u64 p) (.int .u64 q)) = some (.int .u64 (p + q)) := by
  subst hp
  subst hq
  rw [run_orU hk2 hm, Nat.or_comm, ← Nat.two_pow_add_eq_or_of_lt hk m, Nat.add_comm]
  rfl
end
section
variable {P : Program} {t : TypeId} {x y : Operand} {p q : Int}
end
theorem wL_nat (a : Nat) : wL (a : Int) = a % 18446744073709551616 := by unfold wL B64; omega
theorem wH_nat {a : Nat} (h : a < 340282366920938463463374607431768211456) : wH (a : Int) = a / 18446744073709551616 := by unfold wH B128 B64; omega
theorem pow_split {n : Nat} (hn : n ≤ 64) : 2 ^ (64 - n) * 2 ^ n = 18446744073709551616 := by
  rw [← Nat.pow_add, show 64 - n + n = 64 by omega]
theorem mul_lt_pow {a n : Nat} (h : a * 2 ^ n < 340282366920938463463374607431768211456) : a < 340282366920938463463374607431768211456 :=
  Nat.lt_of_le_of_lt (Nat.le_mul_of_pos_right a (Nat.two_pow_pos n)) h
theorem left_nat {a n : Nat} (hn : n ≤ 64) (h : a * 2 ^ n < 340282366920938463463374607431768211456) :
    a * 2 ^ n / 18446744073709551616 = a / 18446744073709551616 * 2 ^ n + a % 18446744073709551616 / 2 ^ (64 - n) ∧ a / 18446744073709551616 * 2 ^ n + a % 18446744073709551616 / 2 ^ (64 - n) < 18446744073709551616
      ∧ a % 18446744073709551616 / 2 ^ (64 - n) < 2 ^ n ∧ a * 2 ^ n % 18446744073709551616 = a % 18446744073709551616 * 2 ^ n % 18446744073709551616 := by
  have e := pow_split hn
  have h1 : a % 18446744073709551616 / 2 ^ (64 - n) = (a % 18446744073709551616) * 2 ^ n / 18446744073709551616 := by
    rw [← e, Nat.mul_div_mul_right _ _ (Nat.two_pow_pos n)]
  have h2 : a * 2 ^ n = (a / 18446744073709551616 * 2 ^ n) * 18446744073709551616 + a % 18446744073709551616 * 2 ^ n := by
    conv => lhs; rw [← Nat.div_add_mod a 18446744073709551616]
    rw [Nat.add_mul, Nat.mul_assoc, Nat.mul_comm 18446744073709551616]
  have h3 : a % 18446744073709551616 / 2 ^ (64 - n) < 2 ^ n := by
    rw [Nat.div_lt_iff_lt_mul (Nat.two_pow_pos _), Nat.mul_comm, e]
    exact Nat.mod_lt _ (by decide)
  refine ⟨?_, ?_, h3, ?_⟩
  · rw [h1, h2]; omega
  · rw [h1]; omega
  · rw [h2]; omega
theorem right_nat {a n : Nat} (hn : n ≤ 64) (_h : a < 340282366920938463463374607431768211456) :
    a / 2 ^ n / 18446744073709551616 = a / 18446744073709551616 / 2 ^ n ∧ a % 18446744073709551616 / 2 ^ n < 2 ^ (64 - n)
      ∧ a / 18446744073709551616 * 2 ^ (64 - n) % 18446744073709551616 = 2 ^ (64 - n) * (a / 18446744073709551616 % 2 ^ n)
      ∧ a / 2 ^ n % 18446744073709551616 = a % 18446744073709551616 / 2 ^ n + 2 ^ (64 - n) * (a / 18446744073709551616 % 2 ^ n) := by
  have e := pow_split hn
  have hp := Nat.two_pow_pos n
  have h3 : a % 18446744073709551616 / 2 ^ n < 2 ^ (64 - n) := by
    rw [Nat.div_lt_iff_lt_mul hp, e]
    exact Nat.mod_lt _ (by decide)
  have h4 : a / 18446744073709551616 * 2 ^ (64 - n) % 18446744073709551616 = 2 ^ (64 - n) * (a / 18446744073709551616 % 2 ^ n) := by
    have k : ∀ x p q m : Nat, p * q = m → x * p % m = p * (x % q) := fun x p q m hm => by rw [← hm, Nat.mul_comm x p, Nat.mul_mod_mul_left]
    exact k _ _ _ _ e
  refine ⟨by rw [Nat.div_div_eq_div_mul, Nat.div_div_eq_div_mul, Nat.mul_comm], h3, h4, ?_⟩
  have h5 : a / 2 ^ n = a / 18446744073709551616 * 2 ^ (64 - n) + a % 18446744073709551616 / 2 ^ n := by
    conv => lhs; rw [← Nat.div_add_mod a 18446744073709551616]
    rw [← e, Nat.mul_right_comm, Nat.mul_comm _ (2 ^ n), Nat.mul_add_div hp, Nat.mul_comm (2 ^ (64 - n)) (a / _)]
  have h6 : a % 18446744073709551616 / 2 ^ n + 2 ^ (64 - n) * (a / 18446744073709551616 % 2 ^ n) < 18446744073709551616 := by
    have : a / 18446744073709551616 % 2 ^ n < 2 ^ n := Nat.mod_lt _ hp
    have h7 : 2 ^ (64 - n) * (a / 18446744073709551616 % 2 ^ n + 1) ≤ 2 ^ (64 - n) * 2 ^ n := Nat.mul_le_mul_left _ this
    rw [e, Nat.mul_add] at h7
    omega
  have h8 : a / 18446744073709551616 * 2 ^ (64 - n) = 18446744073709551616 * (a / 18446744073709551616 * 2 ^ (64 - n) / 18446744073709551616) + 2 ^ (64 - n) * (a / 18446744073709551616 % 2 ^ n) := by
    rw [← h4]; exact (Nat.div_add_mod _ _).symm
  rw [h5]
  generalize a / 18446744073709551616 * 2 ^ (64 - n) = X at *
  generalize 2 ^ (64 - n) * (a / 18446744073709551616 % 2 ^ n) = Y at *
  generalize a % 18446744073709551616 / 2 ^ n = Z at *
  clear h5 h4 h3 e hp
  omega
def bitN (a i : Nat) : Nat := a / 2 ^ i % 2
def lenN (a : Nat) : Nat := if a < 18446744073709551616 then Lib.bitLen a else 64 + Lib.bitLen (a / 18446744073709551616)
theorem bitLen_two {x : Nat} (h : x < 18446744073709551616) : x < 2 ^ Lib.bitLen x ∧ (x ≠ 0 → 1 ≤ Lib.bitLen x ∧ 2 ^ (Lib.bitLen x - 1) ≤ x) := by
  by_cases h0 : x = 0
  · subst h0; decide
  · obtain ⟨a, b, c⟩ := Lib.bitLenAux_bounds 64 x h h0
    exact ⟨c, fun _ => ⟨a, b⟩⟩
theorem lenN_spec {a : Nat} (h : a < 340282366920938463463374607431768211456) : a < 2 ^ lenN a ∧ (a ≠ 0 → 1 ≤ lenN a ∧ 2 ^ (lenN a - 1) ≤ a) ∧ lenN a ≤ 128 := by
  unfold lenN
  split
  · rename_i hl
    obtain ⟨b1, b2⟩ := bitLen_two hl
    exact ⟨b1, b2, Nat.le_trans (Lib.bitLen_le a 64 (Nat.le_refl _) hl) (by decide)⟩
  · rename_i hl
    have hq : a / 18446744073709551616 < 18446744073709551616 := by omega
    obtain ⟨b1, b2⟩ := bitLen_two hq
    obtain ⟨b3, b4⟩ := b2 (by omega)
    have hle := Lib.bitLen_le (a / 18446744073709551616) 64 (Nat.le_refl _) hq
    generalize Lib.bitLen (a / 18446744073709551616) = L at *
    refine ⟨?_, fun _ => ⟨by omega, ?_⟩, by omega⟩
    · rw [Nat.pow_add, show (2 : Nat) ^ 64 = 18446744073709551616 from rfl]; omega
    · rw [show 64 + L - 1 = 64 + (L - 1) by omega, Nat.pow_add, show (2 : Nat) ^ 64 = 18446744073709551616 from rfl]; omega
def zerN (a : Nat) : Nat := if a % 18446744073709551616 = 0 then 64 + Lib.ctz 64 (a / 18446744073709551616) else Lib.ctz 64 (a % 18446744073709551616)
theorem ctz_two {x : Nat} (h0 : x ≠ 0) (h : x < 18446744073709551616) : ∃ m, x = 2 ^ Lib.ctz 64 x * (2 * m + 1) ∧ Lib.ctz 64 x < 64 := by
  unfold Lib.ctz
  rw [if_neg h0]
  exact Lib.ctzFrom_spec 64 x (by omega) h
theorem zerN_spec {a : Nat} (h0 : a ≠ 0) (h : a < 340282366920938463463374607431768211456) : ∃ m, a = 2 ^ zerN a * (2 * m + 1) ∧ zerN a < 128 := by
  unfold zerN
  split
  · rename_i hl
    obtain ⟨m, hm, hz⟩ := ctz_two (x := a / 18446744073709551616) (by omega) (by omega)
    generalize Lib.ctz 64 (a / 18446744073709551616) = z at *
    refine ⟨m, ?_, by omega⟩
    rw [Nat.pow_add, Nat.mul_assoc, ← hm, show (2 : Nat) ^ 64 = 18446744073709551616 from rfl]
    omega
  · rename_i hl
    obtain ⟨m, hm, hz⟩ := ctz_two (x := a % 18446744073709551616) (by omega) (Nat.mod_lt _ (by decide))
    generalize Lib.ctz 64 (a % 18446744073709551616) = z at *
    have e := pow_split (n := z) (by omega)
    refine ⟨a / 18446744073709551616 * 2 ^ (63 - z) + m, ?_, by omega⟩
    have e2 : (2 : Nat) ^ (64 - z) = 2 * 2 ^ (63 - z) := by rw [show 64 - z = (63 - z) + 1 by omega, Nat.pow_succ, Nat.mul_comm]
    conv => lhs; rw [← Nat.div_add_mod a 18446744073709551616, hm]
    rw [← e, e2]
    grind
theorem gcd_odd {a b z : Nat} (ha : a % 2 = 1) : Nat.gcd a (2 ^ z * b) = Nat.gcd a b := by
  have : Nat.Coprime a (2 ^ z) := by
    apply Nat.Coprime.pow_right
    have h := Nat.gcd_dvd_left a 2
    have h2 := Nat.gcd_dvd_right a 2
    have h3 : Nat.gcd a 2 = 1 ∨ Nat.gcd a 2 = 2 := by
      have := Nat.le_of_dvd (by decide) h2
      have : 0 < Nat.gcd a 2 := Nat.gcd_pos_of_pos_right _ (by decide)
      omega
    rcases h3 with h3 | h3
    · exact h3
    · rw [h3] at h; omega
  exact Nat.Coprime.gcd_mul_left_cancel_right b this.symm
theorem gcd_sub {a b : Nat} (h : a ≤ b) : Nat.gcd a (b - a) = Nat.gcd a b := by
  conv => rhs; rw [show b = (b - a) + a by omega]
  simp
theorem gcd_twos {i j u v : Nat} (hu : u % 2 = 1) (hv : v % 2 = 1) : Nat.gcd (2 ^ i * u) (2 ^ j * v) = 2 ^ (min i j) * Nat.gcd u v := by
  by_cases h : i ≤ j
  · rw [Nat.min_eq_left h, show j = i + (j - i) by omega, Nat.pow_add, Nat.mul_assoc, Nat.gcd_mul_left, gcd_odd hu]
  · rw [Nat.min_eq_right (by omega), show i = j + (i - j) by omega, Nat.pow_add, Nat.mul_assoc, Nat.gcd_mul_left, Nat.gcd_comm, gcd_odd hv, Nat.gcd_comm]
end Go.Eng
namespace Go.Eng
section
variable {P : Program} {t : TypeId} {x y : Operand} {p q : Int}
theorem run_remT (hq : q ≠ 0) : pureRun P (do eqGuard .rem t x y (.int .i64 p) (.int .i64 q); binOp .rem t (.int .i64 p) (.int .i64 q)) = some (.int .i64 (p.tmod q)) := by
  rw [eqGuard_rem, binOp_rem]
  unfold pureRun
  simp [Op.intDiv, hq]; rfl
end
def RB (q : Rat) : Prop := q.num.natAbs ≤ 1152921504606846976 ∧ q.den ≤ 1152921504606846976
instance (q : Rat) : Decidable (RB q) := by unfold RB; infer_instance
def FOk (n d : Int) : Prop := 1 ≤ d ∧ d ≤ 1152921504606846976 ∧ -1152921504606846976 ≤ n ∧ n ≤ 1152921504606846976 ∧ Nat.gcd n.natAbs d.natAbs = 1
instance (n d : Int) : Decidable (FOk n d) := by unfold FOk; infer_instance
def fracV (n d : Int) : Value := .agg #[.int .i64 n, .int .i64 d]
def ratV (q : Rat) : Value := fracV q.num q.den
def redN (q : Rat) : Int := if RB q then q.num else 0
def redD (q : Rat) : Int := if RB q then q.den else 0
def redE (q : Rat) : Int := if RB q then 0 else 14
def redV (q : Rat) : Value := .tuple #[.agg #[.int .i64 (redN q), .int .i64 (redD q)], .int .i64 (redE q)]
theorem redV_pos {q : Rat} (h : RB q) : redV q = .tuple #[ratV q, .int .i64 0] := by
  unfold redV redN redD redE
  rw [if_pos h, if_pos h, if_pos h]; rfl
theorem redV_neg {q : Rat} (h : ¬RB q) : redV q = .tuple #[fracV 0 0, .int .i64 14] := by
  unfold redV redN redD redE
  rw [if_neg h, if_neg h, if_neg h]; rfl
theorem RB.fok {q : Rat} (h : RB q) : FOk q.num q.den := by
  have h0 := q.den_pos
  have hr := q.reduced
  unfold RB at h
  refine ⟨by omega, by omega, by omega, by omega, ?_⟩
  rw [Int.natAbs_natCast]
  exact hr
theorem div_parts (z : Int) {D : Nat} (hD : 0 < D) : (Rat.divInt z D).den = D / Nat.gcd D z.natAbs ∧ (Rat.divInt z D).num.natAbs = z.natAbs / Nat.gcd D z.natAbs ∧ (Rat.divInt z D).num = ((z.natAbs / Nat.gcd D z.natAbs : Nat) : Int) * z.sign := by
  have hg : Int.gcd (D : Int) z = Nat.gcd D z.natAbs := rfl
  have hg0 : 0 < Nat.gcd D z.natAbs := Nat.gcd_pos_of_pos_left _ hD
  obtain ⟨k, hk⟩ := Nat.gcd_dvd_right D z.natAbs
  have hkd : z.natAbs / Nat.gcd D z.natAbs = k := by
    conv => lhs; arg 1; rw [hk]
    exact Nat.mul_div_cancel_left _ hg0
  have hs : (D : Int).sign = 1 := Int.sign_eq_one_of_pos (by omega)
  have hz : z = (Nat.gcd D z.natAbs : Int) * ((k : Int) * z.sign) := by
    have h1 : z = (z.natAbs : Int) * z.sign := by rw [Int.mul_comm]; exact (Int.sign_mul_natAbs z).symm
    conv => lhs; rw [h1, hk]
    rw [Int.natCast_mul, Int.mul_assoc]
  have hnum : (Rat.divInt z D).num = (k : Int) * z.sign := by
    rw [Rat.num_divInt, hs, Int.one_mul, hg]
    conv => lhs; arg 1; rw [hz]
    exact Int.mul_ediv_cancel_left _ (by omega)
  rw [hkd]
  refine ⟨?_, ?_, hnum⟩
  · rw [Rat.den_divInt, if_neg (by omega), hg, Int.natAbs_natCast]
  · rw [hnum, Int.natAbs_mul]
    by_cases h0 : z = 0
    · subst h0
      have : k = 0 := by
        rw [← hkd]; simp
      simp [this]
    · rw [Int.natAbs_sign_of_ne_zero h0]
      simp
def opV (n d m e : Int) (q : Rat) : Value := if FOk n d ∧ FOk m e then redV q else .tuple #[fracV 0 0, .int .i64 11]
theorem opV_congr {n d m e : Int} {p q : Rat} (h : FOk n d ∧ FOk m e → p = q) : opV n d m e p = opV n d m e q := by
  unfold opV
  split
  · rename_i h'; rw [h h']
  · rfl
def divV (n d m e : Int) : Value := if FOk n d ∧ FOk m e then (if m = 0 then .tuple #[fracV 0 0, .int .i64 18] else redV (Rat.divInt n d / Rat.divInt m e)) else .tuple #[fracV 0 0, .int .i64 11]
theorem rat_div_eq (n d m e : Int) : Rat.divInt n d / Rat.divInt m e = Rat.divInt (n * e) (d * m) := by
  rw [Rat.div_def, Rat.inv_divInt, Rat.divInt_mul_divInt]
end Go.Eng
namespace Go.Eng
open Go.Sort (grow)
section
variable {P : Program} {t : TypeId} {x y : Operand} {a b : List UInt8}
theorem run_boolne {t : TypeId} {x y : Operand} (ht : P.underlying t = some .bool) (b c : Bool) (w : World) : (do eqGuard .neq t x y (.bool b) (.bool c); binOp .neq t (.bool b) (.bool c)).run P w = .ok (.bool (!(b == c))) w := by
  rw [eqGuard_at_bool]
  show (do pure (Value.bool (!(← Op.equal t (.bool b) (.bool c)))) : Sem Value).run P w = _
  rw [Sem.run_bind, run_equal_bool w t b c ht]; rfl
end
end Go.Eng
namespace Go.Eng
theorem Ent.unstars {B R : List Res} : Ent (Stars B :: R) (B ++ R) := by
  rintro m ⟨m1, m2, hd, rfl, h1, h2⟩
  obtain ⟨k, hk, hkS⟩ := Stars.join hd h1 h2
  exact ⟨k, hk, hkS⟩
theorem Ent.stars {B R : List Res} : Ent (B ++ R) (Stars B :: R) := by
  intro m hm
  obtain ⟨m1, m2, hd, rfl, h1, h2⟩ := Stars.append hm
  exact ⟨_, PH.le_refl _, m1, m2, hd, rfl, h1, h2⟩
theorem Ent.push : ∀ (k : Nat) (R : List Res) (r : Res), R[k]? = some r → Ent (r :: R.eraseIdx k) R
  | 0, r' :: R, r, h => by simp at h; subst h; exact Ent.refl _
  | k + 1, r' :: R, r, h => (Ent.swap _ _ _).trans (Ent.pick 0 rfl (Ent.push k R r (by simpa using h)))
  | k, [], r, h => by simp at h
theorem Ent.takeOut (k : Nat) {B R : List Res} {r : Res} (h : B[k]? = some r) : Ent (Stars B :: R) (r :: Stars (B.eraseIdx k) :: R) := by
  have hk := (List.getElem?_eq_some_iff.1 h).1
  refine Ent.unstars.trans ((Ent.pull k (B ++ R) r (by rw [List.getElem?_append_left hk]; exact h)).trans ?_)
  rw [List.eraseIdx_append_of_lt_length hk]
  exact Ent.pick 0 rfl Ent.stars
theorem Ent.putIn (k : Nat) {B R : List Res} {r : Res} (hk : k < B.length) : Ent (r :: Stars (B.eraseIdx k) :: R) (Stars (B.set k r) :: R) := by
  have e : (B.set k r).eraseIdx k = B.eraseIdx k := List.eraseIdx_set_eq
  have hk2 : k < (B.set k r).length := by rw [List.length_set]; exact hk
  have h1 : Ent (r :: Stars (B.eraseIdx k) :: R) (r :: (B.eraseIdx k ++ R)) := Ent.pick 0 rfl Ent.unstars
  refine h1.trans (Ent.trans ?_ Ent.stars)
  rw [← e, ← List.eraseIdx_append_of_lt_length hk2]
  exact Ent.push k _ r (by rw [List.getElem?_append_left hk2, List.getElem?_set_self hk])
section
variable {C : Cx} {e : Env} {I : PH} {R : List Res} {K : Act → World → Prop} {Q : Exit → Act → World → Prop} {S : World → Prop} {d : Nat} {dst : Option Tmp} {ty t u : TypeId} {pos : String} {after : Array Edge} {g : Option (Nat × Bool)} {x y : Operand} {a b : List UInt8}
theorem QRun.fld {k o : Nat} {A : Addr} (hx : evo e x = some (.pointer (some A))) (ho : fieldOff C.P t k = some o) : QRun C e S ⟨dst, .fieldAddr t x k, ty, pos, after, g⟩ (.pointer (some (A.add o))) := fun a w ha _ => by
  simp only [execOp, ha.eval hx]
  exact run_v (fieldOff_run ho A w)
end
theorem flat_len {α : Type} {f : α → List Value} {sz : Nat} (hf : ∀ x, (f x).length = sz) (l : List α) : (l.flatMap f).length = l.length * sz := by
  induction l with
  | nil => simp
  | cons x l ih => rw [List.flatMap_cons, List.length_append, ih, hf, List.length_cons, Nat.succ_mul]; omega
section
variable {α : Type} [Inhabited α] {f : α → List Value} {sz : Nat}
theorem Rds.vecN {W : World} {I : PH} {R : List Res} {t : TypeId} {A : Option Addr} {n c : Nat} {l : List α} (k : Nat) {i : Nat} (hf : ∀ x, (f x).length = sz) (hk : nthL R k = some (Vec t sz A n c (l.flatMap f))) (hi : i < l.length) : Rds W I R ((ad A).add (i * sz)) (f (l.getD i default)) := by
  intro j u hj
  have hfl := flatMap_at (f := f) (sz := sz) (fun x _ => hf x) hi
  have hjl : j < sz := by have := (List.getElem?_eq_some_iff.1 hj).1; rw [hf] at this; exact this
  rw [← hfl, List.getElem?_take, if_pos hjl, List.getElem?_drop] at hj
  rw [Addr.add_add]
  exact Rd.vecAt k hk (by rw [nthL_eq]; exact hj)
theorem SliceN.fld {c k : Nat} {l : List α} {I : PH} {R : List Res} {W : World} {A : Option Addr} {v : Value} (h : SliceN f sz I A c l) (hk : k < l.length) (j : Nat) (hj : nthL (f (l.getD k default)) j = some v) : Rd W I R (((ad A).add (k * sz)).add j) v :=
  h.rds hk j v (nthL_eq.symm.trans hj)
end
end Go.Eng
namespace Go.Eng
section
variable {C : Cx} {e : Env} {S : World → Prop} {ty t u : TypeId} {pos : String} {after : Array Edge} {g : Option (Nat × Bool)} {x : Operand} {dst : Option Tmp}
theorem QRun.un {op : UnOp} {vx v : Value} (hx : evo e x = some vx) (hv : pureRun C.P (Op.unary op vx) = some v) : QRun C e S ⟨dst, .unOp op t x, ty, pos, after, g⟩ v :=
  fun a w ha _ => by simp only [execOp, ha.eval hx]; exact run_v (run_of_pureRun hv w)
theorem QRun.neg {p : Int} (hx : evo e x = some (.int .i64 p)) (hr : I64 (-p)) : QRun C e S ⟨dst, .unOp .neg t x, ty, pos, after, g⟩ (.int .i64 (-p)) :=
  QRun.un hx (by rw [← wrap_i64 hr, ← Int.zero_sub]; rfl)
theorem Nx.unstop {I : PH} {R : List Res} {K : Act → World → Prop} (h : Nx C e I R K) : Nx C e I R (Stop K) := h
end
end Go.Eng
namespace Go.Eng
def FnSpecP (P : Program) (f : FuncId) (args : List Value) (I : PH) (Rpre : List Res) (Post : Value → List Res → Prop) (Pan : List PanicEntry → List Res → Prop) : Prop :=
  ∀ (w : World) (F : Res), St w I (Rpre ++ [F]) w → Calls P f args.toArray w fun e w' => (∃ v R', e = .returned v ∧ Post v R' ∧ St w I (R' ++ [F]) w') ∨ (∃ ch R', e = .panicked ch ∧ Pan ch R' ∧ St w I (R' ++ [F]) w')
def fnPostP (P : Program) (fn : Func) (I : PH) (F : Res) (W : World) (Post : Value → List Res → Prop) (Pan : List PanicEntry → List Res → Prop) : Exit → Act → World → Prop :=
  bodyPost P fn fun e w' => (∃ v R', e = .returned v ∧ Post v R' ∧ St W I (R' ++ [F]) w') ∨ (∃ ch R', e = .panicked ch ∧ Pan ch R' ∧ St W I (R' ++ [F]) w')
theorem FnSpecP.enterP {P : Program} {f : FuncId} {fn : Func} {args : List Value} {I : PH} {Rpre : List Res} {Post : Value → List Res → Prop} {Pan : List PanicEntry → List Res → Prop} {n : Nat}
    (hf : P.funcs[f]? = some fn) (hb : fn.body.isSome = true) (hn : fn.ntmps = n) (hle : Nat.ble args.length n = true)
    (h : ∀ w F, Nx ⟨P, n, w⟩ (argEnv args 0) I (Rpre ++ [F]) ((bodyOf fn).wp P (fnPostP P fn I F w Post Pan))) : FnSpecP P f args I Rpre Post Pan := by
  obtain ⟨c, hc⟩ := Option.isSome_iff_exists.1 hb
  have : bodyOf fn = c := by unfold bodyOf; rw [hc]
  rw [this] at h
  intro w F hw
  have hle := Nat.le_of_ble_eq_true hle
  refine calls_of_wp hf hc (h w F _ w ⟨?_, rfl, fun t v ht => ?_⟩ hw)
  · simp [hn]; omega
  · obtain ⟨_, h2⟩ := argEnv_lk args 0 t v ht
    have hlt : t < args.length := by
      rcases Nat.lt_or_ge t args.length with h' | h'
      · exact h'
      · rw [Nat.sub_zero, List.getElem?_eq_none h'] at h2; cases h2
    rw [Array.getElem?_append_left (by simpa using hlt)]
    simpa using h2
theorem PanicOk.fnP {P : Program} {fn : Func} {I : PH} {F : Res} {W : World} {Post : Value → List Res → Prop} {Pan : List PanicEntry → List Res → Prop} : PanicOk (fnPostP P fn I F W Post Pan) := by
  intro c d v a w h
  have hd : (Act.put a d v).defers = a.defers := by cases d <;> rfl
  obtain ⟨h1, h2⟩ := h
  exact ⟨hd ▸ h1, h2⟩
section
variable {C : Cx} {e : Env} {I : PH} {R : List Res} {K : Act → World → Prop} {Q : Exit → Act → World → Prop}
variable {d : Nat} {ty : TypeId} {pos : String} {after : Array Edge} {g : Option (Nat × Bool)} {x : Operand} {dst : Option Tmp}
theorem Nx.ret_fnP {fn : Func} {F : Res} {Post : Value → List Res → Prop} {Pan : List PanicEntry → List Res → Prop} {v : Value} (hv : resV e fn.results.toList = some v) (R' : List Res) (hp : Post v R') (hR : Ent R (R' ++ [F])) : Nx C e I R (fnPostP C.P fn I F C.W Post Pan .ret) :=
  fun _ _ ha hw => ⟨ha.defers, v, resV_run ha hv, .inl ⟨v, R', rfl, hp, hw.ent hR⟩⟩
theorem Nx.end_fnP {fn : Func} {F : Res} {Post : Value → List Res → Prop} {Pan : List PanicEntry → List Res → Prop} {v : Value} (hv : resV e fn.results.toList = some v) (R' : List Res) (hp : Post v R') (hR : Ent R (R' ++ [F])) : Nx C e I R (fnPostP C.P fn I F C.W Post Pan .normal) :=
  fun _ _ ha hw => ⟨ha.defers, v, resV_run ha hv, .inl ⟨v, R', rfl, hp, hw.ent hR⟩⟩
theorem Nx.pan_fnP {fn : Func} {F : Res} {Post : Value → List Res → Prop} {Pan : List PanicEntry → List Res → Prop} {ch : List PanicEntry} (R' : List Res) (hp : Pan ch R') (hR : Ent R (R' ++ [F])) : Nx C e I R (fnPostP C.P fn I F C.W Post Pan (.panic ch)) :=
  fun _ _ ha hw => ⟨ha.defers, .inr ⟨ch, R', rfl, hp, hw.ent hR⟩⟩
theorem Nx.then_panic {ch : List PanicEntry} (h : Nx C e I R (Q (.panic ch))) : Nx C e I R (Exit.then K Q (.panic ch)) := h
theorem Nx.in_panic {ch : List PanicEntry} {id : Nat} (h : Nx C e I R (Q (.panic ch))) : Nx C e I R (Exit.inBlock id Q (.panic ch)) := h
theorem Nx.panic_ {t : TypeId} {v : Value} (hx : evo e x = some (.iface t v)) (h : Nx C e I R (Q (.panic [{ v := .iface t v, recovered := false }]))) : Nx C e I R (opK C.P ⟨dst, .panic x, ty, pos, after, g⟩ K Q) := by
  intro a w ha hw
  unfold opK Oper.wp
  have hr : (execOp a.eval ⟨dst, .panic x, ty, pos, after, g⟩).run C.P w = .halt (.panic (.iface t v)) w := by
    simp only [execOp, ha.eval hx]
    rfl
  rw [hr]
  exact h a w ha hw
end
def L (ds : List Deferred) (K : Act → World → Prop) : Act → World → Prop := fun a w => K { a with defers := ds } w
def LQ (ds : List Deferred) (Q : Exit → Act → World → Prop) : Exit → Act → World → Prop := fun ex a w => Q ex { a with defers := ds } w
def plainOp (o : Oper) : Bool := match o.op with
  | .move _ | .assign _ | .alloc _ | .build .. | .buildSlice .. | .load .. | .store .. | .unOp .. | .convert .. | .makeInterface .. | .makeFunc .. | .fieldAddr .. | .indexAddr .. | .extract .. => true
  | _ => false
theorem run_v_kind {s : Sem Value} {P : Program} {w w' : World} {n : Next} (h : Sem.run P (do pure (Next.value (← s))) w = .ok n w') : ∃ v, n = .value v := by
  rw [Sem.run_bind] at h
  cases hs : s.run P w with
  | ok v w1 => rw [hs] at h; cases h; exact ⟨v, rfl⟩
  | halt r w1 => rw [hs] at h; cases h
theorem run_u_kind {s : Sem Unit} {P : Program} {w w' : World} {n : Next} (h : Sem.run P (do s; pure Next.skip) w = .ok n w') : n = .skip := by
  rw [Sem.run_bind] at h
  cases hs : s.run P w with
  | ok v w1 => rw [hs] at h; cases h; rfl
  | halt r w1 => rw [hs] at h; cases h
theorem plain_run {o : Oper} (hp : plainOp o = true) {ρ : Operand → Value} {P : Program} {w w' : World} {n : Next} (h : (execOp ρ o).run P w = .ok n w') : (∃ v, n = .value v) ∨ n = .skip := by
  obtain ⟨dst, op, ty, pos, after, g⟩ := o
  cases op <;> simp only [plainOp, Bool.false_eq_true] at hp <;> first
    | exact False.elim hp
    | exact .inl (run_v_kind h)
    | exact .inr (run_u_kind h)
    | (cases h; exact .inl ⟨_, rfl⟩)
section
variable {C : Cx} {e : Env} {I : PH} {R : List Res} {K : Act → World → Prop} {Q : Exit → Act → World → Prop} {ds : List Deferred} {ops : Array Oper} {i : Nat} {o : Oper} {c : Code}
theorem NxL.at_op (ho : opAt ops.toList i = some o) (hg : o.guard = none) (h : Nx C e I R (L ds (opK C.P o (wpAt C.P ops Q (i + 1)) Q))) : Nx C e I R (L ds (wpAt C.P ops Q i)) := by
  intro a w ha hw
  have h1 := h a w ha hw
  unfold L wpAt at *
  rw [drop_of (opAt_arr ho)]
  unfold wpList
  rw [if_pos (by simp [Region.wanted, hg])]
  exact .inl h1
theorem NxL.at_end (ho : opAt ops.toList i = none) (h : Nx C e I R (L ds (Q .normal))) : Nx C e I R (L ds (wpAt C.P ops Q i)) := by
  intro a w ha hw
  have h1 := h a w ha hw
  unfold L wpAt at *
  rw [List.drop_eq_nil_of_le (by have := Array.getElem?_eq_none_iff.1 (opAt_arr ho); simpa using this)]
  exact h1
theorem NxL.p_region (hk : ck c = 1) (h : Nx C e I R (L ds (wpAt C.P (cops c) Q 0))) : Nx C e I R (L ds (c.wp C.P Q)) := by
  cases c <;> first | (simp [ck] at hk; done) | skip
  rename_i id ops d
  cases d with
  | true => simp [ck] at hk
  | false =>
    intro a w ha hw
    have h1 := h a w ha hw
    unfold L wpAt at h1
    rw [List.drop_zero] at h1
    exact wp_region_list h1
theorem NxL.p_seq (hk : ck c = 3) (h : Nx C e I R (L ds ((cl c).wp C.P (Exit.then ((cr c).wp C.P Q) Q)))) : Nx C e I R (L ds (c.wp C.P Q)) := by
  cases c <;> first | exact fun a w ha hw => wp_seq (h a w ha hw) | (simp [ck] at hk; done) | (rename_i d; cases d <;> simp [ck] at hk)
theorem NxL.then_normal (h : Nx C e I R (L ds K)) : Nx C e I R (L ds (Exit.then K Q .normal)) := h
theorem put_defers (a : Act) (dst : Option Tmp) (v : Value) : { a.put dst v with defers := ds } = ({ a with defers := ds } : Act).put dst v := by cases dst <;> rfl
theorem NxL.op (hp : plainOp o = true) (h : Nx C e I R (opK C.P o (L ds K) (LQ ds Q))) : Nx C e I R (L ds (opK C.P o K Q)) := by
  intro a w ha hw
  have h1 := h a w ha hw
  unfold L
  unfold opK Oper.wp at h1 ⊢
  have he : ({ a with defers := ds } : Act).eval = a.eval := rfl
  rw [he]
  cases hr : (execOp a.eval o).run C.P w with
  | ok n w' =>
    rw [hr] at h1
    rcases plain_run hp hr with ⟨v, rfl⟩ | rfl
    · show K _ _
      have h2 : K { a.put o.dst v with defers := ds } w' := h1
      rw [put_defers] at h2
      exact h2
    · show K _ _
      have h2 : K { a.put o.dst undef with defers := ds } w' := h1
      rw [put_defers] at h2
      exact h2
  | halt s w' =>
    rw [hr] at h1
    cases s <;> first | exact h1 | exact h1.elim
variable {d : Nat} {ty : TypeId} {pos : String} {after : Array Edge} {g : Option (Nat × Bool)}
theorem Nx.defer_ {fx : Operand} {args : Array Operand} {tys : Array TypeId} {f : FuncId} {c1 c2 : Array Value} {vs : List Value} (hfx : evo e fx = some (.func (.func f) c1 c2)) (hvs : evs e args.toList = some vs)
    (h : Nx C e I R (L [{ target := .fn (.func f) c2, args := c1 ++ vs.toArray }] K)) : Nx C e I R (opK C.P ⟨none, .defer { callee := .value fx, args, argTypes := tys }, ty, pos, after, g⟩ K Q) := by
  intro a w ha hw
  unfold opK Oper.wp
  have e1 : args.map a.eval = vs.toArray := by
    apply Array.ext'
    rw [Array.toList_map]
    exact ha.evals hvs
  have hr : (execOp a.eval ⟨none, .defer { callee := .value fx, args, argTypes := tys }, ty, pos, after, g⟩).run C.P w = .ok (.defer { target := .fn (.func f) c2, args := c1 ++ vs.toArray }) w := by
    simp only [execOp, resolve, ha.eval hfx, Deferred.ofValue, e1]
    rfl
  rw [hr]
  have hd := ha.defers
  show K ({ a with defers := _ :: a.defers } : Act) w
  rw [hd]
  exact h a w ha hw
def fnPostD (P : Program) (fn : Func) (I : PH) (F : Res) (W : World) (Post : Value → List Res → Prop) : Exit → Act → World → Prop :=
  bodyPostD P fn fun e w' => ∃ v R', e = .returned v ∧ Post v R' ∧ St W I (R' ++ [F]) w'
theorem FnSpec.enterD {P : Program} {f : FuncId} {fn : Func} {args : List Value} {I : PH} {Rpre : List Res} {Post : Value → List Res → Prop} {n : Nat}
    (hf : P.funcs[f]? = some fn) (hb : fn.body.isSome = true) (hn : fn.ntmps = n) (hle : Nat.ble args.length n = true)
    (h : ∀ w F, Nx ⟨P, n, w⟩ (argEnv args 0) I (Rpre ++ [F]) ((bodyOf fn).wp P (fnPostD P fn I F w Post))) : FnSpec P f args I Rpre Post := by
  obtain ⟨c, hc⟩ := Option.isSome_iff_exists.1 hb
  have : bodyOf fn = c := by unfold bodyOf; rw [hc]
  rw [this] at h
  intro w F hw
  have hle := Nat.le_of_ble_eq_true hle
  refine calls_of_wp_defers hf hc (h w F _ w ⟨?_, rfl, fun t v ht => ?_⟩ hw)
  · simp [hn]; omega
  · obtain ⟨_, h2⟩ := argEnv_lk args 0 t v ht
    have hlt : t < args.length := by
      rcases Nat.lt_or_ge t args.length with h' | h'
      · exact h'
      · rw [Nat.sub_zero, List.getElem?_eq_none h'] at h2; cases h2
    rw [Array.getElem?_append_left (by simpa using hlt)]
    simpa using h2
theorem NxL.ret_D {fn : Func} {F : Res} {Post : Value → List Res → Prop} {v : Value} {q : FuncId} {cap dargs : Array Value} {al : List Value} (hv : resV e fn.results.toList = some v) (hal : dargs.toList ++ cap.toList = al) (hc : callable C.P q = true)
    (hd : ∀ w, CallsD C.P q al.toArray .returning w fun en u' w' => (∃ z, en = .returned z) ∧ u' = .returning ∧ w' = w) (R' : List Res) (hp : Post v R') (hR : Ent R (R' ++ [F])) : Nx C e I R (L [{ target := .fn (.func q) cap, args := dargs }] (fnPostD C.P fn I F C.W Post .ret)) := by
  intro a w ha hw
  have e1 : dargs ++ cap = al.toArray := by rw [← hal]; apply Array.ext'; simp
  refine leaves_cons (f := q) (args := al.toArray) (by simp) (by show (callFunc q (dargs ++ cap)).run C.P w = _; rw [e1]; exact run_callFunc hc _ w) ?_
  refine (hd w).mono ?_
  rintro en u' w' ⟨⟨z, rfl⟩, rfl, rfl⟩
  exact ⟨v, resV_run ha hv, v, R', rfl, hp, hw.ent hR⟩
end
end Go.Eng
namespace Go.Proofs.YtpcnapidlhpbkaaGreatDoor
open Go.Eng Go.Sol
attribute [local irreducible] opK wpList Code.wp Exit.then Exit.inBlock fnPost bodyPost Nx Calls Oper.wp Rd Rds Wr Ent Stars Blk Again Vec FnSpec wpMix QRun Stop Upto wpAt
abbrev iR (A : Option Addr) (c : Nat) (l : List Int) : Res := Vec 3 1 A l.length c (l.map (Value.int .i64))
abbrev PT : TypeId := 176
structure Pl where
  b : Nat
  tv : Value
  iv : Value
  Ar : Option Addr
  cr : Nat
  Ao : Option Addr
  co : Nat
  At : Option Addr
  ct : Nat
def Pl.blk (p : Pl) (n k : Nat) : Res := Blk p.b PT [p.tv, p.iv, .slice p.Ar k p.cr, .slice p.Ao k p.co, .slice p.At n p.ct]
def inL (l : List Eqn) (c : Nat) : List Int := ((List.range l.length).filter fun i => decide (c ∈ (l.getD i default).1)).map Int.ofNat
structure InI (I : PH) (p : Pl) (n : Nat) (l : List Eqn) : Prop where
  ex : ∃ (Ai : Option Addr) (ci : Nat) (ins : List Row), p.iv = .slice Ai n ci ∧ ins.length = n ∧ SliceOf rowV I Ai ci ins ∧ (∀ r ∈ ins, Ints I r.1 r.2.1 r.2.2) ∧ ∀ c, c < n → (ins.getD c default).2.2 = inL l c
theorem InI.mono {I I' : PH} {p : Pl} {n : Nat} {l : List Eqn} (hle : PH.le I I') (h : InI I p n l) : InI I' p n l := by
  obtain ⟨Ai, ci, ins, h1, h2, h3, h4, h5⟩ := h.ex
  exact ⟨Ai, ci, ins, h1, h2, h3.mono hle, fun r hr => (h4 r hr).mono hle, h5⟩
theorem inL_at {l : List Eqn} {c k : Nat} (hk : k < (inL l c).length) : ∃ i : Nat, (inL l c).getD k default = (i : Int) ∧ i < l.length ∧ c ∈ (l.getD i default).1 := by
  have hm : (inL l c).getD k default ∈ inL l c := by rw [List.getD_eq_getElem?_getD, List.getElem?_eq_getElem hk]; exact List.getElem_mem _
  generalize (inL l c).getD k default = z at hm
  unfold inL at hm
  obtain ⟨i, hi, rfl⟩ := List.mem_map.1 hm
  obtain ⟨h1, h2⟩ := List.mem_filter.1 hi
  exact ⟨i, rfl, List.mem_range.1 h1, of_decide_eq_true h2⟩
theorem mem_inL {l : List Eqn} {c i : Nat} : (i : Int) ∈ inL l c ↔ i < l.length ∧ c ∈ (l.getD i default).1 := by
  unfold inL
  rw [List.mem_map]
  constructor
  · rintro ⟨j, hj, he⟩
    obtain rfl : j = i := Int.ofNat.inj he
    obtain ⟨h1, h2⟩ := List.mem_filter.1 hj
    exact ⟨List.mem_range.1 h1, of_decide_eq_true h2⟩
  · rintro ⟨h1, h2⟩
    exact ⟨i, List.mem_filter.2 ⟨List.mem_range.2 h1, decide_eq_true h2⟩, rfl⟩
theorem inL_nd (l : List Eqn) (c : Nat) : (inL l c).Nodup := by
  unfold inL
  exact List.Pairwise.map Int.ofNat (fun a b h e => h (Int.ofNat.inj e)) (List.nodup_range.filter _)
theorem inL_len (l : List Eqn) (c : Nat) : (inL l c).length ≤ l.length := by
  unfold inL
  rw [List.length_map]
  exact Nat.le_trans (List.length_filter_le _ _) (by simp)
def restL (l : List Eqn) (t : List Int) : List Int := l.map (restQ t)
def openL (l : List Eqn) (U : List Nat) : List Int := l.map fun q => (openQ U q : Int)
theorem restL_len (l : List Eqn) (t : List Int) : (restL l t).length = l.length := List.length_map _
theorem openL_len (l : List Eqn) (U : List Nat) : (openL l U).length = l.length := List.length_map _
theorem restL_at {l : List Eqn} {t : List Int} {i : Nat} (hi : i < l.length) : (restL l t).getD i default = restQ t (l.getD i default) := by
  unfold restL
  rw [List.getD_eq_getElem?_getD, List.getElem?_map, List.getD_eq_getElem?_getD, List.getElem?_eq_getElem hi]; rfl
theorem openL_at {l : List Eqn} {U : List Nat} {i : Nat} (hi : i < l.length) : (openL l U).getD i default = (openQ U (l.getD i default) : Int) := by
  unfold openL
  rw [List.getD_eq_getElem?_getD, List.getElem?_map, List.getD_eq_getElem?_getD, List.getElem?_eq_getElem hi]; rfl
def lowK (rest opn ix : List Int) : Nat → Int
  | 0 => 0
  | k + 1 => if opn.getD (ix.getD k default).toNat default = 1 then max (lowK rest opn ix k) (rest.getD (ix.getD k default).toNat default) else lowK rest opn ix k
def highK (rest ix : List Int) : Nat → Int
  | 0 => 1000000
  | k + 1 => min (highK rest ix k) (rest.getD (ix.getD k default).toNat default)
theorem lowK_le {rest opn ix : List Int} {v : Int} : ∀ {k : Nat}, lowK rest opn ix k ≤ v ↔ 0 ≤ v ∧ ∀ j, j < k → opn.getD (ix.getD j default).toNat default = 1 → rest.getD (ix.getD j default).toNat default ≤ v
  | 0 => by simp [lowK]
  | k + 1 => by
    unfold lowK
    have key : (∀ j, j < k + 1 → opn.getD (ix.getD j default).toNat default = 1 → rest.getD (ix.getD j default).toNat default ≤ v) ↔ (∀ j, j < k → opn.getD (ix.getD j default).toNat default = 1 → rest.getD (ix.getD j default).toNat default ≤ v) ∧ (opn.getD (ix.getD k default).toNat default = 1 → rest.getD (ix.getD k default).toNat default ≤ v) :=
      ⟨fun h => ⟨fun j hj => h j (by omega), h k (by omega)⟩, fun h j hj => by
        by_cases hjk : j = k
        · rw [hjk]; exact h.2
        · exact h.1 j (by omega)⟩
    rw [key]
    split
    · rename_i h1
      rw [Int.max_le, lowK_le]
      exact ⟨fun ⟨⟨a, b⟩, c⟩ => ⟨a, b, fun _ => c⟩, fun ⟨a, b, c⟩ => ⟨⟨a, b⟩, c h1⟩⟩
    · rename_i h1
      rw [lowK_le]
      exact ⟨fun ⟨a, b⟩ => ⟨a, b, fun h => absurd h h1⟩, fun ⟨a, b, _⟩ => ⟨a, b⟩⟩
theorem le_highK {rest ix : List Int} {v : Int} : ∀ {k : Nat}, v ≤ highK rest ix k ↔ v ≤ 1000000 ∧ ∀ j, j < k → v ≤ rest.getD (ix.getD j default).toNat default
  | 0 => by simp [highK]
  | k + 1 => by
    unfold highK
    rw [Int.le_min, le_highK]
    constructor
    · rintro ⟨⟨h1, h2⟩, h3⟩
      refine ⟨h1, fun j hj => ?_⟩
      by_cases hjk : j = k
      · rw [hjk]; exact h3
      · exact h2 j (by omega)
    · rintro ⟨h1, h2⟩
      exact ⟨⟨h1, fun j hj => h2 j (by omega)⟩, h2 k (by omega)⟩
theorem all_in {l : List Eqn} {c : Nat} {Q : Eqn → Prop} : (∀ j, j < (inL l c).length → Q (l.getD ((inL l c).getD j default).toNat default)) ↔ ∀ q ∈ l, c ∈ q.1 → Q q := by
  constructor
  · intro h q hq hc
    obtain ⟨i, hi, rfl⟩ := List.mem_iff_getElem.1 hq
    have e : l.getD i default = l[i] := by rw [List.getD_eq_getElem?_getD, List.getElem?_eq_getElem hi]; rfl
    obtain ⟨j, hj, he⟩ := List.mem_iff_getElem.1 (mem_inL.2 ⟨hi, by rw [e]; exact hc⟩)
    have := h j hj
    rw [show (inL l c).getD j default = (i : Int) by rw [List.getD_eq_getElem?_getD, List.getElem?_eq_getElem hj]; exact he, Int.toNat_natCast, e] at this
    exact this
  · intro h j hj
    obtain ⟨i, he, hi, hc⟩ := inL_at hj
    rw [he, Int.toNat_natCast]
    exact h _ (by rw [List.getD_eq_getElem?_getD, List.getElem?_eq_getElem hi]; exact List.getElem_mem _) hc
theorem lowK_all {l : List Eqn} {c : Nat} {t : List Int} {U : List Nat} : lowK (restL l t) (openL l U) (inL l c) (inL l c).length = lowF t U c l := by
  have h : ∀ v, lowK (restL l t) (openL l U) (inL l c) (inL l c).length ≤ v ↔ lowF t U c l ≤ v := fun v => by
    rw [lowK_le, lowF_le, ← all_in (Q := fun q => openQ U q = 1 → restQ t q ≤ v)]
    constructor
    · rintro ⟨h1, h2⟩
      refine ⟨h1, fun j hj ho => ?_⟩
      obtain ⟨i, he, hi, _⟩ := inL_at hj
      have := h2 j hj
      rw [he, Int.toNat_natCast, restL_at hi, openL_at hi] at this
      rw [he, Int.toNat_natCast] at ho ⊢
      exact this (by rw [ho]; rfl)
    · rintro ⟨h1, h2⟩
      refine ⟨h1, fun j hj ho => ?_⟩
      obtain ⟨i, he, hi, _⟩ := inL_at hj
      have := h2 j hj
      rw [he, Int.toNat_natCast] at this ho ⊢
      rw [restL_at hi]
      rw [openL_at hi] at ho
      exact this (by omega)
  exact Int.le_antisymm ((h _).2 (Int.le_refl _)) ((h _).1 (Int.le_refl _))
theorem highK_all {l : List Eqn} {c : Nat} {t : List Int} : highK (restL l t) (inL l c) (inL l c).length = highF 1000000 t c l := by
  have h : ∀ v, v ≤ highK (restL l t) (inL l c) (inL l c).length ↔ v ≤ highF 1000000 t c l := fun v => by
    rw [le_highK, le_highF, ← all_in (Q := fun q => v ≤ restQ t q)]
    constructor
    · rintro ⟨h1, h2⟩
      refine ⟨h1, fun j hj => ?_⟩
      obtain ⟨i, he, hi, _⟩ := inL_at hj
      have := h2 j hj
      rw [he, Int.toNat_natCast, restL_at hi] at this
      rw [he, Int.toNat_natCast]
      exact this
    · rintro ⟨h1, h2⟩
      refine ⟨h1, fun j hj => ?_⟩
      obtain ⟨i, he, hi, _⟩ := inL_at hj
      have := h2 j hj
      rw [he, Int.toNat_natCast] at this ⊢
      rw [restL_at hi]
      exact this
  exact Int.le_antisymm ((h _).1 (Int.le_refl _)) ((h _).2 (Int.le_refl _))
set_option maxRecDepth 10000 in
theorem span_spec (p : Pl) (n : Nat) (l : List Eqn) (rest opn t : List Int) (I : PH) (hin : InI I p n l) (c : Nat) (hc : c < n) (hr : rest.length = l.length) (ho : opn.length = l.length) (ht : t.length = n) (hl9 : l.length ≤ 100000) :
    FnSpec Tryz.prog 188 [.pointer (some ⟨p.b, 0, none⟩), .int .i64 (c : Int)] I [p.blk n l.length, iR p.Ar p.cr rest, iR p.Ao p.co opn, iR p.At p.ct t]
      (fun v R' => v = .tuple #[.int .i64 (lowK rest opn (inL l c) (inL l c).length), .int .i64 (highK rest (inL l c) (inL l c).length)] ∧ R' = [p.blk n l.length, iR p.Ar p.cr rest, iR p.Ao p.co opn, iR p.At p.ct t]) := by
  obtain ⟨Ai, ci, ins, hiv, hil, hio, hir, hic⟩ := hin.ex
  have hinl := hio.len
  have hrow := hir _ (show ins.getD c default ∈ ins by rw [List.getD_eq_getElem?_getD, List.getElem?_eq_getElem (by omega)]; exact List.getElem_mem _)
  have hix := hic c hc
  have hrd : ∀ (W : World) (R : List Res), Rd W I R ((ad Ai).add (c * 1)) (rowV (ins.getD c default)) := fun W R => hio.rd (by omega)
  generalize ins.getD c default = rw' at hrow hix hrd
  obtain ⟨Ax, cx, ix⟩ := rw'
  dsimp only at hrow hix
  replace hrd : ∀ (W : World) (R : List Res), Rd W I R ((ad Ai).add (c * 1)) (.slice Ax ix.length cx) := hrd
  have hixl := hrow.len
  have hixb := inL_len l c
  rw [← hix] at hixb ⊢
  refine FnSpec.enterP Tryz.func188 rfl Tryz.ntmps188 rfl fun w F => ?_
  unfold Pl.blk
  rw [hiv]
  repeat' first
    | ((with_reducible refine Nx.is_wp ?_); first | refine Nx.wo ?_ | refine Nx.zp (fun hc => ?_) (fun hc => ?_))
    | (refine Nx.zo ?_; first | refine Nx.opr rfl rfl ?_ | refine Nx.indexAddr_nat (A := Ai) (i := c) (sz := 1) rfl rfl rfl rfl rfl (by omega) (hio.isSome (by omega)) ?_ | refine Nx.load rfl rfl rfl (hrd _ _) ?_ | refine Nx.so ?_ | refine Nx.sb (fun bx => ?_) | refine Nx.sa (fun A2 c2 => ?_))
    | refine Nx.za ?_ | refine Nx.zr (fun hc => ?_) (fun hc => ?_)
    | refine Nx.zq ?_ | refine Nx.zu (fun hc => ?_) (fun hc => ?_)
    | refine Nx.zx ?_ | fail
  refine Nx.ent (R' := [Vec 3 1 p.Ar l.length p.cr (rest.map (Value.int .i64)), Vec 3 1 p.Ao l.length p.co (opn.map (Value.int .i64)), Blk p.b PT [p.tv, .slice Ai n ci, .slice p.Ar l.length p.cr, .slice p.Ao l.length p.co, .slice p.At n p.ct], iR p.At p.ct t, F]) (by unfold iR; rw [hr, ho]; (exact Ent.auto)) ?_
  refine Nx.vec_fact fun hv1 hv2 hv3 hAr => ?_
  refine Nx.ent (R' := [Vec 3 1 p.Ao l.length p.co (opn.map (Value.int .i64)), Vec 3 1 p.Ar l.length p.cr (rest.map (Value.int .i64)), Blk p.b PT [p.tv, .slice Ai n ci, .slice p.Ar l.length p.cr, .slice p.Ao l.length p.co, .slice p.At n p.ct], iR p.At p.ct t, F]) (by (exact Ent.auto)) ?_
  refine Nx.vec_fact fun hv4 hv5 hv6 hAo => ?_
  refine Nx.p_loop (σ := Nat) (fun k => [(0, .pointer (some ⟨p.b, 0, none⟩)), (16, .slice Ax ix.length cx), (17, .int .i64 ix.length), (18, .int .i64 (k : Int)), (6, .int .i64 (lowK rest opn ix k)), (7, .int .i64 (highK rest ix k))])
    (fun _ => [Blk p.b PT [p.tv, .slice Ai n ci, .slice p.Ar l.length p.cr, .slice p.Ao l.length p.co, .slice p.At n p.ct], Vec 3 1 p.Ar l.length p.cr (rest.map (Value.int .i64)), Vec 3 1 p.Ao l.length p.co (opn.map (Value.int .i64)), iR p.At p.ct t, F]) (fun k => k ≤ ix.length) (fun k => ix.length - k) 0 rfl (Nat.zero_le _) ⟨rfl, rfl, rfl, rfl, rfl, rfl, trivial⟩ (by (exact Ent.auto)) ?_
  intro k hk
  have hk : k ≤ ix.length := hk
  by_cases hkl : k < ix.length
  case neg =>
    obtain rfl : k = ix.length := by omega
    repeat' first
      | ((with_reducible refine Nx.is_wp ?_); first | refine Nx.wo ?_ | refine Nx.zp (fun hc => ?_) (fun hc => ?_))
      | (refine Nx.zo ?_; first | refine Nx.opr rfl rfl ?_ | refine Nx.so ?_ | refine Nx.sb (fun bx => ?_) | refine Nx.sa (fun A2 c2 => ?_))
      | refine Nx.za ?_ | refine Nx.zr (fun hc => ?_) (fun hc => ?_)
      | refine Nx.zq ?_ | refine Nx.zu (fun hc => ?_) (fun hc => ?_)
      | refine Nx.zx ?_ | fail
    exact Nx.ret_fn rfl [_, _, _, _] ⟨rfl, rfl⟩ (by unfold iR; rw [hr, ho]; (exact Ent.auto))
  obtain ⟨i, he, hil', _⟩ := inL_at (l := l) (c := c) (k := k) (by rw [← hix]; exact hkl)
  rw [← hix] at he
  have hixr : ∀ (W : World) (R : List Res), Rd W I R ((ad Ax).add (k * 1)) (.int .i64 (i : Int)) := fun W R => by rw [← he]; exact hrow.rd hkl
  have hlow : lowK rest opn ix (k + 1) = if opn.getD i default = 1 then max (lowK rest opn ix k) (rest.getD i default) else lowK rest opn ix k := by rw [lowK, he, Int.toNat_natCast]
  have hhigh : highK rest ix (k + 1) = min (highK rest ix k) (rest.getD i default) := by rw [highK, he, Int.toNat_natCast]
  by_cases h1 : opn.getD i default = 1
  · rw [if_pos h1] at hlow
    repeat' first
      | ((with_reducible refine Nx.is_wp ?_); first | refine Nx.wo ?_ | refine Nx.zp (fun hc => ?_) (fun hc => ?_))
      | (refine Nx.zo ?_; first | refine Nx.opr rfl rfl ?_ | refine Nx.indexAddr_nat (A := Ax) (i := k) (sz := 1) rfl rfl rfl rfl rfl (by omega) (hrow.isSome (by omega)) ?_ | refine Nx.load rfl rfl rfl (hixr _ _) ?_ | refine Nx.indexAddr_nat (A := p.Ar) (i := i) (sz := 1) rfl rfl rfl rfl rfl (by omega) (hAr (by omega)) ?_ | refine Nx.load rfl rfl rfl (Rd.vecEl 1 (f := Value.int .i64) (l := rest) (i := i) rfl (by omega)) ?_ | refine Nx.indexAddr_nat (A := p.Ao) (i := i) (sz := 1) rfl rfl rfl rfl rfl (by omega) (hAo (by omega)) ?_ | refine Nx.load rfl rfl rfl (Rd.vecEl 2 (f := Value.int .i64) (l := opn) (i := i) rfl (by omega)) ?_ | refine Nx.so ?_ | refine Nx.sb (fun bx => ?_) | refine Nx.sa (fun A2 c2 => ?_))
      | refine Nx.za ?_ | refine Nx.zr (fun hc => ?_) (fun hc => ?_)
      | refine Nx.zq ?_ | refine Nx.zu (fun hc => ?_) (fun hc => ?_)
      | refine Nx.zx ?_ | fail
    exact Nx.again (k + 1) hkl (by omega) ⟨rfl, rfl, rfl, rfl, by rw [hlow]; rfl, by rw [hhigh]; rfl, trivial⟩ (by (exact Ent.auto))
  · rw [if_neg h1] at hlow
    repeat' first
      | ((with_reducible refine Nx.is_wp ?_); first | refine Nx.wo ?_ | refine Nx.zp (fun hc => ?_) (fun hc => ?_))
      | (refine Nx.zo ?_; first | refine Nx.opr rfl rfl ?_ | refine Nx.indexAddr_nat (A := Ax) (i := k) (sz := 1) rfl rfl rfl rfl rfl (by omega) (hrow.isSome (by omega)) ?_ | refine Nx.load rfl rfl rfl (hixr _ _) ?_ | refine Nx.indexAddr_nat (A := p.Ar) (i := i) (sz := 1) rfl rfl rfl rfl rfl (by omega) (hAr (by omega)) ?_ | refine Nx.load rfl rfl rfl (Rd.vecEl 1 (f := Value.int .i64) (l := rest) (i := i) rfl (by omega)) ?_ | refine Nx.indexAddr_nat (A := p.Ao) (i := i) (sz := 1) rfl rfl rfl rfl rfl (by omega) (hAo (by omega)) ?_ | refine Nx.load rfl rfl rfl (Rd.vecEl 2 (f := Value.int .i64) (l := opn) (i := i) rfl (by omega)) ?_ | refine Nx.so ?_ | refine Nx.sb (fun bx => ?_) | refine Nx.sa (fun A2 c2 => ?_))
      | refine Nx.za ?_ | refine Nx.zr (fun hc => ?_) (fun hc => ?_)
      | refine Nx.zq ?_ | refine Nx.zu (fun hc => ?_) (fun hc => ?_)
      | refine Nx.zx ?_ | fail
    exact Nx.again (k + 1) hkl (by omega) ⟨rfl, rfl, rfl, rfl, by rw [hlow]; rfl, by rw [hhigh]; rfl, trivial⟩ (by (exact Ent.auto))
end Go.Proofs.YtpcnapidlhpbkaaGreatDoor
namespace Go.Proofs.YtpcnapidlhpbkaaGreatDoor
open Go.Eng Go.Sol
attribute [local irreducible] opK wpList Code.wp Exit.then Exit.inBlock fnPost bodyPost Nx Calls Oper.wp Rd Rds Wr Ent Stars Blk Again Vec FnSpec wpMix QRun Stop Upto wpAt
def subK (s : Int) (ix a : List Int) : Nat → List Int
  | 0 => a
  | k + 1 => (subK s ix a k).set (ix.getD k default).toNat ((subK s ix a k).getD (ix.getD k default).toNat default - s)
theorem subK_len (s : Int) (ix a : List Int) : ∀ k, (subK s ix a k).length = a.length
  | 0 => rfl
  | k + 1 => by rw [subK, List.length_set, subK_len s ix a k]
theorem subK_at {l : List Eqn} {c : Nat} {s : Int} {a : List Int} (ha : a.length = l.length) : ∀ {k j : Nat}, k ≤ (inL l c).length → j < l.length → (subK s (inL l c) a k).getD j default = a.getD j default - if (j : Int) ∈ (inL l c).take k then s else 0
  | 0, j, _, _ => by simp [subK]
  | k + 1, j, hk, hj => by
    obtain ⟨i, he, hi, _⟩ := inL_at (l := l) (c := c) (k := k) (by omega)
    have ih := subK_at (s := s) (c := c) ha (k := k) (j := j) (by omega) hj
    have hgi := subK_at (s := s) (c := c) ha (k := k) (j := i) (by omega) hi
    have hkl : k < (inL l c).length := by omega
    have hck : (inL l c)[k] = (i : Int) := by rw [← he, List.getD_eq_getElem?_getD, List.getElem?_eq_getElem hkl]; rfl
    have htk : (inL l c).take (k + 1) = (inL l c).take k ++ [(i : Int)] := by rw [List.take_succ_eq_append_getElem hkl, hck]
    have hnd := inL_nd l c
    have hni : (i : Int) ∉ (inL l c).take k := fun hm => by
      have h1 : ((inL l c).take (k + 1)).Nodup := hnd.sublist (List.take_sublist _ _)
      rw [htk, List.nodup_append] at h1
      exact h1.2.2 _ hm _ (by simp) rfl
    rw [subK, he, Int.toNat_natCast, htk]
    rw [if_neg hni] at hgi
    by_cases hji : j = i
    · subst hji
      rw [List.getD_eq_getElem?_getD, List.getElem?_set_self (by rw [subK_len, ha]; exact hj), if_pos (by simp), hgi]
      show a.getD j default - 0 - s = _
      omega
    · rw [List.getD_eq_getElem?_getD, List.getElem?_set_ne (Ne.symm hji), ← List.getD_eq_getElem?_getD, ih]
      by_cases hm : (j : Int) ∈ (inL l c).take k
      · rw [if_pos hm, if_pos (by simp [hm])]
      · rw [if_neg hm, if_neg (by
          simp only [List.mem_append, List.mem_singleton, not_or]
          exact ⟨hm, fun h => hji (by omega)⟩)]
theorem getD_extI {a b : List Int} (hl : a.length = b.length) (h : ∀ j, j < a.length → a.getD j default = b.getD j default) : a = b := by
  refine List.ext_getElem hl fun i h1 h2 => ?_
  have := h i h1
  rw [List.getD_eq_getElem?_getD, List.getD_eq_getElem?_getD, List.getElem?_eq_getElem h1, List.getElem?_eq_getElem h2] at this
  exact this
theorem getD_memE {l : List Eqn} {i : Nat} (hi : i < l.length) : l.getD i default ∈ l := by rw [List.getD_eq_getElem?_getD, List.getElem?_eq_getElem hi]; exact List.getElem_mem _
theorem sub_rest {l : List Eqn} {c : Nat} {t : List Int} {v : Int} (ho : Once l) (hc : c < t.length) (h0 : t.getD c 0 = 0) : subK v (inL l c) (restL l t) (inL l c).length = restL l (t.set c v) := by
  refine getD_extI (by rw [subK_len, restL_len, restL_len]) fun j hj => ?_
  rw [subK_len, restL_len] at hj
  rw [subK_at (restL_len l t) (Nat.le_refl _) hj, restL_at hj, restL_at hj, restQ_set hc (ho _ (getD_memE hj)) h0, List.take_length]
  congr 1
  by_cases h : c ∈ (l.getD j default).1
  · rw [if_pos h, if_pos (mem_inL.2 ⟨hj, h⟩)]
  · rw [if_neg h, if_neg fun hm => h (mem_inL.1 hm).2]
theorem add_rest {l : List Eqn} {c : Nat} {t : List Int} {v : Int} (ho : Once l) (hc : c < t.length) (h0 : t.getD c 0 = 0) : subK (-v) (inL l c) (restL l (t.set c v)) (inL l c).length = restL l t := by
  refine getD_extI (by rw [subK_len, restL_len, restL_len]) fun j hj => ?_
  rw [subK_len, restL_len] at hj
  rw [subK_at (restL_len l _) (Nat.le_refl _) hj, restL_at hj, restL_at hj, restQ_set hc (ho _ (getD_memE hj)) h0, List.take_length]
  by_cases h : c ∈ (l.getD j default).1
  · rw [if_pos h, if_pos (mem_inL.2 ⟨hj, h⟩)]; omega
  · rw [if_neg h, if_neg fun hm => h (mem_inL.1 hm).2]; omega
theorem sub_open {l : List Eqn} {c : Nat} {U : List Nat} (ho : Once l) (hc : c ∉ U) : subK 1 (inL l c) (openL l (c :: U)) (inL l c).length = openL l U := by
  refine getD_extI (by rw [subK_len, openL_len, openL_len]) fun j hj => ?_
  rw [subK_len, openL_len] at hj
  rw [subK_at (openL_len l _) (Nat.le_refl _) hj, openL_at hj, openL_at hj, openQ_cons (ho _ (getD_memE hj)) hc, List.take_length]
  by_cases h : c ∈ (l.getD j default).1
  · rw [if_pos h, if_pos (mem_inL.2 ⟨hj, h⟩)]; omega
  · rw [if_neg h, if_neg fun hm => h (mem_inL.1 hm).2]; omega
theorem add_open {l : List Eqn} {c : Nat} {U : List Nat} (ho : Once l) (hc : c ∉ U) : subK (-1) (inL l c) (openL l U) (inL l c).length = openL l (c :: U) := by
  refine getD_extI (by rw [subK_len, openL_len, openL_len]) fun j hj => ?_
  rw [subK_len, openL_len] at hj
  rw [subK_at (openL_len l _) (Nat.le_refl _) hj, openL_at hj, openL_at hj, openQ_cons (ho _ (getD_memE hj)) hc, List.take_length]
  by_cases h : c ∈ (l.getD j default).1
  · rw [if_pos h, if_pos (mem_inL.2 ⟨hj, h⟩)]; omega
  · rw [if_neg h, if_neg fun hm => h (mem_inL.1 hm).2]; omega
set_option maxRecDepth 10000 in
theorem set_spec (p : Pl) (n : Nat) (l : List Eqn) (rest opn t : List Int) (I : PH) (hin : InI I p n l) (c : Nat) (hc : c < n) (hr : rest.length = l.length) (ho : opn.length = l.length) (ht : t.length = n) (hl9 : l.length ≤ 100000) (v : Int) (hv : 0 ≤ v ∧ v ≤ 1000000)
    (hrb : ∀ j, j < l.length → -10000000 ≤ rest.getD j default ∧ rest.getD j default ≤ 10000000) (hob : ∀ j, j < l.length → -10000000 ≤ opn.getD j default ∧ opn.getD j default ≤ 10000000) :
    FnSpec Tryz.prog 189 [.pointer (some ⟨p.b, 0, none⟩), .int .i64 (c : Int), .int .i64 v, .int .i64 1] I [p.blk n l.length, iR p.Ar p.cr rest, iR p.Ao p.co opn, iR p.At p.ct t]
      (fun u R' => u = .tuple #[] ∧ R' = [p.blk n l.length, iR p.Ar p.cr (subK v (inL l c) rest (inL l c).length), iR p.Ao p.co (subK 1 (inL l c) opn (inL l c).length), iR p.At p.ct (t.set c v)]) := by
  obtain ⟨Ai, ci, ins, hiv, hil, hio, hir, hic⟩ := hin.ex
  have hinl := hio.len
  have hrow := hir _ (show ins.getD c default ∈ ins by rw [List.getD_eq_getElem?_getD, List.getElem?_eq_getElem (by omega)]; exact List.getElem_mem _)
  have hix := hic c hc
  have hrd : ∀ (W : World) (R : List Res), Rd W I R ((ad Ai).add (c * 1)) (rowV (ins.getD c default)) := fun W R => hio.rd (by omega)
  generalize ins.getD c default = rw' at hrow hix hrd
  obtain ⟨Ax, cx, ix⟩ := rw'
  dsimp only at hrow hix
  replace hrd : ∀ (W : World) (R : List Res), Rd W I R ((ad Ai).add (c * 1)) (.slice Ax ix.length cx) := hrd
  have hixl := hrow.len
  have hixb := inL_len l c
  have hra := fun (k j : Nat) (hk : k ≤ (inL l c).length) (hj : j < l.length) => subK_at (l := l) (c := c) (s := v) (a := rest) hr (k := k) (j := j) hk hj
  have hoa := fun (k j : Nat) (hk : k ≤ (inL l c).length) (hj : j < l.length) => subK_at (l := l) (c := c) (s := 1) (a := opn) ho (k := k) (j := j) hk hj
  have hatI := fun (k : Nat) (hk : k < (inL l c).length) => inL_at (l := l) (c := c) hk
  rw [← hix] at hixb hra hoa hatI ⊢
  refine FnSpec.enterP Tryz.func189 rfl Tryz.ntmps189 rfl fun w F => ?_
  unfold Pl.blk
  rw [hiv]
  repeat' first
    | ((with_reducible refine Nx.is_wp ?_); first | refine Nx.wo ?_ | refine Nx.zp (fun hc => ?_) (fun hc => ?_))
    | (refine Nx.zo ?_; first | refine Nx.opr rfl rfl ?_ | refine Nx.indexAddr_nat (A := Ai) (i := c) (sz := 1) rfl rfl rfl rfl rfl (by omega) (hio.isSome (by omega)) ?_ | refine Nx.load rfl rfl rfl (hrd _ _) ?_ | refine Nx.so ?_ | refine Nx.sb (fun bx => ?_) | refine Nx.sa (fun A2 c2 => ?_))
    | refine Nx.za ?_ | refine Nx.zr (fun hc => ?_) (fun hc => ?_)
    | refine Nx.zq ?_ | refine Nx.zu (fun hc => ?_) (fun hc => ?_)
    | refine Nx.zx ?_ | fail
  refine Nx.ent (R' := [Vec 3 1 p.Ar l.length p.cr (rest.map (Value.int .i64)), Vec 3 1 p.Ao l.length p.co (opn.map (Value.int .i64)), Blk p.b PT [p.tv, .slice Ai n ci, .slice p.Ar l.length p.cr, .slice p.Ao l.length p.co, .slice p.At n p.ct], Vec 3 1 p.At n p.ct (t.map (Value.int .i64)), F]) (by unfold iR; rw [hr, ho, ht]; (exact Ent.auto)) ?_
  refine Nx.vec_fact fun hv1 hv2 hv3 hAr => ?_
  refine Nx.ent (R' := [Vec 3 1 p.Ao l.length p.co (opn.map (Value.int .i64)), Vec 3 1 p.Ar l.length p.cr (rest.map (Value.int .i64)), Blk p.b PT [p.tv, .slice Ai n ci, .slice p.Ar l.length p.cr, .slice p.Ao l.length p.co, .slice p.At n p.ct], Vec 3 1 p.At n p.ct (t.map (Value.int .i64)), F]) (by (exact Ent.auto)) ?_
  refine Nx.vec_fact fun hv4 hv5 hv6 hAo => ?_
  refine Nx.ent (R' := [Vec 3 1 p.At n p.ct (t.map (Value.int .i64)), Vec 3 1 p.Ao l.length p.co (opn.map (Value.int .i64)), Vec 3 1 p.Ar l.length p.cr (rest.map (Value.int .i64)), Blk p.b PT [p.tv, .slice Ai n ci, .slice p.Ar l.length p.cr, .slice p.Ao l.length p.co, .slice p.At n p.ct], F]) (by (exact Ent.auto)) ?_
  refine Nx.vec_fact fun hv7 hv8 hv9 hAt => ?_
  refine Nx.p_loop (σ := Nat) (fun k => [(0, .pointer (some ⟨p.b, 0, none⟩)), (1, .int .i64 (c : Int)), (2, .int .i64 v), (3, .int .i64 1), (16, .slice Ax ix.length cx), (17, .int .i64 ix.length), (18, .int .i64 (k : Int))])
    (fun k => [Blk p.b PT [p.tv, .slice Ai n ci, .slice p.Ar l.length p.cr, .slice p.Ao l.length p.co, .slice p.At n p.ct], Vec 3 1 p.Ar l.length p.cr ((subK v ix rest k).map (Value.int .i64)), Vec 3 1 p.Ao l.length p.co ((subK 1 ix opn k).map (Value.int .i64)), Vec 3 1 p.At n p.ct (t.map (Value.int .i64)), F]) (fun k => k ≤ ix.length) (fun k => ix.length - k) 0 rfl (Nat.zero_le _) ⟨rfl, rfl, rfl, rfl, rfl, rfl, rfl, trivial⟩ (by (exact Ent.auto)) ?_
  intro k hk
  have hk : k ≤ ix.length := hk
  have hsl := subK_len v ix rest k
  have hso := subK_len 1 ix opn k
  by_cases hkl : k < ix.length
  case neg =>
    obtain rfl : k = ix.length := by omega
    have hw : t.set c (v * (1 + 1) / 2) = t.set c v := congrArg (t.set c ·) (by omega)
    repeat' first
      | ((with_reducible refine Nx.is_wp ?_); first | refine Nx.wo ?_ | refine Nx.zp (fun hc => ?_) (fun hc => ?_))
      | (refine Nx.zo ?_; first | refine Nx.opr rfl rfl ?_ | refine Nx.indexAddr_nat (A := p.At) (i := c) (sz := 1) rfl rfl rfl rfl rfl (by omega) (hAt (by omega)) ?_ | refine Nx.store_of 3 (Value.int .i64) rfl rfl rfl rfl rfl rfl (by omega) ?_ | refine Nx.so ?_ | refine Nx.sb (fun bx => ?_) | refine Nx.sa (fun A2 c2 => ?_))
      | refine Nx.za ?_ | refine Nx.zr (fun hc => ?_) (fun hc => ?_)
      | refine Nx.zq ?_ | refine Nx.zu (fun hc => ?_) (fun hc => ?_)
      | refine Nx.zx ?_ | fail
    exact Nx.end_fn rfl [_, _, _, _] ⟨rfl, rfl⟩ (by unfold iR; rw [hsl, hr, hso, ho, List.length_set, ht, ← hw]; (exact Ent.auto))
  obtain ⟨i, he, hil', _⟩ := hatI k hkl
  have hixr : ∀ (W : World) (R : List Res), Rd W I R ((ad Ax).add (k * 1)) (.int .i64 (i : Int)) := fun W R => by rw [← he]; exact hrow.rd hkl
  have hrs : subK v ix rest (k + 1) = (subK v ix rest k).set i ((subK v ix rest k).getD i default - v) := by rw [subK, he, Int.toNat_natCast]
  have hos : subK 1 ix opn (k + 1) = (subK 1 ix opn k).set i ((subK 1 ix opn k).getD i default - 1) := by rw [subK, he, Int.toNat_natCast]
  have hrb' := hra k i (by omega) hil'
  have hob' := hoa k i (by omega) hil'
  have hrb'' := hrb i hil'
  have hob'' := hob i hil'
  have hrb3 : -20000000 ≤ (subK v ix rest k).getD i default ∧ (subK v ix rest k).getD i default ≤ 20000000 := by rw [hrb']; split <;> omega
  have hob3 : -20000000 ≤ (subK 1 ix opn k).getD i default ∧ (subK 1 ix opn k).getD i default ≤ 20000000 := by rw [hob']; split <;> omega
  generalize subK v ix rest k = ra at hsl hrs hrb3
  generalize subK 1 ix opn k = oa at hso hos hob3
  have hone : ra.set i (ra.getD i default - 1 * v) = ra.set i (ra.getD i default - v) := congrArg (ra.set i ·) (by omega)
  repeat' first
    | ((with_reducible refine Nx.is_wp ?_); first | refine Nx.wo ?_ | refine Nx.zp (fun hc => ?_) (fun hc => ?_))
    | (refine Nx.zo ?_; first | refine Nx.opr rfl rfl ?_ | refine Nx.indexAddr_nat (A := Ax) (i := k) (sz := 1) rfl rfl rfl rfl rfl (by omega) (hrow.isSome (by omega)) ?_ | refine Nx.load rfl rfl rfl (hixr _ _) ?_ | refine Nx.indexAddr_nat (A := p.Ar) (i := i) (sz := 1) rfl rfl rfl rfl rfl (by omega) (hAr (by omega)) ?_ | refine Nx.load rfl rfl rfl (Rd.vecEl 1 (f := Value.int .i64) (l := ra) (i := i) rfl (by omega)) ?_ | refine Nx.indexAddr_nat (A := p.Ao) (i := i) (sz := 1) rfl rfl rfl rfl rfl (by omega) (hAo (by omega)) ?_ | refine Nx.load rfl rfl rfl (Rd.vecEl 2 (f := Value.int .i64) (l := oa) (i := i) rfl (by omega)) ?_ | refine Nx.so ?_ | refine Nx.sb (fun bx => ?_) | refine Nx.sa (fun A2 c2 => ?_))
    | refine Nx.za ?_ | refine Nx.zr (fun hc => ?_) (fun hc => ?_)
    | refine Nx.zq ?_ | refine Nx.zu (fun hc => ?_) (fun hc => ?_)
    | refine Nx.zx ?_ | fail
  exact Nx.again (k + 1) hkl (by omega) ⟨rfl, rfl, rfl, rfl, rfl, rfl, rfl, trivial⟩ (by rw [hrs, hos, ← hone]; (exact Ent.auto))
set_option maxRecDepth 10000 in
theorem unset_spec (p : Pl) (n : Nat) (l : List Eqn) (rest opn t : List Int) (I : PH) (hin : InI I p n l) (c : Nat) (hc : c < n) (hr : rest.length = l.length) (ho : opn.length = l.length) (ht : t.length = n) (hl9 : l.length ≤ 100000) (v : Int) (hv : 0 ≤ v ∧ v ≤ 1000000)
    (hrb : ∀ j, j < l.length → -10000000 ≤ rest.getD j default ∧ rest.getD j default ≤ 10000000) (hob : ∀ j, j < l.length → -10000000 ≤ opn.getD j default ∧ opn.getD j default ≤ 10000000) :
    FnSpec Tryz.prog 189 [.pointer (some ⟨p.b, 0, none⟩), .int .i64 (c : Int), .int .i64 v, .int .i64 (-1)] I [p.blk n l.length, iR p.Ar p.cr rest, iR p.Ao p.co opn, iR p.At p.ct t]
      (fun u R' => u = .tuple #[] ∧ R' = [p.blk n l.length, iR p.Ar p.cr (subK (-v) (inL l c) rest (inL l c).length), iR p.Ao p.co (subK (-1) (inL l c) opn (inL l c).length), iR p.At p.ct (t.set c 0)]) := by
  obtain ⟨Ai, ci, ins, hiv, hil, hio, hir, hic⟩ := hin.ex
  have hinl := hio.len
  have hrow := hir _ (show ins.getD c default ∈ ins by rw [List.getD_eq_getElem?_getD, List.getElem?_eq_getElem (by omega)]; exact List.getElem_mem _)
  have hix := hic c hc
  have hrd : ∀ (W : World) (R : List Res), Rd W I R ((ad Ai).add (c * 1)) (rowV (ins.getD c default)) := fun W R => hio.rd (by omega)
  generalize ins.getD c default = rw' at hrow hix hrd
  obtain ⟨Ax, cx, ix⟩ := rw'
  dsimp only at hrow hix
  replace hrd : ∀ (W : World) (R : List Res), Rd W I R ((ad Ai).add (c * 1)) (.slice Ax ix.length cx) := hrd
  have hixl := hrow.len
  have hixb := inL_len l c
  have hra := fun (k j : Nat) (hk : k ≤ (inL l c).length) (hj : j < l.length) => subK_at (l := l) (c := c) (s := -v) (a := rest) hr (k := k) (j := j) hk hj
  have hoa := fun (k j : Nat) (hk : k ≤ (inL l c).length) (hj : j < l.length) => subK_at (l := l) (c := c) (s := -1) (a := opn) ho (k := k) (j := j) hk hj
  have hatI := fun (k : Nat) (hk : k < (inL l c).length) => inL_at (l := l) (c := c) hk
  rw [← hix] at hixb hra hoa hatI ⊢
  refine FnSpec.enterP Tryz.func189 rfl Tryz.ntmps189 rfl fun w F => ?_
  unfold Pl.blk
  rw [hiv]
  repeat' first
    | ((with_reducible refine Nx.is_wp ?_); first | refine Nx.wo ?_ | refine Nx.zp (fun hc => ?_) (fun hc => ?_))
    | (refine Nx.zo ?_; first | refine Nx.opr rfl rfl ?_ | refine Nx.indexAddr_nat (A := Ai) (i := c) (sz := 1) rfl rfl rfl rfl rfl (by omega) (hio.isSome (by omega)) ?_ | refine Nx.load rfl rfl rfl (hrd _ _) ?_ | refine Nx.so ?_ | refine Nx.sb (fun bx => ?_) | refine Nx.sa (fun A2 c2 => ?_))
    | refine Nx.za ?_ | refine Nx.zr (fun hc => ?_) (fun hc => ?_)
    | refine Nx.zq ?_ | refine Nx.zu (fun hc => ?_) (fun hc => ?_)
    | refine Nx.zx ?_ | fail
  refine Nx.ent (R' := [Vec 3 1 p.Ar l.length p.cr (rest.map (Value.int .i64)), Vec 3 1 p.Ao l.length p.co (opn.map (Value.int .i64)), Blk p.b PT [p.tv, .slice Ai n ci, .slice p.Ar l.length p.cr, .slice p.Ao l.length p.co, .slice p.At n p.ct], Vec 3 1 p.At n p.ct (t.map (Value.int .i64)), F]) (by unfold iR; rw [hr, ho, ht]; (exact Ent.auto)) ?_
  refine Nx.vec_fact fun hv1 hv2 hv3 hAr => ?_
  refine Nx.ent (R' := [Vec 3 1 p.Ao l.length p.co (opn.map (Value.int .i64)), Vec 3 1 p.Ar l.length p.cr (rest.map (Value.int .i64)), Blk p.b PT [p.tv, .slice Ai n ci, .slice p.Ar l.length p.cr, .slice p.Ao l.length p.co, .slice p.At n p.ct], Vec 3 1 p.At n p.ct (t.map (Value.int .i64)), F]) (by (exact Ent.auto)) ?_
  refine Nx.vec_fact fun hv4 hv5 hv6 hAo => ?_
  refine Nx.ent (R' := [Vec 3 1 p.At n p.ct (t.map (Value.int .i64)), Vec 3 1 p.Ao l.length p.co (opn.map (Value.int .i64)), Vec 3 1 p.Ar l.length p.cr (rest.map (Value.int .i64)), Blk p.b PT [p.tv, .slice Ai n ci, .slice p.Ar l.length p.cr, .slice p.Ao l.length p.co, .slice p.At n p.ct], F]) (by (exact Ent.auto)) ?_
  refine Nx.vec_fact fun hv7 hv8 hv9 hAt => ?_
  refine Nx.p_loop (σ := Nat) (fun k => [(0, .pointer (some ⟨p.b, 0, none⟩)), (1, .int .i64 (c : Int)), (2, .int .i64 v), (3, .int .i64 (-1)), (16, .slice Ax ix.length cx), (17, .int .i64 ix.length), (18, .int .i64 (k : Int))])
    (fun k => [Blk p.b PT [p.tv, .slice Ai n ci, .slice p.Ar l.length p.cr, .slice p.Ao l.length p.co, .slice p.At n p.ct], Vec 3 1 p.Ar l.length p.cr ((subK (-v) ix rest k).map (Value.int .i64)), Vec 3 1 p.Ao l.length p.co ((subK (-1) ix opn k).map (Value.int .i64)), Vec 3 1 p.At n p.ct (t.map (Value.int .i64)), F]) (fun k => k ≤ ix.length) (fun k => ix.length - k) 0 rfl (Nat.zero_le _) ⟨rfl, rfl, rfl, rfl, rfl, rfl, rfl, trivial⟩ (by (exact Ent.auto)) ?_
  intro k hk
  have hk : k ≤ ix.length := hk
  have hsl := subK_len (-v) ix rest k
  have hso := subK_len (-1) ix opn k
  by_cases hkl : k < ix.length
  case neg =>
    obtain rfl : k = ix.length := by omega
    have hw : t.set c (v * (1 + -1) / 2) = t.set c 0 := congrArg (t.set c ·) (by omega)
    repeat' first
      | ((with_reducible refine Nx.is_wp ?_); first | refine Nx.wo ?_ | refine Nx.zp (fun hc => ?_) (fun hc => ?_))
      | (refine Nx.zo ?_; first | refine Nx.opr rfl rfl ?_ | refine Nx.indexAddr_nat (A := p.At) (i := c) (sz := 1) rfl rfl rfl rfl rfl (by omega) (hAt (by omega)) ?_ | refine Nx.store_of 3 (Value.int .i64) rfl rfl rfl rfl rfl rfl (by omega) ?_ | refine Nx.so ?_ | refine Nx.sb (fun bx => ?_) | refine Nx.sa (fun A2 c2 => ?_))
      | refine Nx.za ?_ | refine Nx.zr (fun hc => ?_) (fun hc => ?_)
      | refine Nx.zq ?_ | refine Nx.zu (fun hc => ?_) (fun hc => ?_)
      | refine Nx.zx ?_ | fail
    exact Nx.end_fn rfl [_, _, _, _] ⟨rfl, rfl⟩ (by unfold iR; rw [hsl, hr, hso, ho, List.length_set, ht, ← hw]; (exact Ent.auto))
  obtain ⟨i, he, hil', _⟩ := hatI k hkl
  have hixr : ∀ (W : World) (R : List Res), Rd W I R ((ad Ax).add (k * 1)) (.int .i64 (i : Int)) := fun W R => by rw [← he]; exact hrow.rd hkl
  have hrs : subK (-v) ix rest (k + 1) = (subK (-v) ix rest k).set i ((subK (-v) ix rest k).getD i default - -v) := by rw [subK, he, Int.toNat_natCast]
  have hos : subK (-1) ix opn (k + 1) = (subK (-1) ix opn k).set i ((subK (-1) ix opn k).getD i default - -1) := by rw [subK, he, Int.toNat_natCast]
  have hrb' := hra k i (by omega) hil'
  have hob' := hoa k i (by omega) hil'
  have hrb'' := hrb i hil'
  have hob'' := hob i hil'
  have hrb3 : -20000000 ≤ (subK (-v) ix rest k).getD i default ∧ (subK (-v) ix rest k).getD i default ≤ 20000000 := by rw [hrb']; split <;> omega
  have hob3 : -20000000 ≤ (subK (-1) ix opn k).getD i default ∧ (subK (-1) ix opn k).getD i default ≤ 20000000 := by rw [hob']; split <;> omega
  generalize subK (-v) ix rest k = ra at hsl hrs hrb3
  generalize subK (-1) ix opn k = oa at hso hos hob3
  have hone : ra.set i (ra.getD i default - -1 * v) = ra.set i (ra.getD i default - -v) := congrArg (ra.set i ·) (by omega)
  repeat' first
    | ((with_reducible refine Nx.is_wp ?_); first | refine Nx.wo ?_ | refine Nx.zp (fun hc => ?_) (fun hc => ?_))
    | (refine Nx.zo ?_; first | refine Nx.opr rfl rfl ?_ | refine Nx.indexAddr_nat (A := Ax) (i := k) (sz := 1) rfl rfl rfl rfl rfl (by omega) (hrow.isSome (by omega)) ?_ | refine Nx.load rfl rfl rfl (hixr _ _) ?_ | refine Nx.indexAddr_nat (A := p.Ar) (i := i) (sz := 1) rfl rfl rfl rfl rfl (by omega) (hAr (by omega)) ?_ | refine Nx.load rfl rfl rfl (Rd.vecEl 1 (f := Value.int .i64) (l := ra) (i := i) rfl (by omega)) ?_ | refine Nx.indexAddr_nat (A := p.Ao) (i := i) (sz := 1) rfl rfl rfl rfl rfl (by omega) (hAo (by omega)) ?_ | refine Nx.load rfl rfl rfl (Rd.vecEl 2 (f := Value.int .i64) (l := oa) (i := i) rfl (by omega)) ?_ | refine Nx.so ?_ | refine Nx.sb (fun bx => ?_) | refine Nx.sa (fun A2 c2 => ?_))
    | refine Nx.za ?_ | refine Nx.zr (fun hc => ?_) (fun hc => ?_)
    | refine Nx.zq ?_ | refine Nx.zu (fun hc => ?_) (fun hc => ?_)
    | refine Nx.zx ?_ | fail
  exact Nx.again (k + 1) hkl (by omega) ⟨rfl, rfl, rfl, rfl, rfl, rfl, rfl, trivial⟩ (by rw [hrs, hos, ← hone]; (exact Ent.auto))
end Go.Proofs.YtpcnapidlhpbkaaGreatDoor
namespace Go.Eng
section
variable {C : Cx} {e : Env} {I : PH} {R : List Res} {K : Act → World → Prop} {Q : Exit → Act → World → Prop} {ds : List Deferred}
variable {d : Nat} {ty : TypeId} {pos : String} {after : Array Edge} {g : Option (Nat × Bool)}
theorem Nx.callP {fx : Operand} {args : Array Operand} {tys : Array TypeId} {f : FuncId} {c1 c2 : Array Value} {vs al : List Value} {Rpre Rrest : List Res} {Post : Value → List Res → Prop} {Pan : List PanicEntry → List Res → Prop}
    (hfx : evo e fx = some (.func (.func f) c1 c2)) (hvs : evs e args.toList = some vs) (hal : c1.toList ++ vs ++ c2.toList = al) (hc : callable C.P f = true) (hlt : Nat.blt d C.n = true)
    (hs : FnSpecP C.P f al I Rpre Post Pan) (hR : Ent R (Rpre ++ Rrest))
    (h : ∀ v R', Post v R' → Nx C ((d, v) :: e) I (R' ++ Rrest) K) (hp : ∀ ch R', Pan ch R' → Nx C e I (R' ++ Rrest) (Q (.panic ch))) : Nx C e I R (opK C.P ⟨some d, .call { callee := .value fx, args, argTypes := tys }, ty, pos, after, g⟩ K Q) := by
  intro a w ha hw
  unfold opK Oper.wp
  rw [run_call rfl (ha.eval hfx) (ha.evals hvs) hal hc]
  refine Calls.mono (hs w (Stars Rrest) (hw.ent hR).split) ?_
  rintro en w' (⟨v, R', rfl, hv, hst⟩ | ⟨ch, R', rfl, hv, hst⟩)
  · exact h v R' hv _ w' (ha.put hlt v) (hst.unsplit hw.still)
  · exact hp ch R' hv _ w' ha (hst.unsplit hw.still)
theorem NxL.callP {fx : Operand} {args : Array Operand} {tys : Array TypeId} {f : FuncId} {c1 c2 : Array Value} {vs al : List Value} {Rpre Rrest : List Res} {Post : Value → List Res → Prop} {Pan : List PanicEntry → List Res → Prop}
    (hfx : evo e fx = some (.func (.func f) c1 c2)) (hvs : evs e args.toList = some vs) (hal : c1.toList ++ vs ++ c2.toList = al) (hc : callable C.P f = true) (hlt : Nat.blt d C.n = true)
    (hs : FnSpecP C.P f al I Rpre Post Pan) (hR : Ent R (Rpre ++ Rrest))
    (h : ∀ v R', Post v R' → Nx C ((d, v) :: e) I (R' ++ Rrest) (L ds K)) (hp : ∀ ch R', Pan ch R' → Nx C e I (R' ++ Rrest) (L ds (Q (.panic ch)))) : Nx C e I R (L ds (opK C.P ⟨some d, .call { callee := .value fx, args, argTypes := tys }, ty, pos, after, g⟩ K Q)) := by
  intro a w ha hw
  unfold L opK Oper.wp
  rw [show ({ a with defers := ds } : Act).eval = a.eval from rfl, run_call rfl (ha.eval hfx) (ha.evals hvs) hal hc]
  refine Calls.mono (hs w (Stars Rrest) (hw.ent hR).split) ?_
  rintro en w' (⟨v, R', rfl, hv, hst⟩ | ⟨ch, R', rfl, hv, hst⟩)
  · have := h v R' hv _ w' (ha.put hlt v) (hst.unsplit hw.still)
    unfold L at this
    rw [put_defers] at this
    exact this
  · exact hp ch R' hv _ w' ha (hst.unsplit hw.still)
theorem Nx.use (h : Nx C e I R K) {a : Act} {w : World} (ha : Mod C.n e a) (hw : St C.W I R w) : K a w := h a w ha hw
theorem Nx.of (h : ∀ a w, Mod C.n e a → St C.W I R w → K a w) : Nx C e I R K := h
theorem Nx.makeIface {t : TypeId} {v : Value} {x : Operand} (hx : evo e x = some v) (hv : pureRun C.P (Instr.makeInterface t v) = some (.iface t v)) (hlt : Nat.blt d C.n = true) (h : Nx C ((d, .iface t v) :: e) I R K) : Nx C e I R (opK C.P ⟨some d, .makeInterface t x, ty, pos, after, g⟩ K Q) :=
  Nx.op_run rfl hlt (fun a w ha _ => by simp only [execOp, ha.eval hx]; exact run_v (run_of_pureRun hv w)) h
theorem Nx.typeAssert {t u : TypeId} {v : Value} {x : Operand} {b : Bool} (vr : Value) (hx : evo e x = some v) (hv : pureRun C.P (Instr.typeAssert v t u b) = some vr) (hlt : Nat.blt d C.n = true) (h : Nx C ((d, vr) :: e) I R K) : Nx C e I R (opK C.P ⟨some d, .typeAssert x t u b, ty, pos, after, g⟩ K Q) :=
  Nx.op_run rfl hlt (fun a w ha _ => by simp only [execOp, ha.eval hx]; exact run_v (run_of_pureRun hv w)) h
theorem NxL.then_panic {ch : List PanicEntry} (h : Nx C e I R (L ds (Q (.panic ch)))) : Nx C e I R (L ds (Exit.then K Q (.panic ch))) := h
theorem NxL.end_D {fn : Func} {F : Res} {Post : Value → List Res → Prop} {v : Value} {q : FuncId} {cap dargs : Array Value} {al : List Value} (hv : resV e fn.results.toList = some v) (hal : dargs.toList ++ cap.toList = al) (hc : callable C.P q = true)
    (hd : ∀ w, CallsD C.P q al.toArray .returning w fun en u' w' => (∃ z, en = .returned z) ∧ u' = .returning ∧ w' = w) (R' : List Res) (hp : Post v R') (hR : Ent R (R' ++ [F])) : Nx C e I R (L [{ target := .fn (.func q) cap, args := dargs }] (fnPostD C.P fn I F C.W Post .normal)) :=
  NxL.ret_D hv hal hc hd R' hp hR
theorem NxL.pan_G {fn : Func} {F : Res} {Post : Value → List Res → Prop} {v pv : Value} {q : FuncId} {cap dargs : Array Value} {al : List Value} (hv : resV e fn.results.toList = some v) (hal : dargs.toList ++ cap.toList = al) (hc : callable C.P q = true)
    (hd : ∀ w, St C.W I R w → CallsD C.P q al.toArray (.panicking [{ v := pv, recovered := false }]) w fun en u' w' => (∃ z, en = .returned z) ∧ u' = .panicking [{ v := pv, recovered := true }] ∧ St C.W I R w') (R' : List Res) (hp : Post v R') (hR : Ent R (R' ++ [F])) :
    Nx C e I R (L [{ target := .fn (.func q) cap, args := dargs }] (fnPostD C.P fn I F C.W Post (.panic [{ v := pv, recovered := false }]))) := by
  intro a w ha hw
  have e1 : dargs ++ cap = al.toArray := by rw [← hal]; apply Array.ext'; simp
  refine leaves_cons (f := q) (args := al.toArray) (by simp) (by show (callFunc q (dargs ++ cap)).run C.P w = _; rw [e1]; exact run_callFunc hc _ w) ?_
  refine (hd w hw).mono ?_
  rintro en u' w' ⟨⟨z, rfl⟩, rfl, hgr⟩
  exact ⟨v, resV_run ha hv, v, R', rfl, hp, hgr.ent hR⟩
end
end Go.Eng
namespace Go.Sol
theorem foldStop_go {σ α : Type} {f : σ → α → σ × Bool} {s p p' : σ} {x y : List α} {b : Bool} (h1 : foldStop f s x = (p, true)) (h2 : foldStop f p y = (p', b)) : foldStop f s (x ++ y) = (p', b) := by
  rw [foldStop_append, h1]; exact h2
theorem foldStop_cut {σ α : Type} {f : σ → α → σ × Bool} {s p : σ} {x y : List α} (h1 : foldStop f s x = (p, false)) : foldStop f s (x ++ y) = (p, false) := by
  rw [foldStop_append, h1]; rfl
theorem flat_snoc {α : Type} (g : Nat → List α) (k : Nat) : (List.range (k + 1)).flatMap g = (List.range k).flatMap g ++ g k := by
  rw [List.range_succ, List.flatMap_append]; simp
theorem flat_at {α : Type} (g : Nat → List α) {k N : Nat} (h : k < N) : ∃ z, (List.range N).flatMap g = (List.range k).flatMap g ++ (g k ++ z) := by
  obtain ⟨m, rfl⟩ : ∃ m, N = (k + 1) + m := ⟨N - (k + 1), by omega⟩
  rw [List.range_add, List.flatMap_append, flat_snoc, List.append_assoc]
  exact ⟨_, rfl⟩
end Go.Sol
namespace Go.Proofs.YtpcnapidlhpbkaaGreatDoor
open Go.Eng Go.Sol
attribute [local irreducible] opK wpList Code.wp Exit.then Exit.inBlock fnPost bodyPost Nx Calls Oper.wp Rd Rds Wr Ent Stars Blk Again Vec FnSpec wpMix QRun Stop Upto wpAt
attribute [local irreducible] fnPostP FnSpecP
set_option maxRecDepth 10000 in
theorem CloneI_spec (A : Option Addr) (c : Nat) (l : List Int) (I : PH) (hl : Ints I A c l) (h9 : l.length ≤ 1000000) :
    FnSpec Tryz.prog 69 [.slice A l.length c] I [] (fun v R' => ∃ A' c', v = .slice A' l.length c' ∧ R' = [iR A' c' l]) := by
  cases A with
  | none =>
    have h0 : l = [] := by
      rcases Nat.eq_zero_or_pos l.length with h | h
      · exact List.eq_nil_of_length_eq_zero h
      · have := hl.isSome h; cases this
    subst h0
    refine FnSpec.enterP Tryz.func69 rfl Tryz.ntmps69 rfl fun w F => ?_
    repeat' first
      | ((with_reducible refine Nx.is_wp ?_); first | refine Nx.wo ?_ | refine Nx.zp (fun hc => ?_) (fun hc => ?_))
      | (refine Nx.zo ?_; first | refine Nx.opr rfl rfl ?_ | refine Nx.so ?_ | refine Nx.sb (fun bx => ?_) | refine Nx.sa (fun A2 c2 => ?_))
      | refine Nx.za ?_ | refine Nx.zr (fun hc => ?_) (fun hc => ?_)
      | refine Nx.zq ?_ | refine Nx.zu (fun hc => ?_) (fun hc => ?_)
      | refine Nx.zx ?_ | fail
    refine Nx.ret_fn rfl [iR none 0 []] ⟨none, 0, rfl, rfl⟩ (Ent.vec_nil _ _ _)
  | some a =>
    refine FnSpec.enterP Tryz.func69 rfl Tryz.ntmps69 rfl fun w F => ?_
    repeat' first
      | ((with_reducible refine Nx.is_wp ?_); first | refine Nx.wo ?_ | refine Nx.zp (fun hc => ?_) (fun hc => ?_))
      | (refine Nx.zo ?_; first | refine Nx.opr rfl rfl ?_ | refine Nx.so ?_ | refine Nx.sb (fun bx => ?_) | refine Nx.sa (fun A2 c2 => ?_))
      | refine Nx.za ?_ | refine Nx.zr (fun hc => ?_) (fun hc => ?_)
      | refine Nx.zq ?_ | refine Nx.zu (fun hc => ?_) (fun hc => ?_)
      | refine Nx.zx ?_ | fail
    refine Nx.blk_vec 0 0 1 rfl rfl (by omega) ?_
    refine Nx.at_op rfl rfl ?_
    refine Nx.append rfl rfl rfl rfl (by kernel_rfl) rfl (Src.arr hl.arr (by simp) (by omega) (fun u hu => by obtain ⟨z, _, rfl⟩ := List.mem_map.1 hu; rfl)) (by omega) fun A' c' => ?_
    rw [Nat.zero_add, List.nil_append]
    repeat' first
      | ((with_reducible refine Nx.is_wp ?_); first | refine Nx.wo ?_ | refine Nx.zp (fun hc => ?_) (fun hc => ?_))
      | (refine Nx.zo ?_; first | refine Nx.opr rfl rfl ?_ | refine Nx.so ?_ | refine Nx.sb (fun bx => ?_) | refine Nx.sa (fun A2 c2 => ?_))
      | refine Nx.za ?_ | refine Nx.zr (fun hc => ?_) (fun hc => ?_)
      | refine Nx.zq ?_ | refine Nx.zu (fun hc => ?_) (fun hc => ?_)
      | refine Nx.zx ?_ | fail
    exact Nx.ret_fn rfl [_] ⟨A', c', rfl, rfl⟩ (by unfold iR; (exact Ent.auto))
structure Found {σ π : Type} (fid : FuncId) (caps : List Value) (I : PH) (n : Nat) (TR : σ → Res) (pl : σ → π) (ok : π → Prop) (f : π → List Int → π × Bool) : Prop where
  able : callable Tryz.prog fid = true
  run : ∀ s A c tab, tab.length = n → ok (pl s) → FnSpec Tryz.prog fid (.slice A tab.length c :: caps) I [TR s, iR A c tab] (fun v R' => v = .bool (f (pl s) tab).2 ∧ ∃ s', pl s' = (f (pl s) tab).1 ∧ ((f (pl s) tab).2 = true → ok (pl s')) ∧ R' = [TR s'])
def Sane (l : List Eqn) : Prop := Once l ∧ l.length ≤ 100000 ∧ ∀ q ∈ l, 0 ≤ q.2 ∧ q.2 ≤ 1000000 ∧ q.1.length ≤ 100000
theorem sumC_nn {t : List Int} (h : ∀ c, 0 ≤ t.getD c 0) (cs : List Nat) : 0 ≤ sumC t cs := sumC_nonneg fun c _ => h c
theorem rest_bd {l : List Eqn} {U : List Nat} {n : Nat} {t : List Int} (hs : Sane l) (hi : Inv n l U t) (hn : ∀ c, 0 ≤ t.getD c 0) : ∀ j, j < l.length → -10000000 ≤ (restL l t).getD j default ∧ (restL l t).getD j default ≤ 10000000 := fun j hj => by
  rw [restL_at hj]
  have h1 := hi.pos _ (getD_memE hj)
  have h2 := hs.2.2 _ (getD_memE hj)
  have h3 := sumC_nn hn (l.getD j default).1
  unfold restQ at h1 ⊢
  omega
theorem open_bd {l : List Eqn} {U : List Nat} (hs : Sane l) : ∀ j, j < l.length → -10000000 ≤ (openL l U).getD j default ∧ (openL l U).getD j default ≤ 10000000 := fun j hj => by
  rw [openL_at hj]
  have h2 := hs.2.2 _ (getD_memE hj)
  have : openQ U (l.getD j default) ≤ (l.getD j default).1.length := List.length_filter_le _ _
  omega
theorem set_zero {t : List Int} {c : Nat} {v : Int} (hc : c < t.length) (h0 : t.getD c 0 = 0) : (t.set c v).set c 0 = t := by
  rw [List.set_set]
  refine ext_len (by simp) fun d => ?_
  rw [getD_setI hc]
  split
  · rename_i h; rw [h, h0]
  · rfl
theorem nn_set {t : List Int} {c : Nat} {v : Int} (hc : c < t.length) (hv : 0 ≤ v) (hn : ∀ c, 0 ≤ t.getD c 0) : ∀ d, 0 ≤ (t.set c v).getD d 0 := fun d => by
  rw [getD_setI hc]
  split
  · exact hv
  · exact hn d
abbrev enoughV : Value := .iface 215 (.agg #[])
set_option maxRecDepth 10000 in
theorem visit_spec {σ π : Type} {fid : FuncId} {caps : List Value} {TR : σ → Res} {pl : σ → π} {ok : π → Prop} {f : π → List Int → π × Bool} (p : Pl) (n : Nat) (l : List Eqn) (I : PH) (hin : InI I p n l) (hF : Found fid caps I n TR pl ok f) (hs : Sane l) (hn9 : n ≤ 1000000)
    (Aq : Option Addr) (cq : Nat) (ord : List Nat) (hord : Ints I Aq cq (ord.map Int.ofNat)) (down : Bool) (bo bf bp bd bv : Nat)
    (h1 : ∀ (W : World) (R : List Res), Rd W I R ⟨bo, 0, none⟩ (.slice Aq ord.length cq)) (h2 : ∀ (W : World) (R : List Res), Rd W I R ⟨bf, 0, none⟩ (.func (.func fid) #[] caps.toArray))
    (h3 : ∀ (W : World) (R : List Res), Rd W I R ⟨bp, 0, none⟩ (.pointer (some ⟨p.b, 0, none⟩))) (h4 : ∀ (W : World) (R : List Res), Rd W I R ⟨bd, 0, none⟩ (.bool down))
    (h5 : ∀ (W : World) (R : List Res), Rd W I R ⟨bv, 0, none⟩ (.func (.func 187) #[] #[.pointer (some ⟨bo, 0, none⟩), .pointer (some ⟨bf, 0, none⟩), .pointer (some ⟨bp, 0, none⟩), .pointer (some ⟨bd, 0, none⟩), .pointer (some ⟨bv, 0, none⟩)])) :
    ∀ (U : List Nat) (i : Nat), i ≤ ord.length → ord.drop i = U → ∀ (s : σ) (t : List Int), Inv n l U t → (∀ c, 0 ≤ t.getD c 0) → ok (pl s) →
      FnSpecP Tryz.prog 187 [.int .i64 (i : Int), .pointer (some ⟨bo, 0, none⟩), .pointer (some ⟨bf, 0, none⟩), .pointer (some ⟨bp, 0, none⟩), .pointer (some ⟨bd, 0, none⟩), .pointer (some ⟨bv, 0, none⟩)] I
        [p.blk n l.length, iR p.Ar p.cr (restL l t), iR p.Ao p.co (openL l U), iR p.At p.ct t, TR s]
        (fun v R' => v = .tuple #[] ∧ ∃ s', foldStop f (pl s) (enum 1000000 l (down && decide (i = 0)) U t) = (pl s', true) ∧ ok (pl s') ∧ R' = [p.blk n l.length, iR p.Ar p.cr (restL l t), iR p.Ao p.co (openL l U), iR p.At p.ct t, TR s'])
        (fun ch R' => ch = [{ v := enoughV, recovered := false }] ∧ ∃ s' G, foldStop f (pl s) (enum 1000000 l (down && decide (i = 0)) U t) = (pl s', false) ∧ R' = [TR s', G])
  | [], i, hi, hdr, s, t, hinv, hnn, hok => by
    have hol := hord.len
    rw [List.length_map] at hol
    have hil : i = ord.length := by
      have := congrArg List.length hdr
      rw [List.length_drop, List.length_nil] at this
      omega
    subst hil
    have htl := hinv.len
    have hrun : ∀ A c, FnSpec Tryz.prog fid (.slice A n c :: caps) I [TR s, Vec 3 1 A n c (t.map (Value.int .i64))] (fun v R' => v = .bool (f (pl s) t).2 ∧ ∃ s', pl s' = (f (pl s) t).1 ∧ ((f (pl s) t).2 = true → ok (pl s')) ∧ R' = [TR s']) := fun A c => by
      have h := hF.run s A c t htl hok
      unfold iR at h
      rw [htl] at h
      exact h
    have hcl : ∀ I', Ints I' p.At p.ct t → FnSpec Tryz.prog 69 [.slice p.At n p.ct] I' [] (fun v R' => ∃ A' c', v = .slice A' n c' ∧ R' = [Vec 3 1 A' n c' (t.map (Value.int .i64))]) := fun I' hm => by
      have h := CloneI_spec p.At p.ct t I' hm (by omega)
      unfold iR at h
      rw [htl] at h
      exact h
    have hfs : foldStop f (pl s) (enum 1000000 l (down && decide (ord.length = 0)) [] t) = ((f (pl s) t).1, (f (pl s) t).2) := by
      unfold enum foldStop
      cases (f (pl s) t).2 <;> rfl
    rw [hfs]
    cases hb : (f (pl s) t).2 with
    | true =>
      rw [hb] at hrun
      refine FnSpecP.enterP Tryz.func187 rfl Tryz.ntmps187 rfl fun w F => ?_
      repeat' first
        | ((with_reducible refine Nx.is_wp ?_); first | refine Nx.wo ?_ | refine Nx.p_drawF (id := 1) rfl [0, 1, 2, 3, 4, 5] [5] [6, 7] _ rfl rfl (by kernel_rfl) (by kernel_rfl) rfl (by repeat first | exact PanicOk.fn | exact PanicOk.fnP | refine PanicOk.then_ ?_ | refine PanicOk.inB ?_) (Ent.refl _) ?_ | refine Nx.zp (fun hc => ?_) (fun hc => ?_))
        | (refine Nx.zo ?_; first | refine Nx.opr rfl rfl ?_ | refine Nx.load rfl rfl rfl (h1 _ _) ?_ | (refine Nx.call_lendR 3 rfl rfl rfl (by kernel_rfl) rfl rfl (fun m I' hI hm h => hcl I' (Vec.sliceOf hm h)) ?_; rintro _ _ ⟨A', c', rfl, rfl⟩) | (refine Nx.call rfl rfl rfl hF.able rfl (hrun A' c') (by (exact Ent.auto)) ?_; rintro _ _ ⟨rfl, s', hs', hok', rfl⟩) | refine Nx.so ?_ | refine Nx.sb (fun bx => ?_) | refine Nx.sa (fun A2 c2 => ?_))
        | refine Nx.za ?_ | refine Nx.zr (fun hc => ?_) (fun hc => ?_)
        | ((with_reducible refine Nx.is_mix ?_); first | refine Nx.m_quiet rfl rfl rfl rfl rfl (by first | exact QRun.opr rfl | exact QRun.load rfl rfl (h2 _ _) | exact QRun.load rfl rfl (h3 _ _)) ?_ | refine Nx.m_quiet_do rfl rfl rfl rfl rfl rfl rfl (by first | exact QRun.opr rfl | exact QRun.load rfl rfl (h2 _ _) | exact QRun.load rfl rfl (h3 _ _)) ?_ | refine Nx.m ?_ | refine Nx.zm ?_ | refine Nx.zt (fun hc => ?_) (fun hc => ?_))
        | refine Nx.zx ?_ | fail
      exact Nx.ret_fnP rfl [_, _, _, _, _] ⟨rfl, s', by rw [hs'], hok' rfl, rfl⟩ (by (exact Ent.auto))
    | false =>
      rw [hb] at hrun
      refine FnSpecP.enterP Tryz.func187 rfl Tryz.ntmps187 rfl fun w F => ?_
      repeat' first
        | ((with_reducible refine Nx.is_wp ?_); first | refine Nx.wo ?_ | refine Nx.p_drawF (id := 1) rfl [0, 1, 2, 3, 4, 5] [5] [6, 7] _ rfl rfl (by kernel_rfl) (by kernel_rfl) rfl (by repeat first | exact PanicOk.fn | exact PanicOk.fnP | refine PanicOk.then_ ?_ | refine PanicOk.inB ?_) (Ent.refl _) ?_ | refine Nx.zp (fun hc => ?_) (fun hc => ?_))
        | (refine Nx.zo ?_; first | refine Nx.opr rfl rfl ?_ | refine Nx.load rfl rfl rfl (h1 _ _) ?_ | (refine Nx.call_lendR 3 rfl rfl rfl (by kernel_rfl) rfl rfl (fun m I' hI hm h => hcl I' (Vec.sliceOf hm h)) ?_; rintro _ _ ⟨A', c', rfl, rfl⟩) | (refine Nx.call rfl rfl rfl hF.able rfl (hrun A' c') (by (exact Ent.auto)) ?_; rintro _ _ ⟨rfl, s', hs', hok', rfl⟩) | refine Nx.makeIface rfl rfl rfl ?_ | refine Nx.panic_ rfl ?_ | refine Nx.so ?_ | refine Nx.sb (fun bx => ?_) | refine Nx.sa (fun A2 c2 => ?_))
        | refine Nx.za ?_ | refine Nx.zr (fun hc => ?_) (fun hc => ?_)
        | ((with_reducible refine Nx.is_mix ?_); first | refine Nx.m_quiet rfl rfl rfl rfl rfl (by first | exact QRun.opr rfl | exact QRun.load rfl rfl (h2 _ _) | exact QRun.load rfl rfl (h3 _ _)) ?_ | refine Nx.m_quiet_do rfl rfl rfl rfl rfl rfl rfl (by first | exact QRun.opr rfl | exact QRun.load rfl rfl (h2 _ _) | exact QRun.load rfl rfl (h3 _ _)) ?_ | refine Nx.m ?_ | refine Nx.zm ?_ | refine Nx.zt (fun hc => ?_) (fun hc => ?_))
        | refine Nx.zx ?_ | fail
      all_goals repeat first | refine Nx.then_panic ?_ | refine Nx.in_panic ?_
      exact Nx.pan_fnP [_, _] ⟨rfl, s', _, by rw [hs'], rfl⟩ (by (exact Ent.auto))
  | c :: U, i, hi, hdr, s, t, hinv, hnn, hok => by
    have hol := hord.len
    rw [List.length_map] at hol
    have hil : i < ord.length := by
      rcases Nat.lt_or_ge i ord.length with h | h
      · exact h
      · rw [List.drop_eq_nil_of_le h] at hdr; cases hdr
    have hdc := List.drop_eq_getElem_cons hil
    rw [hdr] at hdc
    obtain ⟨hci, hdU⟩ := List.cons.inj hdc
    have hordi : ∀ (W : World) (R : List Res), Rd W I R ((ad Aq).add (i * 1)) (.int .i64 (c : Int)) := fun W R => by
      have h := hord.rd (W := W) (R := R) (k := i) (by rw [List.length_map]; exact hil)
      rw [List.getD_eq_getElem?_getD, List.getElem?_map, List.getElem?_eq_getElem hil, ← hci] at h
      exact h
    have htl := hinv.len
    have hcn : c < n := hinv.lt c (by simp)
    have hc0 := hinv.zero c (by simp)
    obtain ⟨hcU, _⟩ := List.nodup_cons.1 hinv.nd
    have hSp := span_spec p n l (restL l t) (openL l (c :: U)) t I hin c hcn (restL_len _ _) (openL_len _ _) htl hs.2.1
    rw [lowK_all, highK_all] at hSp
    have hSet : ∀ v : Int, lowF t (c :: U) c l ≤ v → v ≤ highF 1000000 t c l → _ := fun v hv1 hv2 => set_spec p n l (restL l t) (openL l (c :: U)) t I hin c hcn (restL_len _ _) (openL_len _ _) htl hs.2.1 v ⟨(lowF_le.1 hv1).1, (le_highF.1 hv2).1⟩ (rest_bd hs hinv hnn) (open_bd hs)
    have hUn : ∀ v : Int, lowF t (c :: U) c l ≤ v → v ≤ highF 1000000 t c l → _ := fun v hv1 hv2 => unset_spec p n l (restL l (t.set c v)) (openL l U) (t.set c v) I hin c hcn (restL_len _ _) (openL_len _ _) (by rw [List.length_set]; exact htl) hs.2.1 v ⟨(lowF_le.1 hv1).1, (le_highF.1 hv2).1⟩ (rest_bd hs (hinv.step hs.1 hv1 hv2) (nn_set (by omega) (lowF_le.1 hv1).1 hnn)) (open_bd hs)
    simp only [sub_rest hs.1 (show c < t.length by omega) hc0, sub_open hs.1 hcU] at hSet
    simp only [add_rest hs.1 (show c < t.length by omega) hc0, add_open hs.1 hcU, set_zero (show c < t.length by omega) hc0] at hUn
    have hV : ∀ v : Int, lowF t (c :: U) c l ≤ v → v ≤ highF 1000000 t c l → ∀ s, ok (pl s) → _ := fun v hv1 hv2 s hok => visit_spec p n l I hin hF hs hn9 Aq cq ord hord down bo bf bp bd bv h1 h2 h3 h4 h5 U (i + 1) hil hdU.symm s (t.set c v) (hinv.step hs.1 hv1 hv2) (nn_set (by omega) (lowF_le.1 hv1).1 hnn) hok
    rw [show (down && decide (i + 1 = 0)) = false by simp] at hV
    have hl0 : 0 ≤ lowF t (c :: U) c l := (lowF_le.1 (Int.le_refl _)).1
    have hh9 : highF 1000000 t c l ≤ 1000000 := (le_highF.1 (Int.le_refl _)).1
    have hh0 : 0 ≤ highF 1000000 t c l := le_highF.2 ⟨by omega, fun q hq _ => hinv.pos q hq⟩
    have hl9 : lowF t (c :: U) c l ≤ 1000000 := lowF_le.2 ⟨by omega, fun q hq _ _ => by
      have := sumC_nn hnn q.1
      have := hs.2.2 q hq
      unfold restQ; omega⟩
    unfold enum
    generalize hg : (fun (k : Nat) => enum 1000000 l false U (t.set c (if (down && decide (i = 0)) = true then highF 1000000 t c l - (k : Int) else lowF t (c :: U) c l + (k : Int)))) = g
    have hgk : ∀ k : Nat, g k = enum 1000000 l false U (t.set c (if (down && decide (i = 0)) = true then highF 1000000 t c l - (k : Int) else lowF t (c :: U) c l + (k : Int))) := fun k => by rw [← hg]
    generalize lowF t (c :: U) c l = lo at *
    generalize highF 1000000 t c l = top at *
    generalize hN : (top - lo + 1).toNat = N
    refine FnSpecP.enterP Tryz.func187 rfl Tryz.ntmps187 rfl fun w F => ?_
    repeat' first
      | ((with_reducible refine Nx.is_wp ?_); first | refine Nx.wo ?_ | refine Nx.zp (fun hc => ?_) (fun hc => ?_))
      | (refine Nx.zo ?_; first | refine Nx.opr rfl rfl ?_ | refine Nx.load rfl rfl rfl (h1 _ _) ?_ | refine Nx.load rfl rfl rfl (h3 _ _) ?_ | refine Nx.indexAddr_nat rfl rfl rfl rfl rfl (by omega) (hord.isSome (by rw [List.length_map]; omega)) ?_ | refine Nx.load rfl rfl rfl (hordi _ _) ?_ | (refine Nx.call rfl rfl rfl (by kernel_rfl) rfl hSp (by (exact Ent.auto)) ?_; rintro _ _ ⟨rfl, rfl⟩) | refine Nx.so ?_ | refine Nx.sb (fun bx => ?_) | refine Nx.sa (fun A2 c2 => ?_))
      | refine Nx.za ?_ | refine Nx.zr (fun hc => ?_) (fun hc => ?_)
      | refine Nx.zq ?_ | refine Nx.zu (fun hc => ?_) (fun hc => ?_)
      | refine Nx.zx ?_ | fail
    refine Nx.p_loop (σ := Nat × σ) (fun x => [(0, .int .i64 (i : Int)), (1, .pointer (some ⟨bo, 0, none⟩)), (2, .pointer (some ⟨bf, 0, none⟩)), (3, .pointer (some ⟨bp, 0, none⟩)), (4, .pointer (some ⟨bd, 0, none⟩)), (5, .pointer (some ⟨bv, 0, none⟩)), (7, .int .i64 (c : Int)), (8, .int .i64 lo), (9, .int .i64 top), (40, .int .i64 (max 0 (top - lo + 1))), (41, .int .i64 (x.1 : Int))])
      (fun x => [p.blk n l.length, iR p.Ar p.cr (restL l t), iR p.Ao p.co (openL l (c :: U)), iR p.At p.ct t, TR x.2, F]) (fun x => x.1 ≤ N ∧ foldStop f (pl s) ((List.range x.1).flatMap g) = (pl x.2, true) ∧ ok (pl x.2)) (fun x => N - x.1) (0, s) rfl ⟨Nat.zero_le _, rfl, hok⟩ ⟨rfl, rfl, rfl, rfl, rfl, rfl, rfl, rfl, rfl, rfl, rfl, trivial⟩ (by (exact Ent.auto)) ?_
    rintro ⟨k, s1⟩ ⟨hk, hfs, hok1⟩
    dsimp only at hk hfs hok1 ⊢
    by_cases hkl : k < N
    case neg =>
      obtain rfl : k = N := by omega
      repeat' first
        | ((with_reducible refine Nx.is_wp ?_); first | refine Nx.wo ?_ | refine Nx.zp (fun hc => ?_) (fun hc => ?_))
        | (refine Nx.zo ?_; first | refine Nx.opr rfl rfl ?_ | refine Nx.so ?_ | refine Nx.sb (fun bx => ?_) | refine Nx.sa (fun A2 c2 => ?_))
        | refine Nx.za ?_ | refine Nx.zr (fun hc => ?_) (fun hc => ?_)
        | refine Nx.zq ?_ | refine Nx.zu (fun hc => ?_) (fun hc => ?_)
        | refine Nx.zx ?_ | fail
      exact Nx.end_fnP rfl [_, _, _, _, _] ⟨rfl, s1, hfs, hok1, rfl⟩ (by (exact Ent.auto))
    obtain ⟨z, hz⟩ := flat_at g hkl
    have hgk := hgk k
    obtain ⟨v, hv⟩ : ∃ v : Int, v = if (down && decide (i = 0)) = true then top - (k : Int) else lo + (k : Int) := ⟨_, rfl⟩
    rw [← hv] at hgk
    have hv1 : lo ≤ v := by rw [hv]; split <;> omega
    have hv2 : v ≤ top := by rw [hv]; split <;> omega
    have hS := hSet v hv1 hv2
    have hU := hUn v hv1 hv2
    have hR := hV v hv1 hv2 s1 hok1
    rw [← hgk] at hR
    clear hSet hUn hV hSp
    cases down with
    | false =>
      obtain rfl : v = lo + (k : Int) := by rw [hv]; simp
      repeat' first
        | ((with_reducible refine Nx.is_wp ?_); first | refine Nx.wo ?_ | refine Nx.zp (fun hc => ?_) (fun hc => ?_))
        | (refine Nx.zo ?_; first | refine Nx.opr rfl rfl ?_ | refine Nx.load rfl rfl rfl (h3 _ _) ?_ | refine Nx.load rfl rfl rfl (h4 _ _) ?_ | refine Nx.load rfl rfl rfl (h5 _ _) ?_ | (refine Nx.call rfl rfl rfl (by kernel_rfl) rfl hS (by (exact Ent.auto)) ?_; rintro _ _ ⟨rfl, rfl⟩) | (refine Nx.call rfl rfl rfl (by kernel_rfl) rfl hU (by (exact Ent.auto)) ?_; rintro _ _ ⟨rfl, rfl⟩) | (refine Nx.callP rfl rfl rfl (by kernel_rfl) rfl hR (by (exact Ent.auto)) ?_ (by rintro _ _ ⟨rfl, s2, G, hf2, rfl⟩; (repeat first | refine Nx.then_panic ?_ | refine Nx.in_panic ?_); exact Nx.pan_fnP [_, _] ⟨rfl, s2, _, by rw [hz]; exact foldStop_go hfs (foldStop_cut hf2), rfl⟩ (by (exact Ent.auto))); rintro _ _ ⟨rfl, s2, hf2, hok2, rfl⟩) | refine Nx.so ?_ | refine Nx.sb (fun bx => ?_) | refine Nx.sa (fun A2 c2 => ?_))
        | refine Nx.za ?_ | refine Nx.zr (fun hc => ?_) (fun hc => ?_)
        | refine Nx.zq ?_ | refine Nx.zu (fun hc => ?_) (fun hc => ?_)
        | refine Nx.zx ?_ | fail
      exact Nx.again (k + 1, s2) ⟨hkl, by dsimp only; rw [flat_snoc]; exact foldStop_go hfs hf2, hok2⟩ (by dsimp only; omega) ⟨rfl, rfl, rfl, rfl, rfl, rfl, rfl, rfl, rfl, rfl, rfl, trivial⟩ (by (exact Ent.auto))
    | true =>
      by_cases hi0 : i = 0
      · subst hi0
        obtain rfl : v = top - (k : Int) := by rw [hv]; simp
        repeat' first
          | ((with_reducible refine Nx.is_wp ?_); first | refine Nx.wo ?_ | refine Nx.zp (fun hc => ?_) (fun hc => ?_))
          | (refine Nx.zo ?_; first | refine Nx.opr rfl rfl ?_ | refine Nx.load rfl rfl rfl (h3 _ _) ?_ | refine Nx.load rfl rfl rfl (h4 _ _) ?_ | refine Nx.load rfl rfl rfl (h5 _ _) ?_ | (refine Nx.call rfl rfl rfl (by kernel_rfl) rfl hS (by (exact Ent.auto)) ?_; rintro _ _ ⟨rfl, rfl⟩) | (refine Nx.call rfl rfl rfl (by kernel_rfl) rfl hU (by (exact Ent.auto)) ?_; rintro _ _ ⟨rfl, rfl⟩) | (refine Nx.callP rfl rfl rfl (by kernel_rfl) rfl hR (by (exact Ent.auto)) ?_ (by rintro _ _ ⟨rfl, s2, G, hf2, rfl⟩; (repeat first | refine Nx.then_panic ?_ | refine Nx.in_panic ?_); exact Nx.pan_fnP [_, _] ⟨rfl, s2, _, by rw [hz]; exact foldStop_go hfs (foldStop_cut hf2), rfl⟩ (by (exact Ent.auto))); rintro _ _ ⟨rfl, s2, hf2, hok2, rfl⟩) | refine Nx.so ?_ | refine Nx.sb (fun bx => ?_) | refine Nx.sa (fun A2 c2 => ?_))
          | refine Nx.za ?_ | refine Nx.zr (fun hc => ?_) (fun hc => ?_)
          | refine Nx.zq ?_ | refine Nx.zu (fun hc => ?_) (fun hc => ?_)
          | refine Nx.zx ?_ | fail
        exact Nx.again (k + 1, s2) ⟨hkl, by dsimp only; rw [flat_snoc]; exact foldStop_go hfs hf2, hok2⟩ (by dsimp only; omega) ⟨rfl, rfl, rfl, rfl, rfl, rfl, rfl, rfl, rfl, rfl, rfl, trivial⟩ (by (exact Ent.auto))
      · obtain rfl : v = lo + (k : Int) := by rw [hv]; simp [hi0]
        repeat' first
          | ((with_reducible refine Nx.is_wp ?_); first | refine Nx.wo ?_ | refine Nx.zp (fun hc => ?_) (fun hc => ?_))
          | (refine Nx.zo ?_; first | refine Nx.opr rfl rfl ?_ | refine Nx.load rfl rfl rfl (h3 _ _) ?_ | refine Nx.load rfl rfl rfl (h4 _ _) ?_ | refine Nx.load rfl rfl rfl (h5 _ _) ?_ | (refine Nx.call rfl rfl rfl (by kernel_rfl) rfl hS (by (exact Ent.auto)) ?_; rintro _ _ ⟨rfl, rfl⟩) | (refine Nx.call rfl rfl rfl (by kernel_rfl) rfl hU (by (exact Ent.auto)) ?_; rintro _ _ ⟨rfl, rfl⟩) | (refine Nx.callP rfl rfl rfl (by kernel_rfl) rfl hR (by (exact Ent.auto)) ?_ (by rintro _ _ ⟨rfl, s2, G, hf2, rfl⟩; (repeat first | refine Nx.then_panic ?_ | refine Nx.in_panic ?_); exact Nx.pan_fnP [_, _] ⟨rfl, s2, _, by rw [hz]; exact foldStop_go hfs (foldStop_cut hf2), rfl⟩ (by (exact Ent.auto))); rintro _ _ ⟨rfl, s2, hf2, hok2, rfl⟩) | refine Nx.so ?_ | refine Nx.sb (fun bx => ?_) | refine Nx.sa (fun A2 c2 => ?_))
          | refine Nx.za ?_ | refine Nx.zr (fun hc => ?_) (fun hc => ?_)
          | refine Nx.zq ?_ | refine Nx.zu (fun hc => ?_) (fun hc => ?_)
          | refine Nx.zx ?_ | fail
        exact Nx.again (k + 1, s2) ⟨hkl, by dsimp only; rw [flat_snoc]; exact foldStop_go hfs hf2, hok2⟩ (by dsimp only; omega) ⟨rfl, rfl, rfl, rfl, rfl, rfl, rfl, rfl, rfl, rfl, rfl, trivial⟩ (by (exact Ent.auto))
end Go.Proofs.YtpcnapidlhpbkaaGreatDoor
namespace Go.Eng
theorem Blk.cell {b k : Nat} {t : TypeId} {cs : List Value} {v : Value} {m : PH} (h : Blk b t cs m) (hk : nthL cs k = some v) : cellH m ⟨b, k, none⟩ = some v := by
  rw [nthL_eq] at hk
  simp [cellH, show m b = _ from h]
  exact hk
end Go.Eng
