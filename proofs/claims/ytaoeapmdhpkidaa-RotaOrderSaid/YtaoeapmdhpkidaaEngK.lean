/-
  The proof engine, part K: a statement of open order with allocations that may come at any time, in steps that a walk finds by itself.
-/
import Derived.Test.YtaoeapmdhpkidaaEngG
import Derived.Test.YtaoeapmdhpkidaaEngH
namespace Go.Eng
/-- What is still to come: a chain of operations (those that only read are taken first, the others come up one behind the other), allocations at any time, and last ones behind all of them. -/
def GoodF (C : Cx) (ops : Array Oper) (Q : Exit → Act → World → Prop) (S : World → Prop) (I : PH) (pool : List PoolOp) (loud fin : List Nat) : List Nat → Env → List Res → Prop
  | [], e, R => keysFree pool e = true ∧ ∀ bs : List Nat, bs.length = pool.length → Nx C (e ++ pe pool (bs.map some)) I (Stars (pr pool (bs.map some)) :: R) (wpMix C.P ops Q AnyW fin fin)
  | k :: ch, e, R => keysFree pool e = true ∧ match loud.contains k with
    | true => ∀ (ex : Env) (X : Res), Nx C (e ++ ex) I (X :: R) (wpOp C.P ops Q k (fun a w => S w ∧ ∃ e' R', Mod C.n (e' ++ ex) a ∧ St C.W I (X :: R') w ∧ GoodF C ops Q S I pool loud fin ch e' R'))
    | false => ∃ o v e', ops[k]? = some o ∧ (∀ a ex, Mod C.n (e ++ ex) a → YieldsIf C.P ops S o v a ∧ Mod C.n (e' ++ ex) (a.put o.dst v)) ∧ GoodF C ops Q S I pool loud fin ch e' R
theorem GoodF.free {C : Cx} {ops : Array Oper} {Q : Exit → Act → World → Prop} {S : World → Prop} {I : PH} {pool : List PoolOp} {loud fin ch : List Nat} {e : Env} {R : List Res} (h : GoodF C ops Q S I pool loud fin ch e R) : keysFree pool e = true := by
  cases ch <;> exact h.1
def PoolSF (C : Cx) (ops : Array Oper) (Q : Exit → Act → World → Prop) (S : World → Prop) (I : PH) (pool : List PoolOp) (loud fin ch : List Nat) (ex : Env) (X : Res) : Act → World → Prop :=
  fun a w => S w ∧ ∃ e' R', Mod C.n (e' ++ ex) a ∧ St C.W I (X :: R') w ∧ GoodF C ops Q S I pool loud fin ch e' R'
def poolOkF (ops : Array Oper) (loud fin : List Nat) (pool : List PoolOp) : Nat → List Nat → List Bool → Array Bool → Bool
  | fuel, [], fl, listed =>
    if fl.all id then mixOk ops fin fin listed && Nat.ble fin.length fuel
    else match fuel with
      | 0 => false
      | f + 1 => !(Region.ready .any ops listed).isEmpty && (Region.ready .any ops listed).all fun i => match findP pool fl i 0 with
        | some j => poolOkF ops loud fin pool f [] (fl.set j true) (listed.setIfInBounds i true)
        | none => false
  | 0, _ :: _, _, _ => false
  | f + 1, k :: ch, fl, listed => match loud.contains k with
    | true => !(Region.ready .any ops listed).isEmpty && (Region.ready .any ops listed).all fun i =>
      if Nat.beq i k then poolOkF ops loud fin pool f ch fl (listed.setIfInBounds i true)
      else match findP pool fl i 0 with
        | some j => poolOkF ops loud fin pool f (k :: ch) (fl.set j true) (listed.setIfInBounds i true)
        | none => false
    | false => Region.free .any ops listed k && (Region.ready .any ops listed).contains k && finWaits .any ops fin k && poolOkF ops loud fin pool f ch fl (listed.setIfInBounds k true)
section
variable {C : Cx} {e e' : Env} {I : PH} {R R' R0 : List Res} {K K' : Act → World → Prop} {Q : Exit → Act → World → Prop} {W : World}
variable {ops : Array Oper} {S : World → Prop} {loud fin ch : List Nat} {pool : List PoolOp} {c : Code} {o : Oper}
theorem pool_anyF (hs : Region.noSelect ops = true) (hQ : PanicOk Q) (hd : (pool.map (·.d)).Pairwise (· ≠ ·)) (hfit : ∀ p ∈ pool, PoolFit C ops p) (hS : ∀ w o, S w → S (w.alloc o)) :
    ∀ (fuel : Nat) (ch : List Nat) (bs : List (Option Nat)) (listed : Array Bool) (e : Env) (R : List Res) (a : Act) (w : World), Closed .any ops listed → poolOkF ops loud fin pool fuel ch (bs.map Option.isSome) listed = true → bs.length = pool.length →
      Mod C.n (e ++ pe pool bs) a → St C.W I (Stars (pr pool bs) :: R) w → S w → GoodF C ops Q S I pool loud fin ch e R → wpAnyF C.P .any ops Q S fin fuel listed a w := by
  have hfull : ∀ (fuel : Nat) (bs : List (Option Nat)) (listed : Array Bool) (e : Env) (R : List Res) (a : Act) (w : World), (bs.map Option.isSome).all id = true → (mixOk ops fin fin listed && Nat.ble fin.length fuel) = true → bs.length = pool.length →
      Mod C.n (e ++ pe pool bs) a → St C.W I (Stars (pr pool bs) :: R) w → GoodF C ops Q S I pool loud fin [] e R → wpAnyF C.P .any ops Q S fin fuel listed a w := by
    intro fuel bs listed e R a w hall hok hbl ha hw hg
    obtain ⟨l, rfl⟩ := map_isSome hall
    rw [Bool.and_eq_true] at hok
    exact wpMix_fin hs hQ (fun k hk => by simpa using hk) fin fuel listed a w (fun k hk => by simpa using hk) hok.1 (Nat.le_of_ble_eq_true hok.2) (hg.2 l (by simpa using hbl) a w ha hw)
  intro fuel
  induction fuel with
  | zero =>
    intro ch bs listed e R a w hcl hok hbl ha hw hSw hg
    cases ch with
    | cons k ch => simp [poolOkF] at hok
    | nil =>
      unfold poolOkF at hok
      split at hok
      · rename_i hall
        exact hfull 0 bs listed e R a w hall hok hbl ha hw hg
      · cases hok
  | succ f ih =>
    intro ch bs listed e R a w hcl hok hbl ha hw hSw hg
    have poolStep : ∀ i j, i ∈ Region.ready .any ops listed → findP pool (bs.map Option.isSome) i 0 = some j → poolOkF ops loud fin pool f ch ((bs.map Option.isSome).set j true) (listed.setIfInBounds i true) = true →
        wpOp C.P ops Q i (fun a' w' => (fin.contains i = false → S w') ∧ wpAnyF C.P .any ops Q S fin f (listed.setIfInBounds i true) a' w') a w := by
      intro i j hir hfj hokj
      obtain ⟨m, p, hm, hpm, hfm, hpk⟩ := findP_ok hfj
      obtain rfl : j = m := by omega
      subst hpk
      have hbj : bs[j]? = some none := by
        rw [List.getElem?_map] at hfm
        cases hbj : bs[j]? with
        | none => rw [hbj] at hfm; cases hfm
        | some o => cases o with
          | none => rfl
          | some b => rw [hbj] at hfm; cases hfm
      obtain ⟨⟨ty, pos, after, hop⟩, hz, hlt⟩ := hfit p (List.mem_of_getElem? hpm)
      unfold wpOp
      simp only [hop]
      rw [if_pos (by simp [Region.wanted])]
      refine .inl ?_
      obtain ⟨z, hzc, hrun⟩ := zeroOf_run hz w
      have hrun' : (execOp a.eval ⟨some p.d, .alloc p.t, ty, pos, after, none⟩).run C.P w = .ok (.value (.pointer (some ⟨w.heap.size, 0, none⟩))) (w.alloc (.cells p.cs.toArray p.t)) := by
        refine run_v ?_
        unfold Instr.alloc
        rw [Sem.run_bind, hrun, Result.andThen_ok]
        simp only [newVar, hzc]
        rfl
      unfold Oper.wp
      rw [hrun']
      refine ⟨fun _ => hS w _ hSw, ?_⟩
      refine ih ch (bs.set j (some w.heap.size)) (listed.setIfInBounds p.k true) e R _ _ (hcl.set hir) ?_ (by rw [List.length_set]; exact hbl) (ha.poolPut hg.free hd hpm hbj hlt) ?_ (hS w _ hSw) hg
      · rw [List.map_set]; exact hokj
      · refine (hw.alloc (.cells p.cs.toArray p.t)).ent ?_
        refine (Ent.bundle (B := pr pool bs) (r := Blk w.heap.size p.t p.cs)).trans ?_
        refine Ent.head fun m hm => ?_
        obtain ⟨m1, m2, hd', rfl, h1, h2⟩ := Stars.append hm
        obtain ⟨n1, n2, hd2, rfl, h3, _⟩ := h2
        obtain ⟨m', hle, h'⟩ := pr_set (b := w.heap.size) hpm hbj (n1.or m1) ⟨n1, m1, (PH.dis_or.1 hd').1.symm, rfl, h3, h1⟩
        exact Stars.up h' (hle.trans (PH.or_le ((PH.le_or_left n1 n2).trans (PH.le_or_right hd')) (PH.le_or_left _ _)))
    cases ch with
    | nil =>
      unfold poolOkF at hok
      split at hok
      · rename_i hall
        exact hfull (f + 1) bs listed e R a w hall hok hbl ha hw hg
      · simp only [Bool.and_eq_true, Bool.not_eq_true', List.all_eq_true] at hok
        refine ⟨fun h0 => (by rw [h0] at hok; simp at hok), fun i hi => ?_⟩
        have := hok.2 i hi
        split at this
        · rename_i j hj; exact poolStep i j hi hj this
        · cases this
    | cons k ch =>
      unfold poolOkF at hok
      cases hl : loud.contains k with
      | true =>
        rw [hl] at hok
        simp only [Bool.and_eq_true, Bool.not_eq_true', List.all_eq_true] at hok
        have hg2 := hg.2
        rw [hl] at hg2
        refine ⟨fun h0 => (by rw [h0] at hok; simp at hok), fun i hi => ?_⟩
        have := hok.2 i hi
        split at this
        · rename_i hik
          obtain rfl := Nat.eq_of_beq_eq_true hik
          refine wpOp_mono (fun a' w' => ?_) (hg2 (pe pool bs) (Stars (pr pool bs)) a w ha hw)
          rintro ⟨hS', e', R', ha', hw', hg'⟩
          exact ⟨fun _ => hS', ih ch bs _ e' R' a' w' (hcl.set hi) this hbl ha' hw' hS' hg'⟩
        · split at this
          · rename_i j hj; exact poolStep i j hi hj this
          · cases this
      | false =>
        rw [hl] at hok
        simp only [Bool.and_eq_true] at hok
        have hg2 := hg.2
        rw [hl] at hg2
        obtain ⟨o, v, e', ho, hy, hg'⟩ := hg2
        obtain ⟨hy1, hy2⟩ := hy a _ ha
        exact wpAnyF_first ho hs hQ hok.1.2 f listed a w hcl (Region.free_spec ho hok.1.1.1) (by simpa using hok.1.1.2) hy1 hSw (ih ch bs _ e' R _ w (hcl.set (by simpa using hok.1.1.2)) hok.2 hbl hy2 hw hSw hg')
/-- 'ch': the chain; 'loud': those of it that write or call; 'fin': the last ones. -/
theorem Nx.p_poolF {id : Nat} (hid : cid c = id) (ch loud fin : List Nat) (pool : List PoolOp) (hk : ck c = 2) (hm : C.P.follows .mixedOrders = true) (hs : Region.noSelect (cops c) = true)
    (hok : poolOkF (cops c) loud fin pool (cops c).size ch (pool.map fun _ => false) (Array.replicate (cops c).size false) = true)
    (hd : (pool.map (·.d)).Pairwise (· ≠ ·)) (hfit : ∀ p ∈ pool, PoolFit C (cops c) p) (hQ : PanicOk Q) (hR : Ent R R0)
    (h : GoodF C (cops c) Q (St C.W I R0) I pool loud fin ch e R) : Nx C e I R (c.wp C.P Q) := by
  have hc : c = .region (cid c) (cops c) true := by
    cases c <;> first | (simp [ck] at hk; done) | skip
    rename_i b
    cases b with
    | false => simp [ck] at hk
    | true => rfl
  clear hid
  rw [hc]
  have hS : ∀ w o, St C.W I R0 w → St C.W I R0 (w.alloc o) := fun w o h => (h.alloc o).ent (Ent.drop (Ent.refl _))
  intro a w ha hw
  obtain ⟨h1, h2, h3⟩ := pe_nones pool
  refine wp_region_any hm (wpAny_of_fin (S := St C.W I R0) (fin := fin) _ _ _ _ ?_)
  refine pool_anyF hs hQ hd hfit hS _ ch (pool.map fun _ => none) _ e R a _ (Closed.start _) (by rw [h3]; exact hok) (by simp) (by rw [h1, List.append_nil]; exact ha) (hw.drew.ent ?_) (hw.drew.ent hR) h
  rw [h2]
  exact Ent.stars_nil _
theorem GoodF.is (h : GoodF C ops Q S I pool loud fin ch e R) : GoodF C ops Q S I pool loud fin ch e R := h
theorem GoodF.loud_ {k : Nat} (hf : keysFree pool e = true) (hl : loud.contains k = true) (ho : opAt ops.toList k = some o) (hg : o.guard = none) (h : ∀ (ex : Env) (X : Res), Nx C (e ++ ex) I (X :: R) (opK C.P o (PoolSF C ops Q S I pool loud fin ch ex X) Q)) : GoodF C ops Q S I pool loud fin (k :: ch) e R :=
  ⟨hf, by
    rw [hl]
    intro ex X a w ha hw
    unfold wpOp
    simp only [opAt_arr ho]
    rw [if_pos (by simp [Region.wanted, hg])]
    exact .inl (h ex X a w ha hw)⟩
theorem Mod.app_l {n : Nat} {a : Act} {ex : Env} (h : Mod n (e ++ ex) a) : Mod n e a := ⟨h.size, h.defers, fun t v ht => h.get t v (lk_app_l ht)⟩
theorem GoodF.quiet {k d : Nat} {v : Value} (hf : keysFree pool e = true) (hl : loud.contains k = false) (ho : opAt ops.toList k = some o) (hg : o.guard = none) (hd : o.dst = some d) (hlt : Nat.blt d C.n = true) (hrun : QRun C e S o v) (h : GoodF C ops Q S I pool loud fin ch ((d, v) :: e) R) : GoodF C ops Q S I pool loud fin (k :: ch) e R :=
  ⟨hf, by
    rw [hl]
    refine ⟨o, v, (d, v) :: e, opAt_arr ho, fun a ex ha => ⟨.inl ⟨by simp [Region.wanted, hg], fun w hS => hrun a w ha.app_l hS⟩, ?_⟩, h⟩
    rw [hd]
    exact ha.put hlt v⟩
theorem GoodF.done1 {p : PoolOp} (hf : keysFree [p] e = true) (h : ∀ b, Nx C (e ++ [(p.d, .pointer (some ⟨b, 0, none⟩))]) I (Blk b p.t p.cs :: R) (wpMix C.P ops Q AnyW fin fin)) : GoodF C ops Q S I [p] loud fin [] e R := ⟨hf, fun bs hbs => by
  match bs, hbs with
  | [b], _ => exact Nx.unfoldAt 0 (B := [Blk b p.t p.cs]) rfl (h b)⟩
theorem GoodF.done2 {p q : PoolOp} (hf : keysFree [p, q] e = true) (h : ∀ b b', Nx C (e ++ [(p.d, .pointer (some ⟨b, 0, none⟩)), (q.d, .pointer (some ⟨b', 0, none⟩))]) I (Blk b p.t p.cs :: Blk b' q.t q.cs :: R) (wpMix C.P ops Q AnyW fin fin)) : GoodF C ops Q S I [p, q] loud fin [] e R := ⟨hf, fun bs hbs => by
  match bs, hbs with
  | [b, b'], _ => exact Nx.unfoldAt 0 (B := [Blk b p.t p.cs, Blk b' q.t q.cs]) rfl (h b b')⟩
theorem GoodF.done3 {p q r : PoolOp} (hf : keysFree [p, q, r] e = true) (h : ∀ b b' b2, Nx C (e ++ [(p.d, .pointer (some ⟨b, 0, none⟩)), (q.d, .pointer (some ⟨b', 0, none⟩)), (r.d, .pointer (some ⟨b2, 0, none⟩))]) I (Blk b p.t p.cs :: Blk b' q.t q.cs :: Blk b2 r.t r.cs :: R) (wpMix C.P ops Q AnyW fin fin)) : GoodF C ops Q S I [p, q, r] loud fin [] e R := ⟨hf, fun bs hbs => by
  match bs, hbs with
  | [b, b', b2], _ => exact Nx.unfoldAt 0 (B := [Blk b p.t p.cs, Blk b' q.t q.cs, Blk b2 r.t r.cs]) rfl (h b b' b2)⟩
/-- Behind an operation of the chain. 'k': where the frame X stands. -/
theorem Nx.pool_nextF (k : Nat) {ex : Env} {X : Res} {t : Nat} {v : Value} (hk : nthL R k = some X) (hS : Ent R R0) (h : GoodF C ops Q (St C.W I R0) I pool loud fin ch ((t, v) :: e) (R.eraseIdx k)) : Nx C ((t, v) :: (e ++ ex)) I R (PoolSF C ops Q (St C.W I R0) I pool loud fin ch ex X) :=
  fun _ w ha hw => ⟨hw.ent hS, (t, v) :: e, R.eraseIdx k, ha, hw.ent (Ent.pull k R X (nthL_eq.symm.trans hk)), h⟩
theorem PoolFit.all1 {p : PoolOp} (h : PoolFit C ops p) : ∀ q ∈ [p], PoolFit C ops q := fun q hq => by
  obtain rfl : q = p := by simpa using hq
  exact h
theorem PoolFit.cons {p : PoolOp} {r : List PoolOp} (h : PoolFit C ops p) (hr : ∀ q ∈ r, PoolFit C ops q) : ∀ q ∈ p :: r, PoolFit C ops q := fun q hq => by
  rcases List.mem_cons.1 hq with rfl | hq
  · exact h
  · exact hr q hq
theorem PoolFit.nil : ∀ q ∈ ([] : List PoolOp), PoolFit C ops q := fun q hq => by simp at hq
end
end Go.Eng
