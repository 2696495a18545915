/- Contracts of functions of the given program, and lemmas. -/
import Derived.Laws.MakeOwn
import Derived.Laws.CopyRow
import Derived.Shelf.Bits.Mul64
import Derived.Test.YtpcnapidlhpbkaaGreatDoorBq5
set_option maxHeartbeats 32000000
namespace Go.Eng
section
variable {P : Program} {ops : Array Oper} {Q : Exit → Act → World → Prop} {S : World → Prop} {fs fin fq : List Nat}
def lateW (ops : Array Oper) (fin : List Nat) (listed : Array Bool) (i : Nat) : Bool := fin.all fun j => listed.getD j false || finWaits .any ops [j] i
theorem wpAnyF_firstL {i : Nat} {oi : Oper} {v : Value} (hi : ops[i]? = some oi) (hs : Region.noSelect ops = true) (hQ : PanicOk Q) :
    ∀ (n : Nat) (listed : Array Bool) (a : Act) (w : World), Closed .any ops listed → (∀ j, fin.contains j = true → listed.getD j false = true ∨ finWaits .any ops [j] i = true) →
      (∀ j oj, ops[j]? = some oj → j ≠ i → listed.getD j true = false → (∀ e ∈ oj.after, Region.binds .any e = true → e.on ≠ i) → oi.apart ops oj = true) →
      i ∈ Region.ready .any ops listed → YieldsIf P ops S oi v a → S w →
      wpAnyF P .any ops Q S fin n (listed.setIfInBounds i true) (a.put oi.dst v) w → wpAnyF P .any ops Q S fin (n + 1) listed a w
  | n, listed, a, w, hcl, hfin, hap, hr, hy, hS, H => by
    refine ⟨fun h0 => (by rw [h0] at hr; cases hr), fun j hj => ?_⟩
    by_cases hji : j = i
    · subst hji; exact hy.wpOp hi hS ⟨fun _ => hS, H⟩
    · have hj2 := ready_mono hj hji
      obtain ⟨hjun, oj, hoj, _⟩ := mem_ready.1 hj
      have hno := ready_waits hr hj hoj
      have hnf : fin.contains j = false := by
        cases hf : fin.contains j with
        | false => rfl
        | true =>
          exfalso
          rcases hfin j hf with h0 | h0
          · rcases Nat.lt_or_ge j listed.size with h' | h'
            · simp [h'] at hjun h0
              rw [hjun] at h0; cases h0
            · simp [Array.getElem?_eq_none h'] at h0
          · have := finWaits_not hcl h0 hr hj
            simp at this
      match n, H with
      | 0, H => rw [H.1] at hj2; cases hj2
      | n + 1, H =>
        have h1 := H.2 j hj2
        have h2 := wpOp_putIf hoj (hap j oj hoj hji hjun hno) (fun cs b => Region.noSelect_spec hs i oi cs b hi) (fun cs b => Region.noSelect_spec hs j oj cs b hoj) (fun c a w => hQ c oi.dst v a w) hy h1
        refine wpOp_mono (fun a' w' h3 => ?_) h2
        obtain ⟨hy', hS', H'⟩ := h3
        refine ⟨fun _ => hS' hnf, wpAnyF_firstL hi hs hQ n (listed.setIfInBounds j true) a' w' (hcl.set hj) (fun k hk => (hfin k hk).imp (fun h => getD_set_true h) id) (fun k ok hk hki hun hnk => ?_) (ready_mono hr (Ne.symm hji)) hy' (hS' hnf) ?_⟩
        · refine hap k ok hk hki ?_ hnk
          by_cases hjk : j = k
          · subst hjk; exact hjun
          · rwa [getD_set_ne true hjk] at hun
        · rw [Array.setIfInBounds_comm _ _ hji]
          exact H'
def preOkF (ops : Array Oper) (fin : List Nat) (k : Array Bool → Bool) : List Nat → Array Bool → Bool
  | [], listed => k listed
  | q :: r, listed => Region.free .any ops listed q && (Region.ready .any ops listed).contains q && lateW ops fin listed q && preOkF ops fin k r (listed.setIfInBounds q true)
def wpForkF (P : Program) (ops : Array Oper) (Q : Exit → Act → World → Prop) (S : World → Prop) (fs fin fq : List Nat) : Nat → Array Bool → Act → World → Prop
  | 0, _, _, _ => False
  | n + 1, listed, a, w => (mixOk ops fq fin listed = true ∧ fin.all (fs.contains ·) = true ∧ fin.length ≤ n + 1 ∧ wpMix P ops Q AnyW fq fin a w) ∨
    (∃ i, (fs.contains i && Region.free .any ops listed i && (Region.ready .any ops listed).contains i) = true ∧ wpMix P ops (Exit.then (wpForkF P ops Q S fs fin fq n (listed.setIfInBounds i true)) Q) AnyW [] [i] a w) ∨
    (∃ i, preOkF ops fs (fun _ => true) [i] listed = true ∧ wpMix P ops (Exit.then (wpForkF P ops Q S fs fin fq n (listed.setIfInBounds i true)) Q) S [] [i] a w) ∨
    (Region.ready .any ops listed ≠ [] ∧ ∀ i ∈ Region.ready .any ops listed, wpOp P ops Q i (fun a' w' => S w' ∧ wpForkF P ops Q S fs fin fq n (listed.setIfInBounds i true) a' w') a w)
theorem wpForkF_any (hs : Region.noSelect ops = true) (hQ : PanicOk Q) : ∀ (n : Nat) (listed : Array Bool) (a : Act) (w : World), Closed .any ops listed → wpForkF P ops Q S fs fin fq n listed a w → S w → wpAnyF P .any ops Q S fs n listed a w
  | 0, _, _, _, _, h, _ => h.elim
  | n + 1, listed, a, w, hcl, h, hS => by
    rcases h with ⟨h1, h0, h2, h3⟩ | ⟨i, h1, h2⟩ | ⟨i, h1, h2⟩ | ⟨h1, h2⟩
    · exact wpMix_finQ hs hQ (fun k hk => by simpa using hk) fin (n + 1) listed a w (fun k hk => by simpa using List.all_eq_true.1 h0 k hk) h1 h2 h3
    · obtain ⟨o, ho, h⟩ := h2
      simp only [Bool.and_eq_true] at h1
      rw [if_neg (by simp)] at h
      obtain ⟨v, hy, h⟩ := h
      exact wpAnyF_firstA ho hs hQ h1.1.1 n listed a w (Region.free_spec ho h1.1.2) (by simpa using h1.2) hy (wpForkF_any hs hQ n _ _ w (hcl.set (by simpa using h1.2)) h hS)
    · obtain ⟨o, ho, h⟩ := h2
      simp only [preOkF, Bool.and_eq_true] at h1
      rw [if_neg (by simp)] at h
      obtain ⟨v, hy, h⟩ := h
      exact wpAnyF_firstL ho hs hQ n listed a w hcl (fun j hj => by have := List.all_eq_true.1 h1.1.2 j (by simpa using hj); simpa using this) (Region.free_spec ho h1.1.1.1) (by simpa using h1.1.1.2) hy hS (wpForkF_any hs hQ n _ _ w (hcl.set (by simpa using h1.1.1.2)) h hS)
    · exact ⟨fun h0 => absurd h0 h1, fun i hi => wpOp_mono (fun a' w' ⟨h3, h4⟩ => ⟨fun _ => h3, wpForkF_any hs hQ n _ a' w' (hcl.set hi) h4 h3⟩) (h2 i hi)⟩
end
section
variable {C : Cx} {e e' : Env} {I : PH} {R R' R0 : List Res} {K K' : Act → World → Prop} {Q : Exit → Act → World → Prop} {W : World}
variable {ops : Array Oper} {S : World → Prop} {fs fin fq : List Nat} {c : Code} {n i j k : Nat} {o oi oj ok : Oper} {listed : Array Bool}
theorem Nx.p_forkF {id : Nat} (hid : cid c = id) (fs fin fq : List Nat) (R0 : List Res) {sz : Nat} (hsz : (cops c).size = sz) (hk : ck c = 2) (hm : C.P.follows .mixedOrders = true) (hs : Region.noSelect (cops c) = true) (hQ : PanicOk Q) (hR : Ent R R0)
    (h : Nx C e I R (wpForkF C.P (cops c) Q (St C.W I R0) fs fin fq sz (Array.replicate sz false))) : Nx C e I R (c.wp C.P Q) := by
  have hc : c = .region (cid c) (cops c) true := by
    cases c <;> first | (simp [ck] at hk; done) | skip
    rename_i b
    cases b with
    | false => simp [ck] at hk
    | true => rfl
  clear hid
  subst hsz
  rw [hc]
  intro a w ha hw
  exact wp_region_any hm (wpAny_of_fin _ _ _ _ (wpForkF_any (S := St C.W I R0) hs hQ _ _ a _ (Closed.start _) (h a _ ha hw.drew) (hw.drew.ent hR)))
theorem Nx.forkF_fin (hok : mixOk ops fq fin listed = true) (h0 : fin.all (fs.contains ·) = true) (hl : Nat.ble fin.length (n + 1) = true) (h : Nx C e I R (wpMix C.P ops Q AnyW fq fin)) : Nx C e I R (wpForkF C.P ops Q S fs fin fq (n + 1) listed) :=
  fun a w ha hw => .inl ⟨hok, h0, Nat.le_of_ble_eq_true hl, h a w ha hw⟩
theorem Nx.forkF_m (i : Nat) (hok : (fs.contains i && Region.free .any ops listed i && (Region.ready .any ops listed).contains i) = true) (h : Nx C e I R (wpMix C.P ops (Exit.then (wpForkF C.P ops Q S fs fin fq n (listed.setIfInBounds i true)) Q) AnyW [] [i])) : Nx C e I R (wpForkF C.P ops Q S fs fin fq (n + 1) listed) :=
  fun a w ha hw => .inr (.inl ⟨i, hok, h a w ha hw⟩)
theorem Nx.forkF_q (i : Nat) (hok : preOkF ops fs (fun _ => true) [i] listed = true) (h : Nx C e I R (wpMix C.P ops (Exit.then (wpForkF C.P ops Q S fs fin fq n (listed.setIfInBounds i true)) Q) S [] [i])) : Nx C e I R (wpForkF C.P ops Q S fs fin fq (n + 1) listed) :=
  fun a w ha hw => .inr (.inr (.inl ⟨i, hok, h a w ha hw⟩))
theorem forkF_pre {P : Program} : ∀ (qs : List Nat) (listed : Array Bool) (a : Act) (w : World), preOkF ops fs (fun _ => true) qs listed = true → wpMix P ops (Exit.then (wpForkF P ops Q S fs fin fq n (qs.foldl (fun l i => l.setIfInBounds i true) listed)) Q) S [] qs a w → wpForkF P ops Q S fs fin fq (n + qs.length) listed a w
  | [], _, _, _, _, h => h
  | q :: r, listed, a, w, hok, h => by
    obtain ⟨o, ho, h⟩ := h
    simp only [preOkF, Bool.and_eq_true] at hok
    rw [if_neg (by simp)] at h
    obtain ⟨v, hy, h⟩ := h
    have ih := forkF_pre r (listed.setIfInBounds q true) _ w hok.2 h
    refine .inr (.inr (.inl ⟨q, by simp only [preOkF, Bool.and_eq_true]; exact ⟨hok.1, trivial⟩, o, ho, ?_⟩))
    rw [if_neg (by simp)]
    exact ⟨v, hy, ih⟩
theorem Nx.forkF_qs (qs : List Nat) (n : Nat) {m : Nat} (hm : m = n + qs.length) (hok : preOkF ops fs (fun _ => true) qs listed = true) (h : Nx C e I R (wpMix C.P ops (Exit.then (wpForkF C.P ops Q S fs fin fq n (qs.foldl (fun l i => l.setIfInBounds i true) listed)) Q) S [] qs)) : Nx C e I R (wpForkF C.P ops Q S fs fin fq m listed) :=
  fun a w ha hw => hm ▸ forkF_pre qs listed a w hok (h a w ha hw)
theorem Nx.forkF1 (hr : Region.ready .any ops listed = [i]) (ho : opAt ops.toList i = some oi) (hg : oi.guard = none)
    (h : Nx C e I R (opK C.P oi (fun a w => S w ∧ wpForkF C.P ops Q S fs fin fq n (listed.setIfInBounds i true) a w) Q)) : Nx C e I R (wpForkF C.P ops Q S fs fin fq (n + 1) listed) := fun a w ha hw =>
  .inr (.inr (.inr ⟨by rw [hr]; simp, fun k hk => by
    rw [hr, List.mem_singleton] at hk
    subst hk
    exact wpOp_of ho hg h a w ha hw⟩))
theorem Nx.forkF2 (hr : Region.ready .any ops listed = [i, j]) (hoi : opAt ops.toList i = some oi) (hgi : oi.guard = none) (hoj : opAt ops.toList j = some oj) (hgj : oj.guard = none)
    (hi : Nx C e I R (opK C.P oi (fun a w => S w ∧ wpForkF C.P ops Q S fs fin fq n (listed.setIfInBounds i true) a w) Q))
    (hj : Nx C e I R (opK C.P oj (fun a w => S w ∧ wpForkF C.P ops Q S fs fin fq n (listed.setIfInBounds j true) a w) Q)) : Nx C e I R (wpForkF C.P ops Q S fs fin fq (n + 1) listed) := fun a w ha hw =>
  .inr (.inr (.inr ⟨by rw [hr]; simp, fun k hk => by
    rw [hr, List.mem_cons, List.mem_singleton] at hk
    rcases hk with rfl | rfl
    · exact wpOp_of hoi hgi hi a w ha hw
    · exact wpOp_of hoj hgj hj a w ha hw⟩))
theorem Nx.forkF3 (hr : Region.ready .any ops listed = [i, j, k]) (hoi : opAt ops.toList i = some oi) (hgi : oi.guard = none) (hoj : opAt ops.toList j = some oj) (hgj : oj.guard = none) (hok : opAt ops.toList k = some ok) (hgk : ok.guard = none)
    (hi : Nx C e I R (opK C.P oi (fun a w => S w ∧ wpForkF C.P ops Q S fs fin fq n (listed.setIfInBounds i true) a w) Q))
    (hj : Nx C e I R (opK C.P oj (fun a w => S w ∧ wpForkF C.P ops Q S fs fin fq n (listed.setIfInBounds j true) a w) Q))
    (hk : Nx C e I R (opK C.P ok (fun a w => S w ∧ wpForkF C.P ops Q S fs fin fq n (listed.setIfInBounds k true) a w) Q)) : Nx C e I R (wpForkF C.P ops Q S fs fin fq (n + 1) listed) := fun a w ha hw =>
  .inr (.inr (.inr ⟨by rw [hr]; simp, fun m hm => by
    rw [hr, List.mem_cons, List.mem_cons, List.mem_singleton] at hm
    rcases hm with rfl | rfl | rfl
    · exact wpOp_of hoi hgi hi a w ha hw
    · exact wpOp_of hoj hgj hj a w ha hw
    · exact wpOp_of hok hgk hk a w ha hw⟩))
end
end Go.Eng
namespace Go.Proofs.YtpcnapidlhpbkaaGreatDoor
open Go.Eng Go.Sol
attribute [local irreducible] opK wpList Code.wp Exit.then Exit.inBlock fnPost bodyPost Nx Calls Oper.wp Rd Rds Wr Ent Stars Blk Again Vec FnSpec wpMix QRun Stop Upto wpAt
abbrev rwR (r : Row) : Res := iR r.1 r.2.1 r.2.2
end Go.Proofs.YtpcnapidlhpbkaaGreatDoor
namespace Go.Proofs.YtpcnapidlhpbkaaGreatDoor
open Go.Eng Go.Sol
attribute [local irreducible] opK wpList Code.wp Exit.then Exit.inBlock fnPost bodyPost Nx Calls Oper.wp Rd Rds Wr Ent Stars Blk Again Vec FnSpec wpMix QRun Stop Upto wpAt
theorem unstopN {C : Cx} {e : Env} {I : PH} {R : List Res} {K : Act → World → Prop} (h : Nx C e I R K) : Nx C e I R (Stop K) := by unfold Stop; exact h
theorem started {C : Cx} {e : Env} {I : PH} {R RR : List Res} {K : Act → World → Prop} {p : Pl} {Atd Ai : Option Addr} {ctd ci n : Nat} {ins : List Row} {L : List Eqn} {td : List Nat} (hiv : p.iv = .slice Ai n ci) (hil : ins.length = n) (hins : ∀ c, c < n → (ins.getD c default).2.2 = inL L c)
    (hR : Ent R (Vec 31 1 Ai n ci (ins.map rowV) :: Stars (ins.map rwR) :: iR Atd ctd (td.map Int.ofNat) :: RR)) (h : ∀ I', PH.le I I' → InI I' p n L → Ints I' Atd ctd (td.map Int.ofNat) → Nx C e I' RR K) : Nx C e I R K := by
  refine Nx.ent hR ?_
  refine Nx.freezeAt 0 rfl fun I1 m1 hI1 hm1 h1 => ?_
  refine Nx.freezeAt 0 rfl fun I2 m2 hI2 hm2 h2 => ?_
  refine Nx.freezeAt 0 rfl fun I3 m3 hI3 hm3 h3 => ?_
  subst hil
  refine h I3 ((hI1.trans hI2).trans hI3) ⟨Ai, ci, ins, hiv, rfl, Vec.sliceOf ((hm1.trans hI2).trans hI3) h1, fun x hx => ?_, hins⟩ (Vec.sliceOf hm3 h3)
  obtain ⟨k, hk, rfl⟩ := List.mem_iff_getElem.1 hx
  obtain ⟨m', hle, hr⟩ := Stars.get k h2 (r := rwR ins[k]) (by rw [nthL_eq, List.getElem?_map, List.getElem?_eq_getElem hk]; rfl)
  exact Vec.sliceOf (t := 3) (hle.trans (hm2.trans hI3)) hr
end Go.Proofs.YtpcnapidlhpbkaaGreatDoor
namespace Go.Eng
section
variable {P : Program} {W : World} {I : PH} {R : List Res} {t : TypeId} {A : Option Addr} {n c : Nat}
theorem setsAt_eq : ∀ (vs cs : List Value) (i : Nat), i + vs.length ≤ cs.length → setsAt cs i vs = some (cs.take i ++ vs ++ cs.drop (i + vs.length))
  | [], cs, i, _ => by simp [setsAt]
  | v :: vs, cs, i, h => by
    simp only [List.length_cons] at h
    have hset : ∀ (cs : List Value) (i : Nat), i < cs.length → setAt cs i v = some (cs.set i v) := by
      intro cs
      induction cs with
      | nil => intro i hi; simp at hi
      | cons c r ih =>
        intro i hi
        cases i with
        | zero => rfl
        | succ i =>
          simp only [setAt]
          rw [ih i (by simpa using hi)]
          rfl
    unfold setsAt
    rw [hset cs i (by omega)]
    show setsAt (cs.set i v) (i + 1) vs = _
    rw [setsAt_eq vs (cs.set i v) (i + 1) (by rw [List.length_set]; omega)]
    congr 1
    rw [List.drop_set_of_lt (by omega), List.length_cons, show i + 1 + vs.length = i + (vs.length + 1) by omega]
    rw [List.take_succ_eq_append_getElem (by rw [List.length_set]; omega), List.getElem_set_self, List.take_set_of_le (Nat.le_refl _)]
    simp
theorem patch_take {α : Type} {L vs : List α} {i N : Nat} (h : i + vs.length ≤ N) (hN : N ≤ L.length) : (L.take i ++ vs ++ L.drop (i + vs.length)).take N = (L.take N).take i ++ vs ++ (L.take N).drop (i + vs.length) := by
  have hl : (L.take i ++ vs).length = i + vs.length := by rw [List.length_append, List.length_take]; omega
  rw [List.take_append, List.take_of_length_le (by omega), hl, List.take_take, Nat.min_eq_left (by omega), List.drop_take]
theorem Wr.vecNs {sz i : Nat} {xs vs : List Value} (hi : i + vs.length ≤ n * sz) (h0 : 0 < vs.length) (h1 : ∀ v ∈ vs, v.oneCell' = true) : Wr P W I (Vec t sz A n c xs :: R) ((ad A).add i) vs (Vec t sz A n c (xs.take i ++ vs ++ xs.drop (i + vs.length)) :: R) := by
  intro w hw
  obtain ⟨⟨m, ⟨m1, m2, hd, rfl, hv, h2⟩, hsat⟩, hst⟩ := id hw
  have hxl := hv.1
  rcases hv.2 with ⟨_, hn0, _⟩ | ⟨b, cur, rfl, hb, hnc, hcm, hsz, htake⟩
  · rw [hn0, Nat.zero_mul] at hi; omega
  have hb0 : w.heap[b]? = some (.cells cur t (0, 0)) := hsat.own _ _ (PH.le_or_left _ _ _ _ hb)
  have hle : n * sz ≤ c * sz := Nat.mul_le_mul_right _ hnc
  have hcl : cur.toList.length = c * sz := by rw [Array.length_toList]; exact hsz
  have hs1 := setsAt_eq vs cur.toList i (by omega)
  obtain ⟨w', hr, hb', hk', hst'⟩ := storeCells_from (P := P) vs cur.toList _ i 0 w (by simpa using hb0) hs1 h1
  refine ⟨w', ?_, ?_⟩
  · rw [ad_some, Addr.add_lit, Nat.zero_add]
    exact hr
  · refine hw.upd (o := .cells (cur.toList.take i ++ vs ++ cur.toList.drop (i + vs.length)).toArray t (0, 0)) (b := b) (fun mm hm => ?_) hb' (fun j hne o' ho => (hk' j hne).trans ho) hst'
    rcases hm.2 with ⟨he, _, _⟩ | ⟨b', cur', he, hb1, _, _, _, _⟩
    · cases he
    cases he
    refine ⟨by rw [hb1]; rfl, ?_, .inr ⟨b, (cur.toList.take i ++ vs ++ cur.toList.drop (i + vs.length)).toArray, rfl, by simp, hnc, hcm, ?_, ?_⟩⟩
    · simp only [List.length_append, List.length_take, List.length_drop]; omega
    · simp only [List.size_toArray, List.length_append, List.length_take, List.length_drop]; omega
    · rw [List.toList_toArray, ← htake]
      exact patch_take hi (by omega)
end
section
variable {C : Cx} {e : Env} {I : PH} {R : List Res} {K : Act → World → Prop} {Q : Exit → Act → World → Prop} {n c : Nat} {t ty el : TypeId} {pos : String} {after : Array Edge} {g : Option (Nat × Bool)} {x y : Operand} {A : Option Addr}
theorem toList_made (z : Array Value) : ∀ m : Nat, (madeCells z (m * z.size)).toList = (List.replicate m z.toList).flatten
  | 0 => by rw [Nat.zero_mul]; simp [madeCells]
  | m + 1 => by
    have ih := toList_made z m
    unfold madeCells at ih ⊢
    rw [Array.toList_map, Array.toList_range] at ih ⊢
    rw [Nat.succ_mul, List.range_add, List.map_append, ih, List.replicate_succ', List.flatten_append, List.map_map]
    congr 1
    rw [List.flatten_cons, List.flatten_nil, List.append_nil]
    refine List.ext_getElem (by simp) fun i h1 h2 => ?_
    have hi : i < z.size := by simpa using h1
    rw [List.getElem_map, List.getElem_range]
    show z[(m * z.size + i) % z.size]! = _
    rw [Nat.mul_comm, Nat.mul_add_mod, Nat.mod_eq_of_lt hi, getElem!_pos z i hi]
    rfl
theorem Nx.makeStructs {d : Tmp} {α : Type} (f : α → List Value) (x0 : α) {kl kc : IntKind} {by_ m sz : Nat} {z0 : Value} {i : TypeInfo} (hx : evo e x = some (.int kl (m : Int))) (hy : evo e y = some (.int kc (m : Int))) (ht : C.P.underlying t = some (.slice el))
    (hi : C.P.info? el = some i) (hz : i.zero = some z0) (hs : i.size = sz) (hb : i.bytes = by_) (hz1 : z0.cells.toList = f x0) (hl : (f x0).length = sz) (hlt : Nat.blt d C.n = true) (hbytes : by_ * m ≤ 281474976710656) (h63 : m ≤ maxLen)
    (h : ∀ b, Nx C ((d, .slice (some ⟨b, 0, none⟩) m m) :: e) I (Vec el sz (some ⟨b, 0, none⟩) m m ((List.replicate m x0).flatMap f) :: R) K) : Nx C e I R (opK C.P ⟨some d, .makeSlice t x y, ty, pos, after, g⟩ K Q) := by
  refine Nx.op_new (v := fun b => .slice (some ⟨b, 0, none⟩) m m) (ob := .cells (madeCells z0.cells (m * sz)) el) rfl hlt (fun a w ha hw => ?_) (fun b => ?_)
  · simp only [execOp, ha.eval hx, ha.eval hy]
    refine run_v ?_
    have hbb : (i.bytes : Int) * (m : Int) ≤ 281474976710656 := by
      have h : ((i.bytes * m : Nat) : Int) ≤ 281474976710656 := by rw [hb]; omega
      rwa [Int.natCast_mul] at h
    unfold maxLen at h63
    have hr := run_make (P := C.P) w t el i z0 ht hi hz kl kc m m (by omega) (by omega) hbb (by omega)
    simp only [Int.toNat_natCast, hs] at hr
    exact hr
  · have hsz : z0.cells.size = sz := by rw [← hl, ← hz1, Array.length_toList]
    have hfl : ((List.replicate m x0).flatMap f).length = m * sz := by
      clear h hbytes h63 hx hy
      induction m with
      | zero => simp
      | succ m ih => rw [List.replicate_succ, List.flatMap_cons, List.length_append, ih, hl, Nat.succ_mul]; omega
    have hrep : (List.replicate m z0.cells.toList).flatten = (List.replicate m x0).flatMap f := by
      rw [hz1, List.flatMap_def, List.map_replicate]
    refine (h b).ent (Ent.head fun mm hm => ⟨hfl, .inr ⟨b, _, rfl, hm, Nat.le_refl _, h63, by rw [size_madeCells], ?_⟩⟩)
    have := toList_made z0.cells m
    rw [hsz] at this
    rw [this, hrep, ← hfl, List.take_length]
end
end Go.Eng
namespace Go.Eng
variable {C : Cx} {e : Env} {S : World → Prop} {ty t el : TypeId} {pos : String} {after : Array Edge} {g : Option (Nat × Bool)} {x y : Operand} {A : Option Addr} {n c : Nat} {dst : Option Tmp}
theorem QRun.slice_hi {k : IntKind} {h sz : Nat} (hx : evo e x = some (.slice A n c)) (hy : evo e y = some (.int k (h : Int))) (ht : C.P.underlying t = some (.slice el)) (hsz : cellsIn C.P el = some sz) (h2 : h ≤ c) :
    QRun C e S ⟨dst, .slice t x none (some y) none, ty, pos, after, g⟩ (.slice A h c) := fun a w ha _ => by
  simp only [execOp, ha.eval hx, ha.eval hy, Option.map_some, Option.map_none]
  refine run_v ?_
  have := run_slice_of (A := A) (n := n) (c := c) (lo := none) (hi := some (.int k (h : Int))) (l := 0) (h := h) ht hsz w (by simp [Instr.sliceBounds, run_sliceBound, h2])
  rw [offA_zero] at this
  exact this
theorem QRun.slice_lo {k : IntKind} {l sz : Nat} (hx : evo e x = some (.slice A n c)) (hy : evo e y = some (.int k (l : Int))) (ht : C.P.underlying t = some (.slice el)) (hsz : cellsIn C.P el = some sz) (h2 : l ≤ n) :
    QRun C e S ⟨dst, .slice t x (some y) none none, ty, pos, after, g⟩ (.slice (offA A c l sz) (n - l) (c - l)) := fun a w ha _ => by
  simp only [execOp, ha.eval hx, ha.eval hy, Option.map_some, Option.map_none]
  refine run_v ?_
  exact run_slice_of (A := A) (n := n) (c := c) (lo := some (.int k (l : Int))) (hi := none) (l := l) (h := n) ht hsz w (by simp [Instr.sliceBounds, run_sliceBound, h2])
end Go.Eng
namespace Go.Eng
section
variable {C : Cx} {e : Env} {I : PH} {R R' : List Res} {K : Act → World → Prop} {Q : Exit → Act → World → Prop} {n c : Nat} {t ty el : TypeId} {pos : String} {after : Array Edge} {g : Option (Nat × Bool)} {x y : Operand} {A : Option Addr} {d : Tmp}
theorem Nx.copy_ {tys : Array TypeId} {dT sT : TypeId} {a b : Addr} {m c2 sz k : Nat} {cs : List Value} (hx : evo e x = some (.slice (some a) n c)) (hy : evo e y = some (.slice (some b) m c2)) (hty : tys = #[dT, sT]) (ht : C.P.underlying dT = some (.slice el)) (hsz : cellsIn C.P el = some sz) (hlt : Nat.blt d C.n = true)
    (hk : k = Nat.min m n) (hcl : cs.length = k * sz) (hr : Rds C.W I R b cs) (hw : Wr C.P C.W I R a cs R') (h : Nx C ((d, .int .i64 (k : Int)) :: e) I R' K) : Nx C e I R (opK C.P ⟨some d, .call { callee := .builtin .copy, args := #[x, y], argTypes := tys }, ty, pos, after, g⟩ K Q) := by
  subst hty
  intro w0 w ha hst
  obtain ⟨w', hst1, hst'⟩ := hw w hst
  have hl := run_loadCells_list (P := C.P) w b cs (fun j v hj => hr j v hj w hst)
  have hrc : (Builtin.copy_ #[dT, sT] ty #[.slice (some a) n c, .slice (some b) m c2]).run C.P w = .ok (.int .i64 (k : Int)) w' := by
    subst hk
    simp [Builtin.copy_, run_underlying ht, Builtin.lenOf, Builtin.firstCells, cellsIn_run hsz, ← hcl, hl, hst1, goInt]
  unfold opK Oper.wp
  have hrun : (execOp w0.eval ⟨some d, .call { callee := .builtin .copy, args := #[x, y], argTypes := #[dT, sT] }, ty, pos, after, g⟩).run C.P w = .ok (.value (.int .i64 (k : Int))) w' := by
    obtain ⟨cs, hcs⟩ := run_builtin (P := C.P) (w := w) (ρ := w0.eval) (b := .copy) (args := #[x, y]) (dst := some d) (ty := ty) (pos := pos) (after := after) (g := g) (tys := #[dT, sT]) (show [x, y].map w0.eval = [Value.slice (some a) n c, Value.slice (some b) m c2] from by simp only [List.map_cons, List.map_nil, ha.eval hx, ha.eval hy])
    rw [hcs]
    exact run_v hrc
  rw [hrun]
  exact h _ w' (ha.put hlt _) hst'
theorem QRun.slice_from {S : World → Prop} {dst : Option Tmp} {a : Addr} {k : IntKind} {l sz : Nat} (hx : evo e x = some (.slice (some a) n c)) (hy : evo e y = some (.int k (l : Int))) (ht : C.P.underlying t = some (.slice el)) (hsz : cellsIn C.P el = some sz) (h2 : l < n) (h3 : n ≤ c) :
    QRun C e S ⟨dst, .slice t x (some y) none none, ty, pos, after, g⟩ (.slice (some (a.add (l * sz))) (n - l) (c - l)) := by
  have h := QRun.slice_lo (S := S) (dst := dst) (ty := ty) (pos := pos) (after := after) (g := g) hx hy ht hsz (Nat.le_of_lt h2)
  rw [show offA (some a) c l sz = some (a.add (l * sz)) by unfold offA; rw [if_neg (by omega)]; rfl] at h
  exact h
theorem Rds.vec_take {W : World} {sz q : Nat} {xs : List Value} : Rds W I (Vec t sz A n c xs :: R) (ad A) (xs.take q) := fun j u hj => by
  refine Rd.vec ?_
  rw [List.getElem?_take] at hj
  split at hj
  · exact hj
  · cases hj
theorem Wr.vecNs0 {P : Program} {W : World} {sz b : Nat} {xs vs : List Value} (hi : vs.length ≤ n * sz) (h0 : 0 < vs.length) (h1 : ∀ v ∈ vs, v.oneCell' = true) : Wr P W I (Vec t sz (some ⟨b, 0, none⟩) n c xs :: R) ⟨b, 0, none⟩ vs (Vec t sz (some ⟨b, 0, none⟩) n c (xs.take 0 ++ vs ++ xs.drop (0 + vs.length)) :: R) := by
  have h := Wr.vecNs (P := P) (W := W) (I := I) (R := R) (t := t) (A := some ⟨b, 0, none⟩) (n := n) (c := c) (sz := sz) (i := 0) (xs := xs) (vs := vs) (by omega) h0 h1
  rw [ad_some, Addr.add_lit] at h
  exact h
structure Filled (cx : List Value) (sz n m : Nat) (xs : List Value) : Prop where
  len : xs.length = n * sz
  fill : xs.take (m * sz) = (List.replicate m cx).flatten
  one : ∀ v ∈ xs, v.oneCell' = true
theorem flat_rep_len {cx : List Value} {sz : Nat} (hcx : cx.length = sz) (m : Nat) : (List.replicate m cx).flatten.length = m * sz := by
  induction m with
  | zero => simp
  | succ m ih => rw [List.replicate_succ, List.flatten_cons, List.length_append, ih, hcx, Nat.succ_mul]; omega
theorem Filled.step {cx : List Value} {sz n m k : Nat} {xs : List Value} (hcx : cx.length = sz) (h : Filled cx sz n m xs) (hk : k ≤ m) (hkn : m + k ≤ n) : Filled cx sz n (m + k) (xs.take (m * sz) ++ xs.take (k * sz) ++ xs.drop (m * sz + (xs.take (k * sz)).length)) := by
  have hl := h.len
  have h1 : k * sz ≤ m * sz := Nat.mul_le_mul_right _ hk
  have h2 : (m + k) * sz ≤ n * sz := Nat.mul_le_mul_right _ hkn
  rw [Nat.add_mul] at h2
  have hkl : (xs.take (k * sz)).length = k * sz := by rw [List.length_take]; omega
  have hml : (xs.take (m * sz)).length = m * sz := by rw [List.length_take]; omega
  have hkf : xs.take (k * sz) = (List.replicate k cx).flatten := by
    have : xs.take (k * sz) = (xs.take (m * sz)).take (k * sz) := by rw [List.take_take, Nat.min_eq_left h1]
    rw [this, h.fill]
    obtain ⟨j, rfl⟩ : ∃ j, m = k + j := ⟨m - k, by omega⟩
    rw [← List.replicate_append_replicate, List.flatten_append]
    exact List.take_left' (flat_rep_len hcx k)
  refine ⟨?_, ?_, fun v hv => ?_⟩
  · rw [List.length_append, List.length_append, hml, hkl, List.length_drop]; omega
  · rw [List.take_left' (by rw [List.length_append, hml, hkl, Nat.add_mul]), h.fill, hkf, ← List.flatten_append, List.replicate_append_replicate]
  · rcases List.mem_append.1 hv with hv | hv
    · rcases List.mem_append.1 hv with hv | hv
      · exact h.one v (List.mem_of_mem_take hv)
      · exact h.one v (List.mem_of_mem_take hv)
    · exact h.one v (List.mem_of_mem_drop hv)
theorem Filled.start {cx : List Value} {sz n : Nat} {xs : List Value} (hcx : cx.length = sz) (h1 : ∀ v ∈ cx, v.oneCell' = true) (hl : xs.length = n * sz) (hx : ∀ v ∈ xs, v.oneCell' = true) (hn : 1 ≤ n) : Filled cx sz n 1 (xs.take 0 ++ cx ++ xs.drop (0 + cx.length)) := by
  have h2 : 1 * sz ≤ n * sz := Nat.mul_le_mul_right _ hn
  refine ⟨?_, ?_, fun v hv => ?_⟩
  · rw [List.take_zero, List.nil_append, List.length_append, List.length_drop]; omega
  · rw [List.take_zero, List.nil_append, List.take_left' (by omega)]; simp
  · rw [List.take_zero, List.nil_append] at hv
    rcases List.mem_append.1 hv with hv | hv
    · exact h1 v hv
    · exact hx v (List.mem_of_mem_drop hv)
theorem Filled.done {cx : List Value} {sz n : Nat} {xs : List Value} (h : Filled cx sz n n xs) : xs = (List.replicate n cx).flatten := by
  rw [← h.fill, ← h.len, List.take_length]
end
end Go.Eng
namespace Go.Proofs.YtpcnapidlhpbkaaGreatDoor
def ml64_ren : Go.Shelf.Ren := ⟨fun | 264 => 119 | n => n, fun | 53 => 102 | 46 => 161 | n => n, fun | n => n⟩
theorem ml64 : Go.Proofs.Lays.n264 Tryz.prog ml64_ren where
  mixed := by kernel_rfl
  f264 := Tryz.func119.trans (congrArg some (by kernel_rfl))
  t46 := Tryz.underlying161
  a46 := Tryz.isAgg161
  z46 := Tryz.sizeOf161
  v46 := Tryz.zeroValue161
  t53 := Tryz.underlying102
  a53 := Tryz.isAgg102
  z53 := Tryz.sizeOf102
  v53 := Tryz.zeroValue102
end Go.Proofs.YtpcnapidlhpbkaaGreatDoor
namespace Go.Proofs.YtpcnapidlhpbkaaGreatDoor
open Go.Eng Go.Sol
attribute [local irreducible] opK wpList Code.wp Exit.then Exit.inBlock fnPost bodyPost Nx Calls Oper.wp Rd Rds Wr Ent Stars Blk Again Vec FnSpec wpMix QRun Stop Upto wpAt
theorem mulU64_spec (x y : Nat) (hx : x < 18446744073709551616) (hy : y < 18446744073709551616) (I : PH) :
    FnSpec Tryz.prog 119 [.int .u64 x, .int .u64 y] I [] (fun v R' => v = .tuple #[.int .u64 ((x * y / 18446744073709551616 : Nat) : Int), .int .u64 ((x * y % 18446744073709551616 : Nat) : Int)] ∧ R' = []) :=
  FnSpec.of_same fun w _ _ _ => Any.bits_Mul64 ml64 x y hx hy w
set_option maxRecDepth 10000 in
theorem mulU_spec (y : Nat) (hy : y < 18446744073709551616) (I : PH) :
    FnSpec Tryz.prog 129 [.int .u64 1, .int .u64 y] I [] (fun v R' => v = .tuple #[.int .u64 0, .int .u64 (y : Int)] ∧ R' = []) := by
  have hM := mulU64_spec 1 y (by omega) hy I
  rw [Nat.one_mul, Nat.div_eq_of_lt hy, Nat.mod_eq_of_lt hy] at hM
  refine FnSpec.enterP Tryz.func129 rfl Tryz.ntmps129 rfl fun w F => ?_
  repeat' first
    | ((with_reducible refine Nx.is_wp ?_); first | refine Nx.wo ?_ | refine Nx.zp (fun hc => ?_) (fun hc => ?_))
    | (refine Nx.zo ?_; first | refine Nx.opr rfl rfl ?_ | (refine Nx.call (Rpre := []) rfl rfl rfl (by kernel_rfl) rfl hM (Ent.refl _) ?_; rintro _ _ ⟨rfl, rfl⟩) | refine Nx.so ?_ | refine Nx.sb (fun bx => ?_) | refine Nx.sa (fun A2 c2 => ?_))
    | refine Nx.za ?_ | refine Nx.zr (fun hc => ?_) (fun hc => ?_)
    | refine Nx.zq ?_ | refine Nx.zu (fun hc => ?_) (fun hc => ?_)
    | refine Nx.zx ?_ | fail
  exact Nx.ret_fn rfl [] ⟨rfl, rfl⟩ (by (exact Ent.auto))
end Go.Proofs.YtpcnapidlhpbkaaGreatDoor
namespace Go.Proofs.YtpcnapidlhpbkaaGreatDoor
open Go.Eng Go.Sol
attribute [local irreducible] opK wpList Code.wp Exit.then Exit.inBlock fnPost bodyPost Nx Calls Oper.wp Rd Rds Wr Ent Stars Blk Again Vec FnSpec wpMix QRun Stop Upto wpAt
def ascB (n : Int) : Int → List Int → Bool
  | _, [] => true
  | b, x :: r => decide (b < x ∧ x < n) && ascB n x r
def rightB (n : Int) (q : EqR) : Bool := decide (q.1.2.2 ≠ []) && decide (0 ≤ q.2 ∧ q.2 ≤ 1000000) && ascB n (-1) q.1.2.2
def validB (n : Int) (l : List EqR) : Bool := decide (1 ≤ n ∧ n ≤ 48) && decide (l.length ≤ 1152) && l.all (rightB n)
set_option maxRecDepth 10000 in
theorem value_spec (z : Int) (I : PH) : FnSpec Tryz.prog 72 [.int .i64 z] I [] (fun v R' => v = .bool (decide (0 ≤ z ∧ z ≤ 1000000)) ∧ R' = []) := by
  refine FnSpec.enterP Tryz.func72 rfl Tryz.ntmps72 rfl fun w F => ?_
  by_cases h : 0 ≤ z
  · by_cases h2 : z ≤ 1000000
    · rw [decide_eq_true (show 0 ≤ z ∧ z ≤ 1000000 from ⟨h, h2⟩)]
      repeat' first
        | ((with_reducible refine Nx.is_wp ?_); first | refine Nx.wo ?_ | refine Nx.zp (fun hc => ?_) (fun hc => ?_))
        | (refine Nx.zo ?_; first | refine Nx.opr rfl rfl ?_ | refine Nx.so ?_ | refine Nx.sb (fun bx => ?_) | refine Nx.sa (fun A2 c2 => ?_))
        | refine Nx.za ?_ | refine Nx.zr (fun hc => ?_) (fun hc => ?_)
        | refine Nx.zq ?_ | refine Nx.zu (fun hc => ?_) (fun hc => ?_)
        | refine Nx.zx ?_ | fail
      exact Nx.ret_fn rfl [] ⟨congrArg Value.bool (decide_eq_true h2), rfl⟩ (by (exact Ent.auto))
    · rw [decide_eq_false (show ¬(0 ≤ z ∧ z ≤ 1000000) by omega)]
      repeat' first
        | ((with_reducible refine Nx.is_wp ?_); first | refine Nx.wo ?_ | refine Nx.zp (fun hc => ?_) (fun hc => ?_))
        | (refine Nx.zo ?_; first | refine Nx.opr rfl rfl ?_ | refine Nx.so ?_ | refine Nx.sb (fun bx => ?_) | refine Nx.sa (fun A2 c2 => ?_))
        | refine Nx.za ?_ | refine Nx.zr (fun hc => ?_) (fun hc => ?_)
        | refine Nx.zq ?_ | refine Nx.zu (fun hc => ?_) (fun hc => ?_)
        | refine Nx.zx ?_ | fail
      exact Nx.ret_fn rfl [] ⟨congrArg Value.bool (decide_eq_false h2), rfl⟩ (by (exact Ent.auto))
  · rw [decide_eq_false (show ¬(0 ≤ z ∧ z ≤ 1000000) by omega)]
    repeat' first
      | ((with_reducible refine Nx.is_wp ?_); first | refine Nx.wo ?_ | refine Nx.zp (fun hc => ?_) (fun hc => ?_))
      | (refine Nx.zo ?_; first | refine Nx.opr rfl rfl ?_ | refine Nx.so ?_ | refine Nx.sb (fun bx => ?_) | refine Nx.sa (fun A2 c2 => ?_))
      | refine Nx.za ?_ | refine Nx.zr (fun hc => ?_) (fun hc => ?_)
      | refine Nx.zq ?_ | refine Nx.zu (fun hc => ?_) (fun hc => ?_)
      | refine Nx.zx ?_ | fail
    exact Nx.ret_fn rfl [] ⟨rfl, rfl⟩ (by (exact Ent.auto))
def lastOr (b : Int) (xs : List Int) (k : Nat) : Int := if k = 0 then b else xs.getD (k - 1) default
theorem ascB_at {n b : Int} : ∀ {xs : List Int} {k : Nat}, k < xs.length → ascB n (lastOr b xs k) (xs.drop k) = (decide (lastOr b xs k < xs.getD k default ∧ xs.getD k default < n) && ascB n (lastOr b xs (k + 1)) (xs.drop (k + 1))) := by
  intro xs k hk
  rw [List.drop_eq_getElem_cons hk, ascB]
  have e : xs.getD k default = xs[k] := by rw [List.getD_eq_getElem?_getD, List.getElem?_eq_getElem hk]; rfl
  rw [show lastOr b xs (k + 1) = xs[k] by unfold lastOr; rw [if_neg (by omega), Nat.add_sub_cancel, e], e]
set_option maxRecDepth 10000 in
theorem right_spec (n : Int) (q : EqR) (I : PH) (hq : Ints I q.1.1 q.1.2.1 q.1.2.2) :
    FnSpec Tryz.prog 99 [.int .i64 n, .agg #[.slice q.1.1 q.1.2.2.length q.1.2.1, .int .i64 q.2]] I [] (fun v R' => v = .bool (rightB n q) ∧ R' = []) := by
  obtain ⟨⟨A, c, xs⟩, z⟩ := q
  dsimp only at hq ⊢
  have hV := value_spec z I
  have hxl := hq.len
  unfold rightB
  dsimp only
  refine FnSpec.enterP Tryz.func99 rfl Tryz.ntmps99 rfl fun w F => ?_
  by_cases h0 : xs = []
  · subst h0
    repeat' first
      | ((with_reducible refine Nx.is_wp ?_); first | refine Nx.wo ?_ | refine Nx.zp (fun hc => ?_) (fun hc => ?_))
      | (refine Nx.zo ?_; first | refine Nx.opr rfl rfl ?_ | refine Nx.so ?_ | refine Nx.sb (fun bx => ?_) | refine Nx.sa (fun A2 c2 => ?_))
      | refine Nx.za ?_ | refine Nx.zr (fun hc => ?_) (fun hc => ?_)
      | refine Nx.zq ?_ | refine Nx.zu (fun hc => ?_) (fun hc => ?_)
      | refine Nx.zx ?_ | fail
    exact Nx.ret_fn rfl [] ⟨rfl, rfl⟩ (by (exact Ent.auto))
  have hpos : 0 < xs.length := List.length_pos_iff.2 h0
  rw [decide_eq_true h0, Bool.true_and]
  by_cases hv : 0 ≤ z ∧ z ≤ 1000000
  case neg =>
    rw [decide_eq_false hv] at hV ⊢
    repeat' first
      | ((with_reducible refine Nx.is_wp ?_); first | refine Nx.wo ?_ | refine Nx.zp (fun hc => ?_) (fun hc => ?_))
      | (refine Nx.zo ?_; first | refine Nx.opr rfl rfl ?_ | refine Nx.callv rfl rfl rfl (by kernel_rfl) rfl hV ?_ | refine Nx.so ?_ | refine Nx.sb (fun bx => ?_) | refine Nx.sa (fun A2 c2 => ?_))
      | refine Nx.za ?_ | refine Nx.zr (fun hc => ?_) (fun hc => ?_)
      | refine Nx.zq ?_ | refine Nx.zu (fun hc => ?_) (fun hc => ?_)
      | refine Nx.zx ?_ | fail
    exact Nx.ret_fn rfl [] ⟨rfl, rfl⟩ (by (exact Ent.auto))
  rw [decide_eq_true hv] at hV ⊢
  rw [Bool.true_and]
  repeat' first
    | ((with_reducible refine Nx.is_wp ?_); first | refine Nx.wo ?_ | refine Nx.zp (fun hc => ?_) (fun hc => ?_))
    | (refine Nx.zo ?_; first | refine Nx.opr rfl rfl ?_ | refine Nx.callv rfl rfl rfl (by kernel_rfl) rfl hV ?_ | refine Nx.so ?_ | refine Nx.sb (fun bx => ?_) | refine Nx.sa (fun A2 c2 => ?_))
    | refine Nx.za ?_ | refine Nx.zr (fun hc => ?_) (fun hc => ?_)
    | refine Nx.zq ?_ | refine Nx.zu (fun hc => ?_) (fun hc => ?_)
    | refine Nx.zx ?_ | fail
  refine Nx.p_loop (σ := Nat) (fun k => [(0, .int .i64 n), (5, .int .i64 (lastOr (-1) xs k)), (19, .slice A xs.length c), (20, .int .i64 xs.length), (21, .int .i64 (k : Int))])
    (fun _ => [F]) (fun k => k ≤ xs.length ∧ ascB n (-1) xs = ascB n (lastOr (-1) xs k) (xs.drop k)) (fun k => xs.length - k) 0 rfl ⟨Nat.zero_le _, rfl⟩ ⟨rfl, rfl, rfl, rfl, rfl, trivial⟩ (by (exact Ent.auto)) ?_
  rintro k ⟨hk, he⟩
  by_cases hlt : k < xs.length
  · rw [ascB_at hlt] at he
    by_cases h1 : lastOr (-1) xs k < xs.getD k default
    · by_cases h2 : xs.getD k default < n
      · rw [decide_eq_true ⟨h1, h2⟩, Bool.true_and] at he
        repeat' first
          | ((with_reducible refine Nx.is_wp ?_); first | refine Nx.wo ?_ | refine Nx.zp (fun hc => ?_) (fun hc => ?_))
          | (refine Nx.zo ?_; first | refine Nx.opr rfl rfl ?_ | refine Nx.indexAddr_nat rfl rfl rfl rfl rfl (by omega) (hq.isSome (by omega)) ?_ | refine Nx.load rfl rfl rfl (hq.rd (by omega)) ?_ | refine Nx.so ?_ | refine Nx.sb (fun bx => ?_) | refine Nx.sa (fun A2 c2 => ?_))
          | refine Nx.za ?_ | refine Nx.zr (fun hc => ?_) (fun hc => ?_)
          | refine Nx.zq ?_ | refine Nx.zu (fun hc => ?_) (fun hc => ?_)
          | refine Nx.zx ?_ | fail
        exact Nx.again (k + 1) ⟨hlt, he⟩ (by omega) ⟨rfl, by unfold lastOr; rw [if_neg (Nat.succ_ne_zero k), Nat.add_sub_cancel]; rfl, rfl, rfl, rfl, trivial⟩ (by (exact Ent.auto))
      · rw [decide_eq_false (by rintro ⟨_, h⟩; exact h2 h), Bool.false_and] at he
        rw [he]
        repeat' first
          | ((with_reducible refine Nx.is_wp ?_); first | refine Nx.wo ?_ | refine Nx.zp (fun hc => ?_) (fun hc => ?_))
          | (refine Nx.zo ?_; first | refine Nx.opr rfl rfl ?_ | refine Nx.indexAddr_nat rfl rfl rfl rfl rfl (by omega) (hq.isSome (by omega)) ?_ | refine Nx.load rfl rfl rfl (hq.rd (by omega)) ?_ | refine Nx.so ?_ | refine Nx.sb (fun bx => ?_) | refine Nx.sa (fun A2 c2 => ?_))
          | refine Nx.za ?_ | refine Nx.zr (fun hc => ?_) (fun hc => ?_)
          | refine Nx.zq ?_ | refine Nx.zu (fun hc => ?_) (fun hc => ?_)
          | refine Nx.zx ?_ | fail
        exact Nx.ret_fn rfl [] ⟨rfl, rfl⟩ (by (exact Ent.auto))
    · rw [decide_eq_false (by rintro ⟨h, _⟩; exact h1 h), Bool.false_and] at he
      rw [he]
      repeat' first
        | ((with_reducible refine Nx.is_wp ?_); first | refine Nx.wo ?_ | refine Nx.zp (fun hc => ?_) (fun hc => ?_))
        | (refine Nx.zo ?_; first | refine Nx.opr rfl rfl ?_ | refine Nx.indexAddr_nat rfl rfl rfl rfl rfl (by omega) (hq.isSome (by omega)) ?_ | refine Nx.load rfl rfl rfl (hq.rd (by omega)) ?_ | refine Nx.so ?_ | refine Nx.sb (fun bx => ?_) | refine Nx.sa (fun A2 c2 => ?_))
        | refine Nx.za ?_ | refine Nx.zr (fun hc => ?_) (fun hc => ?_)
        | refine Nx.zq ?_ | refine Nx.zu (fun hc => ?_) (fun hc => ?_)
        | refine Nx.zx ?_ | fail
      exact Nx.ret_fn rfl [] ⟨rfl, rfl⟩ (by (exact Ent.auto))
  · obtain rfl : k = xs.length := by omega
    rw [List.drop_length] at he
    rw [he]
    repeat' first
      | ((with_reducible refine Nx.is_wp ?_); first | refine Nx.wo ?_ | refine Nx.zp (fun hc => ?_) (fun hc => ?_))
      | (refine Nx.zo ?_; first | refine Nx.opr rfl rfl ?_ | refine Nx.so ?_ | refine Nx.sb (fun bx => ?_) | refine Nx.sa (fun A2 c2 => ?_))
      | refine Nx.za ?_ | refine Nx.zr (fun hc => ?_) (fun hc => ?_)
      | refine Nx.zq ?_ | refine Nx.zu (fun hc => ?_) (fun hc => ?_)
      | refine Nx.zx ?_ | fail
    exact Nx.ret_fn rfl [] ⟨rfl, rfl⟩ (by (exact Ent.auto))
set_option maxRecDepth 10000 in
theorem wrong_spec (n : Int) (b : Nat) (q : EqR) (I : PH) (hq : Ints I q.1.1 q.1.2.1 q.1.2.2) (hb : ∀ (W : World) (R : List Res), Rd W I R ⟨b, 0, none⟩ (.int .i64 n)) :
    FnSpec Tryz.prog 98 [.agg #[.slice q.1.1 q.1.2.2.length q.1.2.1, .int .i64 q.2], .pointer (some ⟨b, 0, none⟩)] I [] (fun v R' => v = .bool (!rightB n q) ∧ R' = []) := by
  have hR := right_spec n q I hq
  refine FnSpec.enterP Tryz.func98 rfl Tryz.ntmps98 rfl fun w F => ?_
  repeat' first
    | ((with_reducible refine Nx.is_wp ?_); first | refine Nx.wo ?_ | refine Nx.zp (fun hc => ?_) (fun hc => ?_))
    | (refine Nx.zo ?_; first | refine Nx.opr rfl rfl ?_ | refine Nx.load rfl rfl rfl (hb _ _) ?_ | refine Nx.callv rfl rfl rfl (by kernel_rfl) rfl hR ?_ | refine Nx.so ?_ | refine Nx.sb (fun bx => ?_) | refine Nx.sa (fun A2 c2 => ?_))
    | refine Nx.za ?_ | refine Nx.zr (fun hc => ?_) (fun hc => ?_)
    | refine Nx.zq ?_ | refine Nx.zu (fun hc => ?_) (fun hc => ?_)
    | refine Nx.zx ?_ | fail
  exact Nx.ret_fn rfl [] ⟨rfl, rfl⟩ (by (exact Ent.auto))
set_option maxRecDepth 10000 in
theorem IndexFuncE_spec (n : Int) (b : Nat) (A : Option Addr) (c : Nat) (l : List EqR) (I : PH) (hl : Eqs I A c l) (hb : ∀ (W : World) (R : List Res), Rd W I R ⟨b, 0, none⟩ (.int .i64 n)) :
    FnSpec Tryz.prog 162 [.slice A l.length c, .func (.func 98) #[] #[.pointer (some ⟨b, 0, none⟩)]] I [] (fun v R' => ∃ i : Int, v = .int .i64 i ∧ decide (0 ≤ i) = !(l.all (rightB n)) ∧ R' = []) := by
  have hlen := hl.len
  refine FnSpec.enterP Tryz.func162 rfl Tryz.ntmps162 rfl fun w F => ?_
  repeat' first
    | ((with_reducible refine Nx.is_wp ?_); first | refine Nx.wo ?_ | refine Nx.zp (fun hc => ?_) (fun hc => ?_))
    | (refine Nx.zo ?_; first | refine Nx.opr rfl rfl ?_ | refine Nx.so ?_ | refine Nx.sb (fun bx => ?_) | refine Nx.sa (fun A2 c2 => ?_))
    | refine Nx.za ?_ | refine Nx.zr (fun hc => ?_) (fun hc => ?_)
    | refine Nx.zq ?_ | refine Nx.zu (fun hc => ?_) (fun hc => ?_)
    | refine Nx.zx ?_ | fail
  refine Nx.p_loop (σ := Nat) (fun k => [(0, .slice A l.length c), (1, .func (.func 98) #[] #[.pointer (some ⟨b, 0, none⟩)]), (7, .int .i64 l.length), (8, .int .i64 (k : Int))])
    (fun _ => [F]) (fun k => k ≤ l.length ∧ (l.take k).all (rightB n) = true) (fun k => l.length - k) 0 rfl ⟨Nat.zero_le _, by simp⟩ ⟨rfl, rfl, rfl, rfl, trivial⟩ (Ent.refl _) ?_
  rintro k ⟨hk, hall⟩
  by_cases hlt : k < l.length
  · have hin := hl.inner _ (getD_memQ hlt)
    have hmem := getD_memQ hlt
    have hsn := take_snocQ hlt
    have hrds : ∀ (W : World) (R : List Res), Rds W I R ((ad A).add (k * 2)) (eqC (l.getD k default)) := fun W R => hl.outer.rds hlt
    generalize l.getD k default = q at hin hmem hsn hrds
    have hW := wrong_spec n b q I hin hb
    cases hr : rightB n q with
    | true =>
      rw [hr] at hW
      repeat' first
        | ((with_reducible refine Nx.is_wp ?_); first | refine Nx.wo ?_ | refine Nx.zp (fun hc => ?_) (fun hc => ?_))
        | (refine Nx.zo ?_; first | refine Nx.opr rfl rfl ?_ | refine Nx.indexAddr_nat rfl rfl rfl rfl rfl (by omega) (hl.outer.isSome (by omega) (by omega)) ?_ | refine Nx.loads rfl rfl rfl rfl (hrds _ _) rfl ?_ | refine Nx.callv rfl rfl rfl (by kernel_rfl) rfl hW ?_ | refine Nx.so ?_ | refine Nx.sb (fun bx => ?_) | refine Nx.sa (fun A2 c2 => ?_))
        | refine Nx.za ?_ | refine Nx.zr (fun hc => ?_) (fun hc => ?_)
        | refine Nx.zq ?_ | refine Nx.zu (fun hc => ?_) (fun hc => ?_)
        | refine Nx.zx ?_ | fail
      exact Nx.again (k + 1) ⟨hlt, by rw [hsn, List.all_append, hall]; simp [hr]⟩ (by omega) ⟨rfl, rfl, rfl, rfl, trivial⟩ (Ent.refl _)
    | false =>
      rw [hr] at hW
      repeat' first
        | ((with_reducible refine Nx.is_wp ?_); first | refine Nx.wo ?_ | refine Nx.zp (fun hc => ?_) (fun hc => ?_))
        | (refine Nx.zo ?_; first | refine Nx.opr rfl rfl ?_ | refine Nx.indexAddr_nat rfl rfl rfl rfl rfl (by omega) (hl.outer.isSome (by omega) (by omega)) ?_ | refine Nx.loads rfl rfl rfl rfl (hrds _ _) rfl ?_ | refine Nx.callv rfl rfl rfl (by kernel_rfl) rfl hW ?_ | refine Nx.so ?_ | refine Nx.sb (fun bx => ?_) | refine Nx.sa (fun A2 c2 => ?_))
        | refine Nx.za ?_ | refine Nx.zr (fun hc => ?_) (fun hc => ?_)
        | refine Nx.zq ?_ | refine Nx.zu (fun hc => ?_) (fun hc => ?_)
        | refine Nx.zx ?_ | fail
      refine Nx.ret_fn rfl [] ⟨(k : Int), rfl, ?_, rfl⟩ (by (exact Ent.auto))
      rw [show l.all (rightB n) = false from List.all_eq_false.2 ⟨q, hmem, by rw [hr]; decide⟩]
      simp
  · obtain rfl : k = l.length := by omega
    rw [List.take_length] at hall
    repeat' first
      | ((with_reducible refine Nx.is_wp ?_); first | refine Nx.wo ?_ | refine Nx.zp (fun hc => ?_) (fun hc => ?_))
      | (refine Nx.zo ?_; first | refine Nx.opr rfl rfl ?_ | refine Nx.so ?_ | refine Nx.sb (fun bx => ?_) | refine Nx.sa (fun A2 c2 => ?_))
      | refine Nx.za ?_ | refine Nx.zr (fun hc => ?_) (fun hc => ?_)
      | refine Nx.zq ?_ | refine Nx.zu (fun hc => ?_) (fun hc => ?_)
      | refine Nx.zx ?_ | fail
    exact Nx.ret_fn rfl [] ⟨-1, rfl, by rw [hall]; rfl, rfl⟩ (by (exact Ent.auto))
set_option maxRecDepth 10000 in
theorem ContainsFuncE_spec (n : Int) (b : Nat) (A : Option Addr) (c : Nat) (l : List EqR) (I : PH) (hl : Eqs I A c l) (hb : ∀ (W : World) (R : List Res), Rd W I R ⟨b, 0, none⟩ (.int .i64 n)) :
    FnSpec Tryz.prog 97 [.slice A l.length c, .func (.func 98) #[] #[.pointer (some ⟨b, 0, none⟩)]] I [] (fun v R' => v = .bool (!(l.all (rightB n))) ∧ R' = []) := by
  have hI := IndexFuncE_spec n b A c l I hl hb
  refine FnSpec.enterP Tryz.func97 rfl Tryz.ntmps97 rfl fun w F => ?_
  repeat' first
    | ((with_reducible refine Nx.is_wp ?_); first | refine Nx.wo ?_ | refine Nx.zp (fun hc => ?_) (fun hc => ?_))
    | (refine Nx.zo ?_; first | refine Nx.opr rfl rfl ?_ | (refine Nx.call (Rpre := []) rfl rfl rfl (by kernel_rfl) rfl hI (Ent.refl _) ?_; rintro _ _ ⟨i, rfl, hi, rfl⟩) | refine Nx.so ?_ | refine Nx.sb (fun bx => ?_) | refine Nx.sa (fun A2 c2 => ?_))
    | refine Nx.za ?_ | refine Nx.zr (fun hc => ?_) (fun hc => ?_)
    | refine Nx.zq ?_ | refine Nx.zu (fun hc => ?_) (fun hc => ?_)
    | refine Nx.zx ?_ | fail
  exact Nx.ret_fn rfl [] ⟨by rw [← hi], rfl⟩ (by (exact Ent.auto))
set_option maxRecDepth 10000 in
theorem Valid_spec (n : Int) (A : Option Addr) (c : Nat) (l : List EqR) (I : PH) (hl : Eqs I A c l) :
    FnSpec Tryz.prog 42 [.int .i64 n, .slice A l.length c] I [] (fun v R' => v = .bool (validB n l) ∧ R' = []) := by
  have hlen := hl.len
  unfold validB
  refine FnSpec.enterP Tryz.func42 rfl Tryz.ntmps42 rfl fun w F => ?_
  refine Nx.p_seq rfl ?_
  by_cases h1 : 1 ≤ n
  case neg =>
    rw [decide_eq_false (show ¬(1 ≤ n ∧ n ≤ 48) by omega), Bool.false_and, Bool.false_and]
    repeat' first
      | ((with_reducible refine Nx.is_wp ?_); first | refine Nx.wo ?_ | refine Nx.zp (fun hc => ?_) (fun hc => ?_))
      | (refine Nx.zo ?_; first | refine Nx.opr rfl rfl ?_ | refine Nx.so ?_ | refine Nx.sb (fun bx => ?_) | refine Nx.sa (fun A2 c2 => ?_))
      | refine Nx.za ?_ | refine Nx.zr (fun hc => ?_) (fun hc => ?_)
      | refine Nx.zq ?_ | refine Nx.zu (fun hc => ?_) (fun hc => ?_)
      | refine Nx.zx ?_ | fail
    exact Nx.ret_fn rfl [] ⟨rfl, rfl⟩ (by (exact Ent.auto))
  by_cases h2 : n ≤ 48
  case neg =>
    rw [decide_eq_false (show ¬(1 ≤ n ∧ n ≤ 48) by omega), Bool.false_and, Bool.false_and]
    repeat' first
      | ((with_reducible refine Nx.is_wp ?_); first | refine Nx.wo ?_ | refine Nx.zp (fun hc => ?_) (fun hc => ?_))
      | (refine Nx.zo ?_; first | refine Nx.opr rfl rfl ?_ | refine Nx.so ?_ | refine Nx.sb (fun bx => ?_) | refine Nx.sa (fun A2 c2 => ?_))
      | refine Nx.za ?_ | refine Nx.zr (fun hc => ?_) (fun hc => ?_)
      | refine Nx.zq ?_ | refine Nx.zu (fun hc => ?_) (fun hc => ?_)
      | refine Nx.zx ?_ | fail
    exact Nx.ret_fn rfl [] ⟨rfl, rfl⟩ (by (exact Ent.auto))
  rw [decide_eq_true (show 1 ≤ n ∧ n ≤ 48 from ⟨h1, h2⟩), Bool.true_and]
  by_cases h3 : l.length ≤ 1152
  case neg =>
    rw [decide_eq_false h3, Bool.false_and]
    repeat' first
      | ((with_reducible refine Nx.is_wp ?_); first | refine Nx.wo ?_ | refine Nx.zp (fun hc => ?_) (fun hc => ?_))
      | (refine Nx.zo ?_; first | refine Nx.opr rfl rfl ?_ | refine Nx.so ?_ | refine Nx.sb (fun bx => ?_) | refine Nx.sa (fun A2 c2 => ?_))
      | refine Nx.za ?_ | refine Nx.zr (fun hc => ?_) (fun hc => ?_)
      | refine Nx.zq ?_ | refine Nx.zu (fun hc => ?_) (fun hc => ?_)
      | refine Nx.zx ?_ | fail
    exact Nx.ret_fn rfl [] ⟨rfl, rfl⟩ (by (exact Ent.auto))
  rw [decide_eq_true h3, Bool.true_and]
  repeat' first
    | ((with_reducible refine Nx.is_wp ?_); first | refine Nx.p_stopr 1 rfl ?_ | refine Nx.wo ?_ | refine Nx.zp (fun hc => ?_) (fun hc => ?_))
    | (refine Nx.zo ?_; first | refine Nx.opr rfl rfl ?_ | refine Nx.so ?_ | refine Nx.sb (fun bx => ?_) | refine Nx.sa (fun A2 c2 => ?_))
    | refine Nx.za ?_ | refine Nx.zr (fun hc => ?_) (fun hc => ?_)
    | refine Nx.zq ?_ | refine Nx.zu (fun hc => ?_) (fun hc => ?_)
    | refine Nx.zx ?_ | fail
  refine unstopN ?_
  revert bx; intro b2
  refine Nx.freezeAt 0 rfl fun I2 m2 hI2 hm2 hb2 => ?_
  have rb : ∀ (W : World) (R : List Res), Rd W I2 R ⟨b2, 0, none⟩ (.int .i64 n) := fun W R => Rd.imm (cellH_mono hm2 (Blk.cell hb2 rfl))
  have hC := ContainsFuncE_spec n b2 A c l I2 (hl.mono hI2) rb
  repeat' first
    | ((with_reducible refine Nx.is_wp ?_); first | refine Nx.wo ?_ | refine Nx.zp (fun hc => ?_) (fun hc => ?_))
    | (refine Nx.zo ?_; first | refine Nx.opr rfl rfl ?_ | refine Nx.load rfl rfl rfl (rb _ _) ?_ | refine Nx.callv rfl rfl rfl (by kernel_rfl) rfl hC ?_ | refine Nx.so ?_ | refine Nx.sb (fun bx => ?_) | refine Nx.sa (fun A2 c2 => ?_))
    | refine Nx.za ?_ | refine Nx.zr (fun hc => ?_) (fun hc => ?_)
    | refine Nx.zq ?_ | refine Nx.zu (fun hc => ?_) (fun hc => ?_)
    | refine Nx.zx ?_ | fail
  exact Nx.imm_le hI2 (Nx.ret_fn rfl [] ⟨by rw [Bool.not_not], rfl⟩ (by (exact Ent.auto)))
theorem ascB_iff {n : Int} : ∀ {b : Int} {xs : List Int}, ascB n b xs = true ↔ xs.Pairwise (· < ·) ∧ ∀ x ∈ xs, b < x ∧ x < n
  | b, [] => by simp [ascB]
  | b, x :: r => by
    rw [ascB, Bool.and_eq_true, decide_eq_true_eq, ascB_iff, List.pairwise_cons]
    constructor
    · rintro ⟨⟨h1, h2⟩, h3, h4⟩
      refine ⟨⟨fun y hy => (h4 y hy).1, h3⟩, fun y hy => ?_⟩
      rcases List.mem_cons.1 hy with rfl | hy
      · exact ⟨h1, h2⟩
      · have := h4 y hy; omega
    · rintro ⟨⟨h1, h2⟩, h3⟩
      exact ⟨h3 x (by simp), h2, fun y hy => ⟨h1 y hy, (h3 y (by simp [hy])).2⟩⟩
theorem rightB_iff {n : Nat} {q : EqR} : rightB n q = true ↔ GoodE n q := by
  unfold rightB
  rw [Bool.and_eq_true, Bool.and_eq_true, decide_eq_true_eq, decide_eq_true_eq, ascB_iff]
  constructor
  · rintro ⟨⟨h1, h2⟩, h3, h4⟩
    exact ⟨h1, h2, h3, fun x hx => by have := h4 x hx; omega⟩
  · rintro ⟨h1, h2, h3, h4⟩
    exact ⟨⟨h1, h2⟩, h3, fun x hx => by have := h4 x hx; omega⟩
end Go.Proofs.YtpcnapidlhpbkaaGreatDoor
namespace Go.Proofs.YtpcnapidlhpbkaaGreatDoor
open Go.Eng Go.Sol
attribute [local irreducible] opK wpList Code.wp Exit.then Exit.inBlock fnPost bodyPost Nx Calls Oper.wp Rd Rds Wr Ent Stars Blk Again Vec FnSpec wpMix QRun Stop Upto wpAt
theorem valid_good {n : Int} {l : List EqR} (h : validB n l = true) : (1 ≤ n ∧ n ≤ 48) ∧ l.length ≤ 1152 ∧ ∀ q ∈ l, GoodE n.toNat q := by
  unfold validB at h
  simp only [Bool.and_eq_true, decide_eq_true_eq] at h
  obtain ⟨⟨h1, h2⟩, h3⟩ := h
  refine ⟨h1, h2, fun q hq => rightB_iff.1 ?_⟩
  rw [show ((n.toNat : Nat) : Int) = n by omega]
  exact List.all_eq_true.1 h3 q hq
end Go.Proofs.YtpcnapidlhpbkaaGreatDoor
namespace Go.Proofs.YtpcnapidlhpbkaaGreatDoor
open Go.Eng
attribute [local irreducible] opK wpList Code.wp Exit.then Exit.inBlock fnPost bodyPost Nx Calls Oper.wp Rd Rds Wr Ent Stars Blk Again Vec FnSpec wpMix QRun Stop Upto wpAt
def frC0 (x : Int × Int) : List Value := [.int .i64 x.1, .int .i64 x.2]
theorem frC0_len (x : Int × Int) : (frC0 x).length = 2 := rfl
theorem frC0_one (l : List (Int × Int)) : ∀ v ∈ l.flatMap frC0, v.oneCell' = true := fun u hu => by
  obtain ⟨q, _, h⟩ := List.mem_flatMap.1 hu
  simp only [frC0, List.mem_cons, List.not_mem_nil, or_false] at h
  rcases h with rfl | rfl <;> rfl
theorem rep_rl (n : Nat) (x : Rat) : (List.replicate n (ratC x)).flatten = (rl n fun _ => x).flatMap ratC := by
  unfold rl
  induction n with
  | zero => rfl
  | succ n ih =>
    rw [List.replicate_succ', List.flatten_append, ih, List.range_succ, List.map_append, List.flatMap_append]
    simp
set_option maxRecDepth 10000 in
theorem RepeatF_spec (x : Rat) (b n : Nat) (hn1 : 1 ≤ n) (hn : n ≤ 4096) (I : PH) :
    FnSpec Tryz.prog 152 [.slice (some ⟨b, 0, none⟩) 1 1, .int .i64 (n : Int)] I [Blk b 24 (ratC x)] (fun v R' => ∃ b', v = .slice (some ⟨b', 0, none⟩) n n ∧ R' = [ratsR (some ⟨b', 0, none⟩) n n (rl n fun _ => x)]) := by
  obtain ⟨cx, hcx0⟩ : ∃ cx, cx = ratC x := ⟨_, rfl⟩
  have hcx : cx.length = 2 := by rw [hcx0]; rfl
  have h1 : ∀ v ∈ cx, v.oneCell' = true := by
    rw [hcx0]
    intro v hv
    simp only [ratC, List.mem_cons, List.not_mem_nil, or_false] at hv
    rcases hv with rfl | rfl <;> rfl
  have hfin : (List.replicate n cx).flatten = (rl n fun _ => x).flatMap ratC := by rw [hcx0]; exact rep_rl n x
  rw [← hcx0]
  unfold ratsR
  rw [← hfin]
  clear hfin hcx0
  have hM := mulU_spec n (by omega) I
  have hB : (n : Int) % B64 = n := by unfold B64; omega
  have hB1 : ((1 : Nat) : Int) % B64 = 1 := by unfold B64; decide
  refine FnSpec.enterP Tryz.func152 rfl Tryz.ntmps152 rfl fun w F => ?_
  repeat' first
    | ((with_reducible refine Nx.is_wp ?_); first | refine Nx.wo ?_ | refine Nx.zp (fun hc => ?_) (fun hc => ?_))
    | (refine Nx.zo ?_; first | refine Nx.opr rfl rfl ?_ | (refine Nx.call (Rpre := []) rfl rfl rfl (by kernel_rfl) rfl hM (Ent.refl _) ?_; rintro _ _ ⟨rfl, rfl⟩) | (refine Nx.conv_u64 (p := ((1 : Nat) : Int)) rfl rfl rfl rfl ?_; rw [hB1]) | (refine Nx.conv_u64 (p := (n : Int)) rfl rfl rfl rfl ?_; rw [hB]) | refine Nx.conv_i64 (p := (n : Int)) rfl rfl rfl (by unfold I64; omega) rfl ?_ | refine Nx.makeStructs frC0 (0, 0) (by_ := 16) (m := n) (sz := 2) rfl rfl rfl rfl rfl rfl rfl rfl rfl rfl (by omega) (by unfold maxLen; omega) (fun bx => ?_) | refine Nx.so ?_ | refine Nx.sb (fun bx => ?_) | refine Nx.sa (fun A2 c2 => ?_))
    | refine Nx.za ?_ | refine Nx.zr (fun hc => ?_) (fun hc => ?_)
    | refine Nx.zq ?_ | refine Nx.zu (fun hc => ?_) (fun hc => ?_)
    | refine Nx.zx ?_ | fail
  revert bx; intro b7
  generalize hx0 : (List.replicate n ((0, 0) : Int × Int)).flatMap frC0 = x0
  have hx0l : x0.length = n * 2 := by rw [← hx0, flat_len frC0_len, List.length_replicate]
  have hF0 : Filled cx 2 n 1 (x0.take 0 ++ cx ++ x0.drop (0 + cx.length)) := Filled.start hcx h1 hx0l (by rw [← hx0]; exact frC0_one _) hn1
  repeat' first
    | ((with_reducible refine Nx.is_wp ?_); first | refine Nx.wo ?_ | refine Nx.zp (fun hc => ?_) (fun hc => ?_))
    | (refine Nx.zo ?_; first | refine Nx.opr rfl rfl ?_ | refine Nx.copy_ (k := 1) (sz := 2) (cs := cx) rfl rfl rfl rfl rfl rfl (by show 1 = min 1 n; omega) (by omega) (Rds.at_ 1 rfl) (Wr.vecNs0 (by omega) (by omega) h1) ?_ | refine Nx.so ?_ | refine Nx.sb (fun bx => ?_) | refine Nx.sa (fun A2 c2 => ?_))
    | refine Nx.za ?_ | refine Nx.zr (fun hc => ?_) (fun hc => ?_)
    | refine Nx.zq ?_ | refine Nx.zu (fun hc => ?_) (fun hc => ?_)
    | refine Nx.zx ?_ | fail
  refine Nx.p_loop (σ := Nat × List Value) (fun s => [(7, .slice (some ⟨b7, 0, none⟩) n n), (8, .int .i64 (s.1 : Int))]) (fun s => [Vec 24 2 (some ⟨b7, 0, none⟩) n n s.2, F]) (fun s => 1 ≤ s.1 ∧ s.1 ≤ n ∧ Filled cx 2 n s.1 s.2) (fun s => n - s.1) (1, x0.take 0 ++ cx ++ x0.drop (0 + cx.length)) rfl ⟨Nat.le_refl _, hn1, hF0⟩ ⟨rfl, rfl, trivial⟩ (by (exact Ent.auto)) ?_
  rintro ⟨m, xs⟩ ⟨hm1, hmn, hF⟩
  dsimp only at hm1 hmn hF ⊢
  by_cases hlt : m < n
  case neg =>
    obtain rfl : m = n := by omega
    have hd := hF.done
    subst hd
    repeat' first
      | ((with_reducible refine Nx.is_wp ?_); first | refine Nx.wo ?_ | refine Nx.zp (fun hc => ?_) (fun hc => ?_))
      | (refine Nx.zo ?_; first | refine Nx.opr rfl rfl ?_ | refine Nx.so ?_ | refine Nx.sb (fun bx => ?_) | refine Nx.sa (fun A2 c2 => ?_))
      | refine Nx.za ?_ | refine Nx.zr (fun hc => ?_) (fun hc => ?_)
      | refine Nx.zq ?_ | refine Nx.zu (fun hc => ?_) (fun hc => ?_)
      | refine Nx.zx ?_ | fail
    exact Nx.ret_fn rfl [_] ⟨b7, rfl, rfl⟩ (by (exact Ent.auto))
  have hst := hF.step hcx (k := min m (n - m)) (by omega) (by omega)
  have hxl := hF.len
  repeat' first
    | ((with_reducible refine Nx.is_wp ?_); first | refine Nx.wo ?_ | refine Nx.p_drawF (id := 9) rfl [0, 1, 2, 3, 4, 5, 6, 7, 8, 9] [7] [] _ rfl rfl (by kernel_rfl) (by kernel_rfl) rfl PanicOk.auto (Ent.eraseK 0 _) ?_ | refine Nx.zp (fun hc => ?_) (fun hc => ?_))
    | (refine Nx.zo ?_; first | refine Nx.opr rfl rfl ?_ | refine Nx.copy_ (k := min m (n - m)) (sz := 2) (cs := xs.take (min m (n - m) * 2)) rfl rfl rfl rfl rfl rfl rfl (by rw [List.length_take]; omega) Rds.vec_take (Wr.vecNs (A := some ⟨b7, 0, none⟩) (i := m * 2) (by rw [List.length_take]; omega) (by rw [List.length_take]; omega) (fun v hv => hF.one v (List.mem_of_mem_take hv))) ?_ | refine Nx.so ?_ | refine Nx.sb (fun bx => ?_) | refine Nx.sa (fun A2 c2 => ?_))
    | refine Nx.za ?_ | refine Nx.zr (fun hc => ?_) (fun hc => ?_)
    | ((with_reducible refine Nx.is_mix ?_); first | refine Nx.m_quiet rfl rfl rfl rfl rfl (by first | exact QRun.opr rfl | exact QRun.slice_from (sz := 2) rfl rfl rfl rfl hlt (Nat.le_refl _) | exact QRun.slice_hi (sz := 2) rfl rfl rfl rfl hmn) ?_ | refine Nx.m_quiet_do rfl rfl rfl rfl rfl rfl rfl (by first | exact QRun.opr rfl | exact QRun.slice_from (sz := 2) rfl rfl rfl rfl hlt (Nat.le_refl _) | exact QRun.slice_hi (sz := 2) rfl rfl rfl rfl hmn) ?_ | refine Nx.m ?_ | refine Nx.zm ?_ | refine Nx.zt (fun hc => ?_) (fun hc => ?_))
    | refine Nx.zx ?_ | fail
  exact Nx.again (m + min m (n - m), _) ⟨by dsimp only; omega, by dsimp only; omega, hst⟩ (by dsimp only; omega) ⟨rfl, rfl, trivial⟩ (by (exact Ent.auto))
def cs1 (q : Bl.Eqs) (others : Int) (k : Nat) : Nat → Rat := fun j => if q.cnt ≤ j ∧ j < k then (others : Rat) else 0
theorem cs1_succ (q : Bl.Eqs) (others : Int) {k : Nat} (hk : q.cnt ≤ k) : updF (cs1 q others k) k (others : Rat) = cs1 q others (k + 1) := by
  funext j
  unfold updF cs1
  by_cases h : j = k
  · subst h; rw [if_pos rfl, if_pos ⟨hk, by omega⟩]
  · rw [if_neg h]
    by_cases h2 : q.cnt ≤ j ∧ j < k
    · rw [if_pos h2, if_pos ⟨h2.1, by omega⟩]
    · rw [if_neg h2, if_neg (by omega)]
def aimV : Option Nat → Int
  | none => -1
  | some c => c
def aimF (q : Bl.Eqs) (factor others : Int) : Option Nat → Nat → Rat
  | none => cs1 q others q.N
  | some c => updF (cs1 q others q.N) c (factor : Rat)
set_option maxRecDepth 10000 in
theorem aim_spec (b : Nat) (q : Bl.Eqs) (hq : q.Small) (hc1 : 1 ≤ q.cnt) (vr vb vc : Value) (cell : Option Nat) (factor others : Int) (hcell : ∀ c, cell = some c → c < q.cnt) (_hf : -1 ≤ factor ∧ factor ≤ 1) (_hoth : -1 ≤ others ∧ others ≤ 1) (I : PH) :
    FnSpec Tryz.prog 110 [.pointer (some ⟨b, 0, none⟩), .int .i64 (aimV cell), .int .i64 factor, .int .i64 others] I [Blk b 193 (tabC q vr vb vc)]
      (fun _ R' => ∃ b', R' = [Blk b 193 (tabC q vr vb (.slice (some ⟨b', 0, none⟩) q.N q.N)), ratsR (some ⟨b', 0, none⟩) q.N q.N (rl q.N (aimF q factor others cell))]) := by
  have h1 := hq.cnt
  have h2 := hq.m
  have hN : (q.cnt : Int) + (q.m : Int) = (q.N : Int) := by show _ = ((q.cnt + q.m : Nat) : Int); omega
  have hNb : q.N ≤ 20 := by show q.cnt + q.m ≤ 20; omega
  have hNc : q.cnt ≤ q.N := Nat.le_add_right _ _
  have hV := fun vc => value_spec' b q hq vr vb vc I
  rw [hN] at hV
  obtain ⟨cv, hcv⟩ : ∃ cv, cv = aimV cell := ⟨_, rfl⟩
  rw [← hcv]
  refine FnSpec.enterP Tryz.func110 rfl Tryz.ntmps110 rfl fun w F => ?_
  repeat' first
    | ((with_reducible refine Nx.is_wp ?_); first | refine Nx.wo ?_ | refine Nx.zp (fun hc => ?_) (fun hc => ?_))
    | (refine Nx.zo ?_; first | refine Nx.opr rfl rfl ?_ | refine Nx.callv rfl rfl rfl (by kernel_rfl) rfl (bwhole_spec _ _) ?_ | (refine Nx.call rfl rfl rfl (by kernel_rfl) rfl (hV vc) (by (exact Ent.auto)) ?_; rintro _ _ ⟨rfl, rfl⟩) | (refine Nx.call rfl rfl rfl (by kernel_rfl) rfl (RepeatF_spec ((0 : Int) : Rat) _ q.N (by omega) (by omega) I) (by (exact Ent.auto)) ?_; rintro _ _ ⟨b7, rfl, rfl⟩) | refine Nx.so ?_ | refine Nx.sb (fun bx => ?_) | refine Nx.sa (fun A2 c2 => ?_))
    | refine Nx.za ?_ | refine Nx.zr (fun hc => ?_) (fun hc => ?_)
    | refine Nx.zq ?_ | refine Nx.zu (fun hc => ?_) (fun hc => ?_)
    | refine Nx.zx ?_ | fail
  refine Nx.p_loop (σ := Nat) (fun k => [(0, .pointer (some ⟨b, 0, none⟩)), (1, .int .i64 cv), (2, .int .i64 factor), (3, .int .i64 others), (8, .int .i64 (k : Int))])
    (fun k => [ratsR (some ⟨b7, 0, none⟩) q.N q.N (rl q.N (cs1 q others k)), Blk b 193 (tabC q vr vb (.slice (some ⟨b7, 0, none⟩) q.N q.N)), F]) (fun k => q.cnt ≤ k ∧ k ≤ q.N) (fun k => q.N - k) q.cnt rfl ⟨Nat.le_refl _, hNc⟩ ⟨rfl, rfl, rfl, rfl, rfl, trivial⟩ (by rw [rl_congr (f := cs1 q others q.cnt) (g := fun _ => ((0 : Int) : Rat)) fun j _ => by unfold cs1; rw [if_neg (by omega)]; rfl]; (exact Ent.auto)) ?_
  rintro k ⟨hk1, hk2⟩
  by_cases hkN : k < q.N
  · have hup := cs1_succ q others hk1
    have hset := rl_set (n := q.N) (k := k) (f := cs1 q others k) (v := (others : Rat))
    rw [hup] at hset
    repeat' first
      | ((with_reducible refine Nx.is_wp ?_); first | refine Nx.wo ?_ | refine Nx.p_drawF (id := 4) rfl [0, 1, 2, 3, 4, 5, 6, 7] [6] [8] _ rfl rfl (by kernel_rfl) (by kernel_rfl) rfl PanicOk.auto (Ent.refl _) ?_ | refine Nx.p_drawF (id := 6) rfl [0, 1, 2, 3, 4, 5, 6, 7] [6] [8] _ rfl rfl (by kernel_rfl) (by kernel_rfl) rfl PanicOk.auto (Ent.refl _) ?_ | refine Nx.zp (fun hc => ?_) (fun hc => ?_))
      | (refine Nx.zo ?_; first | refine Nx.opr rfl rfl ?_ | (refine Nx.call rfl rfl rfl (by kernel_rfl) rfl (hV _) (by (exact Ent.auto)) ?_; rintro _ _ ⟨rfl, rfl⟩) | refine Nx.callv rfl rfl rfl (by kernel_rfl) rfl (bwhole_spec _ _) ?_ | refine Nx.indexAddr_nat (A := some ⟨b7, 0, none⟩) (i := k) (sz := 2) rfl rfl rfl rfl rfl hkN rfl ?_ | refine Nx.store_el2 (f := ratC) (a := fun q => .int .i64 q.num) (b := fun q => .int .i64 q.den) (A := some ⟨b7, 0, none⟩) (l := rl q.N (cs1 q others k)) (i := k) (z := (others : Rat)) 1 rfl rfl rfl (fun _ => rfl) rfl rfl rfl rfl (by rw [rl_len]; exact hkN) hkN ?_ | refine Nx.so ?_ | refine Nx.sb (fun bx => ?_) | refine Nx.sa (fun A2 c2 => ?_))
      | refine Nx.za ?_ | refine Nx.zr (fun hc => ?_) (fun hc => ?_)
      | ((with_reducible refine Nx.is_mix ?_); first | refine Nx.m_quiet rfl rfl rfl rfl rfl (by first | exact QRun.opr rfl | exact QRun.idx (A := some ⟨b7, 0, none⟩) (i := k) (sz := 2) rfl rfl rfl rfl hkN rfl) ?_ | refine Nx.m_quiet_do rfl rfl rfl rfl rfl rfl rfl (by first | exact QRun.opr rfl | exact QRun.idx (A := some ⟨b7, 0, none⟩) (i := k) (sz := 2) rfl rfl rfl rfl hkN rfl) ?_ | refine Nx.m ?_ | refine Nx.zm ?_ | refine Nx.zt (fun hc => ?_) (fun hc => ?_))
      | refine Nx.zx ?_ | fail
    exact Nx.again (k + 1) ⟨by omega, hkN⟩ (by omega) ⟨rfl, rfl, rfl, rfl, rfl, trivial⟩ (by rw [← hset]; (exact Ent.auto))
  obtain rfl : k = q.N := by omega
  cases cell with
  | none =>
    have hcv : cv = -1 := hcv
    subst hcv
    repeat' first
      | ((with_reducible refine Nx.is_wp ?_); first | refine Nx.wo ?_ | refine Nx.zp (fun hc => ?_) (fun hc => ?_))
      | (refine Nx.zo ?_; first | refine Nx.opr rfl rfl ?_ | (refine Nx.call rfl rfl rfl (by kernel_rfl) rfl (hV _) (by (exact Ent.auto)) ?_; rintro _ _ ⟨rfl, rfl⟩) | refine Nx.so ?_ | refine Nx.sb (fun bx => ?_) | refine Nx.sa (fun A2 c2 => ?_))
      | refine Nx.za ?_ | refine Nx.zr (fun hc => ?_) (fun hc => ?_)
      | refine Nx.zq ?_ | refine Nx.zu (fun hc => ?_) (fun hc => ?_)
      | refine Nx.zx ?_ | fail
    exact Nx.end_fn rfl [_, _] ⟨b7, rfl⟩ (by unfold aimF; (exact Ent.auto))
  | some c =>
    have hcc := hcell c rfl
    have hcv : cv = (c : Int) := hcv
    subst hcv
    have hcN : c < q.N := by omega
    have hset := rl_set (n := q.N) (k := c) (f := cs1 q others q.N) (v := (factor : Rat))
    repeat' first
      | ((with_reducible refine Nx.is_wp ?_); first | refine Nx.wo ?_ | refine Nx.p_drawF (id := 4) rfl [0, 1, 2, 3, 4, 5, 6, 7] [6] [8] _ rfl rfl (by kernel_rfl) (by kernel_rfl) rfl PanicOk.auto (Ent.refl _) ?_ | refine Nx.p_drawF (id := 6) rfl [0, 1, 2, 3, 4, 5, 6, 7] [6] [8] _ rfl rfl (by kernel_rfl) (by kernel_rfl) rfl PanicOk.auto (Ent.refl _) ?_ | refine Nx.zp (fun hc => ?_) (fun hc => ?_))
      | (refine Nx.zo ?_; first | refine Nx.opr rfl rfl ?_ | (refine Nx.call rfl rfl rfl (by kernel_rfl) rfl (hV _) (by (exact Ent.auto)) ?_; rintro _ _ ⟨rfl, rfl⟩) | refine Nx.callv rfl rfl rfl (by kernel_rfl) rfl (bwhole_spec _ _) ?_ | refine Nx.indexAddr_nat (A := some ⟨b7, 0, none⟩) (i := c) (sz := 2) rfl rfl rfl rfl rfl hcN rfl ?_ | refine Nx.store_el2 (f := ratC) (a := fun q => .int .i64 q.num) (b := fun q => .int .i64 q.den) (A := some ⟨b7, 0, none⟩) (l := rl q.N (cs1 q others q.N)) (i := c) (z := (factor : Rat)) 1 rfl rfl rfl (fun _ => rfl) rfl rfl rfl rfl (by rw [rl_len]; exact hcN) hcN ?_ | refine Nx.so ?_ | refine Nx.sb (fun bx => ?_) | refine Nx.sa (fun A2 c2 => ?_))
      | refine Nx.za ?_ | refine Nx.zr (fun hc => ?_) (fun hc => ?_)
      | ((with_reducible refine Nx.is_mix ?_); first | refine Nx.m_quiet rfl rfl rfl rfl rfl (by first | exact QRun.opr rfl | exact QRun.idx (A := some ⟨b7, 0, none⟩) (i := c) (sz := 2) rfl rfl rfl rfl hcN rfl) ?_ | refine Nx.m_quiet_do rfl rfl rfl rfl rfl rfl rfl (by first | exact QRun.opr rfl | exact QRun.idx (A := some ⟨b7, 0, none⟩) (i := c) (sz := 2) rfl rfl rfl rfl hcN rfl) ?_ | refine Nx.m ?_ | refine Nx.zm ?_ | refine Nx.zt (fun hc => ?_) (fun hc => ?_))
      | refine Nx.zx ?_ | fail
    exact Nx.end_fn rfl [_, _] ⟨b7, rfl⟩ (by unfold aimF; rw [← hset]; (exact Ent.auto))
end Go.Proofs.YtpcnapidlhpbkaaGreatDoor
namespace Go.Proofs.YtpcnapidlhpbkaaGreatDoor
open Go.Eng Go.Sol
attribute [local irreducible] opK wpList Code.wp Exit.then Exit.inBlock fnPost bodyPost Nx Calls Oper.wp Rd Rds Wr Ent Stars Blk Again Vec FnSpec wpMix QRun Stop Upto wpAt
attribute [local irreducible] wpFork
def toQ (n : Nat) (l : List EqR) : Bl.Eqs := ⟨n, l.length, fun i k => decide ((k : Int) ∈ (l.getD i default).1.2.2), fun i => (l.getD i default).2⟩
structure BEq (n : Nat) (l : List EqR) : Prop where
  cnt : 1 ≤ n ∧ n ≤ 10
  len : l.length ≤ 10
  good : ∀ q ∈ l, GoodE n q
  val : ∀ q ∈ l, q.2 ≤ 1000
theorem BEq.small {n : Nat} {l : List EqR} (h : BEq n l) : (toQ n l).Small := ⟨h.cnt.2, h.len, fun j hj => by
  have hm : l.getD j default ∈ l := getD_memQ hj
  exact ⟨(h.good _ hm).val.1, h.val _ hm⟩⟩
def rowsN (m N1 : Nat) (ra : Nat → Option Addr × Nat) (T : Nat → Nat → Rat) : Res := Stars ((List.range m).map fun i => ratsR (ra i).1 N1 (ra i).2 (rl N1 (T i)))
theorem rowsN_all (q : Bl.Eqs) (ta : TA) (T : Nat → Nat → Rat) : rowsN q.m (q.N + 1) ta.ra T = trowsR q ta T := by
  unfold rowsN trowsR rowsL
  rw [List.map_map]
  rfl
theorem rowsN_succ {m N1 : Nat} {ra : Nat → Option Addr × Nat} {T : Nat → Nat → Rat} {A : Option Addr} {c : Nat} {R : List Res} : Ent (ratsR A N1 c (rl N1 (T m)) :: rowsN m N1 ra T :: R) (rowsN (m + 1) N1 (fun i => if i = m then (A, c) else ra i) T :: R) := by
  unfold rowsN
  rw [List.range_succ, List.map_append, List.map_cons, List.map_nil]
  dsimp only
  rw [if_pos rfl]
  rw [List.map_congr_left (f := fun i => ratsR (if i = m then (A, c) else ra i).1 N1 (if i = m then (A, c) else ra i).2 (rl N1 (T i))) (g := fun i => ratsR (ra i).1 N1 (ra i).2 (rl N1 (T i))) fun i hi => by
    have := List.mem_range.1 hi
    rw [if_neg (by omega)]]
  exact Ent.bundle
def outL (m N1 : Nat) (ra : Nat → Option Addr × Nat) : List Value := (List.range m).map fun i => .slice (ra i).1 N1 (ra i).2
theorem outL_succ {m N1 : Nat} {ra : Nat → Option Addr × Nat} {A : Option Addr} {c : Nat} : outL (m + 1) N1 (fun i => if i = m then (A, c) else ra i) = outL m N1 ra ++ [.slice A N1 c] := by
  unfold outL
  rw [List.range_succ, List.map_append, List.map_cons, List.map_nil]
  dsimp only
  rw [if_pos rfl]
  congr 1
  refine List.map_congr_left fun i hi => ?_
  have := List.mem_range.1 hi
  rw [if_neg (by omega)]
abbrev outR (m N1 : Nat) (ra : Nat → Option Addr × Nat) (A : Option Addr) (c : Nat) : Res := Vec 25 1 A m c (outL m N1 ra)
def basN (cnt m : Nat) : List Int := (List.range m).map fun i => ((cnt + i : Nat) : Int)
theorem basN_succ (cnt m : Nat) : basN cnt (m + 1) = basN cnt m ++ [((cnt + m : Nat) : Int)] := by unfold basN; rw [List.range_succ, List.map_append]; rfl
def rowP (L : List Int) (n : Nat) : Nat → Rat := fun k => if (k : Int) ∈ L.take n then 1 else 0
theorem rowP_zero (L : List Int) : rowP L 0 = fun _ => 0 := by
  funext k
  unfold rowP
  rw [List.take_zero, if_neg List.not_mem_nil]
theorem rowP_succ {L : List Int} {n c : Nat} (hn : n < L.length) (hc : L.getD n default = (c : Int)) : updF (rowP L n) c 1 = rowP L (n + 1) := by
  have ht : L.take (n + 1) = L.take n ++ [(c : Int)] := by
    rw [List.take_succ_eq_append_getElem hn, ← hc, List.getD_eq_getElem?_getD, List.getElem?_eq_getElem hn]; rfl
  funext k
  unfold updF rowP
  rw [ht]
  by_cases h : k = c
  · subst h; rw [if_pos rfl, if_pos (by simp)]
  · rw [if_neg h]
    by_cases h2 : (k : Int) ∈ L.take n
    · rw [if_pos h2, if_pos (by simp [h2])]
    · rw [if_neg h2, if_neg (by simp [h2]; omega)]
theorem row_done {n : Nat} {l : List EqR} (h : BEq n l) {i : Nat} (hi : i < l.length) : ∀ k, k < (toQ n l).N + 1 → updF (updF (rowP (l.getD i default).1.2.2 (l.getD i default).1.2.2.length) (n + i) 1) ((toQ n l).N) (((l.getD i default).2 : Int) : Rat) k = (toQ n l).s0.T i k := fun k hk => by
  have hm := getD_memQ hi
  have hg := (h.good _ hm).lt
  show _ = (((toQ n l).orig i k : Int) : Rat)
  have hN : (toQ n l).N = n + l.length := rfl
  unfold updF rowP
  rw [List.take_length]
  by_cases h1 : k = (toQ n l).N
  · rw [if_pos h1, h1, show (toQ n l).N = (toQ n l).cnt + (toQ n l).m from rfl, Bl.orig_val]; rfl
  · rw [if_neg h1]
    by_cases h2 : k = n + i
    · rw [if_pos h2, h2, show n + i = (toQ n l).cnt + i from rfl, Bl.orig_art hi, if_pos rfl]; rfl
    · rw [if_neg h2]
      by_cases h3 : k < n
      · rw [Bl.orig_cell (q := toQ n l) h3, Bl.cast_if]
        show (if (k : Int) ∈ (l.getD i default).1.2.2 then (1 : Rat) else 0) = if decide ((k : Int) ∈ (l.getD i default).1.2.2) = true then 1 else 0
        by_cases h4 : (k : Int) ∈ (l.getD i default).1.2.2
        · rw [if_pos h4, if_pos (decide_eq_true h4)]
        · rw [if_neg h4, if_neg (by simpa using h4)]
      · obtain ⟨j, rfl⟩ : ∃ j, k = n + j := ⟨k - n, by omega⟩
        have hj : j < (toQ n l).m := by show j < l.length; omega
        rw [if_neg (fun hh : ((n + j : Nat) : Int) ∈ (l.getD i default).1.2.2 => by have := hg _ hh; omega), show n + j = (toQ n l).cnt + j from rfl, Bl.orig_art hj, if_neg (show ¬ i = j by omega)]; rfl
set_option maxRecDepth 10000 in
theorem start12 (w : World) (Q : Exit → Act → World → Prop) (hQ : PanicOk Q) (RR : List Res) (b5 i : Nat) (n : Int) (v1 v16 v17 x0 x1 vc vrow : Value) (Ar Ab : Option Addr) (car cab : Nat) (os : List Value) (bs : List Int) (I : PH) (hos : os.length = i) (hbs : bs.length = i) (hi9 : i ≤ 1000) (hn9 : 0 ≤ n ∧ n ≤ 1000) (h1r : ∃ A n c, vrow = .slice A n c)
    (h : ∀ A2 c2 A3 c3, Nx ⟨Tryz.prog, 78, w⟩ [(0, .int .i64 n), (1, v1), (5, .pointer (some ⟨b5, 0, none⟩)), (16, v16), (17, v17), (18, .int .i64 (i : Int))] I
      (Blk b5 193 [x0, x1, .slice A2 (i + 1) c2, .slice A3 (i + 1) c3, vc] :: Vec 25 1 A2 (i + 1) c2 (os ++ [vrow]) :: Vec 3 1 A3 (i + 1) c3 ((bs ++ [n + (i : Int)]).map (Value.int .i64)) :: RR) (Q .normal)) :
    Nx ⟨Tryz.prog, 78, w⟩ [(0, .int .i64 n), (1, v1), (5, .pointer (some ⟨b5, 0, none⟩)), (6, .int .i64 (i : Int)), (8, vrow), (16, v16), (17, v17), (18, .int .i64 (i : Int))] I
      (Blk b5 193 [x0, x1, .slice Ar i car, .slice Ab i cab, vc] :: Vec 25 1 Ar i car os :: Vec 3 1 Ab i cab (bs.map (Value.int .i64)) :: RR) (Code.wp Tryz.prog (cr (cr (cr (cr (cl (cl (cr (cr (cl (cl (cr (cl (cr (cr (bodyOf Tryz.f86))))))))))))))) Q) := by
  obtain ⟨Aw, nw, cw, rfl⟩ := h1r
  refine Nx.p_forkF (id := 12) rfl [1, 18, 19, 20, 21, 22, 23] [18, 19, 20, 21, 22, 23] [20, 23] [Blk b5 193 [x0, x1, .slice Ar i car, .slice Ab i cab, vc]] rfl rfl (by kernel_rfl) (by kernel_rfl) hQ (by (exact Ent.auto)) ?_
  refine Nx.forkF_m 1 (by kernel_rfl) ?_
  repeat' first
    | ((with_reducible refine Nx.is_wp ?_); first | refine Nx.wo ?_ | refine Nx.zp (fun hc => ?_) (fun hc => ?_))
    | (refine Nx.zo ?_; first | refine Nx.opr rfl rfl ?_ | refine Nx.so ?_ | refine Nx.sb (fun bx => ?_) | refine Nx.sa (fun A2 c2 => ?_))
    | refine Nx.za ?_ | refine Nx.zr (fun hc => ?_) (fun hc => ?_)
    | refine Nx.zq ?_ | refine Nx.zu (fun hc => ?_) (fun hc => ?_)
    | refine Nx.zx ?_ | fail
  refine Nx.forkF_qs [0, 2, 3, 4, 5, 6, 9, 10, 11, 12, 13, 14, 15] 10 rfl (by kernel_rfl) ?_
  repeat' first
    | ((with_reducible refine Nx.is_wp ?_); first | refine Nx.wo ?_ | refine Nx.zp (fun hc => ?_) (fun hc => ?_))
    | (refine Nx.zo ?_; first | refine Nx.opr rfl rfl ?_ | refine Nx.so ?_ | refine Nx.sb (fun bx => ?_) | refine Nx.sa (fun A2 c2 => ?_))
    | refine Nx.za ?_ | refine Nx.zr (fun hc => ?_) (fun hc => ?_)
    | refine Nx.zq ?_ | refine Nx.zu (fun hc => ?_) (fun hc => ?_)
    | refine Nx.zx ?_ | fail
  refine Nx.forkF2 (i := 7) (j := 16) (by kernel_rfl) rfl rfl rfl rfl ?_ ?_
  · refine Nx.sb (fun b7 => ?_)
    refine Nx.mix_S (by (exact Ent.auto)) ?_
    refine Nx.forkF2 (i := 8) (j := 16) (by kernel_rfl) rfl rfl rfl rfl ?_ ?_
    · refine Nx.sa (fun A2 c2 => ?_)
      refine Nx.mix_S (by (exact Ent.auto)) ?_
      refine Nx.forkF1 (i := 16) (by kernel_rfl) rfl rfl ?_
      refine Nx.sb (fun b17 => ?_)
      refine Nx.mix_S (by (exact Ent.auto)) ?_
      refine Nx.forkF1 (i := 17) (by kernel_rfl) rfl rfl ?_
      refine Nx.sa (fun A3 c3 => ?_)
      refine Nx.mix_S (by (exact Ent.auto)) ?_
      refine Nx.forkF_fin (by kernel_rfl) (by kernel_rfl) rfl ?_
      repeat' first
        | ((with_reducible refine Nx.is_wp ?_); first | refine Nx.wo ?_ | refine Nx.zp (fun hc => ?_) (fun hc => ?_))
        | (refine Nx.zo ?_; first | refine Nx.opr rfl rfl ?_ | refine Nx.so ?_ | refine Nx.sb (fun bx => ?_) | refine Nx.sa (fun A2 c2 => ?_))
        | refine Nx.za ?_ | refine Nx.zr (fun hc => ?_) (fun hc => ?_)
        | refine Nx.zq ?_ | refine Nx.zu (fun hc => ?_) (fun hc => ?_)
        | refine Nx.zx ?_ | fail
      exact Nx.weak (by exact ⟨rfl, rfl, rfl, rfl, rfl, rfl, trivial⟩) (by rw [List.map_append]; (exact Ent.auto)) (h A2 c2 A3 c3)
    · refine Nx.sb (fun b17 => ?_)
      refine Nx.mix_S (by (exact Ent.auto)) ?_
      refine Nx.forkF1 (i := 8) (by kernel_rfl) rfl rfl ?_
      refine Nx.ent (Ent.swap _ _ _) ?_
      refine Nx.sa (fun A2 c2 => ?_)
      refine Nx.mix_S (by (exact Ent.auto)) ?_
      refine Nx.forkF1 (i := 17) (by kernel_rfl) rfl rfl ?_
      refine Nx.ent (Ent.swap _ _ _) ?_
      refine Nx.sa (fun A3 c3 => ?_)
      refine Nx.mix_S (by (exact Ent.auto)) ?_
      refine Nx.forkF_fin (by kernel_rfl) (by kernel_rfl) rfl ?_
      repeat' first
        | ((with_reducible refine Nx.is_wp ?_); first | refine Nx.wo ?_ | refine Nx.zp (fun hc => ?_) (fun hc => ?_))
        | (refine Nx.zo ?_; first | refine Nx.opr rfl rfl ?_ | refine Nx.so ?_ | refine Nx.sb (fun bx => ?_) | refine Nx.sa (fun A2 c2 => ?_))
        | refine Nx.za ?_ | refine Nx.zr (fun hc => ?_) (fun hc => ?_)
        | refine Nx.zq ?_ | refine Nx.zu (fun hc => ?_) (fun hc => ?_)
        | refine Nx.zx ?_ | fail
      exact Nx.weak (by exact ⟨rfl, rfl, rfl, rfl, rfl, rfl, trivial⟩) (by rw [List.map_append]; (exact Ent.auto)) (h A2 c2 A3 c3)
  · refine Nx.sb (fun b17 => ?_)
    refine Nx.mix_S (by (exact Ent.auto)) ?_
    refine Nx.forkF1 (i := 7) (by kernel_rfl) rfl rfl ?_
    refine Nx.sb (fun b7 => ?_)
    refine Nx.mix_S (by (exact Ent.auto)) ?_
    refine Nx.forkF1 (i := 8) (by kernel_rfl) rfl rfl ?_
    refine Nx.sa (fun A2 c2 => ?_)
    refine Nx.mix_S (by (exact Ent.auto)) ?_
    refine Nx.forkF1 (i := 17) (by kernel_rfl) rfl rfl ?_
    refine Nx.ent (Ent.swap _ _ _) ?_
    refine Nx.sa (fun A3 c3 => ?_)
    refine Nx.mix_S (by (exact Ent.auto)) ?_
    refine Nx.forkF_fin (by kernel_rfl) (by kernel_rfl) rfl ?_
    repeat' first
      | ((with_reducible refine Nx.is_wp ?_); first | refine Nx.wo ?_ | refine Nx.zp (fun hc => ?_) (fun hc => ?_))
      | (refine Nx.zo ?_; first | refine Nx.opr rfl rfl ?_ | refine Nx.so ?_ | refine Nx.sb (fun bx => ?_) | refine Nx.sa (fun A2 c2 => ?_))
      | refine Nx.za ?_ | refine Nx.zr (fun hc => ?_) (fun hc => ?_)
      | refine Nx.zq ?_ | refine Nx.zu (fun hc => ?_) (fun hc => ?_)
      | refine Nx.zx ?_ | fail
    exact Nx.weak (by exact ⟨rfl, rfl, rfl, rfl, rfl, rfl, trivial⟩) (by rw [List.map_append]; (exact Ent.auto)) (h A2 c2 A3 c3)
set_option maxRecDepth 10000 in
theorem bstart_spec (n : Nat) (A : Option Addr) (c : Nat) (l : List EqR) (I : PH) (hl : Eqs I A c l) (hb : BEq n l) :
    FnSpec Tryz.prog 86 [.int .i64 (n : Int), .slice A l.length c] I []
      (fun v R' => ∃ (b : Nat) (ta : TA), v = .pointer (some ⟨b, 0, none⟩) ∧ (∀ i, i < l.length → (ta.ra i).1.isSome = true ∧ (ta.ra i).2 = (toQ n l).N + 1) ∧ (0 < l.length → ta.Ab.isSome = true) ∧
        R' = [Blk b 193 (tabV (toQ n l) ta (.slice none 0 0)), basisR (toQ n l) ta (toQ n l).s0.B, trowsR (toQ n l) ta (toQ n l).s0.T, outR l.length ((toQ n l).N + 1) ta.ra ta.Ar ta.cr]) := by
  have hn := hb.cnt
  have hlen := hb.len
  have hq := hb.small
  have hNN : (n : Int) + (l.length : Int) = ((toQ n l).N : Int) := by show _ = ((n + l.length : Nat) : Int); omega
  have hNb : (toQ n l).N ≤ 20 := by show n + l.length ≤ 20; omega
  obtain ⟨N1, hN1⟩ : ∃ N1, N1 = (toQ n l).N + 1 := ⟨_, rfl⟩
  have hN1i : ((toQ n l).N : Int) + 1 = (N1 : Int) := by omega
  have hV := fun (b : Nat) (vr vb vc : Value) => value_spec' b (toQ n l) hq vr vb vc I
  rw [show (((toQ n l).cnt : Nat) : Int) + (((toQ n l).m : Nat) : Int) = ((toQ n l).N : Int) from hNN] at hV
  refine FnSpec.enterP Tryz.func86 rfl Tryz.ntmps86 rfl fun w F => ?_
  repeat' first
    | ((with_reducible refine Nx.is_wp ?_); first | refine Nx.wo ?_ | refine Nx.zp (fun hc => ?_) (fun hc => ?_))
    | (refine Nx.zo ?_; first | refine Nx.opr rfl rfl ?_ | refine Nx.so ?_ | refine Nx.sb (fun bx => ?_) | refine Nx.sa (fun A2 c2 => ?_))
    | refine Nx.za ?_ | refine Nx.zr (fun hc => ?_) (fun hc => ?_)
    | refine Nx.zq ?_ | refine Nx.zu (fun hc => ?_) (fun hc => ?_)
    | refine Nx.zx ?_ | fail
  revert bx; intro b5
  refine Nx.p_loop (σ := Nat × (Option Addr × Nat) × (Option Addr × Nat) × (Nat → Option Addr × Nat)) (fun z => [(0, .int .i64 (n : Int)), (1, .slice A l.length c), (5, .pointer (some ⟨b5, 0, none⟩)), (16, .slice A l.length c), (17, .int .i64 (l.length : Int)), (18, .int .i64 (z.1 : Int))])
    (fun z => [Blk b5 193 (tabC (toQ n l) (.slice z.2.1.1 z.1 z.2.1.2) (.slice z.2.2.1.1 z.1 z.2.2.1.2) (.slice none 0 0)), outR z.1 N1 z.2.2.2 z.2.1.1 z.2.1.2, Vec 3 1 z.2.2.1.1 z.1 z.2.2.1.2 ((basN n z.1).map (Value.int .i64)), rowsN z.1 N1 z.2.2.2 (toQ n l).s0.T, F]) (fun z => z.1 ≤ l.length ∧ ∀ j, j < z.1 → (z.2.2.2 j).1.isSome = true ∧ (z.2.2.2 j).2 = (toQ n l).N + 1) (fun z => l.length - z.1) (0, (none, 0), (none, 0), fun _ => (none, 0)) rfl ⟨Nat.zero_le _, fun j hj => absurd hj (Nat.not_lt_zero _)⟩ ⟨rfl, rfl, rfl, rfl, rfl, rfl, trivial⟩ ((Ent.vec_nil 25 1 _).trans (Ent.trans (Ent.pick 0 rfl (Ent.vec_nil 3 1 _)) (Ent.trans (Ent.pick 0 rfl (Ent.pick 0 rfl (Ent.stars_nil _))) (by unfold rowsN outR outL basN; (exact Ent.auto))))) ?_
  rintro ⟨i, ⟨Ar, cr⟩, ⟨Ab, cb⟩, ra⟩ ⟨hi, hra⟩
  dsimp only at hi hra ⊢
  by_cases him : i < l.length
  case neg =>
    obtain rfl : i = l.length := by omega
    refine Nx.ent (R' := [Vec 3 1 Ab l.length cb ((basN n l.length).map (Value.int .i64)), Blk b5 193 (tabC (toQ n l) (.slice Ar l.length cr) (.slice Ab l.length cb) (.slice none 0 0)), outR l.length N1 ra Ar cr, rowsN l.length N1 ra (toQ n l).s0.T, F]) (by (exact Ent.auto)) ?_
    refine Nx.vec_fact fun _ _ _ hAb => ?_
    repeat' first
      | ((with_reducible refine Nx.is_wp ?_); first | refine Nx.wo ?_ | refine Nx.zp (fun hc => ?_) (fun hc => ?_))
      | (refine Nx.zo ?_; first | refine Nx.opr rfl rfl ?_ | refine Nx.so ?_ | refine Nx.sb (fun bx => ?_) | refine Nx.sa (fun A2 c2 => ?_))
      | refine Nx.za ?_ | refine Nx.zr (fun hc => ?_) (fun hc => ?_)
      | refine Nx.zq ?_ | refine Nx.zu (fun hc => ?_) (fun hc => ?_)
      | refine Nx.zx ?_ | fail
    refine Nx.ret_fn rfl [_, _, _, _] ⟨b5, ⟨Ar, cr, Ab, cb, ra⟩, rfl, hra, hAb, rfl⟩ ?_
    rw [← rowsN_all, ← hN1]
    unfold basisR basL
    (exact Ent.auto)
  have hm := getD_memQ him
  have hgood := hb.good _ hm
  have hval := hb.val _ hm
  have hin := hl.inner _ hm
  have hrds : ∀ (W : World) (R : List Res), Rds W I R ((ad A).add (i * 2)) (eqC (l.getD i default)) := fun W R => hl.outer.rds him
  have hrow := row_done hb him
  have hpos := hgood.val
  have hlt := hgood.lt
  have hA := hl.outer.isSome (by omega) (by omega)
  generalize l.getD i default = q at hval hin hrds hrow hpos hlt
  clear hgood
  obtain ⟨⟨Ax, cx, L⟩, vx⟩ := q
  dsimp only at hval hin hrow hpos hlt
  have hLl := hin.len
  repeat' first
    | ((with_reducible refine Nx.is_wp ?_); first | refine Nx.wo ?_ | refine Nx.zp (fun hc => ?_) (fun hc => ?_))
    | (refine Nx.zo ?_; first | refine Nx.opr rfl rfl ?_ | refine Nx.indexAddr_nat (A := A) (i := i) (sz := 2) rfl rfl rfl rfl rfl him hA ?_ | refine Nx.loads rfl rfl rfl rfl (hrds _ _) rfl ?_ | refine Nx.callv rfl rfl rfl (by kernel_rfl) rfl (bwhole_spec _ _) ?_ | (refine Nx.call rfl rfl rfl (by kernel_rfl) rfl (hV b5 _ _ _) (by (exact Ent.auto)) ?_; rintro _ _ ⟨rfl, rfl⟩) | refine Nx.bin rfl rfl (run_addK (by unfold I64; omega) hN1i) rfl ?_ | (refine Nx.call rfl rfl rfl (by kernel_rfl) rfl (RepeatF_spec ((0 : Int) : Rat) _ N1 (by omega) (by omega) I) (by (exact Ent.auto)) ?_; rintro _ _ ⟨br, rfl, rfl⟩) | refine Nx.so ?_ | refine Nx.sb (fun bx => ?_) | refine Nx.sa (fun A2 c2 => ?_))
    | refine Nx.za ?_ | refine Nx.zr (fun hc => ?_) (fun hc => ?_)
    | refine Nx.zq ?_ | refine Nx.zu (fun hc => ?_) (fun hc => ?_)
    | refine Nx.zx ?_ | fail
  rename_i b7
  refine Nx.p_loop (σ := Nat) (fun k => [(0, .int .i64 (n : Int)), (1, .slice A l.length c), (5, .pointer (some ⟨b5, 0, none⟩)), (6, .int .i64 (i : Int)), (7, .pointer (some ⟨b7, 0, none⟩)), (8, .slice (some ⟨br, 0, none⟩) N1 N1), (16, .slice A l.length c), (17, .int .i64 (l.length : Int)), (18, .int .i64 (i : Int)), (30, .slice Ax L.length cx), (31, .int .i64 (L.length : Int)), (32, .int .i64 (k : Int))])
    (fun k => [ratsR (some ⟨br, 0, none⟩) N1 N1 (rl N1 (rowP L k)), Blk b7 46 [.slice Ax L.length cx, .int .i64 vx], Blk b5 193 (tabC (toQ n l) (.slice Ar i cr) (.slice Ab i cb) (.slice none 0 0)), outR i N1 ra Ar cr, Vec 3 1 Ab i cb ((basN n i).map (Value.int .i64)), rowsN i N1 ra (toQ n l).s0.T, F]) (fun k => k ≤ L.length) (fun k => L.length - k) 0 rfl (Nat.zero_le _) ⟨rfl, rfl, rfl, rfl, rfl, rfl, rfl, rfl, rfl, rfl, rfl, rfl, trivial⟩ (by rw [rowP_zero]; (exact Ent.auto)) ?_
  intro k hk
  have hk : k ≤ L.length := hk
  by_cases hkL : k < L.length
  · have hrd : ∀ (W : World) (R : List Res), Rd W I R ((ad Ax).add (k * 1)) (.int .i64 (L.getD k default)) := fun W R => hin.rd hkL
    have hcb := hlt (L.getD k default) (by rw [List.getD_eq_getElem?_getD, List.getElem?_eq_getElem hkL]; exact List.getElem_mem _)
    obtain ⟨cN, hcN⟩ : ∃ cN : Nat, L.getD k default = (cN : Int) := ⟨(L.getD k default).toNat, by omega⟩
    have hup := rowP_succ hkL hcN
    have hset := rl_set (n := N1) (k := cN) (f := rowP L k) (v := (1 : Rat))
    rw [hup] at hset
    rw [hcN] at hrd hcb
    have hcN1 : cN < N1 := by
      have : (toQ n l).N = n + l.length := rfl
      omega
    repeat' first
      | ((with_reducible refine Nx.is_wp ?_); first | refine Nx.wo ?_ | refine Nx.zp (fun hc => ?_) (fun hc => ?_))
      | (refine Nx.zo ?_; first | refine Nx.opr rfl rfl ?_ | refine Nx.indexAddr_nat (A := Ax) (i := k) (sz := 1) rfl rfl rfl rfl rfl hkL (hin.isSome (by omega)) ?_ | refine Nx.load rfl rfl rfl (hrd _ _) ?_ | refine Nx.callv rfl rfl rfl (by kernel_rfl) rfl (bwhole_spec _ _) ?_ | refine Nx.indexAddr_nat (A := some ⟨br, 0, none⟩) (i := cN) (sz := 2) rfl rfl rfl rfl rfl hcN1 rfl ?_ | refine Nx.store_el2 (f := ratC) (a := fun q => .int .i64 q.num) (b := fun q => .int .i64 q.den) (A := some ⟨br, 0, none⟩) (l := rl N1 (rowP L k)) (i := cN) (z := (1 : Rat)) 0 rfl rfl rfl (fun _ => rfl) rfl rfl rfl rfl (by rw [rl_len]; exact hcN1) hcN1 ?_ | refine Nx.so ?_ | refine Nx.sb (fun bx => ?_) | refine Nx.sa (fun A2 c2 => ?_))
      | refine Nx.za ?_ | refine Nx.zr (fun hc => ?_) (fun hc => ?_)
      | refine Nx.zq ?_ | refine Nx.zu (fun hc => ?_) (fun hc => ?_)
      | refine Nx.zx ?_ | fail
    exact Nx.again (k + 1) hkL (by omega) ⟨rfl, rfl, rfl, rfl, rfl, rfl, rfl, rfl, rfl, rfl, rfl, rfl, trivial⟩ (by rw [← hset]; (exact Ent.auto))
  obtain rfl : k = L.length := by omega
  have hni : (n : Int) + (i : Int) = ((n + i : Nat) : Int) := by omega
  have hniN : n + i < N1 := by
    have : (toQ n l).N = n + l.length := rfl
    omega
  have hNN1 : (toQ n l).N < N1 := by omega
  have hset1 := rl_set (n := N1) (k := n + i) (f := rowP L L.length) (v := (1 : Rat))
  have hset2 := rl_set (n := N1) (k := (toQ n l).N) (f := updF (rowP L L.length) (n + i) 1) (v := (vx : Rat))
  have hrows : rl N1 (updF (updF (rowP L L.length) (n + i) 1) (toQ n l).N (vx : Rat)) = rl N1 ((toQ n l).s0.T i) := rl_congr fun k hk => hrow k (by omega)
  rw [hrows] at hset2
  have hset3 : ((rl N1 (rowP L L.length)).set (n + i) 1).set (toQ n l).N (vx : Rat) = rl N1 ((toQ n l).s0.T i) := by rw [hset1, hset2]
  repeat' first
    | ((with_reducible refine Nx.is_wp ?_); first | refine Nx.wo ?_ | refine Nx.p_drawF (id := 11) rfl [0, 1, 2, 3, 4, 5, 8, 9, 6, 7, 10, 11, 12, 13] [6, 7, 10, 12] [14] _ rfl rfl (by kernel_rfl) (by kernel_rfl) rfl PanicOk.auto (Ent.eraseK 0 _) ?_ | refine Nx.zp (fun hc => ?_) (fun hc => ?_))
    | (refine Nx.zo ?_; first | refine Nx.opr rfl rfl ?_ | refine Nx.callv rfl rfl rfl (by kernel_rfl) rfl (bwhole_spec _ _) ?_ | (refine Nx.call rfl rfl rfl (by kernel_rfl) rfl (hV b5 _ _ _) (by (exact Ent.auto)) ?_; rintro _ _ ⟨rfl, rfl⟩) | refine Nx.store_el2 (f := ratC) (a := fun q => .int .i64 q.num) (b := fun q => .int .i64 q.den) (A := some ⟨br, 0, none⟩) (l := rl N1 (rowP L L.length)) (i := n + i) (z := (1 : Rat)) 1 rfl rfl rfl (fun _ => rfl) rfl rfl rfl rfl (by rw [rl_len]; exact hniN) hniN ?_ | refine Nx.store_el2 (f := ratC) (a := fun q => .int .i64 q.num) (b := fun q => .int .i64 q.den) (A := some ⟨br, 0, none⟩) (l := (rl N1 (rowP L L.length)).set (n + i) 1) (i := (toQ n l).N) (z := (vx : Rat)) 0 rfl rfl rfl (fun _ => rfl) rfl rfl rfl rfl (by rw [List.length_set, rl_len]; exact hNN1) hNN1 ?_ | refine Nx.so ?_ | refine Nx.sb (fun bx => ?_) | refine Nx.sa (fun A2 c2 => ?_))
    | refine Nx.za ?_ | refine Nx.zr (fun hc => ?_) (fun hc => ?_)
    | ((with_reducible refine Nx.is_mix ?_); first | refine Nx.m_quiet rfl rfl rfl rfl rfl (by first | exact QRun.opr rfl | exact QRun.bin rfl rfl (run_addK (by unfold I64; omega) hni) | exact QRun.idx (A := some ⟨br, 0, none⟩) (i := n + i) (sz := 2) rfl rfl rfl rfl hniN rfl | exact QRun.idx (A := some ⟨br, 0, none⟩) (i := (toQ n l).N) (sz := 2) rfl rfl rfl rfl hNN1 rfl) ?_ | refine Nx.m_quiet_do rfl rfl rfl rfl rfl rfl rfl (by first | exact QRun.opr rfl | exact QRun.bin rfl rfl (run_addK (by unfold I64; omega) hni) | exact QRun.idx (A := some ⟨br, 0, none⟩) (i := n + i) (sz := 2) rfl rfl rfl rfl hniN rfl | exact QRun.idx (A := some ⟨br, 0, none⟩) (i := (toQ n l).N) (sz := 2) rfl rfl rfl rfl hNN1 rfl) ?_ | refine Nx.m ?_ | refine Nx.zm ?_ | refine Nx.zt (fun hc => ?_) (fun hc => ?_))
    | refine Nx.zx ?_ | fail
  have hos : (outL i N1 ra).length = i := by unfold outL; rw [List.length_map, List.length_range]
  have hbs : (basN n i).length = i := by unfold basN; rw [List.length_map, List.length_range]
  refine Nx.weak (by exact ⟨rfl, rfl, rfl, rfl, rfl, rfl, rfl, rfl, trivial⟩) ?_ (start12 w _ PanicOk.auto [ratsR (some ⟨br, 0, none⟩) N1 N1 (rl N1 ((toQ n l).s0.T i)), rowsN i N1 ra (toQ n l).s0.T, F] b5 i (n : Int) (.slice A l.length c) (.slice A l.length c) (.int .i64 l.length) (.int .i64 ((toQ n l).cnt : Int)) (.int .i64 ((toQ n l).m : Int)) (.slice none 0 0) (.slice (some ⟨br, 0, none⟩) N1 N1) Ar Ab cr cb (outL i N1 ra) (basN n i) I hos hbs (by omega) (by omega) ⟨_, _, _, rfl⟩ fun A2 c2 A3 c3 => ?_)
  · rw [← hset3]; (exact Ent.auto)
  rw [hni, ← basN_succ, ← outL_succ (A := some ⟨br, 0, none⟩) (c := N1)]
  repeat' first
    | ((with_reducible refine Nx.is_wp ?_); first | refine Nx.wo ?_ | refine Nx.zp (fun hc => ?_) (fun hc => ?_))
    | (refine Nx.zo ?_; first | refine Nx.opr rfl rfl ?_ | refine Nx.so ?_ | refine Nx.sb (fun bx => ?_) | refine Nx.sa (fun A2 c2 => ?_))
    | refine Nx.za ?_ | refine Nx.zr (fun hc => ?_) (fun hc => ?_)
    | refine Nx.zq ?_ | refine Nx.zu (fun hc => ?_) (fun hc => ?_)
    | refine Nx.zx ?_ | fail
  refine Nx.again (i + 1, (A2, c2), (A3, c3), fun a => if a = i then (some ⟨br, 0, none⟩, N1) else ra a) ⟨him, fun j hj => ?_⟩ (by dsimp only; omega) ⟨rfl, rfl, rfl, rfl, rfl, rfl, trivial⟩ ?_
  · dsimp only
    by_cases hji : j = i
    · rw [if_pos hji]; exact ⟨rfl, hN1⟩
    · rw [if_neg hji]; exact hra j (by dsimp only at hj; omega)
  · dsimp only
    refine Ent.trans (R' := [ratsR (some ⟨br, 0, none⟩) N1 N1 (rl N1 ((toQ n l).s0.T i)), rowsN i N1 ra (toQ n l).s0.T, Blk b5 193 (tabC (toQ n l) (.slice A2 (i + 1) c2) (.slice A3 (i + 1) c3) (.slice none 0 0)), outR (i + 1) N1 (fun a => if a = i then (some ⟨br, 0, none⟩, N1) else ra a) A2 c2, Vec 3 1 A3 (i + 1) c3 ((basN n (i + 1)).map (Value.int .i64)), F]) (by (exact Ent.auto)) ?_
    exact rowsN_succ.trans (by (exact Ent.auto))
end Go.Proofs.YtpcnapidlhpbkaaGreatDoor
namespace Go.Proofs.YtpcnapidlhpbkaaGreatDoor
open Go.Eng Go.Sol
theorem Rds.get {W : World} {I : PH} {R : List Res} {A : Addr} {vs : List Value} {u : Value} (h : Rds W I R A vs) (j : Nat) (hj : nthL vs j = some u) : Rd W I R (A.add j) u := h j u (nthL_eq.symm.trans hj)
attribute [local irreducible] opK wpList Code.wp Exit.then Exit.inBlock fnPost bodyPost Nx Calls Oper.wp Rd Rds Wr Ent Stars Blk Again Vec FnSpec wpMix QRun Stop Upto wpAt
set_option maxRecDepth 10000 in
theorem IndexFuncF_spec (A : Option Addr) (c : Nat) (l : List Rat) (I : PH) (hl : Rats I A c l) :
    FnSpec Tryz.prog 101 [.slice A l.length c, .func (.func 154) #[] #[]] I []
      (fun v R' => ((v = .int .i64 (-1) ∧ ∀ k, k < l.length → l.getD k default = 0) ∨ ∃ k : Nat, v = .int .i64 (k : Int) ∧ k < l.length ∧ l.getD k default ≠ 0) ∧ R' = []) := by
  have hlen := hl.len
  refine FnSpec.enterP Tryz.func101 rfl Tryz.ntmps101 rfl fun w F => ?_
  repeat' first
    | ((with_reducible refine Nx.is_wp ?_); first | refine Nx.wo ?_ | refine Nx.zp (fun hc => ?_) (fun hc => ?_))
    | (refine Nx.zo ?_; first | refine Nx.opr rfl rfl ?_ | refine Nx.so ?_ | refine Nx.sb (fun bx => ?_) | refine Nx.sa (fun A2 c2 => ?_))
    | refine Nx.za ?_ | refine Nx.zr (fun hc => ?_) (fun hc => ?_)
    | refine Nx.zq ?_ | refine Nx.zu (fun hc => ?_) (fun hc => ?_)
    | refine Nx.zx ?_ | fail
  refine Nx.p_loop (σ := Nat) (fun k => [(0, .slice A l.length c), (1, .func (.func 154) #[] #[]), (7, .int .i64 l.length), (8, .int .i64 (k : Int))])
    (fun _ => [F]) (fun k => k ≤ l.length ∧ ∀ j, j < k → l.getD j default = 0) (fun k => l.length - k) 0 rfl ⟨Nat.zero_le _, fun j hj => absurd hj (Nat.not_lt_zero _)⟩ ⟨rfl, rfl, rfl, rfl, trivial⟩ (Ent.refl _) ?_
  rintro k ⟨hk, hno⟩
  by_cases hkl : k < l.length
  case neg =>
    obtain rfl : k = l.length := by omega
    repeat' first
      | ((with_reducible refine Nx.is_wp ?_); first | refine Nx.wo ?_ | refine Nx.zp (fun hc => ?_) (fun hc => ?_))
      | (refine Nx.zo ?_; first | refine Nx.opr rfl rfl ?_ | refine Nx.so ?_ | refine Nx.sb (fun bx => ?_) | refine Nx.sa (fun A2 c2 => ?_))
      | refine Nx.za ?_ | refine Nx.zr (fun hc => ?_) (fun hc => ?_)
      | refine Nx.zq ?_ | refine Nx.zu (fun hc => ?_) (fun hc => ?_)
      | refine Nx.zx ?_ | fail
    exact Nx.ret_fn rfl [] ⟨.inl ⟨rfl, hno⟩, rfl⟩ (by (exact Ent.auto))
  have hrd : ∀ (W : World) (R : List Res), Rds W I R ((ad A).add (k * 2)) (ratC (l.getD k default)) := fun W R => hl.rds hkl
  have hA := hl.isSome (by omega) (by omega)
  obtain ⟨x, hx⟩ : ∃ x, x = l.getD k default := ⟨_, rfl⟩
  rw [← hx] at hrd
  have hP : FnSpec Tryz.prog 154 [.agg #[.int .i64 x.num, .int .i64 x.den]] I [] (fun v R' => v = .bool (decide (x.num ≠ 0)) ∧ R' = []) := by
    refine FnSpec.enterP Tryz.func154 rfl Tryz.ntmps154 rfl fun w F => ?_
    repeat' first
      | ((with_reducible refine Nx.is_wp ?_); first | refine Nx.wo ?_ | refine Nx.zp (fun hc => ?_) (fun hc => ?_))
      | (refine Nx.zo ?_; first | refine Nx.opr rfl rfl ?_ | refine Nx.so ?_ | refine Nx.sb (fun bx => ?_) | refine Nx.sa (fun A2 c2 => ?_))
      | refine Nx.za ?_ | refine Nx.zr (fun hc => ?_) (fun hc => ?_)
      | refine Nx.zq ?_ | refine Nx.zu (fun hc => ?_) (fun hc => ?_)
      | refine Nx.zx ?_ | fail
    exact Nx.ret_fn rfl [] ⟨rfl, rfl⟩ (by (exact Ent.auto))
  by_cases h0 : x = 0
  · rw [decide_eq_false (show ¬ x.num ≠ 0 by rw [h0]; exact fun h => h rfl)] at hP
    repeat' first
      | ((with_reducible refine Nx.is_wp ?_); first | refine Nx.wo ?_ | refine Nx.zp (fun hc => ?_) (fun hc => ?_))
      | (refine Nx.zo ?_; first | refine Nx.opr rfl rfl ?_ | refine Nx.indexAddr_nat (A := A) (i := k) (sz := 2) rfl rfl rfl rfl rfl hkl hA ?_ | refine Nx.loads rfl rfl rfl rfl (hrd _ _) rfl ?_ | refine Nx.callv rfl rfl rfl (by kernel_rfl) rfl hP ?_ | refine Nx.so ?_ | refine Nx.sb (fun bx => ?_) | refine Nx.sa (fun A2 c2 => ?_))
      | refine Nx.za ?_ | refine Nx.zr (fun hc => ?_) (fun hc => ?_)
      | refine Nx.zq ?_ | refine Nx.zu (fun hc => ?_) (fun hc => ?_)
      | refine Nx.zx ?_ | fail
    refine Nx.again (k + 1) ⟨hkl, fun j hj => ?_⟩ (by omega) ⟨rfl, rfl, rfl, rfl, trivial⟩ (Ent.refl _)
    by_cases hjk : j < k
    · exact hno j hjk
    · obtain rfl : j = k := by omega
      rw [← hx]; exact h0
  · rw [decide_eq_true (show x.num ≠ 0 from rat_ne h0)] at hP
    repeat' first
      | ((with_reducible refine Nx.is_wp ?_); first | refine Nx.wo ?_ | refine Nx.zp (fun hc => ?_) (fun hc => ?_))
      | (refine Nx.zo ?_; first | refine Nx.opr rfl rfl ?_ | refine Nx.indexAddr_nat (A := A) (i := k) (sz := 2) rfl rfl rfl rfl rfl hkl hA ?_ | refine Nx.loads rfl rfl rfl rfl (hrd _ _) rfl ?_ | refine Nx.callv rfl rfl rfl (by kernel_rfl) rfl hP ?_ | refine Nx.so ?_ | refine Nx.sb (fun bx => ?_) | refine Nx.sa (fun A2 c2 => ?_))
      | refine Nx.za ?_ | refine Nx.zr (fun hc => ?_) (fun hc => ?_)
      | refine Nx.zq ?_ | refine Nx.zu (fun hc => ?_) (fun hc => ?_)
      | refine Nx.zx ?_ | fail
    exact Nx.ret_fn rfl [] ⟨.inr ⟨k, rfl, hkl, by rw [← hx]; exact h0⟩, rfl⟩ (by (exact Ent.auto))
theorem cs1_cost (q : Bl.Eqs) : rl q.N (cs1 q (-1) q.N) = rl q.N (Bl.cst (Bl.cost1 q)) := rl_congr fun k hk => by
  unfold cs1 Bl.cst Bl.cost1
  by_cases h : q.cnt ≤ k
  · rw [if_pos ⟨h, hk⟩, if_neg (by omega)]
  · rw [if_neg (by omega), if_pos (by omega)]; rfl
theorem Arr.pre {I : PH} {A : Option Addr} {xs ys : List Value} (h : Arr I A (xs ++ ys)) : Arr I A xs := fun j u hj => h j u (by rw [List.getElem?_append_left (List.getElem?_eq_some_iff.1 hj).1]; exact hj)
theorem rl_pre {n m : Nat} (h : n ≤ m) (f : Nat → Rat) : ∃ l, rl m f = rl n f ++ l := by
  obtain ⟨d, rfl⟩ : ∃ d, m = n + d := ⟨m - n, by omega⟩
  induction d with
  | zero => exact ⟨[], by rw [List.append_nil]; rfl⟩
  | succ d ih =>
    obtain ⟨l, hl⟩ := ih (by omega)
    exact ⟨l ++ [f (n + d)], by rw [← Nat.add_assoc, rl_succ, hl, List.append_assoc]⟩
theorem Rats.pre {I : PH} {A : Option Addr} {c n m : Nat} {f : Nat → Rat} (h : Rats I A c (rl m f)) (hn : n ≤ m) : Rats I A c (rl n f) := by
  obtain ⟨l, hl⟩ := rl_pre hn f
  have h1 := h.arr
  rw [hl, List.flatMap_append] at h1
  have h2 := h.cap
  rw [rl_len] at h2
  exact ⟨Arr.pre h1, by rw [rl_len]; omega, h.max, fun _ _ => rfl⟩
theorem row_frozen {q : Bl.Eqs} {ta : TA} {T : Nat → Nat → Rat} {m I' : PH} (hm : PH.le m I') (h : Stars [trowsR q ta T] m) {i : Nat} (hi : i < q.m) : Rats I' (ta.ra i).1 (ta.ra i).2 (rl (q.N + 1) (T i)) := by
  obtain ⟨m2, d2, h2⟩ := Stars.get 0 h rfl
  obtain ⟨m3, d3, h3⟩ := Stars.nth (i := i) h2 (by rw [List.getElem?_map]; unfold rowsL; rw [List.getElem?_map, List.getElem?_range hi]; rfl)
  have h3 : Vec 24 2 (ta.ra i).1 (q.N + 1) (ta.ra i).2 ((rl (q.N + 1) (T i)).flatMap ratC) m3 := h3
  exact Vec.sliceN (t := 24) (l := rl (q.N + 1) (T i)) ((d3.trans d2).trans hm) (by rw [rl_len]; exact h3) fun _ _ => rfl
theorem bas_rd {W : World} {I : PH} {R : List Res} {q : Bl.Eqs} {ta : TA} {B : Nat → Nat} {i : Nat} (k : Nat) (hk : nthL R k = some (basisR q ta B)) (hi : i < q.m) : Rd W I R ((ad ta.Ab).add (i * 1)) (.int .i64 (B i : Int)) := by
  have := Rd.vecEl (W := W) (I := I) (R := R) (f := Value.int .i64) (l := basL q B) (i := i) (A := ta.Ab) (n := q.m) (c := ta.cb) (t := 3) k hk (by rw [basL_len]; exact hi)
  rwa [basL_at hi] at this
set_option maxRecDepth 10000 in
theorem possible_spec (b : Nat) (q : Bl.Eqs) (hq : q.Small) (hc1 : 1 ≤ q.cnt) (ta : TA) (vc : Value) (I : PH) (hT : TabI I)
    (ho : SliceOf (fun i : Nat => Value.slice (ta.ra i).1 (q.N + 1) (ta.ra i).2) I ta.Ar ta.cr (List.range q.m)) (hra0 : ∀ i, i < q.m → (ta.ra i).1.isSome = true ∧ (ta.ra i).2 = q.N + 1) (hAb : 0 < q.m → ta.Ab.isSome = true) :
    FnSpec Tryz.prog 87 [.pointer (some ⟨b, 0, none⟩)] I [Blk b 193 (tabV q ta vc), basisR q ta q.s0.B, trowsR q ta q.s0.T]
      (fun v R' => ∃ (s : Bl.Tab) (bo : Bool) (vc' : Value), v = .bool bo ∧ (bo = true ↔ ∃ x, Bl.Feas q x) ∧ (bo = true → Bl.Rdy q s) ∧ R' = [Blk b 193 (tabV q ta vc'), basisR q ta s.B, trowsR q ta s.T]) := by
  have h1 := hq.cnt
  have h2 := hq.m
  have hN : (q.cnt : Int) + (q.m : Int) = (q.N : Int) := by show _ = ((q.cnt + q.m : Nat) : Int); omega
  have hra := fun i hi => (hra0 i hi).1
  have hA := aim_spec b q hq hc1 (.slice ta.Ar q.m ta.cr) (.slice ta.Ab q.m ta.cb) vc none 0 (-1) (fun c h => by cases h) (by decide) (by decide) I
  refine FnSpec.enterP Tryz.func87 rfl Tryz.ntmps87 rfl fun w F => ?_
  repeat' first
    | ((with_reducible refine Nx.is_wp ?_); first | refine Nx.p_stopr 2 rfl ?_ | refine Nx.wo ?_ | refine Nx.zp (fun hc => ?_) (fun hc => ?_))
    | (refine Nx.zo ?_; first | refine Nx.opr rfl rfl ?_ | (refine Nx.call rfl rfl rfl (by kernel_rfl) rfl hA (by (exact Ent.auto)) ?_; rintro _ _ ⟨bc, rfl⟩) | refine Nx.so ?_ | refine Nx.sb (fun bx => ?_) | refine Nx.sa (fun A2 c2 => ?_))
    | refine Nx.za ?_ | refine Nx.zr (fun hc => ?_) (fun hc => ?_)
    | refine Nx.zq ?_ | refine Nx.zu (fun hc => ?_) (fun hc => ?_)
    | refine Nx.zx ?_ | fail
  refine Nx.unstop ?_
  refine Nx.ent (R' := [ratsR (some ⟨bc, 0, none⟩) q.N q.N (rl q.N (Bl.cst (Bl.cost1 q))), Blk b 193 (tabV q ta (.slice (some ⟨bc, 0, none⟩) q.N q.N)), basisR q ta q.s0.B, trowsR q ta q.s0.T, F]) (by rw [← cs1_cost]; (exact Ent.auto)) ?_
  refine Nx.freezeAt 0 rfl fun I2 m2 hI2 hm2 hf2 => ?_
  have hcost : Rats I2 (some ⟨bc, 0, none⟩) q.N (rl q.N (Bl.cst (Bl.cost1 q))) := Vec.sliceN (t := 24) hm2 (by rw [rl_len]; exact hf2) fun _ _ => rfl
  replace ho := ho.mono hI2
  replace hT := tab_mono hI2 hT
  have hIm := improve_spec b q hq ta q.s0 (Bl.s0_inv hq) (Bl.cost1 q) (Bl.cost1_bd q) (some ⟨bc, 0, none⟩) q.N I2 hT hcost ho hra hAb
  repeat' first
    | ((with_reducible refine Nx.is_wp ?_); first | refine Nx.wo ?_ | refine Nx.zp (fun hc => ?_) (fun hc => ?_))
    | (refine Nx.zo ?_; first | refine Nx.opr rfl rfl ?_ | refine Nx.makeFunc (v1 := [.pointer (some ⟨b, 0, none⟩)]) (v2 := []) rfl rfl rfl ?_ | (refine Nx.call rfl rfl rfl (by kernel_rfl) rfl hIm (by (exact Ent.auto)) ?_; rintro _ _ ⟨s1, bo1, rfl, hrun, rfl⟩) | refine Nx.so ?_ | refine Nx.sb (fun bx => ?_) | refine Nx.sa (fun A2 c2 => ?_))
    | refine Nx.za ?_ | refine Nx.zr (fun hc => ?_) (fun hc => ?_)
    | refine Nx.zq ?_ | refine Nx.zu (fun hc => ?_) (fun hc => ?_)
    | refine Nx.zx ?_ | fail
  have hinv := hrun.inv2 (Bl.s0_inv2 hq)
  have hph := Bl.phase1 hrun hq
  have ror := fun (W : World) (Q : List Res) (i : Nat) (hi : i < q.m) => (by
    have := ho.rd (W := W) (R := Q) (k := i) (by rw [List.length_range]; exact hi)
    rwa [range_getD hi] at this : Rd W I2 Q ((ad ta.Ar).add (i * 1)) (.slice (ta.ra i).1 (q.N + 1) (ta.ra i).2))
  have hV := fun vc => value_spec' b q hq (.slice ta.Ar q.m ta.cr) (.slice ta.Ab q.m ta.cb) vc I2
  rw [hN] at hV
  refine Nx.p_loop (σ := Nat) (fun i => [(0, .pointer (some ⟨b, 0, none⟩)), (19, .slice ta.Ab q.m ta.cb), (20, .int .i64 (q.m : Int)), (21, .int .i64 (i : Int))])
    (fun _ => [Blk b 193 (tabV q ta (.slice (some ⟨bc, 0, none⟩) q.N q.N)), basisR q ta s1.B, trowsR q ta s1.T, F]) (fun i => i ≤ q.m ∧ ∀ j, j < i → q.cnt ≤ s1.B j → s1.T j q.N = 0) (fun i => q.m - i) 0 rfl ⟨Nat.zero_le _, fun j hj => absurd hj (Nat.not_lt_zero _)⟩ ⟨rfl, rfl, rfl, rfl, trivial⟩ (by (exact Ent.auto)) ?_
  rintro i ⟨hi, hz⟩
  by_cases him : i < q.m
  · have hAb' := hAb (by omega)
    have hbr := fun (W : World) (R : List Res) (j : Nat) (hj : nthL R j = some (basisR q ta s1.B)) => bas_rd (W := W) (I := I2) j hj him
    have hnr := fun (W : World) (R : List Res) (j : Nat) (hj : nthL R j = some (trowsR q ta s1.T)) => Rds.get (num_rds (W := W) (I := I2) j hj him (show q.N < q.N + 1 by omega)) 0 (u := .int .i64 (s1.T i q.N).num) rfl
    have hAr : ta.Ar.isSome = true := ho.isSome (by rw [List.length_range]; omega)
    have hri := hra i him
    have roi := fun (W : World) (Q : List Res) => ror W Q i him
    have hzi : (s1.B i < q.cnt ∨ s1.T i q.N = 0) → ∀ j, j < i + 1 → q.cnt ≤ s1.B j → s1.T j q.N = 0 := fun hh j hj hb => by
      by_cases hji : j < i
      · exact hz j hji hb
      · obtain rfl : j = i := by omega
        exact hh.resolve_left (by omega)
    have hbad : q.cnt ≤ s1.B i → s1.T i q.N ≠ 0 → ¬ ∃ x, Bl.Feas q x := fun hb hne hex => hne (hph.2 hex i him hb)
    obtain ⟨xn, hxn⟩ : ∃ xn, xn = s1.T i q.N := ⟨_, rfl⟩
    rw [← hxn] at hnr hzi hbad
    generalize s1.B i = Bi at hbr hzi hbad
    by_cases hB : q.cnt ≤ Bi
    case neg =>
      repeat' first
        | ((with_reducible refine Nx.is_wp ?_); first | refine Nx.wo ?_ | refine Nx.p_drawF (id := 6) rfl [0, 1, 2, 3, 4, 5, 6, 7, 8, 9, 10, 11, 12, 13, 14, 15, 16, 17, 18, 19, 20] [15] [] _ rfl rfl (by kernel_rfl) (by kernel_rfl) rfl PanicOk.auto (Ent.refl _) ?_ | refine Nx.p_drawF (id := 13) rfl [0, 1, 2, 3, 4, 5, 6, 7, 8, 9, 10, 11] [] [12, 13] _ rfl rfl (by kernel_rfl) (by kernel_rfl) rfl PanicOk.auto (Ent.refl _) ?_ | refine Nx.zp (fun hc => ?_) (fun hc => ?_))
        | (refine Nx.zo ?_; first | refine Nx.opr rfl rfl ?_ | refine Nx.indexAddr_nat (A := ta.Ab) (i := i) (sz := 1) rfl rfl rfl rfl rfl him hAb' ?_ | refine Nx.load rfl rfl rfl (hbr _ _ 1 rfl) ?_ | refine Nx.so ?_ | refine Nx.sb (fun bx => ?_) | refine Nx.sa (fun A2 c2 => ?_))
        | refine Nx.za ?_ | refine Nx.zr (fun hc => ?_) (fun hc => ?_)
        | refine Nx.zq ?_ | refine Nx.zu (fun hc => ?_) (fun hc => ?_)
        | refine Nx.zx ?_ | fail
      exact Nx.again (i + 1) ⟨him, hzi (.inl (by omega))⟩ (by omega) ⟨rfl, rfl, rfl, rfl, trivial⟩ (by (exact Ent.auto))
    by_cases hx0 : xn = 0
    · have hn0 : xn.num = 0 := by rw [hx0]; rfl
      repeat' first
        | ((with_reducible refine Nx.is_wp ?_); first | refine Nx.wo ?_ | refine Nx.p_drawF (id := 6) rfl [0, 1, 2, 3, 4, 5, 6, 7, 8, 9, 10, 11, 12, 13, 14, 15, 16, 17, 18, 19, 20] [15] [] _ rfl rfl (by kernel_rfl) (by kernel_rfl) rfl PanicOk.auto (Ent.refl _) ?_ | refine Nx.p_drawF (id := 13) rfl [0, 1, 2, 3, 4, 5, 6, 7, 8, 9, 10, 11] [] [12, 13] _ rfl rfl (by kernel_rfl) (by kernel_rfl) rfl PanicOk.auto (Ent.refl _) ?_ | refine Nx.zp (fun hc => ?_) (fun hc => ?_))
        | (refine Nx.zo ?_; first | refine Nx.opr rfl rfl ?_ | refine Nx.indexAddr_nat (A := ta.Ab) (i := i) (sz := 1) rfl rfl rfl rfl rfl him hAb' ?_ | refine Nx.load rfl rfl rfl (hbr _ _ 1 rfl) ?_ | (refine Nx.call rfl rfl rfl (by kernel_rfl) rfl (hV _) (by (exact Ent.auto)) ?_; rintro _ _ ⟨rfl, rfl⟩) | refine Nx.so ?_ | refine Nx.sb (fun bx => ?_) | refine Nx.sa (fun A2 c2 => ?_))
        | refine Nx.za ?_ | refine Nx.zr (fun hc => ?_) (fun hc => ?_)
        | ((with_reducible refine Nx.is_mix ?_); first | refine Nx.m_quiet rfl rfl rfl rfl rfl (by first | exact QRun.fld (A := (ad (ta.ra i).1).add (q.N * 2)) rfl rfl | exact QRun.opr rfl | exact QRun.idx (A := ta.Ar) (i := i) (sz := 1) rfl rfl rfl rfl him hAr | exact QRun.load rfl rfl (roi _ _) | exact QRun.idx (A := (ta.ra i).1) (i := q.N) (sz := 2) rfl rfl rfl rfl (by omega) hri | exact QRun.load rfl rfl (hnr _ _ 2 rfl)) ?_ | refine Nx.m_quiet_do rfl rfl rfl rfl rfl rfl rfl (by first | exact QRun.fld (A := (ad (ta.ra i).1).add (q.N * 2)) rfl rfl | exact QRun.opr rfl | exact QRun.idx (A := ta.Ar) (i := i) (sz := 1) rfl rfl rfl rfl him hAr | exact QRun.load rfl rfl (roi _ _) | exact QRun.idx (A := (ta.ra i).1) (i := q.N) (sz := 2) rfl rfl rfl rfl (by omega) hri | exact QRun.load rfl rfl (hnr _ _ 2 rfl)) ?_ | refine Nx.m ?_ | refine Nx.zm ?_ | refine Nx.zt (fun hc => ?_) (fun hc => ?_))
        | refine Nx.zx ?_ | fail
      exact Nx.again (i + 1) ⟨him, hzi (.inr hx0)⟩ (by omega) ⟨rfl, rfl, rfl, rfl, trivial⟩ (by (exact Ent.auto))
    · have hn0 : xn.num ≠ 0 := rat_ne hx0
      repeat' first
        | ((with_reducible refine Nx.is_wp ?_); first | refine Nx.wo ?_ | refine Nx.p_drawF (id := 6) rfl [0, 1, 2, 3, 4, 5, 6, 7, 8, 9, 10, 11, 12, 13, 14, 15, 16, 17, 18, 19, 20] [15] [] _ rfl rfl (by kernel_rfl) (by kernel_rfl) rfl PanicOk.auto (Ent.refl _) ?_ | refine Nx.p_drawF (id := 13) rfl [0, 1, 2, 3, 4, 5, 6, 7, 8, 9, 10, 11] [] [12, 13] _ rfl rfl (by kernel_rfl) (by kernel_rfl) rfl PanicOk.auto (Ent.refl _) ?_ | refine Nx.zp (fun hc => ?_) (fun hc => ?_))
        | (refine Nx.zo ?_; first | refine Nx.opr rfl rfl ?_ | refine Nx.indexAddr_nat (A := ta.Ab) (i := i) (sz := 1) rfl rfl rfl rfl rfl him hAb' ?_ | refine Nx.load rfl rfl rfl (hbr _ _ 1 rfl) ?_ | (refine Nx.call rfl rfl rfl (by kernel_rfl) rfl (hV _) (by (exact Ent.auto)) ?_; rintro _ _ ⟨rfl, rfl⟩) | refine Nx.so ?_ | refine Nx.sb (fun bx => ?_) | refine Nx.sa (fun A2 c2 => ?_))
        | refine Nx.za ?_ | refine Nx.zr (fun hc => ?_) (fun hc => ?_)
        | ((with_reducible refine Nx.is_mix ?_); first | refine Nx.m_quiet rfl rfl rfl rfl rfl (by first | exact QRun.fld (A := (ad (ta.ra i).1).add (q.N * 2)) rfl rfl | exact QRun.opr rfl | exact QRun.idx (A := ta.Ar) (i := i) (sz := 1) rfl rfl rfl rfl him hAr | exact QRun.load rfl rfl (roi _ _) | exact QRun.idx (A := (ta.ra i).1) (i := q.N) (sz := 2) rfl rfl rfl rfl (by omega) hri | exact QRun.load rfl rfl (hnr _ _ 2 rfl)) ?_ | refine Nx.m_quiet_do rfl rfl rfl rfl rfl rfl rfl (by first | exact QRun.fld (A := (ad (ta.ra i).1).add (q.N * 2)) rfl rfl | exact QRun.opr rfl | exact QRun.idx (A := ta.Ar) (i := i) (sz := 1) rfl rfl rfl rfl him hAr | exact QRun.load rfl rfl (roi _ _) | exact QRun.idx (A := (ta.ra i).1) (i := q.N) (sz := 2) rfl rfl rfl rfl (by omega) hri | exact QRun.load rfl rfl (hnr _ _ 2 rfl)) ?_ | refine Nx.m ?_ | refine Nx.zm ?_ | refine Nx.zt (fun hc => ?_) (fun hc => ?_))
        | refine Nx.zx ?_ | fail
      exact Nx.imm_le hI2 (Nx.ret_fn rfl [_, _, _] ⟨s1, false, _, rfl, ⟨fun h => (by cases h), fun h => absurd h (hbad hB hx0)⟩, fun h => (by cases h), rfl⟩ (by (exact Ent.auto)))
  obtain rfl : i = q.m := by omega
  have hart : Bl.Art0 q s1 := hz
  have hfeas := hph.1 hart
  repeat' first
    | ((with_reducible refine Nx.is_wp ?_); first | refine Nx.wo ?_ | refine Nx.zp (fun hc => ?_) (fun hc => ?_))
    | (refine Nx.zo ?_; first | refine Nx.opr rfl rfl ?_ | refine Nx.so ?_ | refine Nx.sb (fun bx => ?_) | refine Nx.sa (fun A2 c2 => ?_))
    | refine Nx.za ?_ | refine Nx.zr (fun hc => ?_) (fun hc => ?_)
    | refine Nx.zq ?_ | refine Nx.zu (fun hc => ?_) (fun hc => ?_)
    | refine Nx.zx ?_ | fail
  refine Nx.p_loop (σ := Nat × Bl.Tab) (fun z => [(0, .pointer (some ⟨b, 0, none⟩)), (51, .slice ta.Ab q.m ta.cb), (52, .int .i64 (q.m : Int)), (53, .int .i64 (z.1 : Int))])
    (fun z => [Blk b 193 (tabV q ta (.slice (some ⟨bc, 0, none⟩) q.N q.N)), basisR q ta z.2.B, trowsR q ta z.2.T, F]) (fun z => z.1 ≤ q.m ∧ Bl.Inv2 q z.2 ∧ Bl.Art0 q z.2 ∧ Bl.Zer q z.2 z.1) (fun z => q.m - z.1) (0, s1) rfl ⟨Nat.zero_le _, hinv, hart, fun i hi => absurd hi (Nat.not_lt_zero _)⟩ ⟨rfl, rfl, rfl, rfl, trivial⟩ (by (exact Ent.auto)) ?_
  rintro ⟨i, s⟩ ⟨hi, hs, ha, hzr⟩
  dsimp only at hi hs ha hzr ⊢
  by_cases him : i < q.m
  case neg =>
    obtain rfl : i = q.m := by omega
    repeat' first
      | ((with_reducible refine Nx.is_wp ?_); first | refine Nx.wo ?_ | refine Nx.zp (fun hc => ?_) (fun hc => ?_))
      | (refine Nx.zo ?_; first | refine Nx.opr rfl rfl ?_ | refine Nx.so ?_ | refine Nx.sb (fun bx => ?_) | refine Nx.sa (fun A2 c2 => ?_))
      | refine Nx.za ?_ | refine Nx.zr (fun hc => ?_) (fun hc => ?_)
      | refine Nx.zq ?_ | refine Nx.zu (fun hc => ?_) (fun hc => ?_)
      | refine Nx.zx ?_ | fail
    exact Nx.imm_le hI2 (Nx.ret_fn rfl [_, _, _] ⟨s, true, _, rfl, ⟨fun _ => hfeas, fun _ => rfl⟩, fun _ => ⟨hs, ha, hzr⟩, rfl⟩ (by (exact Ent.auto)))
  have hAb' := hAb (by omega)
  have hbr := fun (W : World) (R : List Res) (j : Nat) (hj : nthL R j = some (basisR q ta s.B)) => bas_rd (W := W) (I := I2) j hj him
  have hAr : ta.Ar.isSome = true := ho.isSome (by rw [List.length_range]; omega)
  have hri := hra i him
  have hcap := (hra0 i him).2
  have roi := fun (W : World) (Q : List Res) => ror W Q i him
  have hzk : (q.cnt ≤ s.B i → ∀ k, k < q.cnt → s.T i k = 0) → Bl.Zer q s (i + 1) := fun hh j hj hb => by
    by_cases hji : j < i
    · exact hzr j hji hb
    · obtain rfl : j = i := by omega
      exact hh hb
  by_cases hB : q.cnt ≤ s.B i
  case neg =>
    have hz1 := hzk (fun h => absurd h hB)
    generalize s.B i = Bi at hbr hB
    repeat' first
      | ((with_reducible refine Nx.is_wp ?_); first | refine Nx.wo ?_ | refine Nx.zp (fun hc => ?_) (fun hc => ?_))
      | (refine Nx.zo ?_; first | refine Nx.opr rfl rfl ?_ | refine Nx.indexAddr_nat (A := ta.Ab) (i := i) (sz := 1) rfl rfl rfl rfl rfl him hAb' ?_ | refine Nx.load rfl rfl rfl (hbr _ _ 1 rfl) ?_ | refine Nx.so ?_ | refine Nx.sb (fun bx => ?_) | refine Nx.sa (fun A2 c2 => ?_))
      | refine Nx.za ?_ | refine Nx.zr (fun hc => ?_) (fun hc => ?_)
      | refine Nx.zq ?_ | refine Nx.zu (fun hc => ?_) (fun hc => ?_)
      | refine Nx.zx ?_ | fail
    exact Nx.again (i + 1, s) ⟨him, hs, ha, hz1⟩ (by dsimp only; omega) ⟨rfl, rfl, rfl, rfl, trivial⟩ (by (exact Ent.auto))
  have hN0 := ha i him hB
  have hIx := fun (m I' : PH) (_ : PH.le I2 I') (hm : PH.le m I') (hv : Stars [trowsR q ta s.T] m) => (by
    have := IndexFuncF_spec (ta.ra i).1 (ta.ra i).2 (rl q.cnt (s.T i)) I' ((row_frozen hm hv him).pre (by show q.cnt ≤ q.cnt + q.m + 1; omega))
    rw [rl_len] at this
    exact this : FnSpec Tryz.prog 101 [.slice (ta.ra i).1 q.cnt (ta.ra i).2, .func (.func 154) #[] #[]] I' []
      (fun v R' => ((v = .int .i64 (-1) ∧ ∀ k, k < q.cnt → (rl q.cnt (s.T i)).getD k default = 0) ∨ ∃ k : Nat, v = .int .i64 (k : Int) ∧ k < q.cnt ∧ (rl q.cnt (s.T i)).getD k default ≠ 0) ∧ R' = []))
  have hPv := fun (e : Nat) (he : e < q.cnt) (hne : (rl q.cnt (s.T i)).getD e default ≠ 0) => (by
    rw [rl_at _ he] at hne
    exact pivot_spec b q hq ta s hs.inv i e him he hne (hs.inv.out him he hne hN0) (.slice (some ⟨bc, 0, none⟩) q.N q.N) I2 hT ho hra hAb')
  have hn1 : (∀ k, k < q.cnt → (rl q.cnt (s.T i)).getD k default = 0) → Bl.Zer q s (i + 1) := fun hh => hzk fun _ k hk => by have := hh k hk; rwa [rl_at _ hk] at this
  have hn2 : ∀ e, e < q.cnt → (rl q.cnt (s.T i)).getD e default ≠ 0 → Bl.Inv2 q (Bl.piv s i e) ∧ Bl.Art0 q (Bl.piv s i e) ∧ Bl.Zer q (Bl.piv s i e) (i + 1) := fun e he hne => by
    rw [rl_at _ he] at hne
    refine ⟨hs.out him he hne hN0, Bl.art0_piv ha hN0, fun j hj hb => ?_⟩
    by_cases hji : j < i
    · exact Bl.zer_piv hzr he j hji hb
    · obtain rfl : j = i := by omega
      exfalso
      have : (Bl.piv s j e).B j = e := if_pos rfl
      omega
  have hcc : q.cnt ≤ (ta.ra i).2 := by rw [hcap]; show q.cnt ≤ q.cnt + q.m + 1; omega
  generalize hBi : s.B i = Bi at hbr hB
  clear hzk hrun hph hbr
  have hbr := fun (W : World) (R : List Res) (j : Nat) (hj : nthL R j = some (basisR q ta s.B)) => (by have := bas_rd (W := W) (I := I2) j hj him; rwa [hBi] at this : Rd W I2 R ((ad ta.Ab).add (i * 1)) (.int .i64 (Bi : Int)))
  repeat' first
    | ((with_reducible refine Nx.is_wp ?_); first | refine Nx.wo ?_ | refine Nx.p_drawF (id := 6) rfl [0, 1, 2, 3, 4, 5, 6, 7, 8, 9, 10, 11, 12, 13, 14, 15, 16, 17, 18, 19, 20] [15] [] _ rfl rfl (by kernel_rfl) (by kernel_rfl) rfl PanicOk.auto (Ent.refl _) ?_ | refine Nx.p_drawF (id := 13) rfl [0, 1, 2, 3, 4, 5, 6, 7, 8, 9, 10, 11] [] [12, 13] _ rfl rfl (by kernel_rfl) (by kernel_rfl) rfl PanicOk.auto (Ent.refl _) ?_ | refine Nx.zp (fun hc => ?_) (fun hc => ?_))
    | (refine Nx.zo ?_; first | refine Nx.opr rfl rfl ?_ | refine Nx.indexAddr_nat (A := ta.Ab) (i := i) (sz := 1) rfl rfl rfl rfl rfl him hAb' ?_ | refine Nx.load rfl rfl rfl (hbr _ _ 1 rfl) ?_ | (refine Nx.call rfl rfl rfl (by kernel_rfl) rfl (FnSpec.keep [trowsR q ta s.T] hIx) (by (exact Ent.auto)) ?_; rintro _ _ ⟨_, ⟨⟨rfl, hno⟩ | ⟨e, rfl, he, hne⟩, rfl⟩, rfl⟩) | (refine Nx.call rfl rfl rfl (by kernel_rfl) rfl (hPv e he hne) (by (exact Ent.auto)) ?_; rintro _ _ rfl) | refine Nx.so ?_ | refine Nx.sb (fun bx => ?_) | refine Nx.sa (fun A2 c2 => ?_))
    | refine Nx.za ?_ | refine Nx.zr (fun hc => ?_) (fun hc => ?_)
    | ((with_reducible refine Nx.is_mix ?_); first | refine Nx.m_quiet rfl rfl rfl rfl rfl (by first | exact QRun.opr rfl | exact QRun.idx (A := ta.Ar) (i := i) (sz := 1) rfl rfl rfl rfl him hAr | exact QRun.load rfl rfl (roi _ _) | exact QRun.slice_hi (sz := 2) rfl rfl rfl rfl hcc) ?_ | refine Nx.m_quiet_do rfl rfl rfl rfl rfl rfl rfl (by first | exact QRun.opr rfl | exact QRun.idx (A := ta.Ar) (i := i) (sz := 1) rfl rfl rfl rfl him hAr | exact QRun.load rfl rfl (roi _ _) | exact QRun.slice_hi (sz := 2) rfl rfl rfl rfl hcc) ?_ | refine Nx.m ?_ | refine Nx.zm ?_ | refine Nx.zt (fun hc => ?_) (fun hc => ?_))
    | refine Nx.zx ?_ | fail
  all_goals first
    | exact Nx.again (i + 1, s) ⟨him, hs, ha, hn1 hno⟩ (by dsimp only; omega) ⟨rfl, rfl, rfl, rfl, trivial⟩ (by (exact Ent.auto))
    | exact Nx.again (i + 1, Bl.piv s i e) ⟨him, (hn2 e he hne).1, (hn2 e he hne).2.1, (hn2 e he hne).2.2⟩ (by dsimp only; omega) ⟨rfl, rfl, rfl, rfl, trivial⟩ (by (exact Ent.auto))
end Go.Proofs.YtpcnapidlhpbkaaGreatDoor
namespace Go.Proofs.YtpcnapidlhpbkaaGreatDoor
open Go.Eng Go.Sol
attribute [local irreducible] opK wpList Code.wp Exit.then Exit.inBlock fnPost bodyPost Nx Calls Oper.wp Rd Rds Wr Ent Stars Blk Again Vec FnSpec wpMix QRun Stop Upto wpAt
def pf (q : Bl.Eqs) (s : Bl.Tab) : Nat → Nat → Rat
  | 0 => fun _ => 0
  | i + 1 => if s.B i < q.cnt then updF (pf q s i) (s.B i) (s.T i q.N) else pf q s i
theorem pf_sm {q : Bl.Eqs} {s : Bl.Tab} (h : Bl.Ok q.m q.N s) : ∀ i, i ≤ q.m → ∀ k, k < q.cnt → pf q s i k = Bl.sm i fun j => if s.B j = k then s.T j q.N else 0
  | 0, _, _, _ => rfl
  | i + 1, hi, k, hk => by
    have ih := pf_sm h i (by omega) k hk
    rw [pf, Bl.sm, ← ih]
    by_cases hb : s.B i < q.cnt
    · rw [if_pos hb]
      unfold updF
      by_cases hkb : k = s.B i
      · rw [if_pos hkb, if_pos hkb.symm, ih, Bl.sm_congr (g := fun _ => 0) fun j hj => if_neg fun he => ?_, Bl.sm_zero, Rat.zero_add]
        have := Bl.bas_inj h (i := j) (j := i) (by omega) (by omega) (he.trans hkb)
        omega
      · rw [if_neg hkb, if_neg (Ne.symm hkb), Rat.add_zero]
    · rw [if_neg hb, if_neg (by omega), Rat.add_zero]
theorem pf_pt {q : Bl.Eqs} {s : Bl.Tab} (h : Bl.Ok q.m q.N s) : rl q.cnt (pf q s q.m) = rl q.cnt (Bl.pt q.m q.N s) := rl_congr fun k hk => pf_sm h q.m (Nat.le_refl _) k hk
set_option maxRecDepth 10000 in
theorem point_spec (b : Nat) (q : Bl.Eqs) (hq : q.Small) (hc1 : 1 ≤ q.cnt) (ta : TA) (s : Bl.Tab) (hs : Bl.Inv q s) (vc : Value) (I : PH) (h : TabQ I q ta s) :
    FnSpec Tryz.prog 114 [.pointer (some ⟨b, 0, none⟩)] I [Blk b 193 (tabV q ta vc)]
      (fun v R' => ∃ b', v = .slice (some ⟨b', 0, none⟩) q.cnt q.cnt ∧ R' = [Blk b 193 (tabV q ta vc), ratsR (some ⟨b', 0, none⟩) q.cnt q.cnt (rl q.cnt (Bl.pt q.m q.N s))]) := by
  have h1 := hq.cnt
  have h2 := hq.m
  have hN : (q.cnt : Int) + (q.m : Int) = (q.N : Int) := by show _ = ((q.cnt + q.m : Nat) : Int); omega
  have hNb : q.N ≤ 20 := by show q.cnt + q.m ≤ 20; omega
  have hV := value_spec' b q hq (.slice ta.Ar q.m ta.cr) (.slice ta.Ab q.m ta.cb) vc I
  rw [hN] at hV
  refine FnSpec.enterP Tryz.func114 rfl Tryz.ntmps114 rfl fun w F => ?_
  repeat' first
    | ((with_reducible refine Nx.is_wp ?_); first | refine Nx.wo ?_ | refine Nx.p_drawF (id := 1) rfl [2, 3, 4, 5, 0, 1] [0, 1] [6, 7] _ rfl rfl (by kernel_rfl) (by kernel_rfl) rfl PanicOk.auto (Ent.refl _) ?_ | refine Nx.p_drawF (id := 6) rfl [0, 1, 2, 3, 4, 5, 6, 7, 8, 9, 10, 11, 12, 13] [10] [14] _ rfl rfl (by kernel_rfl) (by kernel_rfl) rfl PanicOk.auto (Ent.refl _) ?_ | refine Nx.zp (fun hc => ?_) (fun hc => ?_))
    | (refine Nx.zo ?_; first | refine Nx.opr rfl rfl ?_ | refine Nx.callv rfl rfl rfl (by kernel_rfl) rfl (bwhole_spec _ _) ?_ | (refine Nx.call rfl rfl rfl (by kernel_rfl) rfl (RepeatF_spec ((0 : Int) : Rat) _ q.cnt (by omega) (by omega) I) (by (exact Ent.auto)) ?_; rintro _ _ ⟨b7, rfl, rfl⟩) | refine Nx.so ?_ | refine Nx.sb (fun bx => ?_) | refine Nx.sa (fun A2 c2 => ?_))
    | refine Nx.za ?_ | refine Nx.zr (fun hc => ?_) (fun hc => ?_)
    | refine Nx.zq ?_ | refine Nx.zu (fun hc => ?_) (fun hc => ?_)
    | refine Nx.zx ?_ | fail
  refine Nx.p_loop (σ := Nat) (fun i => [(0, .pointer (some ⟨b, 0, none⟩)), (3, .slice (some ⟨b7, 0, none⟩) q.cnt q.cnt), (16, .slice ta.Ab q.m ta.cb), (17, .int .i64 (q.m : Int)), (18, .int .i64 (i : Int))])
    (fun i => [ratsR (some ⟨b7, 0, none⟩) q.cnt q.cnt (rl q.cnt (pf q s i)), Blk b 193 (tabV q ta vc), F]) (fun i => i ≤ q.m) (fun i => q.m - i) 0 rfl (Nat.zero_le _) ⟨rfl, rfl, rfl, rfl, rfl, trivial⟩ (by (exact Ent.auto)) ?_
  intro i hi
  have hi : i ≤ q.m := hi
  by_cases him : i < q.m
  case neg =>
    obtain rfl : i = q.m := by omega
    rw [pf_pt hs.ok]
    repeat' first
      | ((with_reducible refine Nx.is_wp ?_); first | refine Nx.wo ?_ | refine Nx.zp (fun hc => ?_) (fun hc => ?_))
      | (refine Nx.zo ?_; first | refine Nx.opr rfl rfl ?_ | refine Nx.so ?_ | refine Nx.sb (fun bx => ?_) | refine Nx.sa (fun A2 c2 => ?_))
      | refine Nx.za ?_ | refine Nx.zr (fun hc => ?_) (fun hc => ?_)
      | refine Nx.zq ?_ | refine Nx.zu (fun hc => ?_) (fun hc => ?_)
      | refine Nx.zx ?_ | fail
    exact Nx.ret_fn rfl [_, _] ⟨b7, rfl, rfl⟩ (by (exact Ent.auto))
  have r1 := fun (W : World) (Q : List Res) => h.bas (W := W) (R := Q) him
  have r3 := fun (W : World) (Q : List Res) => h.row (W := W) (R := Q) him
  have r4 := fun (W : World) (Q : List Res) => h.num (W := W) (R := Q) him (show q.N < q.N + 1 by omega)
  have hAr := h.as (by omega)
  have hAb := h.bs (by omega)
  have hra := h.rs him
  have hpf : pf q s (i + 1) = if s.B i < q.cnt then updF (pf q s i) (s.B i) (s.T i q.N) else pf q s i := rfl
  obtain ⟨xn, hxn⟩ : ∃ xn, xn = s.T i q.N := ⟨_, rfl⟩
  rw [← hxn] at r4 hpf
  generalize s.B i = k at r1 hpf
  by_cases hk : k < q.cnt
  · rw [if_pos hk] at hpf
    have hset := rl_set (n := q.cnt) (k := k) (f := pf q s i) (v := xn)
    rw [← hpf] at hset
    repeat' first
      | ((with_reducible refine Nx.is_wp ?_); first | refine Nx.wo ?_ | refine Nx.p_drawF (id := 1) rfl [2, 3, 4, 5, 0, 1] [0, 1] [6, 7] _ rfl rfl (by kernel_rfl) (by kernel_rfl) rfl PanicOk.auto (Ent.refl _) ?_ | refine Nx.p_drawF (id := 6) rfl [0, 1, 2, 3, 4, 5, 6, 7, 8, 9, 10, 11, 12, 13] [10] [14] _ rfl rfl (by kernel_rfl) (by kernel_rfl) rfl PanicOk.auto (Ent.refl _) ?_ | refine Nx.zp (fun hc => ?_) (fun hc => ?_))
      | (refine Nx.zo ?_; first | refine Nx.opr rfl rfl ?_ | refine Nx.indexAddr_nat (A := ta.Ab) (i := i) (sz := 1) rfl rfl rfl rfl rfl him hAb ?_ | refine Nx.load rfl rfl rfl (r1 _ _) ?_ | (refine Nx.call rfl rfl rfl (by kernel_rfl) rfl hV (by (exact Ent.auto)) ?_; rintro _ _ ⟨rfl, rfl⟩) | refine Nx.indexAddr_nat (A := some ⟨b7, 0, none⟩) (i := k) (sz := 2) rfl rfl rfl rfl rfl hk rfl ?_ | refine Nx.store_el2 (f := ratC) (a := fun q => .int .i64 q.num) (b := fun q => .int .i64 q.den) (A := some ⟨b7, 0, none⟩) (l := rl q.cnt (pf q s i)) (i := k) (z := xn) 1 rfl rfl rfl (fun _ => rfl) rfl rfl rfl rfl (by rw [rl_len]; exact hk) hk ?_ | refine Nx.so ?_ | refine Nx.sb (fun bx => ?_) | refine Nx.sa (fun A2 c2 => ?_))
      | refine Nx.za ?_ | refine Nx.zr (fun hc => ?_) (fun hc => ?_)
      | ((with_reducible refine Nx.is_mix ?_); first | refine Nx.m_quiet rfl rfl rfl rfl rfl (by first | exact QRun.opr rfl | exact QRun.idx (A := ta.Ar) (i := i) (sz := 1) rfl rfl rfl rfl him hAr | exact QRun.load rfl rfl (r3 _ _) | exact QRun.idx (A := (ta.ra i).1) (i := q.N) (sz := 2) rfl rfl rfl rfl (by omega) hra | exact QRun.loads rfl rfl rfl (r4 _ _) rfl | exact QRun.idx (A := some ⟨b7, 0, none⟩) (i := k) (sz := 2) rfl rfl rfl rfl hk rfl) ?_ | refine Nx.m_quiet_do rfl rfl rfl rfl rfl rfl rfl (by first | exact QRun.opr rfl | exact QRun.idx (A := ta.Ar) (i := i) (sz := 1) rfl rfl rfl rfl him hAr | exact QRun.load rfl rfl (r3 _ _) | exact QRun.idx (A := (ta.ra i).1) (i := q.N) (sz := 2) rfl rfl rfl rfl (by omega) hra | exact QRun.loads rfl rfl rfl (r4 _ _) rfl | exact QRun.idx (A := some ⟨b7, 0, none⟩) (i := k) (sz := 2) rfl rfl rfl rfl hk rfl) ?_ | refine Nx.m ?_ | refine Nx.zm ?_ | refine Nx.zt (fun hc => ?_) (fun hc => ?_))
      | refine Nx.zx ?_ | fail
    exact Nx.again (i + 1) him (by omega) ⟨rfl, rfl, rfl, rfl, rfl, trivial⟩ (by rw [← hset]; (exact Ent.auto))
  · rw [if_neg hk] at hpf
    repeat' first
      | ((with_reducible refine Nx.is_wp ?_); first | refine Nx.wo ?_ | refine Nx.p_drawF (id := 1) rfl [2, 3, 4, 5, 0, 1] [0, 1] [6, 7] _ rfl rfl (by kernel_rfl) (by kernel_rfl) rfl PanicOk.auto (Ent.refl _) ?_ | refine Nx.p_drawF (id := 6) rfl [0, 1, 2, 3, 4, 5, 6, 7, 8, 9, 10, 11, 12, 13] [10] [14] _ rfl rfl (by kernel_rfl) (by kernel_rfl) rfl PanicOk.auto (Ent.refl _) ?_ | refine Nx.zp (fun hc => ?_) (fun hc => ?_))
      | (refine Nx.zo ?_; first | refine Nx.opr rfl rfl ?_ | refine Nx.indexAddr_nat (A := ta.Ab) (i := i) (sz := 1) rfl rfl rfl rfl rfl him hAb ?_ | refine Nx.load rfl rfl rfl (r1 _ _) ?_ | refine Nx.so ?_ | refine Nx.sb (fun bx => ?_) | refine Nx.sa (fun A2 c2 => ?_))
      | refine Nx.za ?_ | refine Nx.zr (fun hc => ?_) (fun hc => ?_)
      | refine Nx.zq ?_ | refine Nx.zu (fun hc => ?_) (fun hc => ?_)
      | refine Nx.zx ?_ | fail
    exact Nx.again (i + 1) him (by omega) ⟨rfl, rfl, rfl, rfl, rfl, trivial⟩ (by rw [hpf]; (exact Ent.auto))
end Go.Proofs.YtpcnapidlhpbkaaGreatDoor
