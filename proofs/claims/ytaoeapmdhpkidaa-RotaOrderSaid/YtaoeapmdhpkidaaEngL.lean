/-
  The proof engine, part L: a statement of open order in which several operations that make memory may come up next: the walk forks.
-/
import Derived.Test.YtaoeapmdhpkidaaEngG
namespace Go.Eng
section
variable {P : Program} {ops : Array Oper} {Q : Exit → Act → World → Prop} {S : World → Prop} {loud fin : List Nat}
def wpFork (P : Program) (ops : Array Oper) (Q : Exit → Act → World → Prop) (S : World → Prop) (loud fin : List Nat) : Nat → Array Bool → Act → World → Prop
  | 0, _, _, _ => False
  | n + 1, listed, a, w => (mixOk ops loud fin listed = true ∧ fin.length ≤ n + 1 ∧ wpMix P ops Q S loud fin a w) ∨
    (Region.ready .any ops listed ≠ [] ∧ ∀ i ∈ Region.ready .any ops listed, wpOp P ops Q i (fun a' w' => S w' ∧ wpFork P ops Q S loud fin n (listed.setIfInBounds i true) a' w') a w)
theorem wpFork_any (hs : Region.noSelect ops = true) (hQ : PanicOk Q) : ∀ (n : Nat) (listed : Array Bool) (a : Act) (w : World), wpFork P ops Q S loud fin n listed a w → S w → wpAnyH P .any ops Q S n listed a w
  | 0, _, _, _, h, _ => h.elim
  | n + 1, listed, a, w, h, hS => by
    rcases h with ⟨h1, h2, h3⟩ | ⟨h1, h2⟩
    · exact wpMix_any hs hQ fin (n + 1) listed a w h1 h2 hS h3
    · exact wpAnyH_all rfl h1 fun i hi => wpOp_mono (fun a' w' ⟨h3, h4⟩ => ⟨h3, wpFork_any hs hQ n _ a' w' h4 h3⟩) (h2 i hi)
end
def listedOf (n : Nat) (q : List Nat) : Array Bool := q.foldl (fun a i => a.setIfInBounds i true) (Array.replicate n false)
section
variable {C : Cx} {e e' : Env} {I : PH} {R R' R0 : List Res} {K K' : Act → World → Prop} {Q : Exit → Act → World → Prop} {W : World}
variable {ops : Array Oper} {S : World → Prop} {loud fin : List Nat} {c : Code} {n i j : Nat} {o oi oj : Oper} {listed : Array Bool}
/-- 'q': what only reads and waits for nothing that writes; 'fin': what comes when all the others have come up. -/
theorem Nx.p_fork {id : Nat} (hid : cid c = id) (q fin loud : List Nat) (R0 : List Res) (fuel : Nat) (hk : ck c = 2) (hm : C.P.follows .mixedOrders = true) (hs : Region.noSelect (cops c) = true)
    (hok : preOk (cops c) (fun l => l == listedOf (cops c).size q) q (Array.replicate (cops c).size false) = true) (hlen : fuel + q.length = (cops c).size) (hQ : PanicOk Q) (hR : Ent R R0)
    (h : Nx C e I R (wpMix C.P (cops c) (Exit.then (wpFork C.P (cops c) Q (St C.W I R0) loud fin fuel (listedOf (cops c).size q)) Q) (St C.W I R0) [] q)) : Nx C e I R (c.wp C.P Q) := by
  have hc : c = .region (cid c) (cops c) true := by
    cases c <;> first | (simp [ck] at hk; done) | skip
    rename_i b
    cases b with
    | false => simp [ck] at hk
    | true => rfl
  clear hid
  rw [hc]
  intro a w ha hw
  refine wp_region_held (S := St C.W I R0) hm ?_
  have key := fun hT => wpMix_pre (fuel := fuel) (S := St C.W I R0) (Q := Q) hs hQ hT q _ a _ hok (hw.drew.ent hR) (h a _ ha hw.drew)
  rw [hlen] at key
  refine key (fun listed a w hpo hSw hT => ?_)
  have hl : listed = listedOf (cops c).size q := by simpa using hpo
  subst hl
  exact wpFork_any hs hQ fuel _ a w hT hSw
theorem Nx.fork_fin (hok : mixOk ops loud fin listed = true) (hl : Nat.ble fin.length (n + 1) = true) (h : Nx C e I R (wpMix C.P ops Q S loud fin)) : Nx C e I R (wpFork C.P ops Q S loud fin (n + 1) listed) :=
  fun a w ha hw => .inl ⟨hok, Nat.le_of_ble_eq_true hl, h a w ha hw⟩
theorem wpOp_of {k : Nat} (ho : opAt ops.toList k = some o) (hg : o.guard = none) (h : Nx C e I R (opK C.P o K Q)) : ∀ a w, Mod C.n e a → St C.W I R w → wpOp C.P ops Q k K a w := fun a w ha hw => by
  unfold wpOp
  rw [opAt_arr ho]
  dsimp only
  rw [if_pos (by simp [Region.wanted, hg])]
  exact .inl (h a w ha hw)
theorem Nx.fork1 (hr : Region.ready .any ops listed = [i]) (ho : opAt ops.toList i = some oi) (hg : oi.guard = none)
    (h : Nx C e I R (opK C.P oi (fun a w => S w ∧ wpFork C.P ops Q S loud fin n (listed.setIfInBounds i true) a w) Q)) : Nx C e I R (wpFork C.P ops Q S loud fin (n + 1) listed) := fun a w ha hw =>
  .inr ⟨by rw [hr]; simp, fun k hk => by
    rw [hr, List.mem_singleton] at hk
    subst hk
    exact wpOp_of ho hg h a w ha hw⟩
theorem Nx.fork2 (hr : Region.ready .any ops listed = [i, j]) (hoi : opAt ops.toList i = some oi) (hgi : oi.guard = none) (hoj : opAt ops.toList j = some oj) (hgj : oj.guard = none)
    (hi : Nx C e I R (opK C.P oi (fun a w => S w ∧ wpFork C.P ops Q S loud fin n (listed.setIfInBounds i true) a w) Q))
    (hj : Nx C e I R (opK C.P oj (fun a w => S w ∧ wpFork C.P ops Q S loud fin n (listed.setIfInBounds j true) a w) Q)) : Nx C e I R (wpFork C.P ops Q S loud fin (n + 1) listed) := fun a w ha hw =>
  .inr ⟨by rw [hr]; simp, fun k hk => by
    rw [hr, List.mem_cons, List.mem_singleton] at hk
    rcases hk with rfl | rfl
    · exact wpOp_of hoi hgi hi a w ha hw
    · exact wpOp_of hoj hgj hj a w ha hw⟩
end
end Go.Eng
