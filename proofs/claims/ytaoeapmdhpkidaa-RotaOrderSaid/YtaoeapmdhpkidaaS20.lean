/- Contracts of functions of the given program, and lemmas about plain lists and numbers: what the laws of this seat lean on. -/
import Derived.Test.YtaoeapmdhpkidaaS15
import Derived.Test.YtaoeapmdhpkidaaEngJ
import Derived.Shelf.SlSortCmp.WholeK
namespace Go.Proofs.Ytaoeapmdhpkidaa
def srtF_ren : Go.Shelf.Ren := ⟨fun | 6 => 73 | 15 => 82 | 14 => 95 | 28 => 109 | 29 => 110 | 20 => 114 | 21 => 115 | 22 => 116 | 23 => 117 | 24 => 118 | 25 => 119 | 26 => 120 | 27 => 121 | 46 => 138 | 47 => 125 | 48 => 126 | 49 => 139 | 50 => 140 | 57 => 145 | n => n, fun | 22 => 25 | 24 => 40 | 25 => 100 | 3 => 3 | 39 => 107 | 0 => 0 | 53 => 128 | 55 => 130 | 4 => 4 | 46 => 120 | 45 => 119 | 50 => 125 | 5 => 5 | 9 => 9 | 66 => 138 | 70 => 142 | 76 => 152 | 77 => 153 | n => n, fun | n => n⟩
theorem srtF : Go.Proofs.SlLaysF0.n6 Try.prog srtF_ren where
  mixed := by kernel_rfl
  f6 := ⟨ "slices.SortFunc[[]dataenclave/api.Shift,dataenclave/api.Shift]", by decide, Try.func73.trans (congrArg some (by kernel_rfl))⟩
  f14 := ⟨ "slices.pdqsortCmpFunc[dataenclave/api.Shift]", by decide, Try.func95.trans (congrArg some (by kernel_rfl))⟩
  f15 := Try.func82.trans (congrArg some (by kernel_rfl))
  f20 := ⟨ "slices.insertionSortCmpFunc[dataenclave/api.Shift]", by decide, Try.func114.trans (congrArg some (by kernel_rfl))⟩
  f21 := ⟨ "slices.heapSortCmpFunc[dataenclave/api.Shift]", by decide, Try.func115.trans (congrArg some (by kernel_rfl))⟩
  f22 := ⟨ "slices.breakPatternsCmpFunc[dataenclave/api.Shift]", by decide, Try.func116.trans (congrArg some (by kernel_rfl))⟩
  f23 := ⟨ "slices.choosePivotCmpFunc[dataenclave/api.Shift]", by decide, Try.func117.trans (congrArg some (by kernel_rfl))⟩
  f24 := ⟨ "slices.reverseRangeCmpFunc[dataenclave/api.Shift]", by decide, Try.func118.trans (congrArg some (by kernel_rfl))⟩
  f25 := ⟨ "slices.partialInsertionSortCmpFunc[dataenclave/api.Shift]", by decide, Try.func119.trans (congrArg some (by kernel_rfl))⟩
  f26 := ⟨ "slices.partitionEqualCmpFunc[dataenclave/api.Shift]", by decide, Try.func120.trans (congrArg some (by kernel_rfl))⟩
  f27 := ⟨ "slices.partitionCmpFunc[dataenclave/api.Shift]", by decide, Try.func121.trans (congrArg some (by kernel_rfl))⟩
  f28 := Try.func109.trans (congrArg some (by kernel_rfl))
  f29 := Try.func110.trans (congrArg some (by kernel_rfl))
  f46 := ⟨ "slices.siftDownCmpFunc[dataenclave/api.Shift]", by decide, Try.func138.trans (congrArg some (by kernel_rfl))⟩
  f47 := Try.func125.trans (congrArg some (by kernel_rfl))
  f48 := Try.func126.trans (congrArg some (by kernel_rfl))
  f49 := ⟨ "slices.medianAdjacentCmpFunc[dataenclave/api.Shift]", by decide, Try.func139.trans (congrArg some (by kernel_rfl))⟩
  f50 := ⟨ "slices.medianCmpFunc[dataenclave/api.Shift]", by decide, Try.func140.trans (congrArg some (by kernel_rfl))⟩
  f57 := ⟨ "slices.order2CmpFunc[dataenclave/api.Shift]", by decide, Try.func145.trans (congrArg some (by kernel_rfl))⟩
  t0 := Try.underlying0
  a0 := Try.isAgg0
  z0 := Try.sizeOf0
  v0 := Try.zeroValue0
  t3 := Try.underlying3
  a3 := Try.isAgg3
  z3 := Try.sizeOf3
  v3 := Try.zeroValue3
  t4 := Try.underlying4
  a4 := Try.isAgg4
  z4 := Try.sizeOf4
  v4 := Try.zeroValue4
  t5 := Try.underlying5
  a5 := Try.isAgg5
  z5 := Try.sizeOf5
  v5 := Try.zeroValue5
  t9 := Try.underlying9
  a9 := Try.isAgg9
  z9 := Try.sizeOf9
  v9 := Try.zeroValue9
  t22 := Try.underlying25
  a22 := Try.isAgg25
  z22 := Try.sizeOf25
  v22 := Try.zeroValue25
  t25 := Try.underlying100
  a25 := Try.isAgg100
  z25 := Try.sizeOf100
  v25 := Try.zeroValue100
  t39 := Try.underlying107
  a39 := Try.isAgg107
  z39 := Try.sizeOf107
  v39 := Try.zeroValue107
  t45 := Try.underlying119
  a45 := Try.isAgg119
  z45 := Try.sizeOf119
  v45 := Try.zeroValue119
  t46 := Try.underlying120
  a46 := Try.isAgg120
  z46 := Try.sizeOf120
  v46 := Try.zeroValue120
  t50 := Try.underlying125
  a50 := Try.isAgg125
  z50 := Try.sizeOf125
  v50 := Try.zeroValue125
  t53 := Try.underlying128
  a53 := Try.isAgg128
  z53 := Try.sizeOf128
  v53 := Try.zeroValue128
  t55 := Try.underlying130
  a55 := Try.isAgg130
  z55 := Try.sizeOf130
  v55 := Try.zeroValue130
  t66 := Try.underlying138
  a66 := Try.isAgg138
  z66 := Try.sizeOf138
  v66 := Try.zeroValue138
  t70 := Try.underlying142
  a70 := Try.isAgg142
  z70 := Try.sizeOf142
  v70 := Try.zeroValue142
  t76 := Try.underlying152
  a76 := Try.isAgg152
  z76 := Try.sizeOf152
  v76 := Try.zeroValue152
  t77 := Try.underlying153
  a77 := Try.isAgg153
  z77 := Try.sizeOf153
  v77 := Try.zeroValue153
end Go.Proofs.Ytaoeapmdhpkidaa
namespace Go.Proofs.Ytaoeapmdhpkidaa
open Go.Eng
/-! Sorting shifts: plain facts -/
theorem before_asymm {a b : Shift} (h : beforeB a b = true) : beforeB b a = false := by
  cases h2 : beforeB b a with
  | false => rfl
  | true => have := before_trans h h2; rw [before_irr] at this; cases this
theorem lt_sh (x y : Shift) : ltOf cmpSh x y = beforeB x y := by
  have := cmpSh_before x y
  unfold ltOf
  cases h : beforeB x y <;> rw [h] at this <;> simp at this ⊢ <;> omega
theorem swo_sh : Sort.SWO (ltOf cmpSh) where
  irrefl x := by rw [lt_sh]; exact before_irr x
  trans x y z h1 h2 := by rw [lt_sh] at *; exact before_trans h1 h2
  ntrans x y z h1 h2 := by
    rw [lt_sh] at *
    cases h : beforeB x z with
    | false => rfl
    | true =>
      rcases before_tri x y with h3 | ⟨h3, h4⟩ | h3
      · rw [h3] at h1; cases h1
      · rw [before_iff, h3, h4, ← before_iff] at h; rw [h] at h2; cases h2
      · have := before_trans h3 h; rw [this] at h2; cases h2
theorem asc_mem : ∀ {S : List Shift}, (S.Pairwise fun a b => beforeB a b = true) → ∀ {a b : Shift}, a ∈ S → b ∈ S → a = b ∨ beforeB a b = true ∨ beforeB b a = true
  | [], _, _, _, h, _ => by cases h
  | x :: S, h, a, b, ha, hb => by
    rw [List.pairwise_cons] at h
    rcases List.mem_cons.1 ha with h1 | h1
    · rcases List.mem_cons.1 hb with h2 | h2
      · exact .inl (h1.trans h2.symm)
      · exact .inr (.inl (by rw [h1]; exact h.1 b h2))
    · rcases List.mem_cons.1 hb with h2 | h2
      · exact .inr (.inr (by rw [h2]; exact h.1 a h1))
      · exact asc_mem h.2 h1 h2
theorem insL_perm (l : List Shift) (x : Shift) : (l ++ [x]).Perm (insL l x) := by
  unfold insL
  generalize insAt l x = k
  have h : l ++ [x] = l.take k ++ (l.drop k ++ [x]) := by rw [← List.append_assoc, List.take_append_drop]
  rw [h, List.append_assoc]
  exact List.Perm.append_left _ List.perm_append_comm
theorem sort_ins {l l' : List Shift} {x : Shift} (hR : Rota l) (hx : singleE x = 0) (hm : meetsB l x = false) (hl : l.length < 60) (hp : l'.Perm (l ++ [x])) (hs : l'.Pairwise fun a b => ltOf cmpSh b a = false) : l' = insL l x := by
  have hI := hR.ins hx hm hl
  have hp2 := hp.trans (insL_perm l x)
  refine List.Perm.eq_of_pairwise (le := fun a b => beforeB b a = false) (fun a b ha hb h1 h2 => ?_) (hs.imp fun h => by rw [← lt_sh]; exact h) (hI.asc.imp fun h => before_asymm h) hp2
  rcases asc_mem hI.asc (hp2.mem_iff.1 ha) hb with h | h | h
  · exact h
  · rw [h] at h2; cases h2
  · rw [h] at h1; cases h1
theorem sh_some {W w : World} {I : PH} {R : List Res} {A : Option Addr} {c : Nat} {l : List Shift} (h : St W I (shiftsR A c l :: R) w) (h0 : 0 < l.length) : ∃ b, A = some ⟨b, 0, none⟩ := by
  unfold shiftsR at h
  obtain ⟨⟨m, ⟨m1, m2, hd, rfl, hv, h2⟩, hs⟩, hst⟩ := h
  rcases hv.2 with ⟨_, h1, _⟩ | ⟨b, cur, rfl, _⟩
  · omega
  · exact ⟨b, rfl⟩
set_option maxRecDepth 10000 in
theorem SortSh_spec (A : Option Addr) (c : Nat) (l : List Shift) (I : PH) (h0 : 0 < l.length) (h9 : l.length ≤ 1000) :
    FnSpec Try.prog 73 [.slice A l.length c, .func (.func 74) #[] #[]] I [shiftsR A c l] (fun v R' => v = .tuple #[] ∧ ∃ l' : List Shift, l'.Perm l ∧ (l'.Pairwise fun a b => ltOf cmpSh b a = false) ∧ R' = [shiftsR A c l']) := by
  intro w F hw
  obtain ⟨b, rfl⟩ := sh_some hw h0
  · have h := sortFunc_spec (I := I) (t := 40) srtF 3 (by omega) (fun w => rfl) (fun w => rfl) shC shC_len (fun x v hv => sh_one [x] v (by simpa using hv)) cmpSh swo_sh 74 (enters_of Try.func74 (by kernel_rfl) rfl) (fun x y => compare_spec x y _) b c l (by omega)
    refine (h w F hw).mono fun e w' => ?_
    rintro ⟨v, R', rfl, ⟨rfl, l', hp, hs, rfl⟩, hst⟩
    refine ⟨_, _, rfl, ⟨rfl, l', hp, hs, rfl⟩, ?_⟩
    unfold shiftsR
    rw [hp.length_eq]
    exact hst
section
attribute [local irreducible] opK wpList Code.wp Exit.then Exit.inBlock fnPost bodyPost Nx Calls Oper.wp Rd Rds Wr Ent Stars Blk Again Vec FnSpec wpMix QRun Stop Upto wpAt
set_option maxRecDepth 10000 in
theorem CloneSh_spec (A : Option Addr) (c : Nat) (l : List Shift) (I : PH) (hl : Shifts I A c l) (h9 : l.length ≤ 1000) :
    FnSpec Try.prog 70 [.slice A l.length c] I [] (fun v R' => ∃ A' c', v = .slice A' l.length c' ∧ R' = [shiftsR A' c' l]) := by
  cases A with
  | none =>
    have h0 : l = [] := by
      rcases Nat.eq_zero_or_pos l.length with h | h
      · exact List.eq_nil_of_length_eq_zero h
      · have := hl.isSome h (by omega); cases this
    subst h0
    refine FnSpec.enterP Try.func70 rfl Try.ntmps70 rfl fun w F => ?_
    repeat' first
      | ((with_reducible refine Nx.is_wp ?_); first | refine Nx.wo ?_ | refine Nx.p_dec rfl rfl (fun hc => ?_) (fun hc => ?_) | refine Nx.p_bool rfl rfl (fun hc => ?_) (fun hc => ?_))
      | ((first | refine Nx.at_op rfl rfl ?_ | refine Nx.m_loud rfl rfl rfl ?_ | refine Nx.at_do rfl rfl rfl rfl ?_ | refine Nx.m_loud_do rfl rfl rfl rfl rfl ?_); first | refine Nx.opr rfl rfl ?_ | refine Nx.so ?_ | refine Nx.sb (fun bx => ?_) | refine Nx.sa (fun A2 c2 => ?_))
      | ((with_reducible refine Nx.is_at ?_); first | refine Nx.a ?_ | ((fail_if_success refine Nx.at_do rfl rfl rfl rfl ?_); first | refine Nx.at_dec_t rfl rfl rfl rfl (by first | assumption | omega) ?_ | refine Nx.at_dec_f rfl rfl rfl rfl (by first | assumption | omega) ?_ | refine Nx.at_split rfl rfl rfl rfl (fun hc => ?_) (fun hc => ?_) | refine Nx.at_splitb rfl rfl rfl rfl (fun hc => ?_) (fun hc => ?_)))
      | ((with_reducible refine Nx.is_mix ?_); first | refine Nx.m ?_ | ((fail_if_success refine Nx.m_quiet_do rfl rfl rfl rfl rfl rfl rfl ?_ ?_); (fail_if_success refine Nx.m_loud_do rfl rfl rfl rfl rfl ?_); first | refine Nx.m_dec_t rfl rfl rfl rfl (by first | assumption | omega) ?_ | refine Nx.m_dec_f rfl rfl rfl rfl (by first | assumption | omega) ?_ | refine Nx.m_split rfl rfl rfl rfl (fun hc => ?_) (fun hc => ?_) | refine Nx.m_splitb rfl rfl rfl rfl (fun hc => ?_) (fun hc => ?_)))
      | ((fail_if_success (with_reducible refine Nx.is_at ?_)); (fail_if_success (with_reducible refine Nx.is_wp ?_)); (fail_if_success (with_reducible refine Nx.is_mix ?_)); first | refine Nx.ex ?_)
    refine Nx.ret_fn rfl [shiftsR none 0 []] ⟨none, 0, rfl, rfl⟩ (Ent.vec_nil _ _ _)
  | some a =>
    refine FnSpec.enterP Try.func70 rfl Try.ntmps70 rfl fun w F => ?_
    repeat' first
      | ((with_reducible refine Nx.is_wp ?_); first | refine Nx.wo ?_ | refine Nx.p_dec rfl rfl (fun hc => ?_) (fun hc => ?_) | refine Nx.p_bool rfl rfl (fun hc => ?_) (fun hc => ?_))
      | ((first | refine Nx.at_op rfl rfl ?_ | refine Nx.m_loud rfl rfl rfl ?_ | refine Nx.at_do rfl rfl rfl rfl ?_ | refine Nx.m_loud_do rfl rfl rfl rfl rfl ?_); first | refine Nx.opr rfl rfl ?_ | refine Nx.so ?_ | refine Nx.sb (fun bx => ?_) | refine Nx.sa (fun A2 c2 => ?_))
      | ((with_reducible refine Nx.is_at ?_); first | refine Nx.a ?_ | ((fail_if_success refine Nx.at_do rfl rfl rfl rfl ?_); first | refine Nx.at_dec_t rfl rfl rfl rfl (by first | assumption | omega) ?_ | refine Nx.at_dec_f rfl rfl rfl rfl (by first | assumption | omega) ?_ | refine Nx.at_split rfl rfl rfl rfl (fun hc => ?_) (fun hc => ?_) | refine Nx.at_splitb rfl rfl rfl rfl (fun hc => ?_) (fun hc => ?_)))
      | ((with_reducible refine Nx.is_mix ?_); first | refine Nx.m ?_ | ((fail_if_success refine Nx.m_quiet_do rfl rfl rfl rfl rfl rfl rfl ?_ ?_); (fail_if_success refine Nx.m_loud_do rfl rfl rfl rfl rfl ?_); first | refine Nx.m_dec_t rfl rfl rfl rfl (by first | assumption | omega) ?_ | refine Nx.m_dec_f rfl rfl rfl rfl (by first | assumption | omega) ?_ | refine Nx.m_split rfl rfl rfl rfl (fun hc => ?_) (fun hc => ?_) | refine Nx.m_splitb rfl rfl rfl rfl (fun hc => ?_) (fun hc => ?_)))
      | ((fail_if_success (with_reducible refine Nx.is_at ?_)); (fail_if_success (with_reducible refine Nx.is_wp ?_)); (fail_if_success (with_reducible refine Nx.is_mix ?_)); first | refine Nx.ex ?_)
    refine Nx.blk_vec 0 0 3 rfl rfl (by omega) ?_
    refine Nx.at_op rfl rfl ?_
    refine Nx.append rfl rfl rfl rfl (by kernel_rfl) rfl (Src.arr hl.arr (by rw [sh_flat_len]) (by omega) (sh_one _)) (by omega) fun A' c' => ?_
    rw [Nat.zero_add, List.nil_append]
    repeat' first
      | ((with_reducible refine Nx.is_wp ?_); first | refine Nx.wo ?_ | refine Nx.p_dec rfl rfl (fun hc => ?_) (fun hc => ?_) | refine Nx.p_bool rfl rfl (fun hc => ?_) (fun hc => ?_))
      | ((first | refine Nx.at_op rfl rfl ?_ | refine Nx.m_loud rfl rfl rfl ?_ | refine Nx.at_do rfl rfl rfl rfl ?_ | refine Nx.m_loud_do rfl rfl rfl rfl rfl ?_); first | refine Nx.opr rfl rfl ?_ | refine Nx.so ?_ | refine Nx.sb (fun bx => ?_) | refine Nx.sa (fun A2 c2 => ?_))
      | ((with_reducible refine Nx.is_at ?_); first | refine Nx.a ?_ | ((fail_if_success refine Nx.at_do rfl rfl rfl rfl ?_); first | refine Nx.at_dec_t rfl rfl rfl rfl (by first | assumption | omega) ?_ | refine Nx.at_dec_f rfl rfl rfl rfl (by first | assumption | omega) ?_ | refine Nx.at_split rfl rfl rfl rfl (fun hc => ?_) (fun hc => ?_) | refine Nx.at_splitb rfl rfl rfl rfl (fun hc => ?_) (fun hc => ?_)))
      | ((with_reducible refine Nx.is_mix ?_); first | refine Nx.m ?_ | ((fail_if_success refine Nx.m_quiet_do rfl rfl rfl rfl rfl rfl rfl ?_ ?_); (fail_if_success refine Nx.m_loud_do rfl rfl rfl rfl rfl ?_); first | refine Nx.m_dec_t rfl rfl rfl rfl (by first | assumption | omega) ?_ | refine Nx.m_dec_f rfl rfl rfl rfl (by first | assumption | omega) ?_ | refine Nx.m_split rfl rfl rfl rfl (fun hc => ?_) (fun hc => ?_) | refine Nx.m_splitb rfl rfl rfl rfl (fun hc => ?_) (fun hc => ?_)))
      | ((fail_if_success (with_reducible refine Nx.is_at ?_)); (fail_if_success (with_reducible refine Nx.is_wp ?_)); (fail_if_success (with_reducible refine Nx.is_mix ?_)); first | refine Nx.ex ?_)
    exact Nx.ret_fn rfl [_] ⟨A', c', rfl, rfl⟩ (by (first | done | (repeat first | exact Ent.refl _ | exact Ent.nil _ | refine Ent.pick 0 rfl ?_ | refine Ent.pick 1 rfl ?_ | refine Ent.pick 2 rfl ?_ | refine Ent.pick 3 rfl ?_ | refine Ent.pick 4 rfl ?_ | refine Ent.pick 5 rfl ?_ | refine Ent.pick 6 rfl ?_ | refine Ent.pick 7 rfl ?_ | refine Ent.pick 8 rfl ?_ | refine Ent.pick 9 rfl ?_ | refine Ent.pick 10 rfl ?_ | refine Ent.pick 11 rfl ?_ | refine Ent.pick 12 rfl ?_ | refine Ent.pick 13 rfl ?_ | refine Ent.pick 14 rfl ?_)))
end
end Go.Proofs.Ytaoeapmdhpkidaa
