/- Contracts of functions of the given program, and lemmas about plain lists and numbers: what the laws of this seat lean on. -/
import Derived.Shelf.SortM.Plain
import Derived.Shelf.SortM.SortNone
import Derived.Test.YtjnhoemgceghlaaGreatTr9
namespace Go.Proofs.YtjnhoemgceghlaaGreat
open Go.Eng
attribute [local irreducible] opK wpList Code.wp Exit.then Exit.inBlock fnPost bodyPost Nx Calls Oper.wp Rd Rds Wr Ent Stars Blk Again Vec FnSpec wpMix QRun Stop Upto wpAt
/-! Codes, made names -/
abbrev rtBytes := SliceOf (fun x : Int => Value.int .u8 x)
structure rtCodesOk (I : PH) (A : Option Addr) (c : Nat) (L : List Int) : Prop where
  sl : rtBytes I A c L
  each : ∀ x ∈ L, 0 ≤ x ∧ x < 256
theorem rtCodesOk.mono {I I' : PH} {A : Option Addr} {c : Nat} {L : List Int} (hle : PH.le I I') (h : rtCodesOk I A c L) : rtCodesOk I' A c L := ⟨h.sl.mono hle, h.each⟩
def rtCodesR (b : Nat) (A : Option Addr) (c : Nat) (L : List Int) (k : Nat) : Res := Blk b 58 [.slice A L.length c, .int .i64 (k : Int)]
set_option maxHeartbeats 8000000 in
theorem rtNext_any (b : Nat) (A : Option Addr) (c : Nat) (L : List Int) (k : Nat) (n : Int) (I : PH) (hL : rtCodesOk I A c L) (hk : k ≤ L.length) (hn : 1 ≤ n ∧ n ≤ 1000000) :
    FnSpec Tryz.prog 12 [.pointer (some ⟨b, 0, none⟩), .int .i64 n] I [rtCodesR b A c L k]
      (fun v R' => ∃ (r : Int) (k' : Nat), v = .int .i64 r ∧ (0 ≤ r ∧ r < n) ∧ k' ≤ L.length ∧ R' = [rtCodesR b A c L k']) := rtNext_spec b A c L k n I hL.sl hL.each hk hn
theorem rtbytes_take {I : PH} {A : Option Addr} {c : Nat} {l : List Int} (hl : rtBytes I A c l) (hx : ∀ x ∈ l, 0 ≤ x ∧ x < 256) : rtCodesOk I A c (l.take 400) := ⟨hl.take 400, fun x h => hx x (List.mem_of_mem_take h)⟩
set_option maxHeartbeats 8000000 in
theorem rtNew_codes (A : Option Addr) (c : Nat) (l : List Int) (I : PH) (hl : rtBytes I A c l) :
    FnSpec Tryz.prog 5 [.slice A l.length c] I [] (fun v R' => ∃ b, v = .pointer (some ⟨b, 0, none⟩) ∧ R' = [rtCodesR b A c (l.take 400) 0]) := rtNew_spec A c l I hl
set_option maxHeartbeats 8000000 in
set_option maxRecDepth 10000 in
theorem Range_any (b : Nat) (A : Option Addr) (c : Nat) (L : List Int) (k : Nat) (lo hi : Int) (I : PH) (hL : rtCodesOk I A c L) (hk : k ≤ L.length) (hlo : -1000000 ≤ lo ∧ lo ≤ 1000000) (hh : lo ≤ hi ∧ hi ≤ lo + 999999) :
    FnSpec Tryz.prog 19 [.pointer (some ⟨b, 0, none⟩), .int .i64 lo, .int .i64 hi] I [rtCodesR b A c L k]
      (fun v R' => ∃ (r : Int) (k' : Nat), v = .int .i64 r ∧ (lo ≤ r ∧ r ≤ hi) ∧ k' ≤ L.length ∧ R' = [rtCodesR b A c L k']) := by
  refine FnSpec.enterP Tryz.func19 rfl Tryz.ntmps19 rfl fun w F => ?_
  repeat' first
    | ((with_reducible refine Nx.is_wp ?_); first | refine Nx.wo ?_ | refine Nx.zp (fun hc => ?_) (fun hc => ?_))
    | (refine Nx.zo ?_; first | refine Nx.opr rfl rfl ?_ | (refine Nx.call rfl rfl rfl (by kernel_rfl) rfl (rtNext_any b A c L k _ I hL hk (by omega)) (Ent.refl _) ?_; rintro _ _ ⟨r, k1, rfl, hr, hk1, rfl⟩) | refine Nx.so ?_ | refine Nx.sb (fun bx => ?_) | refine Nx.sa (fun A2 c2 => ?_))
    | ((with_reducible refine Nx.is_at ?_); first | refine Nx.a ?_ | refine Nx.zd ?_ | refine Nx.zs (fun hc => ?_) (fun hc => ?_))
    | ((with_reducible refine Nx.is_mix ?_); first | refine Nx.m ?_ | refine Nx.zm ?_ | refine Nx.zt (fun hc => ?_) (fun hc => ?_))
    | refine Nx.zx ?_ | fail
  exact Nx.ret_fn rfl [_] ⟨_, k1, rfl, ⟨by omega, by omega⟩, hk1, rfl⟩ (by (exact Ent.auto))
/-! Putting a shift into its place -/
def insAt (l : List Shift) (x : Shift) : Nat := l.findIdx fun y => !(beforeB y x)
def insL (l : List Shift) (x : Shift) : List Shift := l.take (insAt l x) ++ [x] ++ l.drop (insAt l x)
def addE (l : List Shift) (x : Shift) : Int :=
  if checkE l ≠ 0 then checkE l else if nameB x.1 = false then 3 else if properB x = false then 43 else if meetsB l x = true then 46 else if l.length = 60 then 1 else 0
def addL (l : List Shift) (x : Shift) : List Shift := if addE l x = 0 then insL l x else l
theorem insAt_le (l : List Shift) (x : Shift) : insAt l x ≤ l.length := List.findIdx_le_length
theorem insL_len (l : List Shift) (x : Shift) : (insL l x).length = l.length + 1 := by
  have := insAt_le l x
  unfold insL
  simp only [List.length_append, List.length_take, List.length_drop, List.length_singleton]
  omega
abbrev shiftsR (A : Option Addr) (c : Nat) (l : List Shift) : Res := Vec 96 3 A l.length c (l.flatMap shC)
end Go.Proofs.YtjnhoemgceghlaaGreat
/- Contracts of functions of the given program, and lemmas about plain lists and numbers: what the laws of this seat lean on. -/
namespace Go.Proofs.YtjnhoemgceghlaaGreat
open Go.Eng
attribute [local irreducible] opK wpList Code.wp Exit.then Exit.inBlock fnPost bodyPost Nx Calls Oper.wp Rd Rds Wr Ent Stars Blk Again Vec FnSpec wpMix QRun Stop Upto wpAt
attribute [local irreducible] wpFork
theorem unstop {C : Cx} {e : Env} {I : PH} {R : List Res} {K : Act → World → Prop} (h : Nx C e I R K) : Nx C e I R (Stop K) := by unfold Stop; exact h
end Go.Proofs.YtjnhoemgceghlaaGreat
/- Contracts of functions of the given program, and lemmas about plain lists and numbers: what the laws of this seat lean on. -/
namespace Go.Proofs.YtjnhoemgceghlaaGreat
open Go.Eng
/-! Rotas: plain facts -/
theorem bless : ∀ (x y : List UInt8), Op.bytesLess x y = decide (x < y)
  | [], [] => by simp [Op.bytesLess]
  | [], b :: y => by simp [Op.bytesLess]
  | a :: x, [] => by simp [Op.bytesLess]
  | a :: x, b :: y => by
    simp only [Op.bytesLess, bless x y, List.cons_lt_cons_iff]
    rw [Bool.eq_iff_iff]
    simp
theorem strLt_eq (a b : List UInt8) : strLt a b = decide (a < b) := bless a b
theorem str_tri (a b : List UInt8) : a < b ∨ a = b ∨ b < a := by
  by_cases h : a < b
  · exact .inl h
  · by_cases h2 : b < a
    · exact .inr (.inr h2)
    · exact .inr (.inl (List.le_antisymm (List.not_lt.1 h2) (List.not_lt.1 h)))
theorem before_iff (a b : Shift) : beforeB a b = true ↔ (a.2.1 < b.2.1 ∨ (a.2.1 = b.2.1 ∧ a.1 < b.1)) := by
  unfold beforeB
  rw [strLt_eq]
  simp
theorem before_trans {a b c : Shift} (h1 : beforeB a b = true) (h2 : beforeB b c = true) : beforeB a c = true := by
  rw [before_iff] at *
  rcases h1 with h1 | ⟨h1, h3⟩ <;> rcases h2 with h2 | ⟨h2, h4⟩
  · exact .inl (by omega)
  · exact .inl (by omega)
  · exact .inl (by omega)
  · exact .inr ⟨by omega, List.lt_trans h3 h4⟩
theorem before_tri (a b : Shift) : beforeB a b = true ∨ (a.2.1 = b.2.1 ∧ a.1 = b.1) ∨ beforeB b a = true := by
  rw [before_iff, before_iff]
  by_cases h1 : a.2.1 < b.2.1
  · exact .inl (.inl h1)
  · by_cases h2 : b.2.1 < a.2.1
    · exact .inr (.inr (.inl h2))
    · have he : a.2.1 = b.2.1 := by omega
      rcases str_tri a.1 b.1 with h | h | h
      · exact .inl (.inr ⟨he, h⟩)
      · exact .inr (.inl ⟨he, h⟩)
      · exact .inr (.inr (.inr ⟨he.symm, h⟩))
theorem meet_symm (a b : Shift) : meetB a b = meetB b a := by
  unfold meetB
  rw [show (a.1 == b.1) = (b.1 == a.1) by rw [Bool.eq_iff_iff, beq_iff_eq, beq_iff_eq]; exact eq_comm]
  congr 1
  rw [decide_eq_decide]
  exact ⟨fun h => ⟨h.2, h.1⟩, fun h => ⟨h.2, h.1⟩⟩
/-- A valid rota, in plain words. -/
structure Rota (l : List Shift) : Prop where
  few : l.length ≤ 60
  each : ∀ x ∈ l, singleE x = 0
  asc : l.Pairwise fun a b => beforeB a b = true
  apart : l.Pairwise fun a b => meetB a b = false
theorem sh_at {l : List Shift} {j : Nat} (h : j < l.length) : l.getD j default = l[j] := by rw [List.getD_eq_getElem?_getD, List.getElem?_eq_getElem h]; rfl
theorem checkN_zero {l : List Shift} : ∀ {n : Nat}, checkN l n = 0 ↔ ∀ k, k < n → checkAt l k = 0
  | 0 => ⟨fun _ k hk => absurd hk (Nat.not_lt_zero _), fun _ => rfl⟩
  | n + 1 => by
    unfold checkN
    constructor
    · intro h k hk
      by_cases h0 : checkN l n = 0
      · rw [if_neg (by omega)] at h
        by_cases hkn : k = n
        · rw [hkn]; exact h
        · exact (checkN_zero.1 h0) k (by omega)
      · rw [if_pos h0] at h; exact absurd h h0
    · intro h
      have h0 : checkN l n = 0 := checkN_zero.2 fun k hk => h k (by omega)
      rw [if_neg (by omega)]
      exact h n (by omega)
theorem checkAt_zero {l : List Shift} {k : Nat} : checkAt l k = 0 ↔ singleE (l.getD k default) = 0 ∧ (0 < k → beforeB (l.getD (k - 1) default) (l.getD k default) = true) ∧ meetsB (l.take k) (l.getD k default) = false := by
  unfold checkAt
  by_cases h1 : singleE (l.getD k default) = 0
  · rw [if_neg (by omega)]
    by_cases h2 : 0 < k ∧ beforeB (l.getD (k - 1) default) (l.getD k default) = false
    · rw [if_pos h2]
      exact ⟨fun h => by omega, fun h => by have := h.2.1 h2.1; rw [h2.2] at this; cases this⟩
    · rw [if_neg h2]
      have h3 : 0 < k → beforeB (l.getD (k - 1) default) (l.getD k default) = true := fun h => by
        cases hb : beforeB (l.getD (k - 1) default) (l.getD k default) with
        | true => rfl
        | false => exact absurd ⟨h, hb⟩ h2
      cases hm : meetsB (l.take k) (l.getD k default) with
      | true => simp
      | false => exact ⟨fun _ => ⟨h1, h3, rfl⟩, fun _ => by simp⟩
  · rw [if_pos h1]
    exact ⟨fun h => absurd h h1, fun h => absurd h.1 h1⟩
theorem asc_of {l : List Shift} (h : ∀ k, 0 < k → k < l.length → beforeB (l.getD (k - 1) default) (l.getD k default) = true) : l.Pairwise fun a b => beforeB a b = true := by
  rw [List.pairwise_iff_getElem]
  have key : ∀ d i, (h1 : i + d + 1 < l.length) → beforeB (l.getD i default) (l.getD (i + d + 1) default) = true := by
    intro d
    induction d with
    | zero => intro i h1; have := h (i + 1) (by omega) h1; rw [Nat.add_sub_cancel] at this; exact this
    | succ d ih =>
      intro i h1
      have h2 := ih i (by omega)
      have h3 := h (i + d + 1 + 1) (by omega) (by omega)
      rw [Nat.add_sub_cancel] at h3
      exact before_trans h2 (by rw [show i + (d + 1) + 1 = i + d + 1 + 1 by omega]; exact h3)
  intro i j hi hj hij
  have := key (j - i - 1) i (by omega)
  rw [show i + (j - i - 1) + 1 = j by omega, sh_at hi, sh_at hj] at this
  exact this
theorem rota_iff {l : List Shift} : checkE l = 0 ↔ Rota l := by
  unfold checkE
  constructor
  · intro h
    by_cases h60 : 60 < l.length
    · rw [if_pos h60] at h; omega
    · rw [if_neg h60] at h
      have hk := checkN_zero.1 h
      refine ⟨by omega, fun x hx => ?_, asc_of fun k h0 hk' => (checkAt_zero.1 (hk k hk')).2.1 h0, ?_⟩
      · obtain ⟨k, hk', rfl⟩ := List.mem_iff_getElem.1 hx
        have := (checkAt_zero.1 (hk k hk')).1
        rw [sh_at hk'] at this
        exact this
      · rw [List.pairwise_iff_getElem]
        intro i j hi hj hij
        have := (checkAt_zero.1 (hk j hj)).2.2
        unfold meetsB at this
        rw [List.any_eq_false] at this
        have := this l[i] (by rw [List.mem_take_iff_getElem]; exact ⟨i, by omega, rfl⟩)
        rw [sh_at hj] at this
        simpa using this
  · rintro ⟨h1, h2, h3, h4⟩
    rw [if_neg (by omega), checkN_zero]
    rw [List.pairwise_iff_getElem] at h3 h4
    intro k hk
    rw [checkAt_zero, sh_at hk]
    refine ⟨h2 _ (List.getElem_mem _), fun h0 => ?_, ?_⟩
    · rw [sh_at (by omega)]; exact h3 _ _ _ _ (by omega)
    · unfold meetsB
      rw [List.any_eq_false]
      intro y hy
      rw [List.mem_take_iff_getElem] at hy
      obtain ⟨i, hi, rfl⟩ := hy
      rw [h4 i k (by omega) hk (by omega)]
      decide
theorem insAt_spec (l : List Shift) (x : Shift) : (∀ j, j < insAt l x → beforeB (l.getD j default) x = true) ∧ (insAt l x < l.length → beforeB (l.getD (insAt l x) default) x = false) := by
  refine ⟨fun j hj => ?_, fun h => ?_⟩
  · have hjl : j < l.length := by have := insAt_le l x; omega
    have := List.not_of_lt_findIdx hj
    rw [sh_at hjl]
    simpa using this
  · have := List.findIdx_getElem (w := h)
    rw [sh_at h]
    have h2 : (!(beforeB l[insAt l x] x)) = true := this
    simpa using h2
theorem single_proper {x : Shift} (h : singleE x = 0) : nameB x.1 = true ∧ properB x = true := by
  unfold singleE at h
  split at h
  · rename_i h1
    split at h
    · rename_i h2; exact ⟨h1, h2⟩
    · omega
  · omega
theorem meets_false {l : List Shift} {x : Shift} (h : meetsB l x = false) : ∀ y ∈ l, meetB y x = false := fun y hy => by
  unfold meetsB at h
  rw [List.any_eq_false] at h
  simpa using h y hy
theorem Rota.ins {l : List Shift} {x : Shift} (h : Rota l) (hx : singleE x = 0) (hm : meetsB l x = false) (hl : l.length < 60) : Rota (insL l x) := by
  have hle := insAt_le l x
  obtain ⟨s1, s2⟩ := insAt_spec l x
  have hap := meets_false hm
  have hpx := of_decide_eq_true (single_proper hx).2
  have hb : ∀ y ∈ l, beforeB y x = false → beforeB x y = true := fun y hy hf => by
    rcases before_tri x y with h1 | ⟨h1, h2⟩ | h1
    · exact h1
    · have hpy := of_decide_eq_true (single_proper (h.each y hy)).2
      have hmy := hap y hy
      unfold meetB at hmy
      rw [h2, beq_self_eq_true, Bool.true_and, decide_eq_false_iff_not] at hmy
      omega
    · rw [hf] at h1; cases h1
  have hlow : ∀ y ∈ l.take (insAt l x), beforeB y x = true := fun y hy => by
    rw [List.mem_take_iff_getElem] at hy
    obtain ⟨i, hi, rfl⟩ := hy
    have := s1 i (by omega)
    rw [sh_at (by omega)] at this
    exact this
  have hhigh : ∀ y ∈ l.drop (insAt l x), beforeB x y = true := fun y hy => by
    have hyl := List.mem_of_mem_drop hy
    obtain ⟨i, hi, rfl⟩ := List.mem_iff_getElem.1 hy
    rw [List.length_drop] at hi
    have hlt : insAt l x < l.length := by omega
    have h0 := hb _ (List.getElem_mem hlt) (by have := s2 hlt; rw [sh_at hlt] at this; exact this)
    by_cases hi0 : i = 0
    · subst hi0
      rw [List.getElem_drop]
      simpa using h0
    · have := (List.pairwise_iff_getElem.1 h.asc) (insAt l x) (insAt l x + i) hlt (by omega) (by omega)
      rw [List.getElem_drop]
      exact before_trans h0 this
  have hsp : l = l.take (insAt l x) ++ l.drop (insAt l x) := (List.take_append_drop _ _).symm
  refine ⟨by rw [insL_len]; omega, fun y hy => ?_, ?_, ?_⟩
  · unfold insL at hy
    simp only [List.mem_append, List.mem_singleton] at hy
    rcases hy with (hy | rfl) | hy
    · exact h.each y (List.mem_of_mem_take hy)
    · exact hx
    · exact h.each y (List.mem_of_mem_drop hy)
  · have ha := h.asc
    rw [hsp, List.pairwise_append] at ha
    unfold insL
    rw [List.append_assoc, List.pairwise_append]
    refine ⟨ha.1, List.pairwise_cons.2 ⟨hhigh, ha.2.1⟩, fun a ha' b hb' => ?_⟩
    rcases List.mem_cons.1 hb' with rfl | hb'
    · exact hlow a ha'
    · exact ha.2.2 a ha' b hb'
  · have ha := h.apart
    rw [hsp, List.pairwise_append] at ha
    unfold insL
    rw [List.append_assoc, List.pairwise_append]
    refine ⟨ha.1, List.pairwise_cons.2 ⟨fun y hy => by rw [meet_symm]; exact hap y (List.mem_of_mem_drop hy), ha.2.1⟩, fun a ha' b hb' => ?_⟩
    rcases List.mem_cons.1 hb' with rfl | hb'
    · exact hap a (List.mem_of_mem_take ha')
    · exact ha.2.2 a ha' b hb'
theorem Rota.add {l : List Shift} {x : Shift} (h : Rota l) : Rota (addL l x) := by
  unfold addL
  split
  · rename_i he
    unfold addE at he
    rw [if_neg (by rw [rota_iff.2 h]; decide)] at he
    split at he
    · omega
    rename_i h1
    split at he
    · omega
    rename_i h2
    split at he
    · omega
    rename_i h3
    split at he
    · omega
    rename_i h4
    refine h.ins ?_ (by simpa using h3) (by have := h.few; omega)
    unfold singleE
    simp at h1 h2
    rw [if_pos h1, if_pos h2]
  · exact h
end Go.Proofs.YtjnhoemgceghlaaGreat
/- Contracts of functions of the given program, and lemmas about plain lists and numbers: what the laws of this seat lean on. -/
namespace Go.Proofs.YtjnhoemgceghlaaGreat
def srtS_ren : Go.Shelf.Ren := ⟨fun | 6 => 81 | 8 => 86 | 9 => 105 | 19 => 116 | 20 => 117 | 21 => 128 | 22 => 129 | 23 => 130 | 24 => 131 | 25 => 132 | 26 => 133 | 27 => 134 | 28 => 135 | 29 => 136 | 36 => 164 | 31 => 140 | 32 => 141 | 37 => 165 | 38 => 166 | 39 => 126 | 41 => 174 | n => n, fun | 27 => 69 | 29 => 9 | 3 => 3 | 32 => 104 | 26 => 69 | 0 => 0 | 44 => 129 | 46 => 131 | 4 => 4 | 36 => 154 | 35 => 153 | 41 => 158 | 5 => 5 | 9 => 9 | 53 => 178 | 57 => 182 | 63 => 204 | 64 => 191 | n => n, fun | n => n⟩
theorem srtS : Go.Proofs.SlLaysM.n6 Tryz.prog srtS_ren where
  mixed := by kernel_rfl
  f6 := ⟨ "slices.Sort[[]string,string]", by decide, Tryz.func81.trans (congrArg some (by kernel_rfl))⟩
  f8 := Tryz.func86.trans (congrArg some (by kernel_rfl))
  f9 := ⟨ "slices.pdqsortOrdered[string]", by decide, Tryz.func105.trans (congrArg some (by kernel_rfl))⟩
  f19 := Tryz.func116.trans (congrArg some (by kernel_rfl))
  f20 := Tryz.func117.trans (congrArg some (by kernel_rfl))
  f21 := ⟨ "slices.insertionSortOrdered[string]", by decide, Tryz.func128.trans (congrArg some (by kernel_rfl))⟩
  f22 := ⟨ "slices.heapSortOrdered[string]", by decide, Tryz.func129.trans (congrArg some (by kernel_rfl))⟩
  f23 := ⟨ "slices.breakPatternsOrdered[string]", by decide, Tryz.func130.trans (congrArg some (by kernel_rfl))⟩
  f24 := ⟨ "slices.choosePivotOrdered[string]", by decide, Tryz.func131.trans (congrArg some (by kernel_rfl))⟩
  f25 := ⟨ "slices.reverseRangeOrdered[string]", by decide, Tryz.func132.trans (congrArg some (by kernel_rfl))⟩
  f26 := ⟨ "slices.partialInsertionSortOrdered[string]", by decide, Tryz.func133.trans (congrArg some (by kernel_rfl))⟩
  f27 := ⟨ "cmp.Less[string]", by decide, Tryz.func134.trans (congrArg some (by kernel_rfl))⟩
  f28 := ⟨ "slices.partitionEqualOrdered[string]", by decide, Tryz.func135.trans (congrArg some (by kernel_rfl))⟩
  f29 := ⟨ "slices.partitionOrdered[string]", by decide, Tryz.func136.trans (congrArg some (by kernel_rfl))⟩
  f31 := Tryz.func140.trans (congrArg some (by kernel_rfl))
  f32 := Tryz.func141.trans (congrArg some (by kernel_rfl))
  f36 := ⟨ "slices.siftDownOrdered[string]", by decide, Tryz.func164.trans (congrArg some (by kernel_rfl))⟩
  f37 := ⟨ "slices.medianAdjacentOrdered[string]", by decide, Tryz.func165.trans (congrArg some (by kernel_rfl))⟩
  f38 := ⟨ "slices.medianOrdered[string]", by decide, Tryz.func166.trans (congrArg some (by kernel_rfl))⟩
  f39 := ⟨ "cmp.isNaN[string]", by decide, Tryz.func126.trans (congrArg some (by kernel_rfl))⟩
  f41 := ⟨ "slices.order2Ordered[string]", by decide, Tryz.func174.trans (congrArg some (by kernel_rfl))⟩
  t0 := Tryz.underlying0
  a0 := Tryz.isAgg0
  z0 := Tryz.sizeOf0
  v0 := Tryz.zeroValue0
  t3 := Tryz.underlying3
  a3 := Tryz.isAgg3
  z3 := Tryz.sizeOf3
  v3 := Tryz.zeroValue3
  t4 := Tryz.underlying4
  a4 := Tryz.isAgg4
  z4 := Tryz.sizeOf4
  v4 := Tryz.zeroValue4
  t5 := Tryz.underlying5
  a5 := Tryz.isAgg5
  z5 := Tryz.sizeOf5
  v5 := Tryz.zeroValue5
  t9 := Tryz.underlying9
  a9 := Tryz.isAgg9
  z9 := Tryz.sizeOf9
  v9 := Tryz.zeroValue9
  t26 := Tryz.underlying69
  a26 := Tryz.isAgg69
  z26 := Tryz.sizeOf69
  v26 := Tryz.zeroValue69
  t27 := Tryz.underlying69
  a27 := Tryz.isAgg69
  z27 := Tryz.sizeOf69
  v27 := Tryz.zeroValue69
  t29 := Tryz.underlying9
  a29 := Tryz.isAgg9
  z29 := Tryz.sizeOf9
  v29 := Tryz.zeroValue9
  t32 := Tryz.underlying104
  a32 := Tryz.isAgg104
  z32 := Tryz.sizeOf104
  v32 := Tryz.zeroValue104
  t35 := Tryz.underlying153
  a35 := Tryz.isAgg153
  z35 := Tryz.sizeOf153
  v35 := Tryz.zeroValue153
  t36 := Tryz.underlying154
  a36 := Tryz.isAgg154
  z36 := Tryz.sizeOf154
  v36 := Tryz.zeroValue154
  t41 := Tryz.underlying158
  a41 := Tryz.isAgg158
  z41 := Tryz.sizeOf158
  v41 := Tryz.zeroValue158
  t44 := Tryz.underlying129
  a44 := Tryz.isAgg129
  z44 := Tryz.sizeOf129
  v44 := Tryz.zeroValue129
  t46 := Tryz.underlying131
  a46 := Tryz.isAgg131
  z46 := Tryz.sizeOf131
  v46 := Tryz.zeroValue131
  t53 := Tryz.underlying178
  a53 := Tryz.isAgg178
  z53 := Tryz.sizeOf178
  v53 := Tryz.zeroValue178
  t57 := Tryz.underlying182
  a57 := Tryz.isAgg182
  z57 := Tryz.sizeOf182
  v57 := Tryz.zeroValue182
  t63 := Tryz.underlying204
  a63 := Tryz.isAgg204
  z63 := Tryz.sizeOf204
  v63 := Tryz.zeroValue204
  t64 := Tryz.underlying191
  a64 := Tryz.isAgg191
  z64 := Tryz.sizeOf191
  v64 := Tryz.zeroValue191
end Go.Proofs.YtjnhoemgceghlaaGreat
namespace Go.Proofs.YtjnhoemgceghlaaGreat
open Go.Eng
def srtT (l : List (List UInt8)) : List (List UInt8) := l.mergeSort fun x y => decide (x ≤ y)
theorem srtT_len (l : List (List UInt8)) : (srtT l).length = l.length := List.length_mergeSort _
theorem vecT_cases {I : PH} {R : List Res} {W w : World} {t : TypeId} {A : Option Addr} {c : Nat} {l : List (List UInt8)} (h : St W I (Vec t 1 A l.length c (l.map strV) :: R) w) : (A = none ∧ l = [] ∧ c = 0) ∨ ∃ b, A = some ⟨b, 0, none⟩ ∧ l.length ≤ c := by
  obtain ⟨⟨m, ⟨m1, m2, hd, rfl, hv, h2⟩, hs⟩, hst⟩ := h
  rcases hv.2 with ⟨rfl, h1, rfl⟩ | ⟨b, cur, rfl, _, h1, _⟩
  · exact .inl ⟨rfl, List.eq_nil_of_length_eq_zero h1, rfl⟩
  · exact .inr ⟨b, rfl, h1⟩
abbrev textsR (A : Option Addr) (c : Nat) (l : List (List UInt8)) : Res := Vec 9 1 A l.length c (l.map strV)
set_option maxHeartbeats 8000000 in
theorem SortT_spec (A : Option Addr) (c : Nat) (l : List (List UInt8)) (I : PH) (hl : l.length < 4611686018427387904) :
    FnSpec Tryz.prog 81 [.slice A l.length c] I [textsR A c l] (fun v R' => v = .tuple #[] ∧ R' = [textsR A c (srtT l)]) := by
  intro w F hw
  rcases vecT_cases hw with ⟨rfl, rfl, rfl⟩ | ⟨b, rfl, hle⟩
  · refine (AnyM.slices_Sort_string_none srtS none 0 w).mono fun e w' => ?_
    rintro ⟨rfl, rfl⟩
    refine ⟨_, _, rfl, ⟨rfl, rfl⟩, ?_⟩
    have : srtT [] = [] := List.eq_nil_of_length_eq_zero (srtT_len [])
    rw [this]
    exact hw
  · obtain ⟨h1, h2⟩ := Vec.holds hw
    refine (AnyM.slices_Sort_string srtS b 0 c l w h1 h2 hl).mono fun e w' => ?_
    rintro ⟨rfl, n, os, rfl⟩
    exact ⟨_, _, rfl, ⟨rfl, rfl⟩, hw.putRow (srtT_len l) n os⟩
/-- Who is on duty, in the rota's order. -/
def onB (t : Int) (x : Shift) : Bool := decide (x.2.1 ≤ t ∧ t < x.2.2)
def onP (l : List Shift) (t : Int) : List (List UInt8) := (l.filter (onB t)).map (·.1)
def onT (l : List Shift) (t : Int) : List (List UInt8) := srtT (onP l t)
theorem onP_len (l : List Shift) (t : Int) : (onP l t).length ≤ l.length := by unfold onP; rw [List.length_map]; exact List.length_filter_le _ _
theorem onP_succ {l : List Shift} {t : Int} {k : Nat} (hk : k < l.length) : onP (l.take (k + 1)) t = if onB t (l.getD k default) = true then onP (l.take k) t ++ [(l.getD k default).1] else onP (l.take k) t := by
  unfold onP
  rw [List.take_succ_eq_append_getElem hk, List.filter_append, sh_at hk]
  by_cases h : onB t l[k] = true
  · rw [if_pos h]; simp [h]
  · rw [if_neg h]; simp [h]
section
attribute [local irreducible] opK wpList Code.wp Exit.then Exit.inBlock fnPost bodyPost Nx Calls Oper.wp Rd Rds Wr Ent Stars Blk Again Vec FnSpec wpMix QRun Stop Upto wpAt
set_option maxHeartbeats 8000000 in
set_option maxRecDepth 10000 in
theorem on_spec (A : Option Addr) (c : Nat) (l : List Shift) (t : Int) (I : PH) (hl : Shifts I A c l) (h9 : l.length ≤ 1000) :
    FnSpec Tryz.prog 57 [.slice A l.length c, .int .i64 t] I [] (fun v R' => ∃ A' c', v = .slice A' (onT l t).length c' ∧ R' = [textsR A' c' (onT l t)]) := by
  have hlen := hl.len
  refine FnSpec.enterP Tryz.func57 rfl Tryz.ntmps57 rfl fun w F => ?_
  repeat' first
    | ((with_reducible refine Nx.is_wp ?_); first | refine Nx.wo ?_ | refine Nx.zp (fun hc => ?_) (fun hc => ?_))
    | (refine Nx.zo ?_; first | refine Nx.opr rfl rfl ?_ | refine Nx.so ?_ | refine Nx.sb (fun bx => ?_) | refine Nx.sa (fun A2 c2 => ?_))
    | ((with_reducible refine Nx.is_at ?_); first | refine Nx.a ?_ | refine Nx.zd ?_ | refine Nx.zs (fun hc => ?_) (fun hc => ?_))
    | ((with_reducible refine Nx.is_mix ?_); first | refine Nx.m ?_ | refine Nx.zm ?_ | refine Nx.zt (fun hc => ?_) (fun hc => ?_))
    | refine Nx.zx ?_ | fail
  refine Nx.p_loop (σ := Nat × Option Addr × Nat) (fun s => [(1, .int .i64 t), (5, .slice s.2.1 (onP (l.take s.1) t).length s.2.2), (8, .slice A l.length c), (9, .int .i64 l.length), (10, .int .i64 (s.1 : Int))])
    (fun s => [textsR s.2.1 s.2.2 (onP (l.take s.1) t), F]) (fun s => s.1 ≤ l.length) (fun s => l.length - s.1) (0, none, 0) rfl (Nat.zero_le _) ⟨rfl, rfl, rfl, rfl, rfl, trivial⟩ ((Ent.vec_nil _ _ _).trans (by (exact Ent.auto))) ?_
  rintro ⟨k, A1, c1⟩ hk
  dsimp only at hk ⊢
  have hpl := onP_len (l.take k) t
  rw [List.length_take] at hpl
  by_cases hlt : k < l.length
  · have hs := onP_succ (t := t) hlt
    by_cases hon : onB t (l.getD k default) = true
    · rw [if_pos hon] at hs
      have hon' := of_decide_eq_true hon
      repeat' first
        | ((with_reducible refine Nx.is_wp ?_); first | refine Nx.wo ?_ | refine Nx.zp (fun hc => ?_) (fun hc => ?_))
        | (refine Nx.zo ?_; first | refine Nx.opr rfl rfl ?_ | refine Nx.indexAddr_nat rfl rfl rfl rfl rfl (by omega) (hl.isSome (by omega) (by omega)) ?_ | refine Nx.loads rfl rfl rfl rfl (hl.rds (by omega)) rfl ?_ | refine Nx.so ?_ | refine Nx.sb (fun bx => ?_) | refine Nx.sa (fun A2 c2 => ?_))
        | ((with_reducible refine Nx.is_at ?_); first | refine Nx.a ?_ | refine Nx.zd ?_ | refine Nx.zs (fun hc => ?_) (fun hc => ?_))
        | ((with_reducible refine Nx.is_mix ?_); first | refine Nx.m ?_ | refine Nx.zm ?_ | refine Nx.zt (fun hc => ?_) (fun hc => ?_))
        | refine Nx.zx ?_ | fail
      refine Nx.again (k + 1, A2, c2) hlt (by dsimp only; omega) ⟨rfl, by dsimp only; rw [hs, List.length_append]; rfl, rfl, rfl, rfl, trivial⟩ ?_
      dsimp only
      rw [hs]
      refine Ent.pickE 0 rfl ?_ (by (exact Ent.auto))
      unfold textsR
      rw [List.length_append, List.map_append]
      rfl
    · rw [if_neg hon] at hs
      have hon' := of_decide_eq_false (show onB t (l.getD k default) = false by simpa using hon)
      repeat' first
        | ((with_reducible refine Nx.is_wp ?_); first | refine Nx.wo ?_ | refine Nx.zp (fun hc => ?_) (fun hc => ?_))
        | (refine Nx.zo ?_; first | refine Nx.opr rfl rfl ?_ | refine Nx.indexAddr_nat rfl rfl rfl rfl rfl (by omega) (hl.isSome (by omega) (by omega)) ?_ | refine Nx.loads rfl rfl rfl rfl (hl.rds (by omega)) rfl ?_ | refine Nx.so ?_ | refine Nx.sb (fun bx => ?_) | refine Nx.sa (fun A2 c2 => ?_))
        | ((with_reducible refine Nx.is_at ?_); first | refine Nx.a ?_ | refine Nx.zd ?_ | refine Nx.zs (fun hc => ?_) (fun hc => ?_))
        | ((with_reducible refine Nx.is_mix ?_); first | refine Nx.m ?_ | refine Nx.zm ?_ | refine Nx.zt (fun hc => ?_) (fun hc => ?_))
        | refine Nx.zx ?_ | fail
      all_goals first
        | exact Nx.again (k + 1, A1, c1) hlt (by dsimp only; omega) ⟨rfl, by dsimp only; rw [hs]; rfl, rfl, rfl, rfl, trivial⟩ (by dsimp only; rw [hs]; (exact Ent.auto))
        | (exfalso; omega)
  · obtain rfl : k = l.length := by omega
    rw [List.take_length] at hpl ⊢
    repeat' first
      | ((with_reducible refine Nx.is_wp ?_); first | refine Nx.wo ?_ | refine Nx.zp (fun hc => ?_) (fun hc => ?_))
      | (refine Nx.zo ?_; first | refine Nx.opr rfl rfl ?_ | refine Nx.so ?_ | refine Nx.sb (fun bx => ?_) | refine Nx.sa (fun A2 c2 => ?_))
      | ((with_reducible refine Nx.is_at ?_); first | refine Nx.a ?_ | refine Nx.zd ?_ | refine Nx.zs (fun hc => ?_) (fun hc => ?_))
      | ((with_reducible refine Nx.is_mix ?_); first | refine Nx.m ?_ | refine Nx.zm ?_ | refine Nx.zt (fun hc => ?_) (fun hc => ?_))
      | refine Nx.zx ?_ | fail
    refine Nx.at_op rfl rfl ?_
    refine Nx.call rfl rfl rfl (by kernel_rfl) rfl (SortT_spec A1 c1 (onP l t) I (by omega)) (by (exact Ent.auto)) ?_
    rintro _ R' ⟨rfl, rfl⟩
    repeat' first
      | ((with_reducible refine Nx.is_wp ?_); first | refine Nx.wo ?_ | refine Nx.zp (fun hc => ?_) (fun hc => ?_))
      | (refine Nx.zo ?_; first | refine Nx.opr rfl rfl ?_ | refine Nx.so ?_ | refine Nx.sb (fun bx => ?_) | refine Nx.sa (fun A2 c2 => ?_))
      | ((with_reducible refine Nx.is_at ?_); first | refine Nx.a ?_ | refine Nx.zd ?_ | refine Nx.zs (fun hc => ?_) (fun hc => ?_))
      | ((with_reducible refine Nx.is_mix ?_); first | refine Nx.m ?_ | refine Nx.zm ?_ | refine Nx.zt (fun hc => ?_) (fun hc => ?_))
      | refine Nx.zx ?_ | fail
    exact Nx.ret_fn rfl [textsR A1 c1 (onT l t)] ⟨A1, c1, by rw [show (onT l t).length = (onP l t).length from srtT_len _], rfl⟩ (by unfold onT; (exact Ent.auto))
end
end Go.Proofs.YtjnhoemgceghlaaGreat
/- Contracts of functions of the given program, and lemmas about plain lists and numbers: what the laws of this seat lean on. -/
namespace Go.Proofs.YtjnhoemgceghlaaGreat
open Go.Eng
theorem tx_at {l : List (List UInt8)} {k : Nat} (h : k < l.length) : l.getD k default = l[k] := by rw [List.getD_eq_getElem?_getD, List.getElem?_eq_getElem h]; rfl
section
attribute [local irreducible] opK wpList Code.wp Exit.then Exit.inBlock fnPost bodyPost Nx Calls Oper.wp Rd Rds Wr Ent Stars Blk Again Vec FnSpec wpMix QRun Stop Upto wpAt
/-- A list while some are taken out of it. -/
structure DelS (p : List UInt8 → Bool) (l : List (List UInt8)) (s : Nat × List (List UInt8)) : Prop where
  le : s.1 ≤ l.length
  len : s.2.length = l.length
  head : s.2.take ((l.take s.1).filter fun x => !(p x)).length = (l.take s.1).filter fun x => !(p x)
  tail : ∀ j, s.1 ≤ j → s.2.getD j default = l.getD j default
  lt : ((l.take s.1).filter fun x => !(p x)).length < s.1
theorem take_snoc {l : List (List UInt8)} {p : List UInt8 → Bool} {k : Nat} (h : k < l.length) : (l.take (k + 1)).filter (fun x => !(p x)) = (l.take k).filter (fun x => !(p x)) ++ (if p (l.getD k default) = true then [] else [l.getD k default]) := by
  rw [List.take_succ_eq_append_getElem h, List.filter_append, tx_at h]
  congr 1
  cases hp : p l[k] <;> simp [hp]
theorem DelS.keep {p : List UInt8 → Bool} {l xs : List (List UInt8)} {k : Nat} (h : DelS p l (k, xs)) (hk : k < l.length) (hp : p (l.getD k default) = false) : DelS p l (k + 1, xs.set ((l.take k).filter fun x => !(p x)).length (l.getD k default)) := by
  have e := take_snoc (p := p) hk
  rw [if_neg (by rw [hp]; decide)] at e
  have hlt := h.lt
  have hlen := h.len
  have hh := h.head
  dsimp only at hlt hlen hh
  refine ⟨hk, by dsimp only; rw [List.length_set]; exact hlen, ?_, fun j hj => ?_, by dsimp only; rw [e]; simp only [List.length_append, List.length_singleton]; omega⟩
  · dsimp only
    rw [e, List.length_append, List.length_singleton, List.take_succ_eq_append_getElem (by rw [List.length_set]; omega), List.take_set_of_le (Nat.le_refl _), hh]
    simp
  · dsimp only at hj ⊢
    rw [List.getD_eq_getElem?_getD, List.getElem?_set_ne (by omega), ← List.getD_eq_getElem?_getD]
    exact h.tail j (by dsimp only; omega)
end
end Go.Proofs.YtjnhoemgceghlaaGreat
/- Contracts of functions of the given program, and lemmas about plain lists and numbers: what the laws of this seat lean on. -/
namespace Go.Proofs.YtjnhoemgceghlaaGreat
open Go.Eng
attribute [local irreducible] opK wpList Code.wp Exit.then Exit.inBlock fnPost bodyPost Nx Calls Oper.wp Rd Rds Wr Ent Stars Blk Again Vec FnSpec wpMix QRun Stop Upto wpAt
set_option maxHeartbeats 8000000 in
set_option maxRecDepth 10000 in
theorem On_spec2 (A : Option Addr) (c : Nat) (l : List Shift) (t : Int) (I : PH) (hl : Shifts I A c l) (ho : ∀ x ∈ l, shOk x) (hE : checkE l = 0) :
    FnSpec Tryz.prog 32 [.slice A l.length c, .int .i64 t] I [] (fun v R' => ∃ A' c', v = .slice A' (onT l t).length c' ∧ R' = [textsR A' c' (onT l t)]) := by
  have h60 := (rota_iff.1 hE).few
  have hCk := rtCheck_spec A c l I hl ho
  rw [hE] at hCk
  refine FnSpec.enterP Tryz.func32 rfl Tryz.ntmps32 rfl fun w F => ?_
  repeat' first
    | ((with_reducible refine Nx.is_wp ?_); first | refine Nx.wo ?_ | refine Nx.zp (fun hc => ?_) (fun hc => ?_))
    | (refine Nx.zo ?_; first | refine Nx.opr rfl rfl ?_ | refine Nx.callv rfl rfl rfl (by kernel_rfl) rfl hCk ?_ | refine Nx.so ?_ | refine Nx.sb (fun bx => ?_) | refine Nx.sa (fun A2 c2 => ?_))
    | ((with_reducible refine Nx.is_at ?_); first | refine Nx.a ?_ | refine Nx.zd ?_ | refine Nx.zs (fun hc => ?_) (fun hc => ?_))
    | ((with_reducible refine Nx.is_mix ?_); first | refine Nx.m ?_ | refine Nx.zm ?_ | refine Nx.zt (fun hc => ?_) (fun hc => ?_))
    | refine Nx.zx ?_ | fail
  refine Nx.at_op rfl rfl ?_
  refine Nx.call rfl rfl rfl (by kernel_rfl) rfl (on_spec A c l t I hl (by omega)) (by (exact Ent.auto)) ?_
  rintro _ R' ⟨A3, c3, rfl, rfl⟩
  repeat' first
    | ((with_reducible refine Nx.is_wp ?_); first | refine Nx.wo ?_ | refine Nx.zp (fun hc => ?_) (fun hc => ?_))
    | (refine Nx.zo ?_; first | refine Nx.opr rfl rfl ?_ | refine Nx.so ?_ | refine Nx.sb (fun bx => ?_) | refine Nx.sa (fun A2 c2 => ?_))
    | ((with_reducible refine Nx.is_at ?_); first | refine Nx.a ?_ | refine Nx.zd ?_ | refine Nx.zs (fun hc => ?_) (fun hc => ?_))
    | ((with_reducible refine Nx.is_mix ?_); first | refine Nx.m ?_ | refine Nx.zm ?_ | refine Nx.zt (fun hc => ?_) (fun hc => ?_))
    | refine Nx.zx ?_ | fail
  exact Nx.ret_fn rfl [_] ⟨A3, c3, rfl, rfl⟩ (by (exact Ent.auto))
end Go.Proofs.YtjnhoemgceghlaaGreat
/- Contracts of functions of the given program, and lemmas about plain lists and numbers: what the laws of this seat lean on. -/
namespace Go.Proofs.YtjnhoemgceghlaaGreat
open Go.Eng
attribute [local irreducible] opK wpList Code.wp Exit.then Exit.inBlock fnPost bodyPost Nx Calls Oper.wp Rd Rds Wr Ent Stars Blk Again Vec FnSpec wpMix QRun Stop Upto wpAt
def full3 : List Shift := [([97, 110, 110], 0, 1000), ([98, 111, 98], 0, 1000), ([99, 121, 100], 10, 500)]
theorem full3_ok : checkE full3 = 0 := by decide
theorem full3_sh : ∀ x ∈ full3, shOk x := by
  intro x hx
  simp only [full3, List.mem_cons, List.not_mem_nil, or_false] at hx
  rcases hx with rfl | rfl | rfl <;> exact ⟨by decide, by unfold I64; decide, by unfold I64; decide⟩
set_option maxHeartbeats 8000000 in
set_option maxRecDepth 10000 in
theorem Full_spec (I : PH) : FnSpec Tryz.prog 33 [] I [] (fun v R' => ∃ A' c', v = .slice A' full3.length c' ∧ R' = [shiftsR A' c' full3]) := by
  refine FnSpec.enterP Tryz.func33 rfl Tryz.ntmps33 rfl fun w F => ?_
  repeat' first
    | ((with_reducible refine Nx.is_wp ?_); first | refine Nx.wo ?_ | refine Nx.zp (fun hc => ?_) (fun hc => ?_))
    | (refine Nx.zo ?_; first | refine Nx.opr rfl rfl ?_ | refine Nx.so ?_ | refine Nx.sb (fun bx => ?_) | refine Nx.sa (fun A2 c2 => ?_))
    | ((with_reducible refine Nx.is_at ?_); first | refine Nx.a ?_ | refine Nx.zd ?_ | refine Nx.zs (fun hc => ?_) (fun hc => ?_))
    | ((with_reducible refine Nx.is_mix ?_); first | refine Nx.m ?_ | refine Nx.zm ?_ | refine Nx.zt (fun hc => ?_) (fun hc => ?_))
    | refine Nx.zx ?_ | fail
  refine Nx.blk_vec 0 3 3 rfl rfl (by omega) ?_
  exact Nx.ret_fn rfl [shiftsR (some ⟨bx, 0, none⟩) 3 full3] ⟨_, _, rfl, rfl⟩ (by (exact Ent.auto))
end Go.Proofs.YtjnhoemgceghlaaGreat
/- Contracts of functions of the given program, and lemmas about plain lists and numbers: what the laws of this seat lean on. -/
namespace Go.Proofs.YtjnhoemgceghlaaGreat
open Go.Eng Go.Sol
attribute [local irreducible] opK wpList Code.wp Exit.then Exit.inBlock fnPost bodyPost Nx Calls Oper.wp Rd Rds Wr Ent Stars Blk Again Vec FnSpec wpMix QRun Stop Upto wpAt
/-! The example of the tops: a table with a protected cell, and two persons on duty -/
def exTw (g : Nat) : List Row := [(some ⟨g, 0, none⟩, 3, [0, 1, 2])]
def exTr (v g : Nat) (A : Option Addr) : Rel := ⟨0, some ⟨v, 0, none⟩, 1, exTw g, (A, 3, [1, 5, 4])⟩
theorem exPu (g : Nat) : sums (pubOf [3] (exTw g)) [1, 5, 4] (prod (szs (exTw g))).toNat 3 = [1, 5, 4] := by kernel_rfl
theorem exPr (g : Nat) : (prod (szs (exTw g))).toNat = 3 := by kernel_rfl
theorem exL0 (v g : Nat) (A : Option Addr) : pbF [3] [] (exTr v g A) 3 [0] 1 0 = false := by kernel_rfl
theorem exL1 (v g : Nat) (A : Option Addr) : pbF [3] [] (exTr v g A) 3 [0] 1 1 = true := by kernel_rfl
theorem exLE (v g : Nat) (A : Option Addr) : lstE [3] [] (exTr v g A) [1, 1, 1] [0] 1 = 0 := by kernel_rfl
theorem exLeast2 {v g : Nat} {A : Option Addr} {res : Option Nat} (h : IsLeast [1, 1, 1] (pbF [3] [] (exTr v g A) 3 [0] 1) res) : res = some 1 := by
  cases res with
  | none =>
    have := h 1 (by decide)
    rw [exL1] at this; cases this
  | some s =>
    obtain ⟨h1, h2, h3⟩ := h
    have h3 := h3 1 (by decide) (exL1 _ _ _)
    have h1 : s < 8 := h1
    have h4 : s = 0 ∨ s = 1 ∨ s = 2 ∨ s = 3 ∨ s = 4 ∨ s = 5 ∨ s = 6 ∨ s = 7 := by omega
    rcases h4 with rfl | rfl | rfl | rfl | rfl | rfl | rfl | rfl
    · rw [exL0] at h2; cases h2
    · rfl
    · exact absurd h3 (by decide)
    · exact absurd h3 (by decide)
    · exact absurd h3 (by decide)
    · exact absurd h3 (by decide)
    · exact absurd h3 (by decide)
    · exact absurd h3 (by decide)
theorem exOn : (onT full3 0).length = 2 := by
  unfold onT
  rw [srtT_len]
  rfl
theorem exS33 : Sizes [3] := ⟨by decide, by decide, by decide⟩
set_option maxHeartbeats 16000000 in
set_option maxRecDepth 10000 in
theorem awakeT_spec (I : PH) : FnSpec Tryz.prog 11 [] I [] (fun v R' => v = .bool true ∧ R' = []) := by
  refine FnSpec.enterP Tryz.func11 rfl Tryz.ntmps11 rfl fun w F => ?_
  repeat' first
    | ((with_reducible refine Nx.is_wp ?_); first | refine Nx.p_stopr 3 rfl ?_ | refine Nx.wo ?_ | refine Nx.zp (fun hc => ?_) (fun hc => ?_))
    | (refine Nx.zo ?_; first | refine Nx.opr rfl rfl ?_ | refine Nx.so ?_ | refine Nx.sb (fun bx => ?_) | refine Nx.sa (fun A2 c2 => ?_))
    | ((with_reducible refine Nx.is_at ?_); first | refine Nx.a ?_ | refine Nx.zd ?_ | refine Nx.zs (fun hc => ?_) (fun hc => ?_))
    | ((with_reducible refine Nx.is_mix ?_); first | refine Nx.m ?_ | refine Nx.zm ?_ | refine Nx.zt (fun hc => ?_) (fun hc => ?_))
    | refine Nx.zx ?_ | fail
  refine Nx.unstop ?_
  rename_i bsz b1 g1 v1
  revert bx; intro b2
  refine Nx.ent (R' := Stars [Blk v1 25 [.slice (some ⟨g1, 0, none⟩) 3 3], Blk g1 3 [.int .i64 0, .int .i64 1, .int .i64 2], Blk bsz 3 [.int .i64 3]] :: [Blk b2 35 [.slice (some ⟨v1, 0, none⟩) 1 1], Blk b1 27 [.slice (some ⟨bsz, 0, none⟩) 1 1], F]) (Ent.trans (R' := [Blk v1 25 [.slice (some ⟨g1, 0, none⟩) 3 3], Blk g1 3 [.int .i64 0, .int .i64 1, .int .i64 2], Blk bsz 3 [.int .i64 3]] ++ [Blk b2 35 [.slice (some ⟨v1, 0, none⟩) 1 1], Blk b1 27 [.slice (some ⟨bsz, 0, none⟩) 1 1], F]) (by (exact Ent.auto)) Ent.stars) ?_
  refine Nx.freezeAt 0 rfl fun I1 m1 hI1 hm1 h1 => ?_
  obtain ⟨k0, l0, c0⟩ := Stars.get 0 h1 rfl
  obtain ⟨k1, l1, c1⟩ := Stars.get 1 h1 rfl
  obtain ⟨k2, l2, c2⟩ := Stars.get 2 h1 rfl
  have hsz : Ints I1 (some ⟨bsz, 0, none⟩) 1 [3] := Blk.sliceOf (t := 3) (l := [3]) (l2.trans hm1) c2 (by decide)
  have hG1 : Ints I1 (some ⟨g1, 0, none⟩) 3 [0, 1, 2] := Blk.sliceOf (t := 3) (l := [0, 1, 2]) (l1.trans hm1) c1 (by decide)
  have hR1 : RowsOf I1 (some ⟨v1, 0, none⟩) 1 (exTw g1) := ⟨Blk.sliceOf (t := 25) (l := exTw g1) (l0.trans hm1) c0 (by unfold maxLen; simp [exTw]), fun r hr => by rw [List.mem_singleton.1 hr]; exact hG1⟩
  have hw1 : Viewed [3] (exTw g1) := ⟨rfl, fun k hk => by
    obtain rfl : k = 0 := by simpa [exTw] using hk
    exact ⟨rfl, rfl⟩⟩
  have hPu := fun (bt : Nat) (m I' : PH) (hle : PH.le I1 I') (hm : PH.le m I') (hv : Stars [Blk bt 3 [.int .i64 1, .int .i64 5, .int .i64 4]] m) => (by
    obtain ⟨q1, z1, y1⟩ := Stars.get 0 hv rfl
    have h := Publish_spec (some ⟨bsz, 0, none⟩) (some ⟨v1, 0, none⟩) (some ⟨bt, 0, none⟩) 1 1 3 [3] [1, 5, 4] (exTw g1) I' (hsz.mono hle) exS33 (hR1.mono hle) hw1 (Blk.sliceOf (t := 3) (l := [1, 5, 4]) (z1.trans hm) y1 (by decide)) ⟨rfl, fun j hj => by
      have : j = 0 ∨ j = 1 ∨ j = 2 := by have : j < 3 := hj; omega
      rcases this with rfl | rfl | rfl <;> decide⟩
    rw [show ([1, 5, 4] : List Int).length = 3 from rfl, exPu, exPr] at h
    exact h :
    FnSpec Tryz.prog 10 [.agg #[.slice (some ⟨bsz, 0, none⟩) 1 1], .agg #[.slice (some ⟨v1, 0, none⟩) 1 1], .slice (some ⟨bt, 0, none⟩) 3 3] I' [] (fun u R' => ∃ A', u = .tuple #[.slice A' 3 3, .int .i64 0] ∧ R' = [Vec 3 1 A' 3 3 (([1, 5, 4] : List Int).map (Value.int .i64))]))
  repeat' first
    | ((with_reducible refine Nx.is_wp ?_); first | refine Nx.p_stopr 4 rfl ?_ | refine Nx.wo ?_ | refine Nx.zp (fun hc => ?_) (fun hc => ?_))
    | (refine Nx.zo ?_; first | refine Nx.opr rfl rfl ?_ | (refine Nx.call rfl rfl rfl (by kernel_rfl) rfl (FnSpec.keep [Blk _ 3 [.int .i64 1, .int .i64 5, .int .i64 4]] fun m I' hle hm' hv => hPu _ m I' hle hm' hv) (by (exact Ent.auto)) ?_; rintro _ _ ⟨_, ⟨Ap, rfl, rfl⟩, rfl⟩) | refine Nx.so ?_ | refine Nx.sb (fun bx => ?_) | refine Nx.sa (fun A2 c2 => ?_))
    | ((with_reducible refine Nx.is_at ?_); first | refine Nx.a ?_ | refine Nx.zd ?_ | refine Nx.zs (fun hc => ?_) (fun hc => ?_))
    | ((with_reducible refine Nx.is_mix ?_); first | refine Nx.m ?_ | refine Nx.zm ?_ | refine Nx.zt (fun hc => ?_) (fun hc => ?_))
    | refine Nx.zx ?_ | fail
  refine Nx.unstop ?_
  refine Nx.ent (R' := [Vec 3 1 Ap 3 3 (([1, 5, 4] : List Int).map (Value.int .i64)), Blk b2 35 [.slice (some ⟨v1, 0, none⟩) 1 1], Blk b1 27 [.slice (some ⟨bsz, 0, none⟩) 1 1], F]) (by (exact Ent.auto)) ?_
  refine Nx.freezeAt 0 rfl fun I2 m2 hI2 hm2 h2 => ?_
  have hX : Ints I2 Ap 3 [1, 5, 4] := Vec.sliceOf (l := [1, 5, 4]) hm2 h2
  have hnil : Rels I2 none 0 [] := ⟨Vec.sliceN (t := 43) (A := none) (l := ([] : List Rel)) (f := relC) (sz := 3) hm2 Vec.nil (fun _ _ => rfl), fun r hr => (by cases hr), fun r hr => (by cases hr)⟩
  have hLe := fun (bw bp : Nat) (m I' : PH) (hle : PH.le I2 I') (hm : PH.le m I') (hv : Stars [Blk bw 3 [.int .i64 1, .int .i64 1, .int .i64 1], Blk bp 3 [.int .i64 0]] m) => (by
    obtain ⟨q1, z1, y1⟩ := Stars.get 0 hv rfl
    obtain ⟨q2, z2, y2⟩ := Stars.get 1 hv rfl
    have h := LeastP_spec (some ⟨bsz, 0, none⟩) none (some ⟨bw, 0, none⟩) (some ⟨bp, 0, none⟩) 1 0 3 1 [3] [] (exTr v1 g1 Ap) [1, 1, 1] [0] 1 I' (hsz.mono (hI2.trans hle)) exS33 (hnil.mono hle) (fun r hr => (by cases hr)) (Nat.zero_le _) (hR1.mono (hI2.trans hle)) (hX.mono hle) hw1 (show 3 ≤ 6 by decide) (Blk.sliceOf (t := 3) (l := [1, 1, 1]) (z1.trans hm) y1 (by decide)) (Blk.sliceOf (t := 3) (l := [0]) (z2.trans hm) y2 (by decide)) (by decide)
    refine FnSpec.mono h fun u R' hu => ?_
    obtain ⟨res, A', c', hil, rfl, rfl⟩ := hu
    have hres := exLeast2 (hil (exLE _ _ _))
    rw [exLE, hres]
    exact ⟨A', c', rfl, rfl⟩ :
    FnSpec Tryz.prog 13 [.agg #[.slice (some ⟨bsz, 0, none⟩) 1 1], .slice none 0 0, .agg #[.int .i64 0, .slice (some ⟨v1, 0, none⟩) 1 1, .slice Ap 3 3], .slice (some ⟨bw, 0, none⟩) 3 3, .slice (some ⟨bp, 0, none⟩) 1 1, .int .i64 1] I' [] (fun u R' => ∃ (A' : Option Addr) (c' : Nat), u = .tuple #[.slice A' 1 c', .int .i64 1, .int .i64 0] ∧ R' = [iR A' c' [0]]))
  repeat' first
    | ((with_reducible refine Nx.is_wp ?_); first | refine Nx.p_stopr 5 rfl ?_ | refine Nx.wo ?_ | refine Nx.zp (fun hc => ?_) (fun hc => ?_))
    | (refine Nx.zo ?_; first | refine Nx.opr rfl rfl ?_ | (refine Nx.call rfl rfl rfl (by kernel_rfl) rfl (FnSpec.keep [Blk _ 3 [.int .i64 1, .int .i64 1, .int .i64 1], Blk _ 3 [.int .i64 0]] fun m I' hle hm' hv => hLe _ _ m I' hle hm' hv) (by (exact Ent.auto)) ?_; rintro _ _ ⟨_, ⟨A5, c5, rfl, rfl⟩, rfl⟩) | refine Nx.so ?_ | refine Nx.sb (fun bx => ?_) | refine Nx.sa (fun A2 c2 => ?_))
    | ((with_reducible refine Nx.is_at ?_); first | refine Nx.a ?_ | refine Nx.zd ?_ | refine Nx.zs (fun hc => ?_) (fun hc => ?_))
    | ((with_reducible refine Nx.is_mix ?_); first | refine Nx.m ?_ | refine Nx.zm ?_ | refine Nx.zt (fun hc => ?_) (fun hc => ?_))
    | refine Nx.zx ?_ | fail
  refine Nx.unstop ?_
  refine Nx.ent (R' := [iR A5 c5 [0], F]) (by (exact Ent.auto)) ?_
  refine Nx.freezeAt 0 rfl fun I3 m3 hI3 hm3 h3 => ?_
  have h5 : Ints I3 A5 c5 [0] := Vec.sliceOf hm3 h3
  have hOn := fun (A' : Option Addr) (c' : Nat) (m I' : PH) (hle : PH.le I3 I') (hm : PH.le m I') (hv : Stars [shiftsR A' c' full3] m) => (by
    obtain ⟨q1, z1, y1⟩ := Stars.get 0 hv rfl
    have h := On_spec2 A' c' full3 0 I' (Vec.sliceN (z1.trans hm) y1 (fun _ _ => rfl)) full3_sh full3_ok
    rw [exOn] at h
    exact h :
    FnSpec Tryz.prog 32 [.slice A' 3 c', .int .i64 0] I' [] (fun v R' => ∃ A2 c2, v = .slice A2 2 c2 ∧ R' = [textsR A2 c2 (onT full3 0)]))
  repeat' first
    | ((with_reducible refine Nx.is_wp ?_); first | refine Nx.wo ?_ | refine Nx.zp (fun hc => ?_) (fun hc => ?_))
    | (refine Nx.zo ?_; first | refine Nx.opr rfl rfl ?_ | (refine Nx.call (Rpre := []) rfl rfl rfl (by kernel_rfl) rfl (Full_spec _) (Ent.refl _) ?_; rintro _ _ ⟨A6, c6, rfl, rfl⟩) | (refine Nx.call rfl rfl rfl (by kernel_rfl) rfl (FnSpec.keep [shiftsR _ _ full3] fun m I' hle hm' hv => hOn _ _ m I' hle hm' hv) (by (exact Ent.auto)) ?_; rintro _ _ ⟨_, ⟨A7, c7, rfl, rfl⟩, rfl⟩) | refine Nx.indexAddr_nat (A := A5) (i := 0) (sz := 1) rfl rfl rfl rfl rfl (by decide) (h5.isSome (by decide)) ?_ | refine Nx.load rfl rfl rfl (h5.rd (k := 0) (by decide)) ?_ | refine Nx.so ?_ | refine Nx.sb (fun bx => ?_) | refine Nx.sa (fun A2 c2 => ?_))
    | ((with_reducible refine Nx.is_at ?_); first | refine Nx.a ?_ | refine Nx.zd ?_ | refine Nx.zs (fun hc => ?_) (fun hc => ?_))
    | ((with_reducible refine Nx.is_mix ?_); first | refine Nx.m ?_ | refine Nx.zm ?_ | refine Nx.zt (fun hc => ?_) (fun hc => ?_))
    | refine Nx.zx ?_ | fail
  exact Nx.imm_le ((hI1.trans hI2).trans hI3) (Nx.ret_fn rfl [] ⟨rfl, rfl⟩ (by (exact Ent.auto)))
end Go.Proofs.YtjnhoemgceghlaaGreat
/- Contracts of functions of the given program, and lemmas about plain lists and numbers: what the laws of this seat lean on. -/
namespace Go.Proofs.YtjnhoemgceghlaaGreat
open Go.Eng Go.Sol
attribute [local irreducible] opK wpList Code.wp Exit.then Exit.inBlock fnPost bodyPost Nx Calls Oper.wp Rd Rds Wr Ent Stars Blk Again Vec FnSpec wpMix QRun Stop Upto wpAt
/-! The law: a rounded table -/
theorem ac_total (c R : Nat) (z : Nat → Int) (i : Nat) : ac c R z i (R + c) = Go.Ctl.sm i z := Go.Ctl.sm_congr fun j _ => if_pos (.inr (.inr rfl))
theorem sm_diff_bd {f : Nat → Int} {M : Int} : ∀ {n : Nat}, (∀ k, k < n → -M ≤ f k ∧ f k ≤ M) → -(n * M) ≤ Go.Ctl.sm n f ∧ Go.Ctl.sm n f ≤ n * M
  | 0, _ => ⟨by show -(((0 : Nat) : Int) * M) ≤ 0; simp, by show (0 : Int) ≤ ((0 : Nat) : Int) * M; simp⟩
  | n + 1, h => by
    have ih := sm_diff_bd (n := n) (f := f) (M := M) fun k hk => h k (by omega)
    have h1 := h n (by omega)
    have e : ((n + 1 : Nat) : Int) * M = n * M + M := by rw [Int.natCast_add, Int.add_mul]; simp
    rw [e]
    unfold Go.Ctl.sm
    omega
set_option maxRecDepth 10000 in
set_option maxHeartbeats 16000000 in
theorem TopRounded_spec (A : Option Addr) (c : Nat) (l : List Int) (I : PH) (hl : rtBytes I A c l) (hx : ∀ x ∈ l, 0 ≤ x ∧ x < 256) :
    FnSpec Tryz.prog 4 [.slice A l.length c] I [] (fun v R' => v = .bool true ∧ R' = []) := by
  have hL := rtbytes_take hl hx
  refine FnSpec.enterP Tryz.func4 rfl Tryz.ntmps4 rfl fun w F => ?_
  repeat' first
    | ((with_reducible refine Nx.is_wp ?_); first | refine Nx.p_stopr 3 rfl ?_ | refine Nx.wo ?_ | refine Nx.zp (fun hc => ?_) (fun hc => ?_))
    | (refine Nx.zo ?_; first | refine Nx.opr rfl rfl ?_ | (refine Nx.call (Rpre := []) rfl rfl rfl (by kernel_rfl) rfl (rtNew_codes A c l I hl) (Ent.refl _) ?_; rintro _ _ ⟨b, rfl, rfl⟩) | (refine Nx.call rfl rfl rfl (by kernel_rfl) rfl (Range_any b A c _ _ 1 3 I hL (by first | assumption | exact Nat.zero_le _) (by decide) (by decide)) (by (exact Ent.auto)) ?_; rintro _ _ ⟨r, k, rfl, hr, hk, rfl⟩) | refine Nx.so ?_ | refine Nx.sb (fun bx => ?_) | refine Nx.sa (fun A2 c2 => ?_))
    | ((with_reducible refine Nx.is_at ?_); first | refine Nx.a ?_ | refine Nx.zd ?_ | refine Nx.zs (fun hc => ?_) (fun hc => ?_))
    | ((with_reducible refine Nx.is_mix ?_); first | refine Nx.m ?_ | refine Nx.zm ?_ | refine Nx.zt (fun hc => ?_) (fun hc => ?_))
    | refine Nx.zx ?_ | fail
  refine Nx.unstop ?_
  rename_i r1 k1 hr1 hk1
  obtain ⟨R, rfl⟩ : ∃ n : Nat, r1 = (n : Int) := ⟨r1.toNat, by omega⟩
  obtain ⟨co, rfl⟩ : ∃ n : Nat, r = (n : Int) := ⟨r.toNat, by omega⟩
  have hR : 1 ≤ R ∧ R ≤ 3 := by omega
  have hc : 1 ≤ co ∧ co ≤ 3 := by omega
  have h9 : R * co ≤ 9 := Nat.mul_le_mul hR.2 hc.2
  obtain ⟨n, hn⟩ : ∃ n, n = R * co := ⟨_, rfl⟩
  rw [← hn] at h9
  have hmul : (R : Int) * (co : Int) = (n : Int) := by rw [hn]; exact (Int.natCast_mul R co).symm
  repeat' first
    | ((with_reducible refine Nx.is_wp ?_); first | refine Nx.wo ?_ | refine Nx.zp (fun hc => ?_) (fun hc => ?_))
    | (refine Nx.zo ?_; first | refine Nx.opr rfl rfl ?_ | refine Nx.bin rfl rfl (run_mulK (by unfold I64; omega) hmul) rfl ?_ | refine Nx.makeInts rfl rfl rfl rfl rfl rfl rfl rfl (by omega) (fun bx => ?_) | refine Nx.so ?_ | refine Nx.sb (fun bx => ?_) | refine Nx.sa (fun A2 c2 => ?_))
    | ((with_reducible refine Nx.is_at ?_); first | refine Nx.a ?_ | refine Nx.zd ?_ | refine Nx.zs (fun hc => ?_) (fun hc => ?_))
    | ((with_reducible refine Nx.is_mix ?_); first | refine Nx.m ?_ | refine Nx.zm ?_ | refine Nx.zt (fun hc => ?_) (fun hc => ?_))
    | refine Nx.zx ?_ | fail
  revert bx; intro b6
  refine Nx.p_loop (σ := Nat × Nat × List Int) (fun s => [(3, .pointer (some ⟨b, 0, none⟩)), (4, .int .i64 (R : Int)), (5, .int .i64 (co : Int)), (6, .slice (some ⟨b6, 0, none⟩) n n), (27, .slice (some ⟨b6, 0, none⟩) n n), (28, .int .i64 (n : Int)), (29, .int .i64 (s.1 : Int))])
    (fun s => [Vec 3 1 (some ⟨b6, 0, none⟩) n n (s.2.2.map (Value.int .i64)), rtCodesR b A c (l.take 400) s.2.1, F]) (fun s => s.1 ≤ n ∧ s.2.1 ≤ (l.take 400).length ∧ s.2.2.length = n ∧ ∀ j, j < n → 0 ≤ at0 s.2.2 j ∧ at0 s.2.2 j ≤ 20) (fun s => n - s.1) (0, k, List.replicate n 0) rfl
    ⟨Nat.zero_le _, hk, by simp, fun j hj => by unfold at0; rw [List.getD_eq_getElem?_getD, List.getElem?_replicate, if_pos hj]; decide⟩ ⟨rfl, rfl, rfl, rfl, rfl, rfl, rfl, trivial⟩ (by (exact Ent.auto)) ?_
  rintro ⟨i, kc, t⟩ ⟨hi, hkc, htl, hte⟩
  dsimp only at hi hkc htl hte ⊢
  by_cases hin : i < n
  · repeat' first
      | ((with_reducible refine Nx.is_wp ?_); first | refine Nx.wo ?_ | refine Nx.zp (fun hc => ?_) (fun hc => ?_))
      | (refine Nx.zo ?_; first | refine Nx.opr rfl rfl ?_ | (refine Nx.call rfl rfl rfl (by kernel_rfl) rfl (rtNext_any b A c _ kc 20 I hL hkc (by decide)) (by (exact Ent.auto)) ?_; rintro _ _ ⟨q, k2, rfl, hq, hk2, rfl⟩) | refine Nx.indexAddr_nat (A := some ⟨b6, 0, none⟩) (i := i) (sz := 1) rfl rfl rfl rfl rfl hin rfl ?_ | refine Nx.store_ints 1 (A := some ⟨b6, 0, none⟩) (i := i) (l := t) (z := q) rfl rfl rfl rfl hin ?_ | refine Nx.so ?_ | refine Nx.sb (fun bx => ?_) | refine Nx.sa (fun A2 c2 => ?_))
      | ((with_reducible refine Nx.is_at ?_); first | refine Nx.a ?_ | refine Nx.zd ?_ | refine Nx.zs (fun hc => ?_) (fun hc => ?_))
      | ((with_reducible refine Nx.is_mix ?_); first | refine Nx.m ?_ | refine Nx.zm ?_ | refine Nx.zt (fun hc => ?_) (fun hc => ?_))
      | refine Nx.zx ?_ | fail
    refine Nx.again (i + 1, k2, t.set i q) ⟨hin, hk2, by dsimp only; rw [List.length_set]; exact htl, fun j hj => ?_⟩ (by dsimp only; omega) ⟨rfl, rfl, rfl, rfl, rfl, rfl, rfl, trivial⟩ (by (exact Ent.auto))
    dsimp only
    rw [at0_set (by omega)]
    split
    · omega
    · exact hte j hj
  subst htl
  obtain rfl : i = t.length := by omega
  repeat' first
    | ((with_reducible refine Nx.is_wp ?_); first | refine Nx.p_stopr 10 rfl ?_ | refine Nx.wo ?_ | refine Nx.zp (fun hc => ?_) (fun hc => ?_))
    | (refine Nx.zo ?_; first | refine Nx.opr rfl rfl ?_ | (refine Nx.call rfl rfl rfl (by kernel_rfl) rfl (Range_any b A c _ kc 2 7 I hL hkc (by decide) (by decide)) (by (exact Ent.auto)) ?_; rintro _ _ ⟨ba, k3, rfl, hba, hk3, rfl⟩) | refine Nx.so ?_ | refine Nx.sb (fun bx => ?_) | refine Nx.sa (fun A2 c2 => ?_))
    | ((with_reducible refine Nx.is_at ?_); first | refine Nx.a ?_ | refine Nx.zd ?_ | refine Nx.zs (fun hc => ?_) (fun hc => ?_))
    | ((with_reducible refine Nx.is_mix ?_); first | refine Nx.m ?_ | refine Nx.zm ?_ | refine Nx.zt (fun hc => ?_) (fun hc => ?_))
    | refine Nx.zx ?_ | fail
  refine Nx.unstop ?_
  refine Nx.ent (R' := [Vec 3 1 (some ⟨b6, 0, none⟩) t.length t.length (t.map (Value.int .i64)), F]) (by (exact Ent.auto)) ?_
  refine Nx.freezeAt 0 rfl fun I2 m2 hI2 hm2 h2 => ?_
  have ht : Ints I2 (some ⟨b6, 0, none⟩) t.length t := Vec.sliceOf hm2 h2
  have hRo := Round_spec R co (some ⟨b6, 0, none⟩) t.length t ba I2 ht hR hc hn (by omega) (fun j hj => by have := hte j hj; omega)
  repeat' first
    | ((with_reducible refine Nx.is_wp ?_); first | refine Nx.wo ?_ | refine Nx.zp (fun hc => ?_) (fun hc => ?_))
    | (refine Nx.zo ?_; first | refine Nx.opr rfl rfl ?_ | (refine Nx.call (Rpre := []) rfl rfl rfl (by kernel_rfl) rfl hRo (Ent.refl _) ?_; rintro _ _ ⟨A9, o, rfl, hg, rfl⟩) | refine Nx.so ?_ | refine Nx.sb (fun bx => ?_) | refine Nx.sa (fun A2 c2 => ?_))
    | ((with_reducible refine Nx.is_at ?_); first | refine Nx.a ?_ | refine Nx.zd ?_ | refine Nx.zs (fun hc => ?_) (fun hc => ?_))
    | ((with_reducible refine Nx.is_mix ?_); first | refine Nx.m ?_ | refine Nx.zm ?_ | refine Nx.zt (fun hc => ?_) (fun hc => ?_))
    | refine Nx.zx ?_ | fail
  have hol : o.length = t.length := by rw [hg.len, hn]
  refine Nx.ent (R' := [Vec 3 1 A9 t.length t.length (o.map (Value.int .i64)), F]) (by (exact Ent.auto)) ?_
  refine Nx.freezeAt 0 rfl fun I3 m3 hI3 hm3 h3 => ?_
  have ho : Ints I3 A9 t.length o := Vec.sliceOf hm3 (by rw [hol]; exact h3)
  replace ht := ht.mono hI3
  have hob := hg.bd (by omega) (M := 20) fun j hj => hte j (by omega)
  have hC1 := Check_spec2 R co A9 A9 t.length t.length o o ba I3 ho ho hR hc (by rw [hol]; exact hn) (by omega) (fun j hj => by have := hob j (by omega); omega) (hg.same (by omega))
  have hC2 := Check_spec2 R co (some ⟨b6, 0, none⟩) A9 t.length t.length t o ba I3 ht ho hR hc hn (by omega) (fun j hj => by have := hte j hj; omega) hg
  rw [hol] at hC1 hC2
  have hsum := hg.sums (R + co) (by omega)
  rw [ac_total, ac_total, nearB_iff, ← hn] at hsum
  have hdiff := Go.Ctl.sm_sub t.length (at0 o) (at0 t)
  have hbo := ho.isSome
  refine Nx.p_loop (σ := Nat) (fun k => [(4, .int .i64 (R : Int)), (5, .int .i64 (co : Int)), (6, .slice (some ⟨b6, 0, none⟩) t.length t.length), (8, .int .i64 ba), (9, .slice A9 t.length t.length), (11, .int .i64 (Go.Ctl.sm k fun j => at0 o j - at0 t j)), (57, .slice (some ⟨b6, 0, none⟩) t.length t.length), (58, .int .i64 (t.length : Int)), (59, .int .i64 (k : Int))])
    (fun _ => [F]) (fun k => k ≤ t.length) (fun k => t.length - k) 0 rfl (Nat.zero_le _) ⟨rfl, rfl, rfl, rfl, rfl, rfl, rfl, rfl, rfl, trivial⟩ (by (exact Ent.auto)) ?_
  intro k hk
  have hk : k ≤ t.length := hk
  have hbd : -(k * 1000) ≤ (Go.Ctl.sm k fun j => at0 o j - at0 t j) ∧ (Go.Ctl.sm k fun j => at0 o j - at0 t j) ≤ k * 1000 := sm_diff_bd fun j hj => by
    have := hob j (by omega)
    have := hte j (by omega)
    omega
  by_cases hkl : k < t.length
  · have hnx : (Go.Ctl.sm (k + 1) fun j => at0 o j - at0 t j) = (Go.Ctl.sm k fun j => at0 o j - at0 t j) + (at0 o k - at0 t k) := rfl
    have r1 : ∀ (W : World) (Q : List Res), Rd W I3 Q ((ad A9).add (k * 1)) (.int .i64 (at0 o k)) := fun W Q => ho.rd (by omega)
    have r2 : ∀ (W : World) (Q : List Res), Rd W I3 Q ((ad (some ⟨b6, 0, none⟩)).add (k * 1)) (.int .i64 (at0 t k)) := fun W Q => ht.rd hkl
    have hok := hob k (by omega)
    have htk := hte k hkl
    have hA9 := hbo (by omega)
    generalize (Go.Ctl.sm k fun j => at0 o j - at0 t j) = sk at hbd hnx ⊢
    generalize at0 o k = x at r1 hok hnx
    generalize at0 t k = y at r2 htk hnx
    repeat' first
      | ((with_reducible refine Nx.is_wp ?_); first | refine Nx.wo ?_ | refine Nx.p_drawF (id := 17) rfl [0, 1, 2, 3, 4, 5, 6, 7, 8, 9, 10, 11] [] [] _ rfl rfl (by kernel_rfl) (by kernel_rfl) rfl (by repeat first | exact PanicOk.fn | refine PanicOk.then_ ?_ | refine PanicOk.inB ?_) (Ent.refl _) ?_ | refine Nx.zp (fun hc => ?_) (fun hc => ?_))
      | (refine Nx.zo ?_; first | refine Nx.opr rfl rfl ?_ | refine Nx.so ?_ | refine Nx.sb (fun bx => ?_) | refine Nx.sa (fun A2 c2 => ?_))
      | ((with_reducible refine Nx.is_at ?_); first | refine Nx.a ?_ | refine Nx.zd ?_ | refine Nx.zs (fun hc => ?_) (fun hc => ?_))
      | ((with_reducible refine Nx.is_mix ?_); first | refine Nx.m_quiet rfl rfl rfl rfl rfl (by first | exact QRun.opr rfl | exact QRun.idx (A := A9) (i := k) (sz := 1) rfl rfl rfl rfl hkl hA9 | exact QRun.load rfl rfl (r1 _ _) | exact QRun.idx (A := some ⟨b6, 0, none⟩) (i := k) (sz := 1) rfl rfl rfl rfl hkl rfl | exact QRun.load rfl rfl (r2 _ _)) ?_ | refine Nx.m_quiet_do rfl rfl rfl rfl rfl rfl rfl (by first | exact QRun.opr rfl | exact QRun.idx (A := A9) (i := k) (sz := 1) rfl rfl rfl rfl hkl hA9 | exact QRun.load rfl rfl (r1 _ _) | exact QRun.idx (A := some ⟨b6, 0, none⟩) (i := k) (sz := 1) rfl rfl rfl rfl hkl rfl | exact QRun.load rfl rfl (r2 _ _)) ?_ | refine Nx.m ?_ | refine Nx.zm ?_ | refine Nx.zt (fun hc => ?_) (fun hc => ?_))
      | refine Nx.zx ?_ | fail
    exact Nx.again (k + 1) hkl (by omega) ⟨rfl, rfl, rfl, rfl, rfl, by rw [hnx]; rfl, rfl, rfl, rfl, trivial⟩ (by (exact Ent.auto))
  obtain rfl : k = t.length := by omega
  rw [hdiff] at hbd ⊢
  have hSb : -ba < Go.Ctl.sm t.length (at0 o) - Go.Ctl.sm t.length (at0 t) ∧ Go.Ctl.sm t.length (at0 o) - Go.Ctl.sm t.length (at0 t) < ba := by omega
  clear hsum hdiff
  generalize Go.Ctl.sm t.length (at0 o) - Go.Ctl.sm t.length (at0 t) = S at hSb hbd ⊢
  repeat' first
    | ((with_reducible refine Nx.is_wp ?_); first | refine Nx.wo ?_ | refine Nx.zp (fun hc => ?_) (fun hc => ?_))
    | (refine Nx.zo ?_; first | refine Nx.opr rfl rfl ?_ | refine Nx.callv rfl rfl rfl (by kernel_rfl) rfl hC1 ?_ | refine Nx.callv rfl rfl rfl (by kernel_rfl) rfl hC2 ?_ | refine Nx.callv rfl rfl rfl (by kernel_rfl) rfl (awakeT_spec _) ?_ | refine Nx.so ?_ | refine Nx.sb (fun bx => ?_) | refine Nx.sa (fun A2 c2 => ?_))
    | ((with_reducible refine Nx.is_at ?_); first | refine Nx.a ?_ | refine Nx.zd ?_ | refine Nx.zs (fun hc => ?_) (fun hc => ?_))
    | ((with_reducible refine Nx.is_mix ?_); first | refine Nx.m ?_ | refine Nx.zm ?_ | refine Nx.zt (fun hc => ?_) (fun hc => ?_))
    | refine Nx.zx ?_ | fail
  all_goals first | exact Nx.imm_le (hI2.trans hI3) (Nx.ret_fn rfl [] ⟨rfl, rfl⟩ (by (exact Ent.auto))) | (exfalso; omega)
end Go.Proofs.YtjnhoemgceghlaaGreat
