/- Contracts of functions of the given program, and lemmas about plain lists and numbers: what the laws of this seat lean on. -/
import Derived.Test.YtddameoiafgfbaaProg
import Derived.Test.YtddameoiafgfbaaEngQ
import Derived.Test.YtddameoiafgfbaaEngM
import Derived.Shelf.SortM.Plain
import Derived.Shelf.SortM.SortNone
import Derived.Shelf.SlicesG.CompactI
import Derived.Shelf.SlicesG.SearchI
namespace Go.Proofs.Ytddameoiafgfbaa
def srt_ren : Go.Shelf.Ren := ⟨fun | 5 => 32 | 8 => 38 | 7 => 37 | 19 => 49 | 20 => 50 | 10 => 41 | 11 => 42 | 12 => 43 | 13 => 44 | 14 => 45 | 15 => 46 | 16 => 39 | 17 => 47 | 18 => 48 | 30 => 52 | 31 => 53 | 32 => 54 | 33 => 55 | 34 => 56 | 35 => 51 | 40 => 57 | n => n, fun | 23 => 22 | 25 => 3 | 3 => 3 | 32 => 47 | 22 => 22 | 0 => 0 | 44 => 58 | 46 => 60 | 4 => 4 | 36 => 52 | 35 => 51 | 41 => 42 | 5 => 5 | 9 => 9 | 53 => 61 | 57 => 65 | 63 => 67 | 64 => 68 | n => n, fun | n => n⟩
theorem srt : Go.Proofs.SlLaysM.n5 Try.prog srt_ren where
  mixed := by kernel_rfl
  f5 := ⟨ "slices.Sort[[]int,int]", by decide, Try.func32.trans (congrArg some (by kernel_rfl))⟩
  f7 := ⟨ "slices.pdqsortOrdered[int]", by decide, Try.func37.trans (congrArg some (by kernel_rfl))⟩
  f8 := Try.func38.trans (congrArg some (by kernel_rfl))
  f10 := ⟨ "slices.insertionSortOrdered[int]", by decide, Try.func41.trans (congrArg some (by kernel_rfl))⟩
  f11 := ⟨ "slices.heapSortOrdered[int]", by decide, Try.func42.trans (congrArg some (by kernel_rfl))⟩
  f12 := ⟨ "slices.breakPatternsOrdered[int]", by decide, Try.func43.trans (congrArg some (by kernel_rfl))⟩
  f13 := ⟨ "slices.choosePivotOrdered[int]", by decide, Try.func44.trans (congrArg some (by kernel_rfl))⟩
  f14 := ⟨ "slices.reverseRangeOrdered[int]", by decide, Try.func45.trans (congrArg some (by kernel_rfl))⟩
  f15 := ⟨ "slices.partialInsertionSortOrdered[int]", by decide, Try.func46.trans (congrArg some (by kernel_rfl))⟩
  f16 := ⟨ "cmp.Less[int]", by decide, Try.func39.trans (congrArg some (by kernel_rfl))⟩
  f17 := ⟨ "slices.partitionEqualOrdered[int]", by decide, Try.func47.trans (congrArg some (by kernel_rfl))⟩
  f18 := ⟨ "slices.partitionOrdered[int]", by decide, Try.func48.trans (congrArg some (by kernel_rfl))⟩
  f19 := Try.func49.trans (congrArg some (by kernel_rfl))
  f20 := Try.func50.trans (congrArg some (by kernel_rfl))
  f30 := ⟨ "slices.siftDownOrdered[int]", by decide, Try.func52.trans (congrArg some (by kernel_rfl))⟩
  f31 := Try.func53.trans (congrArg some (by kernel_rfl))
  f32 := Try.func54.trans (congrArg some (by kernel_rfl))
  f33 := ⟨ "slices.medianAdjacentOrdered[int]", by decide, Try.func55.trans (congrArg some (by kernel_rfl))⟩
  f34 := ⟨ "slices.medianOrdered[int]", by decide, Try.func56.trans (congrArg some (by kernel_rfl))⟩
  f35 := ⟨ "cmp.isNaN[int]", by decide, Try.func51.trans (congrArg some (by kernel_rfl))⟩
  f40 := ⟨ "slices.order2Ordered[int]", by decide, Try.func57.trans (congrArg some (by kernel_rfl))⟩
  t0 := Try.underlying0
  a0 := Try.isAgg0
  z0 := Try.sizeOf0
  v0 := Try.zeroValue0
  t3 := Try.underlying3
  a3 := Try.isAgg3
  z3 := Try.sizeOf3
  v3 := Try.zeroValue3
  t4 := Try.underlying4
  a4 := Try.isAgg4
  z4 := Try.sizeOf4
  v4 := Try.zeroValue4
  t5 := Try.underlying5
  a5 := Try.isAgg5
  z5 := Try.sizeOf5
  v5 := Try.zeroValue5
  t9 := Try.underlying9
  a9 := Try.isAgg9
  z9 := Try.sizeOf9
  v9 := Try.zeroValue9
  t22 := Try.underlying22
  a22 := Try.isAgg22
  z22 := Try.sizeOf22
  v22 := Try.zeroValue22
  t23 := Try.underlying22
  a23 := Try.isAgg22
  z23 := Try.sizeOf22
  v23 := Try.zeroValue22
  t25 := Try.underlying3
  a25 := Try.isAgg3
  z25 := Try.sizeOf3
  v25 := Try.zeroValue3
  t32 := Try.underlying47
  a32 := Try.isAgg47
  z32 := Try.sizeOf47
  v32 := Try.zeroValue47
  t35 := Try.underlying51
  a35 := Try.isAgg51
  z35 := Try.sizeOf51
  v35 := Try.zeroValue51
  t36 := Try.underlying52
  a36 := Try.isAgg52
  z36 := Try.sizeOf52
  v36 := Try.zeroValue52
  t41 := Try.underlying42
  a41 := Try.isAgg42
  z41 := Try.sizeOf42
  v41 := Try.zeroValue42
  t44 := Try.underlying58
  a44 := Try.isAgg58
  z44 := Try.sizeOf58
  v44 := Try.zeroValue58
  t46 := Try.underlying60
  a46 := Try.isAgg60
  z46 := Try.sizeOf60
  v46 := Try.zeroValue60
  t53 := Try.underlying61
  a53 := Try.isAgg61
  z53 := Try.sizeOf61
  v53 := Try.zeroValue61
  t57 := Try.underlying65
  a57 := Try.isAgg65
  z57 := Try.sizeOf65
  v57 := Try.zeroValue65
  t63 := Try.underlying67
  a63 := Try.isAgg67
  z63 := Try.sizeOf67
  v63 := Try.zeroValue67
  t64 := Try.underlying68
  a64 := Try.isAgg68
  z64 := Try.sizeOf68
  v64 := Try.zeroValue68
def cpt_ren : Go.Shelf.Ren := ⟨fun | 43 => 33 | n => n, fun | 22 => 22 | 23 => 3 | 3 => 3 | 4 => 4 | 0 => 0 | n => n, fun | n => n⟩
theorem cpt : Go.Proofs.SlLaysN.n43 Try.prog cpt_ren where
  mixed := by kernel_rfl
  f43 := ⟨ "slices.Compact[[]int,int]", by decide, Try.func33.trans (congrArg some (by kernel_rfl))⟩
  t0 := Try.underlying0
  a0 := Try.isAgg0
  z0 := Try.sizeOf0
  v0 := Try.zeroValue0
  t3 := Try.underlying3
  a3 := Try.isAgg3
  z3 := Try.sizeOf3
  v3 := Try.zeroValue3
  t4 := Try.underlying4
  a4 := Try.isAgg4
  z4 := Try.sizeOf4
  v4 := Try.zeroValue4
  t22 := Try.underlying22
  a22 := Try.isAgg22
  z22 := Try.sizeOf22
  v22 := Try.zeroValue22
  t23 := Try.underlying3
  a23 := Try.isAgg3
  z23 := Try.sizeOf3
  v23 := Try.zeroValue3
  i23 := by kernel_rfl
def bsr_ren : Go.Shelf.Ren := ⟨fun | 49 => 35 | 59 => 39 | 60 => 40 | 68 => 51 | n => n, fun | 22 => 22 | 23 => 3 | 3 => 3 | 4 => 4 | 51 => 47 | 0 => 0 | n => n, fun | n => n⟩
theorem bsr : Go.Proofs.SlLaysN.n49 Try.prog bsr_ren where
  mixed := by kernel_rfl
  f49 := ⟨ "slices.BinarySearch[[]int,int]", by decide, Try.func35.trans (congrArg some (by kernel_rfl))⟩
  f59 := ⟨ "cmp.Less[int]", by decide, Try.func39.trans (congrArg some (by kernel_rfl))⟩
  f60 := ⟨ "slices.isNaN[int]", by decide, Try.func40.trans (congrArg some (by kernel_rfl))⟩
  f68 := ⟨ "cmp.isNaN[int]", by decide, Try.func51.trans (congrArg some (by kernel_rfl))⟩
  t0 := Try.underlying0
  a0 := Try.isAgg0
  z0 := Try.sizeOf0
  v0 := Try.zeroValue0
  t3 := Try.underlying3
  a3 := Try.isAgg3
  z3 := Try.sizeOf3
  v3 := Try.zeroValue3
  t4 := Try.underlying4
  a4 := Try.isAgg4
  z4 := Try.sizeOf4
  v4 := Try.zeroValue4
  t22 := Try.underlying22
  a22 := Try.isAgg22
  z22 := Try.sizeOf22
  v22 := Try.zeroValue22
  t23 := Try.underlying3
  a23 := Try.isAgg3
  z23 := Try.sizeOf3
  v23 := Try.zeroValue3
  t51 := Try.underlying47
  a51 := Try.isAgg47
  z51 := Try.sizeOf47
  v51 := Try.zeroValue47
end Go.Proofs.Ytddameoiafgfbaa
namespace Go.Proofs.Ytddameoiafgfbaa
open Go.Eng
def srtL (l : List Int) : List Int := l.mergeSort fun x y => decide (x ≤ y)
theorem srtL_len (l : List Int) : (srtL l).length = l.length := List.length_mergeSort _
theorem vec_cases {I : PH} {R : List Res} {W w : World} {t : TypeId} {A : Option Addr} {c : Nat} {l : List Int} (h : St W I (Vec t 1 A l.length c (l.map (Value.int .i64)) :: R) w) : (A = none ∧ l = [] ∧ c = 0) ∨ ∃ b, A = some ⟨b, 0, none⟩ ∧ l.length ≤ c := by
  obtain ⟨⟨m, ⟨m1, m2, hd, rfl, hv, h2⟩, hs⟩, hst⟩ := h
  rcases hv.2 with ⟨rfl, h1, rfl⟩ | ⟨b, cur, rfl, _, h1, _⟩
  · exact .inl ⟨rfl, List.eq_nil_of_length_eq_zero h1, rfl⟩
  · exact .inr ⟨b, rfl, h1⟩
theorem Sort_spec (A : Option Addr) (c : Nat) (l : List Int) (I : PH) (hl : l.length < 4611686018427387904) :
    FnSpec Try.prog 32 [.slice A l.length c] I [Vec 3 1 A l.length c (l.map (Value.int .i64))] (fun v R' => v = .tuple #[] ∧ R' = [Vec 3 1 A (srtL l).length c ((srtL l).map (Value.int .i64))]) := by
  intro w F hw
  rcases vec_cases hw with ⟨rfl, rfl, rfl⟩ | ⟨b, rfl, hle⟩
  · refine (AnyM.slices_Sort_int_none srt none 0 w).mono fun e w' => ?_
    rintro ⟨rfl, rfl⟩
    refine ⟨_, _, rfl, ⟨rfl, rfl⟩, ?_⟩
    have : srtL [] = [] := List.eq_nil_of_length_eq_zero (srtL_len [])
    rw [this]
    exact hw
  · obtain ⟨h1, h2⟩ := Vec.holds hw
    refine (AnyM.slices_Sort_int srt b 0 c l w h1 h2 hl).mono fun e w' => ?_
    rintro ⟨rfl, n, os, rfl⟩
    exact ⟨_, _, rfl, ⟨rfl, rfl⟩, hw.putRow (srtL_len l) n os⟩
theorem vec_shrink {t : TypeId} {A : Option Addr} {c n : Nat} {l r : List Int} (hn : n = l.length + r.length) : ∀ m, Vec t 1 A n c ((l ++ r).map (Value.int .i64)) m → Vec t 1 A l.length c (l.map (Value.int .i64)) m := by
  rintro m ⟨h1, h2⟩
  refine ⟨by simp, ?_⟩
  rcases h2 with ⟨rfl, h0, rfl⟩ | ⟨b, cur, rfl, hb, hnc, hcm, hsz, htake⟩
  · exact .inl ⟨rfl, by omega, rfl⟩
  · refine .inr ⟨b, cur, rfl, hb, by omega, hcm, hsz, ?_⟩
    have : (cur.toList.take (n * 1)).take (l.length * 1) = ((l ++ r).map (Value.int .i64)).take (l.length * 1) := by rw [htake]
    rw [List.take_take, Nat.min_eq_left (by omega), List.map_append, List.take_append_of_le_length (by simp), List.take_of_length_le (l := List.map (Value.int .i64) l) (by simp)] at this
    exact this
theorem compact_len (l : List Int) : (Lib.compact l).length ≤ l.length := by
  unfold Lib.compact Lib.compactUpTo
  rw [List.length_map]
  exact Nat.le_trans (List.length_filter_le _ _) (by simp)
theorem Compact_spec (A : Option Addr) (c : Nat) (l : List Int) (I : PH) (hl : l.length ≤ 9223372036854775807) :
    FnSpec Try.prog 33 [.slice A l.length c] I [Vec 3 1 A l.length c (l.map (Value.int .i64))] (fun v R' => v = .slice A (Lib.compact l).length c ∧ R' = [Vec 3 1 A (Lib.compact l).length c ((Lib.compact l).map (Value.int .i64))]) := by
  intro w F hw
  rcases vec_cases hw with ⟨rfl, rfl, rfl⟩ | ⟨b, rfl, hle⟩
  · refine (AnyG.slices_Compact_int_empty cpt none 0 w).mono fun e w' => ?_
    rintro ⟨rfl, rfl⟩
    exact ⟨_, _, rfl, ⟨rfl, rfl⟩, hw⟩
  · obtain ⟨h1, h2⟩ := Vec.holds hw
    refine (AnyG.slices_Compact_int cpt b 0 c l w h1 hl hle).mono fun e w' => ?_
    rintro ⟨rfl, q, rfl⟩
    refine ⟨_, _, rfl, ⟨rfl, rfl⟩, ?_⟩
    have hcl := compact_len l
    have hlen : (Lib.compact l ++ List.replicate (l.length - (Lib.compact l).length) (0 : Int)).length = l.length := by rw [List.length_append, List.length_replicate]; omega
    have h3 := hw.putRow hlen q #[]
    have h4 : Sort.grow (Sort.putRow (Value.int .i64) (Sort.ahead w q) b 0 (Lib.compact l ++ List.replicate (l.length - (Lib.compact l).length) 0).toArray) #[] = Sort.putRow (Value.int .i64) (Sort.ahead w q) b 0 (Lib.compact l ++ List.replicate (l.length - (Lib.compact l).length) 0).toArray := by unfold Sort.grow; simp; rfl
    rw [← h4]
    exact h3.ent (Ent.head (vec_shrink (by rw [List.length_replicate]; omega)))
section
attribute [local irreducible] opK wpList Code.wp Exit.then Exit.inBlock fnPost bodyPost Nx Calls Oper.wp Rd Rds Wr Ent Stars Blk Again Vec FnSpec wpMix QRun Stop Upto wpAt
theorem Search0_spec (A : Option Addr) (c : Nat) (x : Int) (I : PH) :
    FnSpec Try.prog 35 [.slice A ([] : List Int).length c, .int .i64 x] I [] (fun v R' => ∃ i : Int, v = .tuple #[.int .i64 i, .bool (([] : List Int).contains x)] ∧ R' = []) := by
  refine FnSpec.enterP Try.func35 rfl Try.ntmps35 rfl fun w F => ?_
  repeat' first
    | ((with_reducible refine Nx.is_wp ?_); first | refine Nx.wo ?_ | refine Nx.p_dec rfl rfl (fun hc => ?_) (fun hc => ?_) | refine Nx.p_bool rfl rfl (fun hc => ?_) (fun hc => ?_))
    | ((first | refine Nx.at_op rfl rfl ?_ | refine Nx.m_loud rfl rfl rfl ?_ | refine Nx.at_do rfl rfl rfl rfl ?_ | refine Nx.m_loud_do rfl rfl rfl rfl rfl ?_); first | refine Nx.opr rfl rfl ?_ | refine Nx.so ?_ | refine Nx.sb (fun bx => ?_) | refine Nx.sa (fun A2 c2 => ?_))
    | ((with_reducible refine Nx.is_at ?_); first | refine Nx.a ?_ | ((fail_if_success refine Nx.at_do rfl rfl rfl rfl ?_); first | refine Nx.at_dec_t rfl rfl rfl rfl (by first | assumption | omega) ?_ | refine Nx.at_dec_f rfl rfl rfl rfl (by first | assumption | omega) ?_ | refine Nx.at_split rfl rfl rfl rfl (fun hc => ?_) (fun hc => ?_) | refine Nx.at_splitb rfl rfl rfl rfl (fun hc => ?_) (fun hc => ?_)))
    | ((with_reducible refine Nx.is_mix ?_); first | refine Nx.m ?_ | ((fail_if_success refine Nx.m_quiet_do rfl rfl rfl rfl rfl rfl rfl ?_ ?_); (fail_if_success refine Nx.m_loud_do rfl rfl rfl rfl rfl ?_); first | refine Nx.m_dec_t rfl rfl rfl rfl (by first | assumption | omega) ?_ | refine Nx.m_dec_f rfl rfl rfl rfl (by first | assumption | omega) ?_ | refine Nx.m_split rfl rfl rfl rfl (fun hc => ?_) (fun hc => ?_) | refine Nx.m_splitb rfl rfl rfl rfl (fun hc => ?_) (fun hc => ?_)))
    | refine Nx.ex ?_
  refine Nx.p_loop (σ := Unit) (fun _ => [(6, .int .i64 0), (7, .int .i64 0), (8, .int .i64 0)]) (fun _ => [F]) (fun _ => True) (fun _ => 0) () rfl trivial ⟨rfl, rfl, rfl, trivial⟩ (by (first | done | (repeat first | exact Ent.refl _ | exact Ent.nil _ | refine Ent.pick 0 rfl ?_ | refine Ent.pick 1 rfl ?_ | refine Ent.pick 2 rfl ?_ | refine Ent.pick 3 rfl ?_ | refine Ent.pick 4 rfl ?_ | refine Ent.pick 5 rfl ?_ | refine Ent.pick 6 rfl ?_ | refine Ent.pick 7 rfl ?_ | refine Ent.pick 8 rfl ?_ | refine Ent.pick 9 rfl ?_ | refine Ent.pick 10 rfl ?_ | refine Ent.pick 11 rfl ?_ | refine Ent.pick 12 rfl ?_ | refine Ent.pick 13 rfl ?_ | refine Ent.pick 14 rfl ?_))) ?_
  intro _ _
  repeat' first
    | ((with_reducible refine Nx.is_wp ?_); first | refine Nx.wo ?_ | refine Nx.p_dec rfl rfl (fun hc => ?_) (fun hc => ?_) | refine Nx.p_bool rfl rfl (fun hc => ?_) (fun hc => ?_))
    | ((first | refine Nx.at_op rfl rfl ?_ | refine Nx.m_loud rfl rfl rfl ?_ | refine Nx.at_do rfl rfl rfl rfl ?_ | refine Nx.m_loud_do rfl rfl rfl rfl rfl ?_); first | refine Nx.opr rfl rfl ?_ | refine Nx.so ?_ | refine Nx.sb (fun bx => ?_) | refine Nx.sa (fun A2 c2 => ?_))
    | ((with_reducible refine Nx.is_at ?_); first | refine Nx.a ?_ | ((fail_if_success refine Nx.at_do rfl rfl rfl rfl ?_); first | refine Nx.at_dec_t rfl rfl rfl rfl (by first | assumption | omega) ?_ | refine Nx.at_dec_f rfl rfl rfl rfl (by first | assumption | omega) ?_ | refine Nx.at_split rfl rfl rfl rfl (fun hc => ?_) (fun hc => ?_) | refine Nx.at_splitb rfl rfl rfl rfl (fun hc => ?_) (fun hc => ?_)))
    | ((with_reducible refine Nx.is_mix ?_); first | refine Nx.m ?_ | ((fail_if_success refine Nx.m_quiet_do rfl rfl rfl rfl rfl rfl rfl ?_ ?_); (fail_if_success refine Nx.m_loud_do rfl rfl rfl rfl rfl ?_); first | refine Nx.m_dec_t rfl rfl rfl rfl (by first | assumption | omega) ?_ | refine Nx.m_dec_f rfl rfl rfl rfl (by first | assumption | omega) ?_ | refine Nx.m_split rfl rfl rfl rfl (fun hc => ?_) (fun hc => ?_) | refine Nx.m_splitb rfl rfl rfl rfl (fun hc => ?_) (fun hc => ?_)))
    | refine Nx.ex ?_
  exact Nx.ret_fn rfl [] ⟨0, rfl, rfl⟩ (by (first | done | (repeat first | exact Ent.refl _ | exact Ent.nil _ | refine Ent.pick 0 rfl ?_ | refine Ent.pick 1 rfl ?_ | refine Ent.pick 2 rfl ?_ | refine Ent.pick 3 rfl ?_ | refine Ent.pick 4 rfl ?_ | refine Ent.pick 5 rfl ?_ | refine Ent.pick 6 rfl ?_ | refine Ent.pick 7 rfl ?_ | refine Ent.pick 8 rfl ?_ | refine Ent.pick 9 rfl ?_ | refine Ent.pick 10 rfl ?_ | refine Ent.pick 11 rfl ?_ | refine Ent.pick 12 rfl ?_ | refine Ent.pick 13 rfl ?_ | refine Ent.pick 14 rfl ?_)))
end
theorem Search_spec (A : Option Addr) (c : Nat) (l : List Int) (x : Int) (I : PH) (hl : Ints I A c l) (hbig : l.length < 4611686018427387904) (hs : l.Pairwise (· ≤ ·)) :
    FnSpec Try.prog 35 [.slice A l.length c, .int .i64 x] I [] (fun v R' => ∃ i : Int, v = .tuple #[.int .i64 i, .bool (l.contains x)] ∧ R' = []) := by
  by_cases h0 : l = []
  · subst h0
    exact Search0_spec A c x I
  · have hpos : 0 < l.length := List.length_pos_iff.2 h0
    intro w F hw
    have hA := hl.isSome hpos
    cases A with
    | none => cases hA
    | some a =>
      obtain ⟨blk, off, spot⟩ := a
      have hcell : ∀ j, j < l.length → cellH I ((⟨blk, off, spot⟩ : Addr).add j) = some (.int .i64 (l.getD j 0)) := fun j hj => by
        have := (hl.arr j (.int .i64 (l.getD j 0)) (by rw [List.getElem?_map, List.getElem?_eq_getElem hj, List.getD_eq_getElem?_getD, List.getElem?_eq_getElem hj]; rfl)).2
        exact this
      have hspot : spot = none := by
        have h1 := hcell 0 hpos
        rw [Addr.add_zero'] at h1
        unfold cellH at h1
        split at h1
        · split at h1
          · cases h1
          · rename_i hs; cases spot with
            | none => rfl
            | some x => simp at hs
        · cases h1
      subst hspot
      obtain ⟨⟨m, hm, hs'⟩, hst⟩ := id hw
      have hh := AnyG.slices_BinarySearch_int bsr blk off l.length c l x w (Nat.le_refl _) hbig (fun j hj => by
        have h1 := hcell j hj
        rw [Addr.add_lit] at h1
        exact cellH_cell hs'.imm h1) (by rw [List.take_length]; exact hs)
      rw [List.take_length] at hh
      refine hh.mono fun e w' => ?_
      rintro ⟨rfl, q, rfl⟩
      exact ⟨_, _, rfl, ⟨_, rfl, rfl⟩, ⟨⟨m, hm, ⟨hs'.imm, hs'.own, hs'.dis⟩⟩, ⟨rfl, rfl, rfl, Nat.le_refl _⟩⟩⟩
end Go.Proofs.Ytddameoiafgfbaa
