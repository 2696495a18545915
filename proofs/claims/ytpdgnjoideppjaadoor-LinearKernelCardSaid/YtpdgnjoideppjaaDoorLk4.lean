/- Contracts of functions of the given program, and lemmas about plain lists and numbers: what the laws of this seat lean on. -/
import Derived.Sort.Grow
import Derived.Lib.AppendIntMem
import Derived.Lib.ItoaLen
import Derived.Laws.Concat
import Derived.Laws.Strings
import Derived.Laws.StructEq
import Derived.Laws.Small
import Derived.MapKept
import Derived.Lib.AppendStr
import Derived.Laws.IdiomStrings
import Derived.Laws.Strings2
import Derived.Laws.Cover1
import Derived.Test.YtpdgnjoideppjaaDoorLk3
namespace Go.Proofs.YtpdgnjoideppjaaDoor
open Go.Eng
attribute [local irreducible] opK wpList Code.wp Exit.then Exit.inBlock fnPost bodyPost Nx Calls Oper.wp Rd Rds Wr Ent Stars Blk Again Vec FnSpec wpMix QRun Stop Upto wpAt
/-! Matrices; their sizes -/
abbrev Row := Option Addr × Nat × List Int
def rowV (r : Row) : Value := .slice r.1 r.2.2.length r.2.1
/-- A matrix that nobody writes any more. -/
structure Mat (I : PH) (A : Option Addr) (c : Nat) (v : List Row) : Prop where
  outer : SliceOf rowV I A c v
  rows : ∀ r ∈ v, Ints I r.1 r.2.1 r.2.2
theorem Mat.mono {I I' : PH} {A : Option Addr} {c : Nat} {v : List Row} (hle : PH.le I I') (h : Mat I A c v) : Mat I' A c v := ⟨h.outer.mono hle, fun r hr => (h.rows r hr).mono hle⟩
def matL (v : List Row) : List (List Int) := v.map (·.2.2)
theorem matL_len (v : List Row) : (matL v).length = v.length := List.length_map _
theorem row_mem {v : List Row} {k : Nat} (h : k < v.length) : v.getD k default ∈ v := by rw [List.getD_eq_getElem?_getD, List.getElem?_eq_getElem h]; exact List.getElem_mem _
theorem matL_at {v : List Row} {k : Nat} (h : k < v.length) : (matL v).getD k [] = (v.getD k default).2.2 := by
  unfold matL
  rw [List.getD_eq_getElem?_getD, List.getElem?_map, List.getD_eq_getElem?_getD, List.getElem?_eq_getElem h]; rfl
/-- The sum of the absolute values. -/
def absS : List Int → Nat
  | [] => 0
  | x :: l => x.natAbs + absS l
theorem absS_app : ∀ p q : List Int, absS (p ++ q) = absS p + absS q
  | [], q => by simp [absS]
  | x :: p, q => by simp only [List.cons_append, absS]; rw [absS_app p q]; omega
theorem absS_step {l : List Int} {k : Nat} (h : k < l.length) : absS (l.take (k + 1)) = absS (l.take k) + (l.getD k 0).natAbs := by
  rw [List.take_succ_eq_append_getElem h, absS_app, List.getD_eq_getElem?_getD, List.getElem?_eq_getElem h]; simp [absS]
theorem absS_le {l : List Int} (h : ∀ x ∈ l, -2147483648 ≤ x ∧ x ≤ 2147483648) : absS l ≤ l.length * 2147483648 := by
  induction l with
  | nil => simp [absS]
  | cons x l ih =>
    have h1 := h x (by simp)
    have h2 := ih fun y hy => h y (by simp [hy])
    simp only [absS, List.length_cons]; omega
theorem absS_take (l : List Int) (k : Nat) : absS (l.take k) ≤ absS l := by
  have := absS_app (l.take k) (l.drop k)
  rw [List.take_append_drop] at this
  omega
/-- The product of the sums of the rows; a sum that is 0 counts 1. -/
def prodM : List (List Int) → Nat
  | [] => 1
  | r :: m => max 1 (absS r) * prodM m
theorem prodM_app : ∀ p q : List (List Int), prodM (p ++ q) = prodM p * prodM q
  | [], q => by simp [prodM]
  | x :: p, q => by simp only [List.cons_append, prodM]; rw [prodM_app p q, Nat.mul_assoc]
theorem prodM_pos : ∀ m : List (List Int), 1 ≤ prodM m
  | [] => Nat.le_refl _
  | r :: m => Nat.mul_le_mul (Nat.le_max_left 1 (absS r)) (prodM_pos m)
theorem prodM_step {m : List (List Int)} {k : Nat} (h : k < m.length) : prodM (m.take (k + 1)) = prodM (m.take k) * max 1 (absS (m.getD k [])) := by
  rw [List.take_succ_eq_append_getElem h, prodM_app, List.getD_eq_getElem?_getD, List.getElem?_eq_getElem h]; simp [prodM]
theorem prodM_take (m : List (List Int)) (k : Nat) : prodM (m.take k) ≤ prodM m := by
  have := prodM_app (m.take k) (m.drop k)
  rw [List.take_append_drop] at this
  rw [this]
  exact Nat.le_mul_of_pos_right _ (prodM_pos _)
abbrev T120 : Nat := 1329227995784915872903807060280344576
/-- The rows are short, the numbers of moderate size. -/
def Small (m : List (List Int)) : Prop := ∀ r ∈ m, r.length ≤ 5 ∧ ∀ x ∈ r, -2147483648 ≤ x ∧ x ≤ 2147483648
theorem Small.row {v : List Row} (h : Small (matL v)) {k : Nat} (hk : k < v.length) : (v.getD k default).2.2.length ≤ 5 ∧ (∀ x ∈ (v.getD k default).2.2, -2147483648 ≤ x ∧ x ≤ 2147483648) ∧ absS (v.getD k default).2.2 ≤ 10737418240 := by
  have := h (v.getD k default).2.2 (List.mem_map.2 ⟨_, row_mem hk, rfl⟩)
  exact ⟨this.1, this.2, by have h2 := absS_le this.2; have := this.1; omega⟩
theorem max_abs (x : Int) : max x (-x) = (x.natAbs : Int) := by omega
/-- One step of the product: the carries tell whether it is too great. -/
theorem large_step (S n : Nat) :
    ((T120 < S * n) ↔ (0 < (S / 18446744073709551616 * n) / 18446744073709551616 + ((S / 18446744073709551616 * n) % 18446744073709551616 + (S % 18446744073709551616 * n) / 18446744073709551616 + 0) / 18446744073709551616 ∨
      72057594037927936 < ((S / 18446744073709551616 * n) % 18446744073709551616 + (S % 18446744073709551616 * n) / 18446744073709551616 + 0) % 18446744073709551616 ∨
      (((S / 18446744073709551616 * n) % 18446744073709551616 + (S % 18446744073709551616 * n) / 18446744073709551616 + 0) % 18446744073709551616 = 72057594037927936 ∧ 0 < (S % 18446744073709551616 * n) % 18446744073709551616))) ∧
    (S * n ≤ T120 → ((S / 18446744073709551616 * n) % 18446744073709551616 + (S % 18446744073709551616 * n) / 18446744073709551616 + 0) % 18446744073709551616 = (S * n) / 18446744073709551616 ∧ (S % 18446744073709551616 * n) % 18446744073709551616 = (S * n) % 18446744073709551616) := by
  have e : S * n = (S / 18446744073709551616 * n) * 18446744073709551616 + S % 18446744073709551616 * n := by
    have := Nat.div_add_mod S 18446744073709551616
    calc S * n = (18446744073709551616 * (S / 18446744073709551616) + S % 18446744073709551616) * n := by rw [this]
      _ = _ := by rw [Nat.add_mul, Nat.mul_assoc, Nat.mul_comm 18446744073709551616]
  rw [e]
  generalize S / 18446744073709551616 * n = a
  generalize S % 18446744073709551616 * n = b
  unfold T120
  omega
end Go.Proofs.YtpdgnjoideppjaaDoor
/- Contracts of functions of the given program, and lemmas about plain lists and numbers: what the laws of this seat lean on. -/
namespace Go.Proofs.YtpdgnjoideppjaaDoor
open Go.Eng
attribute [local irreducible] opK wpList Code.wp Exit.then Exit.inBlock fnPost bodyPost Nx Calls Oper.wp Rd Rds Wr Ent Stars Blk Again Vec FnSpec wpMix QRun Stop Upto wpAt
set_option maxRecDepth 10000 in
set_option maxHeartbeats 4000000 in
theorem large_spec (A : Option Addr) (c : Nat) (v : List Row) (I : PH) (hm : Mat I A c v) (hs : Small (matL v)) :
    FnSpec Tryd.prog 28 [.slice A v.length c] I [] (fun u R' => u = .bool (decide (T120 < prodM (matL v))) ∧ R' = []) := by
  have hlen := hm.outer.len
  refine FnSpec.enterP Tryd.func28 rfl Tryd.ntmps28 rfl fun w F => ?_
  repeat' first
    | ((with_reducible refine Nx.is_wp ?_); first | refine Nx.wo ?_ | refine Nx.p_dec rfl rfl (fun hc => ?_) (fun hc => ?_) | refine Nx.p_bool rfl rfl (fun hc => ?_) (fun hc => ?_))
    | ((first | refine Nx.at_op rfl rfl ?_ | refine Nx.m_loud rfl rfl rfl ?_ | refine Nx.at_do rfl rfl rfl rfl ?_ | refine Nx.m_loud_do rfl rfl rfl rfl rfl ?_); first | refine Nx.opr rfl rfl ?_ | refine Nx.callv rfl rfl rfl (by kernel_rfl) rfl (whole_spec 1 (by unfold I64; decide) I) ?_ | refine Nx.so ?_ | refine Nx.sb (fun bx => ?_) | refine Nx.sa (fun A2 c2 => ?_))
    | ((with_reducible refine Nx.is_at ?_); first | refine Nx.a ?_ | ((fail_if_success refine Nx.at_do rfl rfl rfl rfl ?_); first | refine Nx.at_dec_t rfl rfl rfl rfl (by first | assumption | omega) ?_ | refine Nx.at_dec_f rfl rfl rfl rfl (by first | assumption | omega) ?_ | refine Nx.at_split rfl rfl rfl rfl (fun hc => ?_) (fun hc => ?_) | refine Nx.at_splitb rfl rfl rfl rfl (fun hc => ?_) (fun hc => ?_)))
    | ((with_reducible refine Nx.is_mix ?_); first | refine Nx.m ?_ | ((fail_if_success refine Nx.m_quiet_do rfl rfl rfl rfl rfl rfl rfl ?_ ?_); (fail_if_success refine Nx.m_loud_do rfl rfl rfl rfl rfl ?_); first | refine Nx.m_dec_t rfl rfl rfl rfl (by first | assumption | omega) ?_ | refine Nx.m_dec_f rfl rfl rfl rfl (by first | assumption | omega) ?_ | refine Nx.m_split rfl rfl rfl rfl (fun hc => ?_) (fun hc => ?_) | refine Nx.m_splitb rfl rfl rfl rfl (fun hc => ?_) (fun hc => ?_)))
    | ((fail_if_success (with_reducible refine Nx.is_at ?_)); (fail_if_success (with_reducible refine Nx.is_wp ?_)); (fail_if_success (with_reducible refine Nx.is_mix ?_)); first | refine Nx.ex ?_)
  revert bx; intro b3
  refine Nx.p_loop (σ := Nat) (fun k => [(3, .pointer (some ⟨b3, 0, none⟩)), (16, .slice A v.length c), (17, .int .i64 v.length), (18, .int .i64 (k : Int))])
    (fun k => [Blk b3 58 [.int .u64 ((prodM ((matL v).take k) / 18446744073709551616 : Nat) : Int), .int .u64 ((prodM ((matL v).take k) % 18446744073709551616 : Nat) : Int)], F]) (fun k => k ≤ v.length ∧ prodM ((matL v).take k) ≤ T120) (fun k => v.length - k) 0 rfl ⟨Nat.zero_le _, by rw [List.take_zero]; decide⟩ ⟨rfl, rfl, rfl, rfl, trivial⟩ (by (exact Ent.auto)) ?_
  rintro k ⟨hk, hS⟩
  by_cases hlt : k < v.length
  · obtain ⟨r5, rb, ra⟩ := hs.row hlt
    have hr := hm.rows _ (row_mem hlt)
    have hrl := hr.len
    have hstep := prodM_step (m := matL v) (k := k) (by rw [matL_len]; exact hlt)
    rw [matL_at hlt] at hstep
    generalize hrow : (v.getD k default) = row at r5 rb ra hr hstep hrl
    obtain ⟨Ar, cr, l⟩ := row
    dsimp only at r5 rb ra hr hstep hrl
    have hrv : rowV (v.getD k default) = .slice Ar l.length cr := by rw [hrow]; rfl
    repeat' first
      | ((with_reducible refine Nx.is_wp ?_); first | refine Nx.wo ?_ | refine Nx.p_dec rfl rfl (fun hc => ?_) (fun hc => ?_) | refine Nx.p_bool rfl rfl (fun hc => ?_) (fun hc => ?_))
      | ((first | refine Nx.at_op rfl rfl ?_ | refine Nx.m_loud rfl rfl rfl ?_ | refine Nx.at_do rfl rfl rfl rfl ?_ | refine Nx.m_loud_do rfl rfl rfl rfl rfl ?_); first | refine Nx.opr rfl rfl ?_ | refine Nx.indexAddr_nat rfl rfl rfl rfl rfl (by omega) (hm.outer.isSome (by omega)) ?_ | (refine Nx.load rfl rfl rfl (hm.outer.rd (k := k) (by omega)) ?_; rw [hrv]) | refine Nx.so ?_ | refine Nx.sb (fun bx => ?_) | refine Nx.sa (fun A2 c2 => ?_))
      | ((with_reducible refine Nx.is_at ?_); first | refine Nx.a ?_ | ((fail_if_success refine Nx.at_do rfl rfl rfl rfl ?_); first | refine Nx.at_dec_t rfl rfl rfl rfl (by first | assumption | omega) ?_ | refine Nx.at_dec_f rfl rfl rfl rfl (by first | assumption | omega) ?_ | refine Nx.at_split rfl rfl rfl rfl (fun hc => ?_) (fun hc => ?_) | refine Nx.at_splitb rfl rfl rfl rfl (fun hc => ?_) (fun hc => ?_)))
      | ((with_reducible refine Nx.is_mix ?_); first | refine Nx.m ?_ | ((fail_if_success refine Nx.m_quiet_do rfl rfl rfl rfl rfl rfl rfl ?_ ?_); (fail_if_success refine Nx.m_loud_do rfl rfl rfl rfl rfl ?_); first | refine Nx.m_dec_t rfl rfl rfl rfl (by first | assumption | omega) ?_ | refine Nx.m_dec_f rfl rfl rfl rfl (by first | assumption | omega) ?_ | refine Nx.m_split rfl rfl rfl rfl (fun hc => ?_) (fun hc => ?_) | refine Nx.m_splitb rfl rfl rfl rfl (fun hc => ?_) (fun hc => ?_)))
      | ((fail_if_success (with_reducible refine Nx.is_at ?_)); (fail_if_success (with_reducible refine Nx.is_wp ?_)); (fail_if_success (with_reducible refine Nx.is_mix ?_)); first | refine Nx.ex ?_)
    refine Nx.p_loop (σ := Nat) (fun j => [(3, .pointer (some ⟨b3, 0, none⟩)), (16, .slice A v.length c), (17, .int .i64 v.length), (18, .int .i64 (k : Int)), (6, .int .i64 ((absS (l.take j) : Nat) : Int)), (22, .slice Ar l.length cr), (23, .int .i64 l.length), (24, .int .i64 (j : Int))])
      (fun _ => [Blk b3 58 [.int .u64 ((prodM ((matL v).take k) / 18446744073709551616 : Nat) : Int), .int .u64 ((prodM ((matL v).take k) % 18446744073709551616 : Nat) : Int)], F]) (fun j => j ≤ l.length) (fun j => l.length - j) 0 rfl (Nat.zero_le _) ⟨rfl, rfl, rfl, rfl, rfl, rfl, rfl, rfl, trivial⟩ (by (exact Ent.auto)) ?_
    intro j hj
    by_cases hjl : j < l.length
    · have hxb := rb (l.getD j default) (by rw [List.getD_eq_getElem?_getD, List.getElem?_eq_getElem hjl]; exact List.getElem_mem _)
      have h1 := absS_step hjl
      have h2 := absS_take l (j + 1)
      rw [show l.getD j 0 = l.getD j default from rfl] at h1
      generalize hx9 : l.getD j default = x at hxb h1
      have hmx := max_abs x
      repeat' first
        | ((with_reducible refine Nx.is_wp ?_); first | refine Nx.wo ?_ | refine Nx.p_dec rfl rfl (fun hc => ?_) (fun hc => ?_) | refine Nx.p_bool rfl rfl (fun hc => ?_) (fun hc => ?_))
        | ((first | refine Nx.at_op rfl rfl ?_ | refine Nx.m_loud rfl rfl rfl ?_ | refine Nx.at_do rfl rfl rfl rfl ?_ | refine Nx.m_loud_do rfl rfl rfl rfl rfl ?_); first | refine Nx.opr rfl rfl ?_ | refine Nx.indexAddr_nat rfl rfl rfl rfl rfl (by omega) (hr.isSome (by omega)) ?_ | (refine Nx.load rfl rfl rfl (hr.rd (k := j) (by omega)) ?_; rw [hx9]) | refine Nx.so ?_ | refine Nx.sb (fun bx => ?_) | refine Nx.sa (fun A2 c2 => ?_))
        | ((with_reducible refine Nx.is_at ?_); first | refine Nx.a ?_ | ((fail_if_success refine Nx.at_do rfl rfl rfl rfl ?_); first | refine Nx.at_dec_t rfl rfl rfl rfl (by first | assumption | omega) ?_ | refine Nx.at_dec_f rfl rfl rfl rfl (by first | assumption | omega) ?_ | refine Nx.at_split rfl rfl rfl rfl (fun hc => ?_) (fun hc => ?_) | refine Nx.at_splitb rfl rfl rfl rfl (fun hc => ?_) (fun hc => ?_)))
        | ((with_reducible refine Nx.is_mix ?_); first | refine Nx.m ?_ | ((fail_if_success refine Nx.m_quiet_do rfl rfl rfl rfl rfl rfl rfl ?_ ?_); (fail_if_success refine Nx.m_loud_do rfl rfl rfl rfl rfl ?_); first | refine Nx.m_dec_t rfl rfl rfl rfl (by first | assumption | omega) ?_ | refine Nx.m_dec_f rfl rfl rfl rfl (by first | assumption | omega) ?_ | refine Nx.m_split rfl rfl rfl rfl (fun hc => ?_) (fun hc => ?_) | refine Nx.m_splitb rfl rfl rfl rfl (fun hc => ?_) (fun hc => ?_)))
        | ((fail_if_success (with_reducible refine Nx.is_at ?_)); (fail_if_success (with_reducible refine Nx.is_wp ?_)); (fail_if_success (with_reducible refine Nx.is_mix ?_)); first | refine Nx.ex ?_)
      exact Nx.again (j + 1) hjl (by omega) ⟨rfl, rfl, rfl, rfl, by rw [h1, hmx, Int.natCast_add]; rfl, rfl, rfl, rfl, trivial⟩ (by (exact Ent.auto))
    obtain rfl : j = l.length := by omega
    rw [List.take_length]
    obtain ⟨hL1, hL2⟩ := large_step (prodM ((matL v).take k)) (max 1 (absS l))
    rw [← hstep] at hL1 hL2
    have htk := prodM_take (matL v) (k + 1)
    have hconv : max ((absS l : Nat) : Int) 1 % B64 = ((max 1 (absS l) : Nat) : Int) := by unfold B64; omega
    generalize hN : max 1 (absS l) = n at hL1 hL2 hconv
    have hn9 : n ≤ 10737418240 := by omega
    generalize hSS : prodM ((matL v).take k) = S at hS hL1 hL2
    have hS : S ≤ T120 := hS
    unfold T120 at hS
    have ha : S / 18446744073709551616 * n ≤ 72057594037927936 * 10737418240 := Nat.mul_le_mul (by omega) hn9
    have hb : S % 18446744073709551616 * n ≤ 18446744073709551615 * 10737418240 := Nat.mul_le_mul (by omega) hn9
    have hB : (((S / 18446744073709551616 * n / 18446744073709551616 : Nat) : Int) + (((S / 18446744073709551616 * n % 18446744073709551616 + S % 18446744073709551616 * n / 18446744073709551616 + 0) / 18446744073709551616 : Nat) : Int)) % B64 = ((S / 18446744073709551616 * n / 18446744073709551616 + (S / 18446744073709551616 * n % 18446744073709551616 + S % 18446744073709551616 * n / 18446744073709551616 + 0) / 18446744073709551616 : Nat) : Int) := by unfold B64; omega
    by_cases hbig : T120 < prodM ((matL v).take (k + 1))
    · rw [decide_eq_true (Nat.lt_of_lt_of_le hbig htk)]
      have h3 := hL1.1 hbig
      clear hL1 hL2
      repeat' first
        | ((with_reducible refine Nx.is_wp ?_); first | refine Nx.wo ?_ | refine Nx.p_dec rfl rfl (fun hc => ?_) (fun hc => ?_) | refine Nx.p_bool rfl rfl (fun hc => ?_) (fun hc => ?_))
        | ((first | refine Nx.at_op rfl rfl ?_ | refine Nx.m_loud rfl rfl rfl ?_ | refine Nx.at_do rfl rfl rfl rfl ?_ | refine Nx.m_loud_do rfl rfl rfl rfl rfl ?_); first | refine Nx.opr rfl rfl ?_ | (refine Nx.conv_u64 rfl rfl rfl rfl ?_; rw [hconv]) | (refine Nx.call (Rpre := []) rfl rfl rfl (by kernel_rfl) rfl (mul64_spec _ _ (by omega) (by omega) I) (Ent.refl _) ?_; rintro _ _ ⟨rfl, rfl⟩) | refine Nx.call_run rfl rfl rfl rfl (add64_run _ _ 0 (by omega)) ?_ | (refine Nx.bin rfl rfl run_addU rfl ?_; rw [hB]) | refine Nx.so ?_ | refine Nx.sb (fun bx => ?_) | refine Nx.sa (fun A2 c2 => ?_))
        | ((with_reducible refine Nx.is_at ?_); first | refine Nx.a ?_ | ((fail_if_success refine Nx.at_do rfl rfl rfl rfl ?_); first | refine Nx.at_dec_t rfl rfl rfl rfl (by first | assumption | omega) ?_ | refine Nx.at_dec_f rfl rfl rfl rfl (by first | assumption | omega) ?_ | refine Nx.at_split rfl rfl rfl rfl (fun hc => ?_) (fun hc => ?_) | refine Nx.at_splitb rfl rfl rfl rfl (fun hc => ?_) (fun hc => ?_)))
        | ((with_reducible refine Nx.is_mix ?_); first | refine Nx.m ?_ | ((fail_if_success refine Nx.m_quiet_do rfl rfl rfl rfl rfl rfl rfl ?_ ?_); (fail_if_success refine Nx.m_loud_do rfl rfl rfl rfl rfl ?_); first | refine Nx.m_dec_t rfl rfl rfl rfl (by first | assumption | omega) ?_ | refine Nx.m_dec_f rfl rfl rfl rfl (by first | assumption | omega) ?_ | refine Nx.m_split rfl rfl rfl rfl (fun hc => ?_) (fun hc => ?_) | refine Nx.m_splitb rfl rfl rfl rfl (fun hc => ?_) (fun hc => ?_)))
        | ((fail_if_success (with_reducible refine Nx.is_at ?_)); (fail_if_success (with_reducible refine Nx.is_wp ?_)); (fail_if_success (with_reducible refine Nx.is_mix ?_)); first | refine Nx.ex ?_)
      all_goals first
        | exact Nx.ret_fn rfl [] ⟨rfl, rfl⟩ (by (exact Ent.auto))
        | (exfalso; omega)
    · have h3 : ¬ _ := fun h => hbig (hL1.2 h)
      have h4 := hL2 (by omega)
      clear hL1 hL2
      repeat' first
        | ((with_reducible refine Nx.is_wp ?_); first | refine Nx.wo ?_ | refine Nx.p_dec rfl rfl (fun hc => ?_) (fun hc => ?_) | refine Nx.p_bool rfl rfl (fun hc => ?_) (fun hc => ?_))
        | ((first | refine Nx.at_op rfl rfl ?_ | refine Nx.m_loud rfl rfl rfl ?_ | refine Nx.at_do rfl rfl rfl rfl ?_ | refine Nx.m_loud_do rfl rfl rfl rfl rfl ?_); first | refine Nx.opr rfl rfl ?_ | (refine Nx.conv_u64 rfl rfl rfl rfl ?_; rw [hconv]) | (refine Nx.call (Rpre := []) rfl rfl rfl (by kernel_rfl) rfl (mul64_spec _ _ (by omega) (by omega) I) (Ent.refl _) ?_; rintro _ _ ⟨rfl, rfl⟩) | refine Nx.call_run rfl rfl rfl rfl (add64_run _ _ 0 (by omega)) ?_ | (refine Nx.bin rfl rfl run_addU rfl ?_; rw [hB]) | refine Nx.so ?_ | refine Nx.sb (fun bx => ?_) | refine Nx.sa (fun A2 c2 => ?_))
        | ((with_reducible refine Nx.is_at ?_); first | refine Nx.a ?_ | ((fail_if_success refine Nx.at_do rfl rfl rfl rfl ?_); first | refine Nx.at_dec_t rfl rfl rfl rfl (by first | assumption | omega) ?_ | refine Nx.at_dec_f rfl rfl rfl rfl (by first | assumption | omega) ?_ | refine Nx.at_split rfl rfl rfl rfl (fun hc => ?_) (fun hc => ?_) | refine Nx.at_splitb rfl rfl rfl rfl (fun hc => ?_) (fun hc => ?_)))
        | ((with_reducible refine Nx.is_mix ?_); first | refine Nx.m ?_ | ((fail_if_success refine Nx.m_quiet_do rfl rfl rfl rfl rfl rfl rfl ?_ ?_); (fail_if_success refine Nx.m_loud_do rfl rfl rfl rfl rfl ?_); first | refine Nx.m_dec_t rfl rfl rfl rfl (by first | assumption | omega) ?_ | refine Nx.m_dec_f rfl rfl rfl rfl (by first | assumption | omega) ?_ | refine Nx.m_split rfl rfl rfl rfl (fun hc => ?_) (fun hc => ?_) | refine Nx.m_splitb rfl rfl rfl rfl (fun hc => ?_) (fun hc => ?_)))
        | ((fail_if_success (with_reducible refine Nx.is_at ?_)); (fail_if_success (with_reducible refine Nx.is_wp ?_)); (fail_if_success (with_reducible refine Nx.is_mix ?_)); first | refine Nx.ex ?_)
      all_goals first
        | (exfalso; omega)
        | exact Nx.again (k + 1) ⟨hlt, by omega⟩ (by omega) ⟨rfl, rfl, rfl, rfl, trivial⟩ (by rw [← h4.1, ← h4.2]; (exact Ent.auto))
  · obtain rfl : k = v.length := by omega
    have hno : ¬ T120 < prodM (matL v) := by
      have : (matL v).take v.length = matL v := by rw [← matL_len v, List.take_length]
      rw [this] at hS; omega
    rw [decide_eq_false hno]
    repeat' first
      | ((with_reducible refine Nx.is_wp ?_); first | refine Nx.wo ?_ | refine Nx.p_dec rfl rfl (fun hc => ?_) (fun hc => ?_) | refine Nx.p_bool rfl rfl (fun hc => ?_) (fun hc => ?_))
      | ((first | refine Nx.at_op rfl rfl ?_ | refine Nx.m_loud rfl rfl rfl ?_ | refine Nx.at_do rfl rfl rfl rfl ?_ | refine Nx.m_loud_do rfl rfl rfl rfl rfl ?_); first | refine Nx.opr rfl rfl ?_ | refine Nx.so ?_ | refine Nx.sb (fun bx => ?_) | refine Nx.sa (fun A2 c2 => ?_))
      | ((with_reducible refine Nx.is_at ?_); first | refine Nx.a ?_ | ((fail_if_success refine Nx.at_do rfl rfl rfl rfl ?_); first | refine Nx.at_dec_t rfl rfl rfl rfl (by first | assumption | omega) ?_ | refine Nx.at_dec_f rfl rfl rfl rfl (by first | assumption | omega) ?_ | refine Nx.at_split rfl rfl rfl rfl (fun hc => ?_) (fun hc => ?_) | refine Nx.at_splitb rfl rfl rfl rfl (fun hc => ?_) (fun hc => ?_)))
      | ((with_reducible refine Nx.is_mix ?_); first | refine Nx.m ?_ | ((fail_if_success refine Nx.m_quiet_do rfl rfl rfl rfl rfl rfl rfl ?_ ?_); (fail_if_success refine Nx.m_loud_do rfl rfl rfl rfl rfl ?_); first | refine Nx.m_dec_t rfl rfl rfl rfl (by first | assumption | omega) ?_ | refine Nx.m_dec_f rfl rfl rfl rfl (by first | assumption | omega) ?_ | refine Nx.m_split rfl rfl rfl rfl (fun hc => ?_) (fun hc => ?_) | refine Nx.m_splitb rfl rfl rfl rfl (fun hc => ?_) (fun hc => ?_)))
      | ((fail_if_success (with_reducible refine Nx.is_at ?_)); (fail_if_success (with_reducible refine Nx.is_wp ?_)); (fail_if_success (with_reducible refine Nx.is_mix ?_)); first | refine Nx.ex ?_)
    exact Nx.ret_fn rfl [] ⟨rfl, rfl⟩ (by (exact Ent.auto))
end Go.Proofs.YtpdgnjoideppjaaDoor
/- Contracts of functions of the given program, and lemmas about plain lists and numbers: what the laws of this seat lean on. -/
namespace Go.Proofs.YtpdgnjoideppjaaDoor
open Go.Eng
attribute [local irreducible] opK wpList Code.wp Exit.then Exit.inBlock fnPost bodyPost Nx Calls Oper.wp Rd Rds Wr Ent Stars Blk Again Vec FnSpec wpMix QRun Stop Upto wpAt
/-! The first error of a matrix -/
def lenB (m : List (List Int)) : Bool := m.all fun r => decide (r.length = m.length)
def rngB (m : List (List Int)) : Bool := m.all fun r => r.all fun x => decide (-2147483648 ≤ x ∧ x ≤ 2147483648)
def chkE (m : List (List Int)) : Int := if m.length = 0 then 18 else if 5 < m.length then 1 else if lenB m = false then 17 else if rngB m = false then 2 else if T120 < prodM m then 14 else 0
theorem lenB_t {v : List Row} (h : ∀ k, k < v.length → (v.getD k default).2.2.length = v.length) : lenB (matL v) = true := by
  refine List.all_eq_true.2 fun r hr => ?_
  obtain ⟨x, hx, rfl⟩ := List.mem_map.1 hr
  obtain ⟨k, hk, rfl⟩ := List.mem_iff_getElem.1 hx
  have := h k hk
  rw [List.getD_eq_getElem?_getD, List.getElem?_eq_getElem hk] at this
  rw [matL_len]
  exact decide_eq_true this
theorem lenB_f {v : List Row} {k : Nat} (hk : k < v.length) (h : (v.getD k default).2.2.length ≠ v.length) : lenB (matL v) = false := by
  cases hb : lenB (matL v) with
  | false => rfl
  | true =>
    have := of_decide_eq_true (List.all_eq_true.1 hb (v.getD k default).2.2 (List.mem_map.2 ⟨_, row_mem hk, rfl⟩))
    rw [matL_len] at this
    exact absurd this h
theorem rngB_t {v : List Row} (h : ∀ k, k < v.length → ∀ x ∈ (v.getD k default).2.2, -2147483648 ≤ x ∧ x ≤ 2147483648) : rngB (matL v) = true := by
  refine List.all_eq_true.2 fun r hr => List.all_eq_true.2 fun y hy => ?_
  obtain ⟨x, hx, rfl⟩ := List.mem_map.1 hr
  obtain ⟨k, hk, rfl⟩ := List.mem_iff_getElem.1 hx
  refine decide_eq_true (h k hk y ?_)
  rw [List.getD_eq_getElem?_getD, List.getElem?_eq_getElem hk]
  exact hy
theorem rngB_f {v : List Row} {k : Nat} {x : Int} (hk : k < v.length) (hx : x ∈ (v.getD k default).2.2) (h : ¬ (-2147483648 ≤ x ∧ x ≤ 2147483648)) : rngB (matL v) = false := by
  cases hb : rngB (matL v) with
  | false => rfl
  | true => exact absurd (of_decide_eq_true (List.all_eq_true.1 (List.all_eq_true.1 hb (v.getD k default).2.2 (List.mem_map.2 ⟨_, row_mem hk, rfl⟩)) x hx)) h
/-- What a right matrix is. -/
structure Fit (m : List (List Int)) : Prop where
  pos : 0 < m.length
  few : m.length ≤ 5
  len : ∀ r ∈ m, r.length = m.length
  rng : ∀ r ∈ m, ∀ x ∈ r, -2147483648 ≤ x ∧ x ≤ 2147483648
  prod : prodM m ≤ T120
theorem chk_ok {m : List (List Int)} : chkE m = 0 ↔ Fit m := by
  unfold chkE
  constructor
  · intro h
    split at h
    · omega
    · split at h
      · omega
      · split at h
        · omega
        · split at h
          · omega
          · split at h
            · omega
            · rename_i h1 h2 h3 h4 h5
              have e1 : lenB m = true := by cases hb : lenB m with | true => rfl | false => exact absurd hb h3
              have e2 : rngB m = true := by cases hb : rngB m with | true => rfl | false => exact absurd hb h4
              exact ⟨by omega, by omega, fun r hr => of_decide_eq_true (List.all_eq_true.1 e1 r hr), fun r hr x hx => of_decide_eq_true (List.all_eq_true.1 (List.all_eq_true.1 e2 r hr) x hx), by omega⟩
  · rintro ⟨h1, h2, h3, h4, h5⟩
    have e1 : lenB m = true := List.all_eq_true.2 fun r hr => decide_eq_true (h3 r hr)
    have e2 : rngB m = true := List.all_eq_true.2 fun r hr => List.all_eq_true.2 fun x hx => decide_eq_true (h4 r hr x hx)
    rw [if_neg (by omega), if_neg (by omega), if_neg (by rw [e1]; decide), if_neg (by rw [e2]; decide), if_neg (by omega)]
theorem Fit.small {m : List (List Int)} (h : Fit m) : Small m := fun r hr => ⟨by rw [h.len r hr]; exact h.few, h.rng r hr⟩
theorem take_all {α : Type} [Inhabited α] {l : List α} {p : α → Prop} {j : Nat} (h : ∀ x ∈ l.take j, p x) (hj : j < l.length) (hp : p (l.getD j default)) : ∀ x ∈ l.take (j + 1), p x := fun x hx => by
  rw [List.take_succ_eq_append_getElem hj] at hx
  rcases List.mem_append.1 hx with h1 | h1
  · exact h x h1
  · obtain rfl := List.mem_singleton.1 h1
    rw [List.getD_eq_getElem?_getD, List.getElem?_eq_getElem hj] at hp
    exact hp
set_option maxRecDepth 10000 in
set_option maxHeartbeats 4000000 in
theorem Check_spec (A : Option Addr) (c : Nat) (v : List Row) (I : PH) (hm : Mat I A c v) :
    FnSpec Tryd.prog 15 [.slice A v.length c] I [] (fun u R' => u = .int .i64 (chkE (matL v)) ∧ R' = []) := by
  have hlen := hm.outer.len
  have hml := matL_len v
  refine FnSpec.enterP Tryd.func15 rfl Tryd.ntmps15 rfl fun w F => ?_
  by_cases c1 : v.length = 0
  · have hE : chkE (matL v) = 18 := if_pos (by omega)
    rw [hE]
    repeat' first
      | ((with_reducible refine Nx.is_wp ?_); first | refine Nx.wo ?_ | refine Nx.p_dec rfl rfl (fun hc => ?_) (fun hc => ?_) | refine Nx.p_bool rfl rfl (fun hc => ?_) (fun hc => ?_))
      | ((first | refine Nx.at_op rfl rfl ?_ | refine Nx.m_loud rfl rfl rfl ?_ | refine Nx.at_do rfl rfl rfl rfl ?_ | refine Nx.m_loud_do rfl rfl rfl rfl rfl ?_); first | refine Nx.opr rfl rfl ?_ | refine Nx.so ?_ | refine Nx.sb (fun bx => ?_) | refine Nx.sa (fun A2 c2 => ?_))
      | ((with_reducible refine Nx.is_at ?_); first | refine Nx.a ?_ | ((fail_if_success refine Nx.at_do rfl rfl rfl rfl ?_); first | refine Nx.at_dec_t rfl rfl rfl rfl (by first | assumption | omega) ?_ | refine Nx.at_dec_f rfl rfl rfl rfl (by first | assumption | omega) ?_ | refine Nx.at_split rfl rfl rfl rfl (fun hc => ?_) (fun hc => ?_) | refine Nx.at_splitb rfl rfl rfl rfl (fun hc => ?_) (fun hc => ?_)))
      | ((with_reducible refine Nx.is_mix ?_); first | refine Nx.m ?_ | ((fail_if_success refine Nx.m_quiet_do rfl rfl rfl rfl rfl rfl rfl ?_ ?_); (fail_if_success refine Nx.m_loud_do rfl rfl rfl rfl rfl ?_); first | refine Nx.m_dec_t rfl rfl rfl rfl (by first | assumption | omega) ?_ | refine Nx.m_dec_f rfl rfl rfl rfl (by first | assumption | omega) ?_ | refine Nx.m_split rfl rfl rfl rfl (fun hc => ?_) (fun hc => ?_) | refine Nx.m_splitb rfl rfl rfl rfl (fun hc => ?_) (fun hc => ?_)))
      | ((fail_if_success (with_reducible refine Nx.is_at ?_)); (fail_if_success (with_reducible refine Nx.is_wp ?_)); (fail_if_success (with_reducible refine Nx.is_mix ?_)); first | refine Nx.ex ?_)
    exact Nx.ret_fn rfl [] ⟨rfl, rfl⟩ (by (exact Ent.auto))
  by_cases c2 : 5 < v.length
  · have hE : chkE (matL v) = 1 := by unfold chkE; rw [if_neg (by omega), if_pos (by omega)]
    rw [hE]
    repeat' first
      | ((with_reducible refine Nx.is_wp ?_); first | refine Nx.wo ?_ | refine Nx.p_dec rfl rfl (fun hc => ?_) (fun hc => ?_) | refine Nx.p_bool rfl rfl (fun hc => ?_) (fun hc => ?_))
      | ((first | refine Nx.at_op rfl rfl ?_ | refine Nx.m_loud rfl rfl rfl ?_ | refine Nx.at_do rfl rfl rfl rfl ?_ | refine Nx.m_loud_do rfl rfl rfl rfl rfl ?_); first | refine Nx.opr rfl rfl ?_ | refine Nx.so ?_ | refine Nx.sb (fun bx => ?_) | refine Nx.sa (fun A2 c2 => ?_))
      | ((with_reducible refine Nx.is_at ?_); first | refine Nx.a ?_ | ((fail_if_success refine Nx.at_do rfl rfl rfl rfl ?_); first | refine Nx.at_dec_t rfl rfl rfl rfl (by first | assumption | omega) ?_ | refine Nx.at_dec_f rfl rfl rfl rfl (by first | assumption | omega) ?_ | refine Nx.at_split rfl rfl rfl rfl (fun hc => ?_) (fun hc => ?_) | refine Nx.at_splitb rfl rfl rfl rfl (fun hc => ?_) (fun hc => ?_)))
      | ((with_reducible refine Nx.is_mix ?_); first | refine Nx.m ?_ | ((fail_if_success refine Nx.m_quiet_do rfl rfl rfl rfl rfl rfl rfl ?_ ?_); (fail_if_success refine Nx.m_loud_do rfl rfl rfl rfl rfl ?_); first | refine Nx.m_dec_t rfl rfl rfl rfl (by first | assumption | omega) ?_ | refine Nx.m_dec_f rfl rfl rfl rfl (by first | assumption | omega) ?_ | refine Nx.m_split rfl rfl rfl rfl (fun hc => ?_) (fun hc => ?_) | refine Nx.m_splitb rfl rfl rfl rfl (fun hc => ?_) (fun hc => ?_)))
      | ((fail_if_success (with_reducible refine Nx.is_at ?_)); (fail_if_success (with_reducible refine Nx.is_wp ?_)); (fail_if_success (with_reducible refine Nx.is_mix ?_)); first | refine Nx.ex ?_)
    exact Nx.ret_fn rfl [] ⟨rfl, rfl⟩ (by (exact Ent.auto))
  have hE0 : chkE (matL v) = if lenB (matL v) = false then 17 else if rngB (matL v) = false then 2 else if T120 < prodM (matL v) then 14 else 0 := by unfold chkE; rw [if_neg (by omega), if_neg (by omega)]
  repeat' first
    | ((with_reducible refine Nx.is_wp ?_); first | refine Nx.wo ?_ | refine Nx.p_dec rfl rfl (fun hc => ?_) (fun hc => ?_) | refine Nx.p_bool rfl rfl (fun hc => ?_) (fun hc => ?_))
    | ((first | refine Nx.at_op rfl rfl ?_ | refine Nx.m_loud rfl rfl rfl ?_ | refine Nx.at_do rfl rfl rfl rfl ?_ | refine Nx.m_loud_do rfl rfl rfl rfl rfl ?_); first | refine Nx.opr rfl rfl ?_ | refine Nx.so ?_ | refine Nx.sb (fun bx => ?_) | refine Nx.sa (fun A2 c2 => ?_))
    | ((with_reducible refine Nx.is_at ?_); first | refine Nx.a ?_ | ((fail_if_success refine Nx.at_do rfl rfl rfl rfl ?_); first | refine Nx.at_dec_t rfl rfl rfl rfl (by first | assumption | omega) ?_ | refine Nx.at_dec_f rfl rfl rfl rfl (by first | assumption | omega) ?_ | refine Nx.at_split rfl rfl rfl rfl (fun hc => ?_) (fun hc => ?_) | refine Nx.at_splitb rfl rfl rfl rfl (fun hc => ?_) (fun hc => ?_)))
    | ((with_reducible refine Nx.is_mix ?_); first | refine Nx.m ?_ | ((fail_if_success refine Nx.m_quiet_do rfl rfl rfl rfl rfl rfl rfl ?_ ?_); (fail_if_success refine Nx.m_loud_do rfl rfl rfl rfl rfl ?_); first | refine Nx.m_dec_t rfl rfl rfl rfl (by first | assumption | omega) ?_ | refine Nx.m_dec_f rfl rfl rfl rfl (by first | assumption | omega) ?_ | refine Nx.m_split rfl rfl rfl rfl (fun hc => ?_) (fun hc => ?_) | refine Nx.m_splitb rfl rfl rfl rfl (fun hc => ?_) (fun hc => ?_)))
    | ((fail_if_success (with_reducible refine Nx.is_at ?_)); (fail_if_success (with_reducible refine Nx.is_wp ?_)); (fail_if_success (with_reducible refine Nx.is_mix ?_)); first | refine Nx.ex ?_)
  refine Nx.p_loop (σ := Nat) (fun k => [(0, .slice A v.length c), (17, .slice A v.length c), (18, .int .i64 v.length), (19, .int .i64 (k : Int))])
    (fun _ => [F]) (fun k => k ≤ v.length ∧ ∀ i, i < k → (v.getD i default).2.2.length = v.length) (fun k => v.length - k) 0 rfl ⟨Nat.zero_le _, fun i hi => absurd hi (Nat.not_lt_zero _)⟩ ⟨rfl, rfl, rfl, rfl, trivial⟩ (by (exact Ent.auto)) ?_
  rintro k ⟨hk, hall⟩
  by_cases hlt : k < v.length
  · have hrv : rowV (v.getD k default) = .slice (v.getD k default).1 (v.getD k default).2.2.length (v.getD k default).2.1 := rfl
    by_cases hr : (v.getD k default).2.2.length = v.length
    · repeat' first
        | ((with_reducible refine Nx.is_wp ?_); first | refine Nx.wo ?_ | refine Nx.p_dec rfl rfl (fun hc => ?_) (fun hc => ?_) | refine Nx.p_bool rfl rfl (fun hc => ?_) (fun hc => ?_))
        | ((first | refine Nx.at_op rfl rfl ?_ | refine Nx.m_loud rfl rfl rfl ?_ | refine Nx.at_do rfl rfl rfl rfl ?_ | refine Nx.m_loud_do rfl rfl rfl rfl rfl ?_); first | refine Nx.opr rfl rfl ?_ | refine Nx.indexAddr_nat rfl rfl rfl rfl rfl (by omega) (hm.outer.isSome (by omega)) ?_ | (refine Nx.load rfl rfl rfl (hm.outer.rd (k := k) (by omega)) ?_; rw [hrv]) | refine Nx.so ?_ | refine Nx.sb (fun bx => ?_) | refine Nx.sa (fun A2 c2 => ?_))
        | ((with_reducible refine Nx.is_at ?_); first | refine Nx.a ?_ | ((fail_if_success refine Nx.at_do rfl rfl rfl rfl ?_); first | refine Nx.at_dec_t rfl rfl rfl rfl (by first | assumption | omega) ?_ | refine Nx.at_dec_f rfl rfl rfl rfl (by first | assumption | omega) ?_ | refine Nx.at_split rfl rfl rfl rfl (fun hc => ?_) (fun hc => ?_) | refine Nx.at_splitb rfl rfl rfl rfl (fun hc => ?_) (fun hc => ?_)))
        | ((with_reducible refine Nx.is_mix ?_); first | refine Nx.m ?_ | ((fail_if_success refine Nx.m_quiet_do rfl rfl rfl rfl rfl rfl rfl ?_ ?_); (fail_if_success refine Nx.m_loud_do rfl rfl rfl rfl rfl ?_); first | refine Nx.m_dec_t rfl rfl rfl rfl (by first | assumption | omega) ?_ | refine Nx.m_dec_f rfl rfl rfl rfl (by first | assumption | omega) ?_ | refine Nx.m_split rfl rfl rfl rfl (fun hc => ?_) (fun hc => ?_) | refine Nx.m_splitb rfl rfl rfl rfl (fun hc => ?_) (fun hc => ?_)))
        | ((fail_if_success (with_reducible refine Nx.is_at ?_)); (fail_if_success (with_reducible refine Nx.is_wp ?_)); (fail_if_success (with_reducible refine Nx.is_mix ?_)); first | refine Nx.ex ?_)
      exact Nx.again (k + 1) ⟨hlt, fun i hi => by
        by_cases hik : i = k
        · rw [hik]; exact hr
        · exact hall i (by omega)⟩ (by omega) ⟨rfl, rfl, rfl, rfl, trivial⟩ (by (exact Ent.auto))
    · have hE : chkE (matL v) = 17 := by rw [hE0, if_pos (lenB_f hlt hr)]
      rw [hE]
      repeat' first
        | ((with_reducible refine Nx.is_wp ?_); first | refine Nx.wo ?_ | refine Nx.p_dec rfl rfl (fun hc => ?_) (fun hc => ?_) | refine Nx.p_bool rfl rfl (fun hc => ?_) (fun hc => ?_))
        | ((first | refine Nx.at_op rfl rfl ?_ | refine Nx.m_loud rfl rfl rfl ?_ | refine Nx.at_do rfl rfl rfl rfl ?_ | refine Nx.m_loud_do rfl rfl rfl rfl rfl ?_); first | refine Nx.opr rfl rfl ?_ | refine Nx.indexAddr_nat rfl rfl rfl rfl rfl (by omega) (hm.outer.isSome (by omega)) ?_ | (refine Nx.load rfl rfl rfl (hm.outer.rd (k := k) (by omega)) ?_; rw [hrv]) | refine Nx.so ?_ | refine Nx.sb (fun bx => ?_) | refine Nx.sa (fun A2 c2 => ?_))
        | ((with_reducible refine Nx.is_at ?_); first | refine Nx.a ?_ | ((fail_if_success refine Nx.at_do rfl rfl rfl rfl ?_); first | refine Nx.at_dec_t rfl rfl rfl rfl (by first | assumption | omega) ?_ | refine Nx.at_dec_f rfl rfl rfl rfl (by first | assumption | omega) ?_ | refine Nx.at_split rfl rfl rfl rfl (fun hc => ?_) (fun hc => ?_) | refine Nx.at_splitb rfl rfl rfl rfl (fun hc => ?_) (fun hc => ?_)))
        | ((with_reducible refine Nx.is_mix ?_); first | refine Nx.m ?_ | ((fail_if_success refine Nx.m_quiet_do rfl rfl rfl rfl rfl rfl rfl ?_ ?_); (fail_if_success refine Nx.m_loud_do rfl rfl rfl rfl rfl ?_); first | refine Nx.m_dec_t rfl rfl rfl rfl (by first | assumption | omega) ?_ | refine Nx.m_dec_f rfl rfl rfl rfl (by first | assumption | omega) ?_ | refine Nx.m_split rfl rfl rfl rfl (fun hc => ?_) (fun hc => ?_) | refine Nx.m_splitb rfl rfl rfl rfl (fun hc => ?_) (fun hc => ?_)))
        | ((fail_if_success (with_reducible refine Nx.is_at ?_)); (fail_if_success (with_reducible refine Nx.is_wp ?_)); (fail_if_success (with_reducible refine Nx.is_mix ?_)); first | refine Nx.ex ?_)
      exact Nx.ret_fn rfl [] ⟨rfl, rfl⟩ (by (exact Ent.auto))
  obtain rfl : k = v.length := by omega
  rw [if_neg (by rw [lenB_t hall]; decide)] at hE0
  repeat' first
    | ((with_reducible refine Nx.is_wp ?_); first | refine Nx.wo ?_ | refine Nx.p_dec rfl rfl (fun hc => ?_) (fun hc => ?_) | refine Nx.p_bool rfl rfl (fun hc => ?_) (fun hc => ?_))
    | ((first | refine Nx.at_op rfl rfl ?_ | refine Nx.m_loud rfl rfl rfl ?_ | refine Nx.at_do rfl rfl rfl rfl ?_ | refine Nx.m_loud_do rfl rfl rfl rfl rfl ?_); first | refine Nx.opr rfl rfl ?_ | refine Nx.so ?_ | refine Nx.sb (fun bx => ?_) | refine Nx.sa (fun A2 c2 => ?_))
    | ((with_reducible refine Nx.is_at ?_); first | refine Nx.a ?_ | ((fail_if_success refine Nx.at_do rfl rfl rfl rfl ?_); first | refine Nx.at_dec_t rfl rfl rfl rfl (by first | assumption | omega) ?_ | refine Nx.at_dec_f rfl rfl rfl rfl (by first | assumption | omega) ?_ | refine Nx.at_split rfl rfl rfl rfl (fun hc => ?_) (fun hc => ?_) | refine Nx.at_splitb rfl rfl rfl rfl (fun hc => ?_) (fun hc => ?_)))
    | ((with_reducible refine Nx.is_mix ?_); first | refine Nx.m ?_ | ((fail_if_success refine Nx.m_quiet_do rfl rfl rfl rfl rfl rfl rfl ?_ ?_); (fail_if_success refine Nx.m_loud_do rfl rfl rfl rfl rfl ?_); first | refine Nx.m_dec_t rfl rfl rfl rfl (by first | assumption | omega) ?_ | refine Nx.m_dec_f rfl rfl rfl rfl (by first | assumption | omega) ?_ | refine Nx.m_split rfl rfl rfl rfl (fun hc => ?_) (fun hc => ?_) | refine Nx.m_splitb rfl rfl rfl rfl (fun hc => ?_) (fun hc => ?_)))
    | ((fail_if_success (with_reducible refine Nx.is_at ?_)); (fail_if_success (with_reducible refine Nx.is_wp ?_)); (fail_if_success (with_reducible refine Nx.is_mix ?_)); first | refine Nx.ex ?_)
  refine Nx.p_loop (σ := Nat) (fun k => [(0, .slice A v.length c), (29, .slice A v.length c), (30, .int .i64 v.length), (31, .int .i64 (k : Int))])
    (fun _ => [F]) (fun k => k ≤ v.length ∧ ∀ i, i < k → ∀ x ∈ (v.getD i default).2.2, -2147483648 ≤ x ∧ x ≤ 2147483648) (fun k => v.length - k) 0 rfl ⟨Nat.zero_le _, fun i hi => absurd hi (Nat.not_lt_zero _)⟩ ⟨rfl, rfl, rfl, rfl, trivial⟩ (by (exact Ent.auto)) ?_
  rintro k ⟨hk, hgood⟩
  by_cases hlt : k < v.length
  · have hrk := hall k hlt
    have hr := hm.rows _ (row_mem hlt)
    have hbad := fun x h1 h2 => rngB_f (v := v) (k := k) (x := x) hlt h1 h2
    generalize hrow : (v.getD k default) = row at hrk hr hbad
    obtain ⟨Ar, cr, l⟩ := row
    dsimp only at hrk hr hbad
    have hrl := hr.len
    have hrv : rowV (v.getD k default) = .slice Ar l.length cr := by rw [hrow]; rfl
    repeat' first
      | ((with_reducible refine Nx.is_wp ?_); first | refine Nx.wo ?_ | refine Nx.p_dec rfl rfl (fun hc => ?_) (fun hc => ?_) | refine Nx.p_bool rfl rfl (fun hc => ?_) (fun hc => ?_))
      | ((first | refine Nx.at_op rfl rfl ?_ | refine Nx.m_loud rfl rfl rfl ?_ | refine Nx.at_do rfl rfl rfl rfl ?_ | refine Nx.m_loud_do rfl rfl rfl rfl rfl ?_); first | refine Nx.opr rfl rfl ?_ | refine Nx.indexAddr_nat rfl rfl rfl rfl rfl (by omega) (hm.outer.isSome (by omega)) ?_ | (refine Nx.load rfl rfl rfl (hm.outer.rd (k := k) (by omega)) ?_; rw [hrv]) | refine Nx.so ?_ | refine Nx.sb (fun bx => ?_) | refine Nx.sa (fun A2 c2 => ?_))
      | ((with_reducible refine Nx.is_at ?_); first | refine Nx.a ?_ | ((fail_if_success refine Nx.at_do rfl rfl rfl rfl ?_); first | refine Nx.at_dec_t rfl rfl rfl rfl (by first | assumption | omega) ?_ | refine Nx.at_dec_f rfl rfl rfl rfl (by first | assumption | omega) ?_ | refine Nx.at_split rfl rfl rfl rfl (fun hc => ?_) (fun hc => ?_) | refine Nx.at_splitb rfl rfl rfl rfl (fun hc => ?_) (fun hc => ?_)))
      | ((with_reducible refine Nx.is_mix ?_); first | refine Nx.m ?_ | ((fail_if_success refine Nx.m_quiet_do rfl rfl rfl rfl rfl rfl rfl ?_ ?_); (fail_if_success refine Nx.m_loud_do rfl rfl rfl rfl rfl ?_); first | refine Nx.m_dec_t rfl rfl rfl rfl (by first | assumption | omega) ?_ | refine Nx.m_dec_f rfl rfl rfl rfl (by first | assumption | omega) ?_ | refine Nx.m_split rfl rfl rfl rfl (fun hc => ?_) (fun hc => ?_) | refine Nx.m_splitb rfl rfl rfl rfl (fun hc => ?_) (fun hc => ?_)))
      | ((fail_if_success (with_reducible refine Nx.is_at ?_)); (fail_if_success (with_reducible refine Nx.is_wp ?_)); (fail_if_success (with_reducible refine Nx.is_mix ?_)); first | refine Nx.ex ?_)
    refine Nx.p_loop (σ := Nat) (fun j => [(0, .slice A v.length c), (29, .slice A v.length c), (30, .int .i64 v.length), (31, .int .i64 (k : Int)), (35, .slice Ar l.length cr), (36, .int .i64 l.length), (37, .int .i64 (j : Int))])
      (fun _ => [F]) (fun j => j ≤ l.length ∧ ∀ x ∈ l.take j, -2147483648 ≤ x ∧ x ≤ 2147483648) (fun j => l.length - j) 0 rfl ⟨Nat.zero_le _, by simp⟩ ⟨rfl, rfl, rfl, rfl, rfl, rfl, rfl, trivial⟩ (by (exact Ent.auto)) ?_
    rintro j ⟨hj, hin⟩
    by_cases hjl : j < l.length
    · have hmem : l.getD j default ∈ l := by rw [List.getD_eq_getElem?_getD, List.getElem?_eq_getElem hjl]; exact List.getElem_mem _
      have hb := hbad _ hmem
      have hnext := fun h => take_all (p := fun x => -2147483648 ≤ x ∧ x ≤ 2147483648) hin hjl h
      generalize hx9 : l.getD j default = x at hb hnext
      by_cases g1 : x < -2147483648
      · have hE : chkE (matL v) = 2 := by rw [hE0, if_pos (hb (by omega))]
        rw [hE]
        repeat' first
          | ((with_reducible refine Nx.is_wp ?_); first | refine Nx.wo ?_ | refine Nx.p_dec rfl rfl (fun hc => ?_) (fun hc => ?_) | refine Nx.p_bool rfl rfl (fun hc => ?_) (fun hc => ?_))
          | ((first | refine Nx.at_op rfl rfl ?_ | refine Nx.m_loud rfl rfl rfl ?_ | refine Nx.at_do rfl rfl rfl rfl ?_ | refine Nx.m_loud_do rfl rfl rfl rfl rfl ?_); first | refine Nx.opr rfl rfl ?_ | refine Nx.indexAddr_nat rfl rfl rfl rfl rfl (by omega) (hr.isSome (by omega)) ?_ | (refine Nx.load rfl rfl rfl (hr.rd (k := j) (by omega)) ?_; rw [hx9]) | refine Nx.so ?_ | refine Nx.sb (fun bx => ?_) | refine Nx.sa (fun A2 c2 => ?_))
          | ((with_reducible refine Nx.is_at ?_); first | refine Nx.a ?_ | ((fail_if_success refine Nx.at_do rfl rfl rfl rfl ?_); first | refine Nx.at_dec_t rfl rfl rfl rfl (by first | assumption | omega) ?_ | refine Nx.at_dec_f rfl rfl rfl rfl (by first | assumption | omega) ?_ | refine Nx.at_split rfl rfl rfl rfl (fun hc => ?_) (fun hc => ?_) | refine Nx.at_splitb rfl rfl rfl rfl (fun hc => ?_) (fun hc => ?_)))
          | ((with_reducible refine Nx.is_mix ?_); first | refine Nx.m ?_ | ((fail_if_success refine Nx.m_quiet_do rfl rfl rfl rfl rfl rfl rfl ?_ ?_); (fail_if_success refine Nx.m_loud_do rfl rfl rfl rfl rfl ?_); first | refine Nx.m_dec_t rfl rfl rfl rfl (by first | assumption | omega) ?_ | refine Nx.m_dec_f rfl rfl rfl rfl (by first | assumption | omega) ?_ | refine Nx.m_split rfl rfl rfl rfl (fun hc => ?_) (fun hc => ?_) | refine Nx.m_splitb rfl rfl rfl rfl (fun hc => ?_) (fun hc => ?_)))
          | ((fail_if_success (with_reducible refine Nx.is_at ?_)); (fail_if_success (with_reducible refine Nx.is_wp ?_)); (fail_if_success (with_reducible refine Nx.is_mix ?_)); first | refine Nx.ex ?_)
        exact Nx.ret_fn rfl [] ⟨rfl, rfl⟩ (by (exact Ent.auto))
      by_cases g2 : 2147483648 < x
      · have hE : chkE (matL v) = 2 := by rw [hE0, if_pos (hb (by omega))]
        rw [hE]
        repeat' first
          | ((with_reducible refine Nx.is_wp ?_); first | refine Nx.wo ?_ | refine Nx.p_dec rfl rfl (fun hc => ?_) (fun hc => ?_) | refine Nx.p_bool rfl rfl (fun hc => ?_) (fun hc => ?_))
          | ((first | refine Nx.at_op rfl rfl ?_ | refine Nx.m_loud rfl rfl rfl ?_ | refine Nx.at_do rfl rfl rfl rfl ?_ | refine Nx.m_loud_do rfl rfl rfl rfl rfl ?_); first | refine Nx.opr rfl rfl ?_ | refine Nx.indexAddr_nat rfl rfl rfl rfl rfl (by omega) (hr.isSome (by omega)) ?_ | (refine Nx.load rfl rfl rfl (hr.rd (k := j) (by omega)) ?_; rw [hx9]) | refine Nx.so ?_ | refine Nx.sb (fun bx => ?_) | refine Nx.sa (fun A2 c2 => ?_))
          | ((with_reducible refine Nx.is_at ?_); first | refine Nx.a ?_ | ((fail_if_success refine Nx.at_do rfl rfl rfl rfl ?_); first | refine Nx.at_dec_t rfl rfl rfl rfl (by first | assumption | omega) ?_ | refine Nx.at_dec_f rfl rfl rfl rfl (by first | assumption | omega) ?_ | refine Nx.at_split rfl rfl rfl rfl (fun hc => ?_) (fun hc => ?_) | refine Nx.at_splitb rfl rfl rfl rfl (fun hc => ?_) (fun hc => ?_)))
          | ((with_reducible refine Nx.is_mix ?_); first | refine Nx.m ?_ | ((fail_if_success refine Nx.m_quiet_do rfl rfl rfl rfl rfl rfl rfl ?_ ?_); (fail_if_success refine Nx.m_loud_do rfl rfl rfl rfl rfl ?_); first | refine Nx.m_dec_t rfl rfl rfl rfl (by first | assumption | omega) ?_ | refine Nx.m_dec_f rfl rfl rfl rfl (by first | assumption | omega) ?_ | refine Nx.m_split rfl rfl rfl rfl (fun hc => ?_) (fun hc => ?_) | refine Nx.m_splitb rfl rfl rfl rfl (fun hc => ?_) (fun hc => ?_)))
          | ((fail_if_success (with_reducible refine Nx.is_at ?_)); (fail_if_success (with_reducible refine Nx.is_wp ?_)); (fail_if_success (with_reducible refine Nx.is_mix ?_)); first | refine Nx.ex ?_)
        exact Nx.ret_fn rfl [] ⟨rfl, rfl⟩ (by (exact Ent.auto))
      · repeat' first
          | ((with_reducible refine Nx.is_wp ?_); first | refine Nx.wo ?_ | refine Nx.p_dec rfl rfl (fun hc => ?_) (fun hc => ?_) | refine Nx.p_bool rfl rfl (fun hc => ?_) (fun hc => ?_))
          | ((first | refine Nx.at_op rfl rfl ?_ | refine Nx.m_loud rfl rfl rfl ?_ | refine Nx.at_do rfl rfl rfl rfl ?_ | refine Nx.m_loud_do rfl rfl rfl rfl rfl ?_); first | refine Nx.opr rfl rfl ?_ | refine Nx.indexAddr_nat rfl rfl rfl rfl rfl (by omega) (hr.isSome (by omega)) ?_ | (refine Nx.load rfl rfl rfl (hr.rd (k := j) (by omega)) ?_; rw [hx9]) | refine Nx.so ?_ | refine Nx.sb (fun bx => ?_) | refine Nx.sa (fun A2 c2 => ?_))
          | ((with_reducible refine Nx.is_at ?_); first | refine Nx.a ?_ | ((fail_if_success refine Nx.at_do rfl rfl rfl rfl ?_); first | refine Nx.at_dec_t rfl rfl rfl rfl (by first | assumption | omega) ?_ | refine Nx.at_dec_f rfl rfl rfl rfl (by first | assumption | omega) ?_ | refine Nx.at_split rfl rfl rfl rfl (fun hc => ?_) (fun hc => ?_) | refine Nx.at_splitb rfl rfl rfl rfl (fun hc => ?_) (fun hc => ?_)))
          | ((with_reducible refine Nx.is_mix ?_); first | refine Nx.m ?_ | ((fail_if_success refine Nx.m_quiet_do rfl rfl rfl rfl rfl rfl rfl ?_ ?_); (fail_if_success refine Nx.m_loud_do rfl rfl rfl rfl rfl ?_); first | refine Nx.m_dec_t rfl rfl rfl rfl (by first | assumption | omega) ?_ | refine Nx.m_dec_f rfl rfl rfl rfl (by first | assumption | omega) ?_ | refine Nx.m_split rfl rfl rfl rfl (fun hc => ?_) (fun hc => ?_) | refine Nx.m_splitb rfl rfl rfl rfl (fun hc => ?_) (fun hc => ?_)))
          | ((fail_if_success (with_reducible refine Nx.is_at ?_)); (fail_if_success (with_reducible refine Nx.is_wp ?_)); (fail_if_success (with_reducible refine Nx.is_mix ?_)); first | refine Nx.ex ?_)
        exact Nx.again (j + 1) ⟨hjl, hnext ⟨by omega, by omega⟩⟩ (by omega) ⟨rfl, rfl, rfl, rfl, rfl, rfl, rfl, trivial⟩ (by (exact Ent.auto))
    obtain rfl : j = l.length := by omega
    rw [List.take_length] at hin
    repeat' first
      | ((with_reducible refine Nx.is_wp ?_); first | refine Nx.wo ?_ | refine Nx.p_dec rfl rfl (fun hc => ?_) (fun hc => ?_) | refine Nx.p_bool rfl rfl (fun hc => ?_) (fun hc => ?_))
      | ((first | refine Nx.at_op rfl rfl ?_ | refine Nx.m_loud rfl rfl rfl ?_ | refine Nx.at_do rfl rfl rfl rfl ?_ | refine Nx.m_loud_do rfl rfl rfl rfl rfl ?_); first | refine Nx.opr rfl rfl ?_ | refine Nx.so ?_ | refine Nx.sb (fun bx => ?_) | refine Nx.sa (fun A2 c2 => ?_))
      | ((with_reducible refine Nx.is_at ?_); first | refine Nx.a ?_ | ((fail_if_success refine Nx.at_do rfl rfl rfl rfl ?_); first | refine Nx.at_dec_t rfl rfl rfl rfl (by first | assumption | omega) ?_ | refine Nx.at_dec_f rfl rfl rfl rfl (by first | assumption | omega) ?_ | refine Nx.at_split rfl rfl rfl rfl (fun hc => ?_) (fun hc => ?_) | refine Nx.at_splitb rfl rfl rfl rfl (fun hc => ?_) (fun hc => ?_)))
      | ((with_reducible refine Nx.is_mix ?_); first | refine Nx.m ?_ | ((fail_if_success refine Nx.m_quiet_do rfl rfl rfl rfl rfl rfl rfl ?_ ?_); (fail_if_success refine Nx.m_loud_do rfl rfl rfl rfl rfl ?_); first | refine Nx.m_dec_t rfl rfl rfl rfl (by first | assumption | omega) ?_ | refine Nx.m_dec_f rfl rfl rfl rfl (by first | assumption | omega) ?_ | refine Nx.m_split rfl rfl rfl rfl (fun hc => ?_) (fun hc => ?_) | refine Nx.m_splitb rfl rfl rfl rfl (fun hc => ?_) (fun hc => ?_)))
      | ((fail_if_success (with_reducible refine Nx.is_at ?_)); (fail_if_success (with_reducible refine Nx.is_wp ?_)); (fail_if_success (with_reducible refine Nx.is_mix ?_)); first | refine Nx.ex ?_)
    exact Nx.again (k + 1) ⟨hlt, fun i hi => by
      by_cases hik : i = k
      · rw [hik, hrow]; exact hin
      · exact hgood i (by omega)⟩ (by omega) ⟨rfl, rfl, rfl, rfl, trivial⟩ (by (exact Ent.auto))
  obtain rfl : k = v.length := by omega
  rw [if_neg (by rw [rngB_t hgood]; decide)] at hE0
  have hsm : Small (matL v) := fun r hr => by
    obtain ⟨x, hx, rfl⟩ := List.mem_map.1 hr
    obtain ⟨i, hi, rfl⟩ := List.mem_iff_getElem.1 hx
    have h1 := hall i hi
    have h2 := hgood i hi
    rw [List.getD_eq_getElem?_getD, List.getElem?_eq_getElem hi] at h1 h2
    exact ⟨by have h1 : v[i].2.2.length = v.length := h1; omega, h2⟩
  have hLg := large_spec A c v I hm hsm
  by_cases hp : T120 < prodM (matL v)
  · rw [if_pos hp] at hE0
    rw [decide_eq_true hp] at hLg
    rw [hE0]
    repeat' first
      | ((with_reducible refine Nx.is_wp ?_); first | refine Nx.wo ?_ | refine Nx.p_dec rfl rfl (fun hc => ?_) (fun hc => ?_) | refine Nx.p_bool rfl rfl (fun hc => ?_) (fun hc => ?_))
      | ((first | refine Nx.at_op rfl rfl ?_ | refine Nx.m_loud rfl rfl rfl ?_ | refine Nx.at_do rfl rfl rfl rfl ?_ | refine Nx.m_loud_do rfl rfl rfl rfl rfl ?_); first | refine Nx.opr rfl rfl ?_ | refine Nx.callv rfl rfl rfl (by kernel_rfl) rfl hLg ?_ | refine Nx.so ?_ | refine Nx.sb (fun bx => ?_) | refine Nx.sa (fun A2 c2 => ?_))
      | ((with_reducible refine Nx.is_at ?_); first | refine Nx.a ?_ | ((fail_if_success refine Nx.at_do rfl rfl rfl rfl ?_); first | refine Nx.at_dec_t rfl rfl rfl rfl (by first | assumption | omega) ?_ | refine Nx.at_dec_f rfl rfl rfl rfl (by first | assumption | omega) ?_ | refine Nx.at_split rfl rfl rfl rfl (fun hc => ?_) (fun hc => ?_) | refine Nx.at_splitb rfl rfl rfl rfl (fun hc => ?_) (fun hc => ?_)))
      | ((with_reducible refine Nx.is_mix ?_); first | refine Nx.m ?_ | ((fail_if_success refine Nx.m_quiet_do rfl rfl rfl rfl rfl rfl rfl ?_ ?_); (fail_if_success refine Nx.m_loud_do rfl rfl rfl rfl rfl ?_); first | refine Nx.m_dec_t rfl rfl rfl rfl (by first | assumption | omega) ?_ | refine Nx.m_dec_f rfl rfl rfl rfl (by first | assumption | omega) ?_ | refine Nx.m_split rfl rfl rfl rfl (fun hc => ?_) (fun hc => ?_) | refine Nx.m_splitb rfl rfl rfl rfl (fun hc => ?_) (fun hc => ?_)))
      | ((fail_if_success (with_reducible refine Nx.is_at ?_)); (fail_if_success (with_reducible refine Nx.is_wp ?_)); (fail_if_success (with_reducible refine Nx.is_mix ?_)); first | refine Nx.ex ?_)
    exact Nx.ret_fn rfl [] ⟨rfl, rfl⟩ (by (exact Ent.auto))
  · rw [if_neg hp] at hE0
    rw [decide_eq_false hp] at hLg
    rw [hE0]
    repeat' first
      | ((with_reducible refine Nx.is_wp ?_); first | refine Nx.wo ?_ | refine Nx.p_dec rfl rfl (fun hc => ?_) (fun hc => ?_) | refine Nx.p_bool rfl rfl (fun hc => ?_) (fun hc => ?_))
      | ((first | refine Nx.at_op rfl rfl ?_ | refine Nx.m_loud rfl rfl rfl ?_ | refine Nx.at_do rfl rfl rfl rfl ?_ | refine Nx.m_loud_do rfl rfl rfl rfl rfl ?_); first | refine Nx.opr rfl rfl ?_ | refine Nx.callv rfl rfl rfl (by kernel_rfl) rfl hLg ?_ | refine Nx.so ?_ | refine Nx.sb (fun bx => ?_) | refine Nx.sa (fun A2 c2 => ?_))
      | ((with_reducible refine Nx.is_at ?_); first | refine Nx.a ?_ | ((fail_if_success refine Nx.at_do rfl rfl rfl rfl ?_); first | refine Nx.at_dec_t rfl rfl rfl rfl (by first | assumption | omega) ?_ | refine Nx.at_dec_f rfl rfl rfl rfl (by first | assumption | omega) ?_ | refine Nx.at_split rfl rfl rfl rfl (fun hc => ?_) (fun hc => ?_) | refine Nx.at_splitb rfl rfl rfl rfl (fun hc => ?_) (fun hc => ?_)))
      | ((with_reducible refine Nx.is_mix ?_); first | refine Nx.m ?_ | ((fail_if_success refine Nx.m_quiet_do rfl rfl rfl rfl rfl rfl rfl ?_ ?_); (fail_if_success refine Nx.m_loud_do rfl rfl rfl rfl rfl ?_); first | refine Nx.m_dec_t rfl rfl rfl rfl (by first | assumption | omega) ?_ | refine Nx.m_dec_f rfl rfl rfl rfl (by first | assumption | omega) ?_ | refine Nx.m_split rfl rfl rfl rfl (fun hc => ?_) (fun hc => ?_) | refine Nx.m_splitb rfl rfl rfl rfl (fun hc => ?_) (fun hc => ?_)))
      | ((fail_if_success (with_reducible refine Nx.is_at ?_)); (fail_if_success (with_reducible refine Nx.is_wp ?_)); (fail_if_success (with_reducible refine Nx.is_mix ?_)); first | refine Nx.ex ?_)
    exact Nx.ret_fn rfl [] ⟨rfl, rfl⟩ (by (exact Ent.auto))
end Go.Proofs.YtpdgnjoideppjaaDoor
/-
  The proof engine, part AB: what only reads, in its place; array literals; a store into an element of an owned list of structs.
-/
namespace Go.Eng
section
variable {C : Cx} {e : Env} {I : PH} {R : List Res} {K : Act → World → Prop} {Q : Exit → Act → World → Prop} {W : World} {d n c : Nat} {v : Value} {o : Oper} {P : Program} {t ty el : TypeId} {pos : String} {after : Array Edge} {g : Option (Nat × Bool)} {x y : Operand} {A : Option Addr}
/-- An operation that only reads, in its place. -/
theorem Nx.quietly (hd : o.dst = some d) (hlt : Nat.blt d C.n = true) (h : QRun C e (St C.W I R) o v) (k : Nx C ((d, v) :: e) I R K) : Nx C e I R (opK C.P o K Q) := Nx.op_run hd hlt (fun a w ha hw => by unfold QRun at h; exact h a w ha hw) k
/-- A store into a cell of an owned list. -/
theorem Wr.vecN {sz i : Nat} {xs : List Value} (hi : i < n * sz) (h1 : v.oneCell' = true) : Wr P W I (Vec t sz A n c xs :: R) ((ad A).add i) [v] (Vec t sz A n c (xs.set i v) :: R) := by
  intro w hw
  obtain ⟨⟨m, ⟨m1, m2, hd, rfl, hv, h2⟩, hsat⟩, hst⟩ := id hw
  rcases hv.2 with ⟨_, h0, _⟩ | ⟨b, cur, rfl, hb, hnc, hcm, hsz, htake⟩
  · rw [h0, Nat.zero_mul] at hi; omega
  have hb0 : w.heap[b]? = some (.cells cur t (0, 0)) := hsat.own _ _ (PH.le_or_left _ _ _ _ hb)
  have hle : n * sz ≤ c * sz := Nat.mul_le_mul_right _ hnc
  have hrun := run_store1 (P := P) hb0 (i := i) (by omega) h1
  refine ⟨w.setCell ⟨b, i, none⟩ v, ?_, hw.upd (o := .cells (cur.setIfInBounds i v) t (0, 0)) (b := b) (fun mm hm => ?_) ?_ (fun k hne o' ho => (heap_setCell_other w ⟨b, i, none⟩ k v hne).trans ho) ⟨rfl, rfl, rfl, by simp, Nat.le_refl _⟩⟩
  · rw [ad_some, Addr.add_lit, Nat.zero_add]
    unfold storeCells
    rw [Sem.run_bind, Addr.add_zero', hrun]
    rfl
  · rcases hm.2 with ⟨he, _, _⟩ | ⟨b', cur', he, hb', h1', h2', h3', h4'⟩
    · cases he
    · cases he
      refine ⟨by rw [hb']; rfl, by simpa using hm.1, .inr ⟨b, cur.setIfInBounds i v, rfl, by simp, h1', h2', by simpa using hsz, ?_⟩⟩
      rw [← htake]
      simp only [Array.toList_setIfInBounds]
      rw [List.take_set]
  · exact heap_setCell_same w b i cur t v hb0
/-- A field of an element of an owned list of structs is stored, resource number k. -/
theorem Nx.store_fld (k : Nat) {sz i j : Nat} {xs : List Value} (hx : evo e x = some (.pointer (some (((ad A).add (i * sz)).add j)))) (hy : evo e y = some v) (hc : cellsL v = [v]) (h1 : v.oneCell' = true) (hn : cellsIn C.P t = some 1) (hk : nthL R k = some (Vec el sz A n c xs)) (hi : i * sz + j < n * sz)
    (h : Nx C e I (Vec el sz A n c (xs.set (i * sz + j) v) :: R.eraseIdx k) K) : Nx C e I R (opK C.P ⟨none, .store t x y, ty, pos, after, g⟩ K Q) := by
  rw [Addr.add_add] at hx
  exact Nx.ent (Ent.pull k R _ (nthL_eq.symm.trans hk)) (Nx.store hx hy ((cellsL_eq _).trans hc) hn rfl (Wr.vecN hi h1) h)
end
end Go.Eng
/-
  The proof engine, part T: a library function that makes new memory and draws; strings.
-/
namespace Go.Eng
open Go.Sort (grow)
theorem St.grown {W w : World} {I : PH} {R : List Res} (h : St W I R w) (k : Nat) (os : Array Obj) : St W I R (grow (w.drewN k) os) := by
  obtain ⟨⟨m, hm, hs⟩, hst⟩ := h
  have hold : ∀ (i : Nat) (o : Obj), w.heap[i]? = some o → (grow (w.drewN k) os).heap[i]? = some o := fun i o hi => by
    have hlt := (Array.getElem?_eq_some_iff.1 hi).1
    show (w.heap ++ os)[i]? = some o
    rw [Array.getElem?_append_left hlt]
    exact hi
  refine ⟨⟨m, hm, ⟨fun i o hi => hold i o (hs.imm i o hi), fun i o hi => hold i o (hs.own i o hi), hs.dis⟩⟩, ⟨hst.os, hst.tape, hst.output, Nat.le_trans hst.size (Lib.size_grow w k os), Nat.le_trans hst.drawn (Nat.le_add_right _ _)⟩⟩
/-- A text, by its bytes. -/
def strV (l : List UInt8) : Value := .string ⟨l.toArray⟩
section
variable {P : Program} {t : TypeId} {x y : Operand} {a b : List UInt8}
end
end Go.Eng
/-
  The proof engine, part M: maps that are owned, as lists of keys and values.
-/
namespace Go.Eng
open Go.Instr
/-- How keys of one kind lie in a map. -/
structure KeyEnc (P : Program) (kt : TypeId) {κ : Type} [DecidableEq κ] (g : κ → Value) : Prop where
  same : ∃ kind, P.underlying kt = some kind ∧ ∀ a b, sameNow kind (g a) (g b) = some (decide (a = b))
  check : ∀ (em : Bool) (a : κ) (w : World), (checkKey em 10000 kt (g a)).run P w = .ok () w
  bits : ∀ a, sameBits 10000 (g a) (g a) = true
theorem KeyEnc.int {P : Program} {kt : TypeId} {k : IntKind} (h : P.underlying kt = some (.int k)) : KeyEnc P kt (fun x : Int => Value.int k x) := by
  refine ⟨⟨_, h, fun a b => ?_⟩, fun em a w => ?_, fun a => by simp [sameBits]⟩
  · simp only [sameNow, if_pos]
    by_cases hab : a = b <;> simp [hab]
  · unfold checkKey
    rw [Sem.run_bind, run_underlying h, Result.andThen_ok]
    rfl
section
variable {κ α : Type} [DecidableEq κ] {g : κ → Value} {f : α → Value}
end
section
variable {C : Cx} {e e' : Env} {I : PH} {R R' R0 : List Res} {K K' : Act → World → Prop} {Q : Exit → Act → World → Prop} {W : World}
variable {d : Nat} {ty t : TypeId} {pos : String} {after : Array Edge} {gd : Option (Nat × Bool)} {x y z : Operand} {dst : Option Tmp}
variable {κ α : Type}
variable [DecidableEq κ]
end
end Go.Eng
/-
  The proof engine, part X: strings: their bytes, their parts, their order; bytes made into strings and back; a string appended to bytes.
-/
namespace Go.Eng
open Go.Lib (strCells)
open Go.Instr
variable {C : Cx} {e e' : Env} {I : PH} {R R' : List Res} {K K' : Act → World → Prop} {Q : Exit → Act → World → Prop}
variable {d : Nat} {ty t u el : TypeId} {pos : String} {after : Array Edge} {g : Option (Nat × Bool)} {x y z : Operand} {v vx vy vz : Value} {A : Option Addr} {n c : Nat}
theorem Sat.drew {w : World} {I m : PH} (h : Sat w I m) : Sat w.drew I m := ⟨h.imm, h.own, h.dis⟩
/-- A row that bears the run-time's mark: it is only read. -/
def BlkZ (b : Nat) (t : TypeId) (cs : List Value) : Res := fun m => ∃ fz rest, m b = some (.cells (cs ++ rest).toArray t fz)
theorem BlkZ.sliceOf {α : Type} {f : α → Value} {b : Nat} {m I' : PH} {l : List α} {cap : Nat} (hm : PH.le m I') (h : BlkZ b t (l.map f) m) (hc : l.length ≤ cap) (hl : cap ≤ maxLen) : SliceOf f I' (some ⟨b, 0, none⟩) cap l := by
  obtain ⟨fz, rest, hb⟩ := h
  refine ⟨fun j u hj => ⟨rfl, ?_⟩, hc, hl⟩
  have hlt := (List.getElem?_eq_some_iff.1 hj).1
  rw [ad_some, Addr.add_lit, Nat.zero_add]
  simp only [cellH, hm _ _ hb, Option.isSome_none, Bool.false_eq_true, if_false]
  rw [List.getElem?_toArray, List.getElem?_append_left hlt]
  exact hj
/-! ### Tests whose outcome is known -/
section
variable {cd : Code}
end
/-! ### Strings as keys -/
theorem strV_eq {a b : List UInt8} : (ByteArray.mk a.toArray == ByteArray.mk b.toArray) = decide (a = b) := by
  rw [Bool.eq_iff_iff, MapKept.bytes_beq, decide_eq_true_eq]
  exact ⟨fun he => by have := congrArg (fun x : ByteArray => x.data.toList) he; simpa using this, fun h => by rw [h]⟩
theorem KeyEnc.str {P : Program} {kt : TypeId} (h : P.underlying kt = some .string) : KeyEnc P kt strV := by
  refine ⟨⟨_, h, fun a b => ?_⟩, fun em a w => ?_, fun a => by show (ByteArray.mk a.toArray == ByteArray.mk a.toArray) = true; rw [strV_eq]; simp⟩
  · show some (ByteArray.mk a.toArray == ByteArray.mk b.toArray) = _
    rw [strV_eq]
  · unfold Instr.checkKey
    rw [Sem.run_bind, run_underlying h, Result.andThen_ok]
    rfl
/-! ### The order of strings -/
section
variable {P : Program} {a b : List UInt8}
end
end Go.Eng
/-
  The proof engine, part AC: bundles: one of their resources taken out and put back; lists of structs, one field set.
-/
namespace Go.Eng
theorem Ent.unstars {B R : List Res} : Ent (Stars B :: R) (B ++ R) := by
  rintro m ⟨m1, m2, hd, rfl, h1, h2⟩
  obtain ⟨k, hk, hkS⟩ := Stars.join hd h1 h2
  exact ⟨k, hk, hkS⟩
theorem Ent.stars {B R : List Res} : Ent (B ++ R) (Stars B :: R) := by
  intro m hm
  obtain ⟨m1, m2, hd, rfl, h1, h2⟩ := Stars.append hm
  exact ⟨_, PH.le_refl _, m1, m2, hd, rfl, h1, h2⟩
theorem Ent.push : ∀ (k : Nat) (R : List Res) (r : Res), R[k]? = some r → Ent (r :: R.eraseIdx k) R
  | 0, r' :: R, r, h => by simp at h; subst h; exact Ent.refl _
  | k + 1, r' :: R, r, h => (Ent.swap _ _ _).trans (Ent.pick 0 rfl (Ent.push k R r (by simpa using h)))
  | k, [], r, h => by simp at h
/-- Number k of a bundle is taken out. -/
theorem Ent.takeOut (k : Nat) {B R : List Res} {r : Res} (h : B[k]? = some r) : Ent (Stars B :: R) (r :: Stars (B.eraseIdx k) :: R) := by
  have hk := (List.getElem?_eq_some_iff.1 h).1
  refine Ent.unstars.trans ((Ent.pull k (B ++ R) r (by rw [List.getElem?_append_left hk]; exact h)).trans ?_)
  rw [List.eraseIdx_append_of_lt_length hk]
  exact Ent.pick 0 rfl Ent.stars
/-- .. and another one is put in its place. -/
theorem Ent.putIn (k : Nat) {B R : List Res} {r : Res} (hk : k < B.length) : Ent (r :: Stars (B.eraseIdx k) :: R) (Stars (B.set k r) :: R) := by
  have e : (B.set k r).eraseIdx k = B.eraseIdx k := List.eraseIdx_set_eq
  have hk2 : k < (B.set k r).length := by rw [List.length_set]; exact hk
  have h1 : Ent (r :: Stars (B.eraseIdx k) :: R) (r :: (B.eraseIdx k ++ R)) := Ent.pick 0 rfl Ent.unstars
  refine h1.trans (Ent.trans ?_ Ent.stars)
  rw [← e, ← List.eraseIdx_append_of_lt_length hk2]
  exact Ent.push k _ r (by rw [List.getElem?_append_left hk2, List.getElem?_set_self hk])
section
variable {C : Cx} {e : Env} {I : PH} {R : List Res} {K : Act → World → Prop} {Q : Exit → Act → World → Prop} {S : World → Prop} {d : Nat} {dst : Option Tmp} {ty t u : TypeId} {pos : String} {after : Array Edge} {g : Option (Nat × Bool)} {x y : Operand} {a b : List UInt8}
/-- A field of what a pointer leads to. -/
theorem QRun.fld {k o : Nat} {A : Addr} (hx : evo e x = some (.pointer (some A))) (ho : fieldOff C.P t k = some o) : QRun C e S ⟨dst, .fieldAddr t x k, ty, pos, after, g⟩ (.pointer (some (A.add o))) := fun a w ha _ => by
  simp only [execOp, ha.eval hx]
  exact run_v (fieldOff_run ho A w)
end
theorem flat_len {α : Type} {f : α → List Value} {sz : Nat} (hf : ∀ x, (f x).length = sz) (l : List α) : (l.flatMap f).length = l.length * sz := by
  induction l with
  | nil => simp
  | cons x l ih => rw [List.flatMap_cons, List.length_append, ih, hf, List.length_cons, Nat.succ_mul]; omega
section
variable {α : Type} [Inhabited α] {f : α → List Value} {sz : Nat}
theorem flat_set (hf : ∀ x, (f x).length = sz) : ∀ {l : List α} {k j : Nat} {v : Value} {x' : α}, k < l.length → j < sz → f x' = (f (l.getD k default)).set j v → (l.flatMap f).set (k * sz + j) v = (l.set k x').flatMap f
  | [], k, j, v, x', h, _, _ => by simp at h
  | x :: l, 0, j, v, x', h, hj, he => by
    rw [List.flatMap_cons, List.set_cons_zero, List.flatMap_cons, Nat.zero_mul, Nat.zero_add, List.set_append_left _ _ (by rw [hf]; exact hj), he]
    rfl
  | x :: l, k + 1, j, v, x', h, hj, he => by
    rw [List.getD_cons_succ] at he
    have e : (k + 1) * sz + j - sz = k * sz + j := by rw [Nat.succ_mul]; omega
    rw [List.flatMap_cons, List.set_cons_succ, List.flatMap_cons, List.set_append_right _ _ (by rw [hf, Nat.succ_mul]; omega), hf, e, flat_set hf (by simpa using h) hj he]
/-- An element of an owned list of structs is read. -/
theorem Rds.vecN {W : World} {I : PH} {R : List Res} {t : TypeId} {A : Option Addr} {n c : Nat} {l : List α} (k : Nat) {i : Nat} (hf : ∀ x, (f x).length = sz) (hk : nthL R k = some (Vec t sz A n c (l.flatMap f))) (hi : i < l.length) : Rds W I R ((ad A).add (i * sz)) (f (l.getD i default)) := by
  intro j u hj
  have hfl := flatMap_at (f := f) (sz := sz) (fun x _ => hf x) hi
  have hjl : j < sz := by have := (List.getElem?_eq_some_iff.1 hj).1; rw [hf] at this; exact this
  rw [← hfl, List.getElem?_take, if_pos hjl, List.getElem?_drop] at hj
  rw [Addr.add_add]
  exact Rd.vecAt k hk (by rw [nthL_eq]; exact hj)
/-- A field of a given-up list of structs. -/
theorem SliceN.fld {c k : Nat} {l : List α} {I : PH} {R : List Res} {W : World} {A : Option Addr} {v : Value} (h : SliceN f sz I A c l) (hk : k < l.length) (j : Nat) (hj : nthL (f (l.getD k default)) j = some v) : Rd W I R (((ad A).add (k * sz)).add j) v :=
  h.rds hk j v (nthL_eq.symm.trans hj)
end
end Go.Eng
/-
  The proof engine, part AE: operations with one operand, in an open statement.
-/
namespace Go.Eng
section
variable {C : Cx} {e : Env} {S : World → Prop} {ty t u : TypeId} {pos : String} {after : Array Edge} {g : Option (Nat × Bool)} {x : Operand} {dst : Option Tmp}
theorem QRun.un {op : UnOp} {vx v : Value} (hx : evo e x = some vx) (hv : pureRun C.P (Op.unary op vx) = some v) : QRun C e S ⟨dst, .unOp op t x, ty, pos, after, g⟩ v :=
  fun a w ha _ => by simp only [execOp, ha.eval hx]; exact run_v (run_of_pureRun hv w)
theorem QRun.neg {p : Int} (hx : evo e x = some (.int .i64 p)) (hr : I64 (-p)) : QRun C e S ⟨dst, .unOp .neg t x, ty, pos, after, g⟩ (.int .i64 (-p)) :=
  QRun.un hx (by rw [← wrap_i64 hr, ← Int.zero_sub]; rfl)
theorem Nx.unstop {I : PH} {R : List Res} {K : Act → World → Prop} (h : Nx C e I R K) : Nx C e I R (Stop K) := h
end
end Go.Eng
/-
  The proof engine, part Y: more on strings and closures.
-/
namespace Go.Eng
theorem Blk.cell {b k : Nat} {t : TypeId} {cs : List Value} {v : Value} {m : PH} (h : Blk b t cs m) (hk : nthL cs k = some v) : cellH m ⟨b, k, none⟩ = some v := by
  rw [nthL_eq] at hk
  simp [cellH, show m b = _ from h]
  exact hk
end Go.Eng
/- Contracts of functions of the given program, and lemmas about plain lists and numbers: what the laws of this seat lean on. -/
namespace Go.Proofs.YtpdgnjoideppjaaDoor
open Go.Eng Go.Det
attribute [local irreducible] opK wpList Code.wp Exit.then Exit.inBlock fnPost bodyPost Nx Calls Oper.wp Rd Rds Wr Ent Stars Blk Again Vec FnSpec wpMix QRun Stop Upto wpAt
/-! The program's determinant: free columns -/
def entM (m : List (List Int)) : Nat → Nat → Int := fun r c => (m.getD r []).getD c 0
def detM (m : List (List Int)) : Int := minr (entM m) (List.range m.length) (List.range m.length)
def frees (tk : List Bool) (a n : Nat) : List Nat := (List.range' a n).filter fun c => !(tk.getD c false)
theorem frees_t {tk : List Bool} {k n : Nat} (hk : k < n) (h : tk.getD k false = true) : frees tk 0 (k + 1) = frees tk 0 k ∧ frees tk k (n - k) = frees tk (k + 1) (n - (k + 1)) := by
  have h' := h
  rw [List.getD_eq_getElem?_getD] at h'
  unfold frees
  constructor
  · rw [List.range'_concat, List.filter_append]; simp [h']
  · rw [show n - k = n - (k + 1) + 1 by omega, List.range'_succ, List.filter_cons]; simp [h']
theorem frees_f {tk : List Bool} {k n : Nat} (hk : k < n) (h : tk.getD k false = false) : frees tk 0 (k + 1) = frees tk 0 k ++ [k] ∧ frees tk k (n - k) = k :: frees tk (k + 1) (n - (k + 1)) := by
  have h' := h
  rw [List.getD_eq_getElem?_getD] at h'
  unfold frees
  constructor
  · rw [List.range'_concat, List.filter_append]; simp [h']
  · rw [show n - k = n - (k + 1) + 1 by omega, List.range'_succ, List.filter_cons]; simp [h']
theorem frees_set {tk : List Bool} {k n : Nat} (hk : k < n) (hl : tk.length = n) : frees (tk.set k true) 0 n = frees tk 0 k ++ frees tk (k + 1) (n - (k + 1)) := by
  have hg : ∀ c, c ≠ k → (tk.set k true).getD c false = tk.getD c false := fun c hc => by
    rw [List.getD_eq_getElem?_getD, List.getElem?_set_ne (Ne.symm hc), ← List.getD_eq_getElem?_getD]
  have hs : (tk.set k true).getD k false = true := by rw [List.getD_eq_getElem?_getD, List.getElem?_set_self (by omega)]; rfl
  unfold frees
  rw [show List.range' 0 n = List.range' 0 k ++ k :: List.range' (k + 1) (n - (k + 1)) by
    have := range_at hk
    rw [List.range_eq_range', List.range_eq_range'] at this
    rw [this, Nat.sub_sub]]
  rw [List.filter_append, List.filter_cons, hs]
  congr 1
  · refine List.filter_congr fun c hc => ?_
    have := List.mem_range'_1.1 hc
    rw [hg c (by omega)]
  · simp only [Bool.not_true, Bool.false_eq_true, if_false]
    refine List.filter_congr fun c hc => ?_
    have := List.mem_range'_1.1 hc
    rw [hg c (by omega)]
theorem bool_set_back {tk : List Bool} {k : Nat} (h : tk.getD k false = false) (hk : k < tk.length) : (tk.set k true).set k false = tk := by
  rw [List.set_set]
  have : tk[k] = false := by rw [List.getD_eq_getElem?_getD, List.getElem?_eq_getElem hk] at h; exact h
  rw [← this, List.set_getElem_self]
abbrev WT : TypeId := 58
set_option maxRecDepth 10000 in
set_option maxHeartbeats 8000000 in
theorem visit_spec (A : Option Addr) (c : Nat) (v : List Row) (I : PH) (hm : Mat I A c v) (hsm : Small (matL v)) (hsq : ∀ k, k < v.length → (v.getD k default).2.2.length = v.length)
    (bm bs bt bv : Nat) (At : Option Addr) (ct : Nat)
    (h1 : ∀ (W : World) (R : List Res), Rd W I R ⟨bm, 0, none⟩ (.slice A v.length c)) (h2 : ∀ (W : World) (R : List Res), Rd W I R ⟨bt, 0, none⟩ (.slice At v.length ct))
    (h3 : ∀ (W : World) (R : List Res), Rd W I R ⟨bv, 0, none⟩ (.func (.func 42) #[] #[.pointer (some ⟨bm, 0, none⟩), .pointer (some ⟨bs, 0, none⟩), .pointer (some ⟨bt, 0, none⟩), .pointer (some ⟨bv, 0, none⟩)])) :
    ∀ (d row : Nat), row + d = v.length → ∀ (p s : Int) (tk : List Bool), tk.length = v.length →
      FnSpec Tryd.prog 42 [.int .i64 (row : Int), wideV p, .pointer (some ⟨bm, 0, none⟩), .pointer (some ⟨bs, 0, none⟩), .pointer (some ⟨bt, 0, none⟩), .pointer (some ⟨bv, 0, none⟩)] I
        [Blk bs WT (wideL s), Vec 4 1 At v.length ct (tk.map Value.bool)]
        (fun u R' => u = .tuple #[] ∧ R' = [Blk bs WT (wideL (s + p * minr (entM (matL v)) (List.range' row d) (frees tk 0 v.length))), Vec 4 1 At v.length ct (tk.map Value.bool)])
  | 0, row, hrow, p, s, tk, htk => by
    have hlen := hm.outer.len
    obtain rfl : row = v.length := by omega
    refine FnSpec.enterP Tryd.func42 rfl Tryd.ntmps42 rfl fun w F => ?_
    repeat' first
      | ((with_reducible refine Nx.is_wp ?_); first | refine Nx.wo ?_ | refine Nx.p_dec rfl rfl (fun hc => ?_) (fun hc => ?_) | refine Nx.p_bool rfl rfl (fun hc => ?_) (fun hc => ?_))
      | ((first | refine Nx.at_op rfl rfl ?_ | refine Nx.m_loud rfl rfl rfl ?_ | refine Nx.at_do rfl rfl rfl rfl ?_ | refine Nx.m_loud_do rfl rfl rfl rfl rfl ?_); first | refine Nx.opr rfl rfl ?_ | refine Nx.load rfl rfl rfl (h1 _ _) ?_ | refine Nx.callv rfl rfl rfl (by kernel_rfl) rfl (plus_spec s p I) ?_ | refine Nx.so ?_ | refine Nx.sb (fun bx => ?_) | refine Nx.sa (fun A2 c2 => ?_))
      | ((with_reducible refine Nx.is_at ?_); first | refine Nx.a ?_ | ((fail_if_success refine Nx.at_do rfl rfl rfl rfl ?_); first | refine Nx.at_dec_t rfl rfl rfl rfl (by first | assumption | omega) ?_ | refine Nx.at_dec_f rfl rfl rfl rfl (by first | assumption | omega) ?_ | refine Nx.at_split rfl rfl rfl rfl (fun hc => ?_) (fun hc => ?_) | refine Nx.at_splitb rfl rfl rfl rfl (fun hc => ?_) (fun hc => ?_)))
      | ((with_reducible refine Nx.is_mix ?_); first | refine Nx.m ?_ | ((fail_if_success refine Nx.m_quiet_do rfl rfl rfl rfl rfl rfl rfl ?_ ?_); (fail_if_success refine Nx.m_loud_do rfl rfl rfl rfl rfl ?_); first | refine Nx.m_dec_t rfl rfl rfl rfl (by first | assumption | omega) ?_ | refine Nx.m_dec_f rfl rfl rfl rfl (by first | assumption | omega) ?_ | refine Nx.m_split rfl rfl rfl rfl (fun hc => ?_) (fun hc => ?_) | refine Nx.m_splitb rfl rfl rfl rfl (fun hc => ?_) (fun hc => ?_)))
      | ((fail_if_success (with_reducible refine Nx.is_at ?_)); (fail_if_success (with_reducible refine Nx.is_wp ?_)); (fail_if_success (with_reducible refine Nx.is_mix ?_)); first | refine Nx.ex ?_)
    exact Nx.ret_fn rfl [Blk bs WT (wideL (s + p)), Vec 4 1 At v.length ct (tk.map Value.bool)] ⟨rfl, by rw [show minr (entM (matL v)) (List.range' v.length 0) (frees tk 0 v.length) = 1 from rfl, Int.mul_one]⟩ (by (exact Ent.auto))
  | d + 1, row, hrow, p, s, tk, htk => by
    have hlen := hm.outer.len
    have hlt : row < v.length := by omega
    have hrl := hsq row hlt
    have hr := hm.rows _ (row_mem hlt)
    have hrb := (hsm.row hlt).2.1
    have hA : ∀ k, entM (matL v) row k = (v.getD row default).2.2.getD k 0 := fun k => by unfold entM; rw [matL_at hlt]
    have ih := visit_spec A c v I hm hsm hsq bm bs bt bv At ct h1 h2 h3 d (row + 1) (by omega)
    generalize hrow' : (v.getD row default) = rw' at hrl hr hrb hA
    obtain ⟨Ar, cr, l⟩ := rw'
    dsimp only at hrl hr hrb hA
    have hrv : rowV (v.getD row default) = .slice Ar v.length cr := by rw [hrow', ← hrl]; rfl
    rw [show List.range' row (d + 1) = row :: List.range' (row + 1) d from List.range'_succ, minr_cons]
    generalize hg : (fun (p : List Nat) (c : Nat) (q : List Nat) => sg p.length * (entM (matL v) row c * minr (entM (matL v)) (List.range' (row + 1) d) (p ++ q))) = g
    have hgv : ∀ p c q, g p c q = sg p.length * (l.getD c 0 * minr (entM (matL v)) (List.range' (row + 1) d) (p ++ q)) := fun p c q => by rw [← hg, ← hA]
    refine FnSpec.enterP Tryd.func42 rfl Tryd.ntmps42 rfl fun w F => ?_
    repeat' first
      | ((with_reducible refine Nx.is_wp ?_); first | refine Nx.wo ?_ | refine Nx.p_dec rfl rfl (fun hc => ?_) (fun hc => ?_) | refine Nx.p_bool rfl rfl (fun hc => ?_) (fun hc => ?_))
      | ((first | refine Nx.at_op rfl rfl ?_ | refine Nx.m_loud rfl rfl rfl ?_ | refine Nx.at_do rfl rfl rfl rfl ?_ | refine Nx.m_loud_do rfl rfl rfl rfl rfl ?_); first | refine Nx.opr rfl rfl ?_ | refine Nx.load rfl rfl rfl (h1 _ _) ?_ | refine Nx.indexAddr_nat rfl rfl rfl rfl rfl (by omega) (hm.outer.isSome (by omega)) ?_ | (refine Nx.load rfl rfl rfl (hm.outer.rd (k := row) (by omega)) ?_; rw [hrv]) | refine Nx.so ?_ | refine Nx.sb (fun bx => ?_) | refine Nx.sa (fun A2 c2 => ?_))
      | ((with_reducible refine Nx.is_at ?_); first | refine Nx.a ?_ | ((fail_if_success refine Nx.at_do rfl rfl rfl rfl ?_); first | refine Nx.at_dec_t rfl rfl rfl rfl (by first | assumption | omega) ?_ | refine Nx.at_dec_f rfl rfl rfl rfl (by first | assumption | omega) ?_ | refine Nx.at_split rfl rfl rfl rfl (fun hc => ?_) (fun hc => ?_) | refine Nx.at_splitb rfl rfl rfl rfl (fun hc => ?_) (fun hc => ?_)))
      | ((with_reducible refine Nx.is_mix ?_); first | refine Nx.m ?_ | ((fail_if_success refine Nx.m_quiet_do rfl rfl rfl rfl rfl rfl rfl ?_ ?_); (fail_if_success refine Nx.m_loud_do rfl rfl rfl rfl rfl ?_); first | refine Nx.m_dec_t rfl rfl rfl rfl (by first | assumption | omega) ?_ | refine Nx.m_dec_f rfl rfl rfl rfl (by first | assumption | omega) ?_ | refine Nx.m_split rfl rfl rfl rfl (fun hc => ?_) (fun hc => ?_) | refine Nx.m_splitb rfl rfl rfl rfl (fun hc => ?_) (fun hc => ?_)))
      | ((fail_if_success (with_reducible refine Nx.is_at ?_)); (fail_if_success (with_reducible refine Nx.is_wp ?_)); (fail_if_success (with_reducible refine Nx.is_mix ?_)); first | refine Nx.ex ?_)
    revert bx; intro b7
    refine Nx.p_loop (σ := Nat × Int × Int) (fun x => [(0, .int .i64 (row : Int)), (2, .pointer (some ⟨bm, 0, none⟩)), (3, .pointer (some ⟨bs, 0, none⟩)), (4, .pointer (some ⟨bt, 0, none⟩)), (5, .pointer (some ⟨bv, 0, none⟩)), (7, .pointer (some ⟨b7, 0, none⟩)), (20, .slice Ar v.length cr), (21, .int .i64 v.length), (22, .int .i64 (x.1 : Int))])
      (fun x => [Vec 4 1 At v.length ct (tk.map Value.bool), Blk b7 WT (wideL x.2.1), Blk bs WT (wideL x.2.2), F]) (fun x => x.1 ≤ v.length ∧ x.2.1 = sg (frees tk 0 x.1).length * p ∧ x.2.2 + p * spl g (frees tk 0 x.1) (frees tk x.1 (v.length - x.1)) = s + p * spl g [] (frees tk 0 v.length)) (fun x => v.length - x.1) (0, p, s) rfl ⟨Nat.zero_le _, by show p = 1 * p; omega, rfl⟩ ⟨rfl, rfl, rfl, rfl, rfl, rfl, rfl, rfl, rfl, trivial⟩ (by (exact Ent.auto)) ?_
    rintro ⟨k, pk, sk⟩ ⟨hk, hpk, hinv⟩
    dsimp only at hk hpk hinv ⊢
    by_cases hkl : k < v.length
    · refine Nx.vec_fact fun hv1 hv2 hv3 hA' => ?_
      have hxb := hrb (l.getD k default) (by rw [List.getD_eq_getElem?_getD, List.getElem?_eq_getElem (by omega)]; exact List.getElem_mem _)
      have hgk := fun q => hgv (frees tk 0 k) k q
      rw [show l.getD k 0 = l.getD k default from rfl] at hgk
      generalize hx9 : l.getD k default = x at hxb hgk
      cases htb : tk.getD k default with
      | true =>
        obtain ⟨e1, e2⟩ := frees_t hkl htb
        repeat' first
          | ((with_reducible refine Nx.is_wp ?_); first | refine Nx.wo ?_ | refine Nx.p_dec rfl rfl (fun hc => ?_) (fun hc => ?_) | refine Nx.p_bool rfl rfl (fun hc => ?_) (fun hc => ?_))
          | ((first | refine Nx.at_op rfl rfl ?_ | refine Nx.m_loud rfl rfl rfl ?_ | refine Nx.at_do rfl rfl rfl rfl ?_ | refine Nx.m_loud_do rfl rfl rfl rfl rfl ?_); first | refine Nx.opr rfl rfl ?_ | refine Nx.load rfl rfl rfl (h2 _ _) ?_ | refine Nx.indexAddr_nat rfl rfl rfl rfl rfl (by omega) (hr.isSome (by omega)) ?_ | (refine Nx.load rfl rfl rfl (hr.rd (k := k) (by omega)) ?_; rw [hx9]) | refine Nx.indexAddr_nat rfl rfl rfl rfl rfl (by omega) (hA' (by omega)) ?_ | (refine Nx.load rfl rfl rfl (Rd.vecEl 0 (f := Value.bool) (i := k) rfl (by omega)) ?_; rw [htb]) | refine Nx.so ?_ | refine Nx.sb (fun bx => ?_) | refine Nx.sa (fun A2 c2 => ?_))
          | ((with_reducible refine Nx.is_at ?_); first | refine Nx.a ?_ | ((fail_if_success refine Nx.at_do rfl rfl rfl rfl ?_); first | refine Nx.at_dec_t rfl rfl rfl rfl (by first | assumption | omega) ?_ | refine Nx.at_dec_f rfl rfl rfl rfl (by first | assumption | omega) ?_ | refine Nx.at_split rfl rfl rfl rfl (fun hc => ?_) (fun hc => ?_) | refine Nx.at_splitb rfl rfl rfl rfl (fun hc => ?_) (fun hc => ?_)))
          | ((with_reducible refine Nx.is_mix ?_); first | refine Nx.m ?_ | ((fail_if_success refine Nx.m_quiet_do rfl rfl rfl rfl rfl rfl rfl ?_ ?_); (fail_if_success refine Nx.m_loud_do rfl rfl rfl rfl rfl ?_); first | refine Nx.m_dec_t rfl rfl rfl rfl (by first | assumption | omega) ?_ | refine Nx.m_dec_f rfl rfl rfl rfl (by first | assumption | omega) ?_ | refine Nx.m_split rfl rfl rfl rfl (fun hc => ?_) (fun hc => ?_) | refine Nx.m_splitb rfl rfl rfl rfl (fun hc => ?_) (fun hc => ?_)))
          | ((fail_if_success (with_reducible refine Nx.is_at ?_)); (fail_if_success (with_reducible refine Nx.is_wp ?_)); (fail_if_success (with_reducible refine Nx.is_mix ?_)); first | refine Nx.ex ?_)
        exact Nx.again (k + 1, pk, sk) ⟨hkl, by dsimp only; rw [e1]; exact hpk, by dsimp only; rw [e1, ← e2]; exact hinv⟩ (by dsimp only; omega) ⟨rfl, rfl, rfl, rfl, rfl, rfl, rfl, rfl, rfl, trivial⟩ (by (exact Ent.auto))
      | false =>
        obtain ⟨e1, e2⟩ := frees_f hkl htb
        have e3 := frees_set hkl htk
        rw [e2, spl] at hinv
        have hpk2 : -pk = sg (frees tk 0 (k + 1)).length * p := by rw [e1, List.length_append, List.length_singleton, sg_succ, hpk]; grind
        by_cases x0 : x = 0
        · have hg0 : g (frees tk 0 k) k (frees tk (k + 1) (v.length - (k + 1))) = 0 := by rw [hgk, x0]; simp
          repeat' first
            | ((with_reducible refine Nx.is_wp ?_); first | refine Nx.wo ?_ | refine Nx.p_dec rfl rfl (fun hc => ?_) (fun hc => ?_) | refine Nx.p_bool rfl rfl (fun hc => ?_) (fun hc => ?_))
            | ((first | refine Nx.at_op rfl rfl ?_ | refine Nx.m_loud rfl rfl rfl ?_ | refine Nx.at_do rfl rfl rfl rfl ?_ | refine Nx.m_loud_do rfl rfl rfl rfl rfl ?_); first | refine Nx.opr rfl rfl ?_ | refine Nx.load rfl rfl rfl (h2 _ _) ?_ | refine Nx.indexAddr_nat rfl rfl rfl rfl rfl (by omega) (hr.isSome (by omega)) ?_ | (refine Nx.load rfl rfl rfl (hr.rd (k := k) (by omega)) ?_; rw [hx9]) | refine Nx.indexAddr_nat rfl rfl rfl rfl rfl (by omega) (hA' (by omega)) ?_ | (refine Nx.load rfl rfl rfl (Rd.vecEl 0 (f := Value.bool) (i := k) rfl (by omega)) ?_; rw [htb]) | refine Nx.callv rfl rfl rfl (by kernel_rfl) rfl (opposite_spec pk I) ?_ | refine Nx.so ?_ | refine Nx.sb (fun bx => ?_) | refine Nx.sa (fun A2 c2 => ?_))
            | ((with_reducible refine Nx.is_at ?_); first | refine Nx.a ?_ | ((fail_if_success refine Nx.at_do rfl rfl rfl rfl ?_); first | refine Nx.at_dec_t rfl rfl rfl rfl (by first | assumption | omega) ?_ | refine Nx.at_dec_f rfl rfl rfl rfl (by first | assumption | omega) ?_ | refine Nx.at_split rfl rfl rfl rfl (fun hc => ?_) (fun hc => ?_) | refine Nx.at_splitb rfl rfl rfl rfl (fun hc => ?_) (fun hc => ?_)))
            | ((with_reducible refine Nx.is_mix ?_); first | refine Nx.m ?_ | ((fail_if_success refine Nx.m_quiet_do rfl rfl rfl rfl rfl rfl rfl ?_ ?_); (fail_if_success refine Nx.m_loud_do rfl rfl rfl rfl rfl ?_); first | refine Nx.m_dec_t rfl rfl rfl rfl (by first | assumption | omega) ?_ | refine Nx.m_dec_f rfl rfl rfl rfl (by first | assumption | omega) ?_ | refine Nx.m_split rfl rfl rfl rfl (fun hc => ?_) (fun hc => ?_) | refine Nx.m_splitb rfl rfl rfl rfl (fun hc => ?_) (fun hc => ?_)))
            | ((fail_if_success (with_reducible refine Nx.is_at ?_)); (fail_if_success (with_reducible refine Nx.is_wp ?_)); (fail_if_success (with_reducible refine Nx.is_mix ?_)); first | refine Nx.ex ?_)
          exact Nx.again (k + 1, -pk, sk) ⟨hkl, hpk2, by dsimp only; rw [e1]; rw [hg0, Int.zero_add] at hinv; exact hinv⟩ (by dsimp only; omega) ⟨rfl, rfl, rfl, rfl, rfl, rfl, rfl, rfl, rfl, trivial⟩ (by (exact Ent.auto))
        · have ih := ih (pk * x) sk (tk.set k true) (by rw [List.length_set]; exact htk)
          rw [e3] at ih
          have hW := whole_spec x (by unfold I64; omega) I
          have hT := times_spec pk x I
          repeat' first
            | ((with_reducible refine Nx.is_wp ?_); first | refine Nx.wo ?_ | refine Nx.p_drawF (id := 9) rfl [0, 1, 2, 3, 4, 5, 6] [5, 6] [7] _ rfl rfl (by kernel_rfl) (by kernel_rfl) rfl (by repeat first | exact PanicOk.fn | refine PanicOk.then_ ?_ | refine PanicOk.inB ?_) ((Ent.eraseK 0 _).trans (Ent.eraseK 1 _)) ?_ | refine Nx.p_dec rfl rfl (fun hc => ?_) (fun hc => ?_) | refine Nx.p_bool rfl rfl (fun hc => ?_) (fun hc => ?_))
            | ((first | refine Nx.at_op rfl rfl ?_ | refine Nx.m_loud rfl rfl rfl ?_ | refine Nx.at_do rfl rfl rfl rfl ?_ | refine Nx.m_loud_do rfl rfl rfl rfl rfl ?_); first | refine Nx.opr rfl rfl ?_ | refine Nx.load rfl rfl rfl (h2 _ _) ?_ | refine Nx.indexAddr_nat rfl rfl rfl rfl rfl (by omega) (hr.isSome (by omega)) ?_ | (refine Nx.load rfl rfl rfl (hr.rd (k := k) (by omega)) ?_; rw [hx9]) | refine Nx.indexAddr_nat rfl rfl rfl rfl rfl (by omega) (hA' (by omega)) ?_ | (refine Nx.load rfl rfl rfl (Rd.vecEl 0 (f := Value.bool) (i := k) rfl (by omega)) ?_; rw [htb]) | refine Nx.store_of 0 Value.bool rfl rfl rfl rfl rfl rfl (by omega) ?_ | refine Nx.store_of 1 Value.bool rfl rfl rfl rfl rfl rfl (by omega) ?_ | refine Nx.callv rfl rfl rfl (by kernel_rfl) rfl (opposite_spec pk I) ?_ | refine Nx.callv rfl rfl rfl (by kernel_rfl) rfl hW ?_ | refine Nx.callv rfl rfl rfl (by kernel_rfl) rfl hT ?_ | (refine Nx.call rfl rfl rfl (by kernel_rfl) rfl ih (by (exact Ent.auto)) ?_; rintro _ _ ⟨rfl, rfl⟩) | refine Nx.so ?_ | refine Nx.sb (fun bx => ?_) | refine Nx.sa (fun A2 c2 => ?_))
            | ((with_reducible refine Nx.is_at ?_); first | refine Nx.a ?_ | ((fail_if_success refine Nx.at_do rfl rfl rfl rfl ?_); first | refine Nx.at_dec_t rfl rfl rfl rfl (by first | assumption | omega) ?_ | refine Nx.at_dec_f rfl rfl rfl rfl (by first | assumption | omega) ?_ | refine Nx.at_split rfl rfl rfl rfl (fun hc => ?_) (fun hc => ?_) | refine Nx.at_splitb rfl rfl rfl rfl (fun hc => ?_) (fun hc => ?_)))
            | ((with_reducible refine Nx.is_mix ?_); first | refine Nx.m_quiet rfl rfl rfl rfl rfl (by first | exact QRun.opr rfl | exact QRun.load rfl rfl (h3 _ _)) ?_ | refine Nx.m_quiet_do rfl rfl rfl rfl rfl rfl rfl (by first | exact QRun.opr rfl | exact QRun.load rfl rfl (h3 _ _)) ?_ | refine Nx.m ?_ | ((fail_if_success refine Nx.m_quiet_do rfl rfl rfl rfl rfl rfl rfl ?_ ?_); (fail_if_success refine Nx.m_loud_do rfl rfl rfl rfl rfl ?_); first | refine Nx.m_dec_t rfl rfl rfl rfl (by first | assumption | omega) ?_ | refine Nx.m_dec_f rfl rfl rfl rfl (by first | assumption | omega) ?_ | refine Nx.m_split rfl rfl rfl rfl (fun hc => ?_) (fun hc => ?_) | refine Nx.m_splitb rfl rfl rfl rfl (fun hc => ?_) (fun hc => ?_)))
            | ((fail_if_success (with_reducible refine Nx.is_at ?_)); (fail_if_success (with_reducible refine Nx.is_wp ?_)); (fail_if_success (with_reducible refine Nx.is_mix ?_)); first | refine Nx.ex ?_)
          rw [bool_set_back htb (by omega)]
          exact Nx.again (k + 1, -pk, sk + pk * x * minr (entM (matL v)) (List.range' (row + 1) d) (frees tk 0 k ++ frees tk (k + 1) (v.length - (k + 1)))) ⟨hkl, hpk2, by dsimp only; rw [e1, ← hinv, hgk, hpk]; grind⟩ (by dsimp only; omega) ⟨rfl, rfl, rfl, rfl, rfl, rfl, rfl, rfl, rfl, trivial⟩ (by (exact Ent.auto))
    · obtain rfl : k = v.length := by omega
      have e4 : frees tk v.length (v.length - v.length) = [] := by rw [Nat.sub_self]; rfl
      rw [e4] at hinv
      simp only [spl, Int.mul_zero, Int.add_zero] at hinv
      repeat' first
        | ((with_reducible refine Nx.is_wp ?_); first | refine Nx.wo ?_ | refine Nx.p_dec rfl rfl (fun hc => ?_) (fun hc => ?_) | refine Nx.p_bool rfl rfl (fun hc => ?_) (fun hc => ?_))
        | ((first | refine Nx.at_op rfl rfl ?_ | refine Nx.m_loud rfl rfl rfl ?_ | refine Nx.at_do rfl rfl rfl rfl ?_ | refine Nx.m_loud_do rfl rfl rfl rfl rfl ?_); first | refine Nx.opr rfl rfl ?_ | refine Nx.so ?_ | refine Nx.sb (fun bx => ?_) | refine Nx.sa (fun A2 c2 => ?_))
        | ((with_reducible refine Nx.is_at ?_); first | refine Nx.a ?_ | ((fail_if_success refine Nx.at_do rfl rfl rfl rfl ?_); first | refine Nx.at_dec_t rfl rfl rfl rfl (by first | assumption | omega) ?_ | refine Nx.at_dec_f rfl rfl rfl rfl (by first | assumption | omega) ?_ | refine Nx.at_split rfl rfl rfl rfl (fun hc => ?_) (fun hc => ?_) | refine Nx.at_splitb rfl rfl rfl rfl (fun hc => ?_) (fun hc => ?_)))
        | ((with_reducible refine Nx.is_mix ?_); first | refine Nx.m ?_ | ((fail_if_success refine Nx.m_quiet_do rfl rfl rfl rfl rfl rfl rfl ?_ ?_); (fail_if_success refine Nx.m_loud_do rfl rfl rfl rfl rfl ?_); first | refine Nx.m_dec_t rfl rfl rfl rfl (by first | assumption | omega) ?_ | refine Nx.m_dec_f rfl rfl rfl rfl (by first | assumption | omega) ?_ | refine Nx.m_split rfl rfl rfl rfl (fun hc => ?_) (fun hc => ?_) | refine Nx.m_splitb rfl rfl rfl rfl (fun hc => ?_) (fun hc => ?_)))
        | ((fail_if_success (with_reducible refine Nx.is_at ?_)); (fail_if_success (with_reducible refine Nx.is_wp ?_)); (fail_if_success (with_reducible refine Nx.is_mix ?_)); first | refine Nx.ex ?_)
      exact Nx.end_fn rfl [Blk bs WT (wideL sk), Vec 4 1 At v.length ct (tk.map Value.bool)] ⟨rfl, by rw [hinv]⟩ (by (exact Ent.auto))
theorem frees_all (n : Nat) : frees (List.replicate n false) 0 n = List.range n := by
  unfold frees
  rw [List.range_eq_range']
  refine List.filter_eq_self.2 fun c _ => ?_
  rw [List.getD_eq_getElem?_getD, List.getElem?_replicate]
  split <;> rfl
set_option maxRecDepth 10000 in
set_option maxHeartbeats 8000000 in
theorem det_spec (A : Option Addr) (c : Nat) (v : List Row) (I : PH) (hm : Mat I A c v) (hsm : Small (matL v)) (hsq : ∀ k, k < v.length → (v.getD k default).2.2.length = v.length) (h9 : v.length ≤ 1000) :
    FnSpec Tryd.prog 24 [.slice A v.length c] I [] (fun u R' => u = wideV (detM (matL v)) ∧ R' = []) := by
  refine FnSpec.enterP Tryd.func24 rfl Tryd.ntmps24 rfl fun w F => ?_
  repeat' first
    | ((with_reducible refine Nx.is_wp ?_); first | refine Nx.wo ?_ | refine Nx.p_dec rfl rfl (fun hc => ?_) (fun hc => ?_) | refine Nx.p_bool rfl rfl (fun hc => ?_) (fun hc => ?_))
    | ((first | refine Nx.at_op rfl rfl ?_ | refine Nx.m_loud rfl rfl rfl ?_ | refine Nx.at_do rfl rfl rfl rfl ?_ | refine Nx.m_loud_do rfl rfl rfl rfl rfl ?_); first | refine Nx.opr rfl rfl ?_ | refine Nx.makeBools rfl rfl rfl rfl rfl rfl rfl rfl (by omega) (fun bx => ?_) | refine Nx.so ?_ | refine Nx.sb (fun bx => ?_) | refine Nx.sa (fun A2 c2 => ?_))
    | ((with_reducible refine Nx.is_at ?_); first | refine Nx.a ?_ | ((fail_if_success refine Nx.at_do rfl rfl rfl rfl ?_); first | refine Nx.at_dec_t rfl rfl rfl rfl (by first | assumption | omega) ?_ | refine Nx.at_dec_f rfl rfl rfl rfl (by first | assumption | omega) ?_ | refine Nx.at_split rfl rfl rfl rfl (fun hc => ?_) (fun hc => ?_) | refine Nx.at_splitb rfl rfl rfl rfl (fun hc => ?_) (fun hc => ?_)))
    | ((with_reducible refine Nx.is_mix ?_); first | refine Nx.m ?_ | ((fail_if_success refine Nx.m_quiet_do rfl rfl rfl rfl rfl rfl rfl ?_ ?_); (fail_if_success refine Nx.m_loud_do rfl rfl rfl rfl rfl ?_); first | refine Nx.m_dec_t rfl rfl rfl rfl (by first | assumption | omega) ?_ | refine Nx.m_dec_f rfl rfl rfl rfl (by first | assumption | omega) ?_ | refine Nx.m_split rfl rfl rfl rfl (fun hc => ?_) (fun hc => ?_) | refine Nx.m_splitb rfl rfl rfl rfl (fun hc => ?_) (fun hc => ?_)))
    | ((fail_if_success (with_reducible refine Nx.is_at ?_)); (fail_if_success (with_reducible refine Nx.is_wp ?_)); (fail_if_success (with_reducible refine Nx.is_mix ?_)); first | refine Nx.ex ?_)
  revert bx; intro b5
  revert bx; intro b4
  revert bx; intro bt
  revert bx; intro b3
  revert bx; intro b2
  revert bx; intro b1
  refine Nx.freezeAt 0 rfl fun I1 m1 hI1 hm1 h1 => ?_
  refine Nx.freezeAt 0 rfl fun I2 m2 hI2 hm2 h2 => ?_
  refine Nx.freezeAt 3 rfl fun I3 m3 hI3 hm3 h3 => ?_
  have hI := (hI1.trans hI2).trans hI3
  have r5 : ∀ (W : World) (R : List Res), Rd W I3 R ⟨b5, 0, none⟩ (.func (.func 42) #[] #[.pointer (some ⟨b1, 0, none⟩), .pointer (some ⟨b3, 0, none⟩), .pointer (some ⟨b4, 0, none⟩), .pointer (some ⟨b5, 0, none⟩)]) := fun W R => Rd.imm (cellH_mono ((hm1.trans hI2).trans hI3) (Blk.cell h1 rfl))
  have r4 : ∀ (W : World) (R : List Res), Rd W I3 R ⟨b4, 0, none⟩ (.slice (some ⟨bt, 0, none⟩) v.length v.length) := fun W R => Rd.imm (cellH_mono (hm2.trans hI3) (Blk.cell h2 rfl))
  have r1 : ∀ (W : World) (R : List Res), Rd W I3 R ⟨b1, 0, none⟩ (.slice A v.length c) := fun W R => Rd.imm (cellH_mono hm3 (Blk.cell h3 rfl))
  have hV := visit_spec A c v I3 (hm.mono hI) hsm hsq b1 b3 b4 b5 (some ⟨bt, 0, none⟩) v.length r1 r4 r5 v.length 0 (by omega) 1 0 (List.replicate v.length false) (by simp)
  rw [frees_all, Int.zero_add, Int.one_mul, ← List.range_eq_range'] at hV
  have hd : minr (entM (matL v)) (List.range v.length) (List.range v.length) = detM (matL v) := by unfold detM; rw [matL_len]
  rw [hd] at hV
  have hW := whole_spec 1 (by unfold I64; decide) I3
  refine Nx.ent (R' := [Blk b3 WT (wideL 0), Vec 4 1 (some ⟨bt, 0, none⟩) v.length v.length ((List.replicate v.length false).map Value.bool), Blk b2 WT [.int .u64 0, .int .u64 0], F]) (by rw [show wideL 0 = [.int .u64 0, .int .u64 0] by unfold wideL; rw [show wH 0 = 0 by decide, show wL 0 = 0 by decide]; rfl]; (exact Ent.auto)) ?_
  repeat' first
    | ((with_reducible refine Nx.is_wp ?_); first | refine Nx.wo ?_ | refine Nx.p_drawF (id := 5) rfl [0, 1] [1] [2] _ rfl rfl (by kernel_rfl) (by kernel_rfl) rfl (by repeat first | exact PanicOk.fn | refine PanicOk.then_ ?_ | refine PanicOk.inB ?_) ((Ent.eraseK 0 _).trans (Ent.eraseK 0 _)) ?_ | refine Nx.p_dec rfl rfl (fun hc => ?_) (fun hc => ?_) | refine Nx.p_bool rfl rfl (fun hc => ?_) (fun hc => ?_))
    | ((first | refine Nx.at_op rfl rfl ?_ | refine Nx.m_loud rfl rfl rfl ?_ | refine Nx.at_do rfl rfl rfl rfl ?_ | refine Nx.m_loud_do rfl rfl rfl rfl rfl ?_); first | refine Nx.opr rfl rfl ?_ | refine Nx.callv rfl rfl rfl (by kernel_rfl) rfl hW ?_ | (refine Nx.call rfl rfl rfl (by kernel_rfl) rfl hV (by (exact Ent.auto)) ?_; rintro _ _ ⟨rfl, rfl⟩) | refine Nx.so ?_ | refine Nx.sb (fun bx => ?_) | refine Nx.sa (fun A2 c2 => ?_))
    | ((with_reducible refine Nx.is_at ?_); first | refine Nx.a ?_ | ((fail_if_success refine Nx.at_do rfl rfl rfl rfl ?_); first | refine Nx.at_dec_t rfl rfl rfl rfl (by first | assumption | omega) ?_ | refine Nx.at_dec_f rfl rfl rfl rfl (by first | assumption | omega) ?_ | refine Nx.at_split rfl rfl rfl rfl (fun hc => ?_) (fun hc => ?_) | refine Nx.at_splitb rfl rfl rfl rfl (fun hc => ?_) (fun hc => ?_)))
    | ((with_reducible refine Nx.is_mix ?_); first | refine Nx.m_quiet rfl rfl rfl rfl rfl (by first | exact QRun.opr rfl | exact QRun.load rfl rfl (r5 _ _)) ?_ | refine Nx.m_quiet_do rfl rfl rfl rfl rfl rfl rfl (by first | exact QRun.opr rfl | exact QRun.load rfl rfl (r5 _ _)) ?_ | refine Nx.m ?_ | ((fail_if_success refine Nx.m_quiet_do rfl rfl rfl rfl rfl rfl rfl ?_ ?_); (fail_if_success refine Nx.m_loud_do rfl rfl rfl rfl rfl ?_); first | refine Nx.m_dec_t rfl rfl rfl rfl (by first | assumption | omega) ?_ | refine Nx.m_dec_f rfl rfl rfl rfl (by first | assumption | omega) ?_ | refine Nx.m_split rfl rfl rfl rfl (fun hc => ?_) (fun hc => ?_) | refine Nx.m_splitb rfl rfl rfl rfl (fun hc => ?_) (fun hc => ?_)))
    | ((fail_if_success (with_reducible refine Nx.is_at ?_)); (fail_if_success (with_reducible refine Nx.is_wp ?_)); (fail_if_success (with_reducible refine Nx.is_mix ?_)); first | refine Nx.ex ?_)
  exact Nx.imm_le hI (Nx.ret_cell 0 rfl rfl rfl rfl rfl rfl [] ⟨rfl, rfl⟩ (by (exact Ent.auto)))
end Go.Proofs.YtpdgnjoideppjaaDoor
/-
  The proof engine, part O: slicing where the order is open.
-/
namespace Go.Eng
variable {C : Cx} {e : Env} {S : World → Prop} {ty t el : TypeId} {pos : String} {after : Array Edge} {g : Option (Nat × Bool)} {x y : Operand} {A : Option Addr} {n c : Nat} {dst : Option Tmp}
theorem QRun.slice_hi {k : IntKind} {h sz : Nat} (hx : evo e x = some (.slice A n c)) (hy : evo e y = some (.int k (h : Int))) (ht : C.P.underlying t = some (.slice el)) (hsz : cellsIn C.P el = some sz) (h2 : h ≤ c) :
    QRun C e S ⟨dst, .slice t x none (some y) none, ty, pos, after, g⟩ (.slice A h c) := fun a w ha _ => by
  simp only [execOp, ha.eval hx, ha.eval hy, Option.map_some, Option.map_none]
  refine run_v ?_
  have := run_slice_of (A := A) (n := n) (c := c) (lo := none) (hi := some (.int k (h : Int))) (l := 0) (h := h) ht hsz w (by simp [Instr.sliceBounds, run_sliceBound, h2])
  rw [offA_zero] at this
  exact this
end Go.Eng
/- Contracts of functions of the given program, and lemmas about plain lists and numbers: what the laws of this seat lean on. -/
namespace Go.Proofs.YtpdgnjoideppjaaDoor
open Go.Eng Go.Det
attribute [local irreducible] opK wpList Code.wp Exit.then Exit.inBlock fnPost bodyPost Nx Calls Oper.wp Rd Rds Wr Ent Stars Blk Again Vec FnSpec wpMix QRun Stop Upto wpAt
/-! The reference's determinant -/
/-- Numbers that are not negative, given up. -/
abbrev Nats (I : PH) (A : Option Addr) (c : Nat) (l : List Nat) : Prop := SliceOf (fun x : Nat => Value.int .i64 (x : Int)) I A c l
end Go.Proofs.YtpdgnjoideppjaaDoor
/- Contracts of functions of the given program, and lemmas about plain lists and numbers: what the laws of this seat lean on. -/
namespace Go.Proofs.YtpdgnjoideppjaaDoor
open Go.Eng Go.Det
attribute [local irreducible] opK wpList Code.wp Exit.then Exit.inBlock fnPost bodyPost Nx Calls Oper.wp Rd Rds Wr Ent Stars Blk Again Vec FnSpec wpMix QRun Stop Upto wpAt
abbrev natsR (A : Option Addr) (c : Nat) (l : List Nat) : Res := Vec 3 1 A l.length c (l.map fun x : Nat => Value.int .i64 (x : Int))
end Go.Proofs.YtpdgnjoideppjaaDoor
/- Contracts of functions of the given program, and lemmas about plain lists and numbers: what the laws of this seat lean on. -/
namespace Go.Proofs.YtpdgnjoideppjaaDoor
open Go.Eng Go.Det
attribute [local irreducible] opK wpList Code.wp Exit.then Exit.inBlock fnPost bodyPost Nx Calls Oper.wp Rd Rds Wr Ent Stars Blk Again Vec FnSpec wpMix QRun Stop Upto wpAt
/-! Sizes of minors -/
theorem rsum_mid (A : Nat → Nat → Int) (r c : Nat) (p q : List Nat) : rsum A r (p ++ c :: q) = (A r c).natAbs + rsum A r (p ++ q) := by
  rw [rsum_app, rsum_app, rsum]; omega
theorem rsum_sub (A : Nat → Nat → Int) (r : Nat) : ∀ (cs L : List Nat), cs.Nodup → (∀ x ∈ cs, x ∈ L) → rsum A r cs ≤ rsum A r L
  | [], _, _, _ => Nat.zero_le _
  | c :: cs, L, hn, hs => by
    obtain ⟨p, q, rfl⟩ := List.append_of_mem (hs c (by simp))
    obtain ⟨hn1, hn2⟩ := List.nodup_cons.1 hn
    have := rsum_sub A r cs (p ++ q) hn2 fun x hx => by
      have h := hs x (by simp [hx])
      simp at h ⊢
      rcases h with h | h | h
      · exact .inl h
      · exact absurd (h ▸ hx) hn1
      · exact .inr h
    rw [rsum_mid, rsum]; omega
theorem rsum_take (A : Nat → Nat → Int) (r : Nat) (l : List Int) (h : ∀ c, A r c = l.getD c 0) : ∀ k, k ≤ l.length → rsum A r (List.range k) = absS (l.take k)
  | 0, _ => by simp [rsum, absS]
  | k + 1, hk => by
    rw [List.range_succ, rsum_app, rsum_take A r l h k (by omega), absS_step (by omega), rsum, rsum, h]; omega
/-- A product of factors that are at least 1. -/
def facs (f : Nat → Nat) : List Nat → Nat
  | [] => 1
  | r :: R => f r * facs f R
theorem facs_app (f : Nat → Nat) : ∀ p q : List Nat, facs f (p ++ q) = facs f p * facs f q
  | [], q => by simp [facs]
  | x :: p, q => by simp only [List.cons_append, facs]; rw [facs_app f p q, Nat.mul_assoc]
theorem facs_pos {f : Nat → Nat} (h : ∀ r, 1 ≤ f r) : ∀ R : List Nat, 1 ≤ facs f R
  | [] => Nat.le_refl _
  | r :: R => Nat.mul_le_mul (h r) (facs_pos h R)
theorem facs_sub {f : Nat → Nat} (h : ∀ r, 1 ≤ f r) : ∀ (R L : List Nat), R.Nodup → (∀ x ∈ R, x ∈ L) → facs f R ≤ facs f L
  | [], L, _, _ => facs_pos h L
  | c :: R, L, hn, hs => by
    obtain ⟨p, q, rfl⟩ := List.append_of_mem (hs c (by simp))
    obtain ⟨hn1, hn2⟩ := List.nodup_cons.1 hn
    have := facs_sub h R (p ++ q) hn2 fun x hx => by
      have h := hs x (by simp [hx])
      simp at h ⊢
      rcases h with h | h | h
      · exact .inl h
      · exact absurd (h ▸ hx) hn1
      · exact .inr h
    rw [facs_app, facs, facs, Nat.mul_left_comm, ← facs_app]
    exact Nat.mul_le_mul (Nat.le_refl _) this
theorem facs_prod (m : List (List Int)) : ∀ k, k ≤ m.length → facs (fun r => max 1 (absS (m.getD r []))) (List.range k) = prodM (m.take k)
  | 0, _ => rfl
  | k + 1, hk => by
    rw [List.range_succ, facs_app, facs_prod m k (by omega), prodM_step (by omega), facs, facs, Nat.mul_one]
theorem rprod_facs {A : Nat → Nat → Int} {cs : List Nat} {f : Nat → Nat} : ∀ (R : List Nat), (∀ r ∈ R, rsum A r cs ≤ f r) → rprod A cs R ≤ facs f R
  | [], _ => Nat.le_refl _
  | r :: R, h => Nat.mul_le_mul (h r (by simp)) (rprod_facs R fun s hs => h s (by simp [hs]))
theorem minr_bd {m : List (List Int)} (hf : Fit m) {R cs : List Nat} (hR : R.Nodup) (hRb : ∀ r ∈ R, r < m.length) (hc : cs.Nodup) (hcb : ∀ c ∈ cs, c < m.length) : (minr (entM m) R cs).natAbs ≤ T120 := by
  refine Nat.le_trans (minr_le _ R cs) (Nat.le_trans (rprod_facs (f := fun r => max 1 (absS (m.getD r []))) R fun r hr => ?_) ?_)
  · have h1 := rsum_sub (entM m) r cs (List.range m.length) hc fun x hx => List.mem_range.2 (hcb x hx)
    have hrl : (m.getD r []).length = m.length := hf.len _ (by rw [List.getD_eq_getElem?_getD, List.getElem?_eq_getElem (hRb r hr)]; exact List.getElem_mem _)
    have h2 := rsum_take (entM m) r (m.getD r []) (fun c => rfl) m.length (by omega)
    rw [h2, ← hrl, List.take_length] at h1
    exact Nat.le_trans h1 (Nat.le_max_right _ _)
  · refine Nat.le_trans (facs_sub (fun r => Nat.le_max_left _ _) R (List.range m.length) hR fun x hx => List.mem_range.2 (hRb x hx)) ?_
    rw [facs_prod m m.length (Nat.le_refl _), List.take_length]
    exact hf.prod
theorem det_bd {m : List (List Int)} (hf : Fit m) : (detM m).natAbs ≤ T120 := minr_bd hf List.nodup_range (fun _ hr => List.mem_range.1 hr) List.nodup_range (fun _ hr => List.mem_range.1 hr)
theorem det_inw {z : Int} (h : z.natAbs ≤ T120) : InW z ∧ z.natAbs < H127 := by unfold T120 at h; unfold InW H127; omega
theorem Fit.sq {v : List Row} (h : Fit (matL v)) : ∀ k, k < v.length → (v.getD k default).2.2.length = v.length := fun k hk => by
  have := h.len (v.getD k default).2.2 (List.mem_map.2 ⟨_, row_mem hk, rfl⟩)
  rw [matL_len] at this; exact this
/-! Is the determinant 0? -/
def zeroB (m : List (List Int)) : Bool := decide (chkE m = 0 ∧ detM m = 0)
set_option maxRecDepth 10000 in
set_option maxHeartbeats 4000000 in
theorem Zero_spec (A : Option Addr) (c : Nat) (v : List Row) (I : PH) (hm : Mat I A c v) : FnSpec Tryd.prog 13 [.slice A v.length c] I [] (fun u R' => u = .bool (zeroB (matL v)) ∧ R' = []) := by
  have hC := Check_spec A c v I hm
  by_cases h0 : chkE (matL v) = 0
  · have hf := chk_ok.1 h0
    have hD := det_spec A c v I hm hf.small hf.sq (by have := hf.few; rw [matL_len] at this; omega)
    have hS := sign_spec (detM (matL v)) (det_inw (det_bd hf)).1 I
    have hz : zeroB (matL v) = decide ((detM (matL v)).sign = 0) := by
      unfold zeroB
      rw [decide_eq_decide]
      exact ⟨fun h => by rw [h.2]; rfl, fun h => ⟨h0, Int.sign_eq_zero_iff_zero.1 h⟩⟩
    rw [h0] at hC
    rw [hz]
    refine FnSpec.enterP Tryd.func13 rfl Tryd.ntmps13 rfl fun w F => ?_
    repeat' first
      | ((with_reducible refine Nx.is_wp ?_); first | refine Nx.wo ?_ | refine Nx.p_dec rfl rfl (fun hc => ?_) (fun hc => ?_) | refine Nx.p_bool rfl rfl (fun hc => ?_) (fun hc => ?_))
      | ((first | refine Nx.at_op rfl rfl ?_ | refine Nx.m_loud rfl rfl rfl ?_ | refine Nx.at_do rfl rfl rfl rfl ?_ | refine Nx.m_loud_do rfl rfl rfl rfl rfl ?_); first | refine Nx.opr rfl rfl ?_ | refine Nx.callv rfl rfl rfl (by kernel_rfl) rfl hC ?_ | refine Nx.callv rfl rfl rfl (by kernel_rfl) rfl hD ?_ | refine Nx.callv rfl rfl rfl (by kernel_rfl) rfl hS ?_ | refine Nx.so ?_ | refine Nx.sb (fun bx => ?_) | refine Nx.sa (fun A2 c2 => ?_))
      | ((with_reducible refine Nx.is_at ?_); first | refine Nx.a ?_ | ((fail_if_success refine Nx.at_do rfl rfl rfl rfl ?_); first | refine Nx.at_dec_t rfl rfl rfl rfl (by first | assumption | omega) ?_ | refine Nx.at_dec_f rfl rfl rfl rfl (by first | assumption | omega) ?_ | refine Nx.at_split rfl rfl rfl rfl (fun hc => ?_) (fun hc => ?_) | refine Nx.at_splitb rfl rfl rfl rfl (fun hc => ?_) (fun hc => ?_)))
      | ((with_reducible refine Nx.is_mix ?_); first | refine Nx.m ?_ | ((fail_if_success refine Nx.m_quiet_do rfl rfl rfl rfl rfl rfl rfl ?_ ?_); (fail_if_success refine Nx.m_loud_do rfl rfl rfl rfl rfl ?_); first | refine Nx.m_dec_t rfl rfl rfl rfl (by first | assumption | omega) ?_ | refine Nx.m_dec_f rfl rfl rfl rfl (by first | assumption | omega) ?_ | refine Nx.m_split rfl rfl rfl rfl (fun hc => ?_) (fun hc => ?_) | refine Nx.m_splitb rfl rfl rfl rfl (fun hc => ?_) (fun hc => ?_)))
      | ((fail_if_success (with_reducible refine Nx.is_at ?_)); (fail_if_success (with_reducible refine Nx.is_wp ?_)); (fail_if_success (with_reducible refine Nx.is_mix ?_)); first | refine Nx.ex ?_)
    exact Nx.ret_fn rfl [] ⟨rfl, rfl⟩ (by (exact Ent.auto))
  · have hz : zeroB (matL v) = false := decide_eq_false fun h => h0 h.1
    rw [hz]
    refine FnSpec.enterP Tryd.func13 rfl Tryd.ntmps13 rfl fun w F => ?_
    repeat' first
      | ((with_reducible refine Nx.is_wp ?_); first | refine Nx.wo ?_ | refine Nx.p_dec rfl rfl (fun hc => ?_) (fun hc => ?_) | refine Nx.p_bool rfl rfl (fun hc => ?_) (fun hc => ?_))
      | ((first | refine Nx.at_op rfl rfl ?_ | refine Nx.m_loud rfl rfl rfl ?_ | refine Nx.at_do rfl rfl rfl rfl ?_ | refine Nx.m_loud_do rfl rfl rfl rfl rfl ?_); first | refine Nx.opr rfl rfl ?_ | refine Nx.callv rfl rfl rfl (by kernel_rfl) rfl hC ?_ | refine Nx.so ?_ | refine Nx.sb (fun bx => ?_) | refine Nx.sa (fun A2 c2 => ?_))
      | ((with_reducible refine Nx.is_at ?_); first | refine Nx.a ?_ | ((fail_if_success refine Nx.at_do rfl rfl rfl rfl ?_); first | refine Nx.at_dec_t rfl rfl rfl rfl (by first | assumption | omega) ?_ | refine Nx.at_dec_f rfl rfl rfl rfl (by first | assumption | omega) ?_ | refine Nx.at_split rfl rfl rfl rfl (fun hc => ?_) (fun hc => ?_) | refine Nx.at_splitb rfl rfl rfl rfl (fun hc => ?_) (fun hc => ?_)))
      | ((with_reducible refine Nx.is_mix ?_); first | refine Nx.m ?_ | ((fail_if_success refine Nx.m_quiet_do rfl rfl rfl rfl rfl rfl rfl ?_ ?_); (fail_if_success refine Nx.m_loud_do rfl rfl rfl rfl rfl ?_); first | refine Nx.m_dec_t rfl rfl rfl rfl (by first | assumption | omega) ?_ | refine Nx.m_dec_f rfl rfl rfl rfl (by first | assumption | omega) ?_ | refine Nx.m_split rfl rfl rfl rfl (fun hc => ?_) (fun hc => ?_) | refine Nx.m_splitb rfl rfl rfl rfl (fun hc => ?_) (fun hc => ?_)))
      | ((fail_if_success (with_reducible refine Nx.is_at ?_)); (fail_if_success (with_reducible refine Nx.is_wp ?_)); (fail_if_success (with_reducible refine Nx.is_mix ?_)); first | refine Nx.ex ?_)
    exact Nx.ret_fn rfl [] ⟨by first | rfl | simp [h0], rfl⟩ (by (exact Ent.auto))
end Go.Proofs.YtpdgnjoideppjaaDoor
/- Contracts of functions of the given program, and lemmas about plain lists and numbers: what the laws of this seat lean on. -/
namespace Go.Proofs.YtpdgnjoideppjaaDoor
open Go.Eng Go.Det
attribute [local irreducible] opK wpList Code.wp Exit.then Exit.inBlock fnPost bodyPost Nx Calls Oper.wp Rd Rds Wr Ent Stars Blk Again Vec FnSpec wpMix QRun Stop Upto wpAt
/-! The ratio of two determinants -/
def ratioV (a b : List (List Int)) : Value := if chkE a ≠ 0 then .tuple #[fracV 0 0, .int .i64 (chkE a)] else if chkE b ≠ 0 then .tuple #[fracV 0 0, .int .i64 (chkE b)] else if detM b = 0 then .tuple #[fracV 0 0, .int .i64 15] else redV (Rat.divInt (detM a) (detM b))
theorem redV_form (q : Rat) : ∃ n d e : Int, redV q = .tuple #[.agg #[.int .i64 n, .int .i64 d], .int .i64 e] := ⟨_, _, _, rfl⟩
set_option maxRecDepth 10000 in
set_option maxHeartbeats 4000000 in
theorem Ratio_spec (A B : Option Addr) (ca cb : Nat) (v u : List Row) (I : PH) (hT : TabI I) (hm : Mat I A ca v) (hu : Mat I B cb u) : FnSpec Tryd.prog 16 [.slice A v.length ca, .slice B u.length cb] I [] (fun x R' => x = ratioV (matL v) (matL u) ∧ R' = []) := by
  have hC := Check_spec A ca v I hm
  have hC2 := Check_spec B cb u I hu
  by_cases h0 : chkE (matL v) = 0
  · rw [h0] at hC
    by_cases h1 : chkE (matL u) = 0
    · rw [h1] at hC2
      have hf := chk_ok.1 h0
      have hg := chk_ok.1 h1
      have hD := det_spec A ca v I hm hf.small hf.sq (by have := hf.few; rw [matL_len] at this; omega)
      have hE := det_spec B cb u I hu hg.small hg.sq (by have := hg.few; rw [matL_len] at this; omega)
      have hS := sign_spec (detM (matL u)) (det_inw (det_bd hg)).1 I
      by_cases hz : detM (matL u) = 0
      · have hV : ratioV (matL v) (matL u) = .tuple #[fracV 0 0, .int .i64 15] := by unfold ratioV; rw [if_neg (by omega), if_neg (by omega), if_pos hz]
        rw [hV]
        rw [show (detM (matL u)).sign = 0 by rw [hz]; rfl] at hS
        refine FnSpec.enterP Tryd.func16 rfl Tryd.ntmps16 rfl fun w F => ?_
        repeat' first
          | ((with_reducible refine Nx.is_wp ?_); first | refine Nx.wo ?_ | refine Nx.p_dec rfl rfl (fun hc => ?_) (fun hc => ?_) | refine Nx.p_bool rfl rfl (fun hc => ?_) (fun hc => ?_))
          | ((first | refine Nx.at_op rfl rfl ?_ | refine Nx.m_loud rfl rfl rfl ?_ | refine Nx.at_do rfl rfl rfl rfl ?_ | refine Nx.m_loud_do rfl rfl rfl rfl rfl ?_); first | refine Nx.opr rfl rfl ?_ | refine Nx.callv rfl rfl rfl (by kernel_rfl) rfl hC ?_ | refine Nx.callv rfl rfl rfl (by kernel_rfl) rfl hC2 ?_ | refine Nx.callv rfl rfl rfl (by kernel_rfl) rfl hE ?_ | refine Nx.callv rfl rfl rfl (by kernel_rfl) rfl hS ?_ | refine Nx.so ?_ | refine Nx.sb (fun bx => ?_) | refine Nx.sa (fun A2 c2 => ?_))
          | ((with_reducible refine Nx.is_at ?_); first | refine Nx.a ?_ | ((fail_if_success refine Nx.at_do rfl rfl rfl rfl ?_); first | refine Nx.at_dec_t rfl rfl rfl rfl (by first | assumption | omega) ?_ | refine Nx.at_dec_f rfl rfl rfl rfl (by first | assumption | omega) ?_ | refine Nx.at_split rfl rfl rfl rfl (fun hc => ?_) (fun hc => ?_) | refine Nx.at_splitb rfl rfl rfl rfl (fun hc => ?_) (fun hc => ?_)))
          | ((with_reducible refine Nx.is_mix ?_); first | refine Nx.m ?_ | ((fail_if_success refine Nx.m_quiet_do rfl rfl rfl rfl rfl rfl rfl ?_ ?_); (fail_if_success refine Nx.m_loud_do rfl rfl rfl rfl rfl ?_); first | refine Nx.m_dec_t rfl rfl rfl rfl (by first | assumption | omega) ?_ | refine Nx.m_dec_f rfl rfl rfl rfl (by first | assumption | omega) ?_ | refine Nx.m_split rfl rfl rfl rfl (fun hc => ?_) (fun hc => ?_) | refine Nx.m_splitb rfl rfl rfl rfl (fun hc => ?_) (fun hc => ?_)))
          | ((fail_if_success (with_reducible refine Nx.is_at ?_)); (fail_if_success (with_reducible refine Nx.is_wp ?_)); (fail_if_success (with_reducible refine Nx.is_mix ?_)); first | refine Nx.ex ?_)
        exact Nx.ret2 rfl (ROne.cell 0 rfl rfl rfl rfl rfl) (ROne.tmp rfl) [] ⟨rfl, rfl⟩ (by (exact Ent.auto))
      · have hV : ratioV (matL v) (matL u) = redV (Rat.divInt (detM (matL v)) (detM (matL u))) := by unfold ratioV; rw [if_neg (by omega), if_neg (by omega), if_neg hz]
        have hsn : (detM (matL u)).sign ≠ 0 := fun h => hz (Int.sign_eq_zero_iff_zero.1 h)
        have hR := Reduced_spec (detM (matL v)) (detM (matL u)) (det_inw (det_bd hf)).2 hz (det_inw (det_bd hg)).2 I hT
        obtain ⟨n, d, e, hr⟩ := redV_form (Rat.divInt (detM (matL v)) (detM (matL u)))
        rw [hV, hr]
        rw [hr] at hR
        refine FnSpec.enterP Tryd.func16 rfl Tryd.ntmps16 rfl fun w F => ?_
        repeat' first
          | ((with_reducible refine Nx.is_wp ?_); first | refine Nx.wo ?_ | refine Nx.p_drawF (id := 10) rfl [0, 2, 1, 3, 4, 5] [1, 3] [6, 7] _ rfl rfl (by kernel_rfl) (by kernel_rfl) rfl (by repeat first | exact PanicOk.fn | refine PanicOk.then_ ?_ | refine PanicOk.inB ?_) (Ent.refl _) ?_ | refine Nx.p_dec rfl rfl (fun hc => ?_) (fun hc => ?_) | refine Nx.p_bool rfl rfl (fun hc => ?_) (fun hc => ?_))
          | ((first | refine Nx.at_op rfl rfl ?_ | refine Nx.m_loud rfl rfl rfl ?_ | refine Nx.at_do rfl rfl rfl rfl ?_ | refine Nx.m_loud_do rfl rfl rfl rfl rfl ?_); first | refine Nx.opr rfl rfl ?_ | refine Nx.callv rfl rfl rfl (by kernel_rfl) rfl hC ?_ | refine Nx.callv rfl rfl rfl (by kernel_rfl) rfl hC2 ?_ | refine Nx.callv rfl rfl rfl (by kernel_rfl) rfl hE ?_ | refine Nx.callv rfl rfl rfl (by kernel_rfl) rfl hS ?_ | refine Nx.callv rfl rfl rfl (by kernel_rfl) rfl hD ?_ | refine Nx.callv rfl rfl rfl (by kernel_rfl) rfl hR ?_ | refine Nx.so ?_ | refine Nx.sb (fun bx => ?_) | refine Nx.sa (fun A2 c2 => ?_))
          | ((with_reducible refine Nx.is_at ?_); first | refine Nx.a ?_ | ((fail_if_success refine Nx.at_do rfl rfl rfl rfl ?_); first | refine Nx.at_dec_t rfl rfl rfl rfl (by first | assumption | omega) ?_ | refine Nx.at_dec_f rfl rfl rfl rfl (by first | assumption | omega) ?_ | refine Nx.at_split rfl rfl rfl rfl (fun hc => ?_) (fun hc => ?_) | refine Nx.at_splitb rfl rfl rfl rfl (fun hc => ?_) (fun hc => ?_)))
          | ((with_reducible refine Nx.is_mix ?_); first | refine Nx.m ?_ | ((fail_if_success refine Nx.m_quiet_do rfl rfl rfl rfl rfl rfl rfl ?_ ?_); (fail_if_success refine Nx.m_loud_do rfl rfl rfl rfl rfl ?_); first | refine Nx.m_dec_t rfl rfl rfl rfl (by first | assumption | omega) ?_ | refine Nx.m_dec_f rfl rfl rfl rfl (by first | assumption | omega) ?_ | refine Nx.m_split rfl rfl rfl rfl (fun hc => ?_) (fun hc => ?_) | refine Nx.m_splitb rfl rfl rfl rfl (fun hc => ?_) (fun hc => ?_)))
          | ((fail_if_success (with_reducible refine Nx.is_at ?_)); (fail_if_success (with_reducible refine Nx.is_wp ?_)); (fail_if_success (with_reducible refine Nx.is_mix ?_)); first | refine Nx.ex ?_)
        exact Nx.ret2 rfl (ROne.cell 0 rfl rfl rfl rfl rfl) (ROne.tmp rfl) [] ⟨rfl, rfl⟩ (by (exact Ent.auto))
    · have hV : ratioV (matL v) (matL u) = .tuple #[fracV 0 0, .int .i64 (chkE (matL u))] := by unfold ratioV; rw [if_neg (by omega), if_pos h1]
      rw [hV]
      refine FnSpec.enterP Tryd.func16 rfl Tryd.ntmps16 rfl fun w F => ?_
      repeat' first
        | ((with_reducible refine Nx.is_wp ?_); first | refine Nx.wo ?_ | refine Nx.p_dec rfl rfl (fun hc => ?_) (fun hc => ?_) | refine Nx.p_bool rfl rfl (fun hc => ?_) (fun hc => ?_))
        | ((first | refine Nx.at_op rfl rfl ?_ | refine Nx.m_loud rfl rfl rfl ?_ | refine Nx.at_do rfl rfl rfl rfl ?_ | refine Nx.m_loud_do rfl rfl rfl rfl rfl ?_); first | refine Nx.opr rfl rfl ?_ | refine Nx.callv rfl rfl rfl (by kernel_rfl) rfl hC ?_ | refine Nx.callv rfl rfl rfl (by kernel_rfl) rfl hC2 ?_ | refine Nx.so ?_ | refine Nx.sb (fun bx => ?_) | refine Nx.sa (fun A2 c2 => ?_))
        | ((with_reducible refine Nx.is_at ?_); first | refine Nx.a ?_ | ((fail_if_success refine Nx.at_do rfl rfl rfl rfl ?_); first | refine Nx.at_dec_t rfl rfl rfl rfl (by first | assumption | omega) ?_ | refine Nx.at_dec_f rfl rfl rfl rfl (by first | assumption | omega) ?_ | refine Nx.at_split rfl rfl rfl rfl (fun hc => ?_) (fun hc => ?_) | refine Nx.at_splitb rfl rfl rfl rfl (fun hc => ?_) (fun hc => ?_)))
        | ((with_reducible refine Nx.is_mix ?_); first | refine Nx.m ?_ | ((fail_if_success refine Nx.m_quiet_do rfl rfl rfl rfl rfl rfl rfl ?_ ?_); (fail_if_success refine Nx.m_loud_do rfl rfl rfl rfl rfl ?_); first | refine Nx.m_dec_t rfl rfl rfl rfl (by first | assumption | omega) ?_ | refine Nx.m_dec_f rfl rfl rfl rfl (by first | assumption | omega) ?_ | refine Nx.m_split rfl rfl rfl rfl (fun hc => ?_) (fun hc => ?_) | refine Nx.m_splitb rfl rfl rfl rfl (fun hc => ?_) (fun hc => ?_)))
        | ((fail_if_success (with_reducible refine Nx.is_at ?_)); (fail_if_success (with_reducible refine Nx.is_wp ?_)); (fail_if_success (with_reducible refine Nx.is_mix ?_)); first | refine Nx.ex ?_)
      exact Nx.ret2 rfl (ROne.cell 0 rfl rfl rfl rfl rfl) (ROne.tmp rfl) [] ⟨rfl, rfl⟩ (by (exact Ent.auto))
  · have hV : ratioV (matL v) (matL u) = .tuple #[fracV 0 0, .int .i64 (chkE (matL v))] := if_pos h0
    rw [hV]
    refine FnSpec.enterP Tryd.func16 rfl Tryd.ntmps16 rfl fun w F => ?_
    repeat' first
      | ((with_reducible refine Nx.is_wp ?_); first | refine Nx.wo ?_ | refine Nx.p_dec rfl rfl (fun hc => ?_) (fun hc => ?_) | refine Nx.p_bool rfl rfl (fun hc => ?_) (fun hc => ?_))
      | ((first | refine Nx.at_op rfl rfl ?_ | refine Nx.m_loud rfl rfl rfl ?_ | refine Nx.at_do rfl rfl rfl rfl ?_ | refine Nx.m_loud_do rfl rfl rfl rfl rfl ?_); first | refine Nx.opr rfl rfl ?_ | refine Nx.callv rfl rfl rfl (by kernel_rfl) rfl hC ?_ | refine Nx.so ?_ | refine Nx.sb (fun bx => ?_) | refine Nx.sa (fun A2 c2 => ?_))
      | ((with_reducible refine Nx.is_at ?_); first | refine Nx.a ?_ | ((fail_if_success refine Nx.at_do rfl rfl rfl rfl ?_); first | refine Nx.at_dec_t rfl rfl rfl rfl (by first | assumption | omega) ?_ | refine Nx.at_dec_f rfl rfl rfl rfl (by first | assumption | omega) ?_ | refine Nx.at_split rfl rfl rfl rfl (fun hc => ?_) (fun hc => ?_) | refine Nx.at_splitb rfl rfl rfl rfl (fun hc => ?_) (fun hc => ?_)))
      | ((with_reducible refine Nx.is_mix ?_); first | refine Nx.m ?_ | ((fail_if_success refine Nx.m_quiet_do rfl rfl rfl rfl rfl rfl rfl ?_ ?_); (fail_if_success refine Nx.m_loud_do rfl rfl rfl rfl rfl ?_); first | refine Nx.m_dec_t rfl rfl rfl rfl (by first | assumption | omega) ?_ | refine Nx.m_dec_f rfl rfl rfl rfl (by first | assumption | omega) ?_ | refine Nx.m_split rfl rfl rfl rfl (fun hc => ?_) (fun hc => ?_) | refine Nx.m_splitb rfl rfl rfl rfl (fun hc => ?_) (fun hc => ?_)))
      | ((fail_if_success (with_reducible refine Nx.is_at ?_)); (fail_if_success (with_reducible refine Nx.is_wp ?_)); (fail_if_success (with_reducible refine Nx.is_mix ?_)); first | refine Nx.ex ?_)
    exact Nx.ret2 rfl (ROne.cell 0 rfl rfl rfl rfl rfl) (ROne.tmp rfl) [] ⟨rfl, rfl⟩ (by (exact Ent.auto))
end Go.Proofs.YtpdgnjoideppjaaDoor
