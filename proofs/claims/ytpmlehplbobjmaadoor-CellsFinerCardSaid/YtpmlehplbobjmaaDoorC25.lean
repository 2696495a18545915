/- Contracts of functions of the given program, and lemmas about plain lists and numbers: what the laws of this seat lean on. -/
import Derived.Test.YtpmlehplbobjmaaDoorC24
namespace Go.Proofs.YtpmlehplbobjmaaDoor
open Go.Eng
attribute [local irreducible] opK wpList Code.wp Exit.then Exit.inBlock fnPost bodyPost Nx Calls Oper.wp Rd Rds Wr Ent Stars Blk Again Vec FnSpec wpMix QRun Stop Upto wpAt
theorem within_refl (a : List Int) : WithinP a a := ⟨fun _ _ h => h, fun _ _ _ _ h => h⟩
theorem within_trans {a b c : List Int} (hl : b.length = a.length) (h1 : WithinP a b) (h2 : WithinP b c) : WithinP a c :=
  ⟨fun k hk he => h2.1 k (by omega) (h1.1 k hk he), fun k hk j hj he => h2.2 k (by omega) j (by omega) (h1.2 k hk j hj he)⟩
theorem numb_app : ∀ (l r : List Int) (nx n : Int), numb (l ++ r) nx = some n → ∃ m, numb l nx = some m ∧ numb r m = some n
  | [], r, nx, n, h => ⟨nx, rfl, h⟩
  | g :: l, r, nx, n, h => by
    simp only [List.cons_append, numb] at h ⊢
    split at h
    · cases h
    · rename_i hg
      rw [if_neg hg]
      exact numb_app l r _ n h
theorem numb_all : ∀ (l : List Int) (nx n : Int), numb l nx = some n → ∀ v, nx ≤ v → v < n → v ∈ l
  | [], nx, n, h, v, h1, h2 => by simp [numb] at h; omega
  | g :: r, nx, n, h, v, h1, h2 => by
    simp only [numb] at h
    split at h
    · cases h
    · by_cases hv : v = g
      · rw [hv]; exact List.mem_cons_self
      · refine List.mem_cons_of_mem _ (numb_all r _ n h v ?_ h2)
        split <;> omega
theorem numb_at {l : List Int} {n : Int} (h : numb l 0 = some n) {k : Nat} (hk : k < l.length) : ∃ m, numb (l.take k) 0 = some m ∧ -1 ≤ l.getD k default ∧ l.getD k default ≤ m := by
  have e : l = l.take k ++ (l.getD k default :: l.drop (k + 1)) := by
    rw [← drop_at hk, List.take_append_drop]
  rw [e] at h
  obtain ⟨m, h1, h2⟩ := numb_app _ _ _ _ h
  refine ⟨m, h1, ?_⟩
  simp only [numb] at h2
  split at h2
  · cases h2
  · omega
theorem within_anti {a b : List Int} (hl : a.length = b.length) (ha : numbB a = true) (hb : numbB b = true) (h1 : WithinP a b) (h2 : WithinP b a) : a = b := by
  obtain ⟨na, hna⟩ : ∃ n, numb a 0 = some n := by unfold numbB at ha; cases h : numb a 0 with
    | none => rw [h] at ha; cases ha
    | some n => exact ⟨n, rfl⟩
  obtain ⟨nb, hnb⟩ : ∃ n, numb b 0 = some n := by unfold numbB at hb; cases h : numb b 0 with
    | none => rw [h] at hb; cases hb
    | some n => exact ⟨n, rfl⟩
  have key : ∀ k, k ≤ a.length → a.take k = b.take k := by
    intro k
    induction k with
    | zero => intro _; simp
    | succ k ih =>
      intro hk
      have ih := ih (by omega)
      obtain ⟨ma, e1, e2, e3⟩ := numb_at hna (k := k) (by omega)
      obtain ⟨mb, f1, f2, f3⟩ := numb_at hnb (k := k) (by omega)
      rw [ih, f1] at e1
      obtain rfl : mb = ma := Option.some.inj e1
      have he : a.getD k default = b.getD k default := by
        have old : ∀ (x y : List Int), x.length = y.length → k < x.length → numb (x.take k) 0 = some mb → x.take k = y.take k → WithinP x y → 0 ≤ x.getD k default → x.getD k default < mb → y.getD k default = x.getD k default := by
          intro x y hxy hkx hnx hxt hw h0 hlt
          have hm := numb_all _ _ _ hnx _ h0 hlt
          obtain ⟨j, hj, hje⟩ := mem_getD hm
          rw [List.length_take] at hj
          have hjx : (x.take k).getD j default = x.getD j default := by
            rw [List.getD_eq_getElem?_getD, List.getElem?_take, if_pos (by omega), List.getD_eq_getElem?_getD]
          have hjy : (y.take k).getD j default = y.getD j default := by
            rw [List.getD_eq_getElem?_getD, List.getElem?_take, if_pos (by omega), List.getD_eq_getElem?_getD]
          rw [hjx] at hje
          have h3 := hw.2 k hkx j (by omega) hje
          rw [← hjy, ← hxt, hjx, hje] at h3
          exact h3.symm
        by_cases c1 : a.getD k default = -1
        · rw [c1, h1.1 k (by omega) c1]
        · by_cases c2 : b.getD k default = -1
          · rw [c2, h2.1 k (by omega) c2]
          · by_cases c3 : a.getD k default < mb
            · exact (old a b hl (by omega) (by rw [ih]; exact f1) ih h1 (by omega) c3).symm
            · by_cases c4 : b.getD k default < mb
              · exact old b a hl.symm (by omega) f1 ih.symm h2 (by omega) c4
              · omega
      rw [List.take_succ_eq_append_getElem (by omega), List.take_succ_eq_append_getElem (by omega), ih]
      rw [List.getD_eq_getElem?_getD, List.getD_eq_getElem?_getD, List.getElem?_eq_getElem (by omega), List.getElem?_eq_getElem (by omega)] at he
      have he : a[k]'(by omega) = b[k]'(by omega) := he
      rw [he]
  have := key a.length (Nat.le_refl _)
  rw [List.take_length, hl, List.take_length] at this
  exact this
def FinerP (l : List Int) (u v : List Row) : Prop := ∀ i, i < l.length → WithinP (u.getD i default).2.2 (v.getD i default).2.2
instance (l : List Int) (u v : List Row) : Decidable (FinerP l u v) := by unfold FinerP; infer_instance
theorem Finer_spec (A B D : Option Addr) (c cu cv : Nat) (l : List Int) (u v : List Row) (I : PH) (hl : Ints I A c l) (hs : Sizes l) (hu : RowsOf I B cu u) (hv : RowsOf I D cv v) (hwu : Viewed l u) (hwv : Viewed l v) :
    FnSpec Tryd.prog 14 [.agg #[.slice A l.length c], .agg #[.slice B u.length cu], .agg #[.slice D v.length cv]] I [] (fun r R' => r = .bool (decide (FinerP l u v)) ∧ R' = []) := by
  have hd := hs.dims
  have hul := hwu.len
  have hvl := hwv.len
  refine FnSpec.enterP Tryd.func14 rfl Tryd.ntmps14 rfl fun w F => ?_
  repeat' first
    | ((with_reducible refine Nx.is_wp ?_); first | refine Nx.wo ?_ | refine Nx.p_dec rfl rfl (fun hc => ?_) (fun hc => ?_) | refine Nx.p_bool rfl rfl (fun hc => ?_) (fun hc => ?_))
    | ((first | refine Nx.at_op rfl rfl ?_ | refine Nx.m_loud rfl rfl rfl ?_ | refine Nx.at_do rfl rfl rfl rfl ?_ | refine Nx.m_loud_do rfl rfl rfl rfl rfl ?_); first | refine Nx.opr rfl rfl ?_ | refine Nx.callv rfl rfl rfl (by kernel_rfl) rfl (View_spec _ _ _ _ _ _ _ hl hs hu hwu) ?_ | refine Nx.callv rfl rfl rfl (by kernel_rfl) rfl (View_spec _ _ _ _ _ _ _ hl hs hv hwv) ?_ | refine Nx.so ?_ | refine Nx.sb (fun bx => ?_) | refine Nx.sa (fun A2 c2 => ?_))
    | ((with_reducible refine Nx.is_at ?_); first | refine Nx.a ?_ | ((fail_if_success refine Nx.at_do rfl rfl rfl rfl ?_); first | refine Nx.at_dec_t rfl rfl rfl rfl (by first | assumption | omega) ?_ | refine Nx.at_dec_f rfl rfl rfl rfl (by first | assumption | omega) ?_ | refine Nx.at_split rfl rfl rfl rfl (fun hc => ?_) (fun hc => ?_) | refine Nx.at_splitb rfl rfl rfl rfl (fun hc => ?_) (fun hc => ?_)))
    | ((with_reducible refine Nx.is_mix ?_); first | refine Nx.m ?_ | ((fail_if_success refine Nx.m_quiet_do rfl rfl rfl rfl rfl rfl rfl ?_ ?_); (fail_if_success refine Nx.m_loud_do rfl rfl rfl rfl rfl ?_); first | refine Nx.m_dec_t rfl rfl rfl rfl (by first | assumption | omega) ?_ | refine Nx.m_dec_f rfl rfl rfl rfl (by first | assumption | omega) ?_ | refine Nx.m_split rfl rfl rfl rfl (fun hc => ?_) (fun hc => ?_) | refine Nx.m_splitb rfl rfl rfl rfl (fun hc => ?_) (fun hc => ?_)))
    | ((fail_if_success (with_reducible refine Nx.is_at ?_)); (fail_if_success (with_reducible refine Nx.is_wp ?_)); (fail_if_success (with_reducible refine Nx.is_mix ?_)); first | refine Nx.ex ?_)
  revert bx; intro b5
  refine Nx.p_loop (σ := Nat) (fun i => [(5, .pointer (some ⟨b5, 0, none⟩)), (20, .slice B u.length cu), (21, .int .i64 u.length), (22, .int .i64 (i : Int))])
    (fun _ => [Blk b5 31 [.slice D v.length cv], F]) (fun i => i ≤ u.length ∧ ∀ j, j < i → WithinP (u.getD j default).2.2 (v.getD j default).2.2) (fun i => u.length - i) 0 rfl ⟨Nat.zero_le _, fun j hj => absurd hj (Nat.not_lt_zero _)⟩ ⟨rfl, rfl, rfl, rfl, trivial⟩ (by (first | done | (repeat first | exact Ent.refl _ | exact Ent.nil _ | refine Ent.pick 0 rfl ?_ | refine Ent.pick 1 rfl ?_ | refine Ent.pick 2 rfl ?_ | refine Ent.pick 3 rfl ?_ | refine Ent.pick 4 rfl ?_ | refine Ent.pick 5 rfl ?_ | refine Ent.pick 6 rfl ?_ | refine Ent.pick 7 rfl ?_ | refine Ent.pick 8 rfl ?_ | refine Ent.pick 9 rfl ?_ | refine Ent.pick 10 rfl ?_ | refine Ent.pick 11 rfl ?_ | refine Ent.pick 12 rfl ?_ | refine Ent.pick 13 rfl ?_ | refine Ent.pick 14 rfl ?_))) ?_
  rintro i ⟨hi, hall⟩
  by_cases hlt : i < u.length
  · have e1 := (hwu.each i (by omega)).1
    have e2 := (hwv.each i (by omega)).1
    repeat' first
      | ((with_reducible refine Nx.is_wp ?_); first | refine Nx.wo ?_ | refine Nx.p_dec rfl rfl (fun hc => ?_) (fun hc => ?_) | refine Nx.p_bool rfl rfl (fun hc => ?_) (fun hc => ?_))
      | ((first | refine Nx.at_op rfl rfl ?_ | refine Nx.m_loud rfl rfl rfl ?_ | refine Nx.at_do rfl rfl rfl rfl ?_ | refine Nx.m_loud_do rfl rfl rfl rfl rfl ?_); first | refine Nx.opr rfl rfl ?_ | refine Nx.indexAddr_nat rfl rfl rfl rfl rfl (by omega) (hu.outer.isSome (by omega)) ?_ | refine Nx.load rfl rfl rfl (hu.outer.rd (by omega)) ?_ | refine Nx.indexAddr_nat rfl rfl rfl rfl rfl (by omega) (hv.outer.isSome (by omega)) ?_ | refine Nx.load rfl rfl rfl (hv.outer.rd (by omega)) ?_ | refine Nx.callv rfl rfl rfl (by kernel_rfl) rfl (within_spec _ _ _ _ _ _ _ (hu.at (by omega)) (hv.at (by omega)) (by omega)) ?_ | refine Nx.so ?_ | refine Nx.sb (fun bx => ?_) | refine Nx.sa (fun A2 c2 => ?_))
      | ((with_reducible refine Nx.is_at ?_); first | refine Nx.a ?_ | ((fail_if_success refine Nx.at_do rfl rfl rfl rfl ?_); first | refine Nx.at_dec_t rfl rfl rfl rfl (by first | assumption | omega) ?_ | refine Nx.at_dec_f rfl rfl rfl rfl (by first | assumption | omega) ?_ | refine Nx.at_split rfl rfl rfl rfl (fun hc => ?_) (fun hc => ?_) | refine Nx.at_splitb rfl rfl rfl rfl (fun hc => ?_) (fun hc => ?_)))
      | ((with_reducible refine Nx.is_mix ?_); first | refine Nx.m ?_ | ((fail_if_success refine Nx.m_quiet_do rfl rfl rfl rfl rfl rfl rfl ?_ ?_); (fail_if_success refine Nx.m_loud_do rfl rfl rfl rfl rfl ?_); first | refine Nx.m_dec_t rfl rfl rfl rfl (by first | assumption | omega) ?_ | refine Nx.m_dec_f rfl rfl rfl rfl (by first | assumption | omega) ?_ | refine Nx.m_split rfl rfl rfl rfl (fun hc => ?_) (fun hc => ?_) | refine Nx.m_splitb rfl rfl rfl rfl (fun hc => ?_) (fun hc => ?_)))
      | ((fail_if_success (with_reducible refine Nx.is_at ?_)); (fail_if_success (with_reducible refine Nx.is_wp ?_)); (fail_if_success (with_reducible refine Nx.is_mix ?_)); first | refine Nx.ex ?_)
    · exact Nx.ret_fn rfl [] ⟨by rw [decide_eq_false]; intro h; rw [decide_eq_true (h i (by omega))] at hc; exact absurd hc (by decide), rfl⟩ (by (first | done | (repeat first | exact Ent.refl _ | exact Ent.nil _ | refine Ent.pick 0 rfl ?_ | refine Ent.pick 1 rfl ?_ | refine Ent.pick 2 rfl ?_ | refine Ent.pick 3 rfl ?_ | refine Ent.pick 4 rfl ?_ | refine Ent.pick 5 rfl ?_ | refine Ent.pick 6 rfl ?_ | refine Ent.pick 7 rfl ?_ | refine Ent.pick 8 rfl ?_ | refine Ent.pick 9 rfl ?_ | refine Ent.pick 10 rfl ?_ | refine Ent.pick 11 rfl ?_ | refine Ent.pick 12 rfl ?_ | refine Ent.pick 13 rfl ?_ | refine Ent.pick 14 rfl ?_)))
    · refine Nx.again (i + 1) ⟨hlt, fun j hj => ?_⟩ (by omega) ⟨rfl, rfl, rfl, rfl, trivial⟩ (by (first | done | (repeat first | exact Ent.refl _ | exact Ent.nil _ | refine Ent.pick 0 rfl ?_ | refine Ent.pick 1 rfl ?_ | refine Ent.pick 2 rfl ?_ | refine Ent.pick 3 rfl ?_ | refine Ent.pick 4 rfl ?_ | refine Ent.pick 5 rfl ?_ | refine Ent.pick 6 rfl ?_ | refine Ent.pick 7 rfl ?_ | refine Ent.pick 8 rfl ?_ | refine Ent.pick 9 rfl ?_ | refine Ent.pick 10 rfl ?_ | refine Ent.pick 11 rfl ?_ | refine Ent.pick 12 rfl ?_ | refine Ent.pick 13 rfl ?_ | refine Ent.pick 14 rfl ?_)))
      by_cases hji : j = i
      · subst hji; exact of_decide_eq_true (by simpa using hc)
      · exact hall j (by omega)
  · repeat' first
      | ((with_reducible refine Nx.is_wp ?_); first | refine Nx.wo ?_ | refine Nx.p_dec rfl rfl (fun hc => ?_) (fun hc => ?_) | refine Nx.p_bool rfl rfl (fun hc => ?_) (fun hc => ?_))
      | ((first | refine Nx.at_op rfl rfl ?_ | refine Nx.m_loud rfl rfl rfl ?_ | refine Nx.at_do rfl rfl rfl rfl ?_ | refine Nx.m_loud_do rfl rfl rfl rfl rfl ?_); first | refine Nx.opr rfl rfl ?_ | refine Nx.so ?_ | refine Nx.sb (fun bx => ?_) | refine Nx.sa (fun A2 c2 => ?_))
      | ((with_reducible refine Nx.is_at ?_); first | refine Nx.a ?_ | ((fail_if_success refine Nx.at_do rfl rfl rfl rfl ?_); first | refine Nx.at_dec_t rfl rfl rfl rfl (by first | assumption | omega) ?_ | refine Nx.at_dec_f rfl rfl rfl rfl (by first | assumption | omega) ?_ | refine Nx.at_split rfl rfl rfl rfl (fun hc => ?_) (fun hc => ?_) | refine Nx.at_splitb rfl rfl rfl rfl (fun hc => ?_) (fun hc => ?_)))
      | ((with_reducible refine Nx.is_mix ?_); first | refine Nx.m ?_ | ((fail_if_success refine Nx.m_quiet_do rfl rfl rfl rfl rfl rfl rfl ?_ ?_); (fail_if_success refine Nx.m_loud_do rfl rfl rfl rfl rfl ?_); first | refine Nx.m_dec_t rfl rfl rfl rfl (by first | assumption | omega) ?_ | refine Nx.m_dec_f rfl rfl rfl rfl (by first | assumption | omega) ?_ | refine Nx.m_split rfl rfl rfl rfl (fun hc => ?_) (fun hc => ?_) | refine Nx.m_splitb rfl rfl rfl rfl (fun hc => ?_) (fun hc => ?_)))
      | ((fail_if_success (with_reducible refine Nx.is_at ?_)); (fail_if_success (with_reducible refine Nx.is_wp ?_)); (fail_if_success (with_reducible refine Nx.is_mix ?_)); first | refine Nx.ex ?_)
    exact Nx.ret_fn rfl [] ⟨by rw [decide_eq_true]; exact fun j hj => hall j (by omega), rfl⟩ (by (first | done | (repeat first | exact Ent.refl _ | exact Ent.nil _ | refine Ent.pick 0 rfl ?_ | refine Ent.pick 1 rfl ?_ | refine Ent.pick 2 rfl ?_ | refine Ent.pick 3 rfl ?_ | refine Ent.pick 4 rfl ?_ | refine Ent.pick 5 rfl ?_ | refine Ent.pick 6 rfl ?_ | refine Ent.pick 7 rfl ?_ | refine Ent.pick 8 rfl ?_ | refine Ent.pick 9 rfl ?_ | refine Ent.pick 10 rfl ?_ | refine Ent.pick 11 rfl ?_ | refine Ent.pick 12 rfl ?_ | refine Ent.pick 13 rfl ?_ | refine Ent.pick 14 rfl ?_)))
theorem Same_spec (B D : Option Addr) (cu cv : Nat) (u v : List Row) (I : PH) (hu : RowsOf I B cu u) (hv : RowsOf I D cv v) (hl : u.length = v.length) (he : ∀ i, i < u.length → (u.getD i default).2.2 = (v.getD i default).2.2) :
    FnSpec Tryd.prog 46 [.agg #[.slice B u.length cu], .agg #[.slice D v.length cv]] I [] (fun r R' => r = .bool true ∧ R' = []) := by
  have hul := hu.outer.len
  refine FnSpec.enterP Tryd.func46 rfl Tryd.ntmps46 rfl fun w F => ?_
  repeat' first
    | ((with_reducible refine Nx.is_wp ?_); first | refine Nx.wo ?_ | refine Nx.p_dec rfl rfl (fun hc => ?_) (fun hc => ?_) | refine Nx.p_bool rfl rfl (fun hc => ?_) (fun hc => ?_))
    | ((first | refine Nx.at_op rfl rfl ?_ | refine Nx.m_loud rfl rfl rfl ?_ | refine Nx.at_do rfl rfl rfl rfl ?_ | refine Nx.m_loud_do rfl rfl rfl rfl rfl ?_); first | refine Nx.opr rfl rfl ?_ | refine Nx.so ?_ | refine Nx.sb (fun bx => ?_) | refine Nx.sa (fun A2 c2 => ?_))
    | ((with_reducible refine Nx.is_at ?_); first | refine Nx.a ?_ | ((fail_if_success refine Nx.at_do rfl rfl rfl rfl ?_); first | refine Nx.at_dec_t rfl rfl rfl rfl (by first | assumption | omega) ?_ | refine Nx.at_dec_f rfl rfl rfl rfl (by first | assumption | omega) ?_ | refine Nx.at_split rfl rfl rfl rfl (fun hc => ?_) (fun hc => ?_) | refine Nx.at_splitb rfl rfl rfl rfl (fun hc => ?_) (fun hc => ?_)))
    | ((with_reducible refine Nx.is_mix ?_); first | refine Nx.m ?_ | ((fail_if_success refine Nx.m_quiet_do rfl rfl rfl rfl rfl rfl rfl ?_ ?_); (fail_if_success refine Nx.m_loud_do rfl rfl rfl rfl rfl ?_); first | refine Nx.m_dec_t rfl rfl rfl rfl (by first | assumption | omega) ?_ | refine Nx.m_dec_f rfl rfl rfl rfl (by first | assumption | omega) ?_ | refine Nx.m_split rfl rfl rfl rfl (fun hc => ?_) (fun hc => ?_) | refine Nx.m_splitb rfl rfl rfl rfl (fun hc => ?_) (fun hc => ?_)))
    | ((fail_if_success (with_reducible refine Nx.is_at ?_)); (fail_if_success (with_reducible refine Nx.is_wp ?_)); (fail_if_success (with_reducible refine Nx.is_mix ?_)); first | refine Nx.ex ?_)
  rename_i b2
  revert bx; intro b3
  refine Nx.p_loop (σ := Nat) (fun i => [(2, .pointer (some ⟨b2, 0, none⟩)), (3, .pointer (some ⟨b3, 0, none⟩)), (15, .int .i64 u.length), (16, .int .i64 (i : Int))])
    (fun _ => [Blk b2 31 [.slice B u.length cu], Blk b3 31 [.slice D v.length cv], F]) (fun i => i ≤ u.length) (fun i => u.length - i) 0 rfl (Nat.zero_le _) ⟨rfl, rfl, rfl, rfl, trivial⟩ (by (first | done | (repeat first | exact Ent.refl _ | exact Ent.nil _ | refine Ent.pick 0 rfl ?_ | refine Ent.pick 1 rfl ?_ | refine Ent.pick 2 rfl ?_ | refine Ent.pick 3 rfl ?_ | refine Ent.pick 4 rfl ?_ | refine Ent.pick 5 rfl ?_ | refine Ent.pick 6 rfl ?_ | refine Ent.pick 7 rfl ?_ | refine Ent.pick 8 rfl ?_ | refine Ent.pick 9 rfl ?_ | refine Ent.pick 10 rfl ?_ | refine Ent.pick 11 rfl ?_ | refine Ent.pick 12 rfl ?_ | refine Ent.pick 13 rfl ?_ | refine Ent.pick 14 rfl ?_))) ?_
  intro i hi
  by_cases hlt : i < u.length
  · have he := he i hlt
    repeat' first
      | ((with_reducible refine Nx.is_wp ?_); first | refine Nx.wo ?_ | refine Nx.p_draw (id := 6) rfl [0, 1, 2, 3, 4, 5, 6, 7, 8, 9, 10, 11] [10] _ rfl rfl (by kernel_rfl) (by kernel_rfl) rfl (by repeat first | exact PanicOk.fn | refine PanicOk.then_ ?_ | refine PanicOk.inB ?_) (Ent.refl _) ?_ | refine Nx.p_dec rfl rfl (fun hc => ?_) (fun hc => ?_) | refine Nx.p_bool rfl rfl (fun hc => ?_) (fun hc => ?_))
      | ((first | refine Nx.at_op rfl rfl ?_ | refine Nx.m_loud rfl rfl rfl ?_ | refine Nx.at_do rfl rfl rfl rfl ?_ | refine Nx.m_loud_do rfl rfl rfl rfl rfl ?_); first | refine Nx.opr rfl rfl ?_ | refine Nx.callv rfl rfl rfl (by kernel_rfl) rfl (Ints_spec _ _ _ _ _ _ _ (hu.at (by omega)) (hv.at (by omega))) ?_ | refine Nx.so ?_ | refine Nx.sb (fun bx => ?_) | refine Nx.sa (fun A2 c2 => ?_))
      | ((with_reducible refine Nx.is_at ?_); first | refine Nx.a ?_ | ((fail_if_success refine Nx.at_do rfl rfl rfl rfl ?_); first | refine Nx.at_dec_t rfl rfl rfl rfl (by first | assumption | omega) ?_ | refine Nx.at_dec_f rfl rfl rfl rfl (by first | assumption | omega) ?_ | refine Nx.at_split rfl rfl rfl rfl (fun hc => ?_) (fun hc => ?_) | refine Nx.at_splitb rfl rfl rfl rfl (fun hc => ?_) (fun hc => ?_)))
      | ((with_reducible refine Nx.is_mix ?_); first | refine Nx.m_quiet rfl rfl rfl rfl rfl (by first | exact QRun.opr rfl | exact QRun.idx rfl rfl rfl rfl (by omega) (hu.outer.isSome (by omega)) | exact QRun.load rfl rfl (hu.outer.rd (by omega)) | exact QRun.idx rfl rfl rfl rfl (by omega) (hv.outer.isSome (by omega)) | exact QRun.load rfl rfl (hv.outer.rd (by omega))) ?_ | refine Nx.m_quiet_do rfl rfl rfl rfl rfl rfl rfl (by first | exact QRun.opr rfl | exact QRun.idx rfl rfl rfl rfl (by omega) (hu.outer.isSome (by omega)) | exact QRun.load rfl rfl (hu.outer.rd (by omega)) | exact QRun.idx rfl rfl rfl rfl (by omega) (hv.outer.isSome (by omega)) | exact QRun.load rfl rfl (hv.outer.rd (by omega))) ?_ | refine Nx.m ?_ | ((fail_if_success refine Nx.m_quiet_do rfl rfl rfl rfl rfl rfl rfl ?_ ?_); (fail_if_success refine Nx.m_loud_do rfl rfl rfl rfl rfl ?_); first | refine Nx.m_dec_t rfl rfl rfl rfl (by first | assumption | omega) ?_ | refine Nx.m_dec_f rfl rfl rfl rfl (by first | assumption | omega) ?_ | refine Nx.m_split rfl rfl rfl rfl (fun hc => ?_) (fun hc => ?_) | refine Nx.m_splitb rfl rfl rfl rfl (fun hc => ?_) (fun hc => ?_)))
      | ((fail_if_success (with_reducible refine Nx.is_at ?_)); (fail_if_success (with_reducible refine Nx.is_wp ?_)); (fail_if_success (with_reducible refine Nx.is_mix ?_)); first | refine Nx.ex ?_)
    · exact absurd hc (by rw [decide_eq_true he]; decide)
    · exact Nx.again (i + 1) hlt (by omega) ⟨rfl, rfl, rfl, rfl, trivial⟩ (by (first | done | (repeat first | exact Ent.refl _ | exact Ent.nil _ | refine Ent.pick 0 rfl ?_ | refine Ent.pick 1 rfl ?_ | refine Ent.pick 2 rfl ?_ | refine Ent.pick 3 rfl ?_ | refine Ent.pick 4 rfl ?_ | refine Ent.pick 5 rfl ?_ | refine Ent.pick 6 rfl ?_ | refine Ent.pick 7 rfl ?_ | refine Ent.pick 8 rfl ?_ | refine Ent.pick 9 rfl ?_ | refine Ent.pick 10 rfl ?_ | refine Ent.pick 11 rfl ?_ | refine Ent.pick 12 rfl ?_ | refine Ent.pick 13 rfl ?_ | refine Ent.pick 14 rfl ?_)))
  · repeat' first
      | ((with_reducible refine Nx.is_wp ?_); first | refine Nx.wo ?_ | refine Nx.p_dec rfl rfl (fun hc => ?_) (fun hc => ?_) | refine Nx.p_bool rfl rfl (fun hc => ?_) (fun hc => ?_))
      | ((first | refine Nx.at_op rfl rfl ?_ | refine Nx.m_loud rfl rfl rfl ?_ | refine Nx.at_do rfl rfl rfl rfl ?_ | refine Nx.m_loud_do rfl rfl rfl rfl rfl ?_); first | refine Nx.opr rfl rfl ?_ | refine Nx.so ?_ | refine Nx.sb (fun bx => ?_) | refine Nx.sa (fun A2 c2 => ?_))
      | ((with_reducible refine Nx.is_at ?_); first | refine Nx.a ?_ | ((fail_if_success refine Nx.at_do rfl rfl rfl rfl ?_); first | refine Nx.at_dec_t rfl rfl rfl rfl (by first | assumption | omega) ?_ | refine Nx.at_dec_f rfl rfl rfl rfl (by first | assumption | omega) ?_ | refine Nx.at_split rfl rfl rfl rfl (fun hc => ?_) (fun hc => ?_) | refine Nx.at_splitb rfl rfl rfl rfl (fun hc => ?_) (fun hc => ?_)))
      | ((with_reducible refine Nx.is_mix ?_); first | refine Nx.m ?_ | ((fail_if_success refine Nx.m_quiet_do rfl rfl rfl rfl rfl rfl rfl ?_ ?_); (fail_if_success refine Nx.m_loud_do rfl rfl rfl rfl rfl ?_); first | refine Nx.m_dec_t rfl rfl rfl rfl (by first | assumption | omega) ?_ | refine Nx.m_dec_f rfl rfl rfl rfl (by first | assumption | omega) ?_ | refine Nx.m_split rfl rfl rfl rfl (fun hc => ?_) (fun hc => ?_) | refine Nx.m_splitb rfl rfl rfl rfl (fun hc => ?_) (fun hc => ?_)))
      | ((fail_if_success (with_reducible refine Nx.is_at ?_)); (fail_if_success (with_reducible refine Nx.is_wp ?_)); (fail_if_success (with_reducible refine Nx.is_mix ?_)); first | refine Nx.ex ?_)
    exact Nx.ret_fn rfl [] ⟨rfl, rfl⟩ (by (first | done | (repeat first | exact Ent.refl _ | exact Ent.nil _ | refine Ent.pick 0 rfl ?_ | refine Ent.pick 1 rfl ?_ | refine Ent.pick 2 rfl ?_ | refine Ent.pick 3 rfl ?_ | refine Ent.pick 4 rfl ?_ | refine Ent.pick 5 rfl ?_ | refine Ent.pick 6 rfl ?_ | refine Ent.pick 7 rfl ?_ | refine Ent.pick 8 rfl ?_ | refine Ent.pick 9 rfl ?_ | refine Ent.pick 10 rfl ?_ | refine Ent.pick 11 rfl ?_ | refine Ent.pick 12 rfl ?_ | refine Ent.pick 13 rfl ?_ | refine Ent.pick 14 rfl ?_)))
end Go.Proofs.YtpmlehplbobjmaaDoor
