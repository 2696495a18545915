/- Contracts of functions of the given program, and lemmas about plain lists and numbers: what the laws of this seat lean on. -/
import Derived.Test.YtpmlehplbobjmaaDoorD4
import Derived.Test.YtpmlehplbobjmaaDoorEngK
namespace Go.Proofs.YtpmlehplbobjmaaDoor
open Go.Eng
attribute [local irreducible] opK wpList Code.wp Exit.then Exit.inBlock fnPost bodyPost Nx Calls Oper.wp Rd Rds Wr Ent Stars Blk Again Vec FnSpec wpMix QRun Stop Upto wpAt
theorem small_of {l : List Int} (hs : (l.length : Int) ≤ 8) (hn : numbB l = true) : Small l := fun z hz => by
  have hg := grouped_of hn
  obtain ⟨k, hk, rfl⟩ := mem_getD hz
  have := hg.each k hk
  have := hg.max
  omega
theorem Viewed.small {l : List Int} {v : List Row} (hs : Sizes l) (hw : Viewed l v) : ∀ x ∈ lsts v, Small x := fun x hx => by
  obtain ⟨r, hr, rfl⟩ := List.mem_map.1 hx
  obtain ⟨k, hk, he⟩ := List.mem_iff_getElem.1 hr
  have h1 := hw.each k (by rw [← hw.len]; exact hk)
  have h2 := hs.at (k := k) (by rw [← hw.len]; exact hk)
  have he : v.getD k default = r := by rw [List.getD_eq_getElem?_getD, List.getElem?_eq_getElem hk]; exact he
  rw [he] at h1
  exact small_of (by omega) h1.2
theorem snoc_lsts (v : List Row) (r : Row) : lsts (v ++ [r]) = lsts v ++ [r.2.2] := by simp [lsts]
theorem run_shlP {P : Program} {t : TypeId} {x y : Operand} {n p : Nat} (hn : n ≤ 4) (hp : p = 2 ^ n) : pureRun P (do eqGuard .shl t x y (.int .i64 1) (.int .i64 (n : Int)); binOp .shl t (.int .i64 1) (.int .i64 (n : Int))) = some (.int .i64 (p : Int)) := by
  rw [hp]; exact run_shl1 hn
theorem run_shrN {P : Program} {t : TypeId} {x y : Operand} {a n q : Nat} (hn : n ≤ 64) (hq : q = a / 2 ^ n) : pureRun P (do eqGuard .shr t x y (.int .i64 (a : Int)) (.int .i64 (n : Int)); binOp .shr t (.int .i64 (a : Int)) (.int .i64 (n : Int))) = some (.int .i64 (q : Int)) := by
  rw [run_shrI hn, hq, Int.natCast_ediv, Int.natCast_pow]; rfl
theorem MargIn_len {L : List (List Int)} {n : Nat} {ms : List VRow} (h : ms.map (fun m : VRow => lsts m.2.2) = margs L n) : ms.length ≤ n := by
  have := congrArg List.length h
  rw [List.length_map] at this
  have h2 := margs_len L n
  omega
set_option maxHeartbeats 4000000 in
theorem Margins_spec (A B : Option Addr) (c cv : Nat) (l : List Int) (v : List Row) (I : PH) (hl : Ints I A c l) (hs : Sizes l) (hv : RowsOf I B cv v) (hw : Viewed l v) :
    FnSpec Tryd.prog 11 [.agg #[.slice A l.length c], .agg #[.slice B v.length cv]] I []
      (fun u R' => ∃ (A' : Option Addr) (c' : Nat) (ms : List VRow), u = .tuple #[.slice A' ms.length c', .int .i64 0] ∧ ms.map (fun m : VRow => lsts m.2.2) = margs (lsts v) (2 ^ l.length - 1) ∧
        R' = [Vec 31 1 A' ms.length c' (ms.map vrowV), Stars (ms.map vrowR)]) := by
  have hlen := hl.len
  have hd := hs.dims
  have hvl := hw.len
  have hsm := hw.small hs
  have hrow : ∀ r ∈ v, r.2.2.length ≤ 1000 ∧ ∀ z ∈ r.2.2, -9 ≤ z ∧ z ≤ 9 := fun r hr => by
    obtain ⟨k, hk, he⟩ := List.mem_iff_getElem.1 hr
    have he : v.getD k default = r := by rw [List.getD_eq_getElem?_getD, List.getElem?_eq_getElem hk]; exact he
    have h1 := (hw.each k (by omega)).1
    have h2 := hs.at (k := k) (by omega)
    rw [he] at h1
    exact ⟨by omega, hsm r.2.2 (List.mem_map.2 ⟨r, hr, rfl⟩)⟩
  have KE : KeyEnc Tryd.prog 9 strV := KeyEnc.str (by kernel_rfl)
  obtain ⟨P, hPe, hP⟩ : ∃ P : Nat, P = 2 ^ v.length ∧ 2 ≤ P ∧ P ≤ 16 := by
    have : v.length = 1 ∨ v.length = 2 ∨ v.length = 3 ∨ v.length = 4 := by omega
    refine ⟨_, rfl, ?_⟩
    rcases this with h | h | h | h <;> rw [h] <;> decide
  refine FnSpec.enterP Tryd.func11 rfl Tryd.ntmps11 rfl fun w F => ?_
  repeat' first
    | ((with_reducible refine Nx.is_wp ?_); first | refine Nx.wo ?_ | refine Nx.p_dec rfl rfl (fun hc => ?_) (fun hc => ?_) | refine Nx.p_bool rfl rfl (fun hc => ?_) (fun hc => ?_))
    | ((first | refine Nx.at_op rfl rfl ?_ | refine Nx.m_loud rfl rfl rfl ?_ | refine Nx.at_do rfl rfl rfl rfl ?_ | refine Nx.m_loud_do rfl rfl rfl rfl rfl ?_); first | refine Nx.opr rfl rfl ?_ | refine Nx.callv rfl rfl rfl (by kernel_rfl) rfl (View_spec _ _ _ _ _ _ _ hl hs hv hw) ?_ | refine Nx.so ?_ | refine Nx.sb (fun bx => ?_) | refine Nx.sa (fun A2 c2 => ?_))
    | ((with_reducible refine Nx.is_at ?_); first | refine Nx.a ?_ | ((fail_if_success refine Nx.at_do rfl rfl rfl rfl ?_); first | refine Nx.at_dec_t rfl rfl rfl rfl (by first | assumption | omega) ?_ | refine Nx.at_dec_f rfl rfl rfl rfl (by first | assumption | omega) ?_ | refine Nx.at_split rfl rfl rfl rfl (fun hc => ?_) (fun hc => ?_) | refine Nx.at_splitb rfl rfl rfl rfl (fun hc => ?_) (fun hc => ?_)))
    | ((with_reducible refine Nx.is_mix ?_); first | refine Nx.m ?_ | ((fail_if_success refine Nx.m_quiet_do rfl rfl rfl rfl rfl rfl rfl ?_ ?_); (fail_if_success refine Nx.m_loud_do rfl rfl rfl rfl rfl ?_); first | refine Nx.m_dec_t rfl rfl rfl rfl (by first | assumption | omega) ?_ | refine Nx.m_dec_f rfl rfl rfl rfl (by first | assumption | omega) ?_ | refine Nx.m_split rfl rfl rfl rfl (fun hc => ?_) (fun hc => ?_) | refine Nx.m_splitb rfl rfl rfl rfl (fun hc => ?_) (fun hc => ?_)))
    | ((fail_if_success (with_reducible refine Nx.is_at ?_)); (fail_if_success (with_reducible refine Nx.is_wp ?_)); (fail_if_success (with_reducible refine Nx.is_mix ?_)); first | refine Nx.ex ?_)
  refine Nx.at_op rfl rfl ?_
  refine Nx.makeMap strV Value.bool rfl (fun bm => ?_)
  repeat' first
    | ((with_reducible refine Nx.is_wp ?_); first | refine Nx.wo ?_ | refine Nx.p_dec rfl rfl (fun hc => ?_) (fun hc => ?_) | refine Nx.p_bool rfl rfl (fun hc => ?_) (fun hc => ?_))
    | ((first | refine Nx.at_op rfl rfl ?_ | refine Nx.m_loud rfl rfl rfl ?_ | refine Nx.at_do rfl rfl rfl rfl ?_ | refine Nx.m_loud_do rfl rfl rfl rfl rfl ?_); first | refine Nx.opr rfl rfl ?_ | refine Nx.callv rfl rfl rfl (by kernel_rfl) rfl (text_spec B cv v I hv (by omega) hrow) ?_ | refine Nx.so ?_ | refine Nx.sb (fun bx => ?_) | refine Nx.sa (fun A2 c2 => ?_))
    | ((with_reducible refine Nx.is_at ?_); first | refine Nx.a ?_ | ((fail_if_success refine Nx.at_do rfl rfl rfl rfl ?_); first | refine Nx.at_dec_t rfl rfl rfl rfl (by first | assumption | omega) ?_ | refine Nx.at_dec_f rfl rfl rfl rfl (by first | assumption | omega) ?_ | refine Nx.at_split rfl rfl rfl rfl (fun hc => ?_) (fun hc => ?_) | refine Nx.at_splitb rfl rfl rfl rfl (fun hc => ?_) (fun hc => ?_)))
    | ((with_reducible refine Nx.is_mix ?_); first | refine Nx.m ?_ | ((fail_if_success refine Nx.m_quiet_do rfl rfl rfl rfl rfl rfl rfl ?_ ?_); (fail_if_success refine Nx.m_loud_do rfl rfl rfl rfl rfl ?_); first | refine Nx.m_dec_t rfl rfl rfl rfl (by first | assumption | omega) ?_ | refine Nx.m_dec_f rfl rfl rfl rfl (by first | assumption | omega) ?_ | refine Nx.m_split rfl rfl rfl rfl (fun hc => ?_) (fun hc => ?_) | refine Nx.m_splitb rfl rfl rfl rfl (fun hc => ?_) (fun hc => ?_)))
    | ((fail_if_success (with_reducible refine Nx.is_at ?_)); (fail_if_success (with_reducible refine Nx.is_wp ?_)); (fail_if_success (with_reducible refine Nx.is_mix ?_)); first | refine Nx.ex ?_)
  refine Nx.at_op rfl rfl ?_
  refine Nx.mapSet 0 strV Value.bool (k := viewT v) (v := true) (.inl rfl) rfl rfl rfl KE rfl rfl ?_
  repeat' first
    | ((with_reducible refine Nx.is_wp ?_); first | refine Nx.wo ?_ | refine Nx.p_dec rfl rfl (fun hc => ?_) (fun hc => ?_) | refine Nx.p_bool rfl rfl (fun hc => ?_) (fun hc => ?_))
    | ((first | refine Nx.at_op rfl rfl ?_ | refine Nx.m_loud rfl rfl rfl ?_ | refine Nx.at_do rfl rfl rfl rfl ?_ | refine Nx.m_loud_do rfl rfl rfl rfl rfl ?_); first | refine Nx.opr rfl rfl ?_ | refine Nx.so ?_ | refine Nx.sb (fun bx => ?_) | refine Nx.sa (fun A2 c2 => ?_))
    | ((with_reducible refine Nx.is_at ?_); first | refine Nx.a ?_ | ((fail_if_success refine Nx.at_do rfl rfl rfl rfl ?_); first | refine Nx.at_dec_t rfl rfl rfl rfl (by first | assumption | omega) ?_ | refine Nx.at_dec_f rfl rfl rfl rfl (by first | assumption | omega) ?_ | refine Nx.at_split rfl rfl rfl rfl (fun hc => ?_) (fun hc => ?_) | refine Nx.at_splitb rfl rfl rfl rfl (fun hc => ?_) (fun hc => ?_)))
    | ((with_reducible refine Nx.is_mix ?_); first | refine Nx.m ?_ | ((fail_if_success refine Nx.m_quiet_do rfl rfl rfl rfl rfl rfl rfl ?_ ?_); (fail_if_success refine Nx.m_loud_do rfl rfl rfl rfl rfl ?_); first | refine Nx.m_dec_t rfl rfl rfl rfl (by first | assumption | omega) ?_ | refine Nx.m_dec_f rfl rfl rfl rfl (by first | assumption | omega) ?_ | refine Nx.m_split rfl rfl rfl rfl (fun hc => ?_) (fun hc => ?_) | refine Nx.m_splitb rfl rfl rfl rfl (fun hc => ?_) (fun hc => ?_)))
    | ((fail_if_success (with_reducible refine Nx.is_at ?_)); (fail_if_success (with_reducible refine Nx.is_wp ?_)); (fail_if_success (with_reducible refine Nx.is_mix ?_)); first | refine Nx.ex ?_)
  revert bx; intro bv
  refine Nx.p_loop (σ := Nat × Option Addr × Nat × List VRow × List (List UInt8 × Bool)) (fun s => [(3, .pointer (some ⟨bv, 0, none⟩)), (7, .map (some bm)), (8, .slice s.2.1 s.2.2.2.1.length s.2.2.1), (9, .int .i64 ((s.1 + 1 : Nat) : Int))])
    (fun s => [MapR strV Value.bool bm s.2.2.2.2, Vec 31 1 s.2.1 s.2.2.2.1.length s.2.2.1 (s.2.2.2.1.map vrowV), Stars (s.2.2.2.1.map vrowR), Blk bv 31 [.slice B v.length cv], F])
    (fun s => s.1 + 1 ≤ P ∧ s.2.2.2.1.map (fun m : VRow => lsts m.2.2) = margs (lsts v) s.1 ∧ SeenT (lsts v) s.1 s.2.2.2.2) (fun s => P - s.1) (0, none, 0, [], mset [] (viewT v) true) rfl
    ⟨by omega, rfl, by rw [viewT_lsts]; exact SeenT.start hsm⟩ ⟨rfl, rfl, rfl, rfl, trivial⟩ (((Ent.vec_nil _ _ _).trans (Ent.stars_nil _)).trans (by (first | done | (repeat first | exact Ent.refl _ | exact Ent.nil _ | refine Ent.pick 0 rfl ?_ | refine Ent.pick 1 rfl ?_ | refine Ent.pick 2 rfl ?_ | refine Ent.pick 3 rfl ?_ | refine Ent.pick 4 rfl ?_ | refine Ent.pick 5 rfl ?_ | refine Ent.pick 6 rfl ?_ | refine Ent.pick 7 rfl ?_ | refine Ent.pick 8 rfl ?_ | refine Ent.pick 9 rfl ?_ | refine Ent.pick 10 rfl ?_ | refine Ent.pick 11 rfl ?_ | refine Ent.pick 12 rfl ?_ | refine Ent.pick 13 rfl ?_ | refine Ent.pick 14 rfl ?_)))) ?_
  rintro ⟨n, As, cs, ms, sl⟩ ⟨hn, hms, hsl⟩
  dsimp only at hn hms hsl ⊢
  have hmsl := MargIn_len hms
  by_cases hlt : n + 1 < P
  · repeat' first
      | ((with_reducible refine Nx.is_wp ?_); first | refine Nx.wo ?_ | refine Nx.p_dec rfl rfl (fun hc => ?_) (fun hc => ?_) | refine Nx.p_bool rfl rfl (fun hc => ?_) (fun hc => ?_))
      | ((first | refine Nx.at_op rfl rfl ?_ | refine Nx.m_loud rfl rfl rfl ?_ | refine Nx.at_do rfl rfl rfl rfl ?_ | refine Nx.m_loud_do rfl rfl rfl rfl rfl ?_); first | refine Nx.opr rfl rfl ?_ | refine Nx.bin rfl rfl (run_shlP (by omega) hPe) rfl ?_ | refine Nx.so ?_ | refine Nx.sb (fun bx => ?_) | refine Nx.sa (fun A2 c2 => ?_))
      | ((with_reducible refine Nx.is_at ?_); first | refine Nx.a ?_ | ((fail_if_success refine Nx.at_do rfl rfl rfl rfl ?_); first | refine Nx.at_dec_t rfl rfl rfl rfl (by first | assumption | omega) ?_ | refine Nx.at_dec_f rfl rfl rfl rfl (by first | assumption | omega) ?_ | refine Nx.at_split rfl rfl rfl rfl (fun hc => ?_) (fun hc => ?_) | refine Nx.at_splitb rfl rfl rfl rfl (fun hc => ?_) (fun hc => ?_)))
      | ((with_reducible refine Nx.is_mix ?_); first | refine Nx.m ?_ | ((fail_if_success refine Nx.m_quiet_do rfl rfl rfl rfl rfl rfl rfl ?_ ?_); (fail_if_success refine Nx.m_loud_do rfl rfl rfl rfl rfl ?_); first | refine Nx.m_dec_t rfl rfl rfl rfl (by first | assumption | omega) ?_ | refine Nx.m_dec_f rfl rfl rfl rfl (by first | assumption | omega) ?_ | refine Nx.m_split rfl rfl rfl rfl (fun hc => ?_) (fun hc => ?_) | refine Nx.m_splitb rfl rfl rfl rfl (fun hc => ?_) (fun hc => ?_)))
      | ((fail_if_success (with_reducible refine Nx.is_at ?_)); (fail_if_success (with_reducible refine Nx.is_wp ?_)); (fail_if_success (with_reducible refine Nx.is_mix ?_)); first | refine Nx.ex ?_)
    revert bx; intro b10
    refine Nx.p_loop (σ := Nat × Option Addr × Nat × List Row) (fun s => [(3, .pointer (some ⟨bv, 0, none⟩)), (7, .map (some bm)), (8, .slice As ms.length cs), (9, .int .i64 ((n + 1 : Nat) : Int)), (10, .pointer (some ⟨b10, 0, none⟩)), (33, .slice B v.length cv), (34, .int .i64 v.length), (35, .int .i64 (s.1 : Int))])
      (fun s => [Blk b10 31 [.slice s.2.1 s.2.2.2.length s.2.2.1], Vec 25 1 s.2.1 s.2.2.2.length s.2.2.1 (s.2.2.2.map rowV), Stars (s.2.2.2.map rowR), MapR strV Value.bool bm sl, Vec 31 1 As ms.length cs (ms.map vrowV), Stars (ms.map vrowR), Blk bv 31 [.slice B v.length cv], F])
      (fun s => s.1 ≤ v.length ∧ lsts s.2.2.2 = (margV (lsts v) (n + 1)).take s.1) (fun s => v.length - s.1) (0, none, 0, []) rfl ⟨Nat.zero_le _, rfl⟩ ⟨rfl, rfl, rfl, rfl, rfl, rfl, rfl, rfl, trivial⟩ (((Ent.vec_nil _ _ _).trans (Ent.stars_nil _)).trans (by (first | done | (repeat first | exact Ent.refl _ | exact Ent.nil _ | refine Ent.pick 0 rfl ?_ | refine Ent.pick 1 rfl ?_ | refine Ent.pick 2 rfl ?_ | refine Ent.pick 3 rfl ?_ | refine Ent.pick 4 rfl ?_ | refine Ent.pick 5 rfl ?_ | refine Ent.pick 6 rfl ?_ | refine Ent.pick 7 rfl ?_ | refine Ent.pick 8 rfl ?_ | refine Ent.pick 9 rfl ?_ | refine Ent.pick 10 rfl ?_ | refine Ent.pick 11 rfl ?_ | refine Ent.pick 12 rfl ?_ | refine Ent.pick 13 rfl ?_ | refine Ent.pick 14 rfl ?_)))) ?_
    rintro ⟨i, Am, cm, mr⟩ ⟨hi, hmr⟩
    dsimp only at hi hmr ⊢
    have hmrl : mr.length = i := by
      have := congrArg List.length hmr
      rw [lsts_len, List.length_take, margV_len, lsts_len] at this
      omega
    by_cases hil : i < v.length
    · have hin := hv.at hil
      have hrl := (hrow _ (row_mem hil)).1
      obtain ⟨q, hq⟩ : ∃ q, q = (n + 1) / 2 ^ i := ⟨_, rfl⟩
      have hq16 : q < 16 := by rw [hq]; exact Nat.lt_of_le_of_lt (Nat.div_le_self _ _) (by omega)
      have htk := margV_take (set := n + 1) (L := lsts v) (i := i) (by rw [lsts_len]; exact hil)
      rw [lsts_at v hil] at htk
      unfold margL at htk
      rw [← hq] at htk
      repeat' first
        | ((with_reducible refine Nx.is_wp ?_); first | refine Nx.wo ?_ | refine Nx.p_dec rfl rfl (fun hc => ?_) (fun hc => ?_) | refine Nx.p_bool rfl rfl (fun hc => ?_) (fun hc => ?_))
        | ((first | refine Nx.at_op rfl rfl ?_ | refine Nx.m_loud rfl rfl rfl ?_ | refine Nx.at_do rfl rfl rfl rfl ?_ | refine Nx.m_loud_do rfl rfl rfl rfl rfl ?_); first | refine Nx.opr rfl rfl ?_ | refine Nx.indexAddr_nat rfl rfl rfl rfl rfl (by omega) (hv.outer.isSome (by omega)) ?_ | refine Nx.load rfl rfl rfl (hv.outer.rd (by omega)) ?_ | refine Nx.bin rfl rfl (run_shrN (by omega) hq) rfl ?_ | refine Nx.bin rfl rfl (run_and1 hq16) rfl ?_ | refine Nx.so ?_ | refine Nx.sb (fun bx => ?_) | refine Nx.sa (fun A2 c2 => ?_))
        | ((with_reducible refine Nx.is_at ?_); first | refine Nx.a ?_ | ((fail_if_success refine Nx.at_do rfl rfl rfl rfl ?_); first | refine Nx.at_dec_t rfl rfl rfl rfl (by first | assumption | omega) ?_ | refine Nx.at_dec_f rfl rfl rfl rfl (by first | assumption | omega) ?_ | refine Nx.at_split rfl rfl rfl rfl (fun hc => ?_) (fun hc => ?_) | refine Nx.at_splitb rfl rfl rfl rfl (fun hc => ?_) (fun hc => ?_)))
        | ((with_reducible refine Nx.is_mix ?_); first | refine Nx.m ?_ | ((fail_if_success refine Nx.m_quiet_do rfl rfl rfl rfl rfl rfl rfl ?_ ?_); (fail_if_success refine Nx.m_loud_do rfl rfl rfl rfl rfl ?_); first | refine Nx.m_dec_t rfl rfl rfl rfl (by first | assumption | omega) ?_ | refine Nx.m_dec_f rfl rfl rfl rfl (by first | assumption | omega) ?_ | refine Nx.m_split rfl rfl rfl rfl (fun hc => ?_) (fun hc => ?_) | refine Nx.m_splitb rfl rfl rfl rfl (fun hc => ?_) (fun hc => ?_)))
        | ((fail_if_success (with_reducible refine Nx.is_at ?_)); (fail_if_success (with_reducible refine Nx.is_wp ?_)); (fail_if_success (with_reducible refine Nx.is_mix ?_)); first | refine Nx.ex ?_)
      · rw [if_pos (by omega)] at htk
        repeat' first
          | ((with_reducible refine Nx.is_wp ?_); first | refine Nx.wo ?_ | refine Nx.p_drawF (id := 14) rfl [0, 1, 2, 3, 4] [3, 4] [5, 6, 7] _ rfl rfl (by kernel_rfl) (by kernel_rfl) rfl (by repeat first | exact PanicOk.fn | refine PanicOk.then_ ?_ | refine PanicOk.inB ?_) (Ent.refl _) ?_ | refine Nx.p_drawF (id := 15) rfl [0, 1, 2, 3, 4] [3, 4] [5, 6, 7] _ rfl rfl (by kernel_rfl) (by kernel_rfl) rfl (by repeat first | exact PanicOk.fn | refine PanicOk.then_ ?_ | refine PanicOk.inB ?_) (Ent.refl _) ?_ | refine Nx.p_dec rfl rfl (fun hc => ?_) (fun hc => ?_) | refine Nx.p_bool rfl rfl (fun hc => ?_) (fun hc => ?_))
          | ((first | refine Nx.at_op rfl rfl ?_ | refine Nx.m_loud rfl rfl rfl ?_ | refine Nx.at_do rfl rfl rfl rfl ?_ | refine Nx.m_loud_do rfl rfl rfl rfl rfl ?_); first | refine Nx.opr rfl rfl ?_ | (refine Nx.call (Rpre := []) rfl rfl rfl (by kernel_rfl) rfl (one_spec _ _ _ _ hin (by omega)) (Ent.refl _) ?_; rintro _ _ ⟨A', c', rfl, rfl⟩) | refine Nx.so ?_ | refine Nx.sb (fun bx => ?_) | refine Nx.sa (fun A2 c2 => ?_))
          | ((with_reducible refine Nx.is_at ?_); first | refine Nx.a ?_ | ((fail_if_success refine Nx.at_do rfl rfl rfl rfl ?_); first | refine Nx.at_dec_t rfl rfl rfl rfl (by first | assumption | omega) ?_ | refine Nx.at_dec_f rfl rfl rfl rfl (by first | assumption | omega) ?_ | refine Nx.at_split rfl rfl rfl rfl (fun hc => ?_) (fun hc => ?_) | refine Nx.at_splitb rfl rfl rfl rfl (fun hc => ?_) (fun hc => ?_)))
          | ((with_reducible refine Nx.is_mix ?_); first | refine Nx.m_quiet rfl rfl rfl rfl rfl (by first | exact QRun.opr rfl | exact QRun.load rfl rfl (Rd.at_ 0 rfl rfl)) ?_ | refine Nx.m_quiet_do rfl rfl rfl rfl rfl rfl rfl (by first | exact QRun.opr rfl | exact QRun.load rfl rfl (Rd.at_ 0 rfl rfl)) ?_ | refine Nx.m ?_ | ((fail_if_success refine Nx.m_quiet_do rfl rfl rfl rfl rfl rfl rfl ?_ ?_); (fail_if_success refine Nx.m_loud_do rfl rfl rfl rfl rfl ?_); first | refine Nx.m_dec_t rfl rfl rfl rfl (by first | assumption | omega) ?_ | refine Nx.m_dec_f rfl rfl rfl rfl (by first | assumption | omega) ?_ | refine Nx.m_split rfl rfl rfl rfl (fun hc => ?_) (fun hc => ?_) | refine Nx.m_splitb rfl rfl rfl rfl (fun hc => ?_) (fun hc => ?_)))
          | ((fail_if_success (with_reducible refine Nx.is_at ?_)); (fail_if_success (with_reducible refine Nx.is_wp ?_)); (fail_if_success (with_reducible refine Nx.is_mix ?_)); first | refine Nx.ex ?_)
        refine Nx.again (i + 1, A2, c2, mr ++ [(A', c', oneL (v.getD i default).2.2)]) ⟨hil, by dsimp only; rw [snoc_lsts, hmr, htk]⟩ (by dsimp only; omega) ⟨rfl, rfl, rfl, rfl, rfl, rfl, rfl, rfl, trivial⟩ ?_
        dsimp only
        refine Ent.trans (R' := [rowR (A', c', oneL (v.getD i default).2.2), Stars (mr.map rowR), Blk b10 31 [.slice A2 (mr.length + 1) c2], Vec 25 1 A2 (mr.length + 1) c2 (mr.map rowV ++ [rowV (A', c', oneL (v.getD i default).2.2)]), MapR strV Value.bool bm sl, Vec 31 1 As ms.length cs (ms.map vrowV), Stars (ms.map vrowR), Blk bv 31 [.slice B v.length cv], F]) (by unfold rowR rowV; (first | done | (repeat first | exact Ent.refl _ | exact Ent.nil _ | refine Ent.pick 0 rfl ?_ | refine Ent.pick 1 rfl ?_ | refine Ent.pick 2 rfl ?_ | refine Ent.pick 3 rfl ?_ | refine Ent.pick 4 rfl ?_ | refine Ent.pick 5 rfl ?_ | refine Ent.pick 6 rfl ?_ | refine Ent.pick 7 rfl ?_ | refine Ent.pick 8 rfl ?_ | refine Ent.pick 9 rfl ?_ | refine Ent.pick 10 rfl ?_ | refine Ent.pick 11 rfl ?_ | refine Ent.pick 12 rfl ?_ | refine Ent.pick 13 rfl ?_ | refine Ent.pick 14 rfl ?_))) (Ent.bundle.trans ?_)
        rw [List.length_append, List.map_append, List.map_append]
        exact (by (first | done | (repeat first | exact Ent.refl _ | exact Ent.nil _ | refine Ent.pick 0 rfl ?_ | refine Ent.pick 1 rfl ?_ | refine Ent.pick 2 rfl ?_ | refine Ent.pick 3 rfl ?_ | refine Ent.pick 4 rfl ?_ | refine Ent.pick 5 rfl ?_ | refine Ent.pick 6 rfl ?_ | refine Ent.pick 7 rfl ?_ | refine Ent.pick 8 rfl ?_ | refine Ent.pick 9 rfl ?_ | refine Ent.pick 10 rfl ?_ | refine Ent.pick 11 rfl ?_ | refine Ent.pick 12 rfl ?_ | refine Ent.pick 13 rfl ?_ | refine Ent.pick 14 rfl ?_)))
      · rw [if_neg (by omega)] at htk
        repeat' first
          | ((with_reducible refine Nx.is_wp ?_); first | refine Nx.wo ?_ | refine Nx.p_drawF (id := 14) rfl [0, 1, 2, 3, 4] [3, 4] [5, 6, 7] _ rfl rfl (by kernel_rfl) (by kernel_rfl) rfl (by repeat first | exact PanicOk.fn | refine PanicOk.then_ ?_ | refine PanicOk.inB ?_) (Ent.refl _) ?_ | refine Nx.p_drawF (id := 15) rfl [0, 1, 2, 3, 4] [3, 4] [5, 6, 7] _ rfl rfl (by kernel_rfl) (by kernel_rfl) rfl (by repeat first | exact PanicOk.fn | refine PanicOk.then_ ?_ | refine PanicOk.inB ?_) (Ent.refl _) ?_ | refine Nx.p_dec rfl rfl (fun hc => ?_) (fun hc => ?_) | refine Nx.p_bool rfl rfl (fun hc => ?_) (fun hc => ?_))
          | ((first | refine Nx.at_op rfl rfl ?_ | refine Nx.m_loud rfl rfl rfl ?_ | refine Nx.at_do rfl rfl rfl rfl ?_ | refine Nx.m_loud_do rfl rfl rfl rfl rfl ?_); first | refine Nx.opr rfl rfl ?_ | (refine Nx.call (Rpre := []) rfl rfl rfl (by kernel_rfl) rfl (Clone_spec _ _ _ _ hin (by omega)) (Ent.refl _) ?_; rintro _ _ ⟨A', c', rfl, rfl⟩) | refine Nx.so ?_ | refine Nx.sb (fun bx => ?_) | refine Nx.sa (fun A2 c2 => ?_))
          | ((with_reducible refine Nx.is_at ?_); first | refine Nx.a ?_ | ((fail_if_success refine Nx.at_do rfl rfl rfl rfl ?_); first | refine Nx.at_dec_t rfl rfl rfl rfl (by first | assumption | omega) ?_ | refine Nx.at_dec_f rfl rfl rfl rfl (by first | assumption | omega) ?_ | refine Nx.at_split rfl rfl rfl rfl (fun hc => ?_) (fun hc => ?_) | refine Nx.at_splitb rfl rfl rfl rfl (fun hc => ?_) (fun hc => ?_)))
          | ((with_reducible refine Nx.is_mix ?_); first | refine Nx.m_quiet rfl rfl rfl rfl rfl (by first | exact QRun.opr rfl | exact QRun.load rfl rfl (Rd.at_ 0 rfl rfl)) ?_ | refine Nx.m_quiet_do rfl rfl rfl rfl rfl rfl rfl (by first | exact QRun.opr rfl | exact QRun.load rfl rfl (Rd.at_ 0 rfl rfl)) ?_ | refine Nx.m ?_ | ((fail_if_success refine Nx.m_quiet_do rfl rfl rfl rfl rfl rfl rfl ?_ ?_); (fail_if_success refine Nx.m_loud_do rfl rfl rfl rfl rfl ?_); first | refine Nx.m_dec_t rfl rfl rfl rfl (by first | assumption | omega) ?_ | refine Nx.m_dec_f rfl rfl rfl rfl (by first | assumption | omega) ?_ | refine Nx.m_split rfl rfl rfl rfl (fun hc => ?_) (fun hc => ?_) | refine Nx.m_splitb rfl rfl rfl rfl (fun hc => ?_) (fun hc => ?_)))
          | ((fail_if_success (with_reducible refine Nx.is_at ?_)); (fail_if_success (with_reducible refine Nx.is_wp ?_)); (fail_if_success (with_reducible refine Nx.is_mix ?_)); first | refine Nx.ex ?_)
        refine Nx.again (i + 1, A2, c2, mr ++ [(A', c', (v.getD i default).2.2)]) ⟨hil, by dsimp only; rw [snoc_lsts, hmr, htk]⟩ (by dsimp only; omega) ⟨rfl, rfl, rfl, rfl, rfl, rfl, rfl, rfl, trivial⟩ ?_
        dsimp only
        refine Ent.trans (R' := [rowR (A', c', (v.getD i default).2.2), Stars (mr.map rowR), Blk b10 31 [.slice A2 (mr.length + 1) c2], Vec 25 1 A2 (mr.length + 1) c2 (mr.map rowV ++ [rowV (A', c', (v.getD i default).2.2)]), MapR strV Value.bool bm sl, Vec 31 1 As ms.length cs (ms.map vrowV), Stars (ms.map vrowR), Blk bv 31 [.slice B v.length cv], F]) (by unfold rowR rowV; (first | done | (repeat first | exact Ent.refl _ | exact Ent.nil _ | refine Ent.pick 0 rfl ?_ | refine Ent.pick 1 rfl ?_ | refine Ent.pick 2 rfl ?_ | refine Ent.pick 3 rfl ?_ | refine Ent.pick 4 rfl ?_ | refine Ent.pick 5 rfl ?_ | refine Ent.pick 6 rfl ?_ | refine Ent.pick 7 rfl ?_ | refine Ent.pick 8 rfl ?_ | refine Ent.pick 9 rfl ?_ | refine Ent.pick 10 rfl ?_ | refine Ent.pick 11 rfl ?_ | refine Ent.pick 12 rfl ?_ | refine Ent.pick 13 rfl ?_ | refine Ent.pick 14 rfl ?_))) (Ent.bundle.trans ?_)
        rw [List.length_append, List.map_append, List.map_append]
        exact (by (first | done | (repeat first | exact Ent.refl _ | exact Ent.nil _ | refine Ent.pick 0 rfl ?_ | refine Ent.pick 1 rfl ?_ | refine Ent.pick 2 rfl ?_ | refine Ent.pick 3 rfl ?_ | refine Ent.pick 4 rfl ?_ | refine Ent.pick 5 rfl ?_ | refine Ent.pick 6 rfl ?_ | refine Ent.pick 7 rfl ?_ | refine Ent.pick 8 rfl ?_ | refine Ent.pick 9 rfl ?_ | refine Ent.pick 10 rfl ?_ | refine Ent.pick 11 rfl ?_ | refine Ent.pick 12 rfl ?_ | refine Ent.pick 13 rfl ?_ | refine Ent.pick 14 rfl ?_)))
    · obtain rfl : i = v.length := by omega
      have hmr : lsts mr = margV (lsts v) (n + 1) := by rw [hmr, List.take_of_length_le (by rw [margV_len, lsts_len]; exact Nat.le_refl _)]
      have hmsml : ∀ x ∈ lsts mr, Small x := by rw [hmr]; exact margV_small hsm _
      have hmrow : ∀ r ∈ mr, r.2.2.length ≤ 1000 ∧ ∀ z ∈ r.2.2, -9 ≤ z ∧ z ≤ 9 := fun r hr => by
        refine ⟨?_, hmsml _ (List.mem_map.2 ⟨r, hr, rfl⟩)⟩
        obtain ⟨k, hk, he⟩ := List.mem_iff_getElem.1 hr
        have h1 : (lsts mr).getD k [] = r.2.2 := by rw [lsts_at mr hk, List.getD_eq_getElem?_getD, List.getElem?_eq_getElem hk, he]; rfl
        have hkv : k < v.length := by omega
        rw [hmr, margV_at _ _ (by rw [lsts_len]; exact hkv), lsts_at v hkv] at h1
        have h2 := (hrow _ (row_mem hkv)).1
        rw [← h1]
        unfold margL
        split
        · rw [oneL_len]; exact h2
        · exact h2
      refine Nx.ent (R' := [ViewR Am cm mr, Blk b10 31 [.slice Am mr.length cm], MapR strV Value.bool bm sl, Vec 31 1 As ms.length cs (ms.map vrowV), Stars (ms.map vrowR), Blk bv 31 [.slice B v.length cv], F]) ((Ent.trans (R' := [Vec 25 1 Am mr.length cm (mr.map rowV), Stars (mr.map rowR), Blk b10 31 [.slice Am mr.length cm], MapR strV Value.bool bm sl, Vec 31 1 As ms.length cs (ms.map vrowV), Stars (ms.map vrowR), Blk bv 31 [.slice B v.length cv], F]) (by (first | done | (repeat first | exact Ent.refl _ | exact Ent.nil _ | refine Ent.pick 0 rfl ?_ | refine Ent.pick 1 rfl ?_ | refine Ent.pick 2 rfl ?_ | refine Ent.pick 3 rfl ?_ | refine Ent.pick 4 rfl ?_ | refine Ent.pick 5 rfl ?_ | refine Ent.pick 6 rfl ?_ | refine Ent.pick 7 rfl ?_ | refine Ent.pick 8 rfl ?_ | refine Ent.pick 9 rfl ?_ | refine Ent.pick 10 rfl ?_ | refine Ent.pick 11 rfl ?_ | refine Ent.pick 12 rfl ?_ | refine Ent.pick 13 rfl ?_ | refine Ent.pick 14 rfl ?_))) Ent.pack2)) ?_
      have htx : viewT mr = textL (margV (lsts v) (n + 1)) := by rw [viewT_lsts, hmr]
      repeat' first
        | ((with_reducible refine Nx.is_wp ?_); first | refine Nx.wo ?_ | refine Nx.p_dec rfl rfl (fun hc => ?_) (fun hc => ?_) | refine Nx.p_bool rfl rfl (fun hc => ?_) (fun hc => ?_))
        | ((first | refine Nx.at_op rfl rfl ?_ | refine Nx.m_loud rfl rfl rfl ?_ | refine Nx.at_do rfl rfl rfl rfl ?_ | refine Nx.m_loud_do rfl rfl rfl rfl rfl ?_); first | refine Nx.opr rfl rfl ?_ | (refine Nx.call_lendR 0 rfl rfl rfl (by kernel_rfl) rfl rfl (fun m I' hI hm h => text_spec Am cm mr I' (ViewR.rows hm h) (by omega) hmrow) ?_; rintro _ R' ⟨rfl, rfl⟩) | refine Nx.mapGet 2 strV Value.bool (z := false) (ok := false) rfl rfl KE rfl rfl rfl rfl rfl ?_ | refine Nx.so ?_ | refine Nx.sb (fun bx => ?_) | refine Nx.sa (fun A2 c2 => ?_))
        | ((with_reducible refine Nx.is_at ?_); first | refine Nx.a ?_ | ((fail_if_success refine Nx.at_do rfl rfl rfl rfl ?_); first | refine Nx.at_dec_t rfl rfl rfl rfl (by first | assumption | omega) ?_ | refine Nx.at_dec_f rfl rfl rfl rfl (by first | assumption | omega) ?_ | refine Nx.at_split rfl rfl rfl rfl (fun hc => ?_) (fun hc => ?_) | refine Nx.at_splitb rfl rfl rfl rfl (fun hc => ?_) (fun hc => ?_)))
        | ((with_reducible refine Nx.is_mix ?_); first | refine Nx.m ?_ | ((fail_if_success refine Nx.m_quiet_do rfl rfl rfl rfl rfl rfl rfl ?_ ?_); (fail_if_success refine Nx.m_loud_do rfl rfl rfl rfl rfl ?_); first | refine Nx.m_dec_t rfl rfl rfl rfl (by first | assumption | omega) ?_ | refine Nx.m_dec_f rfl rfl rfl rfl (by first | assumption | omega) ?_ | refine Nx.m_split rfl rfl rfl rfl (fun hc => ?_) (fun hc => ?_) | refine Nx.m_splitb rfl rfl rfl rfl (fun hc => ?_) (fun hc => ?_)))
        | ((fail_if_success (with_reducible refine Nx.is_at ?_)); (fail_if_success (with_reducible refine Nx.is_wp ?_)); (fail_if_success (with_reducible refine Nx.is_mix ?_)); first | refine Nx.ex ?_)
      · have hno : (mget sl (textL (margV (lsts v) (n + 1)))).getD false = false := by rw [← htx]; simpa using hc
        obtain ⟨hme, hsl'⟩ := hsl.new hsm hno
        rw [← htx] at hsl'
        refine Nx.at_op rfl rfl ?_
        refine Nx.mapSet 2 strV Value.bool (k := viewT mr) (v := true) (.inr rfl) rfl rfl rfl KE rfl rfl ?_
        repeat' first
          | ((with_reducible refine Nx.is_wp ?_); first | refine Nx.wo ?_ | refine Nx.p_dec rfl rfl (fun hc => ?_) (fun hc => ?_) | refine Nx.p_bool rfl rfl (fun hc => ?_) (fun hc => ?_))
          | ((first | refine Nx.at_op rfl rfl ?_ | refine Nx.m_loud rfl rfl rfl ?_ | refine Nx.at_do rfl rfl rfl rfl ?_ | refine Nx.m_loud_do rfl rfl rfl rfl rfl ?_); first | refine Nx.opr rfl rfl ?_ | refine Nx.so ?_ | refine Nx.sb (fun bx => ?_) | refine Nx.sa (fun A2 c2 => ?_))
          | ((with_reducible refine Nx.is_at ?_); first | refine Nx.a ?_ | ((fail_if_success refine Nx.at_do rfl rfl rfl rfl ?_); first | refine Nx.at_dec_t rfl rfl rfl rfl (by first | assumption | omega) ?_ | refine Nx.at_dec_f rfl rfl rfl rfl (by first | assumption | omega) ?_ | refine Nx.at_split rfl rfl rfl rfl (fun hc => ?_) (fun hc => ?_) | refine Nx.at_splitb rfl rfl rfl rfl (fun hc => ?_) (fun hc => ?_)))
          | ((with_reducible refine Nx.is_mix ?_); first | refine Nx.m ?_ | ((fail_if_success refine Nx.m_quiet_do rfl rfl rfl rfl rfl rfl rfl ?_ ?_); (fail_if_success refine Nx.m_loud_do rfl rfl rfl rfl rfl ?_); first | refine Nx.m_dec_t rfl rfl rfl rfl (by first | assumption | omega) ?_ | refine Nx.m_dec_f rfl rfl rfl rfl (by first | assumption | omega) ?_ | refine Nx.m_split rfl rfl rfl rfl (fun hc => ?_) (fun hc => ?_) | refine Nx.m_splitb rfl rfl rfl rfl (fun hc => ?_) (fun hc => ?_)))
          | ((fail_if_success (with_reducible refine Nx.is_at ?_)); (fail_if_success (with_reducible refine Nx.is_wp ?_)); (fail_if_success (with_reducible refine Nx.is_mix ?_)); first | refine Nx.ex ?_)
        refine Nx.again (n + 1, A2, c2, ms ++ [(Am, cm, mr)], mset sl (viewT mr) true) ⟨hlt, by dsimp only; rw [List.map_append, hms, hme, ← hmr]; rfl, hsl'⟩ (by dsimp only; omega) ⟨rfl, rfl, by dsimp only; rw [List.length_append]; rfl, rfl, trivial⟩ ?_
        dsimp only
        refine Ent.trans (R' := [ViewR Am cm mr, Stars (ms.map vrowR), MapR strV Value.bool bm (mset sl (viewT mr) true), Vec 31 1 A2 (ms.length + 1) c2 (ms.map vrowV ++ [.slice Am mr.length cm]), Blk bv 31 [.slice B v.length cv], F]) (by (first | done | (repeat first | exact Ent.refl _ | exact Ent.nil _ | refine Ent.pick 0 rfl ?_ | refine Ent.pick 1 rfl ?_ | refine Ent.pick 2 rfl ?_ | refine Ent.pick 3 rfl ?_ | refine Ent.pick 4 rfl ?_ | refine Ent.pick 5 rfl ?_ | refine Ent.pick 6 rfl ?_ | refine Ent.pick 7 rfl ?_ | refine Ent.pick 8 rfl ?_ | refine Ent.pick 9 rfl ?_ | refine Ent.pick 10 rfl ?_ | refine Ent.pick 11 rfl ?_ | refine Ent.pick 12 rfl ?_ | refine Ent.pick 13 rfl ?_ | refine Ent.pick 14 rfl ?_))) (Ent.bundle.trans ?_)
        rw [List.length_append, List.map_append, List.map_append]
        exact (by (first | done | (repeat first | exact Ent.refl _ | exact Ent.nil _ | refine Ent.pick 0 rfl ?_ | refine Ent.pick 1 rfl ?_ | refine Ent.pick 2 rfl ?_ | refine Ent.pick 3 rfl ?_ | refine Ent.pick 4 rfl ?_ | refine Ent.pick 5 rfl ?_ | refine Ent.pick 6 rfl ?_ | refine Ent.pick 7 rfl ?_ | refine Ent.pick 8 rfl ?_ | refine Ent.pick 9 rfl ?_ | refine Ent.pick 10 rfl ?_ | refine Ent.pick 11 rfl ?_ | refine Ent.pick 12 rfl ?_ | refine Ent.pick 13 rfl ?_ | refine Ent.pick 14 rfl ?_)))
      · have hno : (mget sl (textL (margV (lsts v) (n + 1)))).getD false = true := by rw [← htx]; simpa using hc
        obtain ⟨hme, hsl'⟩ := hsl.old hsm hno
        refine Nx.again (n + 1, As, cs, ms, sl) ⟨hlt, by dsimp only; rw [hms, hme], hsl'⟩ (by dsimp only; omega) ⟨rfl, rfl, rfl, rfl, trivial⟩ (by (first | done | (repeat first | exact Ent.refl _ | exact Ent.nil _ | refine Ent.pick 0 rfl ?_ | refine Ent.pick 1 rfl ?_ | refine Ent.pick 2 rfl ?_ | refine Ent.pick 3 rfl ?_ | refine Ent.pick 4 rfl ?_ | refine Ent.pick 5 rfl ?_ | refine Ent.pick 6 rfl ?_ | refine Ent.pick 7 rfl ?_ | refine Ent.pick 8 rfl ?_ | refine Ent.pick 9 rfl ?_ | refine Ent.pick 10 rfl ?_ | refine Ent.pick 11 rfl ?_ | refine Ent.pick 12 rfl ?_ | refine Ent.pick 13 rfl ?_ | refine Ent.pick 14 rfl ?_)))
  · obtain rfl : P = n + 1 := by omega
    repeat' first
      | ((with_reducible refine Nx.is_wp ?_); first | refine Nx.wo ?_ | refine Nx.p_dec rfl rfl (fun hc => ?_) (fun hc => ?_) | refine Nx.p_bool rfl rfl (fun hc => ?_) (fun hc => ?_))
      | ((first | refine Nx.at_op rfl rfl ?_ | refine Nx.m_loud rfl rfl rfl ?_ | refine Nx.at_do rfl rfl rfl rfl ?_ | refine Nx.m_loud_do rfl rfl rfl rfl rfl ?_); first | refine Nx.opr rfl rfl ?_ | refine Nx.bin rfl rfl (run_shlP (by omega) hPe) rfl ?_ | refine Nx.so ?_ | refine Nx.sb (fun bx => ?_) | refine Nx.sa (fun A2 c2 => ?_))
      | ((with_reducible refine Nx.is_at ?_); first | refine Nx.a ?_ | ((fail_if_success refine Nx.at_do rfl rfl rfl rfl ?_); first | refine Nx.at_dec_t rfl rfl rfl rfl (by first | assumption | omega) ?_ | refine Nx.at_dec_f rfl rfl rfl rfl (by first | assumption | omega) ?_ | refine Nx.at_split rfl rfl rfl rfl (fun hc => ?_) (fun hc => ?_) | refine Nx.at_splitb rfl rfl rfl rfl (fun hc => ?_) (fun hc => ?_)))
      | ((with_reducible refine Nx.is_mix ?_); first | refine Nx.m ?_ | ((fail_if_success refine Nx.m_quiet_do rfl rfl rfl rfl rfl rfl rfl ?_ ?_); (fail_if_success refine Nx.m_loud_do rfl rfl rfl rfl rfl ?_); first | refine Nx.m_dec_t rfl rfl rfl rfl (by first | assumption | omega) ?_ | refine Nx.m_dec_f rfl rfl rfl rfl (by first | assumption | omega) ?_ | refine Nx.m_split rfl rfl rfl rfl (fun hc => ?_) (fun hc => ?_) | refine Nx.m_splitb rfl rfl rfl rfl (fun hc => ?_) (fun hc => ?_)))
      | ((fail_if_success (with_reducible refine Nx.is_at ?_)); (fail_if_success (with_reducible refine Nx.is_wp ?_)); (fail_if_success (with_reducible refine Nx.is_mix ?_)); first | refine Nx.ex ?_)
    exact Nx.ret_fn rfl [_, _] ⟨As, cs, ms, rfl, by rw [← hvl, ← hPe]; exact hms, rfl⟩ (by (first | done | (repeat first | exact Ent.refl _ | exact Ent.nil _ | refine Ent.pick 0 rfl ?_ | refine Ent.pick 1 rfl ?_ | refine Ent.pick 2 rfl ?_ | refine Ent.pick 3 rfl ?_ | refine Ent.pick 4 rfl ?_ | refine Ent.pick 5 rfl ?_ | refine Ent.pick 6 rfl ?_ | refine Ent.pick 7 rfl ?_ | refine Ent.pick 8 rfl ?_ | refine Ent.pick 9 rfl ?_ | refine Ent.pick 10 rfl ?_ | refine Ent.pick 11 rfl ?_ | refine Ent.pick 12 rfl ?_ | refine Ent.pick 13 rfl ?_ | refine Ent.pick 14 rfl ?_)))
end Go.Proofs.YtpmlehplbobjmaaDoor
